/- Short forms of the steps that the printed walks take over and over: each is a lemma whose last premises are shown by a fixed tactic. -/
import Derived.Test.YtagcobdpojeiiaaWWords
import Derived.Test.YtagcobdpojeiiaaWLast
import Derived.Test.YtagcobdpojeiiaaWTab
import Derived.Test.YtagcobdpojeiiaaWFour
import Derived.Test.YtagcobdpojeiiaaWMore
import Derived.Test.YtagcobdpojeiiaaWInv
import Derived.Test.YtagcobdpojeiiaaWInvWords
import Derived.Test.YtagcobdpojeiiaaWApart
import Derived.KernelRfl
set_option linter.unusedVariables false
namespace Go.Proofs.YtagcobdpojeiiaaW.Sq
open Go.RowKit Go.Proofs.YtagcobdpojeiiaaW.PrintWords Go.Proofs.YtagcobdpojeiiaaW.PrintLast Go.Proofs.YtagcobdpojeiiaaW.PrintMore

section
variable {W W1 : World} {g : Nat} {o : Obj} {α : Type} {d : Kd α} {e base n : Nat} {ok : Nat → Prop} {v : Value} {xs : List α} {A : Option Addr}
/-- A block, behind what was laid and drawn. -/
theorem pk (h : W.heap[g]? = some o) (e_ : W.heap[g]? = some o → W1.heap[g]? = some o := by (intro h_; (with_reducible repeat (first | refine blk_drewN ?_ _ | refine blk_drew ?_ | refine blk_alloc ?_ _)); exact h_)) : W1.heap[g]? = some o := e_ h
theorem pr (h : Kd.R d e W base ok v xs) (e_ : Kd.R d e W base ok v xs → Kd.R d e W1 base ok v xs := by (intro h_; (with_reducible repeat (first | apply Kd.R_alloc | apply Kd.R_drewN | apply Kd.R_drew)); exact h_)) : Kd.R d e W1 base ok v xs := e_ h
theorem pv (h : Kd.V d e W base ok v xs) (e_ : Kd.V d e W base ok v xs → Kd.V d e W1 base ok v xs := by (intro h_; (with_reducible repeat (first | apply Kd.V_alloc | apply Kd.V_drewN | apply Kd.V_drew)); exact h_)) : Kd.V d e W1 base ok v xs := e_ h
theorem pc (h : Kd.C d W A n xs) (e_ : Kd.C d W A n xs → Kd.C d W1 A n xs := by (intro h_; repeat (first | (with_reducible exact h_) | (with_reducible refine Kd.C_alloc ?_ _) | (with_reducible refine Kd.C_drewN ?_ _) | (with_reducible refine Kd.C_drew ?_) | exact h_))) : Kd.C d W1 A n xs := e_ h
/-- Nothing that was there has turned. -/
theorem pb {B : Nat} {w : World} (h : Aside0 (Below B w W)) (e_ : Below B w W → Below B w W1 := by (intro h_; repeat (first | (with_reducible first | exact h_ | apply below_alloc | apply pw_below_drewN | apply below_drew1) | (with_reducible refine below_set ?_ (Aside0.out (by assumption))) | exact h_))) : Below B w W1 := e_ h.out
theorem pg {w : World} (hg : g = W1.heap.size) (h : Aside0 (Below w.heap.size w W)) (e_ : Below w.heap.size w W → Below w.heap.size w W1 := by (intro h_; repeat (first | (with_reducible first | exact h_ | apply below_alloc | apply pw_below_drewN | apply below_drew1) | (with_reducible refine below_set ?_ (Aside0.out (by assumption))) | exact h_))) : w.heap.size ≤ g := by rw [hg]; exact below_size (e_ h.out)
/-- A new block is none of the elder ones. -/
theorem pl {g' : Nat} (hg : g' = W1.heap.size) (h : W1.heap[g]? = some o) : g ≠ g' := by rw [hg]; exact Nat.ne_of_lt (blk_lt h)
theorem pl' {g' : Nat} (hg : g' = W1.heap.size) (h : W1.heap[g]? = some o) : g' ≠ g := by rw [hg]; exact Nat.ne_of_gt (blk_lt h)
/-- A cell of a block. -/
theorem ce {t : TypeId} {cs : Array Value} {u : Value} (h : Aside0 (W.heap[g]? = some (.cells cs t (0, 0)))) (i : Nat) (hu : cs[i]? = some u := by rfl) : W.cell? ⟨g, i, none⟩ = some u := (blk_cell h.out i).trans hu
theorem fz {t : TypeId} {cs : Array Value} (h : Aside0 (W.heap[g]? = some (.cells cs t (0, 0)))) (i : Nat) : W.frozen? ⟨g, i, none⟩ = false := blk_frozen h.out i
end

section
variable {P : Program} {ops : Array Oper} {Q : Exit → Act → World → Prop} {md : Region.Mode} {S : World → Prop} {ds : List Nat} {N : Option Tmp} {oi : Oper} {v : Value} {fuel : Nat} {l l' : Array Bool} {a a' : Act} {w : World}
theorem pu (i : Nat) {n_ : Tmp} (h : wpAnyLast P md ops Q S ds fuel l' a' w) (hi : ops[i]? = some oi := by rfl) (hN : oi.dst = some n_ := by rfl)
    (hl : l.setIfInBounds i true = l' := by (simp only [List.setIfInBounds_toArray, List.set_cons_zero, List.set_cons_succ]; rfl))
    (hc : anyB md ops l l' i = true := by first | exact any_of HT_.out (by kernel_rfl) | kernel_rfl)
    (hQ : ∀ c a w, Q (.panic c) (a.put oi.dst v) w → Q (.panic c) a w := by exact fun _ _ _ h => h)
    (hy : Yields P ops oi v a := by exact Or.inl ⟨by rfl, by (intro w'; go_simp; with_reducible rfl)⟩)
    (ha : a.put (some n_) v = a' := by (simp only [Act.put, List.setIfInBounds_toArray, List.set_cons_zero, List.set_cons_succ, i64_w, i32_w]; rfl)) : wpAnyLast P md ops Q S ds (fuel + 1) l a w := pure_ l' hi hN hc hQ hy ha h
theorem po (i : Nat) {n_ : Tmp} (h : wpAnyLast P md ops Q S ds fuel l' a' w) (hi : ops[i]? = some oi := by rfl) (hN : oi.dst = some n_ := by rfl)
    (hl : l.setIfInBounds i true = l' := by (simp only [List.setIfInBounds_toArray, List.set_cons_zero, List.set_cons_succ]; rfl))
    (hc : anyB md ops l l' i = true := by first | exact any_of HT_.out (by kernel_rfl) | kernel_rfl)
    (hQ : ∀ c a w, Q (.panic c) (a.put oi.dst undef) w → Q (.panic c) a w := by exact fun _ _ _ h => h)
    (hy : Yields P ops oi undef a := by exact Or.inr ⟨by rfl, rfl⟩)
    (ha : a.put (some n_) undef = a' := by (simp only [Act.put, List.setIfInBounds_toArray, List.set_cons_zero, List.set_cons_succ, i64_w, i32_w]; rfl)) : wpAnyLast P md ops Q S ds (fuel + 1) l a w := pure_ l' hi hN hc hQ hy ha h
theorem ta (i : Nat) {n_ : Tmp} (hS : S w) (h : wpAnyLast P md ops Q S ds fuel l' a' w) (hi : ops[i]? = some oi := by rfl) (hN : oi.dst = some n_ := by rfl)
    (hl : l.setIfInBounds i true = l' := by (simp only [List.setIfInBounds_toArray, List.set_cons_zero, List.set_cons_succ]; rfl))
    (hc : takeB md ops ds l l' i = true := by first | exact take_ofW HT_.out HW_.out (by kernel_rfl) | kernel_rfl)
    (hQ : ∀ c a w, Q (.panic c) (a.put oi.dst v) w → Q (.panic c) a w := by exact fun _ _ _ h => h)
    (hy : YieldsIf P ops S oi v a := by exact Or.inl ⟨by rfl, by (intro w' hs_; (repeat (have s_ := And.left hs_; replace hs_ := And.right hs_)); go_simp; with_reducible rfl)⟩)
    (ha : a.put (some n_) v = a' := by (simp only [Act.put, List.setIfInBounds_toArray, List.set_cons_zero, List.set_cons_succ, i64_w, i32_w]; rfl)) : wpAnyLast P md ops Q S ds (fuel + 1) l a w := take_ l' hi hN hc hQ hy hS ha h
theorem on1 (i : Nat) {n_ : Tmp} (h : ∀ K : Act → World → Prop, Shut (∀ a' w', S w' → (S w' → wpAnyLast P md ops Q S ds fuel l' a' w') → K a' w') → if Region.wanted oi (yielded ops a.tmps) = true then Oper.wp P oi a w K Q else K (a.put (some n_) undef) w)
    (hi : ops[i]? = some oi := by rfl) (hN : oi.dst = some n_ := by rfl) (hl : l.setIfInBounds i true = l' := by (simp only [List.setIfInBounds_toArray, List.set_cons_zero, List.set_cons_succ]; rfl))
    (hc : readyB md ops l l' i = true := by first | exact one_of HT_.out (by kernel_rfl) | kernel_rfl) (hd : i ∉ ds := by decide) : wpAnyLast P md ops Q S ds (fuel + 1) l a w := one_ l' hi hN hc hd h
theorem gs {K : Act → World → Prop} {f : FuncId} {fn : Func} {as : Array Operand} {ts : Array TypeId} (hf : P.funcs[f]? = some fn) (args : Array Value)
    (h : Calls P f args w fun e w' => ∃ v, e = .returned v ∧ K (a.put N v) w')
    (hname : (fn.name == "runtime.NumGoroutine") = false := by kernel_rfl) (hb : fn.body.isSome = true := by rfl)
    (hw : Region.wanted oi (yielded ops a.tmps) = true := by rfl) (hN : oi.dst = N := by rfl) (hop : oi.op = .call { callee := .value (.func f), args := as, argTypes := ts } := by rfl)
    (hargs : as.map a.eval = args := by ((try simp only [List.map_toArray, List.map_cons, List.map_nil]); first | done | rfl | (simp only [List.length_drop, List.length_take]; rfl))) :
    if Region.wanted oi (yielded ops a.tmps) = true then Oper.wp P oi a w K Q else K (a.put N undef) w := goes_ hf hname hb args hw hN hop hargs h
theorem gl {rest : List Oper} (N : Option Tmp) {f : FuncId} {fn : Func} {as : Array Operand} {ts : Array TypeId} (hf : P.funcs[f]? = some fn) (args : Array Value)
    (h : Calls P f args w fun e w' => ∃ v, e = .returned v ∧ wpList P ops Q rest (a.put N v) w')
    (hd : oi.dst = N := by rfl) (hg : oi.guard = none := by rfl) (hname : (fn.name == "runtime.NumGoroutine") = false := by kernel_rfl) (hb : fn.body.isSome = true := by rfl)
    (hop : oi.op = .call { callee := .value (.func f), args := as, argTypes := ts } := by rfl)
    (hargs : as.map a.eval = args := by ((try simp only [List.map_toArray, List.map_cons, List.map_nil]); first | done | rfl | (simp only [List.length_drop, List.length_take]; rfl))) :
    wpList P ops Q (oi :: rest) a w := goesL_ N hd hg hf hname hb args hop hargs h
/-- The act, written out. -/
theorem nm {n_ : Tmp} (h : wpAnyLast P md ops Q S ds fuel l a' w) (hN : N = some n_ := by rfl) (ha : a.put (some n_) v = a' := by (simp only [Act.put, List.setIfInBounds_toArray, List.set_cons_zero, List.set_cons_succ, i64_w, i32_w]; rfl)) : wpAnyLast P md ops Q S ds fuel l (a.put N v) w := by subst hN; exact norm_ ha h
end
theorem am {p : Prop} (h : p) : Aside0 p := ⟨h⟩
section
variable {P : Program} {ops : Array Oper} {rest : List Oper} {o : Oper} {a : Act} {Q : Exit → Act → World → Prop} {Kc : Act → World → Prop} {W : World}
theorem be (N : Tmp) (cs : Array Value) (t : TypeId)
    (h : ∀ g, g = W.heap.size → ∀ w1, w1.heap[g]? = some (.cells cs t (0, 0)) → Below W.heap.size W w1 → wpList P ops Q rest (a.put o.dst (.pointer (some ⟨g, 0, none⟩))) w1)
    (hd : o.dst = some N := by rfl) (hg : o.guard = none := by rfl)
    (hr : (execOp a.eval o).run P W = .ok (.value (.pointer (some ⟨W.heap.size, 0, none⟩))) (W.alloc (.cells cs t (0, 0))) := by first | (go_simp; done) | (go_simp; rfl)) : wpList P ops Q (o :: rest) a W := box_event hg hd hr h
theorem bx (N : Tmp) (cs : Array Value) (t : TypeId)
    (h : ∀ g, g = W.heap.size → ∀ w1, w1.heap[g]? = some (.cells cs t (0, 0)) → Below W.heap.size W w1 → Kc (a.put o.dst (.pointer (some ⟨g, 0, none⟩))) w1)
    (hd : o.dst = some N := by rfl) (hg : Region.wanted o (yielded ops a.tmps) = true := by rfl)
    (hr : (execOp a.eval o).run P W = .ok (.value (.pointer (some ⟨W.heap.size, 0, none⟩))) (W.alloc (.cells cs t (0, 0))) := by first | (go_simp; done) | (go_simp; rfl)) : if Region.wanted o (yielded ops a.tmps) = true then Oper.wp P o a W Kc Q else Kc (a.put o.dst undef) W := box_step hg hd hr h
theorem nj {md : Region.Mode} {S : World → Prop} {ds : List Nat} {fuel : Nat} {l : Array Bool} {a' : Act} (h : wpAnyLast P md ops Q S ds fuel l a' W)
    (ha : a = a' := by first | (simp only [putAll, Act.put, List.setIfInBounds_toArray, List.set_cons_zero, List.set_cons_succ]; done) | (simp only [putAll, Act.put, List.setIfInBounds_toArray, List.set_cons_zero, List.set_cons_succ]; rfl)) : wpAnyLast P md ops Q S ds fuel l a W := norm_ ha h
end
theorem al {w : World} {c : Addr} {v : Value} {g k' : Nat} (hw : w.cell? c = some v) (h : Aside0 (w.heap.size ≤ g)) (e : k' = c.block := by first | rfl | (simp only [add_block]; done)) : k' ≠ g := by
  rw [e]; exact Nat.ne_of_lt (Nat.lt_of_lt_of_le (World.block_lt_of_cell? _ _ hw) h.out)
/-! What far.py and grp.py use. -/
section
variable {W W1 : World} {g t : Nat} {o : Option Obj}
theorem pm {g' : Nat} {o : Obj} (hg : g' = W1.heap.size) (h : Aside0 (W.heap[g]? = some o)) (e_ : W.heap[g]? = some o → W1.heap[g]? = some o := by (intro h_; (with_reducible repeat (first | refine blk_drewN ?_ _ | refine blk_drew ?_ | refine blk_alloc ?_ _)); exact h_)) : Aside0 (g ≠ g') ∧ Aside0 (g' ≠ g) ∧ g ≠ g' ∧ g' ≠ g := ⟨⟨pl hg (e_ h.out)⟩, ⟨pl' hg (e_ h.out)⟩, pl hg (e_ h.out), pl' hg (e_ h.out)⟩
/-- What is laid into one block. -/
def Fr (g : Nat) (W W1 : World) : Prop := ∀ Q : World → Prop, (∀ w i v, Q w → Q (w.setCell ⟨g, i, none⟩ v)) → Q W → Q W1
theorem vf {α : Type} {d : Kd α} {e base : Nat} {ok : Nat → Prop} {v : Value} {xs : List α} (h : Fr g W W1) (X : Aside0 (Kd.V d e W base ok v xs)) (hP : ∀ k, ok k → k ≠ g) : Aside0 (Kd.V d e W1 base ok v xs) := ⟨h (fun w => Kd.V d e w base ok v xs) (fun w i u hw => Kd.V_far (p := ⟨g, i, none⟩) hw hP u) X.out⟩
theorem bf {g' : Nat} (h : Fr g W W1) (X : Aside0 (W.heap[g']? = o)) (hn : g' ≠ g) : Aside0 (W1.heap[g']? = o) := ⟨h (fun w => w.heap[g']? = o) (fun w i u hw => (Below.heap_setCell w ⟨g, i, none⟩ u g' hn).trans hw) X.out⟩
theorem f1 {i0 : Nat} {u0 : Value} (h : W1 = W.setCell ⟨g, i0, none⟩ u0) : Fr g W W1 := h ▸ fun Q s h0 => s _ _ _ h0
theorem f2 {i0 i1 : Nat} {u0 u1 : Value} (h : W1 = (W.setCell ⟨g, i0, none⟩ u0).setCell ⟨g, i1, none⟩ u1) : Fr g W W1 := h ▸ fun Q s h0 => s _ _ _ (s _ _ _ h0)
theorem f3 {i0 i1 i2 : Nat} {u0 u1 u2 : Value} (h : W1 = ((W.setCell ⟨g, i0, none⟩ u0).setCell ⟨g, i1, none⟩ u1).setCell ⟨g, i2, none⟩ u2) : Fr g W W1 := h ▸ fun Q s h0 => s _ _ _ (s _ _ _ (s _ _ _ h0))
theorem f4 {i0 i1 i2 i3 : Nat} {u0 u1 u2 u3 : Value} (h : W1 = (((W.setCell ⟨g, i0, none⟩ u0).setCell ⟨g, i1, none⟩ u1).setCell ⟨g, i2, none⟩ u2).setCell ⟨g, i3, none⟩ u3) : Fr g W W1 := h ▸ fun Q s h0 => s _ _ _ (s _ _ _ (s _ _ _ (s _ _ _ h0)))
theorem f5 {i0 i1 i2 i3 i4 : Nat} {u0 u1 u2 u3 u4 : Value} (h : W1 = ((((W.setCell ⟨g, i0, none⟩ u0).setCell ⟨g, i1, none⟩ u1).setCell ⟨g, i2, none⟩ u2).setCell ⟨g, i3, none⟩ u3).setCell ⟨g, i4, none⟩ u4) : Fr g W W1 := h ▸ fun Q s h0 => s _ _ _ (s _ _ _ (s _ _ _ (s _ _ _ (s _ _ _ h0))))
theorem f7 {i0 i1 i2 i3 i4 i5 i6 : Nat} {u0 u1 u2 u3 u4 u5 u6 : Value} (h : W1 = ((((((W.setCell ⟨g, i0, none⟩ u0).setCell ⟨g, i1, none⟩ u1).setCell ⟨g, i2, none⟩ u2).setCell ⟨g, i3, none⟩ u3).setCell ⟨g, i4, none⟩ u4).setCell ⟨g, i5, none⟩ u5).setCell ⟨g, i6, none⟩ u6) : Fr g W W1 := h ▸ fun Q s h0 => s _ _ _ (s _ _ _ (s _ _ _ (s _ _ _ (s _ _ _ (s _ _ _ (s _ _ _ h0))))))
theorem f8 {i0 i1 i2 i3 i4 i5 i6 i7 : Nat} {u0 u1 u2 u3 u4 u5 u6 u7 : Value} (h : W1 = (((((((W.setCell ⟨g, i0, none⟩ u0).setCell ⟨g, i1, none⟩ u1).setCell ⟨g, i2, none⟩ u2).setCell ⟨g, i3, none⟩ u3).setCell ⟨g, i4, none⟩ u4).setCell ⟨g, i5, none⟩ u5).setCell ⟨g, i6, none⟩ u6).setCell ⟨g, i7, none⟩ u7) : Fr g W W1 := h ▸ fun Q s h0 => s _ _ _ (s _ _ _ (s _ _ _ (s _ _ _ (s _ _ _ (s _ _ _ (s _ _ _ (s _ _ _ h0)))))))
theorem s1 {u0 v0 : Value} (h : W1 = W.setCell ⟨g, 0, none⟩ u0) (X : Aside0 (W.heap[g]? = some (.cells #[v0] t (0, 0)))) : Aside0 (W1.heap[g]? = some (.cells #[u0] t (0, 0))) := ⟨h ▸ blk_put X.out 0 _ rfl⟩
theorem s2 {u0 u1 v0 v1 : Value} (h : W1 = (W.setCell ⟨g, 0, none⟩ u0).setCell ⟨g, 1, none⟩ u1) (X : Aside0 (W.heap[g]? = some (.cells #[v0, v1] t (0, 0)))) : Aside0 (W1.heap[g]? = some (.cells #[u0, u1] t (0, 0))) := ⟨h ▸ blk_put (blk_put X.out 0 _ rfl) 1 _ rfl⟩
theorem s3 {u0 u1 u2 v0 v1 v2 : Value} (h : W1 = ((W.setCell ⟨g, 0, none⟩ u0).setCell ⟨g, 1, none⟩ u1).setCell ⟨g, 2, none⟩ u2) (X : Aside0 (W.heap[g]? = some (.cells #[v0, v1, v2] t (0, 0)))) : Aside0 (W1.heap[g]? = some (.cells #[u0, u1, u2] t (0, 0))) := ⟨h ▸ blk_put (blk_put (blk_put X.out 0 _ rfl) 1 _ rfl) 2 _ rfl⟩
theorem s4 {u0 u1 u2 u3 v0 v1 v2 v3 : Value} (h : W1 = (((W.setCell ⟨g, 0, none⟩ u0).setCell ⟨g, 1, none⟩ u1).setCell ⟨g, 2, none⟩ u2).setCell ⟨g, 3, none⟩ u3) (X : Aside0 (W.heap[g]? = some (.cells #[v0, v1, v2, v3] t (0, 0)))) : Aside0 (W1.heap[g]? = some (.cells #[u0, u1, u2, u3] t (0, 0))) := ⟨h ▸ blk_put (blk_put (blk_put (blk_put X.out 0 _ rfl) 1 _ rfl) 2 _ rfl) 3 _ rfl⟩
theorem s5 {u0 u1 u2 u3 u4 v0 v1 v2 v3 v4 : Value} (h : W1 = ((((W.setCell ⟨g, 0, none⟩ u0).setCell ⟨g, 1, none⟩ u1).setCell ⟨g, 2, none⟩ u2).setCell ⟨g, 3, none⟩ u3).setCell ⟨g, 4, none⟩ u4) (X : Aside0 (W.heap[g]? = some (.cells #[v0, v1, v2, v3, v4] t (0, 0)))) : Aside0 (W1.heap[g]? = some (.cells #[u0, u1, u2, u3, u4] t (0, 0))) := ⟨h ▸ blk_put (blk_put (blk_put (blk_put (blk_put X.out 0 _ rfl) 1 _ rfl) 2 _ rfl) 3 _ rfl) 4 _ rfl⟩
theorem s6 {u0 u1 u2 u3 u4 u5 v0 v1 v2 v3 v4 v5 : Value} (h : W1 = (((((W.setCell ⟨g, 0, none⟩ u0).setCell ⟨g, 1, none⟩ u1).setCell ⟨g, 2, none⟩ u2).setCell ⟨g, 3, none⟩ u3).setCell ⟨g, 4, none⟩ u4).setCell ⟨g, 5, none⟩ u5) (X : Aside0 (W.heap[g]? = some (.cells #[v0, v1, v2, v3, v4, v5] t (0, 0)))) : Aside0 (W1.heap[g]? = some (.cells #[u0, u1, u2, u3, u4, u5] t (0, 0))) := ⟨h ▸ blk_put (blk_put (blk_put (blk_put (blk_put (blk_put X.out 0 _ rfl) 1 _ rfl) 2 _ rfl) 3 _ rfl) 4 _ rfl) 5 _ rfl⟩
theorem c1 {u0 : Value} (X : Aside0 (W.heap[g]? = some (.cells #[u0] t (0, 0)))) : W.cell? ⟨g, 0, none⟩ = some u0 := ce X 0
theorem g1 {u0 : Value} (X : Aside0 (W.heap[g]? = some (.cells #[u0] t (0, 0)))) : W.cell? ⟨g, 0, none⟩ = some u0 ∧ W.frozen? ⟨g, 0, none⟩ = false := ⟨ce X 0, fz X 0⟩
theorem c2 {u0 u1 : Value} (X : Aside0 (W.heap[g]? = some (.cells #[u0, u1] t (0, 0)))) : W.cell? ⟨g, 0, none⟩ = some u0 ∧ W.cell? ⟨g, 1, none⟩ = some u1 := ⟨ce X 0, ce X 1⟩
theorem g2 {u0 u1 : Value} (X : Aside0 (W.heap[g]? = some (.cells #[u0, u1] t (0, 0)))) : W.cell? ⟨g, 0, none⟩ = some u0 ∧ W.cell? ⟨g, 1, none⟩ = some u1 ∧ W.frozen? ⟨g, 0, none⟩ = false ∧ W.frozen? ⟨g, 1, none⟩ = false := ⟨ce X 0, ce X 1, fz X 0, fz X 1⟩
theorem c3 {u0 u1 u2 : Value} (X : Aside0 (W.heap[g]? = some (.cells #[u0, u1, u2] t (0, 0)))) : W.cell? ⟨g, 0, none⟩ = some u0 ∧ W.cell? ⟨g, 1, none⟩ = some u1 ∧ W.cell? ⟨g, 2, none⟩ = some u2 := ⟨ce X 0, ce X 1, ce X 2⟩
theorem g3 {u0 u1 u2 : Value} (X : Aside0 (W.heap[g]? = some (.cells #[u0, u1, u2] t (0, 0)))) : W.cell? ⟨g, 0, none⟩ = some u0 ∧ W.cell? ⟨g, 1, none⟩ = some u1 ∧ W.cell? ⟨g, 2, none⟩ = some u2 ∧ W.frozen? ⟨g, 0, none⟩ = false ∧ W.frozen? ⟨g, 1, none⟩ = false ∧ W.frozen? ⟨g, 2, none⟩ = false := ⟨ce X 0, ce X 1, ce X 2, fz X 0, fz X 1, fz X 2⟩
theorem c4 {u0 u1 u2 u3 : Value} (X : Aside0 (W.heap[g]? = some (.cells #[u0, u1, u2, u3] t (0, 0)))) : W.cell? ⟨g, 0, none⟩ = some u0 ∧ W.cell? ⟨g, 1, none⟩ = some u1 ∧ W.cell? ⟨g, 2, none⟩ = some u2 ∧ W.cell? ⟨g, 3, none⟩ = some u3 := ⟨ce X 0, ce X 1, ce X 2, ce X 3⟩
theorem g4 {u0 u1 u2 u3 : Value} (X : Aside0 (W.heap[g]? = some (.cells #[u0, u1, u2, u3] t (0, 0)))) : W.cell? ⟨g, 0, none⟩ = some u0 ∧ W.cell? ⟨g, 1, none⟩ = some u1 ∧ W.cell? ⟨g, 2, none⟩ = some u2 ∧ W.cell? ⟨g, 3, none⟩ = some u3 ∧ W.frozen? ⟨g, 0, none⟩ = false ∧ W.frozen? ⟨g, 1, none⟩ = false ∧ W.frozen? ⟨g, 2, none⟩ = false ∧ W.frozen? ⟨g, 3, none⟩ = false := ⟨ce X 0, ce X 1, ce X 2, ce X 3, fz X 0, fz X 1, fz X 2, fz X 3⟩
theorem c5 {u0 u1 u2 u3 u4 : Value} (X : Aside0 (W.heap[g]? = some (.cells #[u0, u1, u2, u3, u4] t (0, 0)))) : W.cell? ⟨g, 0, none⟩ = some u0 ∧ W.cell? ⟨g, 1, none⟩ = some u1 ∧ W.cell? ⟨g, 2, none⟩ = some u2 ∧ W.cell? ⟨g, 3, none⟩ = some u3 ∧ W.cell? ⟨g, 4, none⟩ = some u4 := ⟨ce X 0, ce X 1, ce X 2, ce X 3, ce X 4⟩
theorem c6 {u0 u1 u2 u3 u4 u5 : Value} (X : Aside0 (W.heap[g]? = some (.cells #[u0, u1, u2, u3, u4, u5] t (0, 0)))) : W.cell? ⟨g, 0, none⟩ = some u0 ∧ W.cell? ⟨g, 1, none⟩ = some u1 ∧ W.cell? ⟨g, 2, none⟩ = some u2 ∧ W.cell? ⟨g, 3, none⟩ = some u3 ∧ W.cell? ⟨g, 4, none⟩ = some u4 ∧ W.cell? ⟨g, 5, none⟩ = some u5 := ⟨ce X 0, ce X 1, ce X 2, ce X 3, ce X 4, ce X 5⟩
theorem g6 {u0 u1 u2 u3 u4 u5 : Value} (X : Aside0 (W.heap[g]? = some (.cells #[u0, u1, u2, u3, u4, u5] t (0, 0)))) : W.cell? ⟨g, 0, none⟩ = some u0 ∧ W.cell? ⟨g, 1, none⟩ = some u1 ∧ W.cell? ⟨g, 2, none⟩ = some u2 ∧ W.cell? ⟨g, 3, none⟩ = some u3 ∧ W.cell? ⟨g, 4, none⟩ = some u4 ∧ W.cell? ⟨g, 5, none⟩ = some u5 ∧ W.frozen? ⟨g, 0, none⟩ = false ∧ W.frozen? ⟨g, 1, none⟩ = false ∧ W.frozen? ⟨g, 2, none⟩ = false ∧ W.frozen? ⟨g, 3, none⟩ = false ∧ W.frozen? ⟨g, 4, none⟩ = false ∧ W.frozen? ⟨g, 5, none⟩ = false := ⟨ce X 0, ce X 1, ce X 2, ce X 3, ce X 4, ce X 5, fz X 0, fz X 1, fz X 2, fz X 3, fz X 4, fz X 5⟩
theorem c7 {u0 u1 u2 u3 u4 u5 u6 : Value} (X : Aside0 (W.heap[g]? = some (.cells #[u0, u1, u2, u3, u4, u5, u6] t (0, 0)))) : W.cell? ⟨g, 0, none⟩ = some u0 ∧ W.cell? ⟨g, 1, none⟩ = some u1 ∧ W.cell? ⟨g, 2, none⟩ = some u2 ∧ W.cell? ⟨g, 3, none⟩ = some u3 ∧ W.cell? ⟨g, 4, none⟩ = some u4 ∧ W.cell? ⟨g, 5, none⟩ = some u5 ∧ W.cell? ⟨g, 6, none⟩ = some u6 := ⟨ce X 0, ce X 1, ce X 2, ce X 3, ce X 4, ce X 5, ce X 6⟩
theorem g7 {u0 u1 u2 u3 u4 u5 u6 : Value} (X : Aside0 (W.heap[g]? = some (.cells #[u0, u1, u2, u3, u4, u5, u6] t (0, 0)))) : W.cell? ⟨g, 0, none⟩ = some u0 ∧ W.cell? ⟨g, 1, none⟩ = some u1 ∧ W.cell? ⟨g, 2, none⟩ = some u2 ∧ W.cell? ⟨g, 3, none⟩ = some u3 ∧ W.cell? ⟨g, 4, none⟩ = some u4 ∧ W.cell? ⟨g, 5, none⟩ = some u5 ∧ W.cell? ⟨g, 6, none⟩ = some u6 ∧ W.frozen? ⟨g, 0, none⟩ = false ∧ W.frozen? ⟨g, 1, none⟩ = false ∧ W.frozen? ⟨g, 2, none⟩ = false ∧ W.frozen? ⟨g, 3, none⟩ = false ∧ W.frozen? ⟨g, 4, none⟩ = false ∧ W.frozen? ⟨g, 5, none⟩ = false ∧ W.frozen? ⟨g, 6, none⟩ = false := ⟨ce X 0, ce X 1, ce X 2, ce X 3, ce X 4, ce X 5, ce X 6, fz X 0, fz X 1, fz X 2, fz X 3, fz X 4, fz X 5, fz X 6⟩
theorem c8 {u0 u1 u2 u3 u4 u5 u6 u7 : Value} (X : Aside0 (W.heap[g]? = some (.cells #[u0, u1, u2, u3, u4, u5, u6, u7] t (0, 0)))) : W.cell? ⟨g, 0, none⟩ = some u0 ∧ W.cell? ⟨g, 1, none⟩ = some u1 ∧ W.cell? ⟨g, 2, none⟩ = some u2 ∧ W.cell? ⟨g, 3, none⟩ = some u3 ∧ W.cell? ⟨g, 4, none⟩ = some u4 ∧ W.cell? ⟨g, 5, none⟩ = some u5 ∧ W.cell? ⟨g, 6, none⟩ = some u6 ∧ W.cell? ⟨g, 7, none⟩ = some u7 := ⟨ce X 0, ce X 1, ce X 2, ce X 3, ce X 4, ce X 5, ce X 6, ce X 7⟩
theorem rf {α : Type} {d : Kd α} {e base : Nat} {ok : Nat → Prop} {v : Value} {xs : List α} {cs : Array Value} (h : Fr g W W1) (X : Aside0 (Kd.R d e W base ok v xs)) (hb : Aside0 (W.heap[g]? = some (.cells cs t (0, 0)))) (ht : ∀ q, q ∈ e :: d.E → q ≠ t := by decide) : Aside0 (Kd.R d e W1 base ok v xs) := ⟨Kd.R_mono (h (fun w => Kd.R d e w base (fun k => ok k ∧ k ≠ g) v xs) (fun w i u hw => Kd.R_far (p := ⟨g, i, none⟩) hw (fun _ hk => hk.2) u) (Kd.R_types X.out hb.out ht)) (fun _ hk => hk.1)⟩
theorem lf {B : Nat} {w : World} (h : Fr g W W1) (X : Aside0 (Below B w W)) (hg : Aside0 (B ≤ g) := by assumption) : Aside0 (Below B w W1) := ⟨h (fun W_ => Below B w W_) (fun w_ i u hw => hw.setCell (p := ⟨g, i, none⟩) hg.out u) X.out⟩
theorem t0 {u0 u1 u2 u3 v0 v1 v2 v3 v4 v5 v6 v7 v8 v9 v10 v11 : Value} (h : W1 = (((W.setCell ⟨g, 0, none⟩ u0).setCell ⟨g, 1, none⟩ u1).setCell ⟨g, 2, none⟩ u2).setCell ⟨g, 3, none⟩ u3) (X : Aside0 (W.heap[g]? = some (.cells #[v0, v1, v2, v3, v4, v5, v6, v7, v8, v9, v10, v11] t (0, 0)))) : Aside0 (W1.heap[g]? = some (.cells #[u0, u1, u2, u3, v4, v5, v6, v7, v8, v9, v10, v11] t (0, 0))) := ⟨h ▸ blk_put (blk_put (blk_put (blk_put (X.out) 0 _ rfl) 1 _ rfl) 2 _ rfl) 3 _ rfl⟩
theorem t4 {u0 u1 u2 u3 v0 v1 v2 v3 v4 v5 v6 v7 v8 v9 v10 v11 : Value} (h : W1 = (((W.setCell ⟨g, 4, none⟩ u0).setCell ⟨g, 5, none⟩ u1).setCell ⟨g, 6, none⟩ u2).setCell ⟨g, 7, none⟩ u3) (X : Aside0 (W.heap[g]? = some (.cells #[v0, v1, v2, v3, v4, v5, v6, v7, v8, v9, v10, v11] t (0, 0)))) : Aside0 (W1.heap[g]? = some (.cells #[v0, v1, v2, v3, u0, u1, u2, u3, v8, v9, v10, v11] t (0, 0))) := ⟨h ▸ blk_put (blk_put (blk_put (blk_put (X.out) 4 _ rfl) 5 _ rfl) 6 _ rfl) 7 _ rfl⟩
theorem q1 {a : Addr} {v : Option Value} {i0 : Nat} {u0 : Value} (hn : a.block ≠ g) (h : W.cell? a = v) : (W.setCell ⟨g, i0, none⟩ u0).cell? a = v := ((cell_far (p := ⟨g, i0, none⟩) hn u0).trans h)
theorem q2 {a : Addr} {v : Option Value} {i0 i1 : Nat} {u0 u1 : Value} (hn : a.block ≠ g) (h : W.cell? a = v) : ((W.setCell ⟨g, i0, none⟩ u0).setCell ⟨g, i1, none⟩ u1).cell? a = v := ((cell_far (p := ⟨g, i1, none⟩) hn u1).trans ((cell_far (p := ⟨g, i0, none⟩) hn u0).trans h))
theorem q3 {a : Addr} {v : Option Value} {i0 i1 i2 : Nat} {u0 u1 u2 : Value} (hn : a.block ≠ g) (h : W.cell? a = v) : (((W.setCell ⟨g, i0, none⟩ u0).setCell ⟨g, i1, none⟩ u1).setCell ⟨g, i2, none⟩ u2).cell? a = v := ((cell_far (p := ⟨g, i2, none⟩) hn u2).trans ((cell_far (p := ⟨g, i1, none⟩) hn u1).trans ((cell_far (p := ⟨g, i0, none⟩) hn u0).trans h)))
theorem q4 {a : Addr} {v : Option Value} {i0 i1 i2 i3 : Nat} {u0 u1 u2 u3 : Value} (hn : a.block ≠ g) (h : W.cell? a = v) : ((((W.setCell ⟨g, i0, none⟩ u0).setCell ⟨g, i1, none⟩ u1).setCell ⟨g, i2, none⟩ u2).setCell ⟨g, i3, none⟩ u3).cell? a = v := ((cell_far (p := ⟨g, i3, none⟩) hn u3).trans ((cell_far (p := ⟨g, i2, none⟩) hn u2).trans ((cell_far (p := ⟨g, i1, none⟩) hn u1).trans ((cell_far (p := ⟨g, i0, none⟩) hn u0).trans h))))
theorem q5 {a : Addr} {v : Option Value} {i0 i1 i2 i3 i4 : Nat} {u0 u1 u2 u3 u4 : Value} (hn : a.block ≠ g) (h : W.cell? a = v) : (((((W.setCell ⟨g, i0, none⟩ u0).setCell ⟨g, i1, none⟩ u1).setCell ⟨g, i2, none⟩ u2).setCell ⟨g, i3, none⟩ u3).setCell ⟨g, i4, none⟩ u4).cell? a = v := ((cell_far (p := ⟨g, i4, none⟩) hn u4).trans ((cell_far (p := ⟨g, i3, none⟩) hn u3).trans ((cell_far (p := ⟨g, i2, none⟩) hn u2).trans ((cell_far (p := ⟨g, i1, none⟩) hn u1).trans ((cell_far (p := ⟨g, i0, none⟩) hn u0).trans h)))))
theorem q6 {a : Addr} {v : Option Value} {i0 i1 i2 i3 i4 i5 : Nat} {u0 u1 u2 u3 u4 u5 : Value} (hn : a.block ≠ g) (h : W.cell? a = v) : ((((((W.setCell ⟨g, i0, none⟩ u0).setCell ⟨g, i1, none⟩ u1).setCell ⟨g, i2, none⟩ u2).setCell ⟨g, i3, none⟩ u3).setCell ⟨g, i4, none⟩ u4).setCell ⟨g, i5, none⟩ u5).cell? a = v := ((cell_far (p := ⟨g, i5, none⟩) hn u5).trans ((cell_far (p := ⟨g, i4, none⟩) hn u4).trans ((cell_far (p := ⟨g, i3, none⟩) hn u3).trans ((cell_far (p := ⟨g, i2, none⟩) hn u2).trans ((cell_far (p := ⟨g, i1, none⟩) hn u1).trans ((cell_far (p := ⟨g, i0, none⟩) hn u0).trans h))))))
theorem q7 {a : Addr} {v : Option Value} {i0 i1 i2 i3 i4 i5 i6 : Nat} {u0 u1 u2 u3 u4 u5 u6 : Value} (hn : a.block ≠ g) (h : W.cell? a = v) : (((((((W.setCell ⟨g, i0, none⟩ u0).setCell ⟨g, i1, none⟩ u1).setCell ⟨g, i2, none⟩ u2).setCell ⟨g, i3, none⟩ u3).setCell ⟨g, i4, none⟩ u4).setCell ⟨g, i5, none⟩ u5).setCell ⟨g, i6, none⟩ u6).cell? a = v := ((cell_far (p := ⟨g, i6, none⟩) hn u6).trans ((cell_far (p := ⟨g, i5, none⟩) hn u5).trans ((cell_far (p := ⟨g, i4, none⟩) hn u4).trans ((cell_far (p := ⟨g, i3, none⟩) hn u3).trans ((cell_far (p := ⟨g, i2, none⟩) hn u2).trans ((cell_far (p := ⟨g, i1, none⟩) hn u1).trans ((cell_far (p := ⟨g, i0, none⟩) hn u0).trans h)))))))
end
/-! What words.py uses. -/
section
variable {W W1 W2 : World} {g : Nat} {o : Obj} {α : Type} {d : Kd α} {e base B : Nat} {ok : Nat → Prop} {v : Value} {xs : List α}
theorem ve {g' : Nat} (h : Aside0 (Kd.V d e W base ok v xs)) (hg : g' = W1.heap.size) (hb : Below W1.heap.size W1 W2) (e_ : Kd.V d e W base ok v xs → Kd.V d e W1 base ok v xs := by (intro h_; (with_reducible repeat (first | apply Kd.V_alloc | apply Kd.V_drewN | apply Kd.V_drew)); exact h_)) : Aside0 (Kd.V d e W2 base (fun k => ok k ∧ k ≠ g') v xs) := ⟨Kd.V_below (Kd.V_elderB (e_ h.out) g' (Nat.le_of_eq hg.symm)) hb⟩
theorem vb (h : Aside0 (Kd.V d e W base ok v xs)) (hb : Below W1.heap.size W1 W2) (e_ : Kd.V d e W base ok v xs → Kd.V d e W1 base ok v xs := by (intro h_; (with_reducible repeat (first | apply Kd.V_alloc | apply Kd.V_drewN | apply Kd.V_drew)); exact h_)) : Aside0 (Kd.V d e W2 base ok v xs) := ⟨Kd.V_below (e_ h.out) hb⟩
theorem rb (h : Aside0 (Kd.R d e W base ok v xs)) (hb : Below W1.heap.size W1 W2) (e_ : Kd.R d e W base ok v xs → Kd.R d e W1 base ok v xs := by (intro h_; (with_reducible repeat (first | apply Kd.R_alloc | apply Kd.R_drewN | apply Kd.R_drew)); exact h_)) : Aside0 (Kd.R d e W2 base ok v xs) := ⟨Kd.R_below (e_ h.out) hb⟩
theorem gq {w : World} (hg : g = W1.heap.size) (h : Aside0 (Below w.heap.size w W)) (e_ : Below w.heap.size w W → Below w.heap.size w W1 := by (intro h_; repeat (first | (with_reducible first | exact h_ | apply below_alloc | apply pw_below_drewN | apply below_drew1) | (with_reducible refine below_set ?_ (Aside0.out (by assumption))) | exact h_))) : Aside0 (w.heap.size ≤ g) := ⟨pg hg h e_⟩
theorem lb {w : World} (h : Aside0 (Below w.heap.size w W)) (hb : Below W1.heap.size W1 W2) (e_ : Below w.heap.size w W → Below w.heap.size w W1 := by (intro h_; repeat (first | (with_reducible first | exact h_ | apply below_alloc | apply pw_below_drewN | apply below_drew1) | (with_reducible refine below_set ?_ (Aside0.out (by assumption))) | exact h_))) : Aside0 (Below w.heap.size w W2) := ⟨below_step (e_ h.out) hb⟩
theorem nb (h : Aside0 (W.heap[g]? = some o)) (k : Nat) (hk : W1.heap.size ≤ k) (e_ : W.heap[g]? = some o → W1.heap[g]? = some o := by (intro h_; (with_reducible repeat (first | refine blk_drewN ?_ _ | refine blk_drew ?_ | refine blk_alloc ?_ _)); exact h_)) : k ≠ g := Kd.freshB (e_ h.out) k hk
theorem nr (h : Aside0 (Kd.R d e W base ok v xs)) (k : Nat) (hk : W1.heap.size ≤ k) (e_ : Kd.R d e W base ok v xs → Kd.R d e W1 base ok v xs := by (intro h_; (with_reducible repeat (first | apply Kd.R_alloc | apply Kd.R_drewN | apply Kd.R_drew)); exact h_)) : some k ≠ v.ownBlock := Kd.fresh' (Kd.R_lt (e_ h.out)) k hk
theorem kb (h : Aside0 (W.heap[g]? = some o)) (hb : Below W1.heap.size W1 W2) (e_ : W.heap[g]? = some o → W1.heap[g]? = some o := by (intro h_; (with_reducible repeat (first | refine blk_drewN ?_ _ | refine blk_drew ?_ | refine blk_alloc ?_ _)); exact h_)) : Aside0 (W2.heap[g]? = some o) := ⟨blk_below (e_ h.out) hb⟩
end
/-! What words2.py uses. -/
theorem od {p : Prop} [Decidable p] (h : decide p = true := by first | (with_reducible assumption) | assumption) : p := of_decide_eq_true h
theorem eR {p : Prop} (h : p := by first | rfl | (simp; done) | (simp [*]; done)) : p := h
theorem el {p : Prop} (h : p := by first | omega | exact Nat.le_refl _) : Aside0 p := ⟨h⟩
theorem ps {W W1 : World} {α : Type} {d : Kd α} {e base : Nat} {ok : Nat → Prop} {v : Value} {xs : List α} (h : Kd.S d e W base ok v xs) (e_ : Kd.S d e W base ok v xs → Kd.S d e W1 base ok v xs := by (intro h_; (with_reducible repeat (first | apply Kd.S_alloc | apply Kd.S_drewN | apply Kd.S_drew)); exact h_)) : Kd.S d e W1 base ok v xs := e_ h
theorem sf {W W1 : World} {g t : Nat} {α : Type} {d : Kd α} {e base : Nat} {ok : Nat → Prop} {v : Value} {xs : List α} {cs : Array Value} (h : Fr g W W1) (X : Aside0 (Kd.S d e W base ok v xs)) (hb : Aside0 (W.heap[g]? = some (.cells cs t (0, 0)))) (ht : ∀ q, q ∈ e :: d.E → q ≠ t := by decide) : Aside0 (Kd.S d e W1 base ok v xs) := ⟨Kd.S_mono (h (fun w => Kd.S d e w base (fun k => ok k ∧ k ≠ g) v xs) (fun w i u hw => Kd.S_far (p := ⟨g, i, none⟩) hw (fun _ hk => hk.2) u) (Kd.S_types X.out hb.out ht)) (fun _ hk => hk.1)⟩
abbrev dd (l : List Nat) : List Nat × List Nat := (l, l)
theorem hQ {w W : World} {a : Addr} {v : Value} (HB : Aside0 (Below w.heap.size w W)) (h : w.cell? a = some v) : W.cell? a = some v := (HB.out.cell (World.block_lt_of_cell? w _ h)).trans h
theorem ey {p q : Prop} (hp : p := by first | rfl | (simp [errW_none, errW_some] <;> rfl) | (simp [*, errW_none, errW_some] <;> rfl)) (h : q) : p ∧ q := ⟨hp, h⟩
section
variable {W : World} {g t : Nat} {p : Prop}
theorem Q2 {u0 u1 : Value} (X : Aside0 (W.heap[g]? = some (.cells #[u0, u1] t (0, 0)))) : W.cell? ⟨g, 0, none⟩ = some u0 ∧ W.cell? ⟨g, 1, none⟩ = some u1 := c2 X
theorem Q3 {u0 u1 u2 : Value} (X : Aside0 (W.heap[g]? = some (.cells #[u0, u1, u2] t (0, 0)))) : W.cell? ⟨g, 0, none⟩ = some u0 ∧ W.cell? ⟨g, 1, none⟩ = some u1 ∧ W.cell? ⟨g, 2, none⟩ = some u2 := c3 X
theorem Q6 {u0 u1 u2 u3 u4 u5 : Value} (X : Aside0 (W.heap[g]? = some (.cells #[u0, u1, u2, u3, u4, u5] t (0, 0)))) : W.cell? ⟨g, 0, none⟩ = some u0 ∧ W.cell? ⟨g, 1, none⟩ = some u1 ∧ W.cell? ⟨g, 2, none⟩ = some u2 ∧ W.cell? ⟨g, 3, none⟩ = some u3 ∧ W.cell? ⟨g, 4, none⟩ = some u4 ∧ W.cell? ⟨g, 5, none⟩ = some u5 := c6 X
theorem Q7 {u0 u1 u2 u3 u4 u5 u6 : Value} (X : Aside0 (W.heap[g]? = some (.cells #[u0, u1, u2, u3, u4, u5, u6] t (0, 0)))) : W.cell? ⟨g, 0, none⟩ = some u0 ∧ W.cell? ⟨g, 1, none⟩ = some u1 ∧ W.cell? ⟨g, 2, none⟩ = some u2 ∧ W.cell? ⟨g, 3, none⟩ = some u3 ∧ W.cell? ⟨g, 4, none⟩ = some u4 ∧ W.cell? ⟨g, 5, none⟩ = some u5 ∧ W.cell? ⟨g, 6, none⟩ = some u6 := c7 X
theorem K2 {u0 u1 : Value} (X : Aside0 (W.heap[g]? = some (.cells #[u0, u1] t (0, 0)))) (h : p) : W.cell? ⟨g, 0, none⟩ = some u0 ∧ W.cell? ⟨g, 1, none⟩ = some u1 ∧ p := ⟨ce X 0, ce X 1, h⟩
theorem K3 {u0 u1 u2 : Value} (X : Aside0 (W.heap[g]? = some (.cells #[u0, u1, u2] t (0, 0)))) (h : p) : W.cell? ⟨g, 0, none⟩ = some u0 ∧ W.cell? ⟨g, 1, none⟩ = some u1 ∧ W.cell? ⟨g, 2, none⟩ = some u2 ∧ p := ⟨ce X 0, ce X 1, ce X 2, h⟩
theorem K7 {u0 u1 u2 u3 u4 u5 u6 : Value} (X : Aside0 (W.heap[g]? = some (.cells #[u0, u1, u2, u3, u4, u5, u6] t (0, 0)))) (h : p) : W.cell? ⟨g, 0, none⟩ = some u0 ∧ W.cell? ⟨g, 1, none⟩ = some u1 ∧ W.cell? ⟨g, 2, none⟩ = some u2 ∧ W.cell? ⟨g, 3, none⟩ = some u3 ∧ W.cell? ⟨g, 4, none⟩ = some u4 ∧ W.cell? ⟨g, 5, none⟩ = some u5 ∧ W.cell? ⟨g, 6, none⟩ = some u6 ∧ p := ⟨ce X 0, ce X 1, ce X 2, ce X 3, ce X 4, ce X 5, ce X 6, h⟩
end
end Go.Proofs.YtagcobdpojeiiaaW.Sq
