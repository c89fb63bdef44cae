import Derived.Test.YtagcobdpojeiiaaHx0
import Derived.Test.YtagcobdpojeiiaaHx5
import Derived.Test.YtagcobdpojeiiaaHx6
import Derived.Test.YtagcobdpojeiiaaHx10
namespace Go.Proofs.Ytagcobdpojeiiaa.H
open Go.RowKit Go.Proofs.YtagcobdpojeiiaaW.PrintWords Go.Proofs.YtagcobdpojeiiaaW.PrintLast Go.Proofs.YtagcobdpojeiiaaW.PrintMore Go.Proofs.YtagcobdpojeiiaaW.Sq
attribute [local go_sem] max2_int min2_int max_two min_two max_three min_three max_four min_four
set_option linter.unusedVariables false
set_option linter.unusedSimpArgs false

theorem enter_at {P : Program} {f : FuncId} {fn : Func} {c : Code} (hf : P.funcs[f]? = some fn) (hn : (fn.name == "runtime.NumGoroutine") = false) (hb : fn.body = some c) (args : Array Value) (w : World) : (callFunc f args).run P w = .ok (.enter f args) w := by
  have h1 : fn.name ≠ "runtime.NumGoroutine" := by simpa using hn
  simp [callFunc, hf, h1, hb, mark]
def idxF {α : Type} (p : α → Option Bool) : List α → Int → Option Int
  | [], _ => some (-1)
  | x :: l, i => (p x).bind fun b => if b = true then some i else idxF p l (i + 1)
theorem idxF_at {α : Type} (p : α → Option Bool) (l : List α) (d : α) (i : Int) (h0 : 0 ≤ i) (h1 : i < l.length) (r : Int) (h : idxF p (l.drop i.toNat) i = some r) :
    ∃ b, p (l.getD i.toNat d) = some b ∧ ((b = true ∧ r = i) ∨ (b = false ∧ idxF p (l.drop (i + 1).toNat) (i + 1) = some r)) := by
  have hn : i.toNat < l.length := by omega
  rw [List.drop_eq_getElem_cons hn, idxF, Option.bind_eq_some_iff] at h;obtain ⟨b, hb, h⟩ := h
  refine ⟨b, by rw [List.getD_eq_getElem?_getD, List.getElem?_eq_getElem hn]; exact hb, ?_⟩
  cases b with
  | true => exact .inl ⟨rfl, by simpa using h.symm⟩
  | false => exact .inr ⟨rfl, by rw [show (i + 1).toNat = i.toNat + 1 from by omega]; simpa using h⟩
theorem idxF_end {α : Type} (p : α → Option Bool) (l : List α) (i : Int) (h1 : ¬ i < l.length) (r : Int) (h : idxF p (l.drop i.toNat) i = some r) : r = -1 := by
  rw [List.drop_of_length_le (by omega), idxF] at h
  exact (Option.some.inj h).symm
def anyF {α : Type} (p : α → Option Bool) (l : List α) : Option Bool := (idxF p l 0).bind fun i => some (decide (i ≥ 0))
theorem idxF_leo {α : Type} {p q : α → Option Bool} (h : ∀ x, LeO (p x) (q x)) : ∀ (l : List α) (i : Int), LeO (idxF p l i) (idxF q l i)
  | [], _ => LeO.refl _
  | x :: l, i => LeO.bind (h x) (fun b => LeO.ite (LeO.refl _) (idxF_leo h l (i + 1)))
theorem anyF_leo {α : Type} {p q : α → Option Bool} (h : ∀ x, LeO (p x) (q x)) (l : List α) : LeO (anyF p l) (anyF q l) := LeO.bind (idxF_leo h l 0) (fun _ => LeO.refl _)
def bsF {α : Type} (p : α → Option Int) (l : List α) (d : α) : Nat → Int → Int → Option Int
  | 0, i, j => if i < j then none else some i
  | n + 1, i, j => if i < j then (p (l.getD ((i + j) / 2).toNat d)).bind fun c => if c < 0 then bsF p l d n ((i + j) / 2 + 1) j else bsF p l d n i ((i + j) / 2) else some i
def bsT {α : Type} (p : α → Option Int) (l : List α) (d : α) : Option (Int × Bool) :=
  (bsF p l d l.length 0 l.length).bind fun i => if i < l.length then (p (l.getD i.toNat d)).bind fun c => some (i, decide (c = 0)) else some (i, false)
theorem bsF_leo {α : Type} {p q : α → Option Int} (h : ∀ x, LeO (p x) (q x)) (l : List α) (d : α) : ∀ n i j, LeO (bsF p l d n i j) (bsF q l d n i j)
  | 0, _, _ => LeO.refl _
  | n + 1, _, _ => LeO.ite (LeO.bind (h _) (fun c => LeO.ite (bsF_leo h l d n _ _) (bsF_leo h l d n _ _))) (LeO.refl _)
theorem bsT_leo {α : Type} {p q : α → Option Int} (h : ∀ x, LeO (p x) (q x)) (l : List α) (d : α) : LeO (bsT p l d) (bsT q l d) :=
  LeO.bind (bsF_leo h l d _ _ _) (fun _ => LeO.ite (LeO.bind (h _) (fun _ => LeO.refl _)) (LeO.refl _))
theorem bsF_step {α : Type} {p : α → Option Int} {l : List α} {d : α} {n : Nat} {i j r : Int} (h : bsF p l d n i j = some r) (hij : i < j) :
    ∃ m c, n = m + 1 ∧ p (l.getD ((i + j) / 2).toNat d) = some c ∧ ((c < 0 ∧ bsF p l d m ((i + j) / 2 + 1) j = some r) ∨ (¬ c < 0 ∧ bsF p l d m i ((i + j) / 2) = some r)) := by
  cases n with
  | zero => rw [bsF, if_pos hij] at h; cases h
  | succ m =>
    rw [bsF, if_pos hij, Option.bind_eq_some_iff] at h;obtain ⟨c, hc, h⟩ := h
    refine ⟨m, c, rfl, hc, ?_⟩
    split at h
    · exact .inl ⟨by assumption, h⟩
    · exact .inr ⟨by assumption, h⟩
theorem bsF_end {α : Type} {p : α → Option Int} {l : List α} {d : α} {n : Nat} {i j r : Int} (h : bsF p l d n i j = some r) (hij : ¬ i < j) : r = i := by
  cases n <;> (rw [bsF, if_neg hij] at h; exact (Option.some.inj h).symm)
section
variable {P : Program}
theorem run_copyK (w : World) (dT sT ty elem : TypeId) (k b o dLen dCap : Nat) (a : Addr) (sLen sCap : Nat) (cs : List Value) (hu : P.underlying dT = some (.slice elem)) (hs : (P.info? elem).map (·.size) = some k) (hn : cs.length = Nat.min sLen dLen * k)
    (hsrc : ∀ j v, cs[j]? = some v → w.cell? (a.add j) = some v) (hc : ∀ j, j < cs.length → (w.cell? ⟨b, o + j, none⟩).isSome = true) (hf : ∀ j, j < cs.length → w.frozen? ⟨b, o + j, none⟩ = false) (h1 : ∀ v ∈ cs, v.oneCell' = true) :
    (Builtin.copy_ #[dT, sT] ty #[.slice (some ⟨b, o, none⟩) dLen dCap, .slice (some a) sLen sCap]).run P w = .ok (goInt (Nat.min sLen dLen)) (w.setCells b o cs) := by
  have hl := run_loadCells_list (P := P) w a cs hsrc;have hst := run_storeCells_cells (P := P) b o cs 0 w (by simpa using hc) (by simpa using hf) h1
  cases hq : P.info? elem with
  | none => simp [hq] at hs
  | some i =>
    have hi : i.size = k := by simpa [hq] using hs
    simp [Builtin.copy_, run_underlying hu, Builtin.lenOf, Builtin.firstCells, sizeOf, typeInfo, hq, hi, ← hn, hl, hst]
theorem copy_wp (w : World) {o : Oper} {a : Act} {K : Act → World → Prop} {Q : Exit → Act → World → Prop} (d s : Operand) (t t' : TypeId) (ho : o.op = .call { callee := .builtin .copy, args := #[d, s], argTypes := #[t, t'] }) (v u : Value) (hd : a.eval d = v) (hs : a.eval s = u) {v' : Value} {w' : World}
    (hr : (Builtin.copy_ #[t, t'] o.type #[v, u]).run P w = .ok v' w') (h : K (a.put o.dst v') w') : o.wp P a w K Q := by
  unfold Oper.wp execOp
  simp only [ho, resolve, invoke, builtin, Sem.run_bind, Sem.run_pure, Result.andThen_ok, List.map_toArray, List.map_cons, List.map_nil, hd, hs, hr]
  exact h
theorem copy_list (w : World) {ops : Array Oper} {rest : List Oper} {o : Oper} {a : Act} {Q : Exit → Act → World → Prop} (hgd : o.guard = none) (d s : Operand) (t t' : TypeId) (ho : o.op = .call { callee := .builtin .copy, args := #[d, s], argTypes := #[t, t'] }) (v u : Value) (hd : a.eval d = v) (hs : a.eval s = u) {v' : Value} {w' : World}
    (hr : (Builtin.copy_ #[t, t'] o.type #[v, u]).run P w = .ok v' w') (h : wpList P ops Q rest (a.put o.dst v') w') : wpList P ops Q (o :: rest) a w :=
  wpList_plain hgd fun _ hK => copy_wp w d s t t' ho v u hd hs hr (hK _ _ h)
theorem copy_step {ops : Array Oper} {o : Oper} {a : Act} {w : World} {K : Act → World → Prop} {Q : Exit → Act → World → Prop} {E : Prop} (hg : o.guard = none) (d x : Operand) (dT sT : TypeId) (hop : o.op = Op.call { callee := Callee.builtin Builtin.copy, args := #[d, x], argTypes := #[dT, sT] })
    (v u : Value) (hd : a.eval d = v) (hx : a.eval x = u) {v' : Value} {w' : World} (hr : (Builtin.copy_ #[dT, sT] o.type #[v, u]).run P w = .ok v' w') (hK : K (a.put o.dst v') w') : if Region.wanted o (yielded ops a.tmps) = true then Oper.wp P o a w K Q else E := by
  rw [if_pos (by simp [Region.wanted, hg])]
  exact copy_wp w d x dT sT hop v u hd hx hr hK
end
theorem setCells_heap (b : Nat) : ∀ (vs : List Value) (o : Nat) (w : World) (k : Nat), k ≠ b → (w.setCells b o vs).heap[k]? = w.heap[k]?
  | [], _, _, _, _ => rfl
  | v :: r, o, w, k, h => by rw [World.setCells, setCells_heap b r (o + 1) _ k h]; exact Below.heap_setCell w ⟨b, o, none⟩ v k h
theorem setCells_size (b : Nat) : ∀ (vs : List Value) (o : Nat) (w : World), (w.setCells b o vs).heap.size = w.heap.size
  | [], _, _ => rfl
  | v :: r, o, w => by rw [World.setCells, setCells_size b r (o + 1)]; simp [World.setCell]
theorem setCells_below {B : Nat} {w0 : World} (b : Nat) (hb : B ≤ b) : ∀ (vs : List Value) (o : Nat) (w : World), Below B w0 w → Below B w0 (w.setCells b o vs)
  | [], _, _, h => h
  | v :: r, o, w, h => by rw [World.setCells]; exact setCells_below b hb r (o + 1) _ (h.setCell hb v)
theorem setCells_blk (b : Nat) (t : TypeId) : ∀ (vs : List Value) (o : Nat) (w : World) (cur : Array Value), w.heap[b]? = some (.cells cur t (0, 0)) → o + vs.length ≤ cur.size →
    ∃ cur', (w.setCells b o vs).heap[b]? = some (.cells cur' t (0, 0)) ∧ cur'.size = cur.size ∧ cur'.toList = cur.toList.take o ++ vs ++ cur.toList.drop (o + vs.length)
  | [], o, w, cur, h, hl => ⟨cur, h, rfl, by simp⟩
  | v :: r, o, w, cur, h, hl => by
    rw [List.length_cons] at hl;obtain ⟨cur', h1, h2, h3⟩ := setCells_blk b t r (o + 1) (w.setCell ⟨b, o, none⟩ v) (cur.setIfInBounds o v) (blk_set h o v) (by rw [Array.size_setIfInBounds]; omega)
    refine ⟨cur', by rw [World.setCells]; exact h1, by rw [h2, Array.size_setIfInBounds], ?_⟩
    rw [h3, Array.toList_setIfInBounds, List.length_cons]
    have hol : o < cur.toList.length := by rw [Array.length_toList]; omega
    have e1 : (cur.toList.set o v).take (o + 1) = cur.toList.take o ++ [v] := by
      rw [List.take_set, List.take_succ_eq_append_getElem hol, List.set_append_right _ _ (by rw [List.length_take]; omega)]
      have hm : min o cur.size = o := by omega
      simp [hm]
    rw [e1, List.drop_set_of_lt (by omega), show o + 1 + r.length = o + (r.length + 1) by omega]
    simp
theorem shift_list (cur cs xs : List Value) (k i n : Nat) (hi : i < n) (hcs : cur.take (n * k) = cs) (hn : n * k ≤ cur.length) (hx : xs.length = k) (c1 c2 : List Value) (h1 : c1 = cur.take ((i + 1) * k) ++ cs.drop (i * k) ++ cur.drop ((i + 1) * k + (cs.drop (i * k)).length)) (h2 : c2 = c1.take (i * k) ++ xs ++ c1.drop (i * k + xs.length)) :
    c2.take ((n + 1) * k) = cs.take (i * k) ++ xs ++ cs.drop (i * k) := by
  have hik : i * k + k ≤ n * k := by have := Nat.mul_le_mul_right k (show i + 1 ≤ n from hi); rwa [Nat.succ_mul] at this
  have hl : cs.length = n * k := by rw [← hcs, List.length_take]; omega
  have e0 : (i + 1) * k = i * k + k := Nat.succ_mul _ _;have e1 : (n + 1) * k = n * k + k := Nat.succ_mul _ _
  have l0 : (cur.take ((i + 1) * k)).length = i * k + k := by rw [List.length_take, e0]; omega
  have a1 : c1.take (i * k) = cs.take (i * k) := by
    rw [h1, List.append_assoc, List.take_append_of_le_length (by omega), List.take_take, ← hcs, List.take_take]
    congr 1
    omega
  have a2 : c1.drop (i * k + xs.length) = cs.drop (i * k) ++ cur.drop ((i + 1) * k + (cs.drop (i * k)).length) := by
    rw [h1, List.append_assoc, hx, ← l0, List.drop_left]
  rw [h2, a1, a2, ← List.append_assoc, e1]
  have l1 : (cs.take (i * k) ++ xs ++ cs.drop (i * k)).length = n * k + k := by simp only [List.length_append, List.length_take, List.length_drop, hx, hl]; omega
  rw [← l1, List.take_left]
theorem zeroCells_size (z : Array Value) (n : Nat) : (Builtin.zeroCells z n).size = n * z.size := by simp [Builtin.zeroCells]
theorem setCells_drew (b : Nat) : ∀ (vs : List Value) (o : Nat) (w : World), (w.setCells b o vs).drew = w.drew.setCells b o vs
  | [], _, _ => rfl
  | v :: r, o, w => by rw [World.setCells, World.setCells, setCells_drew b r]; rfl
theorem grow_list (row cs xs : List Value) (k i n : Nat) (hi : i < n) (hn : cs.length = n * k) (hr : row.take (i * k) = cs.take (i * k)) (hrl : (n + 1) * k ≤ row.length) (hx : xs.length = k) (c1 c2 : List Value) (h1 : c1 = row.take (i * k) ++ xs ++ row.drop (i * k + xs.length)) (h2 : c2 = c1.take ((i + 1) * k) ++ cs.drop (i * k) ++ c1.drop ((i + 1) * k + (cs.drop (i * k)).length)) :
    c2.take ((n + 1) * k) = cs.take (i * k) ++ xs ++ cs.drop (i * k) := by
  have hik : i * k + k ≤ n * k := by have := Nat.mul_le_mul_right k (show i + 1 ≤ n from hi); rwa [Nat.succ_mul] at this
  have e0 : (i + 1) * k = i * k + k := Nat.succ_mul _ _;have e1 : (n + 1) * k = n * k + k := Nat.succ_mul _ _
  have l0 : (cs.take (i * k) ++ xs).length = (i + 1) * k := by rw [List.length_append, List.length_take, hx, e0]; omega
  have a1 : c1.take ((i + 1) * k) = cs.take (i * k) ++ xs := by rw [h1, hr, ← l0, List.take_left]
  have l1 : (cs.take (i * k) ++ xs ++ cs.drop (i * k)).length = (n + 1) * k := by rw [List.length_append, l0, List.length_drop, hn, e0, e1]; omega
  rw [h2, a1, ← l1, List.take_left]
theorem ins_get {α : Type} (l : List α) (x : α) (i : Nat) (hi : i ≤ l.length) (j : Nat) : (l.take i ++ [x] ++ l.drop i)[j]? = if j < i then l[j]? else if j = i then some x else l[j - 1]? := by
  have ht : (l.take i).length = i := by rw [List.length_take]; omega
  rw [List.append_assoc]
  split
  · rename_i h
    rw [List.getElem?_append_left (by omega), List.getElem?_take_of_lt h]
  · rename_i h
    rw [List.getElem?_append_right (by omega), ht]
    split
    · rename_i h2
      subst h2
      simp
    · rename_i h2
      rw [show j - i = (j - i - 1) + 1 by omega, List.singleton_append, List.getElem?_cons_succ, List.getElem?_drop]
      congr 1
      omega
theorem ins_len {α : Type} (l : List α) (x : α) (i : Nat) (hi : i ≤ l.length) : (l.take i ++ [x] ++ l.drop i).length = l.length + 1 := by
  simp only [List.length_append, List.length_take, List.length_drop, List.length_singleton]; omega
theorem reps_ins {R : List Value → List Value → Prop} {sz : Nat} {rows : List (List Value)} {inner cs : List Value} (i : Nat) (hi : i ≤ rows.length) (h : Reps R sz rows inner) (hc : R cs cs) (hcl : cs.length = sz) :
    Reps R sz (rows.take i ++ [cs] ++ rows.drop i) (inner.take (i * sz) ++ cs ++ inner.drop (i * sz)) := by
  have hn : inner.length = rows.length * sz := h.1;have hik : i * sz ≤ rows.length * sz := Nat.mul_le_mul_right _ hi
  have htl : (inner.take (i * sz)).length = i * sz := by rw [List.length_take]; omega
  refine ⟨by rw [ins_len _ _ _ hi]; simp only [List.length_append, List.length_take, List.length_drop, hcl]; rw [Nat.succ_mul]; omega, fun j x hj => ?_⟩
  rw [ins_get _ _ _ hi] at hj;rw [List.append_assoc]
  split at hj
  · rename_i hlt
    have h2 := h.2 j x hj
    have hm : j * sz + sz ≤ i * sz := by have := Nat.mul_le_mul_right sz (show j + 1 ≤ i from hlt); rwa [Nat.succ_mul] at this
    rw [List.drop_append_of_le_length (by omega), List.take_append_of_le_length (by rw [List.length_drop]; omega), List.drop_take, List.take_take, show min sz (i * sz - j * sz) = sz by omega]
    exact h2
  · split at hj
    · rename_i he
      subst he
      injection hj with hj
      subst hj
      have e1 : (inner.take (j * sz) ++ (cs ++ inner.drop (j * sz))).drop (j * sz) = cs ++ inner.drop (j * sz) := by
        have := List.drop_left (l₁ := inner.take (j * sz)) (l₂ := cs ++ inner.drop (j * sz))
        rwa [htl] at this
      rw [e1, ← hcl, List.take_left]
      exact hc
    · rename_i h1 h2
      have h3 := h.2 (j - 1) x hj
      have e0 : j * sz = i * sz + (sz + (j - 1 - i) * sz) := by
        rw [show j = i + (1 + (j - 1 - i)) by omega, Nat.add_mul, Nat.add_mul, Nat.one_mul]
        congr 3
        omega
      have e1 : (inner.take (i * sz) ++ (cs ++ inner.drop (i * sz))).drop (j * sz) = inner.drop ((j - 1) * sz) := by
        have hd := List.drop_left (l₁ := inner.take (i * sz)) (l₂ := cs ++ inner.drop (i * sz));rw [htl] at hd;have hd2 := List.drop_left (l₁ := cs) (l₂ := inner.drop (i * sz));rw [hcl] at hd2;rw [e0, ← List.drop_drop, hd, ← List.drop_drop, hd2, List.drop_drop]
        congr 1
        rw [← Nat.add_mul]
        congr 1
        omega
      rw [e1]
      exact h3
theorem N_inserted {α : Type} {d : Kd α} {e base : Nat} {ok okp : Nat → Prop} {W w1 : World} {v v1 : Value} {xs : List α} {x : α} {rows : List (List Value)} {inner cs : List Value} (i : Nat) (hi : i ≤ xs.length)
    (h0 : ∀ k, v.ownBlock = some k → ok k) (hl : rows.length = xs.length) (hr : Reps ((Kd.raw d.sz).M W base (fun k => some k = v.ownBlock ∧ some k ≠ v.ownBlock)) d.sz rows inner) (hf : ∀ (j : Nat) (x : α) (c : List Value), xs[j]? = some x → rows[j]? = some c → Kd.FK d W (fun k => ok k ∧ some k ≠ v.ownBlock) x c)
    (hp : Kd.FK d W okp x cs) (hokp : ∀ k, okp k → ok k ∧ some k ≠ v.ownBlock) (hfresh : ∀ k, W.heap.size ≤ k → ok k)
    (ho : w1.ownsRow base e d.sz v1 (xs.length + 1) (inner.take (i * d.sz) ++ cs ++ inner.drop (i * d.sz)))
    (hk : ∀ k, k < W.heap.size → some k ≠ v.ownBlock → w1.heap[k]? = W.heap[k]?)
    (hat : v1.ownBlock = v.ownBlock ∨ ∃ b, v1.ownBlock = some b ∧ W.heap.size ≤ b) : Kd.N d e w1 base ok v1 (xs.take i ++ [x] ++ xs.drop i) := by
  have hne : ∀ k, some k ≠ v.ownBlock → k < W.heap.size → some k ≠ v1.ownBlock := by
    intro k hk hlt
    rcases hat with hat | ⟨b, hb, hle⟩
    · rw [hat]; exact hk
    · rw [hb]
      intro he
      injection he with he
      omega
  have step : ∀ {x : α} {c : List Value} {o : Nat → Prop}, Kd.FK d W o x c → (∀ k, o k → ok k ∧ some k ≠ v.ownBlock) → Kd.FK d w1 (fun k => ok k ∧ some k ≠ v1.ownBlock) x c := by
    intro x c o hq ho
    exact Kd.FK_mono (Kd.FK_step (Kd.FK_bound hq) (fun k hk' hlt => hk k hlt (ho k hk'.1).2)) (fun k hk => ⟨(ho k hk.1).1, hne k (ho k hk.1).2 hk.2⟩)
  have hcl := d.K_len (Kd.FK_now hp)
  refine ⟨fun k hk => ?_, rows.take i ++ [cs] ++ rows.drop i, by rw [ins_len _ _ _ (by omega), ins_len _ _ _ hi, hl], ⟨fun k hk => hk.symm, inner.take (i * d.sz) ++ cs ++ inner.drop (i * d.sz), by rw [ins_len _ _ _ (by omega), hl]; exact ho, reps_ins i (by omega) hr (Kd.FK_raw hp) hcl⟩, fun j y c hy hc => ?_⟩
  · rcases hat with hat | ⟨b, hb, hle⟩
    · exact h0 k (hat ▸ hk)
    · rw [hb] at hk
      injection hk with hk
      exact hfresh k (by omega)
  · rw [ins_get _ _ _ hi] at hy
    rw [ins_get _ _ _ (by omega)] at hc
    split at hy
    · rename_i h1
      rw [if_pos h1] at hc
      exact step (hf j y c hy hc) (fun _ hk => hk)
    · rename_i h1
      rw [if_neg h1] at hc
      split at hy
      · rename_i h2
        rw [if_pos h2] at hc
        injection hy with hy
        injection hc with hc
        subst hy hc
        exact step hp hokp
      · rename_i h2
        rw [if_neg h2] at hc
        exact step (hf _ y c hy hc) (fun _ hk => hk)
theorem goesV_ {P : Program} {ops : Array Oper} {Q : Exit → Act → World → Prop} {oi : Oper} {N : Option Tmp} {a : Act} {w : World} {K : Act → World → Prop} {f : FuncId} {lb : Array Value} {t : Operand} {as_ : Array Operand} {ts : Array TypeId} (he : ∀ args w, (callFunc f args).run P w = .ok (.enter f args) w) (args : Array Value)
    (hw : Region.wanted oi (yielded ops a.tmps) = true) (hN : oi.dst = N) (hop : oi.op = .call { callee := .value t, args := as_, argTypes := ts }) (hv : a.eval t = .func (.func f) #[] lb) (hargs : as_.map a.eval = args)
    (h : Calls P f (args ++ lb) w fun e w' => ∃ v, e = .returned v ∧ K (a.put N v) w') : if Region.wanted oi (yielded ops a.tmps) = true then Oper.wp P oi a w K Q else K (a.put N undef) w := by
  refine call_ f (args ++ lb) hw hN ?_ h
  unfold execOp
  simp [hop, resolve, Deferred.ofValue, invoke, hv, hargs, he]
def srtF {α : Type} (p : α → α → Option Int) (q : α → Option Bool) : Option α → List α → Option Bool
  | _, [] => some true
  | none, x :: l => (q x).bind fun b => if b = true then srtF p q (some x) l else some false
  | some y, x :: l => (q x).bind fun b => if b = true then (p y x).bind fun c => if c < 0 then srtF p q (some x) l else some false else some false
def sortedF {α : Type} (p : α → α → Option Int) (q : α → Option Bool) (most : Int) (l : List α) : Option Bool :=
  (srtF p q none l).bind fun b => if b = true then some (decide (0 < (l.length : Int)) && decide ((l.length : Int) ≤ most)) else some false
theorem srtF_leo {α : Type} {p p' : α → α → Option Int} {q q' : α → Option Bool} (hp : ∀ y x, LeO (p y x) (p' y x)) (hq : ∀ x, LeO (q x) (q' x)) : ∀ (l : List α) (y : Option α), LeO (srtF p q y l) (srtF p' q' y l)
  | [], y => by cases y <;> exact LeO.refl _
  | x :: l, none => LeO.bind (hq x) (fun b => LeO.ite (srtF_leo hp hq l _) (LeO.refl _))
  | x :: l, some y => LeO.bind (hq x) (fun b => LeO.ite (LeO.bind (hp y x) (fun c => LeO.ite (srtF_leo hp hq l _) (LeO.refl _))) (LeO.refl _))
theorem sortedF_leo {α : Type} {p p' : α → α → Option Int} {q q' : α → Option Bool} (hp : ∀ y x, LeO (p y x) (p' y x)) (hq : ∀ x, LeO (q x) (q' x)) (most : Int) (l : List α) : LeO (sortedF p q most l) (sortedF p' q' most l) :=
  LeO.bind (srtF_leo hp hq l none) (fun _ => LeO.refl _)
def prevOf {α : Type} (l : List α) (d : α) (i : Nat) : Option α := if i = 0 then none else some (l.getD (i - 1) d)
theorem srtF_at {α : Type} {p : α → α → Option Int} {q : α → Option Bool} {l : List α} (d : α) {i : Nat} (hi : i < l.length) {r : Bool} (h : srtF p q (prevOf l d i) (l.drop i) = some r) :
    ∃ b, q (l.getD i d) = some b ∧ ((b = false ∧ r = false) ∨ (b = true ∧ i = 0 ∧ srtF p q (prevOf l d (i + 1)) (l.drop (i + 1)) = some r) ∨
      (b = true ∧ 0 < i ∧ ∃ c, p (l.getD (i - 1) d) (l.getD i d) = some c ∧ ((¬ c < 0 ∧ r = false) ∨ (c < 0 ∧ srtF p q (prevOf l d (i + 1)) (l.drop (i + 1)) = some r)))) := by
  have e1 : l.getD i d = l[i] := by rw [List.getD_eq_getElem?_getD, List.getElem?_eq_getElem hi]; rfl
  have e2 : prevOf l d (i + 1) = some l[i] := by unfold prevOf; rw [if_neg (by omega), Nat.add_sub_cancel, e1]
  rw [List.drop_eq_getElem_cons hi] at h;rw [e1, e2]
  by_cases h0 : i = 0
  · unfold prevOf at h
    rw [if_pos h0, srtF] at h;obtain ⟨b, hb, h⟩ := Option.bind_eq_some_iff.1 h
    refine ⟨b, hb, ?_⟩
    cases b with
    | false => exact .inl ⟨rfl, by simpa using h.symm⟩
    | true => exact .inr (.inl ⟨rfl, h0, by simpa using h⟩)
  · unfold prevOf at h
    rw [if_neg h0, srtF] at h;obtain ⟨b, hb, h⟩ := Option.bind_eq_some_iff.1 h
    refine ⟨b, hb, ?_⟩
    cases b with
    | false => exact .inl ⟨rfl, by simpa using h.symm⟩
    | true =>
      rw [if_pos rfl] at h;obtain ⟨c, hc, h⟩ := Option.bind_eq_some_iff.1 h
      refine .inr (.inr ⟨rfl, by omega, c, hc, ?_⟩)
      split at h
      · exact .inr ⟨by assumption, h⟩
      · exact .inl ⟨by assumption, (Option.some.inj h).symm⟩
theorem srtF_end {α : Type} {p : α → α → Option Int} {q : α → Option Bool} {l : List α} {d : α} {i : Nat} (hi : ¬ i < l.length) {r : Bool} (h : srtF p q (prevOf l d i) (l.drop i) = some r) : r = true := by
  rw [List.drop_of_length_le (by omega)] at h
  cases prevOf l d i <;> (rw [srtF] at h; exact (Option.some.inj h).symm)
set_option maxHeartbeats 4000000 in
set_option maxRecDepth 100000 in
theorem SortedTr_calls (gc gs : Nat) (lb : Array Value) (ec : ∀ args w, (callFunc gc args).run Try.prog w = .ok (.enter gc args) w) (es : ∀ args w, (callFunc gs args).run Try.prog w = .ok (.enter gs args) w) (p : S91 → S91 → Option Int) (q : S91 → Option Bool) (A0 : Option Addr) (c0 : Nat) (l0 : List S91) (most : Int) (r : Bool) (w : World)
   (hr0 : Kd.C k91 w A0 l0.length l0) (hc0 : l0.length ≤ c0)
   (hp : ∀ (W : World) (y x : S91)   (c : Int), Below w.heap.size w W → p y x = some c → Calls Try.prog gc #[.agg #[.string y.f0, .int .u64 y.f1], .agg #[.string x.f0, .int .u64 x.f1]] W fun e w' => e = .returned (.int .i64 c) ∧ Below W.heap.size W w')
   (hq : ∀ (W : World) (x : S91)  (b : Bool), Below w.heap.size w W → q x = some b → Calls Try.prog gs (#[.agg #[.string x.f0, .int .u64 x.f1]] ++ lb) W fun e w' => e = .returned (.bool b) ∧ Below W.heap.size W w')
   (h : sortedF p q most l0 = some r) :
   Calls Try.prog 95 #[.slice A0 l0.length c0, .int .i64 most, .func (.func gc) #[] #[], .func (.func gs) #[] lb] w fun e w' => e = .returned (.bool r) ∧ Below w.heap.size w w' := by
  obtain ⟨r0, h1, h2⟩ := Option.bind_eq_some_iff.1 h;clear h;have hn : l0.length ≤ 9223372036854775807 := hr0.2.1;have H1 : Aside0 (srtF p q (prevOf l0 z91 0) (l0.drop 0) = some r0) := ⟨h1⟩;clear h1;have H2 := am h2;clear h2;have HP := am hp;clear hp;have HQ := am hq;clear hq;have HR := am hr0;clear hr0;have hu := Try.underlying91
  go_enter Try.func95, Try.ntmps95
  go_wp2
  go_loopg [9, 10, 13] l0.length (fun gg _ _ s13 wr => ∃ i : Nat, s13 = .int .i64 i ∧ Aside0 (i ≤ l0.length ∧ l0.length - i ≤ gg) ∧ Aside0 (Below w.heap.size w wr) ∧ Aside0 (srtF p q (prevOf l0 z91 i) (l0.drop i) = some r0))
  case atStart => exact ⟨0, rfl, ⟨by omega⟩, ⟨Below.refl _ w⟩, H1⟩
  case round =>
    clear H1;obtain ⟨i, rfl, hk, BW, HH⟩ := hrel;obtain ⟨hil, hg⟩ := hk.out;clear hk
    by_cases hlt : i < l0.length
    · obtain ⟨b, hb, hbr⟩ := srtF_at z91 hlt HH.out
      clear HH;obtain ⟨adx, ex, hx0, hx1⟩ := at_T91 (Kd.C_below HR.out BW.out) (i : Int) (by omega) (by omega);cases ex
      simp only [Int.toNat_natCast] at hx0 hx1
      have d1 : decide ((i : Int) < (l0.length : Int)) = true := decide_eq_true (by omega);have d2 : decide (0 ≤ (i : Int)) = true := decide_eq_true (by omega)
      go_wp2_with fail
      obtain ⟨W1, hW⟩ : ∃ W1, W1 = wr.alloc (Obj.cells #[.string (rd_T91 l0 ↑i).f0, .int .u64 (rd_T91 l0 ↑i).f1] 91) := ⟨_, rfl⟩;rw [← hW];have BW1 : Aside0 (Below w.heap.size w W1) := ⟨by rw [hW]; exact below_alloc BW.out _⟩;have BR1 : Aside0 (Below wr.heap.size wr W1) := ⟨by rw [hW]; exact below_alloc (Below.refl _ _) _⟩
      have BX : W1.heap[wr.heap.size]? = some (.cells #[.string (rd_T91 l0 ↑i).f0, .int .u64 (rd_T91 l0 ↑i).f1] 91 (0, 0)) := by rw [hW]; exact blk_new _ _
      have kx0 := blk_cell BX 0;have kx1 := blk_cell BX 1;have BD := am (below_drew1 BW1.out);have HC := am (HQ.out W1.drew (rd_T91 l0 (i : Int))  b BD.out  hb);clear hW BX hx0 hx1 hb
      have w8 : wrap64 ((i : Int) + 1) = ((i + 1 : Nat) : Int) := by unfold wrap64; omega
      rcases hbr with ⟨rfl, rfl⟩ | ⟨rfl, h0, hbr⟩ | ⟨rfl, h0, c, hc, hbr⟩
      · skip
        refine start_ (n := 19) (S := fun w' => w'.cell? ⟨wr.heap.size, 0, none⟩ = some (.string (rd_T91 l0 ↑i).f0) ∧ w'.cell? ⟨wr.heap.size, 1, none⟩ = some (.int .u64 (rd_T91 l0 ↑i).f1)) (ds := []) #[false, false, false, false, false, false, false, false, false, false, false, false, false, false, false, false, false, false, false] (by kernel_rfl) rfl rfl ⟨kx0, kx1⟩ (fun hHeld => ?_)
        refine pu 0 ?_;refine ta 1 hHeld ?_
        refine on1 2 (fun K hK => ?_)
        refine goesV_ es #[.agg #[.string (rd_T91 l0 ↑i).f0, .int .u64 (rd_T91 l0 ↑i).f1]] (by rfl) rfl rfl (by rfl) (by simp only [List.map_toArray, List.map_cons, List.map_nil]; rfl) ?_
        with_reducible refine (HC.out).mono ?_
        rintro e w3 ⟨rfl, hb3⟩
        refine ⟨_, rfl, ?_⟩
        refine hK.out _ _ ⟨pw_cell_below hb3 hHeld.1, pw_cell_below hb3 hHeld.2⟩ (fun hHeld => ?_)
        clear hK K;refine nm ?_;refine pu 3 ?_;refine pu 4 ?_;refine po 5 ?_;refine po 6 ?_;refine po 7 ?_;refine po 8 ?_;refine po 9 ?_;refine po 10 ?_;refine po 11 ?_;refine po 12 ?_;refine po 13 ?_;refine po 14 ?_;refine po 15 ?_;refine po 16 ?_;refine po 17 ?_;refine pu 18 ?_
        refine done_ (by kernel_rfl) ?_
        go_wp2
        go_ret
        exact ⟨by have h2 := H2.out; rw [if_neg (by decide)] at h2; rw [← Option.some.inj h2]; rfl, below_then BD.out BD.out.size hb3⟩
      · have HBR := am hbr
        clear hbr;have d3 : decide ((i : Int) > 0) = false := decide_eq_false (by omega);have d3n : decide (0 < i) = false := decide_eq_false (by omega);clear h0
        refine start_ (n := 19) (S := fun w' => w'.cell? ⟨wr.heap.size, 0, none⟩ = some (.string (rd_T91 l0 ↑i).f0) ∧ w'.cell? ⟨wr.heap.size, 1, none⟩ = some (.int .u64 (rd_T91 l0 ↑i).f1)) (ds := []) #[false, false, false, false, false, false, false, false, false, false, false, false, false, false, false, false, false, false, false] (by kernel_rfl) rfl rfl ⟨kx0, kx1⟩ (fun hHeld => ?_)
        refine pu 0 ?_;refine ta 1 hHeld ?_
        refine on1 2 (fun K hK => ?_)
        refine goesV_ es #[.agg #[.string (rd_T91 l0 ↑i).f0, .int .u64 (rd_T91 l0 ↑i).f1]] (by rfl) rfl rfl (by rfl) (by simp only [List.map_toArray, List.map_cons, List.map_nil]; rfl) ?_
        with_reducible refine (HC.out).mono ?_
        rintro e w3 ⟨rfl, hb3⟩
        refine ⟨_, rfl, ?_⟩
        refine hK.out _ _ ⟨pw_cell_below hb3 hHeld.1, pw_cell_below hb3 hHeld.2⟩ (fun hHeld => ?_)
        clear hK K;refine nm ?_;refine pu 3 ?_;refine pu 4 ?_;refine pu 5 ?_;refine pu 6 ?_;refine pu 7 ?_;refine po 8 ?_;refine po 9 ?_;refine po 10 ?_;refine po 11 ?_;refine po 12 ?_;refine po 13 ?_;refine po 14 ?_;refine po 15 ?_;refine po 16 ?_;refine pu 17 ?_;refine pu 18 ?_
        refine done_ (by kernel_rfl) ?_
        go_wp2
        go_roundg (l0.length - (i + 1))
        case measure => omega
        case rel => exact ⟨i + 1, by simp [w8], ⟨by omega⟩, ⟨below_then BD.out BD.out.size hb3⟩, HBR⟩
      · have HBR := am hbr
        clear hbr;have d3 : decide ((i : Int) > 0) = true := decide_eq_true (by omega);have d3n : decide (0 < i) = true := decide_eq_true h0;obtain ⟨j, hj⟩ : ∃ j : Nat, j = i - 1 := ⟨_, rfl⟩
        have w9 : wrap64 ((i : Int) - 1) = (j : Int) := by unfold wrap64; omega
        have w9' : IntKind.i64.wrap ((i : Int) - 1) = (j : Int) := by rw [IntKind.wrap_i64]; omega
        have d4 : decide (0 ≤ (j : Int)) = true := decide_eq_true (by omega);have d5 : decide ((j : Int) < (l0.length : Int)) = true := decide_eq_true (by omega);obtain ⟨ady, ey, hy0, hy1⟩ := at_T91 (Kd.C_below HR.out BW1.out) (j : Int) (by omega) (by omega);cases ey
        simp only [Int.toNat_natCast] at hy0 hy1
        rw [← hj] at hc;have HCC : Aside0 (p (rd_T91 l0 (j : Int)) (rd_T91 l0 (i : Int)) = some c) := ⟨hc⟩
        have hjl : j < l0.length := by omega
        clear hc hj;obtain ⟨d, hd⟩ : ∃ d, decide (c ≥ 0) = d := ⟨_, rfl⟩
        refine start_ (n := 19) (S := fun w' => w'.cell? ⟨wr.heap.size, 0, none⟩ = some (.string (rd_T91 l0 ↑i).f0) ∧ w'.cell? ⟨wr.heap.size, 1, none⟩ = some (.int .u64 (rd_T91 l0 ↑i).f1) ∧ w'.cell? (adx.add (j * 2)) = some (.string (rd_T91 l0 ↑j).f0) ∧ w'.cell? ⟨(adx.add (j * 2)).block, (adx.add (j * 2)).off + 1, none⟩ = some (.int .u64 (rd_T91 l0 ↑j).f1)) (ds := []) #[false, false, false, false, false, false, false, false, false, false, false, false, false, false, false, false, false, false, false] (by kernel_rfl) rfl rfl ⟨kx0, kx1, hy0, hy1⟩ (fun hHeld => ?_)
        refine pu 0 ?_;refine ta 1 hHeld ?_
        refine on1 2 (fun K hK => ?_)
        refine goesV_ es #[.agg #[.string (rd_T91 l0 ↑i).f0, .int .u64 (rd_T91 l0 ↑i).f1]] (by rfl) rfl rfl (by rfl) (by simp only [List.map_toArray, List.map_cons, List.map_nil]; rfl) ?_
        with_reducible refine (HC.out).mono ?_
        rintro e w3 ⟨rfl, hb3⟩
        refine ⟨_, rfl, ?_⟩
        refine hK.out _ _ ⟨pw_cell_below hb3 hHeld.1, pw_cell_below hb3 hHeld.2.1, pw_cell_below hb3 hHeld.2.2.1, pw_cell_below hb3 hHeld.2.2.2⟩ (fun hHeld => ?_)
        clear hK K;refine nm ?_;refine pu 3 ?_;refine pu 4 ?_;refine pu 5 ?_;refine pu 6 ?_;refine pu 7 ?_;refine pu 8 ?_;refine pu 9 ?_;refine pu 10 ?_;refine pu 11 ?_;refine pu 12 ?_;refine ta 13 hHeld ?_;refine ta 14 hHeld ?_
        refine on1 15 (fun K hK => ?_)
        refine goesV_ ec #[.agg #[.string (rd_T91 l0 ↑j).f0, .int .u64 (rd_T91 l0 ↑j).f1], .agg #[.string (rd_T91 l0 ↑i).f0, .int .u64 (rd_T91 l0 ↑i).f1]] (by rfl) rfl rfl (by rfl) (by simp only [List.map_toArray, List.map_cons, List.map_nil]; rfl) ?_
        rw [Array.append_empty]
        with_reducible refine (HP.out w3 (rd_T91 l0 (j : Int)) (rd_T91 l0 (i : Int))  c (below_then BD.out BD.out.size hb3)  HCC.out).mono ?_
        rintro e w4 ⟨rfl, hb4⟩
        refine ⟨_, rfl, ?_⟩
        refine hK.out _ _ ⟨pw_cell_below hb4 hHeld.1, pw_cell_below hb4 hHeld.2.1, pw_cell_below hb4 hHeld.2.2.1, pw_cell_below hb4 hHeld.2.2.2⟩ (fun hHeld => ?_)
        clear hK K;refine nm ?_;refine pu 16 ?_;refine pu 17 ?_;refine pu 18 ?_
        refine done_ (by kernel_rfl) ?_
        cases d with
        | false =>
          have hcn : c < 0 := by have := of_decide_eq_false hd; omega
          go_wp2
          go_roundg (l0.length - (i + 1))
          case measure => omega
          case rel => exact ⟨i + 1, by simp [w8], ⟨by omega⟩, ⟨below_then (below_then BD.out BD.out.size hb3) (Nat.le_trans BD.out.size hb3.size) hb4⟩, ⟨by rcases HBR.out with h | h <;> first | exact h.2 | (exfalso; have := h.1; omega)⟩⟩
        | true =>
          have hcn : ¬ c < 0 := by have := of_decide_eq_true hd; omega
          go_wp2
          go_ret
          exact ⟨by have h2 := H2.out; rw [show r0 = false from (by rcases HBR.out with h | h <;> first | exact h.2 | (exfalso; have := h.1; omega)), if_neg (by decide)] at h2; rw [← Option.some.inj h2]; rfl, below_then (below_then BD.out BD.out.size hb3) (Nat.le_trans BD.out.size hb3.size) hb4⟩
    · have d1 : decide ((i : Int) < (l0.length : Int)) = false := decide_eq_false (by omega)
      have hr := srtF_end hlt HH.out;clear HH;subst hr;have h2 := H2.out;rw [if_pos rfl] at h2;obtain rfl := Option.some.inj h2;clear H2 h2
      by_cases hz : (0 : Int) < (l0.length : Int)
      · have d3 : decide ((l0.length : Int) > 0) = true := decide_eq_true (by omega)
        have HZ : Aside0 (0 < l0.length) := ⟨by omega⟩
        go_wp2
        go_ret
        exact ⟨by have hz' := HZ.out; simp [hz'], BW.out⟩
      · have d3 : decide ((l0.length : Int) > 0) = false := decide_eq_false (by omega)
        have HZ : Aside0 (¬ 0 < l0.length) := ⟨by omega⟩
        go_wp2
        go_ret
        exact ⟨by have hz' := HZ.out; simp [hz'], BW.out⟩
set_option maxHeartbeats 4000000 in
set_option maxRecDepth 100000 in
theorem SortedBk_calls (gc gs : Nat) (lb : Array Value) (ec : ∀ args w, (callFunc gc args).run Try.prog w = .ok (.enter gc args) w) (es : ∀ args w, (callFunc gs args).run Try.prog w = .ok (.enter gs args) w) (p : S84 → S84 → Option Int) (q : S84 → Option Bool) (A0 : Option Addr) (c0 : Nat) (l0 : List S84) (most : Int) (r : Bool) (w : World)
   (hr0 : Kd.C k84 w A0 l0.length l0) (hc0 : l0.length ≤ c0)
   (hp : ∀ (W : World) (y x : S84) (Ay1 : Option Addr) (cy1 : Nat) (Ax1 : Option Addr) (cx1 : Nat) (c : Int), Below w.heap.size w W → y.f1.length ≤ cy1 → Kd.C k91 W Ay1 y.f1.length y.f1 → x.f1.length ≤ cx1 → Kd.C k91 W Ax1 x.f1.length x.f1 → p y x = some c → Calls Try.prog gc #[.agg #[.int .i64 y.f0, .slice Ay1 y.f1.length cy1], .agg #[.int .i64 x.f0, .slice Ax1 x.f1.length cx1]] W fun e w' => e = .returned (.int .i64 c) ∧ Below W.heap.size W w')
   (hq : ∀ (W : World) (x : S84) (Ax1 : Option Addr) (cx1 : Nat) (b : Bool), Below w.heap.size w W → x.f1.length ≤ cx1 → Kd.C k91 W Ax1 x.f1.length x.f1 → q x = some b → Calls Try.prog gs (#[.agg #[.int .i64 x.f0, .slice Ax1 x.f1.length cx1]] ++ lb) W fun e w' => e = .returned (.bool b) ∧ Below W.heap.size W w')
   (h : sortedF p q most l0 = some r) :
   Calls Try.prog 76 #[.slice A0 l0.length c0, .int .i64 most, .func (.func gc) #[] #[], .func (.func gs) #[] lb] w fun e w' => e = .returned (.bool r) ∧ Below w.heap.size w w' := by
  obtain ⟨r0, h1, h2⟩ := Option.bind_eq_some_iff.1 h;clear h;have hn : l0.length ≤ 9223372036854775807 := hr0.2.1;have H1 : Aside0 (srtF p q (prevOf l0 z84 0) (l0.drop 0) = some r0) := ⟨h1⟩;clear h1;have H2 := am h2;clear h2;have HP := am hp;clear hp;have HQ := am hq;clear hq;have HR := am hr0;clear hr0;have hu := Try.underlying84
  go_enter Try.func76, Try.ntmps76
  go_wp2
  go_loopg [9, 10, 13] l0.length (fun gg _ _ s13 wr => ∃ i : Nat, s13 = .int .i64 i ∧ Aside0 (i ≤ l0.length ∧ l0.length - i ≤ gg) ∧ Aside0 (Below w.heap.size w wr) ∧ Aside0 (srtF p q (prevOf l0 z84 i) (l0.drop i) = some r0))
  case atStart => exact ⟨0, rfl, ⟨by omega⟩, ⟨Below.refl _ w⟩, H1⟩
  case round =>
    clear H1;obtain ⟨i, rfl, hk, BW, HH⟩ := hrel;obtain ⟨hil, hg⟩ := hk.out;clear hk
    by_cases hlt : i < l0.length
    · obtain ⟨b, hb, hbr⟩ := srtF_at z84 hlt HH.out
      clear HH;obtain ⟨adx, Ax1, cx1, ex, hx0, hx1, hlx1, hCx1⟩ := at_T84 (Kd.C_below HR.out BW.out) (i : Int) (by omega) (by omega);cases ex
      simp only [Int.toNat_natCast] at hx0 hx1
      have d1 : decide ((i : Int) < (l0.length : Int)) = true := decide_eq_true (by omega);have d2 : decide (0 ≤ (i : Int)) = true := decide_eq_true (by omega)
      go_wp2_with fail
      obtain ⟨W1, hW⟩ : ∃ W1, W1 = wr.alloc (Obj.cells #[.int .i64 (rd_T84 l0 ↑i).f0, .slice Ax1 (rd_T84 l0 ↑i).f1.length cx1] 84) := ⟨_, rfl⟩;rw [← hW];have BW1 : Aside0 (Below w.heap.size w W1) := ⟨by rw [hW]; exact below_alloc BW.out _⟩;have BR1 : Aside0 (Below wr.heap.size wr W1) := ⟨by rw [hW]; exact below_alloc (Below.refl _ _) _⟩
      have BX : W1.heap[wr.heap.size]? = some (.cells #[.int .i64 (rd_T84 l0 ↑i).f0, .slice Ax1 (rd_T84 l0 ↑i).f1.length cx1] 84 (0, 0)) := by rw [hW]; exact blk_new _ _
      have kx0 := blk_cell BX 0;have kx1 := blk_cell BX 1;have BD := am (below_drew1 BW1.out);have HC := am (HQ.out W1.drew (rd_T84 l0 (i : Int)) Ax1 cx1 b BD.out hlx1 (Kd.C_below hCx1 BR1.out.drew) hb);clear hW BX hx0 hx1 hb
      have w8 : wrap64 ((i : Int) + 1) = ((i + 1 : Nat) : Int) := by unfold wrap64; omega
      rcases hbr with ⟨rfl, rfl⟩ | ⟨rfl, h0, hbr⟩ | ⟨rfl, h0, c, hc, hbr⟩
      · skip
        refine start_ (n := 19) (S := fun w' => w'.cell? ⟨wr.heap.size, 0, none⟩ = some (.int .i64 (rd_T84 l0 ↑i).f0) ∧ w'.cell? ⟨wr.heap.size, 1, none⟩ = some (.slice Ax1 (rd_T84 l0 ↑i).f1.length cx1)) (ds := []) #[false, false, false, false, false, false, false, false, false, false, false, false, false, false, false, false, false, false, false] (by kernel_rfl) rfl rfl ⟨kx0, kx1⟩ (fun hHeld => ?_)
        refine pu 0 ?_;refine ta 1 hHeld ?_
        refine on1 2 (fun K hK => ?_)
        refine goesV_ es #[.agg #[.int .i64 (rd_T84 l0 ↑i).f0, .slice Ax1 (rd_T84 l0 ↑i).f1.length cx1]] (by rfl) rfl rfl (by rfl) (by simp only [List.map_toArray, List.map_cons, List.map_nil]; rfl) ?_
        with_reducible refine (HC.out).mono ?_
        rintro e w3 ⟨rfl, hb3⟩
        refine ⟨_, rfl, ?_⟩
        refine hK.out _ _ ⟨pw_cell_below hb3 hHeld.1, pw_cell_below hb3 hHeld.2⟩ (fun hHeld => ?_)
        clear hK K;refine nm ?_;refine pu 3 ?_;refine pu 4 ?_;refine po 5 ?_;refine po 6 ?_;refine po 7 ?_;refine po 8 ?_;refine po 9 ?_;refine po 10 ?_;refine po 11 ?_;refine po 12 ?_;refine po 13 ?_;refine po 14 ?_;refine po 15 ?_;refine po 16 ?_;refine po 17 ?_;refine pu 18 ?_
        refine done_ (by kernel_rfl) ?_
        go_wp2
        go_ret
        exact ⟨by have h2 := H2.out; rw [if_neg (by decide)] at h2; rw [← Option.some.inj h2]; rfl, below_then BD.out BD.out.size hb3⟩
      · have HBR := am hbr
        clear hbr;have d3 : decide ((i : Int) > 0) = false := decide_eq_false (by omega);have d3n : decide (0 < i) = false := decide_eq_false (by omega);clear h0
        refine start_ (n := 19) (S := fun w' => w'.cell? ⟨wr.heap.size, 0, none⟩ = some (.int .i64 (rd_T84 l0 ↑i).f0) ∧ w'.cell? ⟨wr.heap.size, 1, none⟩ = some (.slice Ax1 (rd_T84 l0 ↑i).f1.length cx1)) (ds := []) #[false, false, false, false, false, false, false, false, false, false, false, false, false, false, false, false, false, false, false] (by kernel_rfl) rfl rfl ⟨kx0, kx1⟩ (fun hHeld => ?_)
        refine pu 0 ?_;refine ta 1 hHeld ?_
        refine on1 2 (fun K hK => ?_)
        refine goesV_ es #[.agg #[.int .i64 (rd_T84 l0 ↑i).f0, .slice Ax1 (rd_T84 l0 ↑i).f1.length cx1]] (by rfl) rfl rfl (by rfl) (by simp only [List.map_toArray, List.map_cons, List.map_nil]; rfl) ?_
        with_reducible refine (HC.out).mono ?_
        rintro e w3 ⟨rfl, hb3⟩
        refine ⟨_, rfl, ?_⟩
        refine hK.out _ _ ⟨pw_cell_below hb3 hHeld.1, pw_cell_below hb3 hHeld.2⟩ (fun hHeld => ?_)
        clear hK K;refine nm ?_;refine pu 3 ?_;refine pu 4 ?_;refine pu 5 ?_;refine pu 6 ?_;refine pu 7 ?_;refine po 8 ?_;refine po 9 ?_;refine po 10 ?_;refine po 11 ?_;refine po 12 ?_;refine po 13 ?_;refine po 14 ?_;refine po 15 ?_;refine po 16 ?_;refine pu 17 ?_;refine pu 18 ?_
        refine done_ (by kernel_rfl) ?_
        go_wp2
        go_roundg (l0.length - (i + 1))
        case measure => omega
        case rel => exact ⟨i + 1, by simp [w8], ⟨by omega⟩, ⟨below_then BD.out BD.out.size hb3⟩, HBR⟩
      · have HBR := am hbr
        clear hbr;have d3 : decide ((i : Int) > 0) = true := decide_eq_true (by omega);have d3n : decide (0 < i) = true := decide_eq_true h0;obtain ⟨j, hj⟩ : ∃ j : Nat, j = i - 1 := ⟨_, rfl⟩
        have w9 : wrap64 ((i : Int) - 1) = (j : Int) := by unfold wrap64; omega
        have w9' : IntKind.i64.wrap ((i : Int) - 1) = (j : Int) := by rw [IntKind.wrap_i64]; omega
        have d4 : decide (0 ≤ (j : Int)) = true := decide_eq_true (by omega);have d5 : decide ((j : Int) < (l0.length : Int)) = true := decide_eq_true (by omega);obtain ⟨ady, Ay1, cy1, ey, hy0, hy1, hly1, hCy1⟩ := at_T84 (Kd.C_below HR.out BW1.out) (j : Int) (by omega) (by omega);cases ey
        simp only [Int.toNat_natCast] at hy0 hy1
        rw [← hj] at hc;have HCC : Aside0 (p (rd_T84 l0 (j : Int)) (rd_T84 l0 (i : Int)) = some c) := ⟨hc⟩
        have hjl : j < l0.length := by omega
        clear hc hj;have HCy1 := am hCy1;have HCx1 := am (Kd.C_below hCx1 BR1.out);clear hCy1 hCx1;obtain ⟨d, hd⟩ : ∃ d, decide (c ≥ 0) = d := ⟨_, rfl⟩
        refine start_ (n := 19) (S := fun w' => w'.cell? ⟨wr.heap.size, 0, none⟩ = some (.int .i64 (rd_T84 l0 ↑i).f0) ∧ w'.cell? ⟨wr.heap.size, 1, none⟩ = some (.slice Ax1 (rd_T84 l0 ↑i).f1.length cx1) ∧ w'.cell? (adx.add (j * 2)) = some (.int .i64 (rd_T84 l0 ↑j).f0) ∧ w'.cell? ⟨(adx.add (j * 2)).block, (adx.add (j * 2)).off + 1, none⟩ = some (.slice Ay1 (rd_T84 l0 ↑j).f1.length cy1)) (ds := []) #[false, false, false, false, false, false, false, false, false, false, false, false, false, false, false, false, false, false, false] (by kernel_rfl) rfl rfl ⟨kx0, kx1, hy0, hy1⟩ (fun hHeld => ?_)
        refine pu 0 ?_;refine ta 1 hHeld ?_
        refine on1 2 (fun K hK => ?_)
        refine goesV_ es #[.agg #[.int .i64 (rd_T84 l0 ↑i).f0, .slice Ax1 (rd_T84 l0 ↑i).f1.length cx1]] (by rfl) rfl rfl (by rfl) (by simp only [List.map_toArray, List.map_cons, List.map_nil]; rfl) ?_
        with_reducible refine (HC.out).mono ?_
        rintro e w3 ⟨rfl, hb3⟩
        refine ⟨_, rfl, ?_⟩
        refine hK.out _ _ ⟨pw_cell_below hb3 hHeld.1, pw_cell_below hb3 hHeld.2.1, pw_cell_below hb3 hHeld.2.2.1, pw_cell_below hb3 hHeld.2.2.2⟩ (fun hHeld => ?_)
        clear hK K;refine nm ?_;refine pu 3 ?_;refine pu 4 ?_;refine pu 5 ?_;refine pu 6 ?_;refine pu 7 ?_;refine pu 8 ?_;refine pu 9 ?_;refine pu 10 ?_;refine pu 11 ?_;refine pu 12 ?_;refine ta 13 hHeld ?_;refine ta 14 hHeld ?_
        refine on1 15 (fun K hK => ?_)
        refine goesV_ ec #[.agg #[.int .i64 (rd_T84 l0 ↑j).f0, .slice Ay1 (rd_T84 l0 ↑j).f1.length cy1], .agg #[.int .i64 (rd_T84 l0 ↑i).f0, .slice Ax1 (rd_T84 l0 ↑i).f1.length cx1]] (by rfl) rfl rfl (by rfl) (by simp only [List.map_toArray, List.map_cons, List.map_nil]; rfl) ?_
        rw [Array.append_empty]
        with_reducible refine (HP.out w3 (rd_T84 l0 (j : Int)) (rd_T84 l0 (i : Int)) Ay1 cy1 Ax1 cx1 c (below_then BD.out BD.out.size hb3) hly1 (Kd.C_below (Kd.C_drew HCy1.out) hb3) hlx1 (Kd.C_below (Kd.C_drew HCx1.out) hb3) HCC.out).mono ?_
        rintro e w4 ⟨rfl, hb4⟩
        refine ⟨_, rfl, ?_⟩
        refine hK.out _ _ ⟨pw_cell_below hb4 hHeld.1, pw_cell_below hb4 hHeld.2.1, pw_cell_below hb4 hHeld.2.2.1, pw_cell_below hb4 hHeld.2.2.2⟩ (fun hHeld => ?_)
        clear hK K;refine nm ?_;refine pu 16 ?_;refine pu 17 ?_;refine pu 18 ?_
        refine done_ (by kernel_rfl) ?_
        cases d with
        | false =>
          have hcn : c < 0 := by have := of_decide_eq_false hd; omega
          go_wp2
          go_roundg (l0.length - (i + 1))
          case measure => omega
          case rel => exact ⟨i + 1, by simp [w8], ⟨by omega⟩, ⟨below_then (below_then BD.out BD.out.size hb3) (Nat.le_trans BD.out.size hb3.size) hb4⟩, ⟨by rcases HBR.out with h | h <;> first | exact h.2 | (exfalso; have := h.1; omega)⟩⟩
        | true =>
          have hcn : ¬ c < 0 := by have := of_decide_eq_true hd; omega
          go_wp2
          go_ret
          exact ⟨by have h2 := H2.out; rw [show r0 = false from (by rcases HBR.out with h | h <;> first | exact h.2 | (exfalso; have := h.1; omega)), if_neg (by decide)] at h2; rw [← Option.some.inj h2]; rfl, below_then (below_then BD.out BD.out.size hb3) (Nat.le_trans BD.out.size hb3.size) hb4⟩
    · have d1 : decide ((i : Int) < (l0.length : Int)) = false := decide_eq_false (by omega)
      have hr := srtF_end hlt HH.out;clear HH;subst hr;have h2 := H2.out;rw [if_pos rfl] at h2;obtain rfl := Option.some.inj h2;clear H2 h2
      by_cases hz : (0 : Int) < (l0.length : Int)
      · have d3 : decide ((l0.length : Int) > 0) = true := decide_eq_true (by omega)
        have HZ : Aside0 (0 < l0.length) := ⟨by omega⟩
        go_wp2
        go_ret
        exact ⟨by have hz' := HZ.out; simp [hz'], BW.out⟩
      · have d3 : decide ((l0.length : Int) > 0) = false := decide_eq_false (by omega)
        have HZ : Aside0 (¬ 0 < l0.length) := ⟨by omega⟩
        go_wp2
        go_ret
        exact ⟨by have hz' := HZ.out; simp [hz'], BW.out⟩
set_option maxHeartbeats 4000000 in
set_option maxRecDepth 100000 in
theorem SortedLb_calls (gc gs : Nat) (lb : Array Value) (ec : ∀ args w, (callFunc gc args).run Try.prog w = .ok (.enter gc args) w) (es : ∀ args w, (callFunc gs args).run Try.prog w = .ok (.enter gs args) w) (p : S67 → S67 → Option Int) (q : S67 → Option Bool) (A0 : Option Addr) (c0 : Nat) (l0 : List S67) (most : Int) (r : Bool) (w : World)
   (hr0 : Kd.C k67 w A0 l0.length l0) (hc0 : l0.length ≤ c0)
   (hp : ∀ (W : World) (y x : S67) (Ay2 : Option Addr) (cy2 : Nat) (Ax2 : Option Addr) (cx2 : Nat) (c : Int), Below w.heap.size w W → y.f2.length ≤ cy2 → Kd.C k84 W Ay2 y.f2.length y.f2 → x.f2.length ≤ cx2 → Kd.C k84 W Ax2 x.f2.length x.f2 → p y x = some c → Calls Try.prog gc #[.agg #[.string y.f0, .int .u64 y.f1, .slice Ay2 y.f2.length cy2], .agg #[.string x.f0, .int .u64 x.f1, .slice Ax2 x.f2.length cx2]] W fun e w' => e = .returned (.int .i64 c) ∧ Below W.heap.size W w')
   (hq : ∀ (W : World) (x : S67) (Ax2 : Option Addr) (cx2 : Nat) (b : Bool), Below w.heap.size w W → x.f2.length ≤ cx2 → Kd.C k84 W Ax2 x.f2.length x.f2 → q x = some b → Calls Try.prog gs (#[.agg #[.string x.f0, .int .u64 x.f1, .slice Ax2 x.f2.length cx2]] ++ lb) W fun e w' => e = .returned (.bool b) ∧ Below W.heap.size W w')
   (h : sortedF p q most l0 = some r) :
   Calls Try.prog 51 #[.slice A0 l0.length c0, .int .i64 most, .func (.func gc) #[] #[], .func (.func gs) #[] lb] w fun e w' => e = .returned (.bool r) ∧ Below w.heap.size w w' := by
  obtain ⟨r0, h1, h2⟩ := Option.bind_eq_some_iff.1 h;clear h;have hn : l0.length ≤ 9223372036854775807 := hr0.2.1;have H1 : Aside0 (srtF p q (prevOf l0 z67 0) (l0.drop 0) = some r0) := ⟨h1⟩;clear h1;have H2 := am h2;clear h2;have HP := am hp;clear hp;have HQ := am hq;clear hq;have HR := am hr0;clear hr0;have hu := Try.underlying67
  go_enter Try.func51, Try.ntmps51
  go_wp2
  go_loopg [9, 10, 13] l0.length (fun gg _ _ s13 wr => ∃ i : Nat, s13 = .int .i64 i ∧ Aside0 (i ≤ l0.length ∧ l0.length - i ≤ gg) ∧ Aside0 (Below w.heap.size w wr) ∧ Aside0 (srtF p q (prevOf l0 z67 i) (l0.drop i) = some r0))
  case atStart => exact ⟨0, rfl, ⟨by omega⟩, ⟨Below.refl _ w⟩, H1⟩
  case round =>
    clear H1;obtain ⟨i, rfl, hk, BW, HH⟩ := hrel;obtain ⟨hil, hg⟩ := hk.out;clear hk
    by_cases hlt : i < l0.length
    · obtain ⟨b, hb, hbr⟩ := srtF_at z67 hlt HH.out
      clear HH;obtain ⟨adx, Ax2, cx2, ex, hx0, hx1, hx2, hlx2, hCx2⟩ := at_T67 (Kd.C_below HR.out BW.out) (i : Int) (by omega) (by omega);cases ex
      simp only [Int.toNat_natCast] at hx0 hx1 hx2
      have d1 : decide ((i : Int) < (l0.length : Int)) = true := decide_eq_true (by omega);have d2 : decide (0 ≤ (i : Int)) = true := decide_eq_true (by omega)
      go_wp2_with fail
      obtain ⟨W1, hW⟩ : ∃ W1, W1 = wr.alloc (Obj.cells #[.string (rd_T67 l0 ↑i).f0, .int .u64 (rd_T67 l0 ↑i).f1, .slice Ax2 (rd_T67 l0 ↑i).f2.length cx2] 67) := ⟨_, rfl⟩;rw [← hW];have BW1 : Aside0 (Below w.heap.size w W1) := ⟨by rw [hW]; exact below_alloc BW.out _⟩;have BR1 : Aside0 (Below wr.heap.size wr W1) := ⟨by rw [hW]; exact below_alloc (Below.refl _ _) _⟩
      have BX : W1.heap[wr.heap.size]? = some (.cells #[.string (rd_T67 l0 ↑i).f0, .int .u64 (rd_T67 l0 ↑i).f1, .slice Ax2 (rd_T67 l0 ↑i).f2.length cx2] 67 (0, 0)) := by rw [hW]; exact blk_new _ _
      have kx0 := blk_cell BX 0;have kx1 := blk_cell BX 1;have kx2 := blk_cell BX 2;have BD := am (below_drew1 BW1.out);have HC := am (HQ.out W1.drew (rd_T67 l0 (i : Int)) Ax2 cx2 b BD.out hlx2 (Kd.C_below hCx2 BR1.out.drew) hb);clear hW BX hx0 hx1 hx2 hb
      have w8 : wrap64 ((i : Int) + 1) = ((i + 1 : Nat) : Int) := by unfold wrap64; omega
      rcases hbr with ⟨rfl, rfl⟩ | ⟨rfl, h0, hbr⟩ | ⟨rfl, h0, c, hc, hbr⟩
      · skip
        refine start_ (n := 19) (S := fun w' => w'.cell? ⟨wr.heap.size, 0, none⟩ = some (.string (rd_T67 l0 ↑i).f0) ∧ w'.cell? ⟨wr.heap.size, 1, none⟩ = some (.int .u64 (rd_T67 l0 ↑i).f1) ∧ w'.cell? ⟨wr.heap.size, 2, none⟩ = some (.slice Ax2 (rd_T67 l0 ↑i).f2.length cx2)) (ds := []) #[false, false, false, false, false, false, false, false, false, false, false, false, false, false, false, false, false, false, false] (by kernel_rfl) rfl rfl ⟨kx0, kx1, kx2⟩ (fun hHeld => ?_)
        refine pu 0 ?_;refine ta 1 hHeld ?_
        refine on1 2 (fun K hK => ?_)
        refine goesV_ es #[.agg #[.string (rd_T67 l0 ↑i).f0, .int .u64 (rd_T67 l0 ↑i).f1, .slice Ax2 (rd_T67 l0 ↑i).f2.length cx2]] (by rfl) rfl rfl (by rfl) (by simp only [List.map_toArray, List.map_cons, List.map_nil]; rfl) ?_
        with_reducible refine (HC.out).mono ?_
        rintro e w3 ⟨rfl, hb3⟩
        refine ⟨_, rfl, ?_⟩
        refine hK.out _ _ ⟨pw_cell_below hb3 hHeld.1, pw_cell_below hb3 hHeld.2.1, pw_cell_below hb3 hHeld.2.2⟩ (fun hHeld => ?_)
        clear hK K;refine nm ?_;refine pu 3 ?_;refine pu 4 ?_;refine po 5 ?_;refine po 6 ?_;refine po 7 ?_;refine po 8 ?_;refine po 9 ?_;refine po 10 ?_;refine po 11 ?_;refine po 12 ?_;refine po 13 ?_;refine po 14 ?_;refine po 15 ?_;refine po 16 ?_;refine po 17 ?_;refine pu 18 ?_
        refine done_ (by kernel_rfl) ?_
        go_wp2
        go_ret
        exact ⟨by have h2 := H2.out; rw [if_neg (by decide)] at h2; rw [← Option.some.inj h2]; rfl, below_then BD.out BD.out.size hb3⟩
      · have HBR := am hbr
        clear hbr;have d3 : decide ((i : Int) > 0) = false := decide_eq_false (by omega);have d3n : decide (0 < i) = false := decide_eq_false (by omega);clear h0
        refine start_ (n := 19) (S := fun w' => w'.cell? ⟨wr.heap.size, 0, none⟩ = some (.string (rd_T67 l0 ↑i).f0) ∧ w'.cell? ⟨wr.heap.size, 1, none⟩ = some (.int .u64 (rd_T67 l0 ↑i).f1) ∧ w'.cell? ⟨wr.heap.size, 2, none⟩ = some (.slice Ax2 (rd_T67 l0 ↑i).f2.length cx2)) (ds := []) #[false, false, false, false, false, false, false, false, false, false, false, false, false, false, false, false, false, false, false] (by kernel_rfl) rfl rfl ⟨kx0, kx1, kx2⟩ (fun hHeld => ?_)
        refine pu 0 ?_;refine ta 1 hHeld ?_
        refine on1 2 (fun K hK => ?_)
        refine goesV_ es #[.agg #[.string (rd_T67 l0 ↑i).f0, .int .u64 (rd_T67 l0 ↑i).f1, .slice Ax2 (rd_T67 l0 ↑i).f2.length cx2]] (by rfl) rfl rfl (by rfl) (by simp only [List.map_toArray, List.map_cons, List.map_nil]; rfl) ?_
        with_reducible refine (HC.out).mono ?_
        rintro e w3 ⟨rfl, hb3⟩
        refine ⟨_, rfl, ?_⟩
        refine hK.out _ _ ⟨pw_cell_below hb3 hHeld.1, pw_cell_below hb3 hHeld.2.1, pw_cell_below hb3 hHeld.2.2⟩ (fun hHeld => ?_)
        clear hK K;refine nm ?_;refine pu 3 ?_;refine pu 4 ?_;refine pu 5 ?_;refine pu 6 ?_;refine pu 7 ?_;refine po 8 ?_;refine po 9 ?_;refine po 10 ?_;refine po 11 ?_;refine po 12 ?_;refine po 13 ?_;refine po 14 ?_;refine po 15 ?_;refine po 16 ?_;refine pu 17 ?_;refine pu 18 ?_
        refine done_ (by kernel_rfl) ?_
        go_wp2
        go_roundg (l0.length - (i + 1))
        case measure => omega
        case rel => exact ⟨i + 1, by simp [w8], ⟨by omega⟩, ⟨below_then BD.out BD.out.size hb3⟩, HBR⟩
      · have HBR := am hbr
        clear hbr;have d3 : decide ((i : Int) > 0) = true := decide_eq_true (by omega);have d3n : decide (0 < i) = true := decide_eq_true h0;obtain ⟨j, hj⟩ : ∃ j : Nat, j = i - 1 := ⟨_, rfl⟩
        have w9 : wrap64 ((i : Int) - 1) = (j : Int) := by unfold wrap64; omega
        have w9' : IntKind.i64.wrap ((i : Int) - 1) = (j : Int) := by rw [IntKind.wrap_i64]; omega
        have d4 : decide (0 ≤ (j : Int)) = true := decide_eq_true (by omega);have d5 : decide ((j : Int) < (l0.length : Int)) = true := decide_eq_true (by omega);obtain ⟨ady, Ay2, cy2, ey, hy0, hy1, hy2, hly2, hCy2⟩ := at_T67 (Kd.C_below HR.out BW1.out) (j : Int) (by omega) (by omega);cases ey
        simp only [Int.toNat_natCast] at hy0 hy1 hy2
        rw [← hj] at hc;have HCC : Aside0 (p (rd_T67 l0 (j : Int)) (rd_T67 l0 (i : Int)) = some c) := ⟨hc⟩
        have hjl : j < l0.length := by omega
        clear hc hj;have HCy2 := am hCy2;have HCx2 := am (Kd.C_below hCx2 BR1.out);clear hCy2 hCx2;obtain ⟨d, hd⟩ : ∃ d, decide (c ≥ 0) = d := ⟨_, rfl⟩
        refine start_ (n := 19) (S := fun w' => w'.cell? ⟨wr.heap.size, 0, none⟩ = some (.string (rd_T67 l0 ↑i).f0) ∧ w'.cell? ⟨wr.heap.size, 1, none⟩ = some (.int .u64 (rd_T67 l0 ↑i).f1) ∧ w'.cell? ⟨wr.heap.size, 2, none⟩ = some (.slice Ax2 (rd_T67 l0 ↑i).f2.length cx2) ∧ w'.cell? (adx.add (j * 3)) = some (.string (rd_T67 l0 ↑j).f0) ∧ w'.cell? ⟨(adx.add (j * 3)).block, (adx.add (j * 3)).off + 1, none⟩ = some (.int .u64 (rd_T67 l0 ↑j).f1) ∧ w'.cell? ⟨(adx.add (j * 3)).block, (adx.add (j * 3)).off + 2, none⟩ = some (.slice Ay2 (rd_T67 l0 ↑j).f2.length cy2)) (ds := []) #[false, false, false, false, false, false, false, false, false, false, false, false, false, false, false, false, false, false, false] (by kernel_rfl) rfl rfl ⟨kx0, kx1, kx2, hy0, hy1, hy2⟩ (fun hHeld => ?_)
        refine pu 0 ?_;refine ta 1 hHeld ?_
        refine on1 2 (fun K hK => ?_)
        refine goesV_ es #[.agg #[.string (rd_T67 l0 ↑i).f0, .int .u64 (rd_T67 l0 ↑i).f1, .slice Ax2 (rd_T67 l0 ↑i).f2.length cx2]] (by rfl) rfl rfl (by rfl) (by simp only [List.map_toArray, List.map_cons, List.map_nil]; rfl) ?_
        with_reducible refine (HC.out).mono ?_
        rintro e w3 ⟨rfl, hb3⟩
        refine ⟨_, rfl, ?_⟩
        refine hK.out _ _ ⟨pw_cell_below hb3 hHeld.1, pw_cell_below hb3 hHeld.2.1, pw_cell_below hb3 hHeld.2.2.1, pw_cell_below hb3 hHeld.2.2.2.1, pw_cell_below hb3 hHeld.2.2.2.2.1, pw_cell_below hb3 hHeld.2.2.2.2.2⟩ (fun hHeld => ?_)
        clear hK K;refine nm ?_;refine pu 3 ?_;refine pu 4 ?_;refine pu 5 ?_;refine pu 6 ?_;refine pu 7 ?_;refine pu 8 ?_;refine pu 9 ?_;refine pu 10 ?_;refine pu 11 ?_;refine pu 12 ?_;refine ta 13 hHeld ?_;refine ta 14 hHeld ?_
        refine on1 15 (fun K hK => ?_)
        refine goesV_ ec #[.agg #[.string (rd_T67 l0 ↑j).f0, .int .u64 (rd_T67 l0 ↑j).f1, .slice Ay2 (rd_T67 l0 ↑j).f2.length cy2], .agg #[.string (rd_T67 l0 ↑i).f0, .int .u64 (rd_T67 l0 ↑i).f1, .slice Ax2 (rd_T67 l0 ↑i).f2.length cx2]] (by rfl) rfl rfl (by rfl) (by simp only [List.map_toArray, List.map_cons, List.map_nil]; rfl) ?_
        rw [Array.append_empty]
        with_reducible refine (HP.out w3 (rd_T67 l0 (j : Int)) (rd_T67 l0 (i : Int)) Ay2 cy2 Ax2 cx2 c (below_then BD.out BD.out.size hb3) hly2 (Kd.C_below (Kd.C_drew HCy2.out) hb3) hlx2 (Kd.C_below (Kd.C_drew HCx2.out) hb3) HCC.out).mono ?_
        rintro e w4 ⟨rfl, hb4⟩
        refine ⟨_, rfl, ?_⟩
        refine hK.out _ _ ⟨pw_cell_below hb4 hHeld.1, pw_cell_below hb4 hHeld.2.1, pw_cell_below hb4 hHeld.2.2.1, pw_cell_below hb4 hHeld.2.2.2.1, pw_cell_below hb4 hHeld.2.2.2.2.1, pw_cell_below hb4 hHeld.2.2.2.2.2⟩ (fun hHeld => ?_)
        clear hK K;refine nm ?_;refine pu 16 ?_;refine pu 17 ?_;refine pu 18 ?_
        refine done_ (by kernel_rfl) ?_
        cases d with
        | false =>
          have hcn : c < 0 := by have := of_decide_eq_false hd; omega
          go_wp2
          go_roundg (l0.length - (i + 1))
          case measure => omega
          case rel => exact ⟨i + 1, by simp [w8], ⟨by omega⟩, ⟨below_then (below_then BD.out BD.out.size hb3) (Nat.le_trans BD.out.size hb3.size) hb4⟩, ⟨by rcases HBR.out with h | h <;> first | exact h.2 | (exfalso; have := h.1; omega)⟩⟩
        | true =>
          have hcn : ¬ c < 0 := by have := of_decide_eq_true hd; omega
          go_wp2
          go_ret
          exact ⟨by have h2 := H2.out; rw [show r0 = false from (by rcases HBR.out with h | h <;> first | exact h.2 | (exfalso; have := h.1; omega)), if_neg (by decide)] at h2; rw [← Option.some.inj h2]; rfl, below_then (below_then BD.out BD.out.size hb3) (Nat.le_trans BD.out.size hb3.size) hb4⟩
    · have d1 : decide ((i : Int) < (l0.length : Int)) = false := decide_eq_false (by omega)
      have hr := srtF_end hlt HH.out;clear HH;subst hr;have h2 := H2.out;rw [if_pos rfl] at h2;obtain rfl := Option.some.inj h2;clear H2 h2
      by_cases hz : (0 : Int) < (l0.length : Int)
      · have d3 : decide ((l0.length : Int) > 0) = true := decide_eq_true (by omega)
        have HZ : Aside0 (0 < l0.length) := ⟨by omega⟩
        go_wp2
        go_ret
        exact ⟨by have hz' := HZ.out; simp [hz'], BW.out⟩
      · have d3 : decide ((l0.length : Int) > 0) = false := decide_eq_false (by omega)
        have HZ : Aside0 (¬ 0 < l0.length) := ⟨by omega⟩
        go_wp2
        go_ret
        exact ⟨by have hz' := HZ.out; simp [hz'], BW.out⟩
set_option maxHeartbeats 4000000 in
set_option maxRecDepth 100000 in
theorem SortedEp_calls (gc gs : Nat) (lb : Array Value) (ec : ∀ args w, (callFunc gc args).run Try.prog w = .ok (.enter gc args) w) (es : ∀ args w, (callFunc gs args).run Try.prog w = .ok (.enter gs args) w) (p : S63 → S63 → Option Int) (q : S63 → Option Bool) (A0 : Option Addr) (c0 : Nat) (l0 : List S63) (most : Int) (r : Bool) (w : World)
   (hr0 : Kd.C k63 w A0 l0.length l0) (hc0 : l0.length ≤ c0)
   (hp : ∀ (W : World) (y x : S63) (Ay1 : Option Addr) (cy1 : Nat) (Ax1 : Option Addr) (cx1 : Nat) (c : Int), Below w.heap.size w W → y.f1.length ≤ cy1 → Kd.C k67 W Ay1 y.f1.length y.f1 → x.f1.length ≤ cx1 → Kd.C k67 W Ax1 x.f1.length x.f1 → p y x = some c → Calls Try.prog gc #[.agg #[.int .i64 y.f0, .slice Ay1 y.f1.length cy1], .agg #[.int .i64 x.f0, .slice Ax1 x.f1.length cx1]] W fun e w' => e = .returned (.int .i64 c) ∧ Below W.heap.size W w')
   (hq : ∀ (W : World) (x : S63) (Ax1 : Option Addr) (cx1 : Nat) (b : Bool), Below w.heap.size w W → x.f1.length ≤ cx1 → Kd.C k67 W Ax1 x.f1.length x.f1 → q x = some b → Calls Try.prog gs (#[.agg #[.int .i64 x.f0, .slice Ax1 x.f1.length cx1]] ++ lb) W fun e w' => e = .returned (.bool b) ∧ Below W.heap.size W w')
   (h : sortedF p q most l0 = some r) :
   Calls Try.prog 29 #[.slice A0 l0.length c0, .int .i64 most, .func (.func gc) #[] #[], .func (.func gs) #[] lb] w fun e w' => e = .returned (.bool r) ∧ Below w.heap.size w w' := by
  obtain ⟨r0, h1, h2⟩ := Option.bind_eq_some_iff.1 h;clear h;have hn : l0.length ≤ 9223372036854775807 := hr0.2.1;have H1 : Aside0 (srtF p q (prevOf l0 z63 0) (l0.drop 0) = some r0) := ⟨h1⟩;clear h1;have H2 := am h2;clear h2;have HP := am hp;clear hp;have HQ := am hq;clear hq;have HR := am hr0;clear hr0;have hu := Try.underlying63
  go_enter Try.func29, Try.ntmps29
  go_wp2
  go_loopg [9, 10, 13] l0.length (fun gg _ _ s13 wr => ∃ i : Nat, s13 = .int .i64 i ∧ Aside0 (i ≤ l0.length ∧ l0.length - i ≤ gg) ∧ Aside0 (Below w.heap.size w wr) ∧ Aside0 (srtF p q (prevOf l0 z63 i) (l0.drop i) = some r0))
  case atStart => exact ⟨0, rfl, ⟨by omega⟩, ⟨Below.refl _ w⟩, H1⟩
  case round =>
    clear H1;obtain ⟨i, rfl, hk, BW, HH⟩ := hrel;obtain ⟨hil, hg⟩ := hk.out;clear hk
    by_cases hlt : i < l0.length
    · obtain ⟨b, hb, hbr⟩ := srtF_at z63 hlt HH.out
      clear HH;obtain ⟨adx, Ax1, cx1, ex, hx0, hx1, hlx1, hCx1⟩ := at_T63 (Kd.C_below HR.out BW.out) (i : Int) (by omega) (by omega);cases ex
      simp only [Int.toNat_natCast] at hx0 hx1
      have d1 : decide ((i : Int) < (l0.length : Int)) = true := decide_eq_true (by omega);have d2 : decide (0 ≤ (i : Int)) = true := decide_eq_true (by omega)
      go_wp2_with fail
      obtain ⟨W1, hW⟩ : ∃ W1, W1 = wr.alloc (Obj.cells #[.int .i64 (rd_T63 l0 ↑i).f0, .slice Ax1 (rd_T63 l0 ↑i).f1.length cx1] 63) := ⟨_, rfl⟩;rw [← hW];have BW1 : Aside0 (Below w.heap.size w W1) := ⟨by rw [hW]; exact below_alloc BW.out _⟩;have BR1 : Aside0 (Below wr.heap.size wr W1) := ⟨by rw [hW]; exact below_alloc (Below.refl _ _) _⟩
      have BX : W1.heap[wr.heap.size]? = some (.cells #[.int .i64 (rd_T63 l0 ↑i).f0, .slice Ax1 (rd_T63 l0 ↑i).f1.length cx1] 63 (0, 0)) := by rw [hW]; exact blk_new _ _
      have kx0 := blk_cell BX 0;have kx1 := blk_cell BX 1;have BD := am (below_drew1 BW1.out);have HC := am (HQ.out W1.drew (rd_T63 l0 (i : Int)) Ax1 cx1 b BD.out hlx1 (Kd.C_below hCx1 BR1.out.drew) hb);clear hW BX hx0 hx1 hb
      have w8 : wrap64 ((i : Int) + 1) = ((i + 1 : Nat) : Int) := by unfold wrap64; omega
      rcases hbr with ⟨rfl, rfl⟩ | ⟨rfl, h0, hbr⟩ | ⟨rfl, h0, c, hc, hbr⟩
      · skip
        refine start_ (n := 19) (S := fun w' => w'.cell? ⟨wr.heap.size, 0, none⟩ = some (.int .i64 (rd_T63 l0 ↑i).f0) ∧ w'.cell? ⟨wr.heap.size, 1, none⟩ = some (.slice Ax1 (rd_T63 l0 ↑i).f1.length cx1)) (ds := []) #[false, false, false, false, false, false, false, false, false, false, false, false, false, false, false, false, false, false, false] (by kernel_rfl) rfl rfl ⟨kx0, kx1⟩ (fun hHeld => ?_)
        refine pu 0 ?_;refine ta 1 hHeld ?_
        refine on1 2 (fun K hK => ?_)
        refine goesV_ es #[.agg #[.int .i64 (rd_T63 l0 ↑i).f0, .slice Ax1 (rd_T63 l0 ↑i).f1.length cx1]] (by rfl) rfl rfl (by rfl) (by simp only [List.map_toArray, List.map_cons, List.map_nil]; rfl) ?_
        with_reducible refine (HC.out).mono ?_
        rintro e w3 ⟨rfl, hb3⟩
        refine ⟨_, rfl, ?_⟩
        refine hK.out _ _ ⟨pw_cell_below hb3 hHeld.1, pw_cell_below hb3 hHeld.2⟩ (fun hHeld => ?_)
        clear hK K;refine nm ?_;refine pu 3 ?_;refine pu 4 ?_;refine po 5 ?_;refine po 6 ?_;refine po 7 ?_;refine po 8 ?_;refine po 9 ?_;refine po 10 ?_;refine po 11 ?_;refine po 12 ?_;refine po 13 ?_;refine po 14 ?_;refine po 15 ?_;refine po 16 ?_;refine po 17 ?_;refine pu 18 ?_
        refine done_ (by kernel_rfl) ?_
        go_wp2
        go_ret
        exact ⟨by have h2 := H2.out; rw [if_neg (by decide)] at h2; rw [← Option.some.inj h2]; rfl, below_then BD.out BD.out.size hb3⟩
      · have HBR := am hbr
        clear hbr;have d3 : decide ((i : Int) > 0) = false := decide_eq_false (by omega);have d3n : decide (0 < i) = false := decide_eq_false (by omega);clear h0
        refine start_ (n := 19) (S := fun w' => w'.cell? ⟨wr.heap.size, 0, none⟩ = some (.int .i64 (rd_T63 l0 ↑i).f0) ∧ w'.cell? ⟨wr.heap.size, 1, none⟩ = some (.slice Ax1 (rd_T63 l0 ↑i).f1.length cx1)) (ds := []) #[false, false, false, false, false, false, false, false, false, false, false, false, false, false, false, false, false, false, false] (by kernel_rfl) rfl rfl ⟨kx0, kx1⟩ (fun hHeld => ?_)
        refine pu 0 ?_;refine ta 1 hHeld ?_
        refine on1 2 (fun K hK => ?_)
        refine goesV_ es #[.agg #[.int .i64 (rd_T63 l0 ↑i).f0, .slice Ax1 (rd_T63 l0 ↑i).f1.length cx1]] (by rfl) rfl rfl (by rfl) (by simp only [List.map_toArray, List.map_cons, List.map_nil]; rfl) ?_
        with_reducible refine (HC.out).mono ?_
        rintro e w3 ⟨rfl, hb3⟩
        refine ⟨_, rfl, ?_⟩
        refine hK.out _ _ ⟨pw_cell_below hb3 hHeld.1, pw_cell_below hb3 hHeld.2⟩ (fun hHeld => ?_)
        clear hK K;refine nm ?_;refine pu 3 ?_;refine pu 4 ?_;refine pu 5 ?_;refine pu 6 ?_;refine pu 7 ?_;refine po 8 ?_;refine po 9 ?_;refine po 10 ?_;refine po 11 ?_;refine po 12 ?_;refine po 13 ?_;refine po 14 ?_;refine po 15 ?_;refine po 16 ?_;refine pu 17 ?_;refine pu 18 ?_
        refine done_ (by kernel_rfl) ?_
        go_wp2
        go_roundg (l0.length - (i + 1))
        case measure => omega
        case rel => exact ⟨i + 1, by simp [w8], ⟨by omega⟩, ⟨below_then BD.out BD.out.size hb3⟩, HBR⟩
      · have HBR := am hbr
        clear hbr;have d3 : decide ((i : Int) > 0) = true := decide_eq_true (by omega);have d3n : decide (0 < i) = true := decide_eq_true h0;obtain ⟨j, hj⟩ : ∃ j : Nat, j = i - 1 := ⟨_, rfl⟩
        have w9 : wrap64 ((i : Int) - 1) = (j : Int) := by unfold wrap64; omega
        have w9' : IntKind.i64.wrap ((i : Int) - 1) = (j : Int) := by rw [IntKind.wrap_i64]; omega
        have d4 : decide (0 ≤ (j : Int)) = true := decide_eq_true (by omega);have d5 : decide ((j : Int) < (l0.length : Int)) = true := decide_eq_true (by omega);obtain ⟨ady, Ay1, cy1, ey, hy0, hy1, hly1, hCy1⟩ := at_T63 (Kd.C_below HR.out BW1.out) (j : Int) (by omega) (by omega);cases ey
        simp only [Int.toNat_natCast] at hy0 hy1
        rw [← hj] at hc;have HCC : Aside0 (p (rd_T63 l0 (j : Int)) (rd_T63 l0 (i : Int)) = some c) := ⟨hc⟩
        have hjl : j < l0.length := by omega
        clear hc hj;have HCy1 := am hCy1;have HCx1 := am (Kd.C_below hCx1 BR1.out);clear hCy1 hCx1;obtain ⟨d, hd⟩ : ∃ d, decide (c ≥ 0) = d := ⟨_, rfl⟩
        refine start_ (n := 19) (S := fun w' => w'.cell? ⟨wr.heap.size, 0, none⟩ = some (.int .i64 (rd_T63 l0 ↑i).f0) ∧ w'.cell? ⟨wr.heap.size, 1, none⟩ = some (.slice Ax1 (rd_T63 l0 ↑i).f1.length cx1) ∧ w'.cell? (adx.add (j * 2)) = some (.int .i64 (rd_T63 l0 ↑j).f0) ∧ w'.cell? ⟨(adx.add (j * 2)).block, (adx.add (j * 2)).off + 1, none⟩ = some (.slice Ay1 (rd_T63 l0 ↑j).f1.length cy1)) (ds := []) #[false, false, false, false, false, false, false, false, false, false, false, false, false, false, false, false, false, false, false] (by kernel_rfl) rfl rfl ⟨kx0, kx1, hy0, hy1⟩ (fun hHeld => ?_)
        refine pu 0 ?_;refine ta 1 hHeld ?_
        refine on1 2 (fun K hK => ?_)
        refine goesV_ es #[.agg #[.int .i64 (rd_T63 l0 ↑i).f0, .slice Ax1 (rd_T63 l0 ↑i).f1.length cx1]] (by rfl) rfl rfl (by rfl) (by simp only [List.map_toArray, List.map_cons, List.map_nil]; rfl) ?_
        with_reducible refine (HC.out).mono ?_
        rintro e w3 ⟨rfl, hb3⟩
        refine ⟨_, rfl, ?_⟩
        refine hK.out _ _ ⟨pw_cell_below hb3 hHeld.1, pw_cell_below hb3 hHeld.2.1, pw_cell_below hb3 hHeld.2.2.1, pw_cell_below hb3 hHeld.2.2.2⟩ (fun hHeld => ?_)
        clear hK K;refine nm ?_;refine pu 3 ?_;refine pu 4 ?_;refine pu 5 ?_;refine pu 6 ?_;refine pu 7 ?_;refine pu 8 ?_;refine pu 9 ?_;refine pu 10 ?_;refine pu 11 ?_;refine pu 12 ?_;refine ta 13 hHeld ?_;refine ta 14 hHeld ?_
        refine on1 15 (fun K hK => ?_)
        refine goesV_ ec #[.agg #[.int .i64 (rd_T63 l0 ↑j).f0, .slice Ay1 (rd_T63 l0 ↑j).f1.length cy1], .agg #[.int .i64 (rd_T63 l0 ↑i).f0, .slice Ax1 (rd_T63 l0 ↑i).f1.length cx1]] (by rfl) rfl rfl (by rfl) (by simp only [List.map_toArray, List.map_cons, List.map_nil]; rfl) ?_
        rw [Array.append_empty]
        with_reducible refine (HP.out w3 (rd_T63 l0 (j : Int)) (rd_T63 l0 (i : Int)) Ay1 cy1 Ax1 cx1 c (below_then BD.out BD.out.size hb3) hly1 (Kd.C_below (Kd.C_drew HCy1.out) hb3) hlx1 (Kd.C_below (Kd.C_drew HCx1.out) hb3) HCC.out).mono ?_
        rintro e w4 ⟨rfl, hb4⟩
        refine ⟨_, rfl, ?_⟩
        refine hK.out _ _ ⟨pw_cell_below hb4 hHeld.1, pw_cell_below hb4 hHeld.2.1, pw_cell_below hb4 hHeld.2.2.1, pw_cell_below hb4 hHeld.2.2.2⟩ (fun hHeld => ?_)
        clear hK K;refine nm ?_;refine pu 16 ?_;refine pu 17 ?_;refine pu 18 ?_
        refine done_ (by kernel_rfl) ?_
        cases d with
        | false =>
          have hcn : c < 0 := by have := of_decide_eq_false hd; omega
          go_wp2
          go_roundg (l0.length - (i + 1))
          case measure => omega
          case rel => exact ⟨i + 1, by simp [w8], ⟨by omega⟩, ⟨below_then (below_then BD.out BD.out.size hb3) (Nat.le_trans BD.out.size hb3.size) hb4⟩, ⟨by rcases HBR.out with h | h <;> first | exact h.2 | (exfalso; have := h.1; omega)⟩⟩
        | true =>
          have hcn : ¬ c < 0 := by have := of_decide_eq_true hd; omega
          go_wp2
          go_ret
          exact ⟨by have h2 := H2.out; rw [show r0 = false from (by rcases HBR.out with h | h <;> first | exact h.2 | (exfalso; have := h.1; omega)), if_neg (by decide)] at h2; rw [← Option.some.inj h2]; rfl, below_then (below_then BD.out BD.out.size hb3) (Nat.le_trans BD.out.size hb3.size) hb4⟩
    · have d1 : decide ((i : Int) < (l0.length : Int)) = false := decide_eq_false (by omega)
      have hr := srtF_end hlt HH.out;clear HH;subst hr;have h2 := H2.out;rw [if_pos rfl] at h2;obtain rfl := Option.some.inj h2;clear H2 h2
      by_cases hz : (0 : Int) < (l0.length : Int)
      · have d3 : decide ((l0.length : Int) > 0) = true := decide_eq_true (by omega)
        have HZ : Aside0 (0 < l0.length) := ⟨by omega⟩
        go_wp2
        go_ret
        exact ⟨by have hz' := HZ.out; simp [hz'], BW.out⟩
      · have d3 : decide ((l0.length : Int) > 0) = false := decide_eq_false (by omega)
        have HZ : Aside0 (¬ 0 < l0.length) := ⟨by omega⟩
        go_wp2
        go_ret
        exact ⟨by have hz' := HZ.out; simp [hz'], BW.out⟩
def pTr (k : Nat) (y x : S91) : Option Int := t_byTrace.f k y.f0 y.f1 x.f0 x.f1
def pBk (y x : S84) : Option Int := t_byBucket.f y.f0 y.f1 x.f0 x.f1
def pLb (k : Nat) (y x : S67) : Option Int := t_byLabel.f k y.f0 y.f1 y.f2 x.f0 x.f1 x.f2
def pEp (y x : S63) : Option Int := t_byEpoch.f y.f0 y.f1 x.f0 x.f1
def qTr (k : Nat) (a b E L M W : Int) (eps : List S63) (x : S91) : Option Bool := t_named.f k a b E L M W eps x.f0 x.f1
def qBk (k : Nat) (a b E L M W : Int) (eps : List S63) (x : S84) : Option Bool := (t_fits.f x.f0 0 63).bind fun t => if t = true then sortedF (pTr k) (qTr k a b E L M W eps) M x.f1 else some false
def qLb (k : Nat) (a b E L M W : Int) (eps : List S63) (x : S67) : Option Bool := (t_named.f k a b E L M W eps x.f0 x.f1).bind fun t => if t = true then sortedF pBk (qBk k a b E L M W eps) 64 x.f2 else some false
def qEp (k : Nat) (a b E L M W : Int) (eps : List S63) (x : S63) : Option Bool := (t_fits.f x.f0 W (min (wrap64 (wrap64 (W + E) - 1)) 2147483647)).bind fun t => if t = true then sortedF (pLb k) (qLb k a b E L M W eps) L x.f1 else some false
theorem qTr_leo (k : Nat) (a b E L M W : Int) (eps : List S63) (x : S91) : LeO (qTr k a b E L M W eps x) (qTr (k + 1) a b E L M W eps x) := t_named.mono _ _ _ _ _ _ _ _ _ k
theorem qBk_leo (k : Nat) (a b E L M W : Int) (eps : List S63) (x : S84) : LeO (qBk k a b E L M W eps x) (qBk (k + 1) a b E L M W eps x) :=
  LeO.bind (LeO.refl _) (fun _ => LeO.ite (sortedF_leo (fun y x => t_byTrace.mono _ _ _ _ k) (fun x => qTr_leo k a b E L M W eps x) _ _) (LeO.refl _))
theorem qLb_leo (k : Nat) (a b E L M W : Int) (eps : List S63) (x : S67) : LeO (qLb k a b E L M W eps x) (qLb (k + 1) a b E L M W eps x) :=
  LeO.bind (t_named.mono _ _ _ _ _ _ _ _ _ k) (fun _ => LeO.ite (sortedF_leo (fun y x => LeO.refl _) (fun x => qBk_leo k a b E L M W eps x) _ _) (LeO.refl _))
theorem qEp_leo (k : Nat) (a b E L M W : Int) (eps : List S63) (x : S63) : LeO (qEp k a b E L M W eps x) (qEp (k + 1) a b E L M W eps x) :=
  LeO.bind (LeO.refl _) (fun _ => LeO.ite (sortedF_leo (fun y x => t_byLabel.mono _ _ _ _ _ _ k) (fun x => qLb_leo k a b E L M W eps x) _ _) (LeO.refl _))
def t_Right.f (k : Nat) (a b E L M W : Int) (eps : List S63) : Option Bool := (t_New.f a b E L M).bind fun r => if r.2.2.2.2.2.2.2 = 0 then (t_fits.f W 0 2147483647).bind fun t => if t = true then (if (eps.length : Int) = 0 then some true else sortedF pEp (qEp k a b E L M W eps) E eps) else some false else some false
theorem t_Right.mono : ∀ a0 a1 a2 a3 a4 a5 a6 k, LeO (t_Right.f k a0 a1 a2 a3 a4 a5 a6) (t_Right.f (k + 1) a0 a1 a2 a3 a4 a5 a6) := by
  intro a0 a1 a2 a3 a4 a5 a6 k
  exact LeO.bind (LeO.refl _) (fun _ => LeO.ite (LeO.bind (LeO.refl _) (fun _ => LeO.ite (LeO.ite (LeO.refl _) (sortedF_leo (fun y x => LeO.refl _) (fun x => qEp_leo k a0 a1 a2 a3 a4 a5 a6 x) _ _)) (LeO.refl _))) (LeO.refl _))
theorem blk_newAt3 (w : World) (o : Obj) {g : Nat} (h : g = w.heap.size) : (w.alloc o).heap[g]? = some o := by subst h; exact blk_new _ _
set_option maxHeartbeats 1000000 in
set_option maxRecDepth 100000 in
theorem C96_calls (k : Nat) (a b E L M W : Int) (Ae : Option Addr) (ce : Nat) (eps : List S63) (B : Nat) (x : S91)  (r : Bool) (w : World) (hB : w.heap[B]? = some (.cells #[.int .u64 a, .int .u64 b, .int .i64 E, .int .i64 L, .int .i64 M, .int .i64 W, .slice Ae eps.length ce] 27 (0, 0))) (hce : eps.length ≤ ce) (hCe : Kd.C k63 w Ae eps.length eps)  (h : qTr k a b E L M W eps x = some r) :
    Calls Try.prog 96 #[.agg #[.string x.f0, .int .u64 x.f1], .pointer (some ⟨B, 0, none⟩)] w fun e w' => e = .returned (.bool r) ∧ Below w.heap.size w w' := by
  have hu27 := Try.underlying27;have HH := am h;have HB := am hB;have HCE := am (Kd.C_below hCe (below_alloc (Below.refl _ _) (Obj.cells #[.string x.f0, .int .u64 x.f1] 91)));clear h hB hCe
  have y0 : ∀ o, (w.alloc o).cell? ⟨B, 0, none⟩ = some (.int .u64 a) := fun o => pw_cell_below (below_alloc (Below.refl _ _) o) (blk_cell HB.out 0)
  have y1 : ∀ o, (w.alloc o).cell? ⟨B, 1, none⟩ = some (.int .u64 b) := fun o => pw_cell_below (below_alloc (Below.refl _ _) o) (blk_cell HB.out 1)
  have y2 : ∀ o, (w.alloc o).cell? ⟨B, 2, none⟩ = some (.int .i64 E) := fun o => pw_cell_below (below_alloc (Below.refl _ _) o) (blk_cell HB.out 2)
  have y3 : ∀ o, (w.alloc o).cell? ⟨B, 3, none⟩ = some (.int .i64 L) := fun o => pw_cell_below (below_alloc (Below.refl _ _) o) (blk_cell HB.out 3)
  have y4 : ∀ o, (w.alloc o).cell? ⟨B, 4, none⟩ = some (.int .i64 M) := fun o => pw_cell_below (below_alloc (Below.refl _ _) o) (blk_cell HB.out 4)
  have y5 : ∀ o, (w.alloc o).cell? ⟨B, 5, none⟩ = some (.int .i64 W) := fun o => pw_cell_below (below_alloc (Below.refl _ _) o) (blk_cell HB.out 5)
  have y6 : ∀ o, (w.alloc o).cell? ⟨B, 6, none⟩ = some (.slice Ae eps.length ce) := fun o => pw_cell_below (below_alloc (Below.refl _ _) o) (blk_cell HB.out 6)
  go_enter Try.func96, Try.ntmps96
  go_wp2_with fail
  refine (t_named.calls k a b E L M W Ae ce eps x.f0 x.f1 r _ HCE.out hce HH.out).mono ?_
  rintro e w1 ⟨rfl, hb⟩
  go_wp2
  go_ret
  exact ⟨rfl, below_step (below_alloc (Below.refl _ _) _) hb⟩
set_option maxHeartbeats 1000000 in
set_option maxRecDepth 100000 in
theorem S78_calls (k : Nat) (a b E L M W : Int) (Ae : Option Addr) (ce : Nat) (eps : List S63) (x : S84) (Ax1 : Option Addr) (cx1 : Nat) (r : Bool) (w : World) (hce : eps.length ≤ ce) (hCe : Kd.C k63 w Ae eps.length eps) (hl1 : x.f1.length ≤ cx1) (hC1 : Kd.C k91 w Ax1 x.f1.length x.f1) (h : qBk k a b E L M W eps x = some r) :
    Calls Try.prog 78 #[.agg #[.int .u64 a, .int .u64 b, .int .i64 E, .int .i64 L, .int .i64 M, .int .i64 W, .slice Ae eps.length ce], .agg #[.int .i64 x.f0, .slice Ax1 x.f1.length cx1]] w fun e w' => e = .returned (.bool r) ∧ Below w.heap.size w w' := by
  have hu27 := Try.underlying27;have hu := Try.underlying84
  unfold qBk at h
  obtain ⟨t, ht, h⟩ := Option.bind_eq_some_iff.1 h;have HH := am h;have HT := am ht;have HCE := am hCe;have HC := am hC1;clear h ht hCe hC1
  go_enter Try.func78, Try.ntmps78
  go_wp2_with fail
  refine (t_fits.calls x.f0 0 63 t _ HT.out).mono ?_
  rintro e w1 ⟨rfl, hd⟩
  obtain ⟨n, hn⟩ := hd.out;have HB1 : Aside0 (Below w.heap.size w w1) := ⟨by rw [hn]; exact pw_below_drewN (below_alloc (below_alloc (Below.refl _ _) _) _) n⟩;have B0 : Aside0 (w1.heap[w.heap.size]? = some (.cells #[.int .u64 a, .int .u64 b, .int .i64 E, .int .i64 L, .int .i64 M, .int .i64 W, .slice Ae eps.length ce] 27 (0, 0))) := ⟨by rw [hn]; exact blk_drewN (blk_alloc (blk_new _ _) _) n⟩;have B1 : Aside0 (w1.heap[w.heap.size + 1]? = some (.cells #[.int .i64 x.f0, .slice Ax1 x.f1.length cx1] 84 (0, 0))) := ⟨by rw [hn]; exact blk_drewN (blk_newAt3 _ _ (by simp)) n⟩;clear hn hd;have s0 := blk_cell B0.out 0;have s2 := blk_cell B0.out 2;have s3 := blk_cell B0.out 3;have s4 := blk_cell B0.out 4;have x1 := blk_cell B1.out 1;clear HT
  cases t with
  | false =>
    obtain rfl : r = false := by have h := HH.out; rw [if_neg (by decide)] at h; exact (Option.some.inj h).symm
    go_wp2
    go_ret
    exact ⟨rfl, HB1.out⟩
  | true =>
    have h := HH.out;rw [if_pos rfl] at h;have HS := am h;clear h HH;have ec : ∀ args w, (callFunc 38 args).run Try.prog w = .ok (.enter 38 args) w := enter_at Try.func38 (by kernel_rfl) rfl;have es : ∀ args w, (callFunc 96 args).run Try.prog w = .ok (.enter 96 args) w := enter_at Try.func96 (by kernel_rfl) rfl
    go_wp2_with fail
    refine (SortedTr_calls 38 96 #[.pointer (some ⟨w.heap.size, 0, none⟩)] ec es (pTr k) (qTr k a b E L M W eps) Ax1 cx1 x.f1 M r w1 (Kd.C_below HC.out HB1.out) hl1 (fun W y x   c hb  hc => t_byTrace.calls k _ _ _ _ c W hc) (fun W_ x  b_ hb  hh => by simpa using C96_calls k a b E L M W Ae ce eps w.heap.size x  b_ W_ (blk_below B0.out hb) hce (Kd.C_below (Kd.C_below HCE.out HB1.out) hb)  hh) HS.out).mono ?_
    rintro e w2 ⟨rfl, hb2⟩
    go_wp2
    go_ret
    exact ⟨rfl, below_step HB1.out hb2⟩
set_option maxHeartbeats 1000000 in
set_option maxRecDepth 100000 in
theorem C77_calls (k : Nat) (a b E L M W : Int) (Ae : Option Addr) (ce : Nat) (eps : List S63) (B : Nat) (x : S84) (Ax1 : Option Addr) (cx1 : Nat) (r : Bool) (w : World) (hB : w.heap[B]? = some (.cells #[.int .u64 a, .int .u64 b, .int .i64 E, .int .i64 L, .int .i64 M, .int .i64 W, .slice Ae eps.length ce] 27 (0, 0))) (hce : eps.length ≤ ce) (hCe : Kd.C k63 w Ae eps.length eps) (hl1 : x.f1.length ≤ cx1) (hC1 : Kd.C k91 w Ax1 x.f1.length x.f1) (h : qBk k a b E L M W eps x = some r) :
    Calls Try.prog 77 #[.agg #[.int .i64 x.f0, .slice Ax1 x.f1.length cx1], .pointer (some ⟨B, 0, none⟩)] w fun e w' => e = .returned (.bool r) ∧ Below w.heap.size w w' := by
  have hu27 := Try.underlying27;have HH := am h;have HB := am hB;have HCE := am (Kd.C_below hCe (below_alloc (Below.refl _ _) (Obj.cells #[.int .i64 x.f0, .slice Ax1 x.f1.length cx1] 84)));have HC1 := am (Kd.C_below hC1 (below_alloc (Below.refl _ _) (Obj.cells #[.int .i64 x.f0, .slice Ax1 x.f1.length cx1] 84)));clear hC1 h hB hCe
  have y0 : ∀ o, (w.alloc o).cell? ⟨B, 0, none⟩ = some (.int .u64 a) := fun o => pw_cell_below (below_alloc (Below.refl _ _) o) (blk_cell HB.out 0)
  have y1 : ∀ o, (w.alloc o).cell? ⟨B, 1, none⟩ = some (.int .u64 b) := fun o => pw_cell_below (below_alloc (Below.refl _ _) o) (blk_cell HB.out 1)
  have y2 : ∀ o, (w.alloc o).cell? ⟨B, 2, none⟩ = some (.int .i64 E) := fun o => pw_cell_below (below_alloc (Below.refl _ _) o) (blk_cell HB.out 2)
  have y3 : ∀ o, (w.alloc o).cell? ⟨B, 3, none⟩ = some (.int .i64 L) := fun o => pw_cell_below (below_alloc (Below.refl _ _) o) (blk_cell HB.out 3)
  have y4 : ∀ o, (w.alloc o).cell? ⟨B, 4, none⟩ = some (.int .i64 M) := fun o => pw_cell_below (below_alloc (Below.refl _ _) o) (blk_cell HB.out 4)
  have y5 : ∀ o, (w.alloc o).cell? ⟨B, 5, none⟩ = some (.int .i64 W) := fun o => pw_cell_below (below_alloc (Below.refl _ _) o) (blk_cell HB.out 5)
  have y6 : ∀ o, (w.alloc o).cell? ⟨B, 6, none⟩ = some (.slice Ae eps.length ce) := fun o => pw_cell_below (below_alloc (Below.refl _ _) o) (blk_cell HB.out 6)
  go_enter Try.func77, Try.ntmps77
  go_wp2_with fail
  refine (S78_calls k a b E L M W Ae ce eps x Ax1 cx1 r _ hce HCE.out hl1 HC1.out HH.out).mono ?_
  rintro e w1 ⟨rfl, hb⟩
  go_wp2
  go_ret
  exact ⟨rfl, below_step (below_alloc (Below.refl _ _) _) hb⟩
set_option maxHeartbeats 1000000 in
set_option maxRecDepth 100000 in
theorem S53_calls (k : Nat) (a b E L M W : Int) (Ae : Option Addr) (ce : Nat) (eps : List S63) (x : S67) (Ax2 : Option Addr) (cx2 : Nat) (r : Bool) (w : World) (hce : eps.length ≤ ce) (hCe : Kd.C k63 w Ae eps.length eps) (hl2 : x.f2.length ≤ cx2) (hC2 : Kd.C k84 w Ax2 x.f2.length x.f2) (h : qLb k a b E L M W eps x = some r) :
    Calls Try.prog 53 #[.agg #[.int .u64 a, .int .u64 b, .int .i64 E, .int .i64 L, .int .i64 M, .int .i64 W, .slice Ae eps.length ce], .agg #[.string x.f0, .int .u64 x.f1, .slice Ax2 x.f2.length cx2]] w fun e w' => e = .returned (.bool r) ∧ Below w.heap.size w w' := by
  have hu27 := Try.underlying27;have hu := Try.underlying67
  unfold qLb at h
  obtain ⟨t, ht, h⟩ := Option.bind_eq_some_iff.1 h;have HH := am h;have HT := am ht;have HCE := am hCe;have HC := am hC2;clear h ht hCe hC2
  go_enter Try.func53, Try.ntmps53
  go_wp2_with fail
  refine (t_named.calls k a b E L M W Ae ce eps x.f0 x.f1 t _ (Kd.C_below HCE.out (below_alloc (below_alloc (Below.refl _ _) _) _)) hce HT.out).mono ?_
  rintro e w1 ⟨rfl, hb1⟩
  have HB1 := am (below_step (below_alloc (below_alloc (Below.refl w.heap.size w) _) _) hb1);have B0 : Aside0 (w1.heap[w.heap.size]? = some (.cells #[.int .u64 a, .int .u64 b, .int .i64 E, .int .i64 L, .int .i64 M, .int .i64 W, .slice Ae eps.length ce] 27 (0, 0))) := ⟨blk_below (blk_alloc (blk_new _ _) _) hb1⟩;have B1 : Aside0 (w1.heap[w.heap.size + 1]? = some (.cells #[.string x.f0, .int .u64 x.f1, .slice Ax2 x.f2.length cx2] 67 (0, 0))) := ⟨blk_below (blk_newAt3 _ _ (by simp)) hb1⟩;clear hb1;have s0 := blk_cell B0.out 0;have s2 := blk_cell B0.out 2;have s3 := blk_cell B0.out 3;have s4 := blk_cell B0.out 4;have x2 := blk_cell B1.out 2;clear HT
  cases t with
  | false =>
    obtain rfl : r = false := by have h := HH.out; rw [if_neg (by decide)] at h; exact (Option.some.inj h).symm
    go_wp2
    go_ret
    exact ⟨rfl, HB1.out⟩
  | true =>
    have h := HH.out;rw [if_pos rfl] at h;have HS := am h;clear h HH;have ec : ∀ args w, (callFunc 42 args).run Try.prog w = .ok (.enter 42 args) w := enter_at Try.func42 (by kernel_rfl) rfl;have es : ∀ args w, (callFunc 77 args).run Try.prog w = .ok (.enter 77 args) w := enter_at Try.func77 (by kernel_rfl) rfl
    go_wp2_with fail
    refine (SortedBk_calls 42 77 #[.pointer (some ⟨w.heap.size, 0, none⟩)] ec es (pBk) (qBk k a b E L M W eps) Ax2 cx2 x.f2 64 r w1 (Kd.C_below HC.out HB1.out) hl2 (fun W y x Ay1 cy1 Ax1 cx1 c hb hly1 hCy1 hlx1 hCx1 hc => t_byBucket.calls _ Ay1 cy1 _ _ Ax1 cx1 _ c W hCy1 hly1 hCx1 hlx1 hc) (fun W_ x Ax1 cx1 b_ hb hlx1 hCx1 hh => by simpa using C77_calls k a b E L M W Ae ce eps w.heap.size x Ax1 cx1 b_ W_ (blk_below B0.out hb) hce (Kd.C_below (Kd.C_below HCE.out HB1.out) hb) hlx1 hCx1 hh) HS.out).mono ?_
    rintro e w2 ⟨rfl, hb2⟩
    go_wp2
    go_ret
    exact ⟨rfl, below_step HB1.out hb2⟩
set_option maxHeartbeats 1000000 in
set_option maxRecDepth 100000 in
theorem C52_calls (k : Nat) (a b E L M W : Int) (Ae : Option Addr) (ce : Nat) (eps : List S63) (B : Nat) (x : S67) (Ax2 : Option Addr) (cx2 : Nat) (r : Bool) (w : World) (hB : w.heap[B]? = some (.cells #[.int .u64 a, .int .u64 b, .int .i64 E, .int .i64 L, .int .i64 M, .int .i64 W, .slice Ae eps.length ce] 27 (0, 0))) (hce : eps.length ≤ ce) (hCe : Kd.C k63 w Ae eps.length eps) (hl2 : x.f2.length ≤ cx2) (hC2 : Kd.C k84 w Ax2 x.f2.length x.f2) (h : qLb k a b E L M W eps x = some r) :
    Calls Try.prog 52 #[.agg #[.string x.f0, .int .u64 x.f1, .slice Ax2 x.f2.length cx2], .pointer (some ⟨B, 0, none⟩)] w fun e w' => e = .returned (.bool r) ∧ Below w.heap.size w w' := by
  have hu27 := Try.underlying27;have HH := am h;have HB := am hB;have HCE := am (Kd.C_below hCe (below_alloc (Below.refl _ _) (Obj.cells #[.string x.f0, .int .u64 x.f1, .slice Ax2 x.f2.length cx2] 67)));have HC2 := am (Kd.C_below hC2 (below_alloc (Below.refl _ _) (Obj.cells #[.string x.f0, .int .u64 x.f1, .slice Ax2 x.f2.length cx2] 67)));clear hC2 h hB hCe
  have y0 : ∀ o, (w.alloc o).cell? ⟨B, 0, none⟩ = some (.int .u64 a) := fun o => pw_cell_below (below_alloc (Below.refl _ _) o) (blk_cell HB.out 0)
  have y1 : ∀ o, (w.alloc o).cell? ⟨B, 1, none⟩ = some (.int .u64 b) := fun o => pw_cell_below (below_alloc (Below.refl _ _) o) (blk_cell HB.out 1)
  have y2 : ∀ o, (w.alloc o).cell? ⟨B, 2, none⟩ = some (.int .i64 E) := fun o => pw_cell_below (below_alloc (Below.refl _ _) o) (blk_cell HB.out 2)
  have y3 : ∀ o, (w.alloc o).cell? ⟨B, 3, none⟩ = some (.int .i64 L) := fun o => pw_cell_below (below_alloc (Below.refl _ _) o) (blk_cell HB.out 3)
  have y4 : ∀ o, (w.alloc o).cell? ⟨B, 4, none⟩ = some (.int .i64 M) := fun o => pw_cell_below (below_alloc (Below.refl _ _) o) (blk_cell HB.out 4)
  have y5 : ∀ o, (w.alloc o).cell? ⟨B, 5, none⟩ = some (.int .i64 W) := fun o => pw_cell_below (below_alloc (Below.refl _ _) o) (blk_cell HB.out 5)
  have y6 : ∀ o, (w.alloc o).cell? ⟨B, 6, none⟩ = some (.slice Ae eps.length ce) := fun o => pw_cell_below (below_alloc (Below.refl _ _) o) (blk_cell HB.out 6)
  go_enter Try.func52, Try.ntmps52
  go_wp2_with fail
  refine (S53_calls k a b E L M W Ae ce eps x Ax2 cx2 r _ hce HCE.out hl2 HC2.out HH.out).mono ?_
  rintro e w1 ⟨rfl, hb⟩
  go_wp2
  go_ret
  exact ⟨rfl, below_step (below_alloc (Below.refl _ _) _) hb⟩
set_option maxHeartbeats 1000000 in
set_option maxRecDepth 100000 in
theorem S32_calls (k : Nat) (a b E L M W : Int) (Ae : Option Addr) (ce : Nat) (eps : List S63) (x : S63) (Ax1 : Option Addr) (cx1 : Nat) (r : Bool) (w : World) (hce : eps.length ≤ ce) (hCe : Kd.C k63 w Ae eps.length eps) (hl1 : x.f1.length ≤ cx1) (hC1 : Kd.C k67 w Ax1 x.f1.length x.f1) (h : qEp k a b E L M W eps x = some r) :
    Calls Try.prog 32 #[.agg #[.int .u64 a, .int .u64 b, .int .i64 E, .int .i64 L, .int .i64 M, .int .i64 W, .slice Ae eps.length ce], .agg #[.int .i64 x.f0, .slice Ax1 x.f1.length cx1]] w fun e w' => e = .returned (.bool r) ∧ Below w.heap.size w w' := by
  have hu27 := Try.underlying27;have hu := Try.underlying63
  unfold qEp at h
  obtain ⟨t, ht, h⟩ := Option.bind_eq_some_iff.1 h;have HH := am h;have HT := am ht;have HCE := am hCe;have HC := am hC1;clear h ht hCe hC1
  by_cases hm : (2147483647 : Int) < wrap64 (wrap64 (W + E) - 1)
  · have HT2 : Aside0 (t_fits.f x.f0 W 2147483647 = some t) := ⟨by have h := HT.out; rwa [show (min (wrap64 (wrap64 (W + E) - 1)) 2147483647) = 2147483647 from by omega] at h⟩
    go_enter Try.func32, Try.ntmps32
    go_wp2_with fail
    refine (t_fits.calls x.f0 W 2147483647 t _ HT2.out).mono ?_
    rintro e w1 ⟨rfl, hd⟩
    obtain ⟨n, hn⟩ := hd.out;have HB1 : Aside0 (Below w.heap.size w w1) := ⟨by rw [hn]; exact pw_below_drewN (below_alloc (below_alloc (Below.refl _ _) _) _) n⟩;have B0 : Aside0 (w1.heap[w.heap.size]? = some (.cells #[.int .u64 a, .int .u64 b, .int .i64 E, .int .i64 L, .int .i64 M, .int .i64 W, .slice Ae eps.length ce] 27 (0, 0))) := ⟨by rw [hn]; exact blk_drewN (blk_alloc (blk_new _ _) _) n⟩;have B1 : Aside0 (w1.heap[w.heap.size + 1]? = some (.cells #[.int .i64 x.f0, .slice Ax1 x.f1.length cx1] 63 (0, 0))) := ⟨by rw [hn]; exact blk_drewN (blk_newAt3 _ _ (by simp)) n⟩;clear hn hd;have s0 := blk_cell B0.out 0;have s2 := blk_cell B0.out 2;have s3 := blk_cell B0.out 3;have s4 := blk_cell B0.out 4;have x1 := blk_cell B1.out 1;clear HT HT2
    cases t with
    | false =>
      obtain rfl : r = false := by have h := HH.out; rw [if_neg (by decide)] at h; exact (Option.some.inj h).symm
      go_wp2
      go_ret
      exact ⟨rfl, HB1.out⟩
    | true =>
      have h := HH.out;rw [if_pos rfl] at h;have HS := am h;clear h HH;have ec : ∀ args w, (callFunc 45 args).run Try.prog w = .ok (.enter 45 args) w := enter_at Try.func45 (by kernel_rfl) rfl;have es : ∀ args w, (callFunc 52 args).run Try.prog w = .ok (.enter 52 args) w := enter_at Try.func52 (by kernel_rfl) rfl
      go_wp2_with fail
      refine (SortedLb_calls 45 52 #[.pointer (some ⟨w.heap.size, 0, none⟩)] ec es (pLb k) (qLb k a b E L M W eps) Ax1 cx1 x.f1 L r w1 (Kd.C_below HC.out HB1.out) hl1 (fun W y x Ay2 cy2 Ax2 cx2 c hb hly2 hCy2 hlx2 hCx2 hc => t_byLabel.calls k _ _ Ay2 cy2 _ _ _ Ax2 cx2 _ c W hCy2 hly2 hCx2 hlx2 hc) (fun W_ x Ax2 cx2 b_ hb hlx2 hCx2 hh => by simpa using C52_calls k a b E L M W Ae ce eps w.heap.size x Ax2 cx2 b_ W_ (blk_below B0.out hb) hce (Kd.C_below (Kd.C_below HCE.out HB1.out) hb) hlx2 hCx2 hh) HS.out).mono ?_
      rintro e w2 ⟨rfl, hb2⟩
      go_wp2
      go_ret
      exact ⟨rfl, below_step HB1.out hb2⟩
  · have HT2 : Aside0 (t_fits.f x.f0 W (wrap64 (wrap64 (W + E) - 1)) = some t) := ⟨by have h := HT.out; rwa [show (min (wrap64 (wrap64 (W + E) - 1)) 2147483647) = (wrap64 (wrap64 (W + E) - 1)) from by omega] at h⟩
    go_enter Try.func32, Try.ntmps32
    go_wp2_with fail
    refine (t_fits.calls x.f0 W (wrap64 (wrap64 (W + E) - 1)) t _ HT2.out).mono ?_
    rintro e w1 ⟨rfl, hd⟩
    obtain ⟨n, hn⟩ := hd.out;have HB1 : Aside0 (Below w.heap.size w w1) := ⟨by rw [hn]; exact pw_below_drewN (below_alloc (below_alloc (Below.refl _ _) _) _) n⟩;have B0 : Aside0 (w1.heap[w.heap.size]? = some (.cells #[.int .u64 a, .int .u64 b, .int .i64 E, .int .i64 L, .int .i64 M, .int .i64 W, .slice Ae eps.length ce] 27 (0, 0))) := ⟨by rw [hn]; exact blk_drewN (blk_alloc (blk_new _ _) _) n⟩;have B1 : Aside0 (w1.heap[w.heap.size + 1]? = some (.cells #[.int .i64 x.f0, .slice Ax1 x.f1.length cx1] 63 (0, 0))) := ⟨by rw [hn]; exact blk_drewN (blk_newAt3 _ _ (by simp)) n⟩;clear hn hd;have s0 := blk_cell B0.out 0;have s2 := blk_cell B0.out 2;have s3 := blk_cell B0.out 3;have s4 := blk_cell B0.out 4;have x1 := blk_cell B1.out 1;clear HT HT2
    cases t with
    | false =>
      obtain rfl : r = false := by have h := HH.out; rw [if_neg (by decide)] at h; exact (Option.some.inj h).symm
      go_wp2
      go_ret
      exact ⟨rfl, HB1.out⟩
    | true =>
      have h := HH.out;rw [if_pos rfl] at h;have HS := am h;clear h HH;have ec : ∀ args w, (callFunc 45 args).run Try.prog w = .ok (.enter 45 args) w := enter_at Try.func45 (by kernel_rfl) rfl;have es : ∀ args w, (callFunc 52 args).run Try.prog w = .ok (.enter 52 args) w := enter_at Try.func52 (by kernel_rfl) rfl
      go_wp2_with fail
      refine (SortedLb_calls 45 52 #[.pointer (some ⟨w.heap.size, 0, none⟩)] ec es (pLb k) (qLb k a b E L M W eps) Ax1 cx1 x.f1 L r w1 (Kd.C_below HC.out HB1.out) hl1 (fun W y x Ay2 cy2 Ax2 cx2 c hb hly2 hCy2 hlx2 hCx2 hc => t_byLabel.calls k _ _ Ay2 cy2 _ _ _ Ax2 cx2 _ c W hCy2 hly2 hCx2 hlx2 hc) (fun W_ x Ax2 cx2 b_ hb hlx2 hCx2 hh => by simpa using C52_calls k a b E L M W Ae ce eps w.heap.size x Ax2 cx2 b_ W_ (blk_below B0.out hb) hce (Kd.C_below (Kd.C_below HCE.out HB1.out) hb) hlx2 hCx2 hh) HS.out).mono ?_
      rintro e w2 ⟨rfl, hb2⟩
      go_wp2
      go_ret
      exact ⟨rfl, below_step HB1.out hb2⟩
set_option maxHeartbeats 1000000 in
set_option maxRecDepth 100000 in
theorem C31_calls (k : Nat) (a b E L M W : Int) (Ae : Option Addr) (ce : Nat) (eps : List S63) (B : Nat) (x : S63) (Ax1 : Option Addr) (cx1 : Nat) (r : Bool) (w : World) (hB : w.heap[B]? = some (.cells #[.int .u64 a, .int .u64 b, .int .i64 E, .int .i64 L, .int .i64 M, .int .i64 W, .slice Ae eps.length ce] 27 (0, 0))) (hce : eps.length ≤ ce) (hCe : Kd.C k63 w Ae eps.length eps) (hl1 : x.f1.length ≤ cx1) (hC1 : Kd.C k67 w Ax1 x.f1.length x.f1) (h : qEp k a b E L M W eps x = some r) :
    Calls Try.prog 31 #[.agg #[.int .i64 x.f0, .slice Ax1 x.f1.length cx1], .pointer (some ⟨B, 0, none⟩)] w fun e w' => e = .returned (.bool r) ∧ Below w.heap.size w w' := by
  have hu27 := Try.underlying27;have HH := am h;have HB := am hB;have HCE := am (Kd.C_below hCe (below_alloc (Below.refl _ _) (Obj.cells #[.int .i64 x.f0, .slice Ax1 x.f1.length cx1] 63)));have HC1 := am (Kd.C_below hC1 (below_alloc (Below.refl _ _) (Obj.cells #[.int .i64 x.f0, .slice Ax1 x.f1.length cx1] 63)));clear hC1 h hB hCe
  have y0 : ∀ o, (w.alloc o).cell? ⟨B, 0, none⟩ = some (.int .u64 a) := fun o => pw_cell_below (below_alloc (Below.refl _ _) o) (blk_cell HB.out 0)
  have y1 : ∀ o, (w.alloc o).cell? ⟨B, 1, none⟩ = some (.int .u64 b) := fun o => pw_cell_below (below_alloc (Below.refl _ _) o) (blk_cell HB.out 1)
  have y2 : ∀ o, (w.alloc o).cell? ⟨B, 2, none⟩ = some (.int .i64 E) := fun o => pw_cell_below (below_alloc (Below.refl _ _) o) (blk_cell HB.out 2)
  have y3 : ∀ o, (w.alloc o).cell? ⟨B, 3, none⟩ = some (.int .i64 L) := fun o => pw_cell_below (below_alloc (Below.refl _ _) o) (blk_cell HB.out 3)
  have y4 : ∀ o, (w.alloc o).cell? ⟨B, 4, none⟩ = some (.int .i64 M) := fun o => pw_cell_below (below_alloc (Below.refl _ _) o) (blk_cell HB.out 4)
  have y5 : ∀ o, (w.alloc o).cell? ⟨B, 5, none⟩ = some (.int .i64 W) := fun o => pw_cell_below (below_alloc (Below.refl _ _) o) (blk_cell HB.out 5)
  have y6 : ∀ o, (w.alloc o).cell? ⟨B, 6, none⟩ = some (.slice Ae eps.length ce) := fun o => pw_cell_below (below_alloc (Below.refl _ _) o) (blk_cell HB.out 6)
  go_enter Try.func31, Try.ntmps31
  go_wp2_with fail
  refine (S32_calls k a b E L M W Ae ce eps x Ax1 cx1 r _ hce HCE.out hl1 HC1.out HH.out).mono ?_
  rintro e w1 ⟨rfl, hb⟩
  go_wp2
  go_ret
  exact ⟨rfl, below_step (below_alloc (Below.refl _ _) _) hb⟩
set_option maxHeartbeats 1000000 in
set_option maxRecDepth 100000 in
theorem t_Right.calls (k : Nat) (a b E L M W : Int) (Ae : Option Addr) (ce : Nat) (eps : List S63) (r : Bool) (w : World) (hCe : Kd.C k63 w Ae eps.length eps) (hce : eps.length ≤ ce) (h : t_Right.f k a b E L M W eps = some r) :
    Calls Try.prog 17 #[.agg #[.int .u64 a, .int .u64 b, .int .i64 E, .int .i64 L, .int .i64 M, .int .i64 W, .slice Ae eps.length ce]] w fun e w' => e = .returned (.bool r) ∧ Below w.heap.size w w' := by
  have hu27 := Try.underlying27;have hu24 := Try.underlying24
  unfold t_Right.f at h
  obtain ⟨⟨r1, r2, r3, r4, r5, r6, r7, r8⟩, ht, h⟩ := Option.bind_eq_some_iff.1 h;have HH := am h;have HT := am ht;have HCE := am hCe;clear h ht hCe
  go_enter Try.func17, Try.ntmps17
  go_wp2_with fail
  refine (t_New.calls a b E L M r1 r2 r3 r4 r5 r6 r7 r8 _ HT.out).mono ?_
  rintro e w1 ⟨v6, rfl, hv, hb1⟩
  obtain ⟨A6, c6, rfl⟩ := Kd.V_slice hv;have HB1 := am (below_step (below_alloc (Below.refl w.heap.size w) _) hb1);have B0 : Aside0 (w1.heap[w.heap.size]? = some (.cells #[.int .u64 a, .int .u64 b, .int .i64 E, .int .i64 L, .int .i64 M, .int .i64 W, .slice Ae eps.length ce] 27 (0, 0))) := ⟨blk_below (blk_new _ _) hb1⟩;have hl1 : w.heap.size < w1.heap.size := blk_lt B0.out;clear hb1 hv HT
  have s4 : ∀ o, (w1.alloc o).cell? ⟨w.heap.size, 5, none⟩ = some (.int .i64 W) := fun o => pw_cell_below (below_alloc (Below.refl _ _) o) (blk_cell B0.out 5)
  by_cases h8 : r8 = 0
  · subst h8
    have h := HH.out;rw [if_pos rfl] at h;obtain ⟨t, ht, h⟩ := Option.bind_eq_some_iff.1 h;have HT := am ht;have HG := am h;clear h ht HH
    go_wp2_with fail
    refine (t_fits.calls W 0 2147483647 t _ HT.out).mono ?_
    rintro e w2 ⟨rfl, hd⟩
    obtain ⟨n, hn⟩ := hd.out;have HB2 : Aside0 (Below w.heap.size w w2) := ⟨by rw [hn]; exact pw_below_drewN (below_step HB1.out (below_alloc (Below.refl _ _) _)) n⟩;have B2 : Aside0 (w2.heap[w.heap.size]? = some (.cells #[.int .u64 a, .int .u64 b, .int .i64 E, .int .i64 L, .int .i64 M, .int .i64 W, .slice Ae eps.length ce] 27 (0, 0))) := ⟨by rw [hn]; exact blk_drewN (blk_alloc B0.out _) n⟩;clear hn hd HB1 B0 s4 HT;have s2 := blk_cell B2.out 2;have s6 := blk_cell B2.out 6
    cases t with
    | false =>
      obtain rfl : r = false := by have h := HG.out; rw [if_neg (by decide)] at h; exact (Option.some.inj h).symm
      go_wp2
      go_ret
      exact ⟨rfl, HB2.out⟩
    | true =>
      have h := HG.out;rw [if_pos rfl] at h;clear HG
      by_cases h0 : eps.length = 0
      · have h0' : (eps.length : Int) = 0 := by omega
        have d0 : ((eps.length : Int) == 0) = true := by simp [h0]
        rw [if_pos h0'] at h;obtain rfl := Option.some.inj h
        go_wp2
        go_ret
        exact ⟨by simp, HB2.out⟩
      · have h0' : ¬ (eps.length : Int) = 0 := by omega
        have d0 : ((eps.length : Int) == 0) = false := by simpa using h0'
        rw [if_neg h0'] at h;have HS := am h;clear h;have ec : ∀ args w, (callFunc 30 args).run Try.prog w = .ok (.enter 30 args) w := enter_at Try.func30 (by kernel_rfl) rfl;have es : ∀ args w, (callFunc 31 args).run Try.prog w = .ok (.enter 31 args) w := enter_at Try.func31 (by kernel_rfl) rfl
        go_wp2_with fail
        refine (SortedEp_calls 30 31 #[.pointer (some ⟨w.heap.size, 0, none⟩)] ec es pEp (qEp k a b E L M W eps) Ae ce eps E r w2 (Kd.C_below HCE.out HB2.out) hce (fun W y x Ay1 cy1 Ax1 cx1 c hb hly1 hCy1 hlx1 hCx1 hc => t_byEpoch.calls _ Ay1 cy1 _ _ Ax1 cx1 _ c W hCy1 hly1 hCx1 hlx1 hc) (fun W_ x Ax1 cx1 b_ hb hlx1 hCx1 hh => by simpa using C31_calls k a b E L M W Ae ce eps w.heap.size x Ax1 cx1 b_ W_ (blk_below B2.out hb) hce (Kd.C_below (Kd.C_below HCE.out HB2.out) hb) hlx1 hCx1 hh) HS.out).mono ?_
        rintro e w3 ⟨rfl, hb3⟩
        go_wp2
        go_ret
        exact ⟨rfl, below_step HB2.out hb3⟩
  · obtain rfl : r = false := by have h := HH.out; rw [if_neg h8] at h; exact (Option.some.inj h).symm
    clear HH
    have d8 : (r8 == 0) = false := by simpa using h8
    have HB3 := am (below_step HB1.out (below_alloc (Below.refl w1.heap.size w1) (Obj.cells #[.int .u64 r1, .int .u64 r2, .int .i64 r3, .int .i64 r4, .int .i64 r5, .int .i64 r6, .slice A6 r7.length c6] 27)))
    go_wp2
    go_ret
    exact ⟨rfl, HB3.out⟩
end Go.Proofs.Ytagcobdpojeiiaa.H
