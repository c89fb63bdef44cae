import Derived.Test.YtagcobdpojeiiaaHx0
import Derived.Test.YtagcobdpojeiiaaHx11
namespace Go.Proofs.Ytagcobdpojeiiaa.H
open Go.RowKit Go.Proofs.YtagcobdpojeiiaaW.PrintWords Go.Proofs.YtagcobdpojeiiaaW.PrintLast Go.Proofs.YtagcobdpojeiiaaW.PrintMore Go.Proofs.YtagcobdpojeiiaaW.Sq
attribute [local go_sem] max2_int min2_int max_two min_two max_three min_three max_four min_four
set_option linter.unusedVariables false
set_option linter.unusedSimpArgs false




theorem run_clear2 {P : Program} (w : World) (t e ty : TypeId) (z : Value) (ht : P.underlying t = some (.slice e)) (hv : ∀ w, (zeroValue e).run P w = .ok z w) (b o n c : Nat) (hn : 0 < n)
    (hc : ∀ j, j < n * z.cells.size → (w.cell? ⟨b, o + j, none⟩).isSome = true) (hf : ∀ j, j < n * z.cells.size → w.frozen? ⟨b, o + j, none⟩ = false) (h1 : ∀ v ∈ (Builtin.zeroCells z.cells n).toList, v.oneCell' = true) :
    (Builtin.clear_ #[t] ty #[.slice (some ⟨b, o, none⟩) n c]).run P w = .ok (.tuple #[]) (w.setCells b o (Builtin.zeroCells z.cells n).toList) := by
  have hl : (Builtin.zeroCells z.cells n).toList.length = n * z.cells.size := by rw [Array.length_toList, zeroCells_size]
  have hst := run_storeCells_cells (P := P) b o (Builtin.zeroCells z.cells n).toList 0 w (by rw [hl]; simpa using hc) (by rw [hl]; simpa using hf) h1
  simp only [Nat.add_zero] at hst
  obtain ⟨m, rfl⟩ : ∃ m, n = m + 1 := ⟨n - 1, by omega⟩
  simp [Builtin.clear_, run_underlying ht, hv, hst]
theorem N_cleared {α : Type} {d : Kd α} {e base : Nat} {ok : Nat → Prop} {w : World} {g n cap : Nat} {xs : List α} (h : Kd.N d e w base ok (.slice (some ⟨g, 0, none⟩) n cap) xs) (i : Nat) (hi : i ≤ n) (vs : List Value) (hv : vs.length = (n - i) * d.sz) :
    Kd.N d e (w.setCells g (i * d.sz) vs) base ok (.slice (some ⟨g, 0, none⟩) i cap) (xs.take i) := by
  obtain ⟨h0, rows, hl, ⟨hb, inner, ho, hr⟩, hf⟩ := h;have ho' : w.ownsRow base e d.sz (.slice (some ⟨g, 0, none⟩) n cap) rows.length inner := ho
  obtain ⟨cur, hbg, hgc, hncap, hcm, hcs, htk, hnn⟩ : ∃ cur, base ≤ g ∧ w.heap[g]? = some (.cells cur e (0, 0)) ∧ n ≤ cap ∧ cap ≤ maxLen ∧ cur.size = cap * d.sz ∧ cur.toList.take (n * d.sz) = inner ∧ rows.length = n := by
    rcases ho'.2 with ⟨hx, _⟩ | ⟨g', cap', cur, hx, h1, h2, h3, h4, h5, h6⟩
    · cases hx
    · injection hx with e1 e2 e3
      injection e1 with e1
      injection e1 with e1
      subst e1 e2 e3
      exact ⟨cur, h1, h2, h3, h4, h5, h6, rfl⟩
  have hik : i * d.sz ≤ n * d.sz := Nat.mul_le_mul_right _ hi;have hnk : n * d.sz ≤ cap * d.sz := Nat.mul_le_mul_right _ hncap
  have hvl : i * d.sz + vs.length = n * d.sz := by rw [hv, Nat.sub_mul]; omega
  obtain ⟨cur', hg', hs', ht'⟩ := setCells_blk g e vs (i * d.sz) w cur hgc (by omega);have hsz : (w.setCells g (i * d.sz) vs).heap.size = w.heap.size := setCells_size g vs _ w
  have hoth : ∀ k, k ≠ g → (w.setCells g (i * d.sz) vs).heap[k]? = w.heap[k]? := fun k hk => setCells_heap g vs _ w k hk
  have hil : (inner.take (i * d.sz)).length = i * d.sz := by rw [List.length_take, ← htk, List.length_take, Array.length_toList]; omega
  refine ⟨fun k hk => h0 k hk, rows.take i, by rw [List.length_take, List.length_take, hl], ⟨fun k hk => hk.symm, inner.take (i * d.sz), ?_, ?_⟩, fun j x c hx hc => ?_⟩
  · show World.ownsRow _ base e d.sz _ _ _
    rw [List.length_take, Nat.min_eq_left (by omega)]
    refine ⟨hil, .inr ⟨g, cap, cur', rfl, hbg, hg', by omega, hcm, by rw [hs', hcs], ?_⟩⟩
    rw [ht', List.append_assoc, List.take_append_of_le_length (by rw [List.length_take, Array.length_toList]; omega), List.take_take, Nat.min_self, ← htk, List.take_take, Nat.min_eq_left hik]
  · have hr2 : ∀ (j : Nat) (p : List Value), rows[j]? = some p → p = ((inner.drop (j * d.sz)).take d.sz) ∧ p.length = d.sz ∧ ∀ u ∈ p, u.oneCell' = true := fun j p hj => by
      have h2 := hr.2 j p hj
      exact ⟨h2.1.symm, by have h3 := h2.2.1; rwa [h2.1] at h3, fun u hu => h2.2.2 u (by rw [h2.1]; exact hu)⟩
    refine ⟨by show (inner.take (i * d.sz)).length = (rows.take i).length * d.sz; rw [hil, List.length_take, Nat.min_eq_left (by omega)], fun j p hj => ?_⟩
    rw [List.getElem?_take] at hj
    split at hj
    · rename_i hji
      obtain ⟨h2, h3, h4⟩ := hr2 j p hj
      have hjk : j * d.sz + d.sz ≤ i * d.sz := by have := Nat.mul_le_mul_right d.sz (show j + 1 ≤ i from hji); rwa [Nat.succ_mul] at this
      have e1 : ((inner.take (i * d.sz)).drop (j * d.sz)).take d.sz = p := by rw [List.drop_take, List.take_take, Nat.min_eq_left (by omega), h2]
      show (fun x cs => cs = x ∧ cs.length = d.sz ∧ ∀ u ∈ cs, u.oneCell' = true) p (((inner.take (i * d.sz)).drop (j * d.sz)).take d.sz)
      rw [e1]
      exact ⟨rfl, h3, h4⟩
    · cases hj
  · rw [List.getElem?_take] at hx hc
    split at hx
    · rename_i hji
      rw [if_pos hji] at hc
      exact Kd.FK_step (hf j x c hx hc) (fun k hk _ => hoth k (fun he => hk.2 (by rw [he]; rfl)))
    · cases hx
set_option maxHeartbeats 1000000 in
set_option maxRecDepth 100000 in
theorem IndexEp_calls (g : Nat) (lb : Array Value) (eg : ∀ args w, (callFunc g args).run Try.prog w = .ok (.enter g args) w) (p : S63 → Option Bool) (A0 : Option Addr) (c0 : Nat) (l0 : List S63) (r : Int) (w : World)
   (hr0 : Kd.C k63 w A0 l0.length l0) (hc0 : l0.length ≤ c0)
   (hp : ∀ (W : World) (x : S63) (A1 : Option Addr) (c1 : Nat) (b : Bool), Below w.heap.size w W → p x = some b → Calls Try.prog g (#[.agg #[.int .i64 x.f0, .slice A1 x.f1.length c1]] ++ lb) W fun e w' => e = .returned (.bool b) ∧ Below W.heap.size W w')
   (h : idxF p l0 0 = some r) :
   Calls Try.prog 73 #[.slice A0 l0.length c0, .func (.func g) #[] lb] w fun e w' => e = .returned (.int .i64 r) ∧ Below w.heap.size w w' := by
  have hn : l0.length ≤ 9223372036854775807 := hr0.2.1;have HH := am h;clear h;have HP := am hp;clear hp;have HR := am hr0;clear hr0
  go_enter Try.func73, Try.ntmps73
  go_wp2
  go_loopg [5, 8] l0.length (fun gg _ s8 wr => ∃ x8 : Int, s8 = .int .i64 x8 ∧ Aside0 (0 ≤ x8 ∧ x8 ≤ l0.length ∧ l0.length - x8.toNat ≤ gg) ∧ Aside0 (Below w.heap.size w wr) ∧ Aside0 (idxF p (l0.drop x8.toNat) x8 = some r))
  case atStart => exact ⟨0, rfl, ⟨by omega⟩, ⟨Below.refl _ w⟩, HH⟩
  case round =>
    clear HH;obtain ⟨x8, rfl, hk, BW, HH⟩ := hrel;obtain ⟨h0, h1, hg⟩ := hk.out;clear hk
    by_cases hlt : x8 < (l0.length : Int)
    · obtain ⟨b, hb, hbr⟩ := idxF_at p l0 z63 x8 h0 hlt r HH.out
      clear HH;obtain ⟨ad, A1, c1, e, hx0, hx1, hl1, hC1⟩ := at_T63 (Kd.C_below HR.out BW.out) x8 h0 hlt;cases e;clear hl1 hC1;have HC := am (HP.out wr (rd_T63 l0 x8) A1 c1 b BW.out hb);have HB := am hb;clear hb;have HBR := am hbr;clear hbr;have d0 : decide (0 ≤ x8) = true := decide_eq_true h0;have d1 : decide (x8 < (l0.length : Int)) = true := decide_eq_true hlt
      have w8 : wrap64 (x8 + 1) = x8 + 1 := by unfold wrap64; omega
      cases b with
      | true =>
        go_wp2_with fail
        refine HC.out.mono ?_
        rintro e w' ⟨rfl, hb'⟩
        go_wp2
        go_ret
        exact ⟨by rw [show r = x8 from by rcases HBR.out with h | h <;> first | exact h.2 | exact absurd h.1 (by decide)]; rfl, below_then BW.out BW.out.size hb'⟩
      | false =>
        go_wp2_with fail
        refine HC.out.mono ?_
        rintro e w' ⟨rfl, hb'⟩
        go_wp2
        go_roundg (l0.length - (x8 + 1).toNat)
        case measure => omega
        case rel => exact ⟨x8 + 1, by simp [w8], ⟨by omega⟩, ⟨below_then BW.out BW.out.size hb'⟩, ⟨by rcases HBR.out with h | h <;> first | exact absurd h.1 (by decide) | exact h.2⟩⟩
    · have d1 : decide (x8 < (l0.length : Int)) = false := decide_eq_false hlt
      have hr := idxF_end p l0 x8 hlt r HH.out;clear HH;subst hr
      go_wp2
      go_ret
      exact ⟨rfl, BW.out⟩
set_option maxHeartbeats 1000000 in
set_option maxRecDepth 100000 in
theorem C49_calls (B : Nat) (Wm t : Int) (A1 : Option Addr) (n1 c1 : Nat) (w : World) (hB : w.cell? ⟨B, 5, none⟩ = some (.int .i64 Wm)) :
    Calls Try.prog 49 #[.agg #[.int .i64 t, .slice A1 n1 c1], .pointer (some ⟨B, 0, none⟩)] w fun e w' => e = .returned (.bool (decide (t < Wm))) ∧ Below w.heap.size w w' := by
  have hu27 := Try.underlying27;have hu63 := Try.underlying63;have HB := am hB;clear hB
  have y5 : ∀ o, (w.alloc o).cell? ⟨B, 5, none⟩ = some (.int .i64 Wm) := fun o => pw_cell_below (below_alloc (Below.refl _ _) o) HB.out
  go_enter Try.func49, Try.ntmps49
  go_wp2
  go_ret
  exact ⟨rfl, below_alloc (Below.refl _ _) _⟩
theorem idx_some {α : Type} (p : α → Bool) : ∀ (l : List α) (i : Int), ∃ r, idxF (fun x => some (p x)) l i = some r ∧ ((r = -1 ∧ ∀ x ∈ l, p x = false) ∨ ∃ k : Nat, k < l.length ∧ r = i + k ∧ (∀ x ∈ l.take k, p x = false) ∧ ∀ d, p (l.getD k d) = true)
  | [], i => ⟨-1, rfl, .inl ⟨rfl, fun x hx => by cases hx⟩⟩
  | x :: l, i => by
    rw [idxF, Option.bind_some]
    cases hx : p x with
    | true => exact ⟨i, by simp, .inr ⟨0, by simp, by omega, fun y hy => by simp at hy, fun d => by simpa using hx⟩⟩
    | false =>
      obtain ⟨r, h1, h2⟩ := idx_some p l (i + 1)
      refine ⟨r, by simpa using h1, ?_⟩
      rcases h2 with ⟨h3, h4⟩ | ⟨k, h3, h4, h5, h6⟩
      · exact .inl ⟨h3, fun y hy => by rcases List.mem_cons.1 hy with h | h; rw [h]; exact hx; exact h4 y h⟩
      · refine .inr ⟨k + 1, by simpa using h3, by omega, fun y hy => ?_, fun d => by simpa using h6 d⟩
        rw [List.take_succ_cons] at hy
        rcases List.mem_cons.1 hy with h | h
        · rw [h]; exact hx
        · exact h5 y h
theorem w64_succ {n : Nat} (h : n < 9223372036854775807) : wrap64 ((n : Int) + 1) = ((n + 1 : Nat) : Int) := by unfold wrap64; omega
def keepF (Wm : Int) (x : S63) : Bool := !decide (x.f0 < Wm)
theorem take_succ_filter {α : Type} (q : α → Bool) (l : List α) (d : α) {j : Nat} (h : j < l.length) : (l.take (j + 1)).filter q = (l.take j).filter q ++ (if q (l.getD j d) = true then [l.getD j d] else []) := by
  rw [List.take_add_one, List.getElem?_eq_getElem h, List.filter_append, List.getD_eq_getElem?_getD, List.getElem?_eq_getElem h]
  congr 1
  show List.filter q [l[j]] = if q l[j] = true then [l[j]] else []
  cases hq : q l[j] <;> simp [hq]
set_option maxHeartbeats 4000000 in
set_option maxRecDepth 100000 in
theorem Del_calls (B : Nat) (Wm : Int) (base : Nat) (ok : Nat → Prop) (A : Option Addr) (c : Nat) (l : List S63) (w : World) (hN : Kd.N k63 63 w base ok (.slice A l.length c) l) (hB : w.cell? ⟨B, 5, none⟩ = some (.int .i64 Wm)) (hBb : B < base) (hbase : base ≤ w.heap.size) :
    Calls Try.prog 47 #[.slice A l.length c, .func (.func 49) #[] #[.pointer (some ⟨B, 0, none⟩)]] w fun e w' => ∃ v1, e = .returned v1 ∧ Kd.N k63 63 w' base ok v1 (l.filter (keepF Wm)) ∧ Below base w w' := by
  have hu63 := Try.underlying63;have hu25 := Try.underlying25;obtain ⟨r, hr, hrr⟩ := idx_some (fun x : S63 => decide (x.f0 < Wm)) l 0;have HR := am hr;have HRR := am hrr;have HN := am hN;have HB := am hB;have hn : l.length ≤ 9223372036854775807 := (Kd.N_reads' hN).2.2.2.1;have hlc : l.length ≤ c := (Kd.N_reads' hN).2.1;have eg : ∀ args w, (callFunc 49 args).run Try.prog w = .ok (.enter 49 args) w := enter_at Try.func49 (by kernel_rfl) rfl;clear hr hrr hN hB
  go_enter Try.func47, Try.ntmps47
  go_wp2_with fail
  refine (IndexEp_calls 49 #[.pointer (some ⟨B, 0, none⟩)] eg (fun x => some (decide (x.f0 < Wm))) A c l r w (Kd.N_reads' HN.out).2.2 hlc (fun W x A1 c1 b hb hh => by obtain rfl := Option.some.inj hh; simpa using C49_calls B Wm x.f0 A1 x.f1.length c1 W (pw_cell_below hb HB.out)) HR.out).mono ?_
  rintro e w1 ⟨rfl, hb1⟩
  have HN1 := am (Kd.N_below HN.out hb1);have HB1 := am (pw_cell_below hb1 HB.out);have BB1 := am (hb1.mono hbase);have hs1 : base ≤ w1.heap.size := Nat.le_trans hbase hb1.size;clear hb1 HN HB HR
  rcases HRR.out with ⟨rfl, hall⟩ | ⟨k, hk, rfl, hpre, hat⟩
  · have HF : Aside0 (l.filter (keepF Wm) = l) := ⟨List.filter_eq_self.2 fun x hx => by have := hall x hx; unfold keepF; rw [this]; rfl⟩
    clear hall HRR
    go_wp2
    go_ret
    exact ⟨_, rfl, by rw [HF.out]; exact HN1.out, BB1.out⟩
  · rw [Int.zero_add]
    obtain ⟨g, cap, hga, hgb, hgl, -⟩ := Kd.N_form HN1.out (by omega)
    injection hga with hA hcc hcap
    subst hA;subst hcap
    have hgB : B ≠ g := by omega
    have HI : Aside0 (l.take k = (l.take (k + 1)).filter (keepF Wm)) := ⟨by
      rw [take_succ_filter _ l z63 hk, if_neg (by unfold keepF; rw [hat z63]; decide), List.append_nil]
      exact (List.filter_eq_self.2 fun x hx => by have := hpre x hx; unfold keepF; rw [this]; rfl).symm⟩
    have d0 : ((k : Int) == -1) = false := beq_eq_false_iff_ne.2 (by omega);have W0 := am (w64_succ (n := k) (by omega));clear hpre hat HRR
    go_wp2_with fail
    go_loopg [5, 6, 7] l.length (fun gg s5 s6 _ wr => ∃ (i j : Nat) (ys : List S63), s5 = .int .i64 i ∧ s6 = .int .i64 j ∧ Aside0 (j ≤ l.length ∧ l.length - j ≤ gg ∧ i < j ∧ ys.length = l.length ∧ ys.take i = (l.take j).filter (keepF Wm) ∧ ys.drop j = l.drop j) ∧ Aside0 (Kd.N k63 63 wr base ok (.slice (some ⟨g, 0, none⟩) l.length c) ys) ∧ Aside0 (Below base w wr) ∧ Aside0 (wr.cell? ⟨B, 5, none⟩ = some (.int .i64 Wm)))
    case atStart => exact ⟨k, k + 1, l, rfl, by first | exact congrArg _ W0.out | simp [W0.out], ⟨by omega, by omega, by omega, rfl, HI.out, rfl⟩, HN1, BB1, HB1⟩
    case round =>
      clear HN1 BB1 HB1 HI;obtain ⟨i, j, ys, rfl, rfl, hI, HN, BB, HB⟩ := hrel;obtain ⟨hjl, hg, hij, hyl, -, -⟩ := hI.out;have hsz : base ≤ wr.heap.size := Nat.le_trans hbase BB.out.size
      by_cases hlt : j < l.length
      · obtain ⟨cs, hcl, hF, hcc, -⟩ := Kd.N_elem HN.out z63 (j : Int) (by omega) (by omega)
        obtain ⟨A1, c1, hcs, hl1, hF1⟩ := k63_openF hF;obtain ⟨y, hy⟩ : ∃ y, y = ys.getD (j : Int).toNat z63 := ⟨_, rfl⟩;rw [← hy] at hcs hl1 hF1;subst hcs
        have HY : Aside0 (y = l.getD j z63 ∧ y = ys.getD j z63) := ⟨by
          have h6 := hI.out.2.2.2.2.2
          have h7 : ys[j]? = l[j]? := by have h8 := congrArg (fun z => z[0]?) h6; simpa using h8
          rw [Int.toNat_natCast] at hy
          exact ⟨by rw [hy, List.getD_eq_getElem?_getD, List.getD_eq_getElem?_getD, h7], hy⟩⟩
        have HFY := am (k63_mkF wr (fun k => ok k ∧ k ≠ g) y hl1 hF1);have q0 : wr.cell? ⟨g, j * 2, none⟩ = some (.int .i64 y.f0) := hcc 0 _ rfl;have q1 : wr.cell? ⟨g, j * 2 + 1, none⟩ = some (.slice A1 y.f1.length c1) := hcc 1 _ rfl;have d1 : decide ((j : Int) < (l.length : Int)) = true := decide_eq_true (by omega);have W8 := am (w64_succ (Nat.lt_of_lt_of_le hlt hn));have W9 := am (w64_succ (Nat.lt_of_lt_of_le hij (Nat.le_trans hjl hn)));clear hy hl1 hF1 hF hcc hcl
        go_wp2_with fail
        refine (C49_calls B Wm y.f0 A1 y.f1.length c1 _ (pw_cell_below (below_alloc (Below.refl _ _) _) HB.out)).mono ?_
        rintro e w2 ⟨rfl, hb2⟩
        have HN2 := am (Kd.N_below (Kd.N_alloc HN.out (Obj.cells #[.int .i64 y.f0, .slice A1 y.f1.length c1] 63)) hb2);have HB2 := am (pw_cell_below (below_step (below_alloc (Below.refl _ _) _) hb2) HB.out);have BB2 := am (BB.out.trans ((below_step (below_alloc (Below.refl _ _) _) hb2).mono hsz));have BX := am (blk_below (g := wr.heap.size) (o := .cells #[.int .i64 y.f0, .slice A1 y.f1.length c1] 63 (0, 0)) (blk_new _ _) hb2);have HFY2 := am (Kd.FK_below HFY.out (below_step (below_alloc (Below.refl _ _) _) hb2));have hs2 : base ≤ w2.heap.size := Nat.le_trans hsz (below_step (below_alloc (Below.refl _ _) _) hb2).size;clear hb2 HN HB BB HFY q0 q1
        generalize hd : decide (y.f0 < Wm) = d
        cases d with
        | true =>
          have hq : y.f0 < Wm := of_decide_eq_true hd;have HK : Aside0 ((l.take (j + 1)).filter (keepF Wm) = (l.take j).filter (keepF Wm)) := ⟨by rw [take_succ_filter _ l z63 hlt, ← HY.out.1, if_neg (by unfold keepF; rw [decide_eq_true hq]; decide), List.append_nil]⟩;have HJ : Aside0 (ys.drop (j + 1) = l.drop (j + 1)) := ⟨by have h := congrArg (List.drop 1) hI.out.2.2.2.2.2; rwa [List.drop_drop, List.drop_drop] at h⟩;clear hq hd
          go_wp2
          go_roundg (l.length - (j + 1))
          case measure => omega
          case rel => exact ⟨i, j + 1, ys, rfl, by first | exact congrArg _ W8.out | simp [W8.out], ⟨by omega, Nat.le_refl _, by omega, hyl, by rw [HK.out]; exact hI.out.2.2.2.2.1, HJ.out⟩, HN2, BB2, HB2⟩
        | false =>
          have hq : ¬ y.f0 < Wm := of_decide_eq_false hd;have HK : Aside0 ((l.take (j + 1)).filter (keepF Wm) = (l.take j).filter (keepF Wm) ++ [y]) := ⟨by rw [take_succ_filter _ l z63 hlt, ← HY.out.1, if_pos (by unfold keepF; rw [decide_eq_false hq]; rfl)]⟩
          have HJ : Aside0 ((ys.set i y).drop (j + 1) = l.drop (j + 1)) := ⟨by
            rw [List.drop_set_of_lt (by omega)];have h := congrArg (List.drop 1) hI.out.2.2.2.2.2
            rwa [List.drop_drop, List.drop_drop] at h⟩
          have HT : Aside0 ((ys.set i y).take (i + 1) = (l.take j).filter (keepF Wm) ++ [y]) := ⟨by
            rw [← hI.out.2.2.2.2.1, List.take_set, List.take_add_one, List.getElem?_eq_getElem (by omega), Option.toList_some, List.set_append_right _ _ (by rw [List.length_take]; omega)]
            have : i - (ys.take i).length = 0 := by rw [List.length_take]; omega
            rw [this]; rfl⟩
          clear hq hd;have b0 := blk_cell BX.out 0;have b1 := blk_cell BX.out 1;obtain ⟨cs, hcl, -, hcc, hfr⟩ := Kd.N_elem HN2.out z63 (i : Int) (by omega) (by omega);have HC := am (And.intro hcl hcc);have HFR := am hfr;clear hcl hcc hfr BX;have hcl2 : cs.length = 2 := HC.out.1
          have q : ∀ p, p < 2 → ∃ u, w2.cell? ⟨g, i * 2 + p, none⟩ = some u := fun p hp => ⟨cs[p]'(by omega), HC.out.2 p _ (List.getElem?_eq_getElem (by omega))⟩
          obtain ⟨u0, q0⟩ := q 0 (by decide);obtain ⟨u1, q1⟩ := q 1 (by decide);have f0 : w2.frozen? ⟨g, i * 2 + 0, none⟩ = false := HFR.out 0;have f1 : w2.frozen? ⟨g, i * 2 + 1, none⟩ = false := HFR.out 1;have HP := am (Kd.N_seg HN2.out (i : Int) (by omega) (by omega) (c := cs) (seg := [.int .i64 y.f0, .slice A1 y.f1.length c1]) (j := 0) HC.out.1 HC.out.2 (show 0 + 2 ≤ 2 from by decide) (x' := y) (okp := fun k => ok k ∧ k ≠ g) (by rw [List.take_zero, List.drop_of_length_le (by rw [hcl2]; exact Nat.le_refl 2), List.append_nil, List.nil_append]; exact HFY2.out) (fun k hk => hk));clear HC HFR q hcl2 HFY2
          simp only [Nat.add_zero] at q0 f0
          have d3 : decide ((i : Int) < (l.length : Int)) = true := decide_eq_true (by omega)
          go_wp2
          go_roundg (l.length - (j + 1))
          case measure => omega
          case rel => exact ⟨i + 1, j + 1, ys.set i y, by first | exact congrArg _ W9.out | simp [W9.out], by first | exact congrArg _ W8.out | simp [W8.out], ⟨by omega, Nat.le_refl _, by omega, by rw [List.length_set]; exact hyl, by rw [HK.out]; exact HT.out, HJ.out⟩, ⟨HP.out.1⟩, ⟨(BB2.out.setCell (p := ⟨g, i * 2, none⟩) hgb _).setCell (p := ⟨g, i * 2 + 1, none⟩) hgb _⟩, ⟨by simp [World.cell?, Below.heap_setCell, hgB]; exact HB2.out⟩⟩
      · obtain rfl : j = l.length := by omega
        have d1 : decide ((l.length : Int) < (l.length : Int)) = false := decide_eq_false (by omega)
        have hz63 : ∀ w, (zeroValue 63).run Try.prog w = .ok (.agg #[.int .i64 0, .slice none 0 0]) w := by
          have h : (Try.prog.info? 63).map (·.zero) = some (some (.agg #[.int .i64 0, .slice none 0 0])) := by kernel_rfl
          obtain ⟨i0, h1, h2⟩ := Option.map_eq_some_iff.1 h
          intro w
          simp [zeroValue, typeInfo, h1, h2]
        obtain ⟨-, rows, hrl, ⟨-, inner, ho, -⟩, -⟩ := HN.out;have ho' : wr.ownsRow base 63 2 (.slice (some ⟨g, 0, none⟩) l.length c) rows.length inner := ho
        obtain ⟨cur, hgc, hcs⟩ : ∃ cur, wr.heap[g]? = some (.cells cur 63 (0, 0)) ∧ cur.size = c * 2 := by
          rcases ho'.2 with ⟨hx, _⟩ | ⟨g', cap', cur, hx, h1, h2, h3, h4, h5, h6⟩
          · cases hx
          · injection hx with e1 e2 e3
            injection e1 with e1
            injection e1 with e1
            subst e1 e3
            exact ⟨cur, h2, h5⟩
        have hcl : ∀ ty cc, (Builtin.clear_ #[25] ty #[.slice (some ⟨g, i * 2, none⟩) (l.length - i) cc]).run Try.prog wr = .ok (.tuple #[]) (wr.setCells g (i * 2) (Builtin.zeroCells (Value.agg #[.int .i64 0, .slice none 0 0]).cells (l.length - i)).toList) := fun ty cc =>
          run_clear2 wr 25 63 ty _ hu25 hz63 g (i * 2) _ cc (by omega)
            (fun t ht => by have ht2 : t < (l.length - i) * 2 := ht; rw [blk_cell hgc, Array.getElem?_eq_getElem (by omega)]; rfl)
            (fun t ht => blk_frozen hgc _)
            (fun v hv => by
              simp only [Builtin.zeroCells, Array.toList_map, List.mem_map, Array.mem_toList_iff] at hv
              obtain ⟨t, _, rfl⟩ := hv
              have : t % 2 = 0 ∨ t % 2 = 1 := by omega
              show ((#[Value.int .i64 0, .slice none 0 0] : Array Value)[t % 2]!).oneCell' = true
              rcases this with h | h <;> rw [h] <;> rfl)
        have HF : Aside0 (Kd.N k63 63 (wr.setCells g (i * 2) (Builtin.zeroCells (Value.agg #[.int .i64 0, .slice none 0 0]).cells (l.length - i)).toList) base ok (.slice (some ⟨g, 0, none⟩) i c) (l.filter (keepF Wm))) := ⟨by
          have h := N_cleared HN.out i (by omega) (Builtin.zeroCells (Value.agg #[.int .i64 0, .slice none 0 0]).cells (l.length - i)).toList (by rw [Array.length_toList, zeroCells_size]; rfl);rw [hI.out.2.2.2.2.1, List.take_length] at h
          exact h⟩
        have BF : Aside0 (Below base w (wr.setCells g (i * 2) (Builtin.zeroCells (Value.agg #[.int .i64 0, .slice none 0 0]).cells (l.length - i)).toList)) := ⟨setCells_below g hgb _ _ _ BB.out⟩
        have hil : i ≤ l.length := by omega
        have hli : l.length ≤ c := hlc
        have dz0 : (0 : Int) ≤ (i : Int) := by omega
        clear hgc hcs ho' ho hz63 hI HN BB HB hrl
        go_wp2
        go_ret
        exact ⟨_, rfl, HF.out, BF.out⟩
set_option maxHeartbeats 1000000 in
theorem CloneEp_calls (P : Nat → Prop) (A0 : Option Addr) (c0 : Nat) (l0 : List S63) (w : World) (hF : Kd.F k63 w P A0 l0.length l0) (hc0 : l0.length ≤ c0) (hl : l0.length < 1000000) :
    Calls Try.prog 48 #[.slice A0 l0.length c0] w fun e w' => ∃ v0_ : Value, e = .returned v0_ ∧ Kd.N k63 63 w' w.heap.size (fun k => P k ∨ w.heap.size ≤ k) v0_ l0 ∧ Below w.heap.size w w' := by
  have HF := am (Kd.F_bound hF);have HL := am (show l0.length * 32 ≤ 140737488355328 by omega);clear hl
  cases A0 with
  | none =>
    have h0 : l0 = [] := by
      rcases Nat.eq_zero_or_pos l0.length with h0 | h0
      · exact List.eq_nil_of_length_eq_zero h0
      · obtain ⟨ad, he, _⟩ := (Kd.F_now hF).2.2 h0
        cases he
    clear hF HF HL;subst h0
    have HE : ∀ W : World, (binOp .eql 25 (.slice none 0 c0) (.slice none 0 0)).run Try.prog W = .ok (.bool true) W := fun W => Lib.run_eql_slice_nil W 25 63 none _ c0 0 0 Try.underlying25
    go_enter Try.func48, Try.ntmps48
    go_wp2
    go_ret
    exact ⟨_, rfl, Kd.N_nil _ _ _ _ _, Below.refl _ _⟩
  | some ad =>
    clear hF
    have HE : ∀ W : World, (binOp .eql 25 (.slice (some ad) l0.length c0) (.slice none 0 0)).run Try.prog W = .ok (.bool false) W := fun W => Lib.run_eql_slice_nil W 25 63 (some ad) l0.length c0 0 0 Try.underlying25
    go_enter Try.func48, Try.ntmps48
    go_wp2_with (((with_reducible refine gate_builtin (b := .append) (xs := #[.tmp 5, .tmp 6]) rfl ?_); at_builtin; refine Kd.N_append_rows k63 (w0 := w) w.heap.size rfl (.tmp 5) (.tmp 6) 25 63 (.agg #[.int .i64 0, .slice none 0 0]) 32 rfl Try.underlying25 (by kernel_rfl) rfl (by decide) (by omega) (.slice (some ⟨w.heap.size, 0, none⟩) 0 0) [] l0 (some ad) l0.length c0 (fun k => P k ∨ w.heap.size ≤ k) (fun k => P k ∧ k < w.heap.size) rfl rfl ?aO ?aC ?aP ?aF ?aB ?aS ?aL ?_; (case aO => exact Kd.R_N ⟨fun k hk => .inr (by simp [Value.ownBlock] at hk; omega), [], World.ownsRow_lit (base := w.heap.size) (e := 63) (size := 2) w #[] 0 (Nat.le_refl _) (by decide) rfl, Reps.none _ _⟩); (case aC => exact Kd.F_alloc HF.out _); (case aP => exact fun k_ hk_ => ⟨.inl hk_.1, fun e => by simp [Value.ownBlock] at e; have := hk_.2; omega⟩); (case aF => exact fun k hk => .inr (by simp at hk; omega)); (case aB => exact below_alloc (Below.refl _ _) _); (case aS => exact (below_alloc (Below.refl _ _) _).size); (case aL => simpa using HL.out); intro v1 w1 hr hb hg hat; have HN1 := am hr; have HB1 := am hb; clear hr hb hg hat))
    go_ret
    exact ⟨_, rfl, by have h := HN1.out; rwa [List.nil_append] at h, HB1.out⟩
def t_raised.f (a b E L M W : Int) (l : List S63) (w0 : Int) : Option (Int × Int × Int × Int × Int × Int × List S63) := if l.length < 1000000 then some (a, b, E, L, M, max W w0, l.filter (keepF (max W w0))) else none
theorem V_takenL {α : Type} {d : Kd α} {e : Nat} {W : World} {base : Nat} {ok : Nat → Prop} {A : Option Addr} {c n : Nat} {xs : List α} (h : Kd.V d e W base ok (.slice A xs.length c) xs) (hn : n ≤ xs.length) : Kd.V d e W base ok (.slice A n c) (xs.take n) := by
  have hl : (xs.take n).length = n := by rw [List.length_take]; omega
  have h2 := Kd.V_mk (e := e) (base := base) (c := c) (by rw [hl]; exact Nat.le_trans hn (Kd.V_at h).2.1) (Kd.F_take (Kd.V_at h).2.2 hn)
  rwa [hl] at h2
set_option maxHeartbeats 4000000 in
set_option maxRecDepth 100000 in
theorem t_raised.calls (a b E L M W : Int) (P0 : Nat → Prop) (A : Option Addr) (c : Nat) (l : List S63) (w0 : Int) (r1 r2 r3 r4 r5 r6 : Int) (r7 : List S63) (w : World) (hs : Kd.V k63 63 w w.heap.size (fun k_ => P0 k_) (.slice A l.length c) l) (h : t_raised.f a b E L M W l w0 = some (r1, r2, r3, r4, r5, r6, r7)) :
    Calls Try.prog 27 #[.agg #[.int .u64 a, .int .u64 b, .int .i64 E, .int .i64 L, .int .i64 M, .int .i64 W, .slice A l.length c], .int .i64 w0] w fun e w' => ∃ v6_ : Value, e = .returned (.agg #[.int .u64 r1, .int .u64 r2, .int .i64 r3, .int .i64 r4, .int .i64 r5, .int .i64 r6, v6_]) ∧ Kd.V k63 63 w' w.heap.size (fun k_ => (P0 k_ ∨ w.heap.size ≤ k_)) v6_ r7 ∧ Below w.heap.size w w' := by
  have hu27 := Try.underlying27;have hu63 := Try.underlying63;have hu25 := Try.underlying25
  unfold t_raised.f at h
  split at h
  case isFalse => cases h
  case isTrue hlen =>
  simp only [Option.some.injEq, Prod.mk.injEq] at h
  obtain ⟨rfl, rfl, rfl, rfl, rfl, hW, hR⟩ := h;have HV := am (Kd.V_bound hs);clear hs
  by_cases hm : W < w0
  · have HR : Aside0 (r7 = l.filter (keepF w0)) := ⟨by rw [← hR, show max W w0 = w0 by omega]⟩
    obtain rfl : w0 = r6 := by rw [← hW, show max W w0 = w0 by omega]
    clear hW hR
    go_enter Try.func27, Try.ntmps27
    go_wp2_with fail
    obtain ⟨w1, hw1⟩ : ∃ w1, w1 = (w.alloc (.cells #[.int .u64 a, .int .u64 b, .int .i64 E, .int .i64 L, .int .i64 M, .int .i64 w0, .slice A l.length c] 27)).alloc (.cells #[.int .u64 0, .int .u64 0, .int .i64 0, .int .i64 0, .int .i64 0, .int .i64 0, .slice none 0 0] 27) := ⟨_, rfl⟩;rw [← hw1];have B0 : Aside0 (w1.heap[w.heap.size]? = some (.cells #[.int .u64 a, .int .u64 b, .int .i64 E, .int .i64 L, .int .i64 M, .int .i64 w0, .slice A l.length c] 27 (0, 0))) := ⟨by rw [hw1]; exact blk_alloc (blk_new _ _) _⟩;have B1 : Aside0 (w1.heap[w.heap.size + 1]? = some (.cells #[.int .u64 0, .int .u64 0, .int .i64 0, .int .i64 0, .int .i64 0, .int .i64 0, .slice none 0 0] 27 (0, 0))) := ⟨by rw [hw1]; exact blk_newAt3 _ _ (by simp)⟩;have HB1 : Aside0 (Below w.heap.size w w1) := ⟨by rw [hw1]; exact below_alloc (below_alloc (Below.refl _ _) _) _⟩
    have hs1 : w.heap.size + 1 + 1 ≤ w1.heap.size := by rw [hw1]; simp
    have HV1 := am (Kd.V_below HV.out HB1.out);clear hw1 HV
    refine (CloneEp_calls _ A c l w1 (Kd.V_F HV1.out) (Kd.V_reads' HV1.out).2.1 hlen).mono ?_
    rintro e w2 ⟨v0, rfl, HN, hb2⟩
    have C0 := am (blk_below B0.out hb2);have C1 := am (blk_below B1.out hb2);have HB2 := am (below_step HB1.out hb2);have hs2 : w.heap.size + 1 + 1 ≤ w2.heap.size := Nat.le_trans hs1 hb2.size;have HN2 := am (Kd.N_lower (Kd.N_mono (Kd.N_bound HN) (ok' := fun k_ => (P0 k_ ∧ k_ < w.heap.size) ∨ w.heap.size + 1 + 1 ≤ k_) (fun k_ hk => by rcases hk.1 with hk | hk; exact .inl hk; exact .inr (by omega))) hs1);clear HN hb2 B0 B1 HB1 HV1 hs1;obtain ⟨A1, c1, rfl⟩ := Kd.N_slice HN2.out;have eg : ∀ args w, (callFunc 47 args).run Try.prog w = .ok (.enter 47 args) w := enter_at Try.func47 (by kernel_rfl) rfl
    go_wp2_with fail
    refine (Del_calls w.heap.size w0 (w.heap.size + 1 + 1) _ A1 c1 l w2 HN2.out (blk_cell C0.out 5) (by omega) hs2).mono ?_
    rintro e w3 ⟨v1, rfl, HN, hb3⟩
    rw [← HR.out] at HN;have D0 := am (show w3.heap[w.heap.size]? = _ from (hb3.block w.heap.size (by omega)).trans C0.out);have D1 := am (show w3.heap[w.heap.size + 1]? = _ from (hb3.block (w.heap.size + 1) (by omega)).trans C1.out);have HB3 := am (HB2.out.trans (hb3.mono (by omega)));obtain ⟨A2, c2, rfl⟩ := Kd.N_slice HN;have HN3 := am HN;clear HN hb3 C0 C1 HB2 HN2 HR;have s0 := blk_cell D0.out 0;have t0 := blk_cell D1.out 0;have y0 := blk_frozen D1.out 0;have s1 := blk_cell D0.out 1;have t1 := blk_cell D1.out 1;have y1 := blk_frozen D1.out 1;have s2 := blk_cell D0.out 2;have t2 := blk_cell D1.out 2;have y2 := blk_frozen D1.out 2;have s3 := blk_cell D0.out 3;have t3 := blk_cell D1.out 3;have y3 := blk_frozen D1.out 3;have s4 := blk_cell D0.out 4;have t4 := blk_cell D1.out 4;have y4 := blk_frozen D1.out 4;have s5 := blk_cell D0.out 5;have t5 := blk_cell D1.out 5;have y5 := blk_frozen D1.out 5;have s6 := blk_cell D0.out 6;have t6 := blk_cell D1.out 6;have y6 := blk_frozen D1.out 6;have z6 := blk_frozen D0.out 6
    have HF : Aside0 (∀ W_ : World, W_ = (((((((w3.setCell ⟨w.heap.size, 6, none⟩ (.slice A2 r7.length c2)).setCell ⟨w.heap.size + 1, 0, none⟩ (.int .u64 a)).setCell ⟨w.heap.size + 1, 1, none⟩ (.int .u64 b)).setCell ⟨w.heap.size + 1, 2, none⟩ (.int .i64 E)).setCell ⟨w.heap.size + 1, 3, none⟩ (.int .i64 L)).setCell ⟨w.heap.size + 1, 4, none⟩ (.int .i64 M)).setCell ⟨w.heap.size + 1, 5, none⟩ (.int .i64 w0)).setCell ⟨w.heap.size + 1, 6, none⟩ (.slice A2 r7.length c2) →
        W_.heap[w.heap.size + 1]? = some (.cells #[.int .u64 a, .int .u64 b, .int .i64 E, .int .i64 L, .int .i64 M, .int .i64 w0, .slice A2 r7.length c2] 27 (0, 0)) ∧ Kd.V k63 63 W_ w.heap.size (fun k_ => (P0 k_ ∨ w.heap.size ≤ k_)) (.slice A2 r7.length c2) r7 ∧ Below w.heap.size w W_) := ⟨fun W_ hW => by
      subst hW;have hV : Kd.V k63 63 w3 w.heap.size (fun k_ => (P0 k_ ∧ k_ < w.heap.size) ∨ w.heap.size + 1 + 1 ≤ k_) (.slice A2 r7.length c2) r7 := Kd.N_V HN3.out
      refine ⟨blk_put (blk_put (cs' := #[.int .u64 a, .int .u64 b, .int .i64 E, .int .i64 L, .int .i64 M, .int .i64 w0, .slice none 0 0]) (blk_put (cs' := #[.int .u64 a, .int .u64 b, .int .i64 E, .int .i64 L, .int .i64 M, .int .i64 0, .slice none 0 0]) (blk_put (cs' := #[.int .u64 a, .int .u64 b, .int .i64 E, .int .i64 L, .int .i64 0, .int .i64 0, .slice none 0 0]) (blk_put (cs' := #[.int .u64 a, .int .u64 b, .int .i64 E, .int .i64 0, .int .i64 0, .int .i64 0, .slice none 0 0]) (blk_put (cs' := #[.int .u64 a, .int .u64 b, .int .i64 0, .int .i64 0, .int .i64 0, .int .i64 0, .slice none 0 0]) (blk_put (cs' := #[.int .u64 a, .int .u64 0, .int .i64 0, .int .i64 0, .int .i64 0, .int .i64 0, .slice none 0 0]) (blk_far D1.out (by simp <;> omega) _) 0 _ rfl) 1 _ rfl) 2 _ rfl) 3 _ rfl) 4 _ rfl) 5 _ rfl) 6 _ rfl, ?_, below_set (below_set (below_set (below_set (below_set (below_set (below_set (below_set HB3.out (Nat.le_refl _)) (by omega)) (by omega)) (by omega)) (by omega)) (by omega)) (by omega)) (by omega)⟩
      refine Kd.V_mono (ok := fun k_ => (P0 k_ ∧ k_ < w.heap.size) ∨ w.heap.size + 1 + 1 ≤ k_) ?_ (fun k_ hk => by rcases hk with hk | hk; exact .inl hk.1; exact .inr (by omega))
      refine Kd.V_far (Kd.V_far (Kd.V_far (Kd.V_far (Kd.V_far (Kd.V_far (Kd.V_far (Kd.V_far (hV) ?_ _) ?_ _) ?_ _) ?_ _) ?_ _) ?_ _) ?_ _) ?_ _ <;> (intro k_ hk; simp only [ne_eq]; rcases hk with hk | hk <;> first | omega | (have := hk.2; omega))⟩
    go_wp2
    obtain ⟨f1, f2, f3⟩ := HF.out _ rfl
    refine bodyPost_ret (v := .agg #[.int .u64 a, .int .u64 b, .int .i64 E, .int .i64 L, .int .i64 M, .int .i64 w0, .slice A2 r7.length c2]) ?_ rfl ⟨.slice A2 r7.length c2, rfl, f2, f3⟩
    refine results_cell_row rfl _ _ (w.heap.size + 1) 27 _ (0, 0) _ ?_ f1 hu27 rfl ?_
    · rfl
    · kernel_rfl
  · have HR : Aside0 (r7 = l.filter (keepF W)) := ⟨by rw [← hR, show max W w0 = W by omega]⟩
    obtain rfl : W = r6 := by rw [← hW, show max W w0 = W by omega]
    clear hW hR
    go_enter Try.func27, Try.ntmps27
    go_wp2_with fail
    obtain ⟨w1, hw1⟩ : ∃ w1, w1 = (w.alloc (.cells #[.int .u64 a, .int .u64 b, .int .i64 E, .int .i64 L, .int .i64 M, .int .i64 W, .slice A l.length c] 27)).alloc (.cells #[.int .u64 0, .int .u64 0, .int .i64 0, .int .i64 0, .int .i64 0, .int .i64 0, .slice none 0 0] 27) := ⟨_, rfl⟩;rw [← hw1];have B0 : Aside0 (w1.heap[w.heap.size]? = some (.cells #[.int .u64 a, .int .u64 b, .int .i64 E, .int .i64 L, .int .i64 M, .int .i64 W, .slice A l.length c] 27 (0, 0))) := ⟨by rw [hw1]; exact blk_alloc (blk_new _ _) _⟩;have B1 : Aside0 (w1.heap[w.heap.size + 1]? = some (.cells #[.int .u64 0, .int .u64 0, .int .i64 0, .int .i64 0, .int .i64 0, .int .i64 0, .slice none 0 0] 27 (0, 0))) := ⟨by rw [hw1]; exact blk_newAt3 _ _ (by simp)⟩;have HB1 : Aside0 (Below w.heap.size w w1) := ⟨by rw [hw1]; exact below_alloc (below_alloc (Below.refl _ _) _) _⟩
    have hs1 : w.heap.size + 1 + 1 ≤ w1.heap.size := by rw [hw1]; simp
    have HV1 := am (Kd.V_below HV.out HB1.out);clear hw1 HV
    refine (CloneEp_calls _ A c l w1 (Kd.V_F HV1.out) (Kd.V_reads' HV1.out).2.1 hlen).mono ?_
    rintro e w2 ⟨v0, rfl, HN, hb2⟩
    have C0 := am (blk_below B0.out hb2);have C1 := am (blk_below B1.out hb2);have HB2 := am (below_step HB1.out hb2);have hs2 : w.heap.size + 1 + 1 ≤ w2.heap.size := Nat.le_trans hs1 hb2.size;have HN2 := am (Kd.N_lower (Kd.N_mono (Kd.N_bound HN) (ok' := fun k_ => (P0 k_ ∧ k_ < w.heap.size) ∨ w.heap.size + 1 + 1 ≤ k_) (fun k_ hk => by rcases hk.1 with hk | hk; exact .inl hk; exact .inr (by omega))) hs1);clear HN hb2 B0 B1 HB1 HV1 hs1;obtain ⟨A1, c1, rfl⟩ := Kd.N_slice HN2.out;have eg : ∀ args w, (callFunc 47 args).run Try.prog w = .ok (.enter 47 args) w := enter_at Try.func47 (by kernel_rfl) rfl
    go_wp2_with fail
    refine (Del_calls w.heap.size W (w.heap.size + 1 + 1) _ A1 c1 l w2 HN2.out (blk_cell C0.out 5) (by omega) hs2).mono ?_
    rintro e w3 ⟨v1, rfl, HN, hb3⟩
    rw [← HR.out] at HN;have D0 := am (show w3.heap[w.heap.size]? = _ from (hb3.block w.heap.size (by omega)).trans C0.out);have D1 := am (show w3.heap[w.heap.size + 1]? = _ from (hb3.block (w.heap.size + 1) (by omega)).trans C1.out);have HB3 := am (HB2.out.trans (hb3.mono (by omega)));obtain ⟨A2, c2, rfl⟩ := Kd.N_slice HN;have HN3 := am HN;clear HN hb3 C0 C1 HB2 HN2 HR;have s0 := blk_cell D0.out 0;have t0 := blk_cell D1.out 0;have y0 := blk_frozen D1.out 0;have s1 := blk_cell D0.out 1;have t1 := blk_cell D1.out 1;have y1 := blk_frozen D1.out 1;have s2 := blk_cell D0.out 2;have t2 := blk_cell D1.out 2;have y2 := blk_frozen D1.out 2;have s3 := blk_cell D0.out 3;have t3 := blk_cell D1.out 3;have y3 := blk_frozen D1.out 3;have s4 := blk_cell D0.out 4;have t4 := blk_cell D1.out 4;have y4 := blk_frozen D1.out 4;have s5 := blk_cell D0.out 5;have t5 := blk_cell D1.out 5;have y5 := blk_frozen D1.out 5;have s6 := blk_cell D0.out 6;have t6 := blk_cell D1.out 6;have y6 := blk_frozen D1.out 6;have z6 := blk_frozen D0.out 6
    have HF : Aside0 (∀ W_ : World, W_ = (((((((w3.setCell ⟨w.heap.size, 6, none⟩ (.slice A2 r7.length c2)).setCell ⟨w.heap.size + 1, 0, none⟩ (.int .u64 a)).setCell ⟨w.heap.size + 1, 1, none⟩ (.int .u64 b)).setCell ⟨w.heap.size + 1, 2, none⟩ (.int .i64 E)).setCell ⟨w.heap.size + 1, 3, none⟩ (.int .i64 L)).setCell ⟨w.heap.size + 1, 4, none⟩ (.int .i64 M)).setCell ⟨w.heap.size + 1, 5, none⟩ (.int .i64 W)).setCell ⟨w.heap.size + 1, 6, none⟩ (.slice A2 r7.length c2) →
        W_.heap[w.heap.size + 1]? = some (.cells #[.int .u64 a, .int .u64 b, .int .i64 E, .int .i64 L, .int .i64 M, .int .i64 W, .slice A2 r7.length c2] 27 (0, 0)) ∧ Kd.V k63 63 W_ w.heap.size (fun k_ => (P0 k_ ∨ w.heap.size ≤ k_)) (.slice A2 r7.length c2) r7 ∧ Below w.heap.size w W_) := ⟨fun W_ hW => by
      subst hW;have hV : Kd.V k63 63 w3 w.heap.size (fun k_ => (P0 k_ ∧ k_ < w.heap.size) ∨ w.heap.size + 1 + 1 ≤ k_) (.slice A2 r7.length c2) r7 := Kd.N_V HN3.out
      refine ⟨blk_put (blk_put (cs' := #[.int .u64 a, .int .u64 b, .int .i64 E, .int .i64 L, .int .i64 M, .int .i64 W, .slice none 0 0]) (blk_put (cs' := #[.int .u64 a, .int .u64 b, .int .i64 E, .int .i64 L, .int .i64 M, .int .i64 0, .slice none 0 0]) (blk_put (cs' := #[.int .u64 a, .int .u64 b, .int .i64 E, .int .i64 L, .int .i64 0, .int .i64 0, .slice none 0 0]) (blk_put (cs' := #[.int .u64 a, .int .u64 b, .int .i64 E, .int .i64 0, .int .i64 0, .int .i64 0, .slice none 0 0]) (blk_put (cs' := #[.int .u64 a, .int .u64 b, .int .i64 0, .int .i64 0, .int .i64 0, .int .i64 0, .slice none 0 0]) (blk_put (cs' := #[.int .u64 a, .int .u64 0, .int .i64 0, .int .i64 0, .int .i64 0, .int .i64 0, .slice none 0 0]) (blk_far D1.out (by simp <;> omega) _) 0 _ rfl) 1 _ rfl) 2 _ rfl) 3 _ rfl) 4 _ rfl) 5 _ rfl) 6 _ rfl, ?_, below_set (below_set (below_set (below_set (below_set (below_set (below_set (below_set HB3.out (Nat.le_refl _)) (by omega)) (by omega)) (by omega)) (by omega)) (by omega)) (by omega)) (by omega)⟩
      refine Kd.V_mono (ok := fun k_ => (P0 k_ ∧ k_ < w.heap.size) ∨ w.heap.size + 1 + 1 ≤ k_) ?_ (fun k_ hk => by rcases hk with hk | hk; exact .inl hk.1; exact .inr (by omega))
      refine Kd.V_far (Kd.V_far (Kd.V_far (Kd.V_far (Kd.V_far (Kd.V_far (Kd.V_far (Kd.V_far (hV) ?_ _) ?_ _) ?_ _) ?_ _) ?_ _) ?_ _) ?_ _) ?_ _ <;> (intro k_ hk; simp only [ne_eq]; rcases hk with hk | hk <;> first | omega | (have := hk.2; omega))⟩
    go_wp2
    obtain ⟨f1, f2, f3⟩ := HF.out _ rfl
    refine bodyPost_ret (v := .agg #[.int .u64 a, .int .u64 b, .int .i64 E, .int .i64 L, .int .i64 M, .int .i64 W, .slice A2 r7.length c2]) ?_ rfl ⟨.slice A2 r7.length c2, rfl, f2, f3⟩
    refine results_cell_row rfl _ _ (w.heap.size + 1) 27 _ (0, 0) _ ?_ f1 hu27 rfl ?_
    · rfl
    · kernel_rfl







end Go.Proofs.Ytagcobdpojeiiaa.H
