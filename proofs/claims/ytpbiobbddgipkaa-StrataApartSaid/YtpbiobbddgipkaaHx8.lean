import Derived.Test.YtpbiobbddgipkaaHx0
import Derived.Test.YtpbiobbddgipkaaHx4
import Derived.Test.YtpbiobbddgipkaaHx5
import Derived.Test.YtpbiobbddgipkaaHx6
import Derived.Test.YtpbiobbddgipkaaHx7
namespace Go.Proofs.Ytpbiobbddgipkaa.H
open Go.RowKit Go.Proofs.YtpbiobbddgipkaaW.PrintWords Go.Proofs.YtpbiobbddgipkaaW.PrintLast Go.Proofs.YtpbiobbddgipkaaW.PrintMore Go.Proofs.YtpbiobbddgipkaaW.Sq
attribute [local go_sem] max2_int min2_int max_two min_two max_three min_three max_four min_four
set_option linter.unusedVariables false
set_option linter.unusedSimpArgs false

def cells87 (x : S87) : List Value := [.string x.f0, .int .u64 x.f1, .int .u64 x.f2.f0, .int .u64 x.f2.f1]
def bottom_add.cut (a0_0 a0_1 a0_2 : Int) (m : List S87) : Option (Int × Int × Int × List S87 × Int) :=
  if 0 ≤ min (m.length : Int) (wrap64 (a0_2 + 1)) then some (a0_0, a0_1, a0_2, m.take (min (m.length : Int) (wrap64 (a0_2 + 1))).toNat, 0) else none
def bottom_add.f (k : Nat) (a0_0 a0_1 a0_2 : Int) (l0_3 : List S87) (a1_0 : ByteArray) (a1_1 a1_2 a1_3 : Int) : Option (Int × Int × Int × List S87 × Int) :=
  if l0_3.length < 1000000 then
    (bsT (fun y => bottom_compare.f k y.f0 y.f1 y.f2.f0 y.f2.f1 a1_0 a1_1 a1_2 a1_3) l0_3 z87).bind fun q =>
      if q.2 = true then
        (if 0 ≤ q.1 ∧ q.1 < l0_3.length then
          (wide_Add.f (rd_T87 l0_3 q.1).f2.f0 (rd_T87 l0_3 q.1).f2.f1 a1_2 a1_3).bind fun n =>
            if n.2.2 = true then bottom_add.cut a0_0 a0_1 a0_2 (l0_3.set q.1.toNat ⟨(rd_T87 l0_3 q.1).f0, (rd_T87 l0_3 q.1).f1, ⟨n.1, n.2.1⟩⟩) else some (a0_0, a0_1, a0_2, l0_3, 12)
        else none)
      else (if 0 ≤ q.1 ∧ q.1 ≤ l0_3.length then bottom_add.cut a0_0 a0_1 a0_2 (l0_3.take q.1.toNat ++ [⟨a1_0, a1_1, ⟨a1_2, a1_3⟩⟩] ++ l0_3.drop q.1.toNat) else none)
  else none
theorem bottom_add.mono : ∀ a0 a1 a2 a3 a4 a5 a6 a7 k, LeO (bottom_add.f k a0 a1 a2 a3 a4 a5 a6 a7) (bottom_add.f (k + 1) a0 a1 a2 a3 a4 a5 a6 a7) := by
  intro a0 a1 a2 a3 a4 a5 a6 a7 k
  unfold bottom_add.f
  exact LeO.ite (LeO.bind (bsT_leo (fun y => bottom_compare.mono _ _ _ _ _ _ _ _ k) _ _) (fun _ => LeO.refl _)) (LeO.refl _)
theorem cells87_one (l : List S87) : ∀ u ∈ flat cells87 l, u.oneCell' = true := by
  intro u hu
  obtain ⟨x, _, hx⟩ := List.mem_flatMap.1 hu
  simp only [cells87, List.mem_cons, List.not_mem_nil, or_false] at hx
  rcases hx with rfl | rfl | rfl | rfl <;> rfl
theorem V_taken {α : Type} {d : Kd α} {e : Nat} {W : World} {base : Nat} {ok : Nat → Prop} {A : Option Addr} {c n : Nat} {xs : List α} (h : Kd.V d e W base ok (.slice A xs.length c) xs) (hn : n ≤ xs.length) : Kd.V d e W base ok (.slice A n c) (xs.take n) := by
  have hl : (xs.take n).length = n := by rw [List.length_take]; omega
  have h2 := Kd.V_mk (e := e) (base := base) (c := c) (by rw [hl]; exact Nat.le_trans hn (Kd.V_at h).2.1) (Kd.F_take (Kd.V_at h).2.2 hn)
  rwa [hl] at h2
theorem k87_flat : ∀ x : S87, (cells87 x).length = k87.sz := fun _ => rfl
theorem k87_isM {w : World} {base : Nat} {ok : Nat → Prop} {x : S87} {cs : List Value} (h : k87.M w base ok x cs) : cs = cells87 x := k87_openM h
set_option maxHeartbeats 4000000 in
set_option maxRecDepth 100000 in
theorem bottom_add.calls (k : Nat) (a0_0 a0_1 a0_2 : Int) (P0_3_ : Nat → Prop) (A0_3 : Option Addr) (c0_3 : Nat) (l0_3 : List S87) (a1_0 : ByteArray) (a1_1 a1_2 a1_3 : Int) (r1 r2 r3 : Int) (r4 : List S87) (r5 : Int) (w : World) (hs0_3 : Kd.V k87 87 w w.heap.size (fun k_ => P0_3_ k_) (.slice A0_3 l0_3.length c0_3) l0_3) (h : bottom_add.f k a0_0 a0_1 a0_2 l0_3 a1_0 a1_1 a1_2 a1_3 = some (r1, r2, r3, r4, r5)) :
    Calls Try.prog 32 #[.agg #[.int .u64 a0_0, .int .u64 a0_1, .int .i64 a0_2, .slice A0_3 l0_3.length c0_3], .agg #[.string a1_0, .int .u64 a1_1, .int .u64 a1_2, .int .u64 a1_3]] w fun e w' => ∃ v3_ : Value, e = .returned (.tuple #[.agg #[.int .u64 r1, .int .u64 r2, .int .i64 r3, v3_], .int .i64 r5]) ∧ Kd.V k87 87 w' w.heap.size (fun k_ => (P0_3_ k_ ∨ w.heap.size ≤ k_)) v3_ r4 ∧ Below w.heap.size w w' := by
  have hu40 := Try.underlying40
  have hu87 := Try.underlying87
  have hu65 := Try.underlying65
  unfold bottom_add.f at h
  split at h
  case isFalse => cases h
  case isTrue hlen =>
  obtain ⟨q, hq, h⟩ := Option.bind_eq_some_iff.1 h
  obtain ⟨i, found⟩ := q
  have HQ := am hq
  have HH := am h
  clear hq h
  have HV := am (Kd.V_bound hs0_3)
  clear hs0_3
  have eg : ∀ args w, (callFunc 46 args).run Try.prog w = .ok (.enter 46 args) w := enter_at Try.func46 (by kernel_rfl) rfl
  go_enter Try.func32, Try.ntmps32
  go_wp2_with fail
  refine (bottom_Entry_47.calls A0_3 c0_3 l0_3 l0_3 _ (Kd.C_below (Kd.V_reads' HV.out).2.2 (by repeat (first | exact Below.refl _ _ | apply below_alloc))) (Kd.V_reads' HV.out).2.1 (by unfold bottom_Entry_47.f; rw [if_pos (by omega)])).mono ?_
  rintro e w1 ⟨v0, rfl, HR, hb1⟩
  have B0 := am (blk_below (g := w.heap.size) (o := .cells #[.int .u64 a0_0, .int .u64 a0_1, .int .i64 a0_2, .slice A0_3 l0_3.length c0_3] 40 (0, 0)) (blk_alloc (blk_alloc (blk_new _ _) _) _) hb1)
  have B1 := am (blk_below (g := w.heap.size + 1) (o := .cells #[.string a1_0, .int .u64 a1_1, .int .u64 a1_2, .int .u64 a1_3] 87 (0, 0)) (blk_alloc (blk_newAt3 _ _ (by simp)) _) hb1)
  have B2 := am (blk_below (g := w.heap.size + 1 + 1) (o := .cells #[.int .u64 0, .int .u64 0, .int .i64 0, .slice none 0 0] 40 (0, 0)) (blk_newAt3 _ _ (by simp)) hb1)
  have HB := am (below_step (w := w) (by repeat (first | exact Below.refl _ _ | apply below_alloc)) hb1)
  have hs1 : w.heap.size + 1 + 1 + 1 ≤ w1.heap.size := by have := hb1.size; simpa using this
  have HV1 := am (Kd.V_below HV.out HB.out)
  have HR1 := am (Kd.R_lower HR (show w.heap.size + 1 + 1 + 1 ≤ _ by simp))
  clear HR hb1 HV
  obtain ⟨A1, c1, rfl⟩ := Kd.R_slice HR1.out
  have hc1 := (Kd.R_reads' HR1.out).2.1
  have x0 := blk_cell B1.out 0
  have x1 := blk_cell B1.out 1
  have x2 := blk_cell B1.out 2
  have x3 := blk_cell B1.out 3
  go_wp2_with fail
  refine (BinarySearchFunc_calls 46 #[] eg (fun y => bottom_compare.f k y.f0 y.f1 y.f2.f0 y.f2.f1 a1_0 a1_1 a1_2 a1_3) a1_0 a1_1 a1_2 a1_3 A1 c1 l0_3 i found w1 (Kd.R_reads' HR1.out).2.2 hc1 (by omega) (fun W y c _ hc => by simpa using bottom_compare.calls k _ _ _ _ _ _ _ _ c W hc) HQ.out).mono ?_
  rintro e w2 ⟨rfl, hb2⟩
  have hs2 : w.heap.size + 1 + 1 + 1 ≤ w2.heap.size := Nat.le_trans hs1 hb2.size
  have C0 := am (blk_below B0.out hb2)
  have C1 := am (blk_below B1.out hb2)
  have C2 := am (blk_below B2.out hb2)
  have HB2 := am (below_step HB.out hb2)
  have HV2 := am (Kd.V_below HV1.out hb2)
  have HR2 := am (Kd.R_below HR1.out hb2)
  clear hb2 hs1 B0 B1 B2 HB HV1 HR1 x0 x1 x2 x3 HQ
  have x0 := blk_cell C1.out 0
  have x1 := blk_cell C1.out 1
  have x2 := blk_cell C1.out 2
  have x3 := blk_cell C1.out 3
  have s0 := blk_cell C0.out 0
  have s1 := blk_cell C0.out 1
  have s2 := blk_cell C0.out 2
  have s3 := blk_cell C0.out 3
  cases found with
  | false =>
    have h := HH.out
    clear HH
    rw [if_neg (by decide)] at h
    split at h
    case isFalse => cases h
    case isTrue hi =>
    obtain ⟨j, rfl⟩ := Int.eq_ofNat_of_zero_le hi.1
    have hj : j ≤ l0_3.length := by have := hi.2; omega
    clear hi
    rw [Int.toNat_natCast] at h
    unfold bottom_add.cut at h
    split at h
    case isFalse => cases h
    case isTrue hm =>
    simp only [Option.some.injEq, Prod.mk.injEq] at h
    obtain ⟨rfl, rfl, rfl, h4, rfl⟩ := h
    have H4 := am h4
    have HM := am hm
    clear h4 hm
    go_wp2_with fail
    have hlt := Kd.R_lt HR2.out
    have hbs := Kd.R_base HR2.out
    refine (Insert_calls (w.heap.size + 1 + 1 + 1) (.slice A1 l0_3.length c1) l0_3.length j (flat cells87 l0_3) (cells87 ⟨a1_0, a1_1, ⟨a1_2, a1_3⟩⟩) w2.heap.size _ hj (own_of_R k87_flat k87_isM (Kd.R_alloc HR2.out _)) (blk_new _ _) rfl (cells87_one l0_3) (fun u hu => cells87_one [⟨a1_0, a1_1, ⟨a1_2, a1_3⟩⟩] u (by rw [flat_one]; exact hu)) (fun he => Nat.lt_irrefl _ (hlt _ he)) (by simp <;> omega) (by omega)).mono ?_
    rintro e w3 ⟨v1, rfl, ho, hB3, hk3, hat⟩
    rw [flat_ins (k := 4) (fun _ => rfl)] at ho
    have hml : (l0_3.take j ++ [(⟨a1_0, a1_1, ⟨a1_2, a1_3⟩⟩ : S87)] ++ l0_3.drop j).length = l0_3.length + 1 := by simp only [List.length_append, List.length_take, List.length_drop, List.length_singleton]; omega
    obtain ⟨m, hm⟩ : ∃ m, m = l0_3.take j ++ [(⟨a1_0, a1_1, ⟨a1_2, a1_3⟩⟩ : S87)] ++ l0_3.drop j := ⟨_, rfl⟩
    rw [← hm] at ho hml H4 HM
    rw [← hml] at ho
    have HR3 := am (R_of_own k87_flat (fun W b o x => k87_mkM W b o x) ho)
    have E0 := am ((hk3 w.heap.size (by simp <;> omega) (fun he => by have := hbs _ he.symm; omega)).trans (blk_alloc C0.out _))
    have E2 := am ((hk3 (w.heap.size + 1 + 1) (by simp <;> omega) (fun he => by have := hbs _ he.symm; omega)).trans (blk_alloc C2.out _))
    have HB3 := am ((HB2.out.alloc (by omega) _).trans (hB3.mono (by omega)))
    clear hm ho hk3 hB3 hat hlt hbs C0 C1 C2 HB2 HV2 HR2 x0 x1 x2 x3 s0 s1 s2 s3
    obtain ⟨A2, c2, rfl⟩ := Kd.R_slice HR3.out
    have hc2 := (Kd.R_reads' HR3.out).2.1
    obtain ⟨K, hK⟩ : ∃ K, K = wrap64 (a0_2 + 1) := ⟨_, rfl⟩
    have s0 := blk_cell E0.out 0
    have s1 := blk_cell E0.out 1
    have s2 := blk_cell E0.out 2
    have s3 := blk_cell E0.out 3
    have z3 := blk_frozen E0.out 3
    have t0 := blk_cell E2.out 0
    have y0 := blk_frozen E2.out 0
    have t1 := blk_cell E2.out 1
    have y1 := blk_frozen E2.out 1
    have t2 := blk_cell E2.out 2
    have y2 := blk_frozen E2.out 2
    have t3 := blk_cell E2.out 3
    have y3 := blk_frozen E2.out 3
    have hm0 := HM.out
    have HF : Aside0 (∀ mm : Nat, mm = (min (m.length : Int) (wrap64 (a0_2 + 1))).toNat → ∀ W : World, W = ((((w3.setCell ⟨w.heap.size, 3, none⟩ (.slice A2 mm c2)).setCell ⟨w.heap.size + 1 + 1, 0, none⟩ (.int .u64 a0_0)).setCell ⟨w.heap.size + 1 + 1, 1, none⟩ (.int .u64 a0_1)).setCell ⟨w.heap.size + 1 + 1, 2, none⟩ (.int .i64 a0_2)).setCell ⟨w.heap.size + 1 + 1, 3, none⟩ (.slice A2 mm c2) →
        W.heap[w.heap.size + 1 + 1]? = some (.cells #[.int .u64 a0_0, .int .u64 a0_1, .int .i64 a0_2, .slice A2 mm c2] 40 (0, 0)) ∧ Kd.V k87 87 W w.heap.size (fun k_ => (P0_3_ k_ ∨ w.heap.size ≤ k_)) (.slice A2 mm c2) r4 ∧ Below w.heap.size w W) := ⟨fun mm hmm W hW => by
      subst hW
      have hml2 : mm ≤ m.length := by omega
      have hV : Kd.V k87 87 w3 w.heap.size (fun k_ => w.heap.size + 1 + 1 + 1 ≤ k_) (.slice A2 m.length c2) m := Kd.R_V (Kd.R_mono (Kd.R_bound HR3.out) (fun k_ hk => hk.2.1))
      have h4 := H4.out
      rw [← hmm] at h4
      subst h4
      refine ⟨blk_put (blk_put (blk_put (blk_put (cs' := #[.int .u64 a0_0, .int .u64 0, .int .i64 0, .slice none 0 0]) (blk_far E2.out (by simp <;> omega) _) 0 _ rfl) (cs' := #[.int .u64 a0_0, .int .u64 a0_1, .int .i64 0, .slice none 0 0]) 1 _ rfl) (cs' := #[.int .u64 a0_0, .int .u64 a0_1, .int .i64 a0_2, .slice none 0 0]) 2 _ rfl) 3 _ rfl, ?_, below_set (below_set (below_set (below_set (below_set HB3.out (Nat.le_refl _)) (by omega)) (by omega)) (by omega)) (by omega)⟩
      refine Kd.V_mono (ok := fun k_ => w.heap.size + 1 + 1 + 1 ≤ k_) (V_taken ?_ hml2) (fun k_ hk => .inr (by omega))
      refine Kd.V_far (Kd.V_far (Kd.V_far (Kd.V_far (Kd.V_far hV ?_ _) ?_ _) ?_ _) ?_ _) ?_ _ <;> (intro k_ hk; simp only [ne_eq]; omega)⟩
    go_wp2_with fail
    all_goals first
      | (obtain ⟨f1, f2, f3⟩ := HF.out (l0_3.length + 1) (by omega) _ rfl
         refine bodyPost_ret (v := .tuple #[.agg #[.int .u64 a0_0, .int .u64 a0_1, .int .i64 a0_2, .slice A2 (l0_3.length + 1) c2], .int .i64 0]) ?_ rfl ⟨.slice A2 (l0_3.length + 1) c2, rfl, f2, f3⟩
         refine results_ct (fn := Try.f32) (p := 4) (u := 5) rfl _ _ (w.heap.size + 1 + 1) 40 _ (0, 0) _ ?_ f1 hu40 rfl ?_
         · rfl
         · kernel_rfl)
      | (obtain ⟨f1, f2, f3⟩ := HF.out (wrap64 (a0_2 + 1)).toNat (by omega) _ rfl
         refine bodyPost_ret (v := .tuple #[.agg #[.int .u64 a0_0, .int .u64 a0_1, .int .i64 a0_2, .slice A2 (wrap64 (a0_2 + 1)).toNat c2], .int .i64 0]) ?_ rfl ⟨.slice A2 (wrap64 (a0_2 + 1)).toNat c2, rfl, f2, f3⟩
         refine results_ct (fn := Try.f32) (p := 4) (u := 5) rfl _ _ (w.heap.size + 1 + 1) 40 _ (0, 0) _ ?_ f1 hu40 rfl ?_
         · rfl
         · kernel_rfl)
  | true =>
    have h := HH.out
    clear HH
    rw [if_pos rfl] at h
    split at h
    case isFalse => cases h
    case isTrue hi =>
    obtain ⟨j, rfl⟩ := Int.eq_ofNat_of_zero_le hi.1
    have hj : j < l0_3.length := by have := hi.2; omega
    clear hi
    rw [Int.toNat_natCast] at h
    obtain ⟨n, hn, h⟩ := Option.bind_eq_some_iff.1 h
    obtain ⟨n1, n2, n3⟩ := n
    obtain ⟨x, hx⟩ : ∃ x, x = rd_T87 l0_3 (j : Int) := ⟨_, rfl⟩
    rw [← hx] at hn h
    have HN := am hn
    have HH := am h
    clear h hn
    obtain ⟨ga, cap, e, hga0, hga1, hgt⟩ := Kd.R_form HR2.out (by omega)
    obtain ⟨rfl, rfl⟩ : A1 = some ⟨ga, 0, none⟩ ∧ c1 = cap := by injection e with e1 e2 e3; exact ⟨e1, e3⟩
    clear e hgt
    obtain ⟨cf, hcl, hM, hcc, hfr⟩ := Kd.R_elem HR2.out z87 (j : Int) (by omega) (by omega)
    obtain rfl := k87_openM hM
    have hcc2 := hcc 2 _ rfl
    have hcc3 := hcc 3 _ rfl
    have hX : l0_3.getD (j : Int).toNat z87 = x := hx.symm
    have y0 : Aside0 (w2.cell? ⟨ga, j * 4 + 2, none⟩ = some (.int .u64 x.f2.f0)) := ⟨by rw [← hX]; exact hcc2⟩
    have y1 : Aside0 (w2.cell? ⟨ga, j * 4 + 2 + 1, none⟩ = some (.int .u64 x.f2.f1)) := ⟨by rw [← hX]; exact hcc3⟩
    have y2 := am x2
    have y3 := am x3
    clear hcc2 hcc3 hcc hfr hcl hM hX
    have HX := am hx
    clear hx
    have HBB := am (Below.refl w2.heap.size w2)
    have d1 : (0 : Int) ≤ (j : Int) := by omega
    have d2 : (j : Int) < (l0_3.length : Int) := by omega
    clear x0 x1 x2 x3 s0 s1 s2 s3
    go_wp2_with fail
    refine start_ (n := 14) (S := fun w' => w'.cell? ⟨ga, j * 4 + 2, none⟩ = some (.int .u64 x.f2.f0) ∧ w'.cell? ⟨ga, j * 4 + 2 + 1, none⟩ = some (.int .u64 x.f2.f1) ∧ w'.cell? ⟨w.heap.size + 1, 2, none⟩ = some (.int .u64 a1_2) ∧ w'.cell? ⟨w.heap.size + 1, 3, none⟩ = some (.int .u64 a1_3)) (ds := [12]) #[false, false, false, false, false, false, false, false, false, false, false, false, false, false] (by kernel_rfl) rfl rfl ⟨y0.out, y1.out, y2.out, y3.out⟩ (fun hHeld => ?_)
    refine pure_ (i := 0) (N := some 22) (v := ?_) (a' := ?_) #[true, false, false, false, false, false, false, false, false, false, false, false, false, false] rfl rfl (by kernel_rfl) (fun _ _ _ h => h) (Or.inl ⟨by rfl, ?_⟩) ?_ ?_
    rotate_left
    · intro w'
      go_simp
      with_reducible rfl
    rotate_left
    · simp only [Act.put, List.setIfInBounds_toArray, List.set_cons_zero, List.set_cons_succ, i64_w, i32_w]
      rfl
    refine pure_ (i := 1) (N := some 23) (v := ?_) (a' := ?_) #[true, true, false, false, false, false, false, false, false, false, false, false, false, false] rfl rfl (by kernel_rfl) (fun _ _ _ h => h) (Or.inl ⟨by rfl, ?_⟩) ?_ ?_
    rotate_left
    · intro w'
      go_simp
      with_reducible rfl
    rotate_left
    · simp only [Act.put, List.setIfInBounds_toArray, List.set_cons_zero, List.set_cons_succ, i64_w, i32_w]
      rfl
    refine pure_ (i := 2) (N := some 24) (v := ?_) (a' := ?_) #[true, true, true, false, false, false, false, false, false, false, false, false, false, false] rfl rfl (by kernel_rfl) (fun _ _ _ h => h) (Or.inl ⟨by rfl, ?_⟩) ?_ ?_
    rotate_left
    · intro w'
      go_simp
      with_reducible rfl
    rotate_left
    · simp only [Act.put, List.setIfInBounds_toArray, List.set_cons_zero, List.set_cons_succ, i64_w, i32_w]
      rfl
    refine pure_ (i := 3) (N := some 25) (v := ?_) (a' := ?_) #[true, true, true, true, false, false, false, false, false, false, false, false, false, false] rfl rfl (by kernel_rfl) (fun _ _ _ h => h) (Or.inl ⟨by rfl, ?_⟩) ?_ ?_
    rotate_left
    · intro w'
      go_simp
      with_reducible rfl
    rotate_left
    · simp only [Act.put, List.setIfInBounds_toArray, List.set_cons_zero, List.set_cons_succ, i64_w, i32_w]
      rfl
    refine pure_ (i := 5) (N := some 27) (v := ?_) (a' := ?_) #[true, true, true, true, false, true, false, false, false, false, false, false, false, false] rfl rfl (by kernel_rfl) (fun _ _ _ h => h) (Or.inl ⟨by rfl, ?_⟩) ?_ ?_
    rotate_left
    · intro w'
      go_simp
      with_reducible rfl
    rotate_left
    · simp only [Act.put, List.setIfInBounds_toArray, List.set_cons_zero, List.set_cons_succ, i64_w, i32_w]
      rfl
    refine take_ (i := 4) (N := some 26) (v := ?_) (a' := ?_) #[true, true, true, true, true, true, false, false, false, false, false, false, false, false] rfl rfl (by kernel_rfl) (fun _ _ _ h => h) (Or.inl ⟨by rfl, ?_⟩) hHeld ?_ ?_
    rotate_left
    · rintro w' ⟨s0, s1, s2, s3⟩
      go_simp
      with_reducible rfl
    rotate_left
    · simp only [Act.put, List.setIfInBounds_toArray, List.set_cons_zero, List.set_cons_succ, i64_w, i32_w]
      rfl
    refine take_ (i := 6) (N := some 28) (v := ?_) (a' := ?_) #[true, true, true, true, true, true, true, false, false, false, false, false, false, false] rfl rfl (by kernel_rfl) (fun _ _ _ h => h) (Or.inl ⟨by rfl, ?_⟩) hHeld ?_ ?_
    rotate_left
    · rintro w' ⟨s0, s1, s2, s3⟩
      go_simp
      with_reducible rfl
    rotate_left
    · simp only [Act.put, List.setIfInBounds_toArray, List.set_cons_zero, List.set_cons_succ, i64_w, i32_w]
      rfl
    refine join_ (σ := Nat) 2 #[true, true, true, true, true, true, true, true, true, true, true, true, false, false] (fun s_ => [(29, .tuple #[.agg #[.int .u64 n1, .int .u64 n2], .bool n3]), (21, .tuple #[.agg #[.int .u64 n1, .int .u64 n2], .bool n3]), (30, .agg #[.int .u64 n1, .int .u64 n2]), (31, .bool n3), (9, .pointer (some ⟨s_, 0, none⟩))]) (fun s_ w' => (w'.cell? ⟨ga, j * 4 + 2, none⟩ = some (.int .u64 x.f2.f0) ∧ w'.cell? ⟨ga, j * 4 + 2 + 1, none⟩ = some (.int .u64 x.f2.f1) ∧ w'.cell? ⟨w.heap.size + 1, 2, none⟩ = some (.int .u64 a1_2) ∧ w'.cell? ⟨w.heap.size + 1, 3, none⟩ = some (.int .u64 a1_3)) ∧ w'.heap[s_]? = some (.cells #[.int .u64 0, .int .u64 0] 65 (0, 0)) ∧ w2.heap.size ≤ s_ ∧ Below w2.heap.size w2 w') ?_ ?_
    rotate_left
    · intro hCont
      refine two_ (i := 7) (j := 11) (Ni := some 29) (Nj := some 9) #[true, true, true, true, true, true, true, true, false, false, false, false, false, false] #[true, true, true, true, true, true, true, false, false, false, false, true, false, false] rfl rfl rfl rfl (by kernel_rfl) (by decide) (by decide) (fun K hK => ?_) (fun K hK => ?_)
      · skip
        refine goes_ Try.func49 (by kernel_rfl) rfl #[.agg #[.int .u64 x.f2.f0, .int .u64 x.f2.f1], .agg #[.int .u64 a1_2, .int .u64 a1_3]] (by rfl) rfl rfl (by simp only [List.map_toArray, List.map_cons, List.map_nil]; rfl) ?_
        with_reducible refine (wide_Add.calls x.f2.f0 x.f2.f1 a1_2 a1_3 n1 n2 n3 _ HN.out).mono ?_
        rintro e w3 ⟨rfl, hb3⟩
        refine ⟨_, rfl, ?_⟩
        have n0_ := am (below_step (by repeat (first | (with_reducible first | exact HBB.out | apply below_alloc | apply pw_below_drewN | apply below_drew1) | exact HBB.out)) hb3)
        clear HBB
        have HBB := n0_
        clear n0_ hb3
        refine hK.out _ _ ⟨pw_cell_below HBB.out y0.out, pw_cell_below HBB.out y1.out, pw_cell_below HBB.out y2.out, pw_cell_below HBB.out y3.out⟩ (fun hHeld => ?_)
        clear hK K
        refine nm ?_
        refine pure_ (i := 8) (N := some 21) (v := ?_) (a' := ?_) #[true, true, true, true, true, true, true, true, true, false, false, false, false, false] rfl rfl (by kernel_rfl) (fun _ _ _ h => h) (Or.inl ⟨by rfl, ?_⟩) ?_ ?_
        rotate_left
        · intro w'
          go_simp
          with_reducible rfl
        rotate_left
        · simp only [Act.put, List.setIfInBounds_toArray, List.set_cons_zero, List.set_cons_succ, i64_w, i32_w]
          rfl
        refine pure_ (i := 9) (N := some 30) (v := ?_) (a' := ?_) #[true, true, true, true, true, true, true, true, true, true, false, false, false, false] rfl rfl (by kernel_rfl) (fun _ _ _ h => h) (Or.inl ⟨by rfl, ?_⟩) ?_ ?_
        rotate_left
        · intro w'
          go_simp
          with_reducible rfl
        rotate_left
        · simp only [Act.put, List.setIfInBounds_toArray, List.set_cons_zero, List.set_cons_succ, i64_w, i32_w]
          rfl
        refine pure_ (i := 10) (N := some 31) (v := ?_) (a' := ?_) #[true, true, true, true, true, true, true, true, true, true, true, false, false, false] rfl rfl (by kernel_rfl) (fun _ _ _ h => h) (Or.inl ⟨by rfl, ?_⟩) ?_ ?_
        rotate_left
        · intro w'
          go_simp
          with_reducible rfl
        rotate_left
        · simp only [Act.put, List.setIfInBounds_toArray, List.set_cons_zero, List.set_cons_succ, i64_w, i32_w]
          rfl
        refine one_ (i := 11) (N := some 9) #[true, true, true, true, true, true, true, true, true, true, true, true, false, false] rfl rfl (by kernel_rfl) (by decide) (fun K hK => ?_)
        refine bx 9 #[.int .u64 0, .int .u64 0] 65 ?_
        intro gb hg w3 hbox hb3
        have n0_ := am (below_step (by repeat (first | (with_reducible first | exact HBB.out | apply below_alloc | apply pw_below_drewN | apply below_drew1) | exact HBB.out)) hb3)
        have GE : Aside0 (w2.heap.size ≤ gb) := ⟨by rw [hg]; exact HBB.out.size⟩
        have BK := am hbox
        clear HBB
        have HBB := n0_
        clear n0_ hb3 hbox hg
        refine hK.out _ _ ⟨pw_cell_below HBB.out y0.out, pw_cell_below HBB.out y1.out, pw_cell_below HBB.out y2.out, pw_cell_below HBB.out y3.out⟩ (fun hHeld => ?_)
        clear hK K
        refine nm ?_
        exact nj (hCont gb _ ⟨hHeld, BK.out, GE.out, HBB.out⟩)
      · skip
        refine bx 9 #[.int .u64 0, .int .u64 0] 65 ?_
        intro gb hg w3 hbox hb3
        have n0_ := am (below_step (by repeat (first | (with_reducible first | exact HBB.out | apply below_alloc | apply pw_below_drewN | apply below_drew1) | exact HBB.out)) hb3)
        have GE : Aside0 (w2.heap.size ≤ gb) := ⟨by rw [hg]; exact HBB.out.size⟩
        have BK := am hbox
        clear HBB
        have HBB := n0_
        clear n0_ hb3 hbox hg
        refine hK.out _ _ ⟨pw_cell_below HBB.out y0.out, pw_cell_below HBB.out y1.out, pw_cell_below HBB.out y2.out, pw_cell_below HBB.out y3.out⟩ (fun hHeld => ?_)
        clear hK K
        refine nm ?_
        refine one_ (i := 7) (N := some 29) #[true, true, true, true, true, true, true, true, false, false, false, true, false, false] rfl rfl (by kernel_rfl) (by decide) (fun K hK => ?_)
        refine goes_ Try.func49 (by kernel_rfl) rfl #[.agg #[.int .u64 x.f2.f0, .int .u64 x.f2.f1], .agg #[.int .u64 a1_2, .int .u64 a1_3]] (by rfl) rfl rfl (by simp only [List.map_toArray, List.map_cons, List.map_nil]; rfl) ?_
        with_reducible refine (wide_Add.calls x.f2.f0 x.f2.f1 a1_2 a1_3 n1 n2 n3 _ HN.out).mono ?_
        rintro e w3 ⟨rfl, hb3⟩
        refine ⟨_, rfl, ?_⟩
        have n0_ := am (below_step (by repeat (first | (with_reducible first | exact HBB.out | apply below_alloc | apply pw_below_drewN | apply below_drew1) | exact HBB.out)) hb3)
        have n1_ := am (blk_below BK.out hb3)
        clear BK
        have BK := n1_
        clear n1_ HBB
        have HBB := n0_
        clear n0_ hb3
        refine hK.out _ _ ⟨pw_cell_below HBB.out y0.out, pw_cell_below HBB.out y1.out, pw_cell_below HBB.out y2.out, pw_cell_below HBB.out y3.out⟩ (fun hHeld => ?_)
        clear hK K
        refine nm ?_
        refine pure_ (i := 8) (N := some 21) (v := ?_) (a' := ?_) #[true, true, true, true, true, true, true, true, true, false, false, true, false, false] rfl rfl (by kernel_rfl) (fun _ _ _ h => h) (Or.inl ⟨by rfl, ?_⟩) ?_ ?_
        rotate_left
        · intro w'
          go_simp
          with_reducible rfl
        rotate_left
        · simp only [Act.put, List.setIfInBounds_toArray, List.set_cons_zero, List.set_cons_succ, i64_w, i32_w]
          rfl
        refine pure_ (i := 9) (N := some 30) (v := ?_) (a' := ?_) #[true, true, true, true, true, true, true, true, true, true, false, true, false, false] rfl rfl (by kernel_rfl) (fun _ _ _ h => h) (Or.inl ⟨by rfl, ?_⟩) ?_ ?_
        rotate_left
        · intro w'
          go_simp
          with_reducible rfl
        rotate_left
        · simp only [Act.put, List.setIfInBounds_toArray, List.set_cons_zero, List.set_cons_succ, i64_w, i32_w]
          rfl
        refine pure_ (i := 10) (N := some 31) (v := ?_) (a' := ?_) #[true, true, true, true, true, true, true, true, true, true, true, true, false, false] rfl rfl (by kernel_rfl) (fun _ _ _ h => h) (Or.inl ⟨by rfl, ?_⟩) ?_ ?_
        rotate_left
        · intro w'
          go_simp
          with_reducible rfl
        rotate_left
        · simp only [Act.put, List.setIfInBounds_toArray, List.set_cons_zero, List.set_cons_succ, i64_w, i32_w]
          rfl
        exact nj (hCont gb _ ⟨hHeld, BK.out, GE.out, HBB.out⟩)
    rintro gb w4 ⟨hHeld, hbk, hge, hbb⟩
    have BK := am hbk
    have GE := am hge
    clear HBB
    have HBB := am hbb
    clear hbk hge hbb
    have b0 := blk_cell BK.out 0
    have b1 := blk_cell BK.out 1
    have f0 := blk_frozen BK.out 0
    have f1 := blk_frozen BK.out 1
    refine norm_ (a' := ?_) ?_ ?_
    rotate_left
    · simp only [putAll, Act.put, List.setIfInBounds_toArray, List.set_cons_zero, List.set_cons_succ]
      rfl
    refine last_ (i := 12) (N := none) #[true, true, true, true, true, true, true, true, true, true, true, true, true, false] rfl rfl (by kernel_rfl) (by decide) (fun K hK => ?_)
    refine skip_ (w1 := ?_) (by rfl) rfl ?_ ?_
    rotate_left
    · go_simp
      rfl
    refine hK.out _ _ ?_
    clear hK K
    refine pure_ (i := 13) (N := some 10) (v := ?_) (a' := ?_) #[true, true, true, true, true, true, true, true, true, true, true, true, true, true] rfl rfl (by kernel_rfl) (fun _ _ _ h => h) (Or.inl ⟨by rfl, ?_⟩) ?_ ?_
    rotate_left
    · intro w'
      go_simp
      with_reducible rfl
    rotate_left
    · simp only [Act.put, List.setIfInBounds_toArray, List.set_cons_zero, List.set_cons_succ, i64_w, i32_w]
      rfl
    refine done_ (by kernel_rfl) ?_
    have hne2 : w.heap.size + 1 + 1 < gb := by have := GE.out; omega
    have E0 := am (blk_far (blk_far (blk_below C0.out HBB.out) (p := ⟨gb, 0, none⟩) (by simp <;> omega) (.int .u64 n1)) (p := ⟨gb, 1, none⟩) (by simp <;> omega) (.int .u64 n2))
    have E2 := am (blk_far (blk_far (blk_below C2.out HBB.out) (p := ⟨gb, 0, none⟩) (by simp <;> omega) (.int .u64 n1)) (p := ⟨gb, 1, none⟩) (by simp <;> omega) (.int .u64 n2))
    have EG := am (blk_put (cs' := #[.int .u64 n1, .int .u64 n2]) (blk_put (cs' := #[.int .u64 n1, .int .u64 0]) BK.out 0 (.int .u64 n1) rfl) 1 (.int .u64 n2) rfl)
    have HB5 := am (below_set (g := gb) (j := 1) (v := .int .u64 n2) (below_set (g := gb) (j := 0) (v := .int .u64 n1) (below_step HB2.out HBB.out) (by omega)) (by omega))
    have HV5 := am (Kd.V_far (Kd.V_far (Kd.V_below HV2.out HBB.out) (p := ⟨gb, 0, none⟩) (fun k_ hk => by have := hk.2; simp only [ne_eq]; omega) (.int .u64 n1)) (p := ⟨gb, 1, none⟩) (fun k_ hk => by have := hk.2; simp only [ne_eq]; omega) (.int .u64 n2))
    have HR5 := am (Kd.R_far (Kd.R_far (Kd.R_below (Kd.R_bound HR2.out) HBB.out) (p := ⟨gb, 0, none⟩) (fun k_ hk => by have := hk.2.2.1; have := GE.out; simp only [ne_eq]; omega) (.int .u64 n1)) (p := ⟨gb, 1, none⟩) (fun k_ hk => by have := hk.2.2.1; have := GE.out; simp only [ne_eq]; omega) (.int .u64 n2))
    clear b0 b1 f0 f1 hHeld BK HBB C0 C1 C2 HB2 HV2 HR2 y0 y1 y2 y3
    generalize ((w4.setCell ⟨gb, 0, none⟩ (.int .u64 n1)).setCell ⟨gb, 1, none⟩ (.int .u64 n2)) = w5 at E0 E2 EG HB5 HV5 HR5 ⊢
    have s0 := blk_cell E0.out 0
    have s1 := blk_cell E0.out 1
    have s2 := blk_cell E0.out 2
    have s3 := blk_cell E0.out 3
    have t0 := blk_cell E2.out 0
    have y0 := blk_frozen E2.out 0
    have t1 := blk_cell E2.out 1
    have y1 := blk_frozen E2.out 1
    have t2 := blk_cell E2.out 2
    have y2 := blk_frozen E2.out 2
    have t3 := blk_cell E2.out 3
    have y3 := blk_frozen E2.out 3
    cases n3 with
    | false =>
      have h := HH.out
      clear HH
      rw [if_neg (by decide)] at h
      simp only [Option.some.injEq, Prod.mk.injEq] at h
      obtain ⟨rfl, rfl, rfl, rfl, rfl⟩ := h
      have HF : Aside0 (∀ W : World, W = (((w5.setCell ⟨w.heap.size + 1 + 1, 0, none⟩ (.int .u64 a0_0)).setCell ⟨w.heap.size + 1 + 1, 1, none⟩ (.int .u64 a0_1)).setCell ⟨w.heap.size + 1 + 1, 2, none⟩ (.int .i64 a0_2)).setCell ⟨w.heap.size + 1 + 1, 3, none⟩ (.slice A0_3 l0_3.length c0_3) →
          W.heap[w.heap.size + 1 + 1]? = some (.cells #[.int .u64 a0_0, .int .u64 a0_1, .int .i64 a0_2, .slice A0_3 l0_3.length c0_3] 40 (0, 0)) ∧ Kd.V k87 87 W w.heap.size (fun k_ => (P0_3_ k_ ∨ w.heap.size ≤ k_)) (.slice A0_3 l0_3.length c0_3) l0_3 ∧ Below w.heap.size w W) := ⟨fun W hW => by
        subst hW
        refine ⟨blk_put (blk_put (blk_put (blk_put (cs' := #[.int .u64 a0_0, .int .u64 0, .int .i64 0, .slice none 0 0]) E2.out 0 _ rfl) (cs' := #[.int .u64 a0_0, .int .u64 a0_1, .int .i64 0, .slice none 0 0]) 1 _ rfl) (cs' := #[.int .u64 a0_0, .int .u64 a0_1, .int .i64 a0_2, .slice none 0 0]) 2 _ rfl) 3 _ rfl, ?_, below_set (below_set (below_set (below_set HB5.out (by omega)) (by omega)) (by omega)) (by omega)⟩
        refine Kd.V_mono (ok := fun k_ => P0_3_ k_ ∧ k_ < w.heap.size) ?_ (fun k_ hk => .inl hk.1)
        refine Kd.V_far (Kd.V_far (Kd.V_far (Kd.V_far HV5.out ?_ _) ?_ _) ?_ _) ?_ _ <;> (intro k_ hk; have := hk.2; simp only [ne_eq]; omega)⟩
      go_wp2_with fail
      obtain ⟨f1, f2, f3⟩ := HF.out _ rfl
      refine bodyPost_ret (v := .tuple #[.agg #[.int .u64 a0_0, .int .u64 a0_1, .int .i64 a0_2, .slice A0_3 l0_3.length c0_3], .int .i64 12]) ?_ rfl ⟨.slice A0_3 l0_3.length c0_3, rfl, f2, f3⟩
      refine results_ct (fn := Try.f32) (p := 4) (u := 5) rfl _ _ (w.heap.size + 1 + 1) 40 _ (0, 0) _ ?_ f1 hu40 rfl ?_
      · rfl
      · kernel_rfl
    | true =>
      have h := HH.out
      clear HH
      rw [if_pos rfl] at h
      unfold bottom_add.cut at h
      split at h
      case isFalse => cases h
      case isTrue hm =>
      simp only [Option.some.injEq, Prod.mk.injEq] at h
      obtain ⟨rfl, rfl, rfl, h4, rfl⟩ := h
      have H4 := am h4
      have HM := am hm
      clear h4 hm
      have g0 := blk_cell EG.out 0
      have g1 := blk_cell EG.out 1
      clear s0 s1 s2 s3 t0 t1 t2 t3 y0 y1 y2 y3
      obtain ⟨cf, hcl, hM, hcc, hfr⟩ := Kd.R_elem HR5.out z87 (j : Int) (by omega) (by omega)
      obtain rfl := k87_openM hM
      have hX : l0_3.getD (j : Int).toNat z87 = x := HX.out.symm
      rw [hX] at hcc hcl
      have HC := am (And.intro hcl hcc)
      have HFR := am hfr
      clear hcl hcc hfr hM hX
      have HP := am (Kd.R_seg HR5.out (j : Int) (by omega) (by omega) (seg := [.int .u64 n1, .int .u64 n2]) (j := 2) HC.out.1 HC.out.2 (show 2 + 2 ≤ 4 from by decide) (x' := ⟨x.f0, x.f1, ⟨n1, n2⟩⟩) (okp := fun _ => False) (k87_mkM _ _ _ ⟨x.f0, x.f1, ⟨n1, n2⟩⟩) (fun _ hk => hk.elim))
      have q2 : w5.cell? ⟨ga, j * 4 + 2, none⟩ = some (.int .u64 x.f2.f0) := HC.out.2 2 _ rfl
      have q3 : w5.cell? ⟨ga, j * 4 + 2 + 1, none⟩ = some (.int .u64 x.f2.f1) := HC.out.2 3 _ rfl
      have q4 : w5.frozen? ⟨ga, j * 4 + 2, none⟩ = false := HFR.out 2
      have q5 : w5.frozen? ⟨ga, j * 4 + 2 + 1, none⟩ = false := HFR.out 3
      clear HC HFR
      obtain ⟨m, hm⟩ : ∃ m, m = l0_3.set j ⟨x.f0, x.f1, ⟨n1, n2⟩⟩ := ⟨_, rfl⟩
      have hml : m.length = l0_3.length := by rw [hm, List.length_set]
      rw [← hm] at H4 HM
      have HMM := am hm
      clear hm
      go_wp2_with (
        with_reducible refine gate_store (t := 65) (p := 39) rfl ?_
        refine store_event (t := 65) (p := 39) (v := ?vo_1) (w1 := (w5.setCell ⟨ga, j * 4 + 2, none⟩ (.int .u64 n1)).setCell ⟨ga, j * 4 + 2 + 1, none⟩ (.int .u64 n2)) ?hg ?ho ?hn ?hr ?_; (case ho => rfl); (case hg => rfl); (case hn => rfl); (case hr => first | (go_simp; done) | (go_simp; rfl))
        intro w6 hw
        have hg6 : w5.grownBy w6 (some ga) := (by rw [hw]; exact HP.out.2)
        have HR6 : Aside0 (Kd.R k87 87 w6 (w.heap.size + 1 + 1 + 1) _ (.slice (some ⟨ga, 0, none⟩) m.length c1) m) := ⟨by rw [hw, hml, HMM.out]; exact HP.out.1⟩
        have HB6 : Aside0 (Below w.heap.size w w6) := ⟨by rw [hw]; exact below_set (below_set HB5.out (by omega)) (by omega)⟩
        have F0 := am (blk_grown E0.out hg6 (by simp only [ne_eq, Option.some.injEq]; omega))
        have F2 := am (blk_grown E2.out hg6 (by simp only [ne_eq, Option.some.injEq]; omega))
        clear hw hg6 HP q2 q3 q4 q5 g0 g1 HR5 HV5 HB5 E0 E2 EG HMM
        obtain ⟨K, hK⟩ : ∃ K, K = wrap64 (a0_2 + 1) := ⟨_, rfl⟩
        have s0 := blk_cell F0.out 0
        have s1 := blk_cell F0.out 1
        have s2 := blk_cell F0.out 2
        have s3 := blk_cell F0.out 3
        have z3 := blk_frozen F0.out 3
        have t0 := blk_cell F2.out 0
        have y0 := blk_frozen F2.out 0
        have t1 := blk_cell F2.out 1
        have y1 := blk_frozen F2.out 1
        have t2 := blk_cell F2.out 2
        have y2 := blk_frozen F2.out 2
        have t3 := blk_cell F2.out 3
        have y3 := blk_frozen F2.out 3
        have hm0 := HM.out
        have HF : Aside0 (∀ mm : Nat, mm = (min (m.length : Int) (wrap64 (a0_2 + 1))).toNat → ∀ W : World, W = ((((w6.setCell ⟨w.heap.size, 3, none⟩ (.slice (some ⟨ga, 0, none⟩) mm c1)).setCell ⟨w.heap.size + 1 + 1, 0, none⟩ (.int .u64 a0_0)).setCell ⟨w.heap.size + 1 + 1, 1, none⟩ (.int .u64 a0_1)).setCell ⟨w.heap.size + 1 + 1, 2, none⟩ (.int .i64 a0_2)).setCell ⟨w.heap.size + 1 + 1, 3, none⟩ (.slice (some ⟨ga, 0, none⟩) mm c1) →
            W.heap[w.heap.size + 1 + 1]? = some (.cells #[.int .u64 a0_0, .int .u64 a0_1, .int .i64 a0_2, .slice (some ⟨ga, 0, none⟩) mm c1] 40 (0, 0)) ∧ Kd.V k87 87 W w.heap.size (fun k_ => (P0_3_ k_ ∨ w.heap.size ≤ k_)) (.slice (some ⟨ga, 0, none⟩) mm c1) r4 ∧ Below w.heap.size w W) := ⟨fun mm hmm W hW => by
          subst hW
          have hml2 : mm ≤ m.length := by omega
          have hV : Kd.V k87 87 w6 w.heap.size (fun k_ => w.heap.size + 1 + 1 + 1 ≤ k_) (.slice (some ⟨ga, 0, none⟩) m.length c1) m := Kd.R_V (Kd.R_mono (Kd.R_bound HR6.out) (fun k_ hk => hk.2.1))
          have h4 := H4.out
          rw [← hmm] at h4
          subst h4
          refine ⟨blk_put (blk_put (blk_put (blk_put (cs' := #[.int .u64 a0_0, .int .u64 0, .int .i64 0, .slice none 0 0]) (blk_far F2.out (by simp <;> omega) _) 0 _ rfl) (cs' := #[.int .u64 a0_0, .int .u64 a0_1, .int .i64 0, .slice none 0 0]) 1 _ rfl) (cs' := #[.int .u64 a0_0, .int .u64 a0_1, .int .i64 a0_2, .slice none 0 0]) 2 _ rfl) 3 _ rfl, ?_, below_set (below_set (below_set (below_set (below_set HB6.out (Nat.le_refl _)) (by omega)) (by omega)) (by omega)) (by omega)⟩
          refine Kd.V_mono (ok := fun k_ => w.heap.size + 1 + 1 + 1 ≤ k_) (V_taken ?_ hml2) (fun k_ hk => .inr (by omega))
          refine Kd.V_far (Kd.V_far (Kd.V_far (Kd.V_far (Kd.V_far hV ?_ _) ?_ _) ?_ _) ?_ _) ?_ _ <;> (intro k_ hk; simp only [ne_eq]; omega)⟩
      )
      all_goals first
        | (obtain ⟨f1, f2, f3⟩ := HF.out l0_3.length (by omega) _ rfl
           refine bodyPost_ret (v := .tuple #[.agg #[.int .u64 a0_0, .int .u64 a0_1, .int .i64 a0_2, .slice (some ⟨ga, 0, none⟩) l0_3.length c1], .int .i64 0]) ?_ rfl ⟨.slice (some ⟨ga, 0, none⟩) l0_3.length c1, rfl, f2, f3⟩
           refine results_ct (fn := Try.f32) (p := 4) (u := 5) rfl _ _ (w.heap.size + 1 + 1) 40 _ (0, 0) _ ?_ f1 hu40 rfl ?_
           · rfl
           · kernel_rfl)
        | (obtain ⟨f1, f2, f3⟩ := HF.out (wrap64 (a0_2 + 1)).toNat (by omega) _ rfl
           refine bodyPost_ret (v := .tuple #[.agg #[.int .u64 a0_0, .int .u64 a0_1, .int .i64 a0_2, .slice (some ⟨ga, 0, none⟩) (wrap64 (a0_2 + 1)).toNat c1], .int .i64 0]) ?_ rfl ⟨.slice (some ⟨ga, 0, none⟩) (wrap64 (a0_2 + 1)).toNat c1, rfl, f2, f3⟩
           refine results_ct (fn := Try.f32) (p := 4) (u := 5) rfl _ _ (w.heap.size + 1 + 1) 40 _ (0, 0) _ ?_ f1 hu40 rfl ?_
           · rfl
           · kernel_rfl)
def bottom_Add.f (k : Nat) (a0_0 : Int) (a0_1 : Int) (a0_2 : Int) (l0_3 : List (S87)) (a1 : ByteArray) (a2 : Int) : Option (Int × Int × Int × (List (S87)) × Int) := (bottom_Right.f k a0_0 a0_1 a0_2 l0_3).bind fun t181 => (if t181 = true then (if (a1.size : Int) > 64 then (some (a0_0, a0_1, a0_2, l0_3, 5)) else (if a2 = 0 then (some (a0_0, a0_1, a0_2, l0_3, 7)) else ((sip_Sum.f k a0_0 a0_1 a1).bind fun t182 => ((wide_Of.f a2).bind fun bt183 => ((bottom_add.f k a0_0 a0_1 a0_2 l0_3 a1 t182 bt183.1 bt183.2).bind fun bt185 => (some (bt185.1, bt185.2.1, bt185.2.2.1, bt185.2.2.2.1, bt185.2.2.2.2))))))) else (some (a0_0, a0_1, a0_2, l0_3, 1)))
theorem bottom_Add.mono : ∀ a0 a1 a2 a3 a4 a5 k, LeO (bottom_Add.f k a0 a1 a2 a3 a4 a5) (bottom_Add.f (k + 1) a0 a1 a2 a3 a4 a5) := by
  intro a0 a1 a2 a3 a4 a5 k
  unfold bottom_Add.f
  repeat' first
      | (with_reducible exact bottom_Right.mono _ _ _ _ _)
      | (with_reducible exact bottom_add.mono _ _ _ _ _ _ _ _ _)
      | (with_reducible exact sip_Sum.mono _ _ _ _)
      | (with_reducible exact LeO.refl _)
      | (with_reducible exact LeO.none _)
      | (with_reducible refine LeO.ite ?_ ?_)
      | (with_reducible refine LeO.bind ?_ (fun _ => ?_))
def bottom_Add.T7 : Bool × List (List Nat × List Nat) := (true, [([], []), ([], []), ([], []), ([2], [2]), ([], []), ([3, 4], [3, 4]), ([], []), ([6, 5], [6]), ([1, 5, 7], [1, 5, 7]), ([0, 8, 7], [0, 8]), ([9], [9]), ([9], [9]), ([10, 9, 0, 1, 2, 3, 4, 5, 6, 7, 8, 9, 10, 11], [10]), ([11, 12, 0, 1, 2, 3, 4, 5, 6, 7, 8, 9, 10, 11, 12], [11])])
def bottom_Add.B7 : List Nat := [0, 0, 0, 4, 0, 28, 0, 124, 254, 511, 1023, 1023, 4095, 8191]
theorem bottom_Add.tab7 : rtab .any (opsOf Try.f13 7) = bottom_Add.T7 := by kernel_rfl
theorem bottom_Add.bits7 : waitsOk bottom_Add.T7.2 bottom_Add.B7 = true := by kernel_rfl
set_option maxHeartbeats 8000000 in
set_option maxRecDepth 100000 in
theorem bottom_Add.calls (k : Nat) (a0_0 : Int) (a0_1 : Int) (a0_2 : Int) (P0_3_ : Nat → Prop) (A0_3 : Option Addr) (c0_3 : Nat) (l0_3 : List (S87)) (a1 : ByteArray) (a2 : Int) (r1 : Int) (r2 : Int) (r3 : Int) (r4 : List (S87)) (r5 : Int) (w : World) (hs0_3 : Kd.V k87 87 w w.heap.size (fun k_ => P0_3_ k_) (.slice A0_3 l0_3.length c0_3) l0_3) (h : bottom_Add.f k a0_0 a0_1 a0_2 l0_3 a1 a2 = some (r1, r2, r3, r4, r5)) :
    Calls Try.prog 13 #[.agg #[.int .u64 a0_0, .int .u64 a0_1, .int .i64 a0_2, .slice A0_3 l0_3.length c0_3], .string a1, .int .u64 a2] w fun e w' => ∃ v3_ : Value, e = .returned (.tuple #[.agg #[.int .u64 r1, .int .u64 r2, .int .i64 r3, v3_], .int .i64 r5]) ∧ Kd.V k87 87 w' w.heap.size (fun k_ => (P0_3_ k_ ∨ w.heap.size ≤ k_)) v3_ r4 ∧ Below w.heap.size w w' := by
  have hu40 := Try.underlying40
  have hu24 := Try.underlying24
  have hu87 := Try.underlying87
  have HO0_3 := am (show Kd.V k87 87 w w.heap.size (fun k_ => (P0_3_ k_ ∨ w.heap.size ≤ k_)) (.slice A0_3 l0_3.length c0_3) l0_3 from Kd.V_mono hs0_3 (fun k_ hk => .inl hk))
  have HB := am (Below.refl w.heap.size w)
  have H : ((bottom_Right.f k a0_0 a0_1 a0_2 l0_3).bind fun t181 => (if t181 = true then (if (a1.size : Int) > 64 then (some (a0_0, a0_1, a0_2, l0_3, 5)) else (if a2 = 0 then (some (a0_0, a0_1, a0_2, l0_3, 7)) else ((sip_Sum.f k a0_0 a0_1 a1).bind fun t182 => ((wide_Of.f a2).bind fun bt183 => ((bottom_add.f k a0_0 a0_1 a0_2 l0_3 a1 t182 bt183.1 bt183.2).bind fun bt185 => (some (bt185.1, bt185.2.1, bt185.2.2.1, bt185.2.2.2.1, bt185.2.2.2.2))))))) else (some (a0_0, a0_1, a0_2, l0_3, 1)))) = some (r1, r2, r3, r4, r5) := h
  clear h
  replace H := Option.bind_eq_some_iff.mp H
  obtain ⟨t181, A40, H⟩ := H
  replace H : (if t181 = true then (if (a1.size : Int) > 64 then (some (a0_0, a0_1, a0_2, l0_3, 5)) else (if a2 = 0 then (some (a0_0, a0_1, a0_2, l0_3, 7)) else ((sip_Sum.f k a0_0 a0_1 a1).bind fun t182 => ((wide_Of.f a2).bind fun bt183 => ((bottom_add.f k a0_0 a0_1 a0_2 l0_3 a1 t182 bt183.1 bt183.2).bind fun bt185 => (some (bt185.1, bt185.2.1, bt185.2.2.1, bt185.2.2.2.1, bt185.2.2.2.2))))))) else (some (a0_0, a0_1, a0_2, l0_3, 1))) = some (r1, r2, r3, r4, r5) := H
  have A4 := am A40
  clear A40
  by_cases c5 : t181 = true
  · subst c5
    have H1 : (if (a1.size : Int) > 64 then (some (a0_0, a0_1, a0_2, l0_3, 5)) else (if a2 = 0 then (some (a0_0, a0_1, a0_2, l0_3, 7)) else ((sip_Sum.f k a0_0 a0_1 a1).bind fun t182 => ((wide_Of.f a2).bind fun bt183 => ((bottom_add.f k a0_0 a0_1 a0_2 l0_3 a1 t182 bt183.1 bt183.2).bind fun bt185 => (some (bt185.1, bt185.2.1, bt185.2.2.1, bt185.2.2.2.1, bt185.2.2.2.2))))))) = some (r1, r2, r3, r4, r5) := by rw [if_pos rfl] at H; exact H
    clear H
    have H := H1
    clear H1
    by_cases c6 : (a1.size : Int) > 64
    · rw [if_pos c6] at H
      have c6b0 : decide (64 < (a1.size : Int)) = true := decide_eq_true c6
      have c6b1 : decide (64 < a1.size) = true := decide_eq_true (by omega)
      clear c6
      simp only [Option.some.injEq, Prod.mk.injEq] at H
      obtain ⟨rfl, rfl, rfl, rfl, rfl⟩ := H
      go_enter Try.func13, Try.ntmps13
      go_wp2_with (first | ((with_reducible refine gate_dst (N := 3) rfl ?_); refine be 3 #[.int .u64 a0_0, .int .u64 a0_1, .int .i64 a0_2, .slice A0_3 l0_3.length c0_3] 40 ?_; intro gb179 hg w7 hbox hb; replace HO0_3 := am (Kd.V_below (Kd.V_elderB (pv HO0_3.out) gb179 (Nat.le_of_eq hg.symm)) hb); have BK179 := am (hbox); have GW179 := am ((pg hg HB : w.heap.size ≤ gb179)); have GE179 := am ((pg hg HB : w.heap.size ≤ gb179)); replace HB := am (below_step (pb HB) hb); clear hb hbox hg) | ((with_reducible refine gate_dst (N := 6) rfl ?_); refine be 6 #[.int .u64 0, .int .u64 0, .int .i64 0, .slice none 0 0] 40 ?_; intro gb180 hg w8 hbox hb; replace HO0_3 := am (Kd.V_below (Kd.V_elderB (pv HO0_3.out) gb180 (Nat.le_of_eq hg.symm)) hb); have BK180 := am (hbox); have GW180 := am ((pg hg HB : w.heap.size ≤ gb180)); have GE180 := am ((pg hg HB : w.heap.size ≤ gb180)); replace HB := am (below_step (pb HB) hb); obtain ⟨NB179_180, NB180_179, hnb9, hnc9⟩ := pm hg BK179; replace BK179 := am (blk_below (pk BK179.out) hb); clear hb hbox hg; obtain ⟨hcz10_0, hcz10_1, hcz10_2, hcz10_3, hfz10_0, hfz10_1, hfz10_2, hfz10_3⟩ := g4 BK179) | ((with_reducible refine gate_callee (f := 31) rfl ?_); refine gl (some 10) Try.func31 #[.agg #[.int .u64 a0_0, .int .u64 a0_1, .int .i64 a0_2, .slice A0_3 l0_3.length c0_3]] ?_; (with_reducible refine (bottom_Right.calls k a0_0 a0_1 a0_2 _ _ l0_3 true _ ?side1 ?side2 A4.out).mono ?_); (case side1 => repeat (first | exact (Kd.V_reads' HO0_3.out).2.2 | (with_reducible refine Kd.C_alloc ?_ _) | (with_reducible refine Kd.C_drewN ?_ _) | (with_reducible refine Kd.C_drew ?_))); (case side2 => exact (Kd.V_reads' HO0_3.out).2.1); rintro e w11 ⟨rfl, hb⟩; refine ⟨_, rfl, ?_⟩; replace HO0_3 := am (Kd.V_below (pv HO0_3.out) hb); replace BK179 := am (blk_below (pk BK179.out) hb); replace BK180 := am (blk_below (pk BK180.out) hb); replace HB := am (below_step (pb HB) hb); (try clear hb); (try clear hb2); (try clear hk); (try clear hi); obtain ⟨hcz12_0, hcz12_1, hcz12_2, hcz12_3, hfz12_0, hfz12_1, hfz12_2, hfz12_3⟩ := g4 BK179; obtain ⟨hcz13_0, hcz13_1, hcz13_2, hcz13_3, hfz13_0, hfz13_1, hfz13_2, hfz13_3⟩ := g4 BK180))
      refine bodyPost_ret (results_ct rfl _ _ gb180 40 #[.int .u64 a0_0, .int .u64 a0_1, .int .i64 a0_2, .slice A0_3 l0_3.length c0_3] (0, 0) _ rfl (by refine pk ?_; refine blk_put (cs := #[.int .u64 a0_0, .int .u64 a0_1, .int .i64 a0_2, .slice none 0 0]) ?_ 3 _ rfl; refine pk ?_; refine blk_put (cs := #[.int .u64 a0_0, .int .u64 a0_1, .int .i64 0, .slice none 0 0]) ?_ 2 _ rfl; refine pk ?_; refine blk_put (cs := #[.int .u64 a0_0, .int .u64 0, .int .i64 0, .slice none 0 0]) ?_ 1 _ rfl; refine pk ?_; refine blk_put (cs := #[.int .u64 0, .int .u64 0, .int .i64 0, .slice none 0 0]) ?_ 0 _ rfl; refine pk ?_; exact BK180.out) Try.underlying40 rfl (by kernel_rfl)) rfl ?_
      exact ⟨_, by first | rfl | (simp [errW_none, errW_some] <;> rfl) | (simp [*, errW_none, errW_some] <;> rfl), by refine pv ?_; exact Kd.V_mono (Kd.V_far (p := ⟨gb180, 3, none⟩) (Kd.V_far (p := ⟨gb180, 2, none⟩) (Kd.V_far (p := ⟨gb180, 1, none⟩) (Kd.V_far (p := ⟨gb180, 0, none⟩) (Kd.V_mono HO0_3.out (fun k_ hk => (⟨hk, hk.2⟩ : _ ∧ k_ ≠ gb180))) (fun _ hk => hk.2) (.int .u64 a0_0)) (fun _ hk => hk.2) (.int .u64 a0_1)) (fun _ hk => hk.2) (.int .i64 a0_2)) (fun _ hk => hk.2) (.slice A0_3 l0_3.length c0_3)) (fun _ hk => hk.1.1.1), pb HB⟩
    · rw [if_neg c6] at H
      have c6b0 : decide (64 < (a1.size : Int)) = false := decide_eq_false c6
      have c6b1 : decide (64 < a1.size) = false := decide_eq_false (by omega)
      clear c6
      by_cases c14 : a2 = 0
      · rw [if_pos c14] at H
        have c14b0 : (a2 == 0) = true := beq_iff_eq.mpr c14
        have c14b1 : (a2 != 0) = false := bne_eq_false_iff_eq.mpr c14
        clear c14
        simp only [Option.some.injEq, Prod.mk.injEq] at H
        obtain ⟨rfl, rfl, rfl, rfl, rfl⟩ := H
        go_enter Try.func13, Try.ntmps13
        go_wp2_with (first | ((with_reducible refine gate_dst (N := 3) rfl ?_); refine be 3 #[.int .u64 a0_0, .int .u64 a0_1, .int .i64 a0_2, .slice A0_3 l0_3.length c0_3] 40 ?_; intro gb179 hg w15 hbox hb; replace HO0_3 := am (Kd.V_below (Kd.V_elderB (pv HO0_3.out) gb179 (Nat.le_of_eq hg.symm)) hb); have BK179 := am (hbox); have GW179 := am ((pg hg HB : w.heap.size ≤ gb179)); have GE179 := am ((pg hg HB : w.heap.size ≤ gb179)); replace HB := am (below_step (pb HB) hb); clear hb hbox hg) | ((with_reducible refine gate_dst (N := 6) rfl ?_); refine be 6 #[.int .u64 0, .int .u64 0, .int .i64 0, .slice none 0 0] 40 ?_; intro gb180 hg w16 hbox hb; replace HO0_3 := am (Kd.V_below (Kd.V_elderB (pv HO0_3.out) gb180 (Nat.le_of_eq hg.symm)) hb); have BK180 := am (hbox); have GW180 := am ((pg hg HB : w.heap.size ≤ gb180)); have GE180 := am ((pg hg HB : w.heap.size ≤ gb180)); replace HB := am (below_step (pb HB) hb); obtain ⟨NB179_180, NB180_179, hnb17, hnc17⟩ := pm hg BK179; replace BK179 := am (blk_below (pk BK179.out) hb); clear hb hbox hg; obtain ⟨hcz18_0, hcz18_1, hcz18_2, hcz18_3, hfz18_0, hfz18_1, hfz18_2, hfz18_3⟩ := g4 BK179) | ((with_reducible refine gate_callee (f := 31) rfl ?_); refine gl (some 10) Try.func31 #[.agg #[.int .u64 a0_0, .int .u64 a0_1, .int .i64 a0_2, .slice A0_3 l0_3.length c0_3]] ?_; (with_reducible refine (bottom_Right.calls k a0_0 a0_1 a0_2 _ _ l0_3 true _ ?side1 ?side2 A4.out).mono ?_); (case side1 => repeat (first | exact (Kd.V_reads' HO0_3.out).2.2 | (with_reducible refine Kd.C_alloc ?_ _) | (with_reducible refine Kd.C_drewN ?_ _) | (with_reducible refine Kd.C_drew ?_))); (case side2 => exact (Kd.V_reads' HO0_3.out).2.1); rintro e w19 ⟨rfl, hb⟩; refine ⟨_, rfl, ?_⟩; replace HO0_3 := am (Kd.V_below (pv HO0_3.out) hb); replace BK179 := am (blk_below (pk BK179.out) hb); replace BK180 := am (blk_below (pk BK180.out) hb); replace HB := am (below_step (pb HB) hb); (try clear hb); (try clear hb2); (try clear hk); (try clear hi); obtain ⟨hcz20_0, hcz20_1, hcz20_2, hcz20_3, hfz20_0, hfz20_1, hfz20_2, hfz20_3⟩ := g4 BK179; obtain ⟨hcz21_0, hcz21_1, hcz21_2, hcz21_3, hfz21_0, hfz21_1, hfz21_2, hfz21_3⟩ := g4 BK180))
        refine bodyPost_ret (results_ct rfl _ _ gb180 40 #[.int .u64 a0_0, .int .u64 a0_1, .int .i64 a0_2, .slice A0_3 l0_3.length c0_3] (0, 0) _ rfl (by refine pk ?_; refine blk_put (cs := #[.int .u64 a0_0, .int .u64 a0_1, .int .i64 a0_2, .slice none 0 0]) ?_ 3 _ rfl; refine pk ?_; refine blk_put (cs := #[.int .u64 a0_0, .int .u64 a0_1, .int .i64 0, .slice none 0 0]) ?_ 2 _ rfl; refine pk ?_; refine blk_put (cs := #[.int .u64 a0_0, .int .u64 0, .int .i64 0, .slice none 0 0]) ?_ 1 _ rfl; refine pk ?_; refine blk_put (cs := #[.int .u64 0, .int .u64 0, .int .i64 0, .slice none 0 0]) ?_ 0 _ rfl; refine pk ?_; exact BK180.out) Try.underlying40 rfl (by kernel_rfl)) rfl ?_
        exact ⟨_, by first | rfl | (simp [errW_none, errW_some] <;> rfl) | (simp [*, errW_none, errW_some] <;> rfl), by refine pv ?_; exact Kd.V_mono (Kd.V_far (p := ⟨gb180, 3, none⟩) (Kd.V_far (p := ⟨gb180, 2, none⟩) (Kd.V_far (p := ⟨gb180, 1, none⟩) (Kd.V_far (p := ⟨gb180, 0, none⟩) (Kd.V_mono HO0_3.out (fun k_ hk => (⟨hk, hk.2⟩ : _ ∧ k_ ≠ gb180))) (fun _ hk => hk.2) (.int .u64 a0_0)) (fun _ hk => hk.2) (.int .u64 a0_1)) (fun _ hk => hk.2) (.int .i64 a0_2)) (fun _ hk => hk.2) (.slice A0_3 l0_3.length c0_3)) (fun _ hk => hk.1.1.1), pb HB⟩
      · rw [if_neg c14] at H
        have c14b0 : (a2 == 0) = false := beq_eq_false_iff_ne.mpr c14
        have c14b1 : (a2 != 0) = true := bne_iff_ne.mpr c14
        replace H := Option.bind_eq_some_iff.mp H
        obtain ⟨t182, A220, H⟩ := H
        replace H : ((wide_Of.f a2).bind fun bt183 => ((bottom_add.f k a0_0 a0_1 a0_2 l0_3 a1 t182 bt183.1 bt183.2).bind fun bt185 => (some (bt185.1, bt185.2.1, bt185.2.2.1, bt185.2.2.2.1, bt185.2.2.2.2)))) = some (r1, r2, r3, r4, r5) := H
        have A22 := am A220
        clear A220
        replace H := Option.bind_eq_some_iff.mp H
        obtain ⟨⟨t183, t184⟩, A230, H⟩ := H
        replace H : ((bottom_add.f k a0_0 a0_1 a0_2 l0_3 a1 t182 t183 t184).bind fun bt185 => (some (bt185.1, bt185.2.1, bt185.2.2.1, bt185.2.2.2.1, bt185.2.2.2.2))) = some (r1, r2, r3, r4, r5) := H
        have A23 := am A230
        clear A230
        replace H := Option.bind_eq_some_iff.mp H
        obtain ⟨⟨t185, t186, t187, t188, t191⟩, A240, H⟩ := H
        replace H : (some (t185, t186, t187, t188, t191)) = some (r1, r2, r3, r4, r5) := H
        have A24 := am A240
        clear A240
        simp only [Option.some.injEq, Prod.mk.injEq] at H
        obtain ⟨rfl, rfl, rfl, rfl, rfl⟩ := H
        go_enter Try.func13, Try.ntmps13
        try go_wp2_with (first | ((with_reducible refine gate_dst (N := 3) rfl ?_); refine be 3 #[.int .u64 a0_0, .int .u64 a0_1, .int .i64 a0_2, .slice A0_3 l0_3.length c0_3] 40 ?_; intro gb179 hg w25 hbox hb; replace HO0_3 := am (Kd.V_below (Kd.V_elderB (pv HO0_3.out) gb179 (Nat.le_of_eq hg.symm)) hb); have BK179 := am (hbox); have GW179 := am ((pg hg HB : w.heap.size ≤ gb179)); have GE179 := am ((pg hg HB : w.heap.size ≤ gb179)); replace HB := am (below_step (pb HB) hb); clear hb hbox hg) | ((with_reducible refine gate_dst (N := 6) rfl ?_); refine be 6 #[.int .u64 0, .int .u64 0, .int .i64 0, .slice none 0 0] 40 ?_; intro gb180 hg w26 hbox hb; replace HO0_3 := am (Kd.V_below (Kd.V_elderB (pv HO0_3.out) gb180 (Nat.le_of_eq hg.symm)) hb); have BK180 := am (hbox); have GW180 := am ((pg hg HB : w.heap.size ≤ gb180)); have GE180 := am ((pg hg HB : w.heap.size ≤ gb180)); replace HB := am (below_step (pb HB) hb); obtain ⟨NB179_180, NB180_179, hnb27, hnc27⟩ := pm hg BK179; replace BK179 := am (blk_below (pk BK179.out) hb); clear hb hbox hg; obtain ⟨hcz28_0, hcz28_1, hcz28_2, hcz28_3, hfz28_0, hfz28_1, hfz28_2, hfz28_3⟩ := g4 BK179) | ((with_reducible refine gate_callee (f := 31) rfl ?_); refine gl (some 10) Try.func31 #[.agg #[.int .u64 a0_0, .int .u64 a0_1, .int .i64 a0_2, .slice A0_3 l0_3.length c0_3]] ?_; (with_reducible refine (bottom_Right.calls k a0_0 a0_1 a0_2 _ _ l0_3 true _ ?side1 ?side2 A4.out).mono ?_); (case side1 => repeat (first | exact (Kd.V_reads' HO0_3.out).2.2 | (with_reducible refine Kd.C_alloc ?_ _) | (with_reducible refine Kd.C_drewN ?_ _) | (with_reducible refine Kd.C_drew ?_))); (case side2 => exact (Kd.V_reads' HO0_3.out).2.1); rintro e w29 ⟨rfl, hb⟩; refine ⟨_, rfl, ?_⟩; replace HO0_3 := am (Kd.V_below (pv HO0_3.out) hb); replace BK179 := am (blk_below (pk BK179.out) hb); replace BK180 := am (blk_below (pk BK180.out) hb); replace HB := am (below_step (pb HB) hb); (try clear hb); (try clear hb2); (try clear hk); (try clear hi)))
        replace HO0_3 := am (Kd.V_drew HO0_3.out)
        replace BK179 := am (blk_drew BK179.out)
        replace BK180 := am (blk_drew BK180.out)
        replace HB := am (below_drew1 HB.out)
        refine start_ (n := 14) (S := fun w' => w'.cell? ⟨gb179, 0, none⟩ = some (.int .u64 a0_0) ∧ w'.cell? ⟨gb179, 1, none⟩ = some (.int .u64 a0_1) ∧ w'.cell? ⟨gb179, 2, none⟩ = some (.int .i64 a0_2) ∧ w'.cell? ⟨gb179, 3, none⟩ = some (.slice A0_3 l0_3.length c0_3)) (ds := []) #[false, false, false, false, false, false, false, false, false, false, false, false, false, false] (by kernel_rfl) rfl rfl ⟨ce BK179 0, ce BK179 1, ce BK179 2, ce BK179 3⟩ (fun hHeld => ?_); refine with_tabW bottom_Add.tab7 bottom_Add.bits7 (fun HT_ HW_ => ?_)
        generalize w29.drew = w30 at HO0_3 BK179 BK180 HB hHeld ⊢
        refine pu 1 ?_
        refine pu 2 ?_
        refine pu 4 ?_
        refine pu 6 ?_
        refine ta 0 hHeld ?_
        refine ta 3 hHeld ?_
        refine on1 5 (fun K hK => ?_)
        refine gs Try.func33 #[.agg #[.int .u64 a0_0, .int .u64 a0_1], .string a1] ?_
        with_reducible refine (sip_Sum.calls k a0_0 a0_1 a1 t182 _ A22.out).mono ?_
        rintro e w31 ⟨rfl, hb⟩
        refine ⟨_, rfl, ?_⟩
        replace HO0_3 := am (Kd.V_below (pv HO0_3.out) hb)
        replace BK179 := am (blk_below (pk BK179.out) hb)
        replace BK180 := am (blk_below (pk BK180.out) hb)
        replace HB := am (below_step (pb HB) hb)
        (try clear hb)
        (try clear hb2)
        (try clear hk)
        (try clear hi)
        refine hK.out _ _ ⟨ce BK179 0, ce BK179 1, ce BK179 2, ce BK179 3⟩ (fun hHeld => ?_)
        clear hK K
        refine nm ?_
        refine on1 7 (fun K hK => ?_)
        refine gs Try.func24 #[.int .u64 a2] ?_
        with_reducible refine (wide_Of.calls a2 t183 t184 _ A23.out).mono ?_
        rintro e w32 ⟨rfl, hb⟩
        refine ⟨_, rfl, ?_⟩
        replace HO0_3 := am (Kd.V_below (pv HO0_3.out) hb)
        replace BK179 := am (blk_below (pk BK179.out) hb)
        replace BK180 := am (blk_below (pk BK180.out) hb)
        replace HB := am (below_step (pb HB) hb)
        (try clear hb)
        (try clear hb2)
        (try clear hk)
        (try clear hi)
        refine hK.out _ _ ⟨ce BK179 0, ce BK179 1, ce BK179 2, ce BK179 3⟩ (fun hHeld => ?_)
        clear hK K
        refine nm ?_
        refine pu 8 ?_
        refine on1 9 (fun K hK => ?_)
        refine gs Try.func32 #[.agg #[.int .u64 a0_0, .int .u64 a0_1, .int .i64 a0_2, .slice A0_3 l0_3.length c0_3], .agg #[.string a1, .int .u64 t182, .int .u64 t183, .int .u64 t184]] ?_
        with_reducible refine (bottom_add.calls k a0_0 a0_1 a0_2 (fun k_ => (((P0_3_ k_ ∨ w.heap.size ≤ k_) ∧ k_ ≠ gb179) ∧ k_ ≠ gb180)) _ _ l0_3 a1 t182 t183 t184 t185 t186 t187 t188 t191 _ ?side1 A24.out).mono ?_
        (case side1 => exact HO0_3.out)
        rintro e w33 ⟨v189, rfl, ho0, hb⟩
        refine ⟨_, rfl, ?_⟩
        replace HO0_3 := am (Kd.V_below (pv HO0_3.out) hb)
        have HO190 := am (Kd.V_lower (Kd.V_mono (ok' := fun k_ => (P0_3_ k_ ∨ w.heap.size ≤ k_) ∧ k_ ≠ gb179 ∧ k_ ≠ gb180) ho0 (fun k_ hk_ => ⟨Or.elim hk_ (fun hs_ => hs_.1.1) (fun hn_ => (.inr (Nat.le_trans (below_size (pb HB)) hn_))), Or.elim hk_ (fun hs_ => hs_.1.2) (fun hn_ => (Kd.freshB (g := gb179) (o := .cells #[.int .u64 a0_0, .int .u64 a0_1, .int .i64 a0_2, .slice A0_3 l0_3.length c0_3] 40 (0, 0)) (pk BK179.out) k_ hn_)), Or.elim hk_ (fun hs_ => hs_.2) (fun hn_ => (Kd.freshB (g := gb180) (o := .cells #[.int .u64 0, .int .u64 0, .int .i64 0, .slice none 0 0] 40 (0, 0)) (pk BK180.out) k_ hn_))⟩)) (below_size (pb HB)))
        replace BK179 := am (blk_below (pk BK179.out) hb)
        replace BK180 := am (blk_below (pk BK180.out) hb)
        replace HB := am (below_step (pb HB) hb)
        (try clear hb)
        (try clear hb2)
        (try clear hk)
        (try clear hi)
        (try clear ho0)
        obtain ⟨Ao37, co37, eo37⟩ := Kd.V_slice HO190.out
        (first | subst eo37 | (injection eo37 with f1_ f2_ f3_; have f4_ := f1_.symm; have f5_ := f3_.symm; clear f1_ f2_ f3_; subst f4_; subst f5_))
        refine hK.out _ _ ⟨ce BK179 0, ce BK179 1, ce BK179 2, ce BK179 3⟩ (fun hHeld => ?_)
        clear hK K
        refine nm ?_
        refine pu 10 ?_
        refine pu 11 ?_
        refine one_ (i := 12) (N := none) #[true, true, true, true, true, true, true, true, true, true, true, true, true, false] rfl rfl (one_of HT_.out (by kernel_rfl)) (by decide) (fun K hK => ?_)
        have hs34 : w33.cell? ⟨gb180, 0, none⟩ = some (.int .u64 0) := ce BK180 0
        have hfs34 := blk_frozen BK180.out 0
        have hns34_0 := NB179_180.out
        have hms34_0 := NB180_179.out
        have hs35 : w33.cell? ⟨gb180, 1, none⟩ = some (.int .u64 0) := ce BK180 1
        have hfs35 := blk_frozen BK180.out 1
        have hns35_0 := NB179_180.out
        have hms35_0 := NB180_179.out
        have hs36 : w33.cell? ⟨gb180, 2, none⟩ = some (.int .i64 0) := ce BK180 2
        have hfs36 := blk_frozen BK180.out 2
        have hns36_0 := NB179_180.out
        have hms36_0 := NB180_179.out
        have hs38 : w33.cell? ⟨gb180, 3, none⟩ = some (.slice none 0 0) := ce BK180 3
        have hfs38 := blk_frozen BK180.out 3
        have hns38_0 := NB179_180.out
        have hms38_0 := NB180_179.out
        refine skip_ (w1 := ?_) (by rfl) rfl ?_ ?_
        rotate_left
        · go_simp
          rfl
        refine hK.out _ _ ⟨((cell_far (p := ⟨gb180, _, none⟩) NB179_180.out _).trans (((cell_far (p := ⟨gb180, _, none⟩) NB179_180.out _).trans (((cell_far (p := ⟨gb180, _, none⟩) NB179_180.out _).trans (((cell_far (p := ⟨gb180, _, none⟩) NB179_180.out _).trans (hHeld.1)))))))), ((cell_far (p := ⟨gb180, _, none⟩) NB179_180.out _).trans (((cell_far (p := ⟨gb180, _, none⟩) NB179_180.out _).trans (((cell_far (p := ⟨gb180, _, none⟩) NB179_180.out _).trans (((cell_far (p := ⟨gb180, _, none⟩) NB179_180.out _).trans (hHeld.2.1)))))))), ((cell_far (p := ⟨gb180, _, none⟩) NB179_180.out _).trans (((cell_far (p := ⟨gb180, _, none⟩) NB179_180.out _).trans (((cell_far (p := ⟨gb180, _, none⟩) NB179_180.out _).trans (((cell_far (p := ⟨gb180, _, none⟩) NB179_180.out _).trans (hHeld.2.2.1)))))))), ((cell_far (p := ⟨gb180, _, none⟩) NB179_180.out _).trans (((cell_far (p := ⟨gb180, _, none⟩) NB179_180.out _).trans (((cell_far (p := ⟨gb180, _, none⟩) NB179_180.out _).trans (((cell_far (p := ⟨gb180, _, none⟩) NB179_180.out _).trans (hHeld.2.2.2))))))))⟩ (fun hHeld => ?_)
        clear hK K
        refine pu 13 ?_
        refine done_ (done_of HT_.out (by kernel_rfl)) ?_
        try go_wp2
        refine bodyPost_ret (results_ct rfl _ _ gb180 40 #[.int .u64 t185, .int .u64 t186, .int .i64 t187, .slice Ao37 t188.length co37] (0, 0) _ rfl (by refine pk ?_; refine blk_put (cs := #[.int .u64 t185, .int .u64 t186, .int .i64 t187, .slice none 0 0]) ?_ 3 _ rfl; refine pk ?_; refine blk_put (cs := #[.int .u64 t185, .int .u64 t186, .int .i64 0, .slice none 0 0]) ?_ 2 _ rfl; refine pk ?_; refine blk_put (cs := #[.int .u64 t185, .int .u64 0, .int .i64 0, .slice none 0 0]) ?_ 1 _ rfl; refine pk ?_; refine blk_put (cs := #[.int .u64 0, .int .u64 0, .int .i64 0, .slice none 0 0]) ?_ 0 _ rfl; refine pk ?_; exact BK180.out) Try.underlying40 rfl (by kernel_rfl)) rfl ?_
        exact ⟨_, by first | rfl | (simp [errW_none, errW_some] <;> rfl) | (simp [*, errW_none, errW_some] <;> rfl), by refine pv ?_; exact Kd.V_mono (Kd.V_far (p := ⟨gb180, 3, none⟩) (Kd.V_far (p := ⟨gb180, 2, none⟩) (Kd.V_far (p := ⟨gb180, 1, none⟩) (Kd.V_far (p := ⟨gb180, 0, none⟩) (Kd.V_mono HO190.out (fun k_ hk => (⟨hk, hk.2.2⟩ : _ ∧ k_ ≠ gb180))) (fun _ hk => hk.2) (.int .u64 t185)) (fun _ hk => hk.2) (.int .u64 t186)) (fun _ hk => hk.2) (.int .i64 t187)) (fun _ hk => hk.2) (.slice Ao37 t188.length co37)) (fun _ hk => hk.1.1), pb HB⟩
  · replace c5 := Bool.eq_false_iff.mpr c5
    subst c5
    have H1 : (some (a0_0, a0_1, a0_2, l0_3, 1)) = some (r1, r2, r3, r4, r5) := by rw [if_neg (show ¬ (false = true) by decide)] at H; exact H
    clear H
    have H := H1
    clear H1
    simp only [Option.some.injEq, Prod.mk.injEq] at H
    obtain ⟨rfl, rfl, rfl, rfl, rfl⟩ := H
    go_enter Try.func13, Try.ntmps13
    go_wp2_with (first | ((with_reducible refine gate_dst (N := 3) rfl ?_); refine be 3 #[.int .u64 a0_0, .int .u64 a0_1, .int .i64 a0_2, .slice A0_3 l0_3.length c0_3] 40 ?_; intro gb179 hg w39 hbox hb; replace HO0_3 := am (Kd.V_below (Kd.V_elderB (pv HO0_3.out) gb179 (Nat.le_of_eq hg.symm)) hb); have BK179 := am (hbox); have GW179 := am ((pg hg HB : w.heap.size ≤ gb179)); have GE179 := am ((pg hg HB : w.heap.size ≤ gb179)); replace HB := am (below_step (pb HB) hb); clear hb hbox hg) | ((with_reducible refine gate_dst (N := 6) rfl ?_); refine be 6 #[.int .u64 0, .int .u64 0, .int .i64 0, .slice none 0 0] 40 ?_; intro gb180 hg w40 hbox hb; replace HO0_3 := am (Kd.V_below (Kd.V_elderB (pv HO0_3.out) gb180 (Nat.le_of_eq hg.symm)) hb); have BK180 := am (hbox); have GW180 := am ((pg hg HB : w.heap.size ≤ gb180)); have GE180 := am ((pg hg HB : w.heap.size ≤ gb180)); replace HB := am (below_step (pb HB) hb); obtain ⟨NB179_180, NB180_179, hnb41, hnc41⟩ := pm hg BK179; replace BK179 := am (blk_below (pk BK179.out) hb); clear hb hbox hg; obtain ⟨hcz42_0, hcz42_1, hcz42_2, hcz42_3, hfz42_0, hfz42_1, hfz42_2, hfz42_3⟩ := g4 BK179) | ((with_reducible refine gate_callee (f := 31) rfl ?_); refine gl (some 10) Try.func31 #[.agg #[.int .u64 a0_0, .int .u64 a0_1, .int .i64 a0_2, .slice A0_3 l0_3.length c0_3]] ?_; (with_reducible refine (bottom_Right.calls k a0_0 a0_1 a0_2 _ _ l0_3 false _ ?side1 ?side2 A4.out).mono ?_); (case side1 => repeat (first | exact (Kd.V_reads' HO0_3.out).2.2 | (with_reducible refine Kd.C_alloc ?_ _) | (with_reducible refine Kd.C_drewN ?_ _) | (with_reducible refine Kd.C_drew ?_))); (case side2 => exact (Kd.V_reads' HO0_3.out).2.1); rintro e w43 ⟨rfl, hb⟩; refine ⟨_, rfl, ?_⟩; replace HO0_3 := am (Kd.V_below (pv HO0_3.out) hb); replace BK179 := am (blk_below (pk BK179.out) hb); replace BK180 := am (blk_below (pk BK180.out) hb); replace HB := am (below_step (pb HB) hb); (try clear hb); (try clear hb2); (try clear hk); (try clear hi); obtain ⟨hcz44_0, hcz44_1, hcz44_2, hcz44_3, hfz44_0, hfz44_1, hfz44_2, hfz44_3⟩ := g4 BK179; obtain ⟨hcz45_0, hcz45_1, hcz45_2, hcz45_3, hfz45_0, hfz45_1, hfz45_2, hfz45_3⟩ := g4 BK180))
    refine bodyPost_ret (results_ct rfl _ _ gb180 40 #[.int .u64 a0_0, .int .u64 a0_1, .int .i64 a0_2, .slice A0_3 l0_3.length c0_3] (0, 0) _ rfl (by refine pk ?_; refine blk_put (cs := #[.int .u64 a0_0, .int .u64 a0_1, .int .i64 a0_2, .slice none 0 0]) ?_ 3 _ rfl; refine pk ?_; refine blk_put (cs := #[.int .u64 a0_0, .int .u64 a0_1, .int .i64 0, .slice none 0 0]) ?_ 2 _ rfl; refine pk ?_; refine blk_put (cs := #[.int .u64 a0_0, .int .u64 0, .int .i64 0, .slice none 0 0]) ?_ 1 _ rfl; refine pk ?_; refine blk_put (cs := #[.int .u64 0, .int .u64 0, .int .i64 0, .slice none 0 0]) ?_ 0 _ rfl; refine pk ?_; exact BK180.out) Try.underlying40 rfl (by kernel_rfl)) rfl ?_
    exact ⟨_, by first | rfl | (simp [errW_none, errW_some] <;> rfl) | (simp [*, errW_none, errW_some] <;> rfl), by refine pv ?_; exact Kd.V_mono (Kd.V_far (p := ⟨gb180, 3, none⟩) (Kd.V_far (p := ⟨gb180, 2, none⟩) (Kd.V_far (p := ⟨gb180, 1, none⟩) (Kd.V_far (p := ⟨gb180, 0, none⟩) (Kd.V_mono HO0_3.out (fun k_ hk => (⟨hk, hk.2⟩ : _ ∧ k_ ≠ gb180))) (fun _ hk => hk.2) (.int .u64 a0_0)) (fun _ hk => hk.2) (.int .u64 a0_1)) (fun _ hk => hk.2) (.int .i64 a0_2)) (fun _ hk => hk.2) (.slice A0_3 l0_3.length c0_3)) (fun _ hk => hk.1.1.1), pb HB⟩
end Go.Proofs.Ytpbiobbddgipkaa.H
