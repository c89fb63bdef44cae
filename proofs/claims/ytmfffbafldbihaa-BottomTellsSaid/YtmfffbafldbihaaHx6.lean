import Derived.Test.YtmfffbafldbihaaHx0
import Derived.Test.YtmfffbafldbihaaHx4
import Derived.Test.YtmfffbafldbihaaHx5
namespace Go.Proofs.Ytmfffbafldbihaa.H
open Go.RowKit Go.Proofs.YtmfffbafldbihaaW.PrintWords Go.Proofs.YtmfffbafldbihaaW.PrintLast Go.Proofs.YtmfffbafldbihaaW.PrintMore Go.Proofs.YtmfffbafldbihaaW.Sq
attribute [local go_sem] max2_int min2_int max_two min_two max_three min_three max_four min_four
set_option linter.unusedVariables false
set_option linter.unusedSimpArgs false

def cells62 (x : S62) : List Value := [.string x.f0, .int .u64 x.f1, .int .u64 x.f2.f0, .int .u64 x.f2.f1]
def bottom_add.cut (a0_0 a0_1 a0_2 : Int) (m : List S62) : Option (Int × Int × Int × List S62 × Int) :=
  if 0 ≤ min (m.length : Int) (wrap64 (a0_2 + 1)) then some (a0_0, a0_1, a0_2, m.take (min (m.length : Int) (wrap64 (a0_2 + 1))).toNat, 0) else none
def bottom_add.f (k : Nat) (a0_0 a0_1 a0_2 : Int) (l0_3 : List S62) (a1_0 : ByteArray) (a1_1 a1_2 a1_3 : Int) : Option (Int × Int × Int × List S62 × Int) :=
  if l0_3.length < 1000000 then
    (bsT (fun y => bottom_compare.f k y.f0 y.f1 y.f2.f0 y.f2.f1 a1_0 a1_1 a1_2 a1_3) l0_3 z62).bind fun q =>
      if q.2 = true then
        (if 0 ≤ q.1 ∧ q.1 < l0_3.length then
          (wide_Add.f (rd_T62 l0_3 q.1).f2.f0 (rd_T62 l0_3 q.1).f2.f1 a1_2 a1_3).bind fun n =>
            if n.2.2 = true then bottom_add.cut a0_0 a0_1 a0_2 (l0_3.set q.1.toNat ⟨(rd_T62 l0_3 q.1).f0, (rd_T62 l0_3 q.1).f1, ⟨n.1, n.2.1⟩⟩) else some (a0_0, a0_1, a0_2, l0_3, 12)
        else none)
      else (if 0 ≤ q.1 ∧ q.1 ≤ l0_3.length then bottom_add.cut a0_0 a0_1 a0_2 (l0_3.take q.1.toNat ++ [⟨a1_0, a1_1, ⟨a1_2, a1_3⟩⟩] ++ l0_3.drop q.1.toNat) else none)
  else none
theorem bottom_add.mono : ∀ a0 a1 a2 a3 a4 a5 a6 a7 k, LeO (bottom_add.f k a0 a1 a2 a3 a4 a5 a6 a7) (bottom_add.f (k + 1) a0 a1 a2 a3 a4 a5 a6 a7) := by
  intro a0 a1 a2 a3 a4 a5 a6 a7 k
  unfold bottom_add.f
  exact LeO.ite (LeO.bind (bsT_leo (fun y => bottom_compare.mono _ _ _ _ _ _ _ _ k) _ _) (fun _ => LeO.refl _)) (LeO.refl _)
theorem cells62_one (l : List S62) : ∀ u ∈ flat cells62 l, u.oneCell' = true := by
  intro u hu
  obtain ⟨x, _, hx⟩ := List.mem_flatMap.1 hu
  simp only [cells62, List.mem_cons, List.not_mem_nil, or_false] at hx
  rcases hx with rfl | rfl | rfl | rfl <;> rfl
theorem V_taken {α : Type} {d : Kd α} {e : Nat} {W : World} {base : Nat} {ok : Nat → Prop} {A : Option Addr} {c n : Nat} {xs : List α} (h : Kd.V d e W base ok (.slice A xs.length c) xs) (hn : n ≤ xs.length) : Kd.V d e W base ok (.slice A n c) (xs.take n) := by
  have hl : (xs.take n).length = n := by rw [List.length_take]; omega
  have h2 := Kd.V_mk (e := e) (base := base) (c := c) (by rw [hl]; exact Nat.le_trans hn (Kd.V_at h).2.1) (Kd.F_take (Kd.V_at h).2.2 hn)
  rwa [hl] at h2
theorem k62_flat : ∀ x : S62, (cells62 x).length = k62.sz := fun _ => rfl
theorem k62_isM {w : World} {base : Nat} {ok : Nat → Prop} {x : S62} {cs : List Value} (h : k62.M w base ok x cs) : cs = cells62 x := k62_openM h
set_option maxHeartbeats 4000000 in
set_option maxRecDepth 100000 in
theorem bottom_add.calls (k : Nat) (a0_0 a0_1 a0_2 : Int) (P0_3_ : Nat → Prop) (A0_3 : Option Addr) (c0_3 : Nat) (l0_3 : List S62) (a1_0 : ByteArray) (a1_1 a1_2 a1_3 : Int) (r1 r2 r3 : Int) (r4 : List S62) (r5 : Int) (w : World) (hs0_3 : Kd.V k62 62 w w.heap.size (fun k_ => P0_3_ k_) (.slice A0_3 l0_3.length c0_3) l0_3) (h : bottom_add.f k a0_0 a0_1 a0_2 l0_3 a1_0 a1_1 a1_2 a1_3 = some (r1, r2, r3, r4, r5)) :
    Calls Try.prog 28 #[.agg #[.int .u64 a0_0, .int .u64 a0_1, .int .i64 a0_2, .slice A0_3 l0_3.length c0_3], .agg #[.string a1_0, .int .u64 a1_1, .int .u64 a1_2, .int .u64 a1_3]] w fun e w' => ∃ v3_ : Value, e = .returned (.tuple #[.agg #[.int .u64 r1, .int .u64 r2, .int .i64 r3, v3_], .int .i64 r5]) ∧ Kd.V k62 62 w' w.heap.size (fun k_ => (P0_3_ k_ ∨ w.heap.size ≤ k_)) v3_ r4 ∧ Below w.heap.size w w' := by
  have hu27 := Try.underlying27;have hu62 := Try.underlying62;have hu50 := Try.underlying50
  unfold bottom_add.f at h
  split at h
  case isFalse => cases h
  case isTrue hlen =>
  obtain ⟨q, hq, h⟩ := Option.bind_eq_some_iff.1 h;obtain ⟨i, found⟩ := q;have HQ := am hq;have HH := am h;clear hq h;have HV := am (Kd.V_bound hs0_3);clear hs0_3;have eg : ∀ args w, (callFunc 33 args).run Try.prog w = .ok (.enter 33 args) w := enter_at Try.func33 (by kernel_rfl) rfl
  go_enter Try.func28, Try.ntmps28
  go_wp2_with fail
  refine (bottom_Entry_32.calls A0_3 c0_3 l0_3 l0_3 _ (Kd.C_below (Kd.V_reads' HV.out).2.2 (by repeat (first | exact Below.refl _ _ | apply below_alloc))) (Kd.V_reads' HV.out).2.1 (by unfold bottom_Entry_32.f; rw [if_pos (by omega)])).mono ?_
  rintro e w1 ⟨v0, rfl, HR, hb1⟩
  have B0 := am (blk_below (g := w.heap.size) (o := .cells #[.int .u64 a0_0, .int .u64 a0_1, .int .i64 a0_2, .slice A0_3 l0_3.length c0_3] 27 (0, 0)) (blk_alloc (blk_alloc (blk_new _ _) _) _) hb1);have B1 := am (blk_below (g := w.heap.size + 1) (o := .cells #[.string a1_0, .int .u64 a1_1, .int .u64 a1_2, .int .u64 a1_3] 62 (0, 0)) (blk_alloc (blk_newAt3 _ _ (by simp)) _) hb1);have B2 := am (blk_below (g := w.heap.size + 1 + 1) (o := .cells #[.int .u64 0, .int .u64 0, .int .i64 0, .slice none 0 0] 27 (0, 0)) (blk_newAt3 _ _ (by simp)) hb1);have HB := am (below_step (w := w) (by repeat (first | exact Below.refl _ _ | apply below_alloc)) hb1)
  have hs1 : w.heap.size + 1 + 1 + 1 ≤ w1.heap.size := by have := hb1.size; simpa using this
  have HV1 := am (Kd.V_below HV.out HB.out);have HR1 := am (Kd.R_lower HR (show w.heap.size + 1 + 1 + 1 ≤ _ by simp));clear HR hb1 HV;obtain ⟨A1, c1, rfl⟩ := Kd.R_slice HR1.out;have hc1 := (Kd.R_reads' HR1.out).2.1;have x0 := blk_cell B1.out 0;have x1 := blk_cell B1.out 1;have x2 := blk_cell B1.out 2;have x3 := blk_cell B1.out 3
  go_wp2_with fail
  refine (BinarySearchFunc_calls 33 #[] eg (fun y => bottom_compare.f k y.f0 y.f1 y.f2.f0 y.f2.f1 a1_0 a1_1 a1_2 a1_3) a1_0 a1_1 a1_2 a1_3 A1 c1 l0_3 i found w1 (Kd.R_reads' HR1.out).2.2 hc1 (by omega) (fun W y c _ hc => by simpa using bottom_compare.calls k _ _ _ _ _ _ _ _ c W hc) HQ.out).mono ?_
  rintro e w2 ⟨rfl, hb2⟩
  have hs2 : w.heap.size + 1 + 1 + 1 ≤ w2.heap.size := Nat.le_trans hs1 hb2.size;have C0 := am (blk_below B0.out hb2);have C1 := am (blk_below B1.out hb2);have C2 := am (blk_below B2.out hb2);have HB2 := am (below_step HB.out hb2);have HV2 := am (Kd.V_below HV1.out hb2);have HR2 := am (Kd.R_below HR1.out hb2);clear hb2 hs1 B0 B1 B2 HB HV1 HR1 x0 x1 x2 x3 HQ;have x0 := blk_cell C1.out 0;have x1 := blk_cell C1.out 1;have x2 := blk_cell C1.out 2;have x3 := blk_cell C1.out 3;have s0 := blk_cell C0.out 0;have s1 := blk_cell C0.out 1;have s2 := blk_cell C0.out 2;have s3 := blk_cell C0.out 3
  cases found with
  | false =>
    have h := HH.out;clear HH;rw [if_neg (by decide)] at h
    split at h
    case isFalse => cases h
    case isTrue hi =>
    obtain ⟨j, rfl⟩ := Int.eq_ofNat_of_zero_le hi.1
    have hj : j ≤ l0_3.length := by have := hi.2; omega
    clear hi;rw [Int.toNat_natCast] at h
    unfold bottom_add.cut at h
    split at h
    case isFalse => cases h
    case isTrue hm =>
    simp only [Option.some.injEq, Prod.mk.injEq] at h
    obtain ⟨rfl, rfl, rfl, h4, rfl⟩ := h;have H4 := am h4;have HM := am hm;clear h4 hm
    go_wp2_with fail
    have hlt := Kd.R_lt HR2.out;have hbs := Kd.R_base HR2.out
    refine (Insert_calls (w.heap.size + 1 + 1 + 1) (.slice A1 l0_3.length c1) l0_3.length j (flat cells62 l0_3) (cells62 ⟨a1_0, a1_1, ⟨a1_2, a1_3⟩⟩) w2.heap.size _ hj (own_of_R k62_flat k62_isM (Kd.R_alloc HR2.out _)) (blk_new _ _) rfl (cells62_one l0_3) (fun u hu => cells62_one [⟨a1_0, a1_1, ⟨a1_2, a1_3⟩⟩] u (by rw [flat_one]; exact hu)) (fun he => Nat.lt_irrefl _ (hlt _ he)) (by simp <;> omega) (by omega)).mono ?_
    rintro e w3 ⟨v1, rfl, ho, hB3, hk3, hat⟩
    rw [flat_ins (k := 4) (fun _ => rfl)] at ho
    have hml : (l0_3.take j ++ [(⟨a1_0, a1_1, ⟨a1_2, a1_3⟩⟩ : S62)] ++ l0_3.drop j).length = l0_3.length + 1 := by simp only [List.length_append, List.length_take, List.length_drop, List.length_singleton]; omega
    obtain ⟨m, hm⟩ : ∃ m, m = l0_3.take j ++ [(⟨a1_0, a1_1, ⟨a1_2, a1_3⟩⟩ : S62)] ++ l0_3.drop j := ⟨_, rfl⟩;rw [← hm] at ho hml H4 HM;rw [← hml] at ho;have HR3 := am (R_of_own k62_flat (fun W b o x => k62_mkM W b o x) ho);have E0 := am ((hk3 w.heap.size (by simp <;> omega) (fun he => by have := hbs _ he.symm; omega)).trans (blk_alloc C0.out _));have E2 := am ((hk3 (w.heap.size + 1 + 1) (by simp <;> omega) (fun he => by have := hbs _ he.symm; omega)).trans (blk_alloc C2.out _));have HB3 := am ((HB2.out.alloc (by omega) _).trans (hB3.mono (by omega)));clear hm ho hk3 hB3 hat hlt hbs C0 C1 C2 HB2 HV2 HR2 x0 x1 x2 x3 s0 s1 s2 s3;obtain ⟨A2, c2, rfl⟩ := Kd.R_slice HR3.out;have hc2 := (Kd.R_reads' HR3.out).2.1;obtain ⟨K, hK⟩ : ∃ K, K = wrap64 (a0_2 + 1) := ⟨_, rfl⟩;have s0 := blk_cell E0.out 0;have s1 := blk_cell E0.out 1;have s2 := blk_cell E0.out 2;have s3 := blk_cell E0.out 3;have z3 := blk_frozen E0.out 3;have t0 := blk_cell E2.out 0;have y0 := blk_frozen E2.out 0;have t1 := blk_cell E2.out 1;have y1 := blk_frozen E2.out 1;have t2 := blk_cell E2.out 2;have y2 := blk_frozen E2.out 2;have t3 := blk_cell E2.out 3;have y3 := blk_frozen E2.out 3;have hm0 := HM.out
    have HF : Aside0 (∀ mm : Nat, mm = (min (m.length : Int) (wrap64 (a0_2 + 1))).toNat → ∀ W : World, W = ((((w3.setCell ⟨w.heap.size, 3, none⟩ (.slice A2 mm c2)).setCell ⟨w.heap.size + 1 + 1, 0, none⟩ (.int .u64 a0_0)).setCell ⟨w.heap.size + 1 + 1, 1, none⟩ (.int .u64 a0_1)).setCell ⟨w.heap.size + 1 + 1, 2, none⟩ (.int .i64 a0_2)).setCell ⟨w.heap.size + 1 + 1, 3, none⟩ (.slice A2 mm c2) →
        W.heap[w.heap.size + 1 + 1]? = some (.cells #[.int .u64 a0_0, .int .u64 a0_1, .int .i64 a0_2, .slice A2 mm c2] 27 (0, 0)) ∧ Kd.V k62 62 W w.heap.size (fun k_ => (P0_3_ k_ ∨ w.heap.size ≤ k_)) (.slice A2 mm c2) r4 ∧ Below w.heap.size w W) := ⟨fun mm hmm W hW => by
      subst hW
      have hml2 : mm ≤ m.length := by omega
      have hV : Kd.V k62 62 w3 w.heap.size (fun k_ => w.heap.size + 1 + 1 + 1 ≤ k_) (.slice A2 m.length c2) m := Kd.R_V (Kd.R_mono (Kd.R_bound HR3.out) (fun k_ hk => hk.2.1));have h4 := H4.out;rw [← hmm] at h4;subst h4
      refine ⟨blk_put (blk_put (blk_put (blk_put (cs' := #[.int .u64 a0_0, .int .u64 0, .int .i64 0, .slice none 0 0]) (blk_far E2.out (by simp <;> omega) _) 0 _ rfl) (cs' := #[.int .u64 a0_0, .int .u64 a0_1, .int .i64 0, .slice none 0 0]) 1 _ rfl) (cs' := #[.int .u64 a0_0, .int .u64 a0_1, .int .i64 a0_2, .slice none 0 0]) 2 _ rfl) 3 _ rfl, ?_, below_set (below_set (below_set (below_set (below_set HB3.out (Nat.le_refl _)) (by omega)) (by omega)) (by omega)) (by omega)⟩
      refine Kd.V_mono (ok := fun k_ => w.heap.size + 1 + 1 + 1 ≤ k_) (V_taken ?_ hml2) (fun k_ hk => .inr (by omega))
      refine Kd.V_far (Kd.V_far (Kd.V_far (Kd.V_far (Kd.V_far hV ?_ _) ?_ _) ?_ _) ?_ _) ?_ _ <;> (intro k_ hk; simp only [ne_eq]; omega)⟩
    go_wp2_with fail
    all_goals first
      | (obtain ⟨f1, f2, f3⟩ := HF.out (l0_3.length + 1) (by omega) _ rfl
         refine bodyPost_ret (v := .tuple #[.agg #[.int .u64 a0_0, .int .u64 a0_1, .int .i64 a0_2, .slice A2 (l0_3.length + 1) c2], .int .i64 0]) ?_ rfl ⟨.slice A2 (l0_3.length + 1) c2, rfl, f2, f3⟩
         refine results_ct (fn := Try.f28) (p := 4) (u := 5) rfl _ _ (w.heap.size + 1 + 1) 27 _ (0, 0) _ ?_ f1 hu27 rfl ?_
         · rfl
         · kernel_rfl)
      | (obtain ⟨f1, f2, f3⟩ := HF.out (wrap64 (a0_2 + 1)).toNat (by omega) _ rfl
         refine bodyPost_ret (v := .tuple #[.agg #[.int .u64 a0_0, .int .u64 a0_1, .int .i64 a0_2, .slice A2 (wrap64 (a0_2 + 1)).toNat c2], .int .i64 0]) ?_ rfl ⟨.slice A2 (wrap64 (a0_2 + 1)).toNat c2, rfl, f2, f3⟩
         refine results_ct (fn := Try.f28) (p := 4) (u := 5) rfl _ _ (w.heap.size + 1 + 1) 27 _ (0, 0) _ ?_ f1 hu27 rfl ?_
         · rfl
         · kernel_rfl)
  | true =>
    have h := HH.out;clear HH;rw [if_pos rfl] at h
    split at h
    case isFalse => cases h
    case isTrue hi =>
    obtain ⟨j, rfl⟩ := Int.eq_ofNat_of_zero_le hi.1
    have hj : j < l0_3.length := by have := hi.2; omega
    clear hi;rw [Int.toNat_natCast] at h;obtain ⟨n, hn, h⟩ := Option.bind_eq_some_iff.1 h;obtain ⟨n1, n2, n3⟩ := n;obtain ⟨x, hx⟩ : ∃ x, x = rd_T62 l0_3 (j : Int) := ⟨_, rfl⟩;rw [← hx] at hn h;have HN := am hn;have HH := am h;clear h hn;obtain ⟨ga, cap, e, hga0, hga1, hgt⟩ := Kd.R_form HR2.out (by omega)
    obtain ⟨rfl, rfl⟩ : A1 = some ⟨ga, 0, none⟩ ∧ c1 = cap := by injection e with e1 e2 e3; exact ⟨e1, e3⟩
    clear e hgt;obtain ⟨cf, hcl, hM, hcc, hfr⟩ := Kd.R_elem HR2.out z62 (j : Int) (by omega) (by omega);obtain rfl := k62_openM hM;have hcc2 := hcc 2 _ rfl;have hcc3 := hcc 3 _ rfl;have hX : l0_3.getD (j : Int).toNat z62 = x := hx.symm;have y0 : Aside0 (w2.cell? ⟨ga, j * 4 + 2, none⟩ = some (.int .u64 x.f2.f0)) := ⟨by rw [← hX]; exact hcc2⟩;have y1 : Aside0 (w2.cell? ⟨ga, j * 4 + 2 + 1, none⟩ = some (.int .u64 x.f2.f1)) := ⟨by rw [← hX]; exact hcc3⟩;have y2 := am x2;have y3 := am x3;clear hcc2 hcc3 hcc hfr hcl hM hX;have HX := am hx;clear hx;have HBB := am (Below.refl w2.heap.size w2)
    have d1 : (0 : Int) ≤ (j : Int) := by omega
    have d2 : (j : Int) < (l0_3.length : Int) := by omega
    clear x0 x1 x2 x3 s0 s1 s2 s3
    go_wp2_with fail
    refine start_ (n := 14) (S := fun w' => w'.cell? ⟨ga, j * 4 + 2, none⟩ = some (.int .u64 x.f2.f0) ∧ w'.cell? ⟨ga, j * 4 + 2 + 1, none⟩ = some (.int .u64 x.f2.f1) ∧ w'.cell? ⟨w.heap.size + 1, 2, none⟩ = some (.int .u64 a1_2) ∧ w'.cell? ⟨w.heap.size + 1, 3, none⟩ = some (.int .u64 a1_3)) (ds := [12]) #[false, false, false, false, false, false, false, false, false, false, false, false, false, false] (by kernel_rfl) rfl rfl ⟨y0.out, y1.out, y2.out, y3.out⟩ (fun hHeld => ?_)
    refine pure_ (i := 0) (N := some 22) (v := ?_) (a' := ?_) #[true, false, false, false, false, false, false, false, false, false, false, false, false, false] rfl rfl (by kernel_rfl) (fun _ _ _ h => h) (Or.inl ⟨by rfl, ?_⟩) ?_ ?_
    rotate_left
    · intro w'
      go_simp
      with_reducible rfl
    rotate_left
    · simp only [Act.put, List.setIfInBounds_toArray, List.set_cons_zero, List.set_cons_succ, i64_w, i32_w]
      rfl
    refine pure_ (i := 1) (N := some 23) (v := ?_) (a' := ?_) #[true, true, false, false, false, false, false, false, false, false, false, false, false, false] rfl rfl (by kernel_rfl) (fun _ _ _ h => h) (Or.inl ⟨by rfl, ?_⟩) ?_ ?_
    rotate_left
    · intro w'
      go_simp
      with_reducible rfl
    rotate_left
    · simp only [Act.put, List.setIfInBounds_toArray, List.set_cons_zero, List.set_cons_succ, i64_w, i32_w]
      rfl
    refine pure_ (i := 2) (N := some 24) (v := ?_) (a' := ?_) #[true, true, true, false, false, false, false, false, false, false, false, false, false, false] rfl rfl (by kernel_rfl) (fun _ _ _ h => h) (Or.inl ⟨by rfl, ?_⟩) ?_ ?_
    rotate_left
    · intro w'
      go_simp
      with_reducible rfl
    rotate_left
    · simp only [Act.put, List.setIfInBounds_toArray, List.set_cons_zero, List.set_cons_succ, i64_w, i32_w]
      rfl
    refine pure_ (i := 3) (N := some 25) (v := ?_) (a' := ?_) #[true, true, true, true, false, false, false, false, false, false, false, false, false, false] rfl rfl (by kernel_rfl) (fun _ _ _ h => h) (Or.inl ⟨by rfl, ?_⟩) ?_ ?_
    rotate_left
    · intro w'
      go_simp
      with_reducible rfl
    rotate_left
    · simp only [Act.put, List.setIfInBounds_toArray, List.set_cons_zero, List.set_cons_succ, i64_w, i32_w]
      rfl
    refine pure_ (i := 5) (N := some 27) (v := ?_) (a' := ?_) #[true, true, true, true, false, true, false, false, false, false, false, false, false, false] rfl rfl (by kernel_rfl) (fun _ _ _ h => h) (Or.inl ⟨by rfl, ?_⟩) ?_ ?_
    rotate_left
    · intro w'
      go_simp
      with_reducible rfl
    rotate_left
    · simp only [Act.put, List.setIfInBounds_toArray, List.set_cons_zero, List.set_cons_succ, i64_w, i32_w]
      rfl
    refine take_ (i := 4) (N := some 26) (v := ?_) (a' := ?_) #[true, true, true, true, true, true, false, false, false, false, false, false, false, false] rfl rfl (by kernel_rfl) (fun _ _ _ h => h) (Or.inl ⟨by rfl, ?_⟩) hHeld ?_ ?_
    rotate_left
    · rintro w' ⟨s0, s1, s2, s3⟩
      go_simp
      with_reducible rfl
    rotate_left
    · simp only [Act.put, List.setIfInBounds_toArray, List.set_cons_zero, List.set_cons_succ, i64_w, i32_w]
      rfl
    refine take_ (i := 6) (N := some 28) (v := ?_) (a' := ?_) #[true, true, true, true, true, true, true, false, false, false, false, false, false, false] rfl rfl (by kernel_rfl) (fun _ _ _ h => h) (Or.inl ⟨by rfl, ?_⟩) hHeld ?_ ?_
    rotate_left
    · rintro w' ⟨s0, s1, s2, s3⟩
      go_simp
      with_reducible rfl
    rotate_left
    · simp only [Act.put, List.setIfInBounds_toArray, List.set_cons_zero, List.set_cons_succ, i64_w, i32_w]
      rfl
    refine join_ (σ := Nat) 2 #[true, true, true, true, true, true, true, true, true, true, true, true, false, false] (fun s_ => [(29, .tuple #[.agg #[.int .u64 n1, .int .u64 n2], .bool n3]), (21, .tuple #[.agg #[.int .u64 n1, .int .u64 n2], .bool n3]), (30, .agg #[.int .u64 n1, .int .u64 n2]), (31, .bool n3), (9, .pointer (some ⟨s_, 0, none⟩))]) (fun s_ w' => (w'.cell? ⟨ga, j * 4 + 2, none⟩ = some (.int .u64 x.f2.f0) ∧ w'.cell? ⟨ga, j * 4 + 2 + 1, none⟩ = some (.int .u64 x.f2.f1) ∧ w'.cell? ⟨w.heap.size + 1, 2, none⟩ = some (.int .u64 a1_2) ∧ w'.cell? ⟨w.heap.size + 1, 3, none⟩ = some (.int .u64 a1_3)) ∧ w'.heap[s_]? = some (.cells #[.int .u64 0, .int .u64 0] 50 (0, 0)) ∧ w2.heap.size ≤ s_ ∧ Below w2.heap.size w2 w') ?_ ?_
    rotate_left
    · intro hCont
      refine two_ (i := 7) (j := 11) (Ni := some 29) (Nj := some 9) #[true, true, true, true, true, true, true, true, false, false, false, false, false, false] #[true, true, true, true, true, true, true, false, false, false, false, true, false, false] rfl rfl rfl rfl (by kernel_rfl) (by decide) (by decide) (fun K hK => ?_) (fun K hK => ?_)
      · skip
        refine goes_ Try.func38 (by kernel_rfl) rfl #[.agg #[.int .u64 x.f2.f0, .int .u64 x.f2.f1], .agg #[.int .u64 a1_2, .int .u64 a1_3]] (by rfl) rfl rfl (by simp only [List.map_toArray, List.map_cons, List.map_nil]; rfl) ?_
        with_reducible refine (wide_Add.calls x.f2.f0 x.f2.f1 a1_2 a1_3 n1 n2 n3 _ HN.out).mono ?_
        rintro e w3 ⟨rfl, hb3⟩
        refine ⟨_, rfl, ?_⟩
        have n0_ := am (below_step (by repeat (first | (with_reducible first | exact HBB.out | apply below_alloc | apply pw_below_drewN | apply below_drew1) | exact HBB.out)) hb3);clear HBB;have HBB := n0_;clear n0_ hb3
        refine hK.out _ _ ⟨pw_cell_below HBB.out y0.out, pw_cell_below HBB.out y1.out, pw_cell_below HBB.out y2.out, pw_cell_below HBB.out y3.out⟩ (fun hHeld => ?_)
        clear hK K
        refine nm ?_
        refine pure_ (i := 8) (N := some 21) (v := ?_) (a' := ?_) #[true, true, true, true, true, true, true, true, true, false, false, false, false, false] rfl rfl (by kernel_rfl) (fun _ _ _ h => h) (Or.inl ⟨by rfl, ?_⟩) ?_ ?_
        rotate_left
        · intro w'
          go_simp
          with_reducible rfl
        rotate_left
        · simp only [Act.put, List.setIfInBounds_toArray, List.set_cons_zero, List.set_cons_succ, i64_w, i32_w]
          rfl
        refine pure_ (i := 9) (N := some 30) (v := ?_) (a' := ?_) #[true, true, true, true, true, true, true, true, true, true, false, false, false, false] rfl rfl (by kernel_rfl) (fun _ _ _ h => h) (Or.inl ⟨by rfl, ?_⟩) ?_ ?_
        rotate_left
        · intro w'
          go_simp
          with_reducible rfl
        rotate_left
        · simp only [Act.put, List.setIfInBounds_toArray, List.set_cons_zero, List.set_cons_succ, i64_w, i32_w]
          rfl
        refine pure_ (i := 10) (N := some 31) (v := ?_) (a' := ?_) #[true, true, true, true, true, true, true, true, true, true, true, false, false, false] rfl rfl (by kernel_rfl) (fun _ _ _ h => h) (Or.inl ⟨by rfl, ?_⟩) ?_ ?_
        rotate_left
        · intro w'
          go_simp
          with_reducible rfl
        rotate_left
        · simp only [Act.put, List.setIfInBounds_toArray, List.set_cons_zero, List.set_cons_succ, i64_w, i32_w]
          rfl
        refine one_ (i := 11) (N := some 9) #[true, true, true, true, true, true, true, true, true, true, true, true, false, false] rfl rfl (by kernel_rfl) (by decide) (fun K hK => ?_)
        refine bx 9 #[.int .u64 0, .int .u64 0] 50 ?_
        intro gb hg w3 hbox hb3
        have n0_ := am (below_step (by repeat (first | (with_reducible first | exact HBB.out | apply below_alloc | apply pw_below_drewN | apply below_drew1) | exact HBB.out)) hb3);have GE : Aside0 (w2.heap.size ≤ gb) := ⟨by rw [hg]; exact HBB.out.size⟩;have BK := am hbox;clear HBB;have HBB := n0_;clear n0_ hb3 hbox hg
        refine hK.out _ _ ⟨pw_cell_below HBB.out y0.out, pw_cell_below HBB.out y1.out, pw_cell_below HBB.out y2.out, pw_cell_below HBB.out y3.out⟩ (fun hHeld => ?_)
        clear hK K
        refine nm ?_
        exact nj (hCont gb _ ⟨hHeld, BK.out, GE.out, HBB.out⟩)
      · skip
        refine bx 9 #[.int .u64 0, .int .u64 0] 50 ?_
        intro gb hg w3 hbox hb3
        have n0_ := am (below_step (by repeat (first | (with_reducible first | exact HBB.out | apply below_alloc | apply pw_below_drewN | apply below_drew1) | exact HBB.out)) hb3);have GE : Aside0 (w2.heap.size ≤ gb) := ⟨by rw [hg]; exact HBB.out.size⟩;have BK := am hbox;clear HBB;have HBB := n0_;clear n0_ hb3 hbox hg
        refine hK.out _ _ ⟨pw_cell_below HBB.out y0.out, pw_cell_below HBB.out y1.out, pw_cell_below HBB.out y2.out, pw_cell_below HBB.out y3.out⟩ (fun hHeld => ?_)
        clear hK K
        refine nm ?_
        refine one_ (i := 7) (N := some 29) #[true, true, true, true, true, true, true, true, false, false, false, true, false, false] rfl rfl (by kernel_rfl) (by decide) (fun K hK => ?_)
        refine goes_ Try.func38 (by kernel_rfl) rfl #[.agg #[.int .u64 x.f2.f0, .int .u64 x.f2.f1], .agg #[.int .u64 a1_2, .int .u64 a1_3]] (by rfl) rfl rfl (by simp only [List.map_toArray, List.map_cons, List.map_nil]; rfl) ?_
        with_reducible refine (wide_Add.calls x.f2.f0 x.f2.f1 a1_2 a1_3 n1 n2 n3 _ HN.out).mono ?_
        rintro e w3 ⟨rfl, hb3⟩
        refine ⟨_, rfl, ?_⟩
        have n0_ := am (below_step (by repeat (first | (with_reducible first | exact HBB.out | apply below_alloc | apply pw_below_drewN | apply below_drew1) | exact HBB.out)) hb3);have n1_ := am (blk_below BK.out hb3);clear BK;have BK := n1_;clear n1_ HBB;have HBB := n0_;clear n0_ hb3
        refine hK.out _ _ ⟨pw_cell_below HBB.out y0.out, pw_cell_below HBB.out y1.out, pw_cell_below HBB.out y2.out, pw_cell_below HBB.out y3.out⟩ (fun hHeld => ?_)
        clear hK K
        refine nm ?_
        refine pure_ (i := 8) (N := some 21) (v := ?_) (a' := ?_) #[true, true, true, true, true, true, true, true, true, false, false, true, false, false] rfl rfl (by kernel_rfl) (fun _ _ _ h => h) (Or.inl ⟨by rfl, ?_⟩) ?_ ?_
        rotate_left
        · intro w'
          go_simp
          with_reducible rfl
        rotate_left
        · simp only [Act.put, List.setIfInBounds_toArray, List.set_cons_zero, List.set_cons_succ, i64_w, i32_w]
          rfl
        refine pure_ (i := 9) (N := some 30) (v := ?_) (a' := ?_) #[true, true, true, true, true, true, true, true, true, true, false, true, false, false] rfl rfl (by kernel_rfl) (fun _ _ _ h => h) (Or.inl ⟨by rfl, ?_⟩) ?_ ?_
        rotate_left
        · intro w'
          go_simp
          with_reducible rfl
        rotate_left
        · simp only [Act.put, List.setIfInBounds_toArray, List.set_cons_zero, List.set_cons_succ, i64_w, i32_w]
          rfl
        refine pure_ (i := 10) (N := some 31) (v := ?_) (a' := ?_) #[true, true, true, true, true, true, true, true, true, true, true, true, false, false] rfl rfl (by kernel_rfl) (fun _ _ _ h => h) (Or.inl ⟨by rfl, ?_⟩) ?_ ?_
        rotate_left
        · intro w'
          go_simp
          with_reducible rfl
        rotate_left
        · simp only [Act.put, List.setIfInBounds_toArray, List.set_cons_zero, List.set_cons_succ, i64_w, i32_w]
          rfl
        exact nj (hCont gb _ ⟨hHeld, BK.out, GE.out, HBB.out⟩)
    rintro gb w4 ⟨hHeld, hbk, hge, hbb⟩
    have BK := am hbk;have GE := am hge;clear HBB;have HBB := am hbb;clear hbk hge hbb;have b0 := blk_cell BK.out 0;have b1 := blk_cell BK.out 1;have f0 := blk_frozen BK.out 0;have f1 := blk_frozen BK.out 1
    refine norm_ (a' := ?_) ?_ ?_
    rotate_left
    · simp only [putAll, Act.put, List.setIfInBounds_toArray, List.set_cons_zero, List.set_cons_succ]
      rfl
    refine last_ (i := 12) (N := none) #[true, true, true, true, true, true, true, true, true, true, true, true, true, false] rfl rfl (by kernel_rfl) (by decide) (fun K hK => ?_)
    refine skip_ (w1 := ?_) (by rfl) rfl ?_ ?_
    rotate_left
    · go_simp
      rfl
    refine hK.out _ _ ?_
    clear hK K
    refine pure_ (i := 13) (N := some 10) (v := ?_) (a' := ?_) #[true, true, true, true, true, true, true, true, true, true, true, true, true, true] rfl rfl (by kernel_rfl) (fun _ _ _ h => h) (Or.inl ⟨by rfl, ?_⟩) ?_ ?_
    rotate_left
    · intro w'
      go_simp
      with_reducible rfl
    rotate_left
    · simp only [Act.put, List.setIfInBounds_toArray, List.set_cons_zero, List.set_cons_succ, i64_w, i32_w]
      rfl
    refine done_ (by kernel_rfl) ?_
    have hne2 : w.heap.size + 1 + 1 < gb := by have := GE.out; omega
    have E0 := am (blk_far (blk_far (blk_below C0.out HBB.out) (p := ⟨gb, 0, none⟩) (by simp <;> omega) (.int .u64 n1)) (p := ⟨gb, 1, none⟩) (by simp <;> omega) (.int .u64 n2));have E2 := am (blk_far (blk_far (blk_below C2.out HBB.out) (p := ⟨gb, 0, none⟩) (by simp <;> omega) (.int .u64 n1)) (p := ⟨gb, 1, none⟩) (by simp <;> omega) (.int .u64 n2));have EG := am (blk_put (cs' := #[.int .u64 n1, .int .u64 n2]) (blk_put (cs' := #[.int .u64 n1, .int .u64 0]) BK.out 0 (.int .u64 n1) rfl) 1 (.int .u64 n2) rfl);have HB5 := am (below_set (g := gb) (j := 1) (v := .int .u64 n2) (below_set (g := gb) (j := 0) (v := .int .u64 n1) (below_step HB2.out HBB.out) (by omega)) (by omega));have HV5 := am (Kd.V_far (Kd.V_far (Kd.V_below HV2.out HBB.out) (p := ⟨gb, 0, none⟩) (fun k_ hk => by have := hk.2; simp only [ne_eq]; omega) (.int .u64 n1)) (p := ⟨gb, 1, none⟩) (fun k_ hk => by have := hk.2; simp only [ne_eq]; omega) (.int .u64 n2));have HR5 := am (Kd.R_far (Kd.R_far (Kd.R_below (Kd.R_bound HR2.out) HBB.out) (p := ⟨gb, 0, none⟩) (fun k_ hk => by have := hk.2.2.1; have := GE.out; simp only [ne_eq]; omega) (.int .u64 n1)) (p := ⟨gb, 1, none⟩) (fun k_ hk => by have := hk.2.2.1; have := GE.out; simp only [ne_eq]; omega) (.int .u64 n2));clear b0 b1 f0 f1 hHeld BK HBB C0 C1 C2 HB2 HV2 HR2 y0 y1 y2 y3
    generalize ((w4.setCell ⟨gb, 0, none⟩ (.int .u64 n1)).setCell ⟨gb, 1, none⟩ (.int .u64 n2)) = w5 at E0 E2 EG HB5 HV5 HR5 ⊢
    have s0 := blk_cell E0.out 0;have s1 := blk_cell E0.out 1;have s2 := blk_cell E0.out 2;have s3 := blk_cell E0.out 3;have t0 := blk_cell E2.out 0;have y0 := blk_frozen E2.out 0;have t1 := blk_cell E2.out 1;have y1 := blk_frozen E2.out 1;have t2 := blk_cell E2.out 2;have y2 := blk_frozen E2.out 2;have t3 := blk_cell E2.out 3;have y3 := blk_frozen E2.out 3
    cases n3 with
    | false =>
      have h := HH.out;clear HH;rw [if_neg (by decide)] at h
      simp only [Option.some.injEq, Prod.mk.injEq] at h
      obtain ⟨rfl, rfl, rfl, rfl, rfl⟩ := h
      have HF : Aside0 (∀ W : World, W = (((w5.setCell ⟨w.heap.size + 1 + 1, 0, none⟩ (.int .u64 a0_0)).setCell ⟨w.heap.size + 1 + 1, 1, none⟩ (.int .u64 a0_1)).setCell ⟨w.heap.size + 1 + 1, 2, none⟩ (.int .i64 a0_2)).setCell ⟨w.heap.size + 1 + 1, 3, none⟩ (.slice A0_3 l0_3.length c0_3) →
          W.heap[w.heap.size + 1 + 1]? = some (.cells #[.int .u64 a0_0, .int .u64 a0_1, .int .i64 a0_2, .slice A0_3 l0_3.length c0_3] 27 (0, 0)) ∧ Kd.V k62 62 W w.heap.size (fun k_ => (P0_3_ k_ ∨ w.heap.size ≤ k_)) (.slice A0_3 l0_3.length c0_3) l0_3 ∧ Below w.heap.size w W) := ⟨fun W hW => by
        subst hW
        refine ⟨blk_put (blk_put (blk_put (blk_put (cs' := #[.int .u64 a0_0, .int .u64 0, .int .i64 0, .slice none 0 0]) E2.out 0 _ rfl) (cs' := #[.int .u64 a0_0, .int .u64 a0_1, .int .i64 0, .slice none 0 0]) 1 _ rfl) (cs' := #[.int .u64 a0_0, .int .u64 a0_1, .int .i64 a0_2, .slice none 0 0]) 2 _ rfl) 3 _ rfl, ?_, below_set (below_set (below_set (below_set HB5.out (by omega)) (by omega)) (by omega)) (by omega)⟩
        refine Kd.V_mono (ok := fun k_ => P0_3_ k_ ∧ k_ < w.heap.size) ?_ (fun k_ hk => .inl hk.1)
        refine Kd.V_far (Kd.V_far (Kd.V_far (Kd.V_far HV5.out ?_ _) ?_ _) ?_ _) ?_ _ <;> (intro k_ hk; have := hk.2; simp only [ne_eq]; omega)⟩
      go_wp2_with fail
      obtain ⟨f1, f2, f3⟩ := HF.out _ rfl
      refine bodyPost_ret (v := .tuple #[.agg #[.int .u64 a0_0, .int .u64 a0_1, .int .i64 a0_2, .slice A0_3 l0_3.length c0_3], .int .i64 12]) ?_ rfl ⟨.slice A0_3 l0_3.length c0_3, rfl, f2, f3⟩
      refine results_ct (fn := Try.f28) (p := 4) (u := 5) rfl _ _ (w.heap.size + 1 + 1) 27 _ (0, 0) _ ?_ f1 hu27 rfl ?_
      · rfl
      · kernel_rfl
    | true =>
      have h := HH.out;clear HH;rw [if_pos rfl] at h
      unfold bottom_add.cut at h
      split at h
      case isFalse => cases h
      case isTrue hm =>
      simp only [Option.some.injEq, Prod.mk.injEq] at h
      obtain ⟨rfl, rfl, rfl, h4, rfl⟩ := h;have H4 := am h4;have HM := am hm;clear h4 hm;have g0 := blk_cell EG.out 0;have g1 := blk_cell EG.out 1;clear s0 s1 s2 s3 t0 t1 t2 t3 y0 y1 y2 y3;obtain ⟨cf, hcl, hM, hcc, hfr⟩ := Kd.R_elem HR5.out z62 (j : Int) (by omega) (by omega);obtain rfl := k62_openM hM;have hX : l0_3.getD (j : Int).toNat z62 = x := HX.out.symm;rw [hX] at hcc hcl;have HC := am (And.intro hcl hcc);have HFR := am hfr;clear hcl hcc hfr hM hX;have HP := am (Kd.R_seg HR5.out (j : Int) (by omega) (by omega) (seg := [.int .u64 n1, .int .u64 n2]) (j := 2) HC.out.1 HC.out.2 (show 2 + 2 ≤ 4 from by decide) (x' := ⟨x.f0, x.f1, ⟨n1, n2⟩⟩) (okp := fun _ => False) (k62_mkM _ _ _ ⟨x.f0, x.f1, ⟨n1, n2⟩⟩) (fun _ hk => hk.elim));have q2 : w5.cell? ⟨ga, j * 4 + 2, none⟩ = some (.int .u64 x.f2.f0) := HC.out.2 2 _ rfl;have q3 : w5.cell? ⟨ga, j * 4 + 2 + 1, none⟩ = some (.int .u64 x.f2.f1) := HC.out.2 3 _ rfl;have q4 : w5.frozen? ⟨ga, j * 4 + 2, none⟩ = false := HFR.out 2;have q5 : w5.frozen? ⟨ga, j * 4 + 2 + 1, none⟩ = false := HFR.out 3;clear HC HFR;obtain ⟨m, hm⟩ : ∃ m, m = l0_3.set j ⟨x.f0, x.f1, ⟨n1, n2⟩⟩ := ⟨_, rfl⟩
      have hml : m.length = l0_3.length := by rw [hm, List.length_set]
      rw [← hm] at H4 HM;have HMM := am hm;clear hm
      go_wp2_with (
        with_reducible refine gate_store (t := 50) (p := 39) rfl ?_
        refine store_event (t := 50) (p := 39) (v := ?vo_1) (w1 := (w5.setCell ⟨ga, j * 4 + 2, none⟩ (.int .u64 n1)).setCell ⟨ga, j * 4 + 2 + 1, none⟩ (.int .u64 n2)) ?hg ?ho ?hn ?hr ?_; (case ho => rfl); (case hg => rfl); (case hn => rfl); (case hr => first | (go_simp; done) | (go_simp; rfl))
        intro w6 hw
        have hg6 : w5.grownBy w6 (some ga) := (by rw [hw]; exact HP.out.2);have HR6 : Aside0 (Kd.R k62 62 w6 (w.heap.size + 1 + 1 + 1) _ (.slice (some ⟨ga, 0, none⟩) m.length c1) m) := ⟨by rw [hw, hml, HMM.out]; exact HP.out.1⟩;have HB6 : Aside0 (Below w.heap.size w w6) := ⟨by rw [hw]; exact below_set (below_set HB5.out (by omega)) (by omega)⟩;have F0 := am (blk_grown E0.out hg6 (by simp only [ne_eq, Option.some.injEq]; omega));have F2 := am (blk_grown E2.out hg6 (by simp only [ne_eq, Option.some.injEq]; omega));clear hw hg6 HP q2 q3 q4 q5 g0 g1 HR5 HV5 HB5 E0 E2 EG HMM;obtain ⟨K, hK⟩ : ∃ K, K = wrap64 (a0_2 + 1) := ⟨_, rfl⟩;have s0 := blk_cell F0.out 0;have s1 := blk_cell F0.out 1;have s2 := blk_cell F0.out 2;have s3 := blk_cell F0.out 3;have z3 := blk_frozen F0.out 3;have t0 := blk_cell F2.out 0;have y0 := blk_frozen F2.out 0;have t1 := blk_cell F2.out 1;have y1 := blk_frozen F2.out 1;have t2 := blk_cell F2.out 2;have y2 := blk_frozen F2.out 2;have t3 := blk_cell F2.out 3;have y3 := blk_frozen F2.out 3;have hm0 := HM.out
        have HF : Aside0 (∀ mm : Nat, mm = (min (m.length : Int) (wrap64 (a0_2 + 1))).toNat → ∀ W : World, W = ((((w6.setCell ⟨w.heap.size, 3, none⟩ (.slice (some ⟨ga, 0, none⟩) mm c1)).setCell ⟨w.heap.size + 1 + 1, 0, none⟩ (.int .u64 a0_0)).setCell ⟨w.heap.size + 1 + 1, 1, none⟩ (.int .u64 a0_1)).setCell ⟨w.heap.size + 1 + 1, 2, none⟩ (.int .i64 a0_2)).setCell ⟨w.heap.size + 1 + 1, 3, none⟩ (.slice (some ⟨ga, 0, none⟩) mm c1) →
            W.heap[w.heap.size + 1 + 1]? = some (.cells #[.int .u64 a0_0, .int .u64 a0_1, .int .i64 a0_2, .slice (some ⟨ga, 0, none⟩) mm c1] 27 (0, 0)) ∧ Kd.V k62 62 W w.heap.size (fun k_ => (P0_3_ k_ ∨ w.heap.size ≤ k_)) (.slice (some ⟨ga, 0, none⟩) mm c1) r4 ∧ Below w.heap.size w W) := ⟨fun mm hmm W hW => by
          subst hW
          have hml2 : mm ≤ m.length := by omega
          have hV : Kd.V k62 62 w6 w.heap.size (fun k_ => w.heap.size + 1 + 1 + 1 ≤ k_) (.slice (some ⟨ga, 0, none⟩) m.length c1) m := Kd.R_V (Kd.R_mono (Kd.R_bound HR6.out) (fun k_ hk => hk.2.1));have h4 := H4.out;rw [← hmm] at h4;subst h4
          refine ⟨blk_put (blk_put (blk_put (blk_put (cs' := #[.int .u64 a0_0, .int .u64 0, .int .i64 0, .slice none 0 0]) (blk_far F2.out (by simp <;> omega) _) 0 _ rfl) (cs' := #[.int .u64 a0_0, .int .u64 a0_1, .int .i64 0, .slice none 0 0]) 1 _ rfl) (cs' := #[.int .u64 a0_0, .int .u64 a0_1, .int .i64 a0_2, .slice none 0 0]) 2 _ rfl) 3 _ rfl, ?_, below_set (below_set (below_set (below_set (below_set HB6.out (Nat.le_refl _)) (by omega)) (by omega)) (by omega)) (by omega)⟩
          refine Kd.V_mono (ok := fun k_ => w.heap.size + 1 + 1 + 1 ≤ k_) (V_taken ?_ hml2) (fun k_ hk => .inr (by omega))
          refine Kd.V_far (Kd.V_far (Kd.V_far (Kd.V_far (Kd.V_far hV ?_ _) ?_ _) ?_ _) ?_ _) ?_ _ <;> (intro k_ hk; simp only [ne_eq]; omega)⟩
      )
      all_goals first
        | (obtain ⟨f1, f2, f3⟩ := HF.out l0_3.length (by omega) _ rfl
           refine bodyPost_ret (v := .tuple #[.agg #[.int .u64 a0_0, .int .u64 a0_1, .int .i64 a0_2, .slice (some ⟨ga, 0, none⟩) l0_3.length c1], .int .i64 0]) ?_ rfl ⟨.slice (some ⟨ga, 0, none⟩) l0_3.length c1, rfl, f2, f3⟩
           refine results_ct (fn := Try.f28) (p := 4) (u := 5) rfl _ _ (w.heap.size + 1 + 1) 27 _ (0, 0) _ ?_ f1 hu27 rfl ?_
           · rfl
           · kernel_rfl)
        | (obtain ⟨f1, f2, f3⟩ := HF.out (wrap64 (a0_2 + 1)).toNat (by omega) _ rfl
           refine bodyPost_ret (v := .tuple #[.agg #[.int .u64 a0_0, .int .u64 a0_1, .int .i64 a0_2, .slice (some ⟨ga, 0, none⟩) (wrap64 (a0_2 + 1)).toNat c1], .int .i64 0]) ?_ rfl ⟨.slice (some ⟨ga, 0, none⟩) (wrap64 (a0_2 + 1)).toNat c1, rfl, f2, f3⟩
           refine results_ct (fn := Try.f28) (p := 4) (u := 5) rfl _ _ (w.heap.size + 1 + 1) 27 _ (0, 0) _ ?_ f1 hu27 rfl ?_
           · rfl
           · kernel_rfl)
def l14_Refs.l0 : Nat → List (S60) → List (S62) → Int → Int → Option ((List (S60)))
  | 0, _, _, _, _ => none
  | k + 1, x3, x6, x7, x8 => if x8 < x7 then (if 0 ≤ x8 then (if x8 < (x6.length : Int) then (if x3.length < 3518437208883 then (l14_Refs.l0 k (x3 ++ [(⟨(rd_T62 x6 x8).f0, (rd_T62 x6 x8).f1, (⟨(rd_T62 x6 x8).f2.f0, (rd_T62 x6 x8).f2.f1⟩ : S50)⟩ : S60)]) x6 x7 (wrap64 (x8 + 1))) else (none)) else (none)) else (none)) else (some x3)
def l14_Refs.f (k : Nat) (l0 : List (S62)) : Option ((List (S60))) := l14_Refs.l0 k ([] : List (S60)) l0 (l0.length : Int) 0
theorem l14_Refs.mono_l : ∀ k, (∀ y0 y1 y2 y3, LeO (l14_Refs.l0 k y0 y1 y2 y3) (l14_Refs.l0 (k + 1) y0 y1 y2 y3))
  | 0 => fun _ _ _ _ r h => by simp [l14_Refs.l0] at h
  | k + 1 => by
    have ih0 := l14_Refs.mono_l k
    · intro y0 y1 y2 y3
      unfold l14_Refs.l0
      repeat' first
      | (with_reducible exact ih0 _ _ _ _)
      | (with_reducible exact LeO.refl _)
      | (with_reducible exact LeO.none _)
      | (with_reducible refine LeO.ite ?_ ?_)
      | (with_reducible refine LeO.bind ?_ (fun _ => ?_))
theorem l14_Refs.mono : ∀ a0 k, LeO (l14_Refs.f k a0) (l14_Refs.f (k + 1) a0) := by
  intro a0 k
  have ih0 := l14_Refs.mono_l k
  unfold l14_Refs.f
  repeat' first
      | (with_reducible exact ih0 _ _ _ _)
      | (with_reducible exact LeO.refl _)
      | (with_reducible exact LeO.none _)
      | (with_reducible refine LeO.ite ?_ ?_)
      | (with_reducible refine LeO.bind ?_ (fun _ => ?_))
set_option maxHeartbeats 8000000 in
set_option maxRecDepth 100000 in
theorem l14_Refs.calls (k : Nat) (A0 : Option Addr) (c0 : Nat) (l0 : List (S62)) (r : List (S60)) (w : World) (hr0 : Kd.C k62 w A0 l0.length l0) (hc0 : l0.length ≤ c0) (h : l14_Refs.f k l0 = some r) :
    Calls Try.prog 26 #[.slice A0 l0.length c0] w fun e w' => ∃ v0_ : Value, e = .returned (v0_) ∧ Kd.R k60 60 w' w.heap.size (fun _ => True) v0_ r ∧ Below w.heap.size w w' := by
  have hu62 := Try.underlying62;have HR0 := am hr0;have HC0 := am hc0;clear hr0 hc0;have HB := am (Below.refl w.heap.size w);have H : (l14_Refs.l0 k ([] : List (S60)) l0 (l0.length : Int) 0) = some r := h;clear h;have H' := am H;clear H
  go_enter Try.func26, Try.ntmps26
  go_wp2
  go_loopg [3, 8] k (fun kq v3 v8 w' => ∃ (x3_1 : List (S60)) (x8_1 : Int), v8 = .int .i64 x8_1 ∧ Aside0 (l14_Refs.l0 kq x3_1 l0 (l0.length : Int) x8_1 = some r) ∧ Aside0 (kq ≤ k) ∧ Aside0 (Kd.R k60 60 w' w.heap.size (fun _ => True) v3 x3_1) ∧ Aside0 (Below w.heap.size w w'))
  case atStart => exact ⟨(([] : List (S60))), (0), (by first | rfl | (simp; done) | (simp [*]; done)), H', ⟨Nat.le_refl _⟩, ⟨by first | exact Kd.R_nil _ _ _ _ _ | exact Kd.N_nil _ _ _ _ _ | exact Kd.V_nil _ _ _ _ _ | exact Kd.Q_nil _ _ _ _ _ | exact Kd.S_nil _ _ _ _ _⟩, ⟨pb HB⟩⟩
  case round =>
    clear H';obtain ⟨x3_1, x8_1, rfl, HA, HK1, HO_3, HB⟩ := hrel
    cases gk with
    | zero => exact absurd HA.out (by simp [l14_Refs.l0])
    | succ k1 =>
      have H := HA.out;clear HA
      simp only [l14_Refs.l0] at H
      by_cases c2 : x8_1 < (l0.length : Int)
      · rw [if_pos c2] at H
        have c2b0 : decide (x8_1 < (l0.length : Int)) = true := decide_eq_true c2;clear c2
        by_cases c3 : 0 ≤ x8_1
        · rw [if_pos c3] at H
          have c3b0 : decide (0 ≤ x8_1) = true := decide_eq_true c3;clear c3
          by_cases c4 : x8_1 < (l0.length : Int)
          · rw [if_pos c4] at H
            have c4b0 : decide (x8_1 < (l0.length : Int)) = true := decide_eq_true c4;clear c4
            by_cases c5 : x3_1.length < 3518437208883
            · rw [if_pos c5] at H
              have LMc5 := am c5;clear c5;obtain ⟨y117, hy117⟩ : ∃ y_ : List (S60), y_ = (x3_1 ++ [(⟨(rd_T62 l0 x8_1).f0, (rd_T62 l0 x8_1).f1, (⟨(rd_T62 l0 x8_1).f2.f0, (rd_T62 l0 x8_1).f2.f1⟩ : S50)⟩ : S60)]) := ⟨_, rfl⟩
              replace H : (l14_Refs.l0 k1 y117 l0 (l0.length : Int) (wrap64 (x8_1 + 1))) = some r := by first | (rw [hy117]; with_reducible exact H) | (have H2_ := (Option.bind_some _ _).symm.trans H; rw [hy117]; with_reducible exact H2_) | (have H2_ := (Option.bind_some _ _).symm.trans H; with_reducible exact H2_) | with_reducible exact H | (rw [hy117]; exact H) | exact H
              have Ny117 := am hy117;clear hy117;have H' := am H;clear H;have p115 : 0 ≤ (x8_1 : Int) := of_decide_eq_true (by first | (with_reducible assumption) | assumption);have q115 : x8_1 < (l0.length : Int) := of_decide_eq_true (by first | (with_reducible assumption) | assumption);obtain ⟨ad115, e115, hx115_0, hx115_1, hx115_2, hx115_3⟩ := at_T62 HR0.out x8_1 p115 q115;cases e115;replace hx115_0 := (HB.out.cell (World.block_lt_of_cell? w _ hx115_0)).trans hx115_0;replace hx115_1 := (HB.out.cell (World.block_lt_of_cell? w _ hx115_1)).trans hx115_1;replace hx115_2 := (HB.out.cell (World.block_lt_of_cell? w _ hx115_2)).trans hx115_2;replace hx115_3 := (HB.out.cell (World.block_lt_of_cell? w _ hx115_3)).trans hx115_3;replace p115 := eq_true p115;replace q115 := eq_true q115
              go_wp2_with (first | ((with_reducible refine gate_dst (N := 5) rfl ?_); refine be 5 #[.string (⟨#[]⟩ : ByteArray), .int .u64 0, .int .u64 0, .int .u64 0] 62 ?_; intro gb116 hg w6 hbox hb; replace HO_3 := am (Kd.R_below (pr HO_3.out) hb); have BK116 := am (hbox); have GW116 := am ((pg hg HB : w.heap.size ≤ gb116)); have GE116 := am ((pg hg HB : w.heap.size ≤ gb116)); replace HB := am (below_step (pb HB) hb); clear hb hbox hg; obtain ⟨hcz7_0, hcz7_1, hcz7_2, hcz7_3, hfz7_0, hfz7_1, hfz7_2, hfz7_3⟩ := g4 BK116) | ((with_reducible refine gate_builtin (b := .append) (xs := #[.tmp 12, .tmp 14]) rfl ?_); at_builtin; refine Kd.R_append k60 (w0 := w) w.heap.size rfl (.tmp 12) (.tmp 14) 28 60 (.agg #[(.string ⟨#[]⟩), (.int .u64 0), (.int .u64 0), (.int .u64 0)]) 40 rfl Try.underlying28 info60 rfl (by decide) (by omega) u3 x3_1 (⟨(rd_T62 l0 x8_1).f0, (rd_T62 l0 x8_1).f1, (⟨(rd_T62 l0 x8_1).f2.f0, (rd_T62 l0 x8_1).f2.f1⟩ : S50)⟩ : S60) [.string ((rd_T62 l0 x8_1).f0), .int .u64 ((rd_T62 l0 x8_1).f1), .int .u64 ((rd_T62 l0 x8_1).f2.f0), .int .u64 ((rd_T62 l0 x8_1).f2.f1)] (fun _ => True) (fun _ => False) rfl (by first | (go_simp; done) | (go_simp; rfl)) ?aP (fun _ hk => hk.elim) ?aF ?aO ?aB ?aS ?aL ?_; (case aP => exact k60_mkM _ _ _ (⟨(rd_T62 l0 x8_1).f0, (rd_T62 l0 x8_1).f1, (⟨(rd_T62 l0 x8_1).f2.f0, (rd_T62 l0 x8_1).f2.f1⟩ : S50)⟩ : S60)); (case aB => exact (pb HB)); (case aF => exact (fun _ _ => trivial)); (case aO => exact (pr (Kd.R_mono (Kd.R_far (p := ⟨gb116, 3, none⟩) (Kd.R_far (p := ⟨gb116, 2, none⟩) (Kd.R_far (p := ⟨gb116, 1, none⟩) (Kd.R_far (p := ⟨gb116, 0, none⟩) (Kd.R_types HO_3.out BK116.out (by decide)) (fun _ hk => hk.2) (.string ((rd_T62 l0 x8_1).f0))) (fun _ hk => hk.2) (.int .u64 ((rd_T62 l0 x8_1).f1))) (fun _ hk => hk.2) (.int .u64 ((rd_T62 l0 x8_1).f2.f0))) (fun _ hk => hk.2) (.int .u64 ((rd_T62 l0 x8_1).f2.f1))) (fun _ hk => trivial)))); (case aS => exact (below_size (pb HB))); (case aL => have := LMc5.out; omega); intro v118 w8 ho hb hg hat; rw [← Ny117.out] at ho; replace BK116 := am (blk_grown (g := gb116) (o := .cells #[.string ((rd_T62 l0 x8_1).f0), .int .u64 ((rd_T62 l0 x8_1).f1), .int .u64 ((rd_T62 l0 x8_1).f2.f0), .int .u64 ((rd_T62 l0 x8_1).f2.f1)] 62 (0, 0)) (by refine pk ?_; refine blk_put (cs := #[.string ((rd_T62 l0 x8_1).f0), .int .u64 ((rd_T62 l0 x8_1).f1), .int .u64 ((rd_T62 l0 x8_1).f2.f0), .int .u64 0]) ?_ 3 _ rfl; refine pk ?_; refine blk_put (cs := #[.string ((rd_T62 l0 x8_1).f0), .int .u64 ((rd_T62 l0 x8_1).f1), .int .u64 0, .int .u64 0]) ?_ 2 _ rfl; refine pk ?_; refine blk_put (cs := #[.string ((rd_T62 l0 x8_1).f0), .int .u64 0, .int .u64 0, .int .u64 0]) ?_ 1 _ rfl; refine pk ?_; refine blk_put (cs := #[.string (⟨#[]⟩ : ByteArray), .int .u64 0, .int .u64 0, .int .u64 0]) ?_ 0 _ rfl; refine pk ?_; exact BK116.out) hg (Kd.R_ne HO_3.out BK116.out (by decide))); replace HB := am (hb); have HO119 := am (ho); clear HO_3; clear ho hb hg hat))
              go_roundg k1
              case measure => have := HK1.out; omega
              case rel => exact ⟨(y117), (wrap64 (x8_1 + 1)), (by first | rfl | (simp; done) | (simp [*]; done)), H', ⟨by have := HK1.out; omega⟩, ⟨pr HO119.out⟩, ⟨pb HB⟩⟩
            · rw [if_neg c5] at H
              exact absurd H (by simp)
          · rw [if_neg c4] at H
            exact absurd H (by simp)
        · rw [if_neg c3] at H
          exact absurd H (by simp)
      · rw [if_neg c2] at H
        have c2b0 : decide (x8_1 < (l0.length : Int)) = false := decide_eq_false c2;clear c2;obtain rfl := Option.some.inj H
        go_wp2
        go_ret
        exact ⟨_, by first | rfl | (simp [errW_none, errW_some] <;> rfl) | (simp [*, errW_none, errW_some] <;> rfl), by refine pr ?_; exact HO_3.out, pb HB⟩
def l14_ref.f (k : Nat) (a0_0 : Int) (a0_1 : Int) (a0_2 : Int) (l0_3 : List (S62)) : Option (Int × Int × Int × (List (S60))) := (l14_Refs.f k l0_3).bind fun t122 => (some (a0_0, a0_1, a0_2, t122))
theorem l14_ref.mono : ∀ a0 a1 a2 a3 k, LeO (l14_ref.f k a0 a1 a2 a3) (l14_ref.f (k + 1) a0 a1 a2 a3) := by
  intro a0 a1 a2 a3 k
  unfold l14_ref.f
  repeat' first
      | (with_reducible exact l14_Refs.mono _ _)
      | (with_reducible exact LeO.refl _)
      | (with_reducible exact LeO.none _)
      | (with_reducible refine LeO.ite ?_ ?_)
      | (with_reducible refine LeO.bind ?_ (fun _ => ?_))
def l14_ref.T1 : Bool × List (List Nat × List Nat) := (true, [([], []), ([0], [0]), ([], []), ([2], [2]), ([], []), ([4], [4]), ([5], [5]), ([1, 3, 6], [1, 3, 6]), ([7, 6, 0, 1, 2, 3, 4, 5, 6, 7], [7])])
def l14_ref.B1 : List Nat := [0, 1, 0, 4, 0, 16, 48, 127, 255]
theorem l14_ref.tab1 : rtab .any (opsOf Try.f9 1) = l14_ref.T1 := by kernel_rfl
theorem l14_ref.bits1 : waitsOk l14_ref.T1.2 l14_ref.B1 = true := by kernel_rfl
set_option maxHeartbeats 8000000 in
set_option maxRecDepth 100000 in
theorem l14_ref.calls (k : Nat) (a0_0 : Int) (a0_1 : Int) (a0_2 : Int) (A0_3 : Option Addr) (c0_3 : Nat) (l0_3 : List (S62)) (r1 : Int) (r2 : Int) (r3 : Int) (r4 : List (S60)) (w : World) (hr0_3 : Kd.C k62 w A0_3 l0_3.length l0_3) (hc0_3 : l0_3.length ≤ c0_3) (h : l14_ref.f k a0_0 a0_1 a0_2 l0_3 = some (r1, r2, r3, r4)) :
    Calls Try.prog 9 #[.agg #[.int .u64 a0_0, .int .u64 a0_1, .int .i64 a0_2, .slice A0_3 l0_3.length c0_3]] w fun e w' => ∃ v3_ : Value, e = .returned (.agg #[.int .u64 r1, .int .u64 r2, .int .i64 r3, v3_]) ∧ Kd.R k60 60 w' w.heap.size (fun _ => True) v3_ r4 ∧ Below w.heap.size w w' := by
  have hu27 := Try.underlying27;have hu30 := Try.underlying30;have hu24 := Try.underlying24;have HR0_3 := am hr0_3;have HC0_3 := am hc0_3;clear hr0_3 hc0_3;have HB := am (Below.refl w.heap.size w);have H : ((l14_Refs.f k l0_3).bind fun t122 => (some (a0_0, a0_1, a0_2, t122))) = some (r1, r2, r3, r4) := h;clear h;replace H := Option.bind_eq_some_iff.mp H;obtain ⟨t122, A20, H⟩ := H;replace H : (some (a0_0, a0_1, a0_2, t122)) = some (r1, r2, r3, r4) := H;have A2 := am A20;clear A20
  simp only [Option.some.injEq, Prod.mk.injEq] at H
  obtain ⟨rfl, rfl, rfl, rfl⟩ := H
  go_enter Try.func9, Try.ntmps9
  try go_wp2_with (first | ((with_reducible refine gate_dst (N := 1) rfl ?_); refine be 1 #[.int .u64 a0_0, .int .u64 a0_1, .int .i64 a0_2, .slice A0_3 l0_3.length c0_3] 27 ?_; intro gb120 hg w3 hbox hb; have BK120 := am (hbox); have GW120 := am ((pg hg HB : w.heap.size ≤ gb120)); have GE120 := am ((pg hg HB : w.heap.size ≤ gb120)); replace HB := am (below_step (pb HB) hb); clear hb hbox hg) | ((with_reducible refine gate_dst (N := 2) rfl ?_); refine be 2 #[.int .u64 0, .int .u64 0, .int .i64 0, .slice none 0 0] 30 ?_; intro gb121 hg w4 hbox hb; have BK121 := am (hbox); have GW121 := am ((pg hg HB : w.heap.size ≤ gb121)); have GE121 := am ((pg hg HB : w.heap.size ≤ gb121)); replace HB := am (below_step (pb HB) hb); obtain ⟨NB120_121, NB121_120, -, -⟩ := pm hg BK120; replace BK120 := am (blk_below (pk BK120.out) hb); clear hb hbox hg))
  replace BK120 := am (blk_drew BK120.out);replace BK121 := am (blk_drew BK121.out);replace HB := am (below_drew1 HB.out)
  refine start_ (n := 9) (S := fun w' => w'.cell? ⟨gb120, 0, none⟩ = some (.int .u64 a0_0) ∧ w'.cell? ⟨gb120, 1, none⟩ = some (.int .u64 a0_1) ∧ w'.cell? ⟨gb120, 2, none⟩ = some (.int .i64 a0_2) ∧ w'.cell? ⟨gb120, 3, none⟩ = some (.slice A0_3 l0_3.length c0_3)) (ds := []) #[false, false, false, false, false, false, false, false, false] (by kernel_rfl) rfl rfl ⟨ce BK120 0, ce BK120 1, ce BK120 2, ce BK120 3⟩ (fun hHeld => ?_); refine with_tabW l14_ref.tab1 l14_ref.bits1 (fun HT_ HW_ => ?_)
  generalize w4.drew = w5 at BK120 BK121 HB hHeld ⊢
  refine pu 0 ?_
  refine pu 2 ?_
  refine pu 4 ?_
  refine ta 1 hHeld ?_
  refine ta 3 hHeld ?_
  refine ta 5 hHeld ?_
  refine on1 6 (fun K hK => ?_)
  refine gs Try.func26 #[.slice A0_3 l0_3.length c0_3] ?_
  with_reducible refine (l14_Refs.calls k _ _ l0_3 t122 _ ?side1 ?side2 A2.out).mono ?_
  (case side1 => repeat (first | exact (Kd.C_below HR0_3.out HB.out) | (with_reducible refine Kd.C_alloc ?_ _) | (with_reducible refine Kd.C_drewN ?_ _) | (with_reducible refine Kd.C_drew ?_)))
  (case side2 => exact HC0_3.out)
  rintro e w6 ⟨v123, rfl, ho0, hb⟩
  refine ⟨_, rfl, ?_⟩
  have HO124 := am (Kd.R_lower ho0 (below_size (pb HB)));replace BK120 := am (blk_below (pk BK120.out) hb);replace BK121 := am (blk_below (pk BK121.out) hb);replace HB := am (below_step (pb HB) hb)
  (try clear hb)
  (try clear hb2)
  (try clear hk)
  (try clear hi)
  (try clear ho0)
  obtain ⟨Ao7, co7, eo7⟩ := Kd.R_slice HO124.out
  (first | subst eo7 | (injection eo7 with f1_ f2_ f3_; have f4_ := f1_.symm; have f5_ := f3_.symm; clear f1_ f2_ f3_; subst f4_; subst f5_))
  refine hK.out _ _ ⟨ce BK120 0, ce BK120 1, ce BK120 2, ce BK120 3⟩ (fun hHeld => ?_)
  clear hK K
  refine nm ?_
  refine pu 7 ?_
  refine one_ (i := 8) (N := none) #[true, true, true, true, true, true, true, true, true] rfl rfl (one_of HT_.out (by kernel_rfl)) (by decide) (fun K hK => ?_)
  have hs8 : w6.cell? ⟨gb121, 0, none⟩ = some (.int .u64 0) := ce BK121 0;have hfs8 := blk_frozen BK121.out 0;have hns8_0 := NB120_121.out;have hms8_0 := NB121_120.out;have hs9 : w6.cell? ⟨gb121, 1, none⟩ = some (.int .u64 0) := ce BK121 1;have hfs9 := blk_frozen BK121.out 1;have hns9_0 := NB120_121.out;have hms9_0 := NB121_120.out;have hs10 : w6.cell? ⟨gb121, 2, none⟩ = some (.int .i64 0) := ce BK121 2;have hfs10 := blk_frozen BK121.out 2;have hns10_0 := NB120_121.out;have hms10_0 := NB121_120.out;have hs11 : w6.cell? ⟨gb121, 3, none⟩ = some (.slice none 0 0) := ce BK121 3;have hfs11 := blk_frozen BK121.out 3;have hns11_0 := NB120_121.out;have hms11_0 := NB121_120.out
  refine skip_ (w1 := ?_) (by rfl) rfl ?_ ?_
  rotate_left
  · go_simp
    rfl
  refine hK.out _ _ ⟨((cell_far (p := ⟨gb121, _, none⟩) NB120_121.out _).trans (((cell_far (p := ⟨gb121, _, none⟩) NB120_121.out _).trans (((cell_far (p := ⟨gb121, _, none⟩) NB120_121.out _).trans (((cell_far (p := ⟨gb121, _, none⟩) NB120_121.out _).trans (hHeld.1)))))))), ((cell_far (p := ⟨gb121, _, none⟩) NB120_121.out _).trans (((cell_far (p := ⟨gb121, _, none⟩) NB120_121.out _).trans (((cell_far (p := ⟨gb121, _, none⟩) NB120_121.out _).trans (((cell_far (p := ⟨gb121, _, none⟩) NB120_121.out _).trans (hHeld.2.1)))))))), ((cell_far (p := ⟨gb121, _, none⟩) NB120_121.out _).trans (((cell_far (p := ⟨gb121, _, none⟩) NB120_121.out _).trans (((cell_far (p := ⟨gb121, _, none⟩) NB120_121.out _).trans (((cell_far (p := ⟨gb121, _, none⟩) NB120_121.out _).trans (hHeld.2.2.1)))))))), ((cell_far (p := ⟨gb121, _, none⟩) NB120_121.out _).trans (((cell_far (p := ⟨gb121, _, none⟩) NB120_121.out _).trans (((cell_far (p := ⟨gb121, _, none⟩) NB120_121.out _).trans (((cell_far (p := ⟨gb121, _, none⟩) NB120_121.out _).trans (hHeld.2.2.2))))))))⟩ (fun hHeld => ?_)
  clear hK K
  refine done_ (done_of HT_.out (by kernel_rfl)) ?_
  try go_wp2
  refine bodyPost_ret (results_cell_row rfl _ _ gb121 30 #[.int .u64 a0_0, .int .u64 a0_1, .int .i64 a0_2, .slice Ao7 t122.length co7] (0, 0) _ rfl (by refine pk ?_; refine blk_put (cs := #[.int .u64 a0_0, .int .u64 a0_1, .int .i64 a0_2, .slice none 0 0]) ?_ 3 _ rfl; refine pk ?_; refine blk_put (cs := #[.int .u64 a0_0, .int .u64 a0_1, .int .i64 0, .slice none 0 0]) ?_ 2 _ rfl; refine pk ?_; refine blk_put (cs := #[.int .u64 a0_0, .int .u64 0, .int .i64 0, .slice none 0 0]) ?_ 1 _ rfl; refine pk ?_; refine blk_put (cs := #[.int .u64 0, .int .u64 0, .int .i64 0, .slice none 0 0]) ?_ 0 _ rfl; refine pk ?_; exact BK121.out) Try.underlying30 rfl (by kernel_rfl)) rfl ?_
  exact ⟨_, by first | rfl | (simp [errW_none, errW_some] <;> rfl) | (simp [*, errW_none, errW_some] <;> rfl), by refine pr ?_; exact Kd.R_mono (Kd.R_far (p := ⟨gb121, 3, none⟩) (Kd.R_far (p := ⟨gb121, 2, none⟩) (Kd.R_far (p := ⟨gb121, 1, none⟩) (Kd.R_far (p := ⟨gb121, 0, none⟩) (Kd.R_types HO124.out BK121.out (by decide)) (fun _ hk => hk.2) (.int .u64 a0_0)) (fun _ hk => hk.2) (.int .u64 a0_1)) (fun _ hk => hk.2) (.int .i64 a0_2)) (fun _ hk => hk.2) (.slice Ao7 t122.length co7)) (fun _ hk => trivial), pb HB⟩
end Go.Proofs.Ytmfffbafldbihaa.H
