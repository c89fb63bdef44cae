import Derived.Test.YtmfffbafldbihaaHx0
import Derived.Test.YtmfffbafldbihaaHx4
import Derived.Test.YtmfffbafldbihaaHx5
namespace Go.Proofs.Ytmfffbafldbihaa.H
open Go.RowKit Go.Proofs.YtmfffbafldbihaaW.PrintWords Go.Proofs.YtmfffbafldbihaaW.PrintLast Go.Proofs.YtmfffbafldbihaaW.PrintMore Go.Proofs.YtmfffbafldbihaaW.Sq
attribute [local go_sem] max2_int min2_int max_two min_two max_three min_three max_four min_four
set_option linter.unusedVariables false
set_option linter.unusedSimpArgs false

def cells62 (x : S62) : List Value := [.string x.f0, .int .u64 x.f1, .int .u64 x.f2.f0, .int .u64 x.f2.f1]
def bottom_add.cut (a0_0 a0_1 a0_2 : Int) (m : List S62) : Option (Int × Int × Int × List S62 × Int) :=
  if 0 ≤ min (m.length : Int) (wrap64 (a0_2 + 1)) then some (a0_0, a0_1, a0_2, m.take (min (m.length : Int) (wrap64 (a0_2 + 1))).toNat, 0) else none
def bottom_add.f (k : Nat) (a0_0 a0_1 a0_2 : Int) (l0_3 : List S62) (a1_0 : ByteArray) (a1_1 a1_2 a1_3 : Int) : Option (Int × Int × Int × List S62 × Int) :=
  if l0_3.length < 1000000 then
    (bsT (fun y => bottom_compare.f k y.f0 y.f1 y.f2.f0 y.f2.f1 a1_0 a1_1 a1_2 a1_3) l0_3 z62).bind fun q =>
      if q.2 = true then
        (if 0 ≤ q.1 ∧ q.1 < l0_3.length then
          (wide_Add.f (rd_T62 l0_3 q.1).f2.f0 (rd_T62 l0_3 q.1).f2.f1 a1_2 a1_3).bind fun n =>
            if n.2.2 = true then bottom_add.cut a0_0 a0_1 a0_2 (l0_3.set q.1.toNat ⟨(rd_T62 l0_3 q.1).f0, (rd_T62 l0_3 q.1).f1, ⟨n.1, n.2.1⟩⟩) else some (a0_0, a0_1, a0_2, l0_3, 12)
        else none)
      else (if 0 ≤ q.1 ∧ q.1 ≤ l0_3.length then bottom_add.cut a0_0 a0_1 a0_2 (l0_3.take q.1.toNat ++ [⟨a1_0, a1_1, ⟨a1_2, a1_3⟩⟩] ++ l0_3.drop q.1.toNat) else none)
  else none
theorem bottom_add.mono : ∀ a0 a1 a2 a3 a4 a5 a6 a7 k, LeO (bottom_add.f k a0 a1 a2 a3 a4 a5 a6 a7) (bottom_add.f (k + 1) a0 a1 a2 a3 a4 a5 a6 a7) := by
  intro a0 a1 a2 a3 a4 a5 a6 a7 k
  unfold bottom_add.f
  exact LeO.ite (LeO.bind (bsT_leo (fun y => bottom_compare.mono _ _ _ _ _ _ _ _ k) _ _) (fun _ => LeO.refl _)) (LeO.refl _)
theorem cells62_one (l : List S62) : ∀ u ∈ flat cells62 l, u.oneCell' = true := by
  intro u hu
  obtain ⟨x, _, hx⟩ := List.mem_flatMap.1 hu
  simp only [cells62, List.mem_cons, List.not_mem_nil, or_false] at hx
  rcases hx with rfl | rfl | rfl | rfl <;> rfl
theorem V_taken {α : Type} {d : Kd α} {e : Nat} {W : World} {base : Nat} {ok : Nat → Prop} {A : Option Addr} {c n : Nat} {xs : List α} (h : Kd.V d e W base ok (.slice A xs.length c) xs) (hn : n ≤ xs.length) : Kd.V d e W base ok (.slice A n c) (xs.take n) := by
  have hl : (xs.take n).length = n := by rw [List.length_take]; omega
  have h2 := Kd.V_mk (e := e) (base := base) (c := c) (by rw [hl]; exact Nat.le_trans hn (Kd.V_at h).2.1) (Kd.F_take (Kd.V_at h).2.2 hn)
  rwa [hl] at h2
theorem k62_flat : ∀ x : S62, (cells62 x).length = k62.sz := fun _ => rfl
theorem k62_isM {w : World} {base : Nat} {ok : Nat → Prop} {x : S62} {cs : List Value} (h : k62.M w base ok x cs) : cs = cells62 x := k62_openM h
set_option maxHeartbeats 4000000 in
set_option maxRecDepth 100000 in
theorem bottom_add.calls (k : Nat) (ad ae ac : Int) (an : Nat → Prop) (ah : Option Addr) (ai : Nat) (aa : List S62) (aj : ByteArray) (ak af ag : Int) (r1 r2 r3 : Int) (r4 : List S62) (r5 : Int) (w : World) (aq : Kd.V k62 62 w w.heap.size (fun k_ => an k_) (.slice ah aa.length ai) aa) (h : bottom_add.f k ad ae ac aa aj ak af ag = some (r1, r2, r3, r4, r5)) :
    Calls Try.prog 28 #[.agg #[.int .u64 ad, .int .u64 ae, .int .i64 ac, .slice ah aa.length ai], .agg #[.string aj, .int .u64 ak, .int .u64 af, .int .u64 ag]] w fun e w' => ∃ av : Value, e = .returned (.tuple #[.agg #[.int .u64 r1, .int .u64 r2, .int .i64 r3, av], .int .i64 r5]) ∧ Kd.V k62 62 w' w.heap.size (fun k_ => (an k_ ∨ w.heap.size ≤ k_)) av r4 ∧ Below w.heap.size w w' := by
  have hu27 := Try.underlying27;have hu62 := Try.underlying62;have hu50 := Try.underlying50
  unfold bottom_add.f at h
  split at h
  case isFalse => cases h
  case isTrue hlen =>
  obtain ⟨q, hq, h⟩ := Option.bind_eq_some_iff.1 h;obtain ⟨i, found⟩ := q;have HQ := am hq;have HH := am h;clear hq h;have HV := am (Kd.V_bound aq);clear aq;have eg : ∀ args w, (callFunc 33 args).run Try.prog w = .ok (.enter 33 args) w := enter_at Try.func33 (by kernel_rfl) rfl
  go_enter Try.func28, Try.ntmps28
  go_wp2_with fail
  refine (bottom_Entry_32.calls ah ai aa aa _ (Kd.C_below (Kd.V_reads' HV.out).2.2 (by repeat (first | exact Below.refl _ _ | apply below_alloc))) (Kd.V_reads' HV.out).2.1 (by unfold bottom_Entry_32.f; rw [if_pos (by omega)])).mono ?_
  rintro e w1 ⟨v0, rfl, HR, hb1⟩
  have B0 := am (blk_below (g := w.heap.size) (o := .cells #[.int .u64 ad, .int .u64 ae, .int .i64 ac, .slice ah aa.length ai] 27 (0, 0)) (blk_alloc (blk_alloc (blk_new _ _) _) _) hb1);have B1 := am (blk_below (g := w.heap.size + 1) (o := .cells #[.string aj, .int .u64 ak, .int .u64 af, .int .u64 ag] 62 (0, 0)) (blk_alloc (blk_newAt3 _ _ (by simp)) _) hb1);have B2 := am (blk_below (g := w.heap.size + 1 + 1) (o := .cells #[.int .u64 0, .int .u64 0, .int .i64 0, .slice none 0 0] 27 (0, 0)) (blk_newAt3 _ _ (by simp)) hb1);have HB := am (below_step (w := w) (by repeat (first | exact Below.refl _ _ | apply below_alloc)) hb1)
  have aw : w.heap.size + 1 + 1 + 1 ≤ w1.heap.size := by have := hb1.size; simpa using this
  have HV1 := am (Kd.V_below HV.out HB.out);have ap := am (Kd.R_lower HR (show w.heap.size + 1 + 1 + 1 ≤ _ by simp));clear HR hb1 HV;obtain ⟨A1, c1, rfl⟩ := Kd.R_slice ap.out;have ax := (Kd.R_reads' ap.out).2.1;have x0 := blk_cell B1.out 0;have x1 := blk_cell B1.out 1;have x2 := blk_cell B1.out 2;have x3 := blk_cell B1.out 3
  go_wp2_with fail
  refine (BinarySearchFunc_calls 33 #[] eg (fun y => bottom_compare.f k y.f0 y.f1 y.f2.f0 y.f2.f1 aj ak af ag) aj ak af ag A1 c1 aa i found w1 (Kd.R_reads' ap.out).2.2 ax (by omega) (fun W y c _ hc => by simpa using bottom_compare.calls k _ _ _ _ _ _ _ _ c W hc) HQ.out).mono ?_
  rintro e w2 ⟨rfl, hb2⟩
  have az : w.heap.size + 1 + 1 + 1 ≤ w2.heap.size := Nat.le_trans aw hb2.size;have C0 := am (blk_below B0.out hb2);have C1 := am (blk_below B1.out hb2);have C2 := am (blk_below B2.out hb2);have HB2 := am (below_step HB.out hb2);have HV2 := am (Kd.V_below HV1.out hb2);have ao := am (Kd.R_below ap.out hb2);clear hb2 aw B0 B1 B2 HB HV1 ap x0 x1 x2 x3 HQ;have x0 := blk_cell C1.out 0;have x1 := blk_cell C1.out 1;have x2 := blk_cell C1.out 2;have x3 := blk_cell C1.out 3;have s0 := blk_cell C0.out 0;have s1 := blk_cell C0.out 1;have s2 := blk_cell C0.out 2;have s3 := blk_cell C0.out 3
  cases found with
  | false =>
    have h := HH.out;clear HH;rw [if_neg (by decide)] at h
    split at h
    case isFalse => cases h
    case isTrue hi =>
    obtain ⟨j, rfl⟩ := Int.eq_ofNat_of_zero_le hi.1
    have hj : j ≤ aa.length := by have := hi.2; omega
    clear hi;rw [Int.toNat_natCast] at h
    unfold bottom_add.cut at h
    split at h
    case isFalse => cases h
    case isTrue hm =>
    simp only [Option.some.injEq, Prod.mk.injEq] at h
    obtain ⟨rfl, rfl, rfl, h4, rfl⟩ := h;have H4 := am h4;have HM := am hm;clear h4 hm
    go_wp2_with fail
    have hlt := Kd.R_lt ao.out;have hbs := Kd.R_base ao.out
    refine (Insert_calls (w.heap.size + 1 + 1 + 1) (.slice A1 aa.length c1) aa.length j (flat cells62 aa) (cells62 ⟨aj, ak, ⟨af, ag⟩⟩) w2.heap.size _ hj (own_of_R k62_flat k62_isM (Kd.R_alloc ao.out _)) (blk_new _ _) rfl (cells62_one aa) (fun u hu => cells62_one [⟨aj, ak, ⟨af, ag⟩⟩] u (by rw [flat_one]; exact hu)) (fun he => Nat.lt_irrefl _ (hlt _ he)) (by simp <;> omega) (by omega)).mono ?_
    rintro e w3 ⟨v1, rfl, ho, hB3, hk3, hat⟩
    rw [flat_ins (k := 4) (fun _ => rfl)] at ho
    have hml : (aa.take j ++ [(⟨aj, ak, ⟨af, ag⟩⟩ : S62)] ++ aa.drop j).length = aa.length + 1 := by simp only [List.length_append, List.length_take, List.length_drop, List.length_singleton]; omega
    obtain ⟨m, hm⟩ : ∃ m, m = aa.take j ++ [(⟨aj, ak, ⟨af, ag⟩⟩ : S62)] ++ aa.drop j := ⟨_, rfl⟩;rw [← hm] at ho hml H4 HM;rw [← hml] at ho;have au := am (R_of_own k62_flat (fun W b o x => k62_mkM W b o x) ho);have E0 := am ((hk3 w.heap.size (by simp <;> omega) (fun he => by have := hbs _ he.symm; omega)).trans (blk_alloc C0.out _));have E2 := am ((hk3 (w.heap.size + 1 + 1) (by simp <;> omega) (fun he => by have := hbs _ he.symm; omega)).trans (blk_alloc C2.out _));have HB3 := am ((HB2.out.alloc (by omega) _).trans (hB3.mono (by omega)));clear hm ho hk3 hB3 hat hlt hbs C0 C1 C2 HB2 HV2 ao x0 x1 x2 x3 s0 s1 s2 s3;obtain ⟨A2, c2, rfl⟩ := Kd.R_slice au.out;have aA := (Kd.R_reads' au.out).2.1;obtain ⟨K, hK⟩ : ∃ K, K = wrap64 (ac + 1) := ⟨_, rfl⟩;have s0 := blk_cell E0.out 0;have s1 := blk_cell E0.out 1;have s2 := blk_cell E0.out 2;have s3 := blk_cell E0.out 3;have z3 := blk_frozen E0.out 3;have t0 := blk_cell E2.out 0;have y0 := blk_frozen E2.out 0;have t1 := blk_cell E2.out 1;have y1 := blk_frozen E2.out 1;have t2 := blk_cell E2.out 2;have y2 := blk_frozen E2.out 2;have t3 := blk_cell E2.out 3;have y3 := blk_frozen E2.out 3;have hm0 := HM.out
    have HF : Aside0 (∀ mm : Nat, mm = (min (m.length : Int) (wrap64 (ac + 1))).toNat → ∀ W : World, W = ((((w3.setCell ⟨w.heap.size, 3, none⟩ (.slice A2 mm c2)).setCell ⟨w.heap.size + 1 + 1, 0, none⟩ (.int .u64 ad)).setCell ⟨w.heap.size + 1 + 1, 1, none⟩ (.int .u64 ae)).setCell ⟨w.heap.size + 1 + 1, 2, none⟩ (.int .i64 ac)).setCell ⟨w.heap.size + 1 + 1, 3, none⟩ (.slice A2 mm c2) →
        W.heap[w.heap.size + 1 + 1]? = some (.cells #[.int .u64 ad, .int .u64 ae, .int .i64 ac, .slice A2 mm c2] 27 (0, 0)) ∧ Kd.V k62 62 W w.heap.size (fun k_ => (an k_ ∨ w.heap.size ≤ k_)) (.slice A2 mm c2) r4 ∧ Below w.heap.size w W) := ⟨fun mm hmm W hW => by
      subst hW
      have hml2 : mm ≤ m.length := by omega
      have hV : Kd.V k62 62 w3 w.heap.size (fun k_ => w.heap.size + 1 + 1 + 1 ≤ k_) (.slice A2 m.length c2) m := Kd.R_V (Kd.R_mono (Kd.R_bound au.out) (fun k_ hk => hk.2.1));have h4 := H4.out;rw [← hmm] at h4;subst h4
      refine ⟨blk_put (blk_put (blk_put (blk_put (cs' := #[.int .u64 ad, .int .u64 0, .int .i64 0, .slice none 0 0]) (blk_far E2.out (by simp <;> omega) _) 0 _ rfl) (cs' := #[.int .u64 ad, .int .u64 ae, .int .i64 0, .slice none 0 0]) 1 _ rfl) (cs' := #[.int .u64 ad, .int .u64 ae, .int .i64 ac, .slice none 0 0]) 2 _ rfl) 3 _ rfl, ?_, below_set (below_set (below_set (below_set (below_set HB3.out (Nat.le_refl _)) (by omega)) (by omega)) (by omega)) (by omega)⟩
      refine Kd.V_mono (ok := fun k_ => w.heap.size + 1 + 1 + 1 ≤ k_) (V_taken ?_ hml2) (fun k_ hk => .inr (by omega))
      refine Kd.V_far (Kd.V_far (Kd.V_far (Kd.V_far (Kd.V_far hV ?_ _) ?_ _) ?_ _) ?_ _) ?_ _ <;> (intro k_ hk; simp only [ne_eq]; omega)⟩
    go_wp2_with fail
    all_goals first
      | (obtain ⟨f1, f2, f3⟩ := HF.out (aa.length + 1) (by omega) _ rfl
         refine bodyPost_ret (v := .tuple #[.agg #[.int .u64 ad, .int .u64 ae, .int .i64 ac, .slice A2 (aa.length + 1) c2], .int .i64 0]) ?_ rfl ⟨.slice A2 (aa.length + 1) c2, rfl, f2, f3⟩
         refine results_ct (fn := Try.f28) (p := 4) (u := 5) rfl _ _ (w.heap.size + 1 + 1) 27 _ (0, 0) _ ?_ f1 hu27 rfl ?_
         · rfl
         · kernel_rfl)
      | (obtain ⟨f1, f2, f3⟩ := HF.out (wrap64 (ac + 1)).toNat (by omega) _ rfl
         refine bodyPost_ret (v := .tuple #[.agg #[.int .u64 ad, .int .u64 ae, .int .i64 ac, .slice A2 (wrap64 (ac + 1)).toNat c2], .int .i64 0]) ?_ rfl ⟨.slice A2 (wrap64 (ac + 1)).toNat c2, rfl, f2, f3⟩
         refine results_ct (fn := Try.f28) (p := 4) (u := 5) rfl _ _ (w.heap.size + 1 + 1) 27 _ (0, 0) _ ?_ f1 hu27 rfl ?_
         · rfl
         · kernel_rfl)
  | true =>
    have h := HH.out;clear HH;rw [if_pos rfl] at h
    split at h
    case isFalse => cases h
    case isTrue hi =>
    obtain ⟨j, rfl⟩ := Int.eq_ofNat_of_zero_le hi.1
    have hj : j < aa.length := by have := hi.2; omega
    clear hi;rw [Int.toNat_natCast] at h;obtain ⟨n, hn, h⟩ := Option.bind_eq_some_iff.1 h;obtain ⟨n1, n2, n3⟩ := n;obtain ⟨x, hx⟩ : ∃ x, x = rd_T62 aa (j : Int) := ⟨_, rfl⟩;rw [← hx] at hn h;have HN := am hn;have HH := am h;clear h hn;obtain ⟨ga, cap, e, hga0, hga1, hgt⟩ := Kd.R_form ao.out (by omega)
    obtain ⟨rfl, rfl⟩ : A1 = some ⟨ga, 0, none⟩ ∧ c1 = cap := by injection e with e1 e2 e3; exact ⟨e1, e3⟩
    clear e hgt;obtain ⟨cf, hcl, hM, hcc, hfr⟩ := Kd.R_elem ao.out z62 (j : Int) (by omega) (by omega);obtain rfl := k62_openM hM;have hcc2 := hcc 2 _ rfl;have hcc3 := hcc 3 _ rfl;have hX : aa.getD (j : Int).toNat z62 = x := hx.symm;have y0 : Aside0 (w2.cell? ⟨ga, j * 4 + 2, none⟩ = some (.int .u64 x.f2.f0)) := ⟨by rw [← hX]; exact hcc2⟩;have y1 : Aside0 (w2.cell? ⟨ga, j * 4 + 2 + 1, none⟩ = some (.int .u64 x.f2.f1)) := ⟨by rw [← hX]; exact hcc3⟩;have y2 := am x2;have y3 := am x3;clear hcc2 hcc3 hcc hfr hcl hM hX;have HX := am hx;clear hx;have HBB := am (Below.refl w2.heap.size w2)
    have d1 : (0 : Int) ≤ (j : Int) := by omega
    have d2 : (j : Int) < (aa.length : Int) := by omega
    clear x0 x1 x2 x3 s0 s1 s2 s3
    go_wp2_with fail
    refine start_ (n := 14) (S := fun w' => w'.cell? ⟨ga, j * 4 + 2, none⟩ = some (.int .u64 x.f2.f0) ∧ w'.cell? ⟨ga, j * 4 + 2 + 1, none⟩ = some (.int .u64 x.f2.f1) ∧ w'.cell? ⟨w.heap.size + 1, 2, none⟩ = some (.int .u64 af) ∧ w'.cell? ⟨w.heap.size + 1, 3, none⟩ = some (.int .u64 ag)) (ds := [12]) #[false, false, false, false, false, false, false, false, false, false, false, false, false, false] (by kernel_rfl) rfl rfl ⟨y0.out, y1.out, y2.out, y3.out⟩ (fun hHeld => ?_)
    refine pure_ (i := 0) (N := some 22) (v := ?_) (a' := ?_) #[true, false, false, false, false, false, false, false, false, false, false, false, false, false] rfl rfl (by kernel_rfl) (fun _ _ _ h => h) (Or.inl ⟨by rfl, ?_⟩) ?_ ?_
    rotate_left
    · intro w'
      go_simp
      with_reducible rfl
    rotate_left
    · simp only [Act.put, List.setIfInBounds_toArray, List.set_cons_zero, List.set_cons_succ, i64_w, i32_w]
      rfl
    refine pure_ (i := 1) (N := some 23) (v := ?_) (a' := ?_) #[true, true, false, false, false, false, false, false, false, false, false, false, false, false] rfl rfl (by kernel_rfl) (fun _ _ _ h => h) (Or.inl ⟨by rfl, ?_⟩) ?_ ?_
    rotate_left
    · intro w'
      go_simp
      with_reducible rfl
    rotate_left
    · simp only [Act.put, List.setIfInBounds_toArray, List.set_cons_zero, List.set_cons_succ, i64_w, i32_w]
      rfl
    refine pure_ (i := 2) (N := some 24) (v := ?_) (a' := ?_) #[true, true, true, false, false, false, false, false, false, false, false, false, false, false] rfl rfl (by kernel_rfl) (fun _ _ _ h => h) (Or.inl ⟨by rfl, ?_⟩) ?_ ?_
    rotate_left
    · intro w'
      go_simp
      with_reducible rfl
    rotate_left
    · simp only [Act.put, List.setIfInBounds_toArray, List.set_cons_zero, List.set_cons_succ, i64_w, i32_w]
      rfl
    refine pure_ (i := 3) (N := some 25) (v := ?_) (a' := ?_) #[true, true, true, true, false, false, false, false, false, false, false, false, false, false] rfl rfl (by kernel_rfl) (fun _ _ _ h => h) (Or.inl ⟨by rfl, ?_⟩) ?_ ?_
    rotate_left
    · intro w'
      go_simp
      with_reducible rfl
    rotate_left
    · simp only [Act.put, List.setIfInBounds_toArray, List.set_cons_zero, List.set_cons_succ, i64_w, i32_w]
      rfl
    refine pure_ (i := 5) (N := some 27) (v := ?_) (a' := ?_) #[true, true, true, true, false, true, false, false, false, false, false, false, false, false] rfl rfl (by kernel_rfl) (fun _ _ _ h => h) (Or.inl ⟨by rfl, ?_⟩) ?_ ?_
    rotate_left
    · intro w'
      go_simp
      with_reducible rfl
    rotate_left
    · simp only [Act.put, List.setIfInBounds_toArray, List.set_cons_zero, List.set_cons_succ, i64_w, i32_w]
      rfl
    refine take_ (i := 4) (N := some 26) (v := ?_) (a' := ?_) #[true, true, true, true, true, true, false, false, false, false, false, false, false, false] rfl rfl (by kernel_rfl) (fun _ _ _ h => h) (Or.inl ⟨by rfl, ?_⟩) hHeld ?_ ?_
    rotate_left
    · rintro w' ⟨s0, s1, s2, s3⟩
      go_simp
      with_reducible rfl
    rotate_left
    · simp only [Act.put, List.setIfInBounds_toArray, List.set_cons_zero, List.set_cons_succ, i64_w, i32_w]
      rfl
    refine take_ (i := 6) (N := some 28) (v := ?_) (a' := ?_) #[true, true, true, true, true, true, true, false, false, false, false, false, false, false] rfl rfl (by kernel_rfl) (fun _ _ _ h => h) (Or.inl ⟨by rfl, ?_⟩) hHeld ?_ ?_
    rotate_left
    · rintro w' ⟨s0, s1, s2, s3⟩
      go_simp
      with_reducible rfl
    rotate_left
    · simp only [Act.put, List.setIfInBounds_toArray, List.set_cons_zero, List.set_cons_succ, i64_w, i32_w]
      rfl
    refine join_ (σ := Nat) 2 #[true, true, true, true, true, true, true, true, true, true, true, true, false, false] (fun s_ => [(29, .tuple #[.agg #[.int .u64 n1, .int .u64 n2], .bool n3]), (21, .tuple #[.agg #[.int .u64 n1, .int .u64 n2], .bool n3]), (30, .agg #[.int .u64 n1, .int .u64 n2]), (31, .bool n3), (9, .pointer (some ⟨s_, 0, none⟩))]) (fun s_ w' => (w'.cell? ⟨ga, j * 4 + 2, none⟩ = some (.int .u64 x.f2.f0) ∧ w'.cell? ⟨ga, j * 4 + 2 + 1, none⟩ = some (.int .u64 x.f2.f1) ∧ w'.cell? ⟨w.heap.size + 1, 2, none⟩ = some (.int .u64 af) ∧ w'.cell? ⟨w.heap.size + 1, 3, none⟩ = some (.int .u64 ag)) ∧ w'.heap[s_]? = some (.cells #[.int .u64 0, .int .u64 0] 50 (0, 0)) ∧ w2.heap.size ≤ s_ ∧ Below w2.heap.size w2 w') ?_ ?_
    rotate_left
    · intro hCont
      refine two_ (i := 7) (j := 11) (Ni := some 29) (Nj := some 9) #[true, true, true, true, true, true, true, true, false, false, false, false, false, false] #[true, true, true, true, true, true, true, false, false, false, false, true, false, false] rfl rfl rfl rfl (by kernel_rfl) (by decide) (by decide) (fun K hK => ?_) (fun K hK => ?_)
      · skip
        refine goes_ Try.func38 (by kernel_rfl) rfl #[.agg #[.int .u64 x.f2.f0, .int .u64 x.f2.f1], .agg #[.int .u64 af, .int .u64 ag]] (by rfl) rfl rfl (by simp only [List.map_toArray, List.map_cons, List.map_nil]; rfl) ?_
        with_reducible refine (wide_Add.calls x.f2.f0 x.f2.f1 af ag n1 n2 n3 _ HN.out).mono ?_
        rintro e w3 ⟨rfl, hb3⟩
        refine ⟨_, rfl, ?_⟩
        replace HBB := am (below_step (by repeat (first | (with_reducible first | exact HBB.out | apply below_alloc | apply pw_below_drewN | apply below_drew1) | exact HBB.out)) hb3);clear hb3
        refine hK.out _ _ ⟨pw_cell_below HBB.out y0.out, pw_cell_below HBB.out y1.out, pw_cell_below HBB.out y2.out, pw_cell_below HBB.out y3.out⟩ (fun hHeld => ?_)
        clear hK K
        refine nm ?_
        refine pure_ (i := 8) (N := some 21) (v := ?_) (a' := ?_) #[true, true, true, true, true, true, true, true, true, false, false, false, false, false] rfl rfl (by kernel_rfl) (fun _ _ _ h => h) (Or.inl ⟨by rfl, ?_⟩) ?_ ?_
        rotate_left
        · intro w'
          go_simp
          with_reducible rfl
        rotate_left
        · simp only [Act.put, List.setIfInBounds_toArray, List.set_cons_zero, List.set_cons_succ, i64_w, i32_w]
          rfl
        refine pure_ (i := 9) (N := some 30) (v := ?_) (a' := ?_) #[true, true, true, true, true, true, true, true, true, true, false, false, false, false] rfl rfl (by kernel_rfl) (fun _ _ _ h => h) (Or.inl ⟨by rfl, ?_⟩) ?_ ?_
        rotate_left
        · intro w'
          go_simp
          with_reducible rfl
        rotate_left
        · simp only [Act.put, List.setIfInBounds_toArray, List.set_cons_zero, List.set_cons_succ, i64_w, i32_w]
          rfl
        refine pure_ (i := 10) (N := some 31) (v := ?_) (a' := ?_) #[true, true, true, true, true, true, true, true, true, true, true, false, false, false] rfl rfl (by kernel_rfl) (fun _ _ _ h => h) (Or.inl ⟨by rfl, ?_⟩) ?_ ?_
        rotate_left
        · intro w'
          go_simp
          with_reducible rfl
        rotate_left
        · simp only [Act.put, List.setIfInBounds_toArray, List.set_cons_zero, List.set_cons_succ, i64_w, i32_w]
          rfl
        refine one_ (i := 11) (N := some 9) #[true, true, true, true, true, true, true, true, true, true, true, true, false, false] rfl rfl (by kernel_rfl) (by decide) (fun K hK => ?_)
        refine bx 9 #[.int .u64 0, .int .u64 0] 50 ?_
        intro gb hg w3 hbox hb3
        have n0_ := am (below_step (by repeat (first | (with_reducible first | exact HBB.out | apply below_alloc | apply pw_below_drewN | apply below_drew1) | exact HBB.out)) hb3);have GE : Aside0 (w2.heap.size ≤ gb) := ⟨by rw [hg]; exact HBB.out.size⟩;have BK := am hbox;clear HBB;have HBB := n0_;clear n0_ hb3 hbox hg
        refine hK.out _ _ ⟨pw_cell_below HBB.out y0.out, pw_cell_below HBB.out y1.out, pw_cell_below HBB.out y2.out, pw_cell_below HBB.out y3.out⟩ (fun hHeld => ?_)
        clear hK K
        refine nm ?_
        exact nj (hCont gb _ ⟨hHeld, BK.out, GE.out, HBB.out⟩)
      · skip
        refine bx 9 #[.int .u64 0, .int .u64 0] 50 ?_
        intro gb hg w3 hbox hb3
        have n0_ := am (below_step (by repeat (first | (with_reducible first | exact HBB.out | apply below_alloc | apply pw_below_drewN | apply below_drew1) | exact HBB.out)) hb3);have GE : Aside0 (w2.heap.size ≤ gb) := ⟨by rw [hg]; exact HBB.out.size⟩;have BK := am hbox;clear HBB;have HBB := n0_;clear n0_ hb3 hbox hg
        refine hK.out _ _ ⟨pw_cell_below HBB.out y0.out, pw_cell_below HBB.out y1.out, pw_cell_below HBB.out y2.out, pw_cell_below HBB.out y3.out⟩ (fun hHeld => ?_)
        clear hK K
        refine nm ?_
        refine one_ (i := 7) (N := some 29) #[true, true, true, true, true, true, true, true, false, false, false, true, false, false] rfl rfl (by kernel_rfl) (by decide) (fun K hK => ?_)
        refine goes_ Try.func38 (by kernel_rfl) rfl #[.agg #[.int .u64 x.f2.f0, .int .u64 x.f2.f1], .agg #[.int .u64 af, .int .u64 ag]] (by rfl) rfl rfl (by simp only [List.map_toArray, List.map_cons, List.map_nil]; rfl) ?_
        with_reducible refine (wide_Add.calls x.f2.f0 x.f2.f1 af ag n1 n2 n3 _ HN.out).mono ?_
        rintro e w3 ⟨rfl, hb3⟩
        refine ⟨_, rfl, ?_⟩
        have n0_ := am (below_step (by repeat (first | (with_reducible first | exact HBB.out | apply below_alloc | apply pw_below_drewN | apply below_drew1) | exact HBB.out)) hb3);have n1_ := am (blk_below BK.out hb3);clear BK;have BK := n1_;clear n1_ HBB;have HBB := n0_;clear n0_ hb3
        refine hK.out _ _ ⟨pw_cell_below HBB.out y0.out, pw_cell_below HBB.out y1.out, pw_cell_below HBB.out y2.out, pw_cell_below HBB.out y3.out⟩ (fun hHeld => ?_)
        clear hK K
        refine nm ?_
        refine pure_ (i := 8) (N := some 21) (v := ?_) (a' := ?_) #[true, true, true, true, true, true, true, true, true, false, false, true, false, false] rfl rfl (by kernel_rfl) (fun _ _ _ h => h) (Or.inl ⟨by rfl, ?_⟩) ?_ ?_
        rotate_left
        · intro w'
          go_simp
          with_reducible rfl
        rotate_left
        · simp only [Act.put, List.setIfInBounds_toArray, List.set_cons_zero, List.set_cons_succ, i64_w, i32_w]
          rfl
        refine pure_ (i := 9) (N := some 30) (v := ?_) (a' := ?_) #[true, true, true, true, true, true, true, true, true, true, false, true, false, false] rfl rfl (by kernel_rfl) (fun _ _ _ h => h) (Or.inl ⟨by rfl, ?_⟩) ?_ ?_
        rotate_left
        · intro w'
          go_simp
          with_reducible rfl
        rotate_left
        · simp only [Act.put, List.setIfInBounds_toArray, List.set_cons_zero, List.set_cons_succ, i64_w, i32_w]
          rfl
        refine pure_ (i := 10) (N := some 31) (v := ?_) (a' := ?_) #[true, true, true, true, true, true, true, true, true, true, true, true, false, false] rfl rfl (by kernel_rfl) (fun _ _ _ h => h) (Or.inl ⟨by rfl, ?_⟩) ?_ ?_
        rotate_left
        · intro w'
          go_simp
          with_reducible rfl
        rotate_left
        · simp only [Act.put, List.setIfInBounds_toArray, List.set_cons_zero, List.set_cons_succ, i64_w, i32_w]
          rfl
        exact nj (hCont gb _ ⟨hHeld, BK.out, GE.out, HBB.out⟩)
    rintro gb w4 ⟨hHeld, hbk, hge, hbb⟩
    have BK := am hbk;have GE := am hge;clear HBB;have HBB := am hbb;clear hbk hge hbb;have b0 := blk_cell BK.out 0;have b1 := blk_cell BK.out 1;have f0 := blk_frozen BK.out 0;have f1 := blk_frozen BK.out 1
    refine norm_ (a' := ?_) ?_ ?_
    rotate_left
    · simp only [putAll, Act.put, List.setIfInBounds_toArray, List.set_cons_zero, List.set_cons_succ]
      rfl
    refine last_ (i := 12) (N := none) #[true, true, true, true, true, true, true, true, true, true, true, true, true, false] rfl rfl (by kernel_rfl) (by decide) (fun K hK => ?_)
    refine skip_ (w1 := ?_) (by rfl) rfl ?_ ?_
    rotate_left
    · go_simp
      rfl
    refine hK.out _ _ ?_
    clear hK K
    refine pure_ (i := 13) (N := some 10) (v := ?_) (a' := ?_) #[true, true, true, true, true, true, true, true, true, true, true, true, true, true] rfl rfl (by kernel_rfl) (fun _ _ _ h => h) (Or.inl ⟨by rfl, ?_⟩) ?_ ?_
    rotate_left
    · intro w'
      go_simp
      with_reducible rfl
    rotate_left
    · simp only [Act.put, List.setIfInBounds_toArray, List.set_cons_zero, List.set_cons_succ, i64_w, i32_w]
      rfl
    refine done_ (by kernel_rfl) ?_
    have hne2 : w.heap.size + 1 + 1 < gb := by have := GE.out; omega
    have E0 := am (blk_far (blk_far (blk_below C0.out HBB.out) (p := ⟨gb, 0, none⟩) (by simp <;> omega) (.int .u64 n1)) (p := ⟨gb, 1, none⟩) (by simp <;> omega) (.int .u64 n2));have E2 := am (blk_far (blk_far (blk_below C2.out HBB.out) (p := ⟨gb, 0, none⟩) (by simp <;> omega) (.int .u64 n1)) (p := ⟨gb, 1, none⟩) (by simp <;> omega) (.int .u64 n2));have EG := am (blk_put (cs' := #[.int .u64 n1, .int .u64 n2]) (blk_put (cs' := #[.int .u64 n1, .int .u64 0]) BK.out 0 (.int .u64 n1) rfl) 1 (.int .u64 n2) rfl);have HB5 := am (below_set (g := gb) (j := 1) (v := .int .u64 n2) (below_set (g := gb) (j := 0) (v := .int .u64 n1) (below_step HB2.out HBB.out) (by omega)) (by omega));have HV5 := am (Kd.V_far (Kd.V_far (Kd.V_below HV2.out HBB.out) (p := ⟨gb, 0, none⟩) (fun k_ hk => by have := hk.2; simp only [ne_eq]; omega) (.int .u64 n1)) (p := ⟨gb, 1, none⟩) (fun k_ hk => by have := hk.2; simp only [ne_eq]; omega) (.int .u64 n2));have ar := am (Kd.R_far (Kd.R_far (Kd.R_below (Kd.R_bound ao.out) HBB.out) (p := ⟨gb, 0, none⟩) (fun k_ hk => by have := hk.2.2.1; have := GE.out; simp only [ne_eq]; omega) (.int .u64 n1)) (p := ⟨gb, 1, none⟩) (fun k_ hk => by have := hk.2.2.1; have := GE.out; simp only [ne_eq]; omega) (.int .u64 n2));clear b0 b1 f0 f1 hHeld BK HBB C0 C1 C2 HB2 HV2 ao y0 y1 y2 y3
    generalize ((w4.setCell ⟨gb, 0, none⟩ (.int .u64 n1)).setCell ⟨gb, 1, none⟩ (.int .u64 n2)) = w5 at E0 E2 EG HB5 HV5 ar ⊢
    have s0 := blk_cell E0.out 0;have s1 := blk_cell E0.out 1;have s2 := blk_cell E0.out 2;have s3 := blk_cell E0.out 3;have t0 := blk_cell E2.out 0;have y0 := blk_frozen E2.out 0;have t1 := blk_cell E2.out 1;have y1 := blk_frozen E2.out 1;have t2 := blk_cell E2.out 2;have y2 := blk_frozen E2.out 2;have t3 := blk_cell E2.out 3;have y3 := blk_frozen E2.out 3
    cases n3 with
    | false =>
      have h := HH.out;clear HH;rw [if_neg (by decide)] at h
      simp only [Option.some.injEq, Prod.mk.injEq] at h
      obtain ⟨rfl, rfl, rfl, rfl, rfl⟩ := h
      have HF : Aside0 (∀ W : World, W = (((w5.setCell ⟨w.heap.size + 1 + 1, 0, none⟩ (.int .u64 ad)).setCell ⟨w.heap.size + 1 + 1, 1, none⟩ (.int .u64 ae)).setCell ⟨w.heap.size + 1 + 1, 2, none⟩ (.int .i64 ac)).setCell ⟨w.heap.size + 1 + 1, 3, none⟩ (.slice ah aa.length ai) →
          W.heap[w.heap.size + 1 + 1]? = some (.cells #[.int .u64 ad, .int .u64 ae, .int .i64 ac, .slice ah aa.length ai] 27 (0, 0)) ∧ Kd.V k62 62 W w.heap.size (fun k_ => (an k_ ∨ w.heap.size ≤ k_)) (.slice ah aa.length ai) aa ∧ Below w.heap.size w W) := ⟨fun W hW => by
        subst hW
        refine ⟨blk_put (blk_put (blk_put (blk_put (cs' := #[.int .u64 ad, .int .u64 0, .int .i64 0, .slice none 0 0]) E2.out 0 _ rfl) (cs' := #[.int .u64 ad, .int .u64 ae, .int .i64 0, .slice none 0 0]) 1 _ rfl) (cs' := #[.int .u64 ad, .int .u64 ae, .int .i64 ac, .slice none 0 0]) 2 _ rfl) 3 _ rfl, ?_, below_set (below_set (below_set (below_set HB5.out (by omega)) (by omega)) (by omega)) (by omega)⟩
        refine Kd.V_mono (ok := fun k_ => an k_ ∧ k_ < w.heap.size) ?_ (fun k_ hk => .inl hk.1)
        refine Kd.V_far (Kd.V_far (Kd.V_far (Kd.V_far HV5.out ?_ _) ?_ _) ?_ _) ?_ _ <;> (intro k_ hk; have := hk.2; simp only [ne_eq]; omega)⟩
      go_wp2_with fail
      obtain ⟨f1, f2, f3⟩ := HF.out _ rfl
      refine bodyPost_ret (v := .tuple #[.agg #[.int .u64 ad, .int .u64 ae, .int .i64 ac, .slice ah aa.length ai], .int .i64 12]) ?_ rfl ⟨.slice ah aa.length ai, rfl, f2, f3⟩
      refine results_ct (fn := Try.f28) (p := 4) (u := 5) rfl _ _ (w.heap.size + 1 + 1) 27 _ (0, 0) _ ?_ f1 hu27 rfl ?_
      · rfl
      · kernel_rfl
    | true =>
      have h := HH.out;clear HH;rw [if_pos rfl] at h
      unfold bottom_add.cut at h
      split at h
      case isFalse => cases h
      case isTrue hm =>
      simp only [Option.some.injEq, Prod.mk.injEq] at h
      obtain ⟨rfl, rfl, rfl, h4, rfl⟩ := h;have H4 := am h4;have HM := am hm;clear h4 hm;have g0 := blk_cell EG.out 0;have g1 := blk_cell EG.out 1;clear s0 s1 s2 s3 t0 t1 t2 t3 y0 y1 y2 y3;obtain ⟨cf, hcl, hM, hcc, hfr⟩ := Kd.R_elem ar.out z62 (j : Int) (by omega) (by omega);obtain rfl := k62_openM hM;have hX : aa.getD (j : Int).toNat z62 = x := HX.out.symm;rw [hX] at hcc hcl;have HC := am (And.intro hcl hcc);have HFR := am hfr;clear hcl hcc hfr hM hX;have HP := am (Kd.R_seg ar.out (j : Int) (by omega) (by omega) (seg := [.int .u64 n1, .int .u64 n2]) (j := 2) HC.out.1 HC.out.2 (show 2 + 2 ≤ 4 from by decide) (x' := ⟨x.f0, x.f1, ⟨n1, n2⟩⟩) (okp := fun _ => False) (k62_mkM _ _ _ ⟨x.f0, x.f1, ⟨n1, n2⟩⟩) (fun _ hk => hk.elim));have q2 : w5.cell? ⟨ga, j * 4 + 2, none⟩ = some (.int .u64 x.f2.f0) := HC.out.2 2 _ rfl;have q3 : w5.cell? ⟨ga, j * 4 + 2 + 1, none⟩ = some (.int .u64 x.f2.f1) := HC.out.2 3 _ rfl;have q4 : w5.frozen? ⟨ga, j * 4 + 2, none⟩ = false := HFR.out 2;have q5 : w5.frozen? ⟨ga, j * 4 + 2 + 1, none⟩ = false := HFR.out 3;clear HC HFR;obtain ⟨m, hm⟩ : ∃ m, m = aa.set j ⟨x.f0, x.f1, ⟨n1, n2⟩⟩ := ⟨_, rfl⟩
      have hml : m.length = aa.length := by rw [hm, List.length_set]
      rw [← hm] at H4 HM;have HMM := am hm;clear hm
      go_wp2_with (
        with_reducible refine gate_store (t := 50) (p := 39) rfl ?_
        refine store_event (t := 50) (p := 39) (v := ?vo_1) (w1 := (w5.setCell ⟨ga, j * 4 + 2, none⟩ (.int .u64 n1)).setCell ⟨ga, j * 4 + 2 + 1, none⟩ (.int .u64 n2)) ?hg ?ho ?hn ?hr ?_; (case ho => rfl); (case hg => rfl); (case hn => rfl); (case hr => first | (go_simp; done) | (go_simp; rfl))
        intro w6 hw
        have hg6 : w5.grownBy w6 (some ga) := (by rw [hw]; exact HP.out.2);have ay : Aside0 (Kd.R k62 62 w6 (w.heap.size + 1 + 1 + 1) _ (.slice (some ⟨ga, 0, none⟩) m.length c1) m) := ⟨by rw [hw, hml, HMM.out]; exact HP.out.1⟩;have HB6 : Aside0 (Below w.heap.size w w6) := ⟨by rw [hw]; exact below_set (below_set HB5.out (by omega)) (by omega)⟩;have F0 := am (blk_grown E0.out hg6 (by simp only [ne_eq, Option.some.injEq]; omega));have F2 := am (blk_grown E2.out hg6 (by simp only [ne_eq, Option.some.injEq]; omega));clear hw hg6 HP q2 q3 q4 q5 g0 g1 ar HV5 HB5 E0 E2 EG HMM;obtain ⟨K, hK⟩ : ∃ K, K = wrap64 (ac + 1) := ⟨_, rfl⟩;have s0 := blk_cell F0.out 0;have s1 := blk_cell F0.out 1;have s2 := blk_cell F0.out 2;have s3 := blk_cell F0.out 3;have z3 := blk_frozen F0.out 3;have t0 := blk_cell F2.out 0;have y0 := blk_frozen F2.out 0;have t1 := blk_cell F2.out 1;have y1 := blk_frozen F2.out 1;have t2 := blk_cell F2.out 2;have y2 := blk_frozen F2.out 2;have t3 := blk_cell F2.out 3;have y3 := blk_frozen F2.out 3;have hm0 := HM.out
        have HF : Aside0 (∀ mm : Nat, mm = (min (m.length : Int) (wrap64 (ac + 1))).toNat → ∀ W : World, W = ((((w6.setCell ⟨w.heap.size, 3, none⟩ (.slice (some ⟨ga, 0, none⟩) mm c1)).setCell ⟨w.heap.size + 1 + 1, 0, none⟩ (.int .u64 ad)).setCell ⟨w.heap.size + 1 + 1, 1, none⟩ (.int .u64 ae)).setCell ⟨w.heap.size + 1 + 1, 2, none⟩ (.int .i64 ac)).setCell ⟨w.heap.size + 1 + 1, 3, none⟩ (.slice (some ⟨ga, 0, none⟩) mm c1) →
            W.heap[w.heap.size + 1 + 1]? = some (.cells #[.int .u64 ad, .int .u64 ae, .int .i64 ac, .slice (some ⟨ga, 0, none⟩) mm c1] 27 (0, 0)) ∧ Kd.V k62 62 W w.heap.size (fun k_ => (an k_ ∨ w.heap.size ≤ k_)) (.slice (some ⟨ga, 0, none⟩) mm c1) r4 ∧ Below w.heap.size w W) := ⟨fun mm hmm W hW => by
          subst hW
          have hml2 : mm ≤ m.length := by omega
          have hV : Kd.V k62 62 w6 w.heap.size (fun k_ => w.heap.size + 1 + 1 + 1 ≤ k_) (.slice (some ⟨ga, 0, none⟩) m.length c1) m := Kd.R_V (Kd.R_mono (Kd.R_bound ay.out) (fun k_ hk => hk.2.1));have h4 := H4.out;rw [← hmm] at h4;subst h4
          refine ⟨blk_put (blk_put (blk_put (blk_put (cs' := #[.int .u64 ad, .int .u64 0, .int .i64 0, .slice none 0 0]) (blk_far F2.out (by simp <;> omega) _) 0 _ rfl) (cs' := #[.int .u64 ad, .int .u64 ae, .int .i64 0, .slice none 0 0]) 1 _ rfl) (cs' := #[.int .u64 ad, .int .u64 ae, .int .i64 ac, .slice none 0 0]) 2 _ rfl) 3 _ rfl, ?_, below_set (below_set (below_set (below_set (below_set HB6.out (Nat.le_refl _)) (by omega)) (by omega)) (by omega)) (by omega)⟩
          refine Kd.V_mono (ok := fun k_ => w.heap.size + 1 + 1 + 1 ≤ k_) (V_taken ?_ hml2) (fun k_ hk => .inr (by omega))
          refine Kd.V_far (Kd.V_far (Kd.V_far (Kd.V_far (Kd.V_far hV ?_ _) ?_ _) ?_ _) ?_ _) ?_ _ <;> (intro k_ hk; simp only [ne_eq]; omega)⟩
      )
      all_goals first
        | (obtain ⟨f1, f2, f3⟩ := HF.out aa.length (by omega) _ rfl
           refine bodyPost_ret (v := .tuple #[.agg #[.int .u64 ad, .int .u64 ae, .int .i64 ac, .slice (some ⟨ga, 0, none⟩) aa.length c1], .int .i64 0]) ?_ rfl ⟨.slice (some ⟨ga, 0, none⟩) aa.length c1, rfl, f2, f3⟩
           refine results_ct (fn := Try.f28) (p := 4) (u := 5) rfl _ _ (w.heap.size + 1 + 1) 27 _ (0, 0) _ ?_ f1 hu27 rfl ?_
           · rfl
           · kernel_rfl)
        | (obtain ⟨f1, f2, f3⟩ := HF.out (wrap64 (ac + 1)).toNat (by omega) _ rfl
           refine bodyPost_ret (v := .tuple #[.agg #[.int .u64 ad, .int .u64 ae, .int .i64 ac, .slice (some ⟨ga, 0, none⟩) (wrap64 (ac + 1)).toNat c1], .int .i64 0]) ?_ rfl ⟨.slice (some ⟨ga, 0, none⟩) (wrap64 (ac + 1)).toNat c1, rfl, f2, f3⟩
           refine results_ct (fn := Try.f28) (p := 4) (u := 5) rfl _ _ (w.heap.size + 1 + 1) 27 _ (0, 0) _ ?_ f1 hu27 rfl ?_
           · rfl
           · kernel_rfl)
def sip_right.f (a0_0 : Int) (a0_1 : Int) (a0_2 : Int) (a0_3 : Int) (a0_4 : ByteArray) (a0_5 : Int) : Option (Bool) := if a0_5 ≥ 0 then (some ((a0_4.size : Int) == (Int.tmod a0_5 8))) else (some false)
set_option maxHeartbeats 8000000 in
set_option maxRecDepth 100000 in
theorem sip_right.calls (ad : Int) (ae : Int) (af : Int) (ag : Int) (ac : ByteArray) (aa : Int) (r : Bool) (w : World) (h : sip_right.f ad ae af ag ac aa = some r) :
    Calls Try.prog 54 #[.agg #[.int .u64 ad, .int .u64 ae, .int .u64 af, .int .u64 ag, .string ac, .int .i64 aa]] w fun e w' => e = .returned (.bool r) ∧ Below w.heap.size w w' := by
  have hu85 := Try.underlying85;have HB := am (Below.refl w.heap.size w);have H : (if aa ≥ 0 then (some ((ac.size : Int) == (Int.tmod aa 8))) else (some false)) = some r := h;clear h
  by_cases c2 : aa ≥ 0
  · rw [if_pos c2] at H
    have an : decide (0 ≤ aa) = true := decide_eq_true c2;clear c2;obtain rfl := Option.some.inj H
    go_enter Try.func54, Try.ntmps54
    go_wp2_with (first | ((with_reducible refine gate_dst (N := 1) rfl ?_); (try (refine gate_guard (by rfl) ?_; dsimp only)); refine be 1 #[.int .u64 ad, .int .u64 ae, .int .u64 af, .int .u64 ag, .string ac, .int .i64 aa] 85 ?_; intro ai hg w3 hbox hb; have ah := am (hbox); have aj := gq hg HB; have ak := gq hg HB; replace HB := lb HB hb; clear hb hbox hg; obtain ⟨ao, ap, aq, ar, au, av, aw, ax, ay, az, aA, aB⟩ := g6 ah))
    go_ret
    exact ⟨by first | rfl | (simp [errW_none, errW_some] <;> rfl) | (simp [*, errW_none, errW_some] <;> rfl), pb HB⟩
  · rw [if_neg c2] at H
    have an : decide (0 ≤ aa) = false := decide_eq_false c2;clear c2;obtain rfl := Option.some.inj H
    go_enter Try.func54, Try.ntmps54
    go_wp2_with (first | ((with_reducible refine gate_dst (N := 1) rfl ?_); (try (refine gate_guard (by rfl) ?_; dsimp only)); refine be 1 #[.int .u64 ad, .int .u64 ae, .int .u64 af, .int .u64 ag, .string ac, .int .i64 aa] 85 ?_; intro ai hg w5 hbox hb; have ah := am (hbox); have aj := gq hg HB; have ak := gq hg HB; replace HB := lb HB hb; clear hb hbox hg; obtain ⟨aC, aD, aE, aF, aG, aH, aI, aJ, aK, aL, aM, aN⟩ := g6 ah))
    go_ret
    exact ⟨by first | rfl | (simp [errW_none, errW_some] <;> rfl) | (simp [*, errW_none, errW_some] <;> rfl), pb HB⟩
def bits_RotateLeft64.f (a0 : Int) (a1 : Int) : Option (Int) := if 0 ≤ (Go.bits .and .u64 (IntKind.u64.wrap (a1)) 63) then (if 0 ≤ (IntKind.u64.wrap (64 - (Go.bits .and .u64 (IntKind.u64.wrap (a1)) 63))) then (some (Go.bits .or .u64 (shl .u64 a0 (Go.bits .and .u64 (IntKind.u64.wrap (a1)) 63)) (shr .u64 a0 (IntKind.u64.wrap (64 - (Go.bits .and .u64 (IntKind.u64.wrap (a1)) 63)))))) else (none)) else (none)
set_option maxHeartbeats 8000000 in
set_option maxRecDepth 100000 in
theorem bits_RotateLeft64.calls (a0 : Int) (a1 : Int) (r : Int) (w : World) (h : bits_RotateLeft64.f a0 a1 = some r) :
    Calls Try.prog 61 #[.int .u64 a0, .int .i64 a1] w fun e w' => e = .returned (.int .u64 r) ∧ Drawn0 w w' := by
  have H : (if 0 ≤ (Go.bits .and .u64 (IntKind.u64.wrap (a1)) 63) then (if 0 ≤ (IntKind.u64.wrap (64 - (Go.bits .and .u64 (IntKind.u64.wrap (a1)) 63))) then (some (Go.bits .or .u64 (shl .u64 a0 (Go.bits .and .u64 (IntKind.u64.wrap (a1)) 63)) (shr .u64 a0 (IntKind.u64.wrap (64 - (Go.bits .and .u64 (IntKind.u64.wrap (a1)) 63)))))) else (none)) else (none)) = some r := h;clear h;obtain ⟨aa, hji3⟩ : ∃ j_ : Int, (Go.bits .and .u64 (IntKind.u64.wrap (a1)) 63) = j_ := ⟨_, rfl⟩
  replace H : (if 0 ≤ (aa) then (if 0 ≤ (IntKind.u64.wrap (64 - (aa))) then (some (Go.bits .or .u64 (shl .u64 a0 (aa)) (shr .u64 a0 (IntKind.u64.wrap (64 - (aa)))))) else (none)) else (none)) = some r := by first | (rw [hji3] at H; exact H) | (simp only [hji3] at H ⊢; exact H)
  by_cases c4 : 0 ≤ (aa)
  · rw [if_pos c4] at H
    have af := eq_true c4;have ag : decide (0 ≤ (aa)) = true := decide_eq_true c4;clear c4;obtain ⟨ad, hji5⟩ : ∃ j_ : Int, (shl .u64 a0 (aa)) = j_ := ⟨_, rfl⟩
    replace H : (if 0 ≤ (IntKind.u64.wrap (64 - (aa))) then (some (Go.bits .or .u64 (ad) (shr .u64 a0 (IntKind.u64.wrap (64 - (aa)))))) else (none)) = some r := by first | (rw [hji5] at H; exact H) | (simp only [hji5] at H ⊢; exact H)
    have hji5_ : (IntKind.u64.wrap (a0 * 2 ^ min (aa).toNat 64)) = ad := hji5;have hji5z : (aa) ≤ 64 → (IntKind.u64.wrap (a0 * 2 ^ (aa).toNat)) = ad := shl_small hji5;obtain ⟨ac, hji6⟩ : ∃ j_ : Int, (IntKind.u64.wrap (64 - (aa))) = j_ := ⟨_, rfl⟩
    replace H : (if 0 ≤ (ac) then (some (Go.bits .or .u64 (ad) (shr .u64 a0 (ac)))) else (none)) = some r := by first | (rw [hji6] at H; exact H) | (simp only [hji6] at H ⊢; exact H)
    by_cases c7 : 0 ≤ (ac)
    · rw [if_pos c7] at H
      have ah := eq_true c7;have ai : decide (0 ≤ (ac)) = true := decide_eq_true c7;clear c7;obtain ⟨ae, hji8⟩ : ∃ j_ : Int, (shr .u64 a0 (ac)) = j_ := ⟨_, rfl⟩
      replace H : (some (Go.bits .or .u64 (ad) (ae))) = some r := by first | (rw [hji8] at H; exact H) | (simp only [hji8] at H ⊢; exact H)
      have hji8_ : (a0 / 2 ^ min (ac).toNat 64) = ae := hji8;have hji8z : (ac) ≤ 64 → (a0 / 2 ^ (ac).toNat) = ae := shr_small hji8;obtain rfl := Option.some.inj H
      go_enter Try.func61, Try.ntmps61
      go_wp2
      go_ret
      exact ⟨by first | rfl | (simp; done) | (simp only [← hji3, ← hji5, ← hji6, ← hji8] <;> (first | rfl | (simp; done) | (simp [show ∀ j_ : Int, shl .u64 0 j_ = 0 from fun j_ => by unfold shl; rw [Int.zero_mul]; decide]; done))) | (simp [*]; done), by repeat (first | exact Drawn0.refl _ | apply Drawn0.step)⟩
    · rw [if_neg c7] at H
      exact absurd H (by simp)
  · rw [if_neg c4] at H
    exact absurd H (by simp)
def sip_turn.f (a0_0 : Int) (a0_1 : Int) (a0_2 : Int) (a0_3 : Int) : Option (Int × Int × Int × Int) := (bits_RotateLeft64.f a0_1 13).bind fun t118 => ((bits_RotateLeft64.f (IntKind.u64.wrap (a0_0 + a0_1)) 32).bind fun t119 => ((bits_RotateLeft64.f a0_3 16).bind fun t120 => ((bits_RotateLeft64.f (Go.bits .xor .u64 t120 (IntKind.u64.wrap (a0_2 + a0_3))) 21).bind fun t121 => ((bits_RotateLeft64.f (Go.bits .xor .u64 t118 (IntKind.u64.wrap (a0_0 + a0_1))) 17).bind fun t122 => ((bits_RotateLeft64.f (IntKind.u64.wrap ((IntKind.u64.wrap (a0_2 + a0_3)) + (Go.bits .xor .u64 t118 (IntKind.u64.wrap (a0_0 + a0_1))))) 32).bind fun t123 => (some (IntKind.u64.wrap (t119 + (Go.bits .xor .u64 t120 (IntKind.u64.wrap (a0_2 + a0_3)))), Go.bits .xor .u64 t122 (IntKind.u64.wrap ((IntKind.u64.wrap (a0_2 + a0_3)) + (Go.bits .xor .u64 t118 (IntKind.u64.wrap (a0_0 + a0_1))))), t123, Go.bits .xor .u64 t121 (IntKind.u64.wrap (t119 + (Go.bits .xor .u64 t120 (IntKind.u64.wrap (a0_2 + a0_3))))))))))))
set_option maxHeartbeats 8000000 in
set_option maxRecDepth 100000 in
theorem sip_turn.calls (ae : Int) (ad : Int) (ac : Int) (aa : Int) (r1 : Int) (r2 : Int) (r3 : Int) (r4 : Int) (w : World) (h : sip_turn.f ae ad ac aa = some (r1, r2, r3, r4)) :
    Calls Try.prog 57 #[.agg #[.int .u64 ae, .int .u64 ad, .int .u64 ac, .int .u64 aa]] w fun e w' => e = .returned (.agg #[.int .u64 r1, .int .u64 r2, .int .u64 r3, .int .u64 r4]) ∧ Below w.heap.size w w' := by
  have hu75 := Try.underlying75;have HB := am (Below.refl w.heap.size w);have H : ((bits_RotateLeft64.f ad 13).bind fun ag => ((bits_RotateLeft64.f (IntKind.u64.wrap (ae + ad)) 32).bind fun ah => ((bits_RotateLeft64.f aa 16).bind fun af => ((bits_RotateLeft64.f (Go.bits .xor .u64 af (IntKind.u64.wrap (ac + aa))) 21).bind fun an => ((bits_RotateLeft64.f (Go.bits .xor .u64 ag (IntKind.u64.wrap (ae + ad))) 17).bind fun ai => ((bits_RotateLeft64.f (IntKind.u64.wrap ((IntKind.u64.wrap (ac + aa)) + (Go.bits .xor .u64 ag (IntKind.u64.wrap (ae + ad))))) 32).bind fun aj => (some (IntKind.u64.wrap (ah + (Go.bits .xor .u64 af (IntKind.u64.wrap (ac + aa)))), Go.bits .xor .u64 ai (IntKind.u64.wrap ((IntKind.u64.wrap (ac + aa)) + (Go.bits .xor .u64 ag (IntKind.u64.wrap (ae + ad))))), aj, Go.bits .xor .u64 an (IntKind.u64.wrap (ah + (Go.bits .xor .u64 af (IntKind.u64.wrap (ac + aa))))))))))))) = some (r1, r2, r3, r4) := h;clear h;replace H := Option.bind_eq_some_iff.mp H;obtain ⟨ag, aR, H⟩ := H;replace H : ((bits_RotateLeft64.f (IntKind.u64.wrap (ae + ad)) 32).bind fun ah => ((bits_RotateLeft64.f aa 16).bind fun af => ((bits_RotateLeft64.f (Go.bits .xor .u64 af (IntKind.u64.wrap (ac + aa))) 21).bind fun an => ((bits_RotateLeft64.f (Go.bits .xor .u64 ag (IntKind.u64.wrap (ae + ad))) 17).bind fun ai => ((bits_RotateLeft64.f (IntKind.u64.wrap ((IntKind.u64.wrap (ac + aa)) + (Go.bits .xor .u64 ag (IntKind.u64.wrap (ae + ad))))) 32).bind fun aj => (some (IntKind.u64.wrap (ah + (Go.bits .xor .u64 af (IntKind.u64.wrap (ac + aa)))), Go.bits .xor .u64 ai (IntKind.u64.wrap ((IntKind.u64.wrap (ac + aa)) + (Go.bits .xor .u64 ag (IntKind.u64.wrap (ae + ad))))), aj, Go.bits .xor .u64 an (IntKind.u64.wrap (ah + (Go.bits .xor .u64 af (IntKind.u64.wrap (ac + aa)))))))))))) = some (r1, r2, r3, r4) := H;have A2 := am aR;clear aR;replace H := Option.bind_eq_some_iff.mp H;obtain ⟨ah, aS, H⟩ := H;replace H : ((bits_RotateLeft64.f aa 16).bind fun af => ((bits_RotateLeft64.f (Go.bits .xor .u64 af (IntKind.u64.wrap (ac + aa))) 21).bind fun an => ((bits_RotateLeft64.f (Go.bits .xor .u64 ag (IntKind.u64.wrap (ae + ad))) 17).bind fun ai => ((bits_RotateLeft64.f (IntKind.u64.wrap ((IntKind.u64.wrap (ac + aa)) + (Go.bits .xor .u64 ag (IntKind.u64.wrap (ae + ad))))) 32).bind fun aj => (some (IntKind.u64.wrap (ah + (Go.bits .xor .u64 af (IntKind.u64.wrap (ac + aa)))), Go.bits .xor .u64 ai (IntKind.u64.wrap ((IntKind.u64.wrap (ac + aa)) + (Go.bits .xor .u64 ag (IntKind.u64.wrap (ae + ad))))), aj, Go.bits .xor .u64 an (IntKind.u64.wrap (ah + (Go.bits .xor .u64 af (IntKind.u64.wrap (ac + aa))))))))))) = some (r1, r2, r3, r4) := H;have A3 := am aS;clear aS;replace H := Option.bind_eq_some_iff.mp H;obtain ⟨af, aT, H⟩ := H;replace H : ((bits_RotateLeft64.f (Go.bits .xor .u64 af (IntKind.u64.wrap (ac + aa))) 21).bind fun an => ((bits_RotateLeft64.f (Go.bits .xor .u64 ag (IntKind.u64.wrap (ae + ad))) 17).bind fun ai => ((bits_RotateLeft64.f (IntKind.u64.wrap ((IntKind.u64.wrap (ac + aa)) + (Go.bits .xor .u64 ag (IntKind.u64.wrap (ae + ad))))) 32).bind fun aj => (some (IntKind.u64.wrap (ah + (Go.bits .xor .u64 af (IntKind.u64.wrap (ac + aa)))), Go.bits .xor .u64 ai (IntKind.u64.wrap ((IntKind.u64.wrap (ac + aa)) + (Go.bits .xor .u64 ag (IntKind.u64.wrap (ae + ad))))), aj, Go.bits .xor .u64 an (IntKind.u64.wrap (ah + (Go.bits .xor .u64 af (IntKind.u64.wrap (ac + aa)))))))))) = some (r1, r2, r3, r4) := H;have A4 := am aT;clear aT;replace H := Option.bind_eq_some_iff.mp H;obtain ⟨an, aU, H⟩ := H;replace H : ((bits_RotateLeft64.f (Go.bits .xor .u64 ag (IntKind.u64.wrap (ae + ad))) 17).bind fun ai => ((bits_RotateLeft64.f (IntKind.u64.wrap ((IntKind.u64.wrap (ac + aa)) + (Go.bits .xor .u64 ag (IntKind.u64.wrap (ae + ad))))) 32).bind fun aj => (some (IntKind.u64.wrap (ah + (Go.bits .xor .u64 af (IntKind.u64.wrap (ac + aa)))), Go.bits .xor .u64 ai (IntKind.u64.wrap ((IntKind.u64.wrap (ac + aa)) + (Go.bits .xor .u64 ag (IntKind.u64.wrap (ae + ad))))), aj, Go.bits .xor .u64 an (IntKind.u64.wrap (ah + (Go.bits .xor .u64 af (IntKind.u64.wrap (ac + aa))))))))) = some (r1, r2, r3, r4) := H;have A5 := am aU;clear aU;replace H := Option.bind_eq_some_iff.mp H;obtain ⟨ai, aV, H⟩ := H;replace H : ((bits_RotateLeft64.f (IntKind.u64.wrap ((IntKind.u64.wrap (ac + aa)) + (Go.bits .xor .u64 ag (IntKind.u64.wrap (ae + ad))))) 32).bind fun aj => (some (IntKind.u64.wrap (ah + (Go.bits .xor .u64 af (IntKind.u64.wrap (ac + aa)))), Go.bits .xor .u64 ai (IntKind.u64.wrap ((IntKind.u64.wrap (ac + aa)) + (Go.bits .xor .u64 ag (IntKind.u64.wrap (ae + ad))))), aj, Go.bits .xor .u64 an (IntKind.u64.wrap (ah + (Go.bits .xor .u64 af (IntKind.u64.wrap (ac + aa)))))))) = some (r1, r2, r3, r4) := H;have A6 := am aV;clear aV;replace H := Option.bind_eq_some_iff.mp H;obtain ⟨aj, aW, H⟩ := H;replace H : (some (IntKind.u64.wrap (ah + (Go.bits .xor .u64 af (IntKind.u64.wrap (ac + aa)))), Go.bits .xor .u64 ai (IntKind.u64.wrap ((IntKind.u64.wrap (ac + aa)) + (Go.bits .xor .u64 ag (IntKind.u64.wrap (ae + ad))))), aj, Go.bits .xor .u64 an (IntKind.u64.wrap (ah + (Go.bits .xor .u64 af (IntKind.u64.wrap (ac + aa))))))) = some (r1, r2, r3, r4) := H;have A7 := am aW;clear aW
  simp only [Option.some.injEq, Prod.mk.injEq] at H
  obtain ⟨rfl, rfl, rfl, rfl⟩ := H
  go_enter Try.func57, Try.ntmps57
  go_wp2_with (first | ((with_reducible refine gate_dst (N := 1) rfl ?_); refine be 1 #[.int .u64 ae, .int .u64 ad, .int .u64 ac, .int .u64 aa] 75 ?_; intro aK hg w8 hbox hb; have ak := am (hbox); have aL := gq hg HB; have aM := gq hg HB; replace HB := lb HB hb; clear hb hbox hg) | ((with_reducible refine gate_dst (N := 2) rfl ?_); refine be 2 #[.int .u64 0, .int .u64 0, .int .u64 0, .int .u64 0] 75 ?_; intro aJ hg w9 hbox hb; have ao := am (hbox); have aN := gq hg HB; have aO := gq hg HB; replace HB := lb HB hb; obtain ⟨ap, aq, aP, aQ⟩ := pm hg ak; replace ak := kb ak hb; clear hb hbox hg; obtain ⟨ar, au, av, aw, ax, ay, az, aA⟩ := g4 ak) | (go_at_call 61; (with_reducible refine (bits_RotateLeft64.calls ad 13 ag _ A2.out).mono ?_); rintro e w' ⟨rfl, ⟨nd, rfl⟩⟩; (try first | exact ⟨rfl, _, World.drewN_drewN _ _ _⟩ | exact ⟨rfl, _, Eq.trans (World.drewN_drewN _ _ _) (congrArg (World.drewN _) (Nat.add_assoc _ _ _))⟩)) | (go_at_call 61; (with_reducible refine (bits_RotateLeft64.calls (IntKind.u64.wrap (ae + ad)) 32 ah _ A3.out).mono ?_); rintro e w' ⟨rfl, ⟨nd, rfl⟩⟩; (try first | exact ⟨rfl, _, World.drewN_drewN _ _ _⟩ | exact ⟨rfl, _, Eq.trans (World.drewN_drewN _ _ _) (congrArg (World.drewN _) (Nat.add_assoc _ _ _))⟩)) | (go_at_call 61; (with_reducible refine (bits_RotateLeft64.calls aa 16 af _ A4.out).mono ?_); rintro e w' ⟨rfl, ⟨nd, rfl⟩⟩; (try first | exact ⟨rfl, _, World.drewN_drewN _ _ _⟩ | exact ⟨rfl, _, Eq.trans (World.drewN_drewN _ _ _) (congrArg (World.drewN _) (Nat.add_assoc _ _ _))⟩)) | (go_at_call 61; (with_reducible refine (bits_RotateLeft64.calls (Go.bits .xor .u64 af (IntKind.u64.wrap (ac + aa))) 21 an _ A5.out).mono ?_); rintro e w' ⟨rfl, ⟨nd, rfl⟩⟩; (try first | exact ⟨rfl, _, World.drewN_drewN _ _ _⟩ | exact ⟨rfl, _, Eq.trans (World.drewN_drewN _ _ _) (congrArg (World.drewN _) (Nat.add_assoc _ _ _))⟩)) | (go_at_call 61; (with_reducible refine (bits_RotateLeft64.calls (Go.bits .xor .u64 ag (IntKind.u64.wrap (ae + ad))) 17 ai _ A6.out).mono ?_); rintro e w' ⟨rfl, ⟨nd, rfl⟩⟩; (try first | exact ⟨rfl, _, World.drewN_drewN _ _ _⟩ | exact ⟨rfl, _, Eq.trans (World.drewN_drewN _ _ _) (congrArg (World.drewN _) (Nat.add_assoc _ _ _))⟩)) | (go_at_call 61; (with_reducible refine (bits_RotateLeft64.calls (IntKind.u64.wrap ((IntKind.u64.wrap (ac + aa)) + (Go.bits .xor .u64 ag (IntKind.u64.wrap (ae + ad))))) 32 aj _ A7.out).mono ?_); rintro e w' ⟨rfl, ⟨nd, rfl⟩⟩; (try first | exact ⟨rfl, _, World.drewN_drewN _ _ _⟩ | exact ⟨rfl, _, Eq.trans (World.drewN_drewN _ _ _) (congrArg (World.drewN _) (Nat.add_assoc _ _ _))⟩); obtain ⟨aB, aC, aD, aE, aF, aG, aH, aI⟩ := g4 ao))
  repeat (go_quiet (first | ((with_reducible refine gate_dst (N := 1) rfl ?_); refine be 1 #[.int .u64 ae, .int .u64 ad, .int .u64 ac, .int .u64 aa] 75 ?_; intro aK hg w8 hbox hb; have ak := am (hbox); have aL := gq hg HB; have aM := gq hg HB; replace HB := lb HB hb; clear hb hbox hg) | ((with_reducible refine gate_dst (N := 2) rfl ?_); refine be 2 #[.int .u64 0, .int .u64 0, .int .u64 0, .int .u64 0] 75 ?_; intro aJ hg w9 hbox hb; have ao := am (hbox); have aN := gq hg HB; have aO := gq hg HB; replace HB := lb HB hb; obtain ⟨ap, aq, aP, aQ⟩ := pm hg ak; replace ak := kb ak hb; clear hb hbox hg; obtain ⟨ar, au, av, aw, ax, ay, az, aA⟩ := g4 ak) | (go_at_call 61; (with_reducible refine (bits_RotateLeft64.calls ad 13 ag _ A2.out).mono ?_); rintro e w' ⟨rfl, ⟨nd, rfl⟩⟩; (try first | exact ⟨rfl, _, World.drewN_drewN _ _ _⟩ | exact ⟨rfl, _, Eq.trans (World.drewN_drewN _ _ _) (congrArg (World.drewN _) (Nat.add_assoc _ _ _))⟩)) | (go_at_call 61; (with_reducible refine (bits_RotateLeft64.calls (IntKind.u64.wrap (ae + ad)) 32 ah _ A3.out).mono ?_); rintro e w' ⟨rfl, ⟨nd, rfl⟩⟩; (try first | exact ⟨rfl, _, World.drewN_drewN _ _ _⟩ | exact ⟨rfl, _, Eq.trans (World.drewN_drewN _ _ _) (congrArg (World.drewN _) (Nat.add_assoc _ _ _))⟩)) | (go_at_call 61; (with_reducible refine (bits_RotateLeft64.calls aa 16 af _ A4.out).mono ?_); rintro e w' ⟨rfl, ⟨nd, rfl⟩⟩; (try first | exact ⟨rfl, _, World.drewN_drewN _ _ _⟩ | exact ⟨rfl, _, Eq.trans (World.drewN_drewN _ _ _) (congrArg (World.drewN _) (Nat.add_assoc _ _ _))⟩)) | (go_at_call 61; (with_reducible refine (bits_RotateLeft64.calls (Go.bits .xor .u64 af (IntKind.u64.wrap (ac + aa))) 21 an _ A5.out).mono ?_); rintro e w' ⟨rfl, ⟨nd, rfl⟩⟩; (try first | exact ⟨rfl, _, World.drewN_drewN _ _ _⟩ | exact ⟨rfl, _, Eq.trans (World.drewN_drewN _ _ _) (congrArg (World.drewN _) (Nat.add_assoc _ _ _))⟩)) | (go_at_call 61; (with_reducible refine (bits_RotateLeft64.calls (Go.bits .xor .u64 ag (IntKind.u64.wrap (ae + ad))) 17 ai _ A6.out).mono ?_); rintro e w' ⟨rfl, ⟨nd, rfl⟩⟩; (try first | exact ⟨rfl, _, World.drewN_drewN _ _ _⟩ | exact ⟨rfl, _, Eq.trans (World.drewN_drewN _ _ _) (congrArg (World.drewN _) (Nat.add_assoc _ _ _))⟩)) | (go_at_call 61; (with_reducible refine (bits_RotateLeft64.calls (IntKind.u64.wrap ((IntKind.u64.wrap (ac + aa)) + (Go.bits .xor .u64 ag (IntKind.u64.wrap (ae + ad))))) 32 aj _ A7.out).mono ?_); rintro e w' ⟨rfl, ⟨nd, rfl⟩⟩; (try first | exact ⟨rfl, _, World.drewN_drewN _ _ _⟩ | exact ⟨rfl, _, Eq.trans (World.drewN_drewN _ _ _) (congrArg (World.drewN _) (Nat.add_assoc _ _ _))⟩); obtain ⟨aB, aC, aD, aE, aF, aG, aH, aI⟩ := g4 ao)); try go_wp2_with (first | ((with_reducible refine gate_dst (N := 1) rfl ?_); refine be 1 #[.int .u64 ae, .int .u64 ad, .int .u64 ac, .int .u64 aa] 75 ?_; intro aK hg w8 hbox hb; have ak := am (hbox); have aL := gq hg HB; have aM := gq hg HB; replace HB := lb HB hb; clear hb hbox hg) | ((with_reducible refine gate_dst (N := 2) rfl ?_); refine be 2 #[.int .u64 0, .int .u64 0, .int .u64 0, .int .u64 0] 75 ?_; intro aJ hg w9 hbox hb; have ao := am (hbox); have aN := gq hg HB; have aO := gq hg HB; replace HB := lb HB hb; obtain ⟨ap, aq, aP, aQ⟩ := pm hg ak; replace ak := kb ak hb; clear hb hbox hg; obtain ⟨ar, au, av, aw, ax, ay, az, aA⟩ := g4 ak) | (go_at_call 61; (with_reducible refine (bits_RotateLeft64.calls ad 13 ag _ A2.out).mono ?_); rintro e w' ⟨rfl, ⟨nd, rfl⟩⟩; (try first | exact ⟨rfl, _, World.drewN_drewN _ _ _⟩ | exact ⟨rfl, _, Eq.trans (World.drewN_drewN _ _ _) (congrArg (World.drewN _) (Nat.add_assoc _ _ _))⟩)) | (go_at_call 61; (with_reducible refine (bits_RotateLeft64.calls (IntKind.u64.wrap (ae + ad)) 32 ah _ A3.out).mono ?_); rintro e w' ⟨rfl, ⟨nd, rfl⟩⟩; (try first | exact ⟨rfl, _, World.drewN_drewN _ _ _⟩ | exact ⟨rfl, _, Eq.trans (World.drewN_drewN _ _ _) (congrArg (World.drewN _) (Nat.add_assoc _ _ _))⟩)) | (go_at_call 61; (with_reducible refine (bits_RotateLeft64.calls aa 16 af _ A4.out).mono ?_); rintro e w' ⟨rfl, ⟨nd, rfl⟩⟩; (try first | exact ⟨rfl, _, World.drewN_drewN _ _ _⟩ | exact ⟨rfl, _, Eq.trans (World.drewN_drewN _ _ _) (congrArg (World.drewN _) (Nat.add_assoc _ _ _))⟩)) | (go_at_call 61; (with_reducible refine (bits_RotateLeft64.calls (Go.bits .xor .u64 af (IntKind.u64.wrap (ac + aa))) 21 an _ A5.out).mono ?_); rintro e w' ⟨rfl, ⟨nd, rfl⟩⟩; (try first | exact ⟨rfl, _, World.drewN_drewN _ _ _⟩ | exact ⟨rfl, _, Eq.trans (World.drewN_drewN _ _ _) (congrArg (World.drewN _) (Nat.add_assoc _ _ _))⟩)) | (go_at_call 61; (with_reducible refine (bits_RotateLeft64.calls (Go.bits .xor .u64 ag (IntKind.u64.wrap (ae + ad))) 17 ai _ A6.out).mono ?_); rintro e w' ⟨rfl, ⟨nd, rfl⟩⟩; (try first | exact ⟨rfl, _, World.drewN_drewN _ _ _⟩ | exact ⟨rfl, _, Eq.trans (World.drewN_drewN _ _ _) (congrArg (World.drewN _) (Nat.add_assoc _ _ _))⟩)) | (go_at_call 61; (with_reducible refine (bits_RotateLeft64.calls (IntKind.u64.wrap ((IntKind.u64.wrap (ac + aa)) + (Go.bits .xor .u64 ag (IntKind.u64.wrap (ae + ad))))) 32 aj _ A7.out).mono ?_); rintro e w' ⟨rfl, ⟨nd, rfl⟩⟩; (try first | exact ⟨rfl, _, World.drewN_drewN _ _ _⟩ | exact ⟨rfl, _, Eq.trans (World.drewN_drewN _ _ _) (congrArg (World.drewN _) (Nat.add_assoc _ _ _))⟩); obtain ⟨aB, aC, aD, aE, aF, aG, aH, aI⟩ := g4 ao)))
  refine bodyPost_ret (results_cell_row rfl _ _ aJ 75 #[.int .u64 (IntKind.u64.wrap (ah + (Go.bits .xor .u64 af (IntKind.u64.wrap (ac + aa))))), .int .u64 (Go.bits .xor .u64 ai (IntKind.u64.wrap ((IntKind.u64.wrap (ac + aa)) + (Go.bits .xor .u64 ag (IntKind.u64.wrap (ae + ad)))))), .int .u64 aj, .int .u64 (Go.bits .xor .u64 an (IntKind.u64.wrap (ah + (Go.bits .xor .u64 af (IntKind.u64.wrap (ac + aa))))))] (0, 0) _ rfl (by refine pk ?_; refine blk_put (cs := #[.int .u64 (IntKind.u64.wrap (ah + (Go.bits .xor .u64 af (IntKind.u64.wrap (ac + aa))))), .int .u64 (Go.bits .xor .u64 ai (IntKind.u64.wrap ((IntKind.u64.wrap (ac + aa)) + (Go.bits .xor .u64 ag (IntKind.u64.wrap (ae + ad)))))), .int .u64 aj, .int .u64 0]) ?_ 3 _ rfl; refine pk ?_; refine blk_put (cs := #[.int .u64 (IntKind.u64.wrap (ah + (Go.bits .xor .u64 af (IntKind.u64.wrap (ac + aa))))), .int .u64 (Go.bits .xor .u64 ai (IntKind.u64.wrap ((IntKind.u64.wrap (ac + aa)) + (Go.bits .xor .u64 ag (IntKind.u64.wrap (ae + ad)))))), .int .u64 0, .int .u64 0]) ?_ 2 _ rfl; refine pk ?_; refine blk_put (cs := #[.int .u64 (IntKind.u64.wrap (ah + (Go.bits .xor .u64 af (IntKind.u64.wrap (ac + aa))))), .int .u64 0, .int .u64 0, .int .u64 0]) ?_ 1 _ rfl; refine pk ?_; refine blk_put (cs := #[.int .u64 0, .int .u64 0, .int .u64 0, .int .u64 0]) ?_ 0 _ rfl; refine pk ?_; exact ao.out) Try.underlying75 rfl (by kernel_rfl)) rfl ?_
  exact ⟨by first | rfl | (simp [errW_none, errW_some] <;> rfl) | (simp [*, errW_none, errW_some] <;> rfl), pb HB⟩

def sip_take.f (a0_0 : Int) (a0_1 : Int) (a0_2 : Int) (a0_3 : Int) (a1 : Int) : Option (Int × Int × Int × Int) := (sip_turn.f a0_0 a0_1 a0_2 (Go.bits .xor .u64 a0_3 a1)).bind fun bt126 => ((sip_turn.f bt126.1 bt126.2.1 bt126.2.2.1 bt126.2.2.2).bind fun bt130 => (some (Go.bits .xor .u64 bt130.1 a1, bt130.2.1, bt130.2.2.1, bt130.2.2.2)))
set_option maxHeartbeats 8000000 in
set_option maxRecDepth 100000 in
theorem sip_take.calls (ad : Int) (ae : Int) (af : Int) (ag : Int) (a1 : Int) (r1 : Int) (r2 : Int) (r3 : Int) (r4 : Int) (w : World) (h : sip_take.f ad ae af ag a1 = some (r1, r2, r3, r4)) :
    Calls Try.prog 55 #[.agg #[.int .u64 ad, .int .u64 ae, .int .u64 af, .int .u64 ag], .int .u64 a1] w fun e w' => e = .returned (.agg #[.int .u64 r1, .int .u64 r2, .int .u64 r3, .int .u64 r4]) ∧ Below w.heap.size w w' := by
  have hu75 := Try.underlying75;have HB := am (Below.refl w.heap.size w);have H : ((sip_turn.f ad ae af (Go.bits .xor .u64 ag a1)).bind fun bt126 => ((sip_turn.f bt126.1 bt126.2.1 bt126.2.2.1 bt126.2.2.2).bind fun bt130 => (some (Go.bits .xor .u64 bt130.1 a1, bt130.2.1, bt130.2.2.1, bt130.2.2.2)))) = some (r1, r2, r3, r4) := h;clear h;replace H := Option.bind_eq_some_iff.mp H;obtain ⟨⟨ak, an, ao, ap⟩, aw, H⟩ := H;replace H : ((sip_turn.f ak an ao ap).bind fun bt130 => (some (Go.bits .xor .u64 bt130.1 a1, bt130.2.1, bt130.2.2.1, bt130.2.2.2))) = some (r1, r2, r3, r4) := H;have A3 := am aw;clear aw;replace H := Option.bind_eq_some_iff.mp H;obtain ⟨⟨ai, aj, aq, ar⟩, ax, H⟩ := H;replace H : (some (Go.bits .xor .u64 ai a1, aj, aq, ar)) = some (r1, r2, r3, r4) := H;have A4 := am ax;clear ax
  simp only [Option.some.injEq, Prod.mk.injEq] at H
  obtain ⟨rfl, rfl, rfl, rfl⟩ := H
  go_enter Try.func55, Try.ntmps55
  go_wp2_with (first | ((with_reducible refine gate_dst (N := 2) rfl ?_); refine be 2 #[.int .u64 ad, .int .u64 ae, .int .u64 af, .int .u64 ag] 75 ?_; intro av hg w5 hbox hb; have ac := am (hbox); have aX := gq hg HB; have aY := gq hg HB; replace HB := lb HB hb; clear hb hbox hg) | ((with_reducible refine gate_dst (N := 4) rfl ?_); refine be 4 #[.int .u64 0, .int .u64 0, .int .u64 0, .int .u64 0] 75 ?_; intro au hg w6 hbox hb; have ah := am (hbox); have aZ := gq hg HB; have a0 := gq hg HB; replace HB := lb HB hb; obtain ⟨ay, aa, a2, a3⟩ := pm hg ac; replace ac := kb ac hb; clear hb hbox hg; obtain ⟨aP, aQ, aR, aS, aT, aU, aV, aW⟩ := g4 ac) | ((with_reducible refine gate_callee (f := 57) rfl ?_); refine gl (some 11) Try.func57 #[.agg #[.int .u64 ad, .int .u64 ae, .int .u64 af, .int .u64 (Go.bits .xor .u64 ag a1)]] ?_; (with_reducible refine (sip_turn.calls ad ae af (Go.bits .xor .u64 ag a1) ak an ao ap _ A3.out).mono ?_); rintro e w9 ⟨rfl, hb⟩; refine ⟨_, rfl, ?_⟩; replace ac := am (blk_below (g := av) (o := .cells #[.int .u64 ad, .int .u64 ae, .int .u64 af, .int .u64 (Go.bits .xor .u64 ag a1)] 75 (0, 0)) (by refine pk ?_; refine blk_put (cs := #[.int .u64 ad, .int .u64 ae, .int .u64 af, .int .u64 ag]) ?_ 3 _ rfl; refine pk ?_; exact ac.out) hb); replace ah := am (blk_below (g := au) (o := .cells #[.int .u64 0, .int .u64 0, .int .u64 0, .int .u64 0] 75 (0, 0)) (by refine pk ?_; refine blk_far ?_ aa.out _; refine pk ?_; exact ah.out) hb); replace HB := lb HB hb; (try clear hb); (try clear hb2); (try clear hk); (try clear hi)) | ((with_reducible refine gate_callee (f := 57) rfl ?_); refine gl (some 12) Try.func57 #[.agg #[.int .u64 ak, .int .u64 an, .int .u64 ao, .int .u64 ap]] ?_; (with_reducible refine (sip_turn.calls ak an ao ap ai aj aq ar _ A4.out).mono ?_); rintro e a4 ⟨rfl, hb⟩; refine ⟨_, rfl, ?_⟩; replace ac := kb ac hb; replace ah := kb ah hb; replace HB := lb HB hb; (try clear hb); (try clear hb2); (try clear hk); (try clear hi); obtain ⟨az, aA, aB, aC, aD, aE, aF, aG⟩ := g4 ac; obtain ⟨aH, aI, aJ, aK, aL, aM, aN, aO⟩ := g4 ah))
  refine bodyPost_ret (results_cell_row rfl _ _ au 75 #[.int .u64 (Go.bits .xor .u64 ai a1), .int .u64 aj, .int .u64 aq, .int .u64 ar] (0, 0) _ rfl (by refine pk ?_; refine blk_put (cs := #[.int .u64 (Go.bits .xor .u64 ai a1), .int .u64 aj, .int .u64 aq, .int .u64 0]) ?_ 3 _ rfl; refine pk ?_; refine blk_put (cs := #[.int .u64 (Go.bits .xor .u64 ai a1), .int .u64 aj, .int .u64 0, .int .u64 0]) ?_ 2 _ rfl; refine pk ?_; refine blk_put (cs := #[.int .u64 (Go.bits .xor .u64 ai a1), .int .u64 0, .int .u64 0, .int .u64 0]) ?_ 1 _ rfl; refine pk ?_; refine blk_put (cs := #[.int .u64 0, .int .u64 0, .int .u64 0, .int .u64 0]) ?_ 0 _ rfl; refine pk ?_; refine blk_far ?_ aa.out _; refine pk ?_; refine blk_far ?_ aa.out _; refine pk ?_; refine blk_far ?_ aa.out _; refine pk ?_; refine blk_far ?_ aa.out _; refine pk ?_; refine blk_far ?_ aa.out _; refine pk ?_; exact ah.out) Try.underlying75 rfl (by kernel_rfl)) rfl ?_
  exact ⟨by first | rfl | (simp [errW_none, errW_some] <;> rfl) | (simp [*, errW_none, errW_some] <;> rfl), pb HB⟩

def sip_number.l0 : Nat → ByteArray → Int → Int → Int → Option (Int)
  | 0, _, _, _, _ => none
  | k + 1, x0, x2, x5, x6 => if x6 < x5 then (if 0 ≤ x6 then (if x6 < (x0.size : Int) then (if 0 ≤ (wrap64 (8 * x6)) then (sip_number.l0 k x0 (Go.bits .or .u64 x2 (shl .u64 (IntKind.u64.wrap (bt x0 x6)) (wrap64 (8 * x6)))) x5 (wrap64 (x6 + 1))) else (none)) else (none)) else (none)) else (some x2)
def sip_number.f (k : Nat) (a0 : ByteArray) : Option (Int) := sip_number.l0 k a0 0 (a0.size : Int) 0
theorem sip_number.mono_l : ∀ k, (∀ y0 y1 y2 y3, LeO (sip_number.l0 k y0 y1 y2 y3) (sip_number.l0 (k + 1) y0 y1 y2 y3))
  | 0 => fun _ _ _ _ r h => by simp [sip_number.l0] at h
  | k + 1 => by
    have ih0 := sip_number.mono_l k
    · intro y0 y1 y2 y3
      unfold sip_number.l0
      repeat' first
      | (with_reducible exact ih0 _ _ _ _)
      | (with_reducible exact LeO.refl _)
      | (with_reducible exact LeO.none _)
      | (with_reducible refine LeO.ite ?_ ?_)
      | (with_reducible refine LeO.bind ?_ (fun _ => ?_))
theorem sip_number.mono : ∀ a0 k, LeO (sip_number.f k a0) (sip_number.f (k + 1) a0) := by
  intro a0 k
  have ih0 := sip_number.mono_l k
  unfold sip_number.f
  repeat' first
      | (with_reducible exact ih0 _ _ _ _)
      | (with_reducible exact LeO.refl _)
      | (with_reducible exact LeO.none _)
      | (with_reducible refine LeO.ite ?_ ?_)
      | (with_reducible refine LeO.bind ?_ (fun _ => ?_))
set_option maxHeartbeats 8000000 in
set_option maxRecDepth 100000 in
theorem sip_number.calls (k : Nat) (a0 : ByteArray) (r : Int) (w : World) (h : sip_number.f k a0 = some r) :
    Calls Try.prog 56 #[.string a0] w fun e w' => e = .returned (.int .u64 r) ∧ Drawn0 w w' := by
  have H : (sip_number.l0 k a0 0 (a0.size : Int) 0) = some r := h;clear h;have H' := am H;clear H
  go_enter Try.func56, Try.ntmps56
  go_wp2
  go_loopg [2, 6] k (fun kq v2 v6 w' => ∃ (ad : Int) (aa : Int), v2 = .int .u64 ad ∧ v6 = .int .i64 aa ∧ Aside0 (sip_number.l0 kq a0 ad (a0.size : Int) aa = some r) ∧ Aside0 (kq ≤ k) ∧ Drawn0 w w')
  case atStart => exact ⟨(0), (0), (by first | rfl | (simp; done) | (simp [*]; done)), (by first | rfl | (simp; done) | (simp [*]; done)), H', ⟨Nat.le_refl _⟩, by repeat (first | exact Drawn0.refl _ | apply Drawn0.step)⟩
  case round =>
    clear H';obtain ⟨ad, aa, rfl, rfl, HA, HK1, ⟨m1, rfl⟩⟩ := hrel
    cases gk with
    | zero => exact absurd HA.out (by simp [sip_number.l0])
    | succ k1 =>
      have H := HA.out;clear HA
      simp only [sip_number.l0] at H
      by_cases c2 : aa < (a0.size : Int)
      · rw [if_pos c2] at H
        have af : decide (aa < (a0.size : Int)) = true := decide_eq_true c2;clear c2
        by_cases c3 : 0 ≤ aa
        · rw [if_pos c3] at H
          have ag : decide (0 ≤ aa) = true := decide_eq_true c3;clear c3
          by_cases c4 : aa < (a0.size : Int)
          · rw [if_pos c4] at H
            have ah : decide (aa < (a0.size : Int)) = true := decide_eq_true c4;clear c4;obtain ⟨ac, hji6⟩ : ∃ j_ : Int, (wrap64 (8 * aa)) = j_ := ⟨_, rfl⟩
            replace H : (if 0 ≤ (ac) then (sip_number.l0 k1 a0 (Go.bits .or .u64 ad (shl .u64 (IntKind.u64.wrap (bt a0 aa)) (ac))) (a0.size : Int) (wrap64 (aa + 1))) else (none)) = some r := by first | (rw [hji6] at H; exact H) | (simp only [hji6] at H ⊢; exact H)
            have hji6w : (IntKind.i64.wrap (8 * aa)) = ac := (i64_w _).trans hji6
            by_cases c7 : 0 ≤ (ac)
            · rw [if_pos c7] at H
              have ai := eq_true c7;have aj : decide (0 ≤ (ac)) = true := decide_eq_true c7;clear c7;obtain ⟨ae, hji8⟩ : ∃ j_ : Int, (shl .u64 (IntKind.u64.wrap (bt a0 aa)) (ac)) = j_ := ⟨_, rfl⟩
              replace H : (sip_number.l0 k1 a0 (Go.bits .or .u64 ad (ae)) (a0.size : Int) (wrap64 (aa + 1))) = some r := by first | (rw [hji8] at H; exact H) | (simp only [hji8] at H ⊢; exact H)
              have hji8_ : (IntKind.u64.wrap ((IntKind.u64.wrap (bt a0 aa)) * 2 ^ min (ac).toNat 64)) = ae := hji8;have hji8z : (ac) ≤ 64 → (IntKind.u64.wrap ((IntKind.u64.wrap (bt a0 aa)) * 2 ^ (ac).toNat)) = ae := shl_small hji8;have H' := am H;clear H;have p5 : 0 ≤ (aa : Int) := of_decide_eq_true (by first | (with_reducible assumption) | assumption);have q5 : aa < (a0.size : Int) := of_decide_eq_true (by first | (with_reducible assumption) | assumption);have ak := bt_at a0 aa;replace p5 := eq_true p5;replace q5 := eq_true q5
              go_wp2
              go_roundg k1
              case measure => have := HK1.out; omega
              case rel => exact ⟨(Go.bits .or .u64 ad (ae)), (wrap64 (aa + 1)), (by first | rfl | (simp; done) | (simp only [← hji8] <;> (first | rfl | (simp; done) | (simp [show ∀ j_ : Int, shl .u64 0 j_ = 0 from fun j_ => by unfold shl; rw [Int.zero_mul]; decide]; done))) | (simp [*]; done)), (by first | rfl | (simp; done) | (simp [*]; done)), H', ⟨by have := HK1.out; omega⟩, by repeat (first | exact Drawn0.refl _ | apply Drawn0.step)⟩
            · rw [if_neg c7] at H
              exact absurd H (by simp)
          · rw [if_neg c4] at H
            exact absurd H (by simp)
        · rw [if_neg c3] at H
          exact absurd H (by simp)
      · rw [if_neg c2] at H
        have af : decide (aa < (a0.size : Int)) = false := decide_eq_false c2;clear c2;obtain rfl := Option.some.inj H
        go_wp2
        go_ret
        exact ⟨by first | rfl | (simp; done) | (simp [*]; done), by repeat (first | exact Drawn0.refl _ | apply Drawn0.step)⟩
end Go.Proofs.Ytmfffbafldbihaa.H
