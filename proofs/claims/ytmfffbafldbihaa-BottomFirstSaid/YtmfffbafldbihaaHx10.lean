import Derived.Test.YtmfffbafldbihaaHx0
import Derived.Test.YtmfffbafldbihaaHx4
namespace Go.Proofs.Ytmfffbafldbihaa.H
open Go.RowKit Go.Proofs.YtmfffbafldbihaaW.PrintWords Go.Proofs.YtmfffbafldbihaaW.PrintLast Go.Proofs.YtmfffbafldbihaaW.PrintMore Go.Proofs.YtmfffbafldbihaaW.Sq
attribute [local go_sem] max2_int min2_int max_two min_two max_three min_three max_four min_four
set_option linter.unusedVariables false
set_option linter.unusedSimpArgs false



def wrapsOne (k : Nat) (la : List S62) (x : S62) : Option Bool :=
 if la.length < 1000000 then
  (bsT (fun y => bottom_compare.f k y.f0 y.f1 y.f2.f0 y.f2.f1 x.f0 x.f1 x.f2.f0 x.f2.f1) la z62).bind fun q =>
   if q.2 = true then (if 0 ≤ q.1 ∧ q.1 < la.length then (wide_Add.f (rd_T62 la q.1).f2.f0 (rd_T62 la q.1).f2.f1 x.f2.f0 x.f2.f1).bind fun n => some (!n.2.2) else none) else some false
 else none
theorem wrapsOne_leo (k : Nat) (la : List S62) (x : S62) : LeO (wrapsOne k la x) (wrapsOne (k + 1) la x) :=
 LeO.ite (LeO.bind (bsT_leo (fun y => bottom_compare.mono _ _ _ _ _ _ _ _ k) _ _) (fun _ => LeO.refl _)) (LeO.refl _)
set_option maxHeartbeats 4000000 in
set_option maxRecDepth 100000 in
theorem closureWraps (k : Nat) (la : List S62) (A : Option Addr) (c : Nat) (B : Nat) (x : S62) (r : Bool) (w : World) (hB : w.cell? ⟨B, 3, none⟩ = some (.slice A la.length c)) (hc : la.length ≤ c) (hC : Kd.C k62 w A la.length la) (h : wrapsOne k la x = some r) :
  Calls Try.prog 36 #[.agg #[.string x.f0, .int .u64 x.f1, .int .u64 x.f2.f0, .int .u64 x.f2.f1], .pointer (some ⟨B, 0, none⟩)] w fun e w' => e = .returned (.bool r) ∧ Below w.heap.size w w' := by
 have hu62 := Try.underlying62;have hu50 := Try.underlying50;have hlt : B < w.heap.size := World.block_lt_of_cell? w _ hB
 unfold wrapsOne at h
 split at h
 case isFalse => cases h
 case isTrue hlen =>
 obtain ⟨q, hq, h⟩ := Option.bind_eq_some_iff.1 h;obtain ⟨i, found⟩ := q;have HQ := am hq;have HH := am h;have HB := am hB;have HC := am hC;clear hq h hB hC;have eg : ∀ args w, (callFunc 33 args).run Try.prog w = .ok (.enter 33 args) w := enter_at Try.func33 (by kernel_rfl) rfl
 have hB2 : ∀ o, (w.alloc o).cell? ⟨B, 3, none⟩ = some (.slice A la.length c) := fun o => pw_cell_below (below_alloc (Below.refl _ _) o) HB.out
 go_enter Try.func36, Try.ntmps36
 go_wp2_with fail
 refine (BinarySearchFunc_calls 33 #[] eg (fun y => bottom_compare.f k y.f0 y.f1 y.f2.f0 y.f2.f1 x.f0 x.f1 x.f2.f0 x.f2.f1) x.f0 x.f1 x.f2.f0 x.f2.f1 A c la i found _ (Kd.C_below HC.out (below_alloc (Below.refl _ _) _)) hc (by omega) (fun W y c _ hc => by simpa using bottom_compare.calls k _ _ _ _ _ _ _ _ c W hc) HQ.out).mono ?_
 rintro e w2 ⟨rfl, hb2⟩
 have C0 := am (blk_below (g := w.heap.size) (o := .cells #[.string x.f0, .int .u64 x.f1, .int .u64 x.f2.f0, .int .u64 x.f2.f1] 62 (0, 0)) (blk_new _ _) hb2);have HB2 := am (below_step (below_alloc (Below.refl _ _) _) hb2);have y0 := am (pw_cell_below HB2.out HB.out);have hs2 := HB2.out.size;have HC2 := am (Kd.C_below HC.out HB2.out);clear hb2 hB2 HB HC HQ
 cases found with
 | false =>
  have h := HH.out;clear HH;rw [if_neg (by decide)] at h;obtain rfl := Option.some.inj h
  go_wp2
  go_ret
  exact ⟨rfl, HB2.out⟩
 | true =>
  have h := HH.out;clear HH;rw [if_pos rfl] at h
  split at h
  case isFalse => cases h
  case isTrue hi =>
  obtain ⟨j, rfl⟩ := Int.eq_ofNat_of_zero_le hi.1
  have hj : j < la.length := by have := hi.2; omega
  clear hi;obtain ⟨n, hn, h⟩ := Option.bind_eq_some_iff.1 h;obtain ⟨n1, n2, n3⟩ := n;obtain ⟨y, hy⟩ : ∃ y, y = rd_T62 la (j : Int) := ⟨_, rfl⟩;obtain ⟨ad, e, hx0, hx1, hx2, hx3⟩ := at_T62 HC2.out (j : Int) (by omega) (by omega);rw [← hy] at hn hx2 hx3;obtain rfl := Option.some.inj h;have HN := am hn;clear h hn hy hx0 hx1;cases e;rw [Int.toNat_natCast] at hx2 hx3;have y1 := am hx2;have y2 : Aside0 (w2.cell? ⟨(ad.add (j * 4)).block, (ad.add (j * 4)).off + 2 + 1, none⟩ = some (.int .u64 y.f2.f1)) := ⟨hx3⟩;have y3 : Aside0 (w2.cell? ⟨w.heap.size, 2, none⟩ = some (.int .u64 x.f2.f0)) := ⟨blk_cell C0.out 2⟩;have y4 : Aside0 (w2.cell? ⟨w.heap.size, 3, none⟩ = some (.int .u64 x.f2.f1)) := ⟨blk_cell C0.out 3⟩;clear hx2 hx3 HC2 C0;have HBB := am (Below.refl w2.heap.size w2)
  have d1 : (0 : Int) ≤ (j : Int) := by omega
  have d2 : (j : Int) < (la.length : Int) := by omega
  go_wp2_with fail
  refine start_ (n := 15) (S := fun w' => w'.cell? ⟨B, 3, none⟩ = some (.slice (some ad) la.length c) ∧ w'.cell? ⟨(ad.add (j * 4)).block, (ad.add (j * 4)).off + 2, none⟩ = some (.int .u64 y.f2.f0) ∧ w'.cell? ⟨(ad.add (j * 4)).block, (ad.add (j * 4)).off + 2 + 1, none⟩ = some (.int .u64 y.f2.f1) ∧ w'.cell? ⟨w.heap.size, 2, none⟩ = some (.int .u64 x.f2.f0) ∧ w'.cell? ⟨w.heap.size, 3, none⟩ = some (.int .u64 x.f2.f1)) (ds := [13]) #[false, false, false, false, false, false, false, false, false, false, false, false, false, false, false] (by kernel_rfl) rfl rfl ⟨y0.out, y1.out, y2.out, y3.out, y4.out⟩ (fun hHeld => ?_)
  refine pure_ (i := 0) (N := some 18) (v := ?_) (a' := ?_) #[true, false, false, false, false, false, false, false, false, false, false, false, false, false, false] rfl rfl (by kernel_rfl) (fun _ _ _ h => h) (Or.inl ⟨by rfl, ?_⟩) ?_ ?_
  rotate_left
  ·intro w'
   go_simp
   with_reducible rfl
  rotate_left
  ·simp only [Act.put, List.setIfInBounds_toArray, List.set_cons_zero, List.set_cons_succ, i64_w, i32_w]
   rfl
  refine pure_ (i := 2) (N := some 20) (v := ?_) (a' := ?_) #[true, false, true, false, false, false, false, false, false, false, false, false, false, false, false] rfl rfl (by kernel_rfl) (fun _ _ _ h => h) (Or.inl ⟨by rfl, ?_⟩) ?_ ?_
  rotate_left
  ·intro w'
   go_simp
   with_reducible rfl
  rotate_left
  ·simp only [Act.put, List.setIfInBounds_toArray, List.set_cons_zero, List.set_cons_succ, i64_w, i32_w]
   rfl
  refine pure_ (i := 6) (N := some 24) (v := ?_) (a' := ?_) #[true, false, true, false, false, false, true, false, false, false, false, false, false, false, false] rfl rfl (by kernel_rfl) (fun _ _ _ h => h) (Or.inl ⟨by rfl, ?_⟩) ?_ ?_
  rotate_left
  ·intro w'
   go_simp
   with_reducible rfl
  rotate_left
  ·simp only [Act.put, List.setIfInBounds_toArray, List.set_cons_zero, List.set_cons_succ, i64_w, i32_w]
   rfl
  refine take_ (i := 1) (N := some 19) (v := ?_) (a' := ?_) #[true, true, true, false, false, false, true, false, false, false, false, false, false, false, false] rfl rfl (by kernel_rfl) (fun _ _ _ h => h) (Or.inl ⟨by rfl, ?_⟩) hHeld ?_ ?_
  rotate_left
  ·rintro w' ⟨s0, s1, s2, s3, s4⟩
   go_simp
   with_reducible rfl
  rotate_left
  ·simp only [Act.put, List.setIfInBounds_toArray, List.set_cons_zero, List.set_cons_succ, i64_w, i32_w]
   rfl
  refine pure_ (i := 3) (N := some 21) (v := ?_) (a' := ?_) #[true, true, true, true, false, false, true, false, false, false, false, false, false, false, false] rfl rfl (by kernel_rfl) (fun _ _ _ h => h) (Or.inl ⟨by rfl, ?_⟩) ?_ ?_
  rotate_left
  ·intro w'
   go_simp
   with_reducible rfl
  rotate_left
  ·simp only [Act.put, List.setIfInBounds_toArray, List.set_cons_zero, List.set_cons_succ, i64_w, i32_w]
   rfl
  refine pure_ (i := 4) (N := some 22) (v := ?_) (a' := ?_) #[true, true, true, true, true, false, true, false, false, false, false, false, false, false, false] rfl rfl (by kernel_rfl) (fun _ _ _ h => h) (Or.inl ⟨by rfl, ?_⟩) ?_ ?_
  rotate_left
  ·intro w'
   go_simp
   with_reducible rfl
  rotate_left
  ·simp only [Act.put, List.setIfInBounds_toArray, List.set_cons_zero, List.set_cons_succ, i64_w, i32_w]
   rfl
  refine take_ (i := 5) (N := some 23) (v := ?_) (a' := ?_) #[true, true, true, true, true, true, true, false, false, false, false, false, false, false, false] rfl rfl (by kernel_rfl) (fun _ _ _ h => h) (Or.inl ⟨by rfl, ?_⟩) hHeld ?_ ?_
  rotate_left
  ·rintro w' ⟨s0, s1, s2, s3, s4⟩
   go_simp
   with_reducible rfl
  rotate_left
  ·simp only [Act.put, List.setIfInBounds_toArray, List.set_cons_zero, List.set_cons_succ, i64_w, i32_w]
   rfl
  refine take_ (i := 7) (N := some 25) (v := ?_) (a' := ?_) #[true, true, true, true, true, true, true, true, false, false, false, false, false, false, false] rfl rfl (by kernel_rfl) (fun _ _ _ h => h) (Or.inl ⟨by rfl, ?_⟩) hHeld ?_ ?_
  rotate_left
  ·rintro w' ⟨s0, s1, s2, s3, s4⟩
   go_simp
   with_reducible rfl
  rotate_left
  ·simp only [Act.put, List.setIfInBounds_toArray, List.set_cons_zero, List.set_cons_succ, i64_w, i32_w]
   rfl
  refine join_ (σ := Nat) 2 #[true, true, true, true, true, true, true, true, true, true, true, true, true, false, false] (fun s_ => [(26, .tuple #[.agg #[.int .u64 n1, .int .u64 n2], .bool n3]), (17, .tuple #[.agg #[.int .u64 n1, .int .u64 n2], .bool n3]), (27, .agg #[.int .u64 n1, .int .u64 n2]), (28, .bool n3), (6, .pointer (some ⟨s_, 0, none⟩))]) (fun s_ w' => (w'.cell? ⟨B, 3, none⟩ = some (.slice (some ad) la.length c) ∧ w'.cell? ⟨(ad.add (j * 4)).block, (ad.add (j * 4)).off + 2, none⟩ = some (.int .u64 y.f2.f0) ∧ w'.cell? ⟨(ad.add (j * 4)).block, (ad.add (j * 4)).off + 2 + 1, none⟩ = some (.int .u64 y.f2.f1) ∧ w'.cell? ⟨w.heap.size, 2, none⟩ = some (.int .u64 x.f2.f0) ∧ w'.cell? ⟨w.heap.size, 3, none⟩ = some (.int .u64 x.f2.f1)) ∧ w'.heap[s_]? = some (.cells #[.int .u64 0, .int .u64 0] 50 (0, 0)) ∧ w2.heap.size ≤ s_ ∧ Below w2.heap.size w2 w') ?_ ?_
  rotate_left
  ·intro hCont
   refine two_ (i := 8) (j := 12) (Ni := some 26) (Nj := some 6) #[true, true, true, true, true, true, true, true, true, false, false, false, false, false, false] #[true, true, true, true, true, true, true, true, false, false, false, false, true, false, false] rfl rfl rfl rfl (by kernel_rfl) (by decide) (by decide) (fun K hK => ?_) (fun K hK => ?_)
   ·skip
    refine goes_ Try.func38 (by kernel_rfl) rfl #[.agg #[.int .u64 y.f2.f0, .int .u64 y.f2.f1], .agg #[.int .u64 x.f2.f0, .int .u64 x.f2.f1]] (by rfl) rfl rfl (by simp only [List.map_toArray, List.map_cons, List.map_nil]; rfl) ?_
    with_reducible refine (wide_Add.calls y.f2.f0 y.f2.f1 x.f2.f0 x.f2.f1 n1 n2 n3 _ HN.out).mono ?_
    rintro e w3 ⟨rfl, hb3⟩
    refine ⟨_, rfl, ?_⟩
    replace HBB := am (below_step (by repeat (first | (with_reducible first | exact HBB.out | apply below_alloc | apply pw_below_drewN | apply below_drew1) | exact HBB.out)) hb3);clear hb3
    refine hK.out _ _ ⟨pw_cell_below HBB.out y0.out, pw_cell_below HBB.out y1.out, pw_cell_below HBB.out y2.out, pw_cell_below HBB.out y3.out, pw_cell_below HBB.out y4.out⟩ (fun hHeld => ?_)
    clear hK K
    refine nm ?_
    refine pure_ (i := 9) (N := some 17) (v := ?_) (a' := ?_) #[true, true, true, true, true, true, true, true, true, true, false, false, false, false, false] rfl rfl (by kernel_rfl) (fun _ _ _ h => h) (Or.inl ⟨by rfl, ?_⟩) ?_ ?_
    rotate_left
    ·intro w'
     go_simp
     with_reducible rfl
    rotate_left
    ·simp only [Act.put, List.setIfInBounds_toArray, List.set_cons_zero, List.set_cons_succ, i64_w, i32_w]
     rfl
    refine pure_ (i := 10) (N := some 27) (v := ?_) (a' := ?_) #[true, true, true, true, true, true, true, true, true, true, true, false, false, false, false] rfl rfl (by kernel_rfl) (fun _ _ _ h => h) (Or.inl ⟨by rfl, ?_⟩) ?_ ?_
    rotate_left
    ·intro w'
     go_simp
     with_reducible rfl
    rotate_left
    ·simp only [Act.put, List.setIfInBounds_toArray, List.set_cons_zero, List.set_cons_succ, i64_w, i32_w]
     rfl
    refine pure_ (i := 11) (N := some 28) (v := ?_) (a' := ?_) #[true, true, true, true, true, true, true, true, true, true, true, true, false, false, false] rfl rfl (by kernel_rfl) (fun _ _ _ h => h) (Or.inl ⟨by rfl, ?_⟩) ?_ ?_
    rotate_left
    ·intro w'
     go_simp
     with_reducible rfl
    rotate_left
    ·simp only [Act.put, List.setIfInBounds_toArray, List.set_cons_zero, List.set_cons_succ, i64_w, i32_w]
     rfl
    refine one_ (i := 12) (N := some 6) #[true, true, true, true, true, true, true, true, true, true, true, true, true, false, false] rfl rfl (by kernel_rfl) (by decide) (fun K hK => ?_)
    refine bx 6 #[.int .u64 0, .int .u64 0] 50 ?_
    intro gb hg w3 hbox hb3
    have n0_ := am (below_step (by repeat (first | (with_reducible first | exact HBB.out | apply below_alloc | apply pw_below_drewN | apply below_drew1) | exact HBB.out)) hb3);have GE : Aside0 (w2.heap.size ≤ gb) := ⟨by rw [hg]; exact HBB.out.size⟩;have BK := am hbox;clear HBB;have HBB := n0_;clear n0_ hb3 hbox hg
    refine hK.out _ _ ⟨pw_cell_below HBB.out y0.out, pw_cell_below HBB.out y1.out, pw_cell_below HBB.out y2.out, pw_cell_below HBB.out y3.out, pw_cell_below HBB.out y4.out⟩ (fun hHeld => ?_)
    clear hK K
    refine nm ?_
    exact nj (hCont gb _ ⟨hHeld, BK.out, GE.out, HBB.out⟩)
   ·skip
    refine bx 6 #[.int .u64 0, .int .u64 0] 50 ?_
    intro gb hg w3 hbox hb3
    have n0_ := am (below_step (by repeat (first | (with_reducible first | exact HBB.out | apply below_alloc | apply pw_below_drewN | apply below_drew1) | exact HBB.out)) hb3);have GE : Aside0 (w2.heap.size ≤ gb) := ⟨by rw [hg]; exact HBB.out.size⟩;have BK := am hbox;clear HBB;have HBB := n0_;clear n0_ hb3 hbox hg
    refine hK.out _ _ ⟨pw_cell_below HBB.out y0.out, pw_cell_below HBB.out y1.out, pw_cell_below HBB.out y2.out, pw_cell_below HBB.out y3.out, pw_cell_below HBB.out y4.out⟩ (fun hHeld => ?_)
    clear hK K
    refine nm ?_
    refine one_ (i := 8) (N := some 26) #[true, true, true, true, true, true, true, true, true, false, false, false, true, false, false] rfl rfl (by kernel_rfl) (by decide) (fun K hK => ?_)
    refine goes_ Try.func38 (by kernel_rfl) rfl #[.agg #[.int .u64 y.f2.f0, .int .u64 y.f2.f1], .agg #[.int .u64 x.f2.f0, .int .u64 x.f2.f1]] (by rfl) rfl rfl (by simp only [List.map_toArray, List.map_cons, List.map_nil]; rfl) ?_
    with_reducible refine (wide_Add.calls y.f2.f0 y.f2.f1 x.f2.f0 x.f2.f1 n1 n2 n3 _ HN.out).mono ?_
    rintro e w3 ⟨rfl, hb3⟩
    refine ⟨_, rfl, ?_⟩
    have n0_ := am (below_step (by repeat (first | (with_reducible first | exact HBB.out | apply below_alloc | apply pw_below_drewN | apply below_drew1) | exact HBB.out)) hb3);have n1_ := am (blk_below BK.out hb3);clear BK;have BK := n1_;clear n1_ HBB;have HBB := n0_;clear n0_ hb3
    refine hK.out _ _ ⟨pw_cell_below HBB.out y0.out, pw_cell_below HBB.out y1.out, pw_cell_below HBB.out y2.out, pw_cell_below HBB.out y3.out, pw_cell_below HBB.out y4.out⟩ (fun hHeld => ?_)
    clear hK K
    refine nm ?_
    refine pure_ (i := 9) (N := some 17) (v := ?_) (a' := ?_) #[true, true, true, true, true, true, true, true, true, true, false, false, true, false, false] rfl rfl (by kernel_rfl) (fun _ _ _ h => h) (Or.inl ⟨by rfl, ?_⟩) ?_ ?_
    rotate_left
    ·intro w'
     go_simp
     with_reducible rfl
    rotate_left
    ·simp only [Act.put, List.setIfInBounds_toArray, List.set_cons_zero, List.set_cons_succ, i64_w, i32_w]
     rfl
    refine pure_ (i := 10) (N := some 27) (v := ?_) (a' := ?_) #[true, true, true, true, true, true, true, true, true, true, true, false, true, false, false] rfl rfl (by kernel_rfl) (fun _ _ _ h => h) (Or.inl ⟨by rfl, ?_⟩) ?_ ?_
    rotate_left
    ·intro w'
     go_simp
     with_reducible rfl
    rotate_left
    ·simp only [Act.put, List.setIfInBounds_toArray, List.set_cons_zero, List.set_cons_succ, i64_w, i32_w]
     rfl
    refine pure_ (i := 11) (N := some 28) (v := ?_) (a' := ?_) #[true, true, true, true, true, true, true, true, true, true, true, true, true, false, false] rfl rfl (by kernel_rfl) (fun _ _ _ h => h) (Or.inl ⟨by rfl, ?_⟩) ?_ ?_
    rotate_left
    ·intro w'
     go_simp
     with_reducible rfl
    rotate_left
    ·simp only [Act.put, List.setIfInBounds_toArray, List.set_cons_zero, List.set_cons_succ, i64_w, i32_w]
     rfl
    exact nj (hCont gb _ ⟨hHeld, BK.out, GE.out, HBB.out⟩)
  rintro gb w4 ⟨hHeld, hbk, hge, hbb⟩
  have BK := am hbk;have GE := am hge;clear HBB;have HBB := am hbb;clear hbk hge hbb;have b0 := blk_cell BK.out 0;have b1 := blk_cell BK.out 1;have f0 := blk_frozen BK.out 0;have f1 := blk_frozen BK.out 1
  refine norm_ (a' := ?_) ?_ ?_
  rotate_left
  ·simp only [putAll, Act.put, List.setIfInBounds_toArray, List.set_cons_zero, List.set_cons_succ]
   rfl
  refine last_ (i := 13) (N := none) #[true, true, true, true, true, true, true, true, true, true, true, true, true, true, false] rfl rfl (by kernel_rfl) (by decide) (fun K hK => ?_)
  refine skip_ (w1 := ?_) (by rfl) rfl ?_ ?_
  rotate_left
  ·go_simp
   rfl
  refine hK.out _ _ ?_
  clear hK K
  refine pure_ (i := 14) (N := some 7) (v := ?_) (a' := ?_) #[true, true, true, true, true, true, true, true, true, true, true, true, true, true, true] rfl rfl (by kernel_rfl) (fun _ _ _ h => h) (Or.inl ⟨by rfl, ?_⟩) ?_ ?_
  rotate_left
  ·intro w'
   go_simp
   with_reducible rfl
  rotate_left
  ·simp only [Act.put, List.setIfInBounds_toArray, List.set_cons_zero, List.set_cons_succ, i64_w, i32_w]
   rfl
  refine done_ (by kernel_rfl) ?_
  have hge := GE.out;have HB5 := am (below_set (g := gb) (j := 1) (v := .int .u64 n2) (below_set (g := gb) (j := 0) (v := .int .u64 n1) (below_step HB2.out HBB.out) (by omega)) (by omega));clear b0 b1 f0 f1 hHeld BK HBB HB2 y0 y1 y2 y3 y4
  generalize ((w4.setCell ⟨gb, 0, none⟩ (.int .u64 n1)).setCell ⟨gb, 1, none⟩ (.int .u64 n2)) = w5 at HB5 ⊢
  go_wp2
  go_ret
  exact ⟨rfl, HB5.out⟩
set_option maxHeartbeats 1000000 in
theorem IndexFunc_calls (g : Nat) (lb : Array Value) (eg : ∀ args w, (callFunc g args).run Try.prog w = .ok (.enter g args) w) (p : S62 → Option Bool) (A0 : Option Addr) (c0 : Nat) (l0 : List S62) (r : Int) (w : World)
  (hr0 : Kd.C k62 w A0 l0.length l0) (hc0 : l0.length ≤ c0)
  (hp : ∀ (W : World) (x : S62) (b : Bool), Below w.heap.size w W → p x = some b → Calls Try.prog g (#[.agg #[.string x.f0, .int .u64 x.f1, .int .u64 x.f2.f0, .int .u64 x.f2.f1]] ++ lb) W fun e w' => e = .returned (.bool b) ∧ Below W.heap.size W w')
  (h : idxF p l0 0 = some r) :
  Calls Try.prog 49 #[.slice A0 l0.length c0, .func (.func g) #[] lb] w fun e w' => e = .returned (.int .i64 r) ∧ Below w.heap.size w w' := by
 have hn : l0.length ≤ 9223372036854775807 := hr0.2.1;have HH := am h;clear h;have HP := am hp;clear hp;have HR := am hr0;clear hr0
 go_enter Try.func49, Try.ntmps49
 go_wp2
 go_loopg [5, 8] l0.length (fun gg _ s8 wr => ∃ x8 : Int, s8 = .int .i64 x8 ∧ Aside0 (0 ≤ x8 ∧ x8 ≤ l0.length ∧ l0.length - x8.toNat ≤ gg) ∧ Aside0 (Below w.heap.size w wr) ∧ Aside0 (idxF p (l0.drop x8.toNat) x8 = some r))
 case atStart => exact ⟨0, rfl, ⟨by omega⟩, ⟨Below.refl _ w⟩, HH⟩
 case round =>
  clear HH;obtain ⟨x8, rfl, hk, BW, HH⟩ := hrel;obtain ⟨h0, h1, hg⟩ := hk.out;clear hk
  by_cases hlt : x8 < (l0.length : Int)
  ·obtain ⟨b, hb, hbr⟩ := idxF_at p l0 z62 x8 h0 hlt r HH.out;clear HH;obtain ⟨ad, e, hx0, hx1, hx2, hx3⟩ := at_T62 (Kd.C_below HR.out BW.out) x8 h0 hlt;cases e;have HC := am (HP.out wr (rd_T62 l0 x8) b BW.out hb);have HB := am hb;clear hb;have HBR := am hbr;clear hbr;have d0 : decide (0 ≤ x8) = true := decide_eq_true h0;have d1 : decide (x8 < (l0.length : Int)) = true := decide_eq_true hlt
   have w8 : wrap64 (x8 + 1) = x8 + 1 := by unfold wrap64; omega
   cases b with
   | true =>
    go_wp2_with fail
    refine HC.out.mono ?_
    rintro e w' ⟨rfl, hb'⟩
    go_wp2
    go_ret
    exact ⟨by rw [show r = x8 from by rcases HBR.out with h | h <;> first | exact h.2 | exact absurd h.1 (by decide)]; rfl, below_then BW.out BW.out.size hb'⟩
   | false =>
    go_wp2_with fail
    refine HC.out.mono ?_
    rintro e w' ⟨rfl, hb'⟩
    go_wp2
    go_roundg (l0.length - (x8 + 1).toNat)
    case measure => omega
    case rel => exact ⟨x8 + 1, by simp [w8], ⟨by omega⟩, ⟨below_then BW.out BW.out.size hb'⟩, ⟨by rcases HBR.out with h | h <;> first | exact absurd h.1 (by decide) | exact h.2⟩⟩
  ·have d1 : decide (x8 < (l0.length : Int)) = false := decide_eq_false hlt;have hr := idxF_end p l0 x8 hlt r HH.out;clear HH;subst hr
   go_wp2
   go_ret
   exact ⟨rfl, BW.out⟩
theorem ContainsFunc_calls (g : Nat) (lb : Array Value) (eg : ∀ args w, (callFunc g args).run Try.prog w = .ok (.enter g args) w) (p : S62 → Option Bool) (A0 : Option Addr) (c0 : Nat) (l0 : List S62) (r : Bool) (w : World)
  (hr0 : Kd.C k62 w A0 l0.length l0) (hc0 : l0.length ≤ c0)
  (hp : ∀ (W : World) (x : S62) (b : Bool), Below w.heap.size w W → p x = some b → Calls Try.prog g (#[.agg #[.string x.f0, .int .u64 x.f1, .int .u64 x.f2.f0, .int .u64 x.f2.f1]] ++ lb) W fun e w' => e = .returned (.bool b) ∧ Below W.heap.size W w')
  (h : anyF p l0 = some r) :
  Calls Try.prog 35 #[.slice A0 l0.length c0, .func (.func g) #[] lb] w fun e w' => e = .returned (.bool r) ∧ Below w.heap.size w w' := by
 obtain ⟨i, hi, hr⟩ := Option.bind_eq_some_iff.1 h;clear h;have hR := am (Option.some.inj hr);clear hr;have HC := am (IndexFunc_calls g lb eg p A0 c0 l0 i w hr0 hc0 hp hi);clear hp hi hr0
 go_enter Try.func35, Try.ntmps35
 go_wp2_with fail
 refine HC.out.mono ?_
 rintro e w' ⟨rfl, hb⟩
 go_wp2
 go_ret
 exact ⟨by rw [← hR.out]; rfl, hb⟩
def bottom_wraps.f (k : Nat) (a0_0 a0_1 a0_2 : Int) (l0_3 : List S62) (a1_0 a1_1 a1_2 : Int) (l1_3 : List S62) : Option Bool := anyF (wrapsOne k l0_3) l1_3
theorem bottom_wraps.mono : ∀ a0 a1 a2 a3 a4 a5 a6 a7 k, LeO (bottom_wraps.f k a0 a1 a2 a3 a4 a5 a6 a7) (bottom_wraps.f (k + 1) a0 a1 a2 a3 a4 a5 a6 a7) := fun _ _ _ a3 _ _ _ a7 k => anyF_leo (wrapsOne_leo k a3) a7
set_option maxHeartbeats 1000000 in
theorem bottom_wraps.calls (k : Nat) (ah ai aj : Int) (ad : Option Addr) (ae : Nat) (aa : List S62) (ak an ao : Int) (af : Option Addr) (ag : Nat) (ac : List S62) (r : Bool) (w : World) (ap : Kd.C k62 w ad aa.length aa) (au : aa.length ≤ ae) (aq : Kd.C k62 w af ac.length ac) (av : ac.length ≤ ag) (h : bottom_wraps.f k ah ai aj aa ak an ao ac = some r) :
  Calls Try.prog 27 #[.agg #[.int .u64 ah, .int .u64 ai, .int .i64 aj, .slice ad aa.length ae], .agg #[.int .u64 ak, .int .u64 an, .int .i64 ao, .slice af ac.length ag]] w fun e w' => e = .returned (.bool r) ∧ Below w.heap.size w w' := by
 have hu27 := Try.underlying27;have eg : ∀ args w, (callFunc 36 args).run Try.prog w = .ok (.enter 36 args) w := enter_at Try.func36 (by kernel_rfl) rfl;have HA := am h;have H0 := am ap;have H1 := am aq;clear h ap aq
 go_enter Try.func27, Try.ntmps27
 go_wp2_with fail
 have ar : Below w.heap.size w _ := below_alloc (below_alloc (Below.refl _ _) (.cells #[.int .u64 ah, .int .u64 ai, .int .i64 aj, .slice ad aa.length ae] 27 (0, 0))) (.cells #[.int .u64 ak, .int .u64 an, .int .i64 ao, .slice af ac.length ag] 27 (0, 0));have hcell : World.cell? ((w.alloc (.cells #[.int .u64 ah, .int .u64 ai, .int .i64 aj, .slice ad aa.length ae] 27 (0, 0))).alloc (.cells #[.int .u64 ak, .int .u64 an, .int .i64 ao, .slice af ac.length ag] 27 (0, 0))) ⟨w.heap.size, 3, none⟩ = some (.slice ad aa.length ae) := blk_cell (blk_alloc (blk_new _ _) _) 3
 refine (ContainsFunc_calls 36 #[.pointer (some ⟨w.heap.size, 0, none⟩)] eg (wrapsOne k aa) af ag ac r _ (Kd.C_below H1.out ar) av (fun W x b hB hh => closureWraps k aa ad ae w.heap.size x b W (pw_cell_below hB hcell) au (Kd.C_below (Kd.C_below H0.out ar) hB) hh) HA.out).mono ?_
 rintro e w3 ⟨rfl, hb3⟩
 go_wp2
 go_ret
 exact ⟨rfl, below_step ar hb3⟩

end Go.Proofs.Ytmfffbafldbihaa.H
