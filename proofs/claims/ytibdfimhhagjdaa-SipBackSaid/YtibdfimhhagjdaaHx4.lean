-- laid by wip/hyb.py (the kit's printer with turns of ours)
import Derived.Test.YtibdfimhhagjdaaHx0
import Derived.Test.YtibdfimhhagjdaaHx3
namespace Go.Proofs.Ytibdfimhhagjdaa.H
open Go.RowKit Go.Proofs.YtibdfimhhagjdaaW.PrintWords Go.Proofs.YtibdfimhhagjdaaW.PrintLast Go.Proofs.YtibdfimhhagjdaaW.PrintMore
attribute [local go_sem] max2_int min2_int max_two min_two max_three min_three max_four min_four   -- for this text's walks alone
set_option linter.unusedVariables false
set_option linter.unusedSimpArgs false

/-! ### sip_Done: function 14 -/
def sip_Done.l0 : Nat → Int → Int → Int → Int → Int → Option (Int)
  | 0, _, _, _, _, _ => none
  | k + 1, x22, x138000, x138001, x138002, x138003 => if x22 < 4 then ((sip_turn.f x138000 x138001 x138002 x138003).bind fun bt138 => (sip_Done.l0 k (wrap64 (x22 + 1)) bt138.1 bt138.2.1 bt138.2.2.1 bt138.2.2.2)) else (some (Go.bits .xor .u64 (Go.bits .xor .u64 (Go.bits .xor .u64 x138000 x138001) x138002) x138003))
def sip_Done.f (k : Nat) (a0_0 : Int) (a0_1 : Int) (a0_2 : Int) (a0_3 : Int) (a0_4 : ByteArray) (a0_5 : Int) : Option (Int) := (sip_right.f a0_0 a0_1 a0_2 a0_3 a0_4 a0_5).bind fun t131 => (if t131 = true then ((sip_number.f k a0_4).bind fun t132 => ((sip_take.f a0_0 a0_1 a0_2 a0_3 (Go.bits .or .u64 t132 (IntKind.u64.wrap ((IntKind.u64.wrap (a0_5)) * 72057594037927936)))).bind fun bt133 => (sip_Done.l0 k 0 bt133.1 bt133.2.1 (Go.bits .xor .u64 bt133.2.2.1 255) bt133.2.2.2))) else (some 0))
theorem sip_Done.mono_l : ∀ k, (∀ y0 y1 y2 y3 y4, LeO (sip_Done.l0 k y0 y1 y2 y3 y4) (sip_Done.l0 (k + 1) y0 y1 y2 y3 y4))
  | 0 => fun _ _ _ _ _ r h => by simp [sip_Done.l0] at h
  | k + 1 => by
    have ih0 := sip_Done.mono_l k
    · intro y0 y1 y2 y3 y4
      unfold sip_Done.l0
      repeat' first
      | (with_reducible exact ih0 _ _ _ _ _)
      | (with_reducible exact sip_number.mono _ _)
      | (with_reducible exact LeO.refl _)
      | (with_reducible exact LeO.none _)
      | (with_reducible refine LeO.ite ?_ ?_)
      | (with_reducible refine LeO.bind ?_ (fun _ => ?_))
      | exact ih0 _ _ _ _ _
      | exact sip_number.mono _ _
      | exact LeO.none _
      | refine LeO.ite ?_ ?_
      | refine LeO.bind ?_ (fun _ => ?_)
theorem sip_Done.mono : ∀ a0 a1 a2 a3 a4 a5 k, LeO (sip_Done.f k a0 a1 a2 a3 a4 a5) (sip_Done.f (k + 1) a0 a1 a2 a3 a4 a5) := by
  intro a0 a1 a2 a3 a4 a5 k
  have ih0 := sip_Done.mono_l k
  unfold sip_Done.f
  repeat' first
      | (with_reducible exact ih0 _ _ _ _ _)
      | (with_reducible exact sip_number.mono _ _)
      | (with_reducible exact LeO.refl _)
      | (with_reducible exact LeO.none _)
      | (with_reducible refine LeO.ite ?_ ?_)
      | (with_reducible refine LeO.bind ?_ (fun _ => ?_))
      | exact ih0 _ _ _ _ _
      | exact sip_number.mono _ _
      | exact LeO.none _
      | refine LeO.ite ?_ ?_
      | refine LeO.bind ?_ (fun _ => ?_)
def sip_Done.T3 : Bool × List (List Nat × List Nat) := (true, [([], []), ([0], [0]), ([], []), ([2], [2]), ([3], [3]), ([], []), ([5], [5]), ([6], [6]), ([7], [7]), ([4, 8], [4, 8]), ([1, 9, 4], [1, 9]), ([], []), ([11, 10, 10, 0, 1, 2, 3, 4, 5, 6, 7, 8, 9, 10, 11], [10, 11])])
def sip_Done.B3 : List Nat := [0, 1, 0, 4, 12, 0, 32, 96, 224, 508, 1023, 0, 4095]
theorem sip_Done.tab3 : rtab .any (opsOf Try.f14 3) = sip_Done.T3 := by kernel_rfl
theorem sip_Done.bits3 : waitsOk sip_Done.T3.2 sip_Done.B3 = true := by kernel_rfl
set_option maxHeartbeats 8000000 in
set_option maxRecDepth 100000 in
theorem sip_Done.calls (k : Nat) (a0_0 : Int) (a0_1 : Int) (a0_2 : Int) (a0_3 : Int) (a0_4 : ByteArray) (a0_5 : Int) (r : Int) (w : World) (h : sip_Done.f k a0_0 a0_1 a0_2 a0_3 a0_4 a0_5 = some r) :
    Calls Try.prog 14 #[.agg #[.int .u64 a0_0, .int .u64 a0_1, .int .u64 a0_2, .int .u64 a0_3, .string a0_4, .int .i64 a0_5]] w fun e w' => e = .returned (.int .u64 r) ∧ Below w.heap.size w w' := by
  have hu31 := Try.underlying31
  have hu29 := Try.underlying29
  have HB := Aside0.mk (Below.refl w.heap.size w)
  have H : ((sip_right.f a0_0 a0_1 a0_2 a0_3 a0_4 a0_5).bind fun t131 => (if t131 = true then ((sip_number.f k a0_4).bind fun t132 => ((sip_take.f a0_0 a0_1 a0_2 a0_3 (Go.bits .or .u64 t132 (IntKind.u64.wrap ((IntKind.u64.wrap (a0_5)) * 72057594037927936)))).bind fun bt133 => (sip_Done.l0 k 0 bt133.1 bt133.2.1 (Go.bits .xor .u64 bt133.2.2.1 255) bt133.2.2.2))) else (some 0))) = some r := h
  clear h
  replace H := Option.bind_eq_some_iff.mp H
  obtain ⟨t131, A20, H⟩ := H
  replace H : (if t131 = true then ((sip_number.f k a0_4).bind fun t132 => ((sip_take.f a0_0 a0_1 a0_2 a0_3 (Go.bits .or .u64 t132 (IntKind.u64.wrap ((IntKind.u64.wrap (a0_5)) * 72057594037927936)))).bind fun bt133 => (sip_Done.l0 k 0 bt133.1 bt133.2.1 (Go.bits .xor .u64 bt133.2.2.1 255) bt133.2.2.2))) else (some 0)) = some r := H
  have A2 := Aside0.mk A20
  clear A20
  by_cases c3 : t131 = true
  · subst c3
    have H1 : ((sip_number.f k a0_4).bind fun t132 => ((sip_take.f a0_0 a0_1 a0_2 a0_3 (Go.bits .or .u64 t132 (IntKind.u64.wrap ((IntKind.u64.wrap (a0_5)) * 72057594037927936)))).bind fun bt133 => (sip_Done.l0 k 0 bt133.1 bt133.2.1 (Go.bits .xor .u64 bt133.2.2.1 255) bt133.2.2.2))) = some r := by rw [if_pos rfl] at H; exact H
    clear H
    have H := H1
    clear H1
    replace H := Option.bind_eq_some_iff.mp H
    obtain ⟨t132, A40, H⟩ := H
    replace H : ((sip_take.f a0_0 a0_1 a0_2 a0_3 (Go.bits .or .u64 t132 (IntKind.u64.wrap ((IntKind.u64.wrap (a0_5)) * 72057594037927936)))).bind fun bt133 => (sip_Done.l0 k 0 bt133.1 bt133.2.1 (Go.bits .xor .u64 bt133.2.2.1 255) bt133.2.2.2)) = some r := H
    have A4 := Aside0.mk A40
    clear A40
    replace H := Option.bind_eq_some_iff.mp H
    obtain ⟨⟨t133, t134, t135, t136⟩, A50, H⟩ := H
    replace H : (sip_Done.l0 k 0 t133 t134 (Go.bits .xor .u64 t135 255) t136) = some r := H
    have A5 := Aside0.mk A50
    clear A50
    have H' := Aside0.mk H
    clear H
    go_enter Try.func14, Try.ntmps14
    try go_wp2_with (first | ((with_reducible refine gate_dst (N := 1) rfl ?_); refine box_event ?hg (N := 1) ?hd (cs := #[.int .u64 a0_0, .int .u64 a0_1, .int .u64 a0_2, .int .u64 a0_3, .string a0_4, .int .i64 a0_5]) (t := 31) ?hr ?_; (case hd => rfl); (case hg => rfl); (case hr => first | (go_simp; done) | (go_simp; rfl)); intro gb130 hg w6 hbox hb; have n0_ := Aside0.mk (below_step (by repeat (first | (with_reducible first | exact HB.out | apply below_alloc | apply pw_below_drewN | apply below_drew1) | exact HB.out)) hb); have n1_ := Aside0.mk (hbox); have n2_ := Aside0.mk ((by rw [hg]; exact (below_size (by repeat (first | (with_reducible first | exact HB.out | apply below_alloc | apply pw_below_drewN | apply below_drew1) | exact HB.out))) : w.heap.size ≤ gb130)); have n3_ := Aside0.mk ((by rw [hg]; exact (below_size (by repeat (first | (with_reducible first | exact HB.out | apply below_alloc | apply pw_below_drewN | apply below_drew1) | exact HB.out))) : w.heap.size ≤ gb130)); clear HB; have HB := n0_; have BK130 := n1_; have GW130 := n2_; have GE130 := n3_; clear n0_ n1_ n2_ n3_; clear hb hbox hg; have hcz7_0 : w6.cell? ⟨gb130, 0, none⟩ = some (.int .u64 a0_0) := (blk_cell BK130.out 0).trans rfl; have hcz7_1 : w6.cell? ⟨gb130, 1, none⟩ = some (.int .u64 a0_1) := (blk_cell BK130.out 1).trans rfl; have hcz7_2 : w6.cell? ⟨gb130, 2, none⟩ = some (.int .u64 a0_2) := (blk_cell BK130.out 2).trans rfl; have hcz7_3 : w6.cell? ⟨gb130, 3, none⟩ = some (.int .u64 a0_3) := (blk_cell BK130.out 3).trans rfl; have hcz7_4 : w6.cell? ⟨gb130, 4, none⟩ = some (.string a0_4) := (blk_cell BK130.out 4).trans rfl; have hcz7_5 : w6.cell? ⟨gb130, 5, none⟩ = some (.int .i64 a0_5) := (blk_cell BK130.out 5).trans rfl; have hfz7_0 := blk_frozen BK130.out 0; have hfz7_1 := blk_frozen BK130.out 1; have hfz7_2 := blk_frozen BK130.out 2; have hfz7_3 := blk_frozen BK130.out 3; have hfz7_4 := blk_frozen BK130.out 4; have hfz7_5 := blk_frozen BK130.out 5) | ((with_reducible refine gate_callee (f := 16) rfl ?_); refine goesL_ (some 5) rfl rfl Try.func16 (by kernel_rfl) rfl #[.agg #[.int .u64 a0_0, .int .u64 a0_1, .int .u64 a0_2, .int .u64 a0_3, .string a0_4, .int .i64 a0_5]] rfl (by (try simp only [List.map_toArray, List.map_cons, List.map_nil]); first | done | rfl | (simp only [List.length_drop, List.length_take]; rfl)) ?_; (with_reducible refine (sip_right.calls a0_0 a0_1 a0_2 a0_3 a0_4 a0_5 true _ A2.out).mono ?_); rintro e w8 ⟨rfl, hb⟩; refine ⟨_, rfl, ?_⟩; have n0_ := Aside0.mk (blk_below (g := gb130) (o := .cells #[.int .u64 a0_0, .int .u64 a0_1, .int .u64 a0_2, .int .u64 a0_3, .string a0_4, .int .i64 a0_5] 31 (0, 0)) (by (with_reducible repeat (first | refine blk_drewN ?_ _ | refine blk_drew ?_ | refine blk_alloc ?_ _)); exact BK130.out) hb); have n1_ := Aside0.mk (below_step (by repeat (first | (with_reducible first | exact HB.out | apply below_alloc | apply pw_below_drewN | apply below_drew1 | refine below_set ?_ GE130.out) | exact HB.out)) hb); clear BK130; clear HB; have BK130 := n0_; have HB := n1_; clear n0_ n1_; (try clear hb); (try clear hb2); (try clear hk); (try clear hi)))
    have n0_ := Aside0.mk (blk_drew BK130.out)
    have n1_ := Aside0.mk (below_drew1 HB.out)
    clear BK130
    clear HB
    have BK130 := n0_
    have HB := n1_
    clear n0_ n1_
    refine start_ (n := 13) (S := fun w' => w'.cell? ⟨gb130, 0, none⟩ = some (.int .u64 a0_0) ∧ w'.cell? ⟨gb130, 1, none⟩ = some (.int .u64 a0_1) ∧ w'.cell? ⟨gb130, 2, none⟩ = some (.int .u64 a0_2) ∧ w'.cell? ⟨gb130, 3, none⟩ = some (.int .u64 a0_3) ∧ w'.cell? ⟨gb130, 4, none⟩ = some (.string a0_4) ∧ w'.cell? ⟨gb130, 5, none⟩ = some (.int .i64 a0_5)) (ds := []) #[false, false, false, false, false, false, false, false, false, false, false, false, false] (by kernel_rfl) rfl rfl ⟨(blk_cell BK130.out 0).trans rfl, (blk_cell BK130.out 1).trans rfl, (blk_cell BK130.out 2).trans rfl, (blk_cell BK130.out 3).trans rfl, (blk_cell BK130.out 4).trans rfl, (blk_cell BK130.out 5).trans rfl⟩ (fun hHeld => ?_); refine with_tabW sip_Done.tab3 sip_Done.bits3 (fun HT_ HW_ => ?_)
    generalize w8.drew = w9 at BK130 HB hHeld ⊢
    refine pure_ (i := 0) (N := some 7) (v := ?_) (a' := ?_) #[true, false, false, false, false, false, false, false, false, false, false, false, false] rfl rfl (any_of HT_.out (by kernel_rfl)) (fun _ _ _ h => h) (Or.inl ⟨by rfl, ?_⟩) ?_ ?_
    rotate_left
    · intro w'
      go_simp
      with_reducible rfl
    rotate_left
    · simp only [Act.put, List.setIfInBounds_toArray, List.set_cons_zero, List.set_cons_succ, i64_w, i32_w]
      rfl
    refine pure_ (i := 2) (N := some 9) (v := ?_) (a' := ?_) #[true, false, true, false, false, false, false, false, false, false, false, false, false] rfl rfl (any_of HT_.out (by kernel_rfl)) (fun _ _ _ h => h) (Or.inl ⟨by rfl, ?_⟩) ?_ ?_
    rotate_left
    · intro w'
      go_simp
      with_reducible rfl
    rotate_left
    · simp only [Act.put, List.setIfInBounds_toArray, List.set_cons_zero, List.set_cons_succ, i64_w, i32_w]
      rfl
    refine pure_ (i := 5) (N := some 12) (v := ?_) (a' := ?_) #[true, false, true, false, false, true, false, false, false, false, false, false, false] rfl rfl (any_of HT_.out (by kernel_rfl)) (fun _ _ _ h => h) (Or.inl ⟨by rfl, ?_⟩) ?_ ?_
    rotate_left
    · intro w'
      go_simp
      with_reducible rfl
    rotate_left
    · simp only [Act.put, List.setIfInBounds_toArray, List.set_cons_zero, List.set_cons_succ, i64_w, i32_w]
      rfl
    refine take_ (i := 1) (N := some 8) (v := ?_) (a' := ?_) #[true, true, true, false, false, true, false, false, false, false, false, false, false] rfl rfl (take_ofW HT_.out HW_.out (by kernel_rfl)) (fun _ _ _ h => h) (Or.inl ⟨by rfl, ?_⟩) hHeld ?_ ?_
    rotate_left
    · rintro w' ⟨s0, s1, s2, s3, s4, s5⟩
      go_simp
      with_reducible rfl
    rotate_left
    · simp only [Act.put, List.setIfInBounds_toArray, List.set_cons_zero, List.set_cons_succ, i64_w, i32_w]
      rfl
    refine take_ (i := 3) (N := some 10) (v := ?_) (a' := ?_) #[true, true, true, true, false, true, false, false, false, false, false, false, false] rfl rfl (take_ofW HT_.out HW_.out (by kernel_rfl)) (fun _ _ _ h => h) (Or.inl ⟨by rfl, ?_⟩) hHeld ?_ ?_
    rotate_left
    · rintro w' ⟨s0, s1, s2, s3, s4, s5⟩
      go_simp
      with_reducible rfl
    rotate_left
    · simp only [Act.put, List.setIfInBounds_toArray, List.set_cons_zero, List.set_cons_succ, i64_w, i32_w]
      rfl
    refine take_ (i := 6) (N := some 13) (v := ?_) (a' := ?_) #[true, true, true, true, false, true, true, false, false, false, false, false, false] rfl rfl (take_ofW HT_.out HW_.out (by kernel_rfl)) (fun _ _ _ h => h) (Or.inl ⟨by rfl, ?_⟩) hHeld ?_ ?_
    rotate_left
    · rintro w' ⟨s0, s1, s2, s3, s4, s5⟩
      go_simp
      with_reducible rfl
    rotate_left
    · simp only [Act.put, List.setIfInBounds_toArray, List.set_cons_zero, List.set_cons_succ, i64_w, i32_w]
      rfl
    refine pure_ (i := 7) (N := some 14) (v := ?_) (a' := ?_) #[true, true, true, true, false, true, true, true, false, false, false, false, false] rfl rfl (any_of HT_.out (by kernel_rfl)) (fun _ _ _ h => h) (Or.inl ⟨by rfl, ?_⟩) ?_ ?_
    rotate_left
    · intro w'
      go_simp
      with_reducible rfl
    rotate_left
    · simp only [Act.put, List.setIfInBounds_toArray, List.set_cons_zero, List.set_cons_succ, i64_w, i32_w]
      rfl
    refine pure_ (i := 8) (N := some 15) (v := ?_) (a' := ?_) #[true, true, true, true, false, true, true, true, true, false, false, false, false] rfl rfl (any_of HT_.out (by kernel_rfl)) (fun _ _ _ h => h) (Or.inl ⟨by rfl, ?_⟩) ?_ ?_
    rotate_left
    · intro w'
      go_simp
      with_reducible rfl
    rotate_left
    · simp only [Act.put, List.setIfInBounds_toArray, List.set_cons_zero, List.set_cons_succ, i64_w, i32_w]
      rfl
    refine join_ (σ := Nat) 1 #[true, true, true, true, true, true, true, true, true, true, true, true, false] (fun s_ => [(11, .int .u64 t132), (17, .agg #[.int .u64 t133, .int .u64 t134, .int .u64 t135, .int .u64 t136]), (3, .pointer (some ⟨s_, 0, none⟩)), (16, .int .u64 (Go.bits .or .u64 t132 (IntKind.u64.wrap ((IntKind.u64.wrap (a0_5)) * 72057594037927936))))]) (fun s_ w' => (w'.cell? ⟨gb130, 0, none⟩ = some (.int .u64 a0_0) ∧ w'.cell? ⟨gb130, 1, none⟩ = some (.int .u64 a0_1) ∧ w'.cell? ⟨gb130, 2, none⟩ = some (.int .u64 a0_2) ∧ w'.cell? ⟨gb130, 3, none⟩ = some (.int .u64 a0_3) ∧ w'.cell? ⟨gb130, 4, none⟩ = some (.string a0_4) ∧ w'.cell? ⟨gb130, 5, none⟩ = some (.int .i64 a0_5)) ∧ (w'.heap[gb130]? = some (.cells #[.int .u64 a0_0, .int .u64 a0_1, .int .u64 a0_2, .int .u64 a0_3, .string a0_4, .int .i64 a0_5] 31 (0, 0))) ∧ (w'.heap[s_]? = some (.cells #[.int .u64 0, .int .u64 0, .int .u64 0, .int .u64 0] 29 (0, 0))) ∧ (w.heap.size ≤ s_) ∧ (w.heap.size ≤ s_) ∧ (gb130 ≠ s_) ∧ (s_ ≠ gb130) ∧ (Below w.heap.size w w')) ?_ ?_
    rotate_left
    · intro hCont
      refine two_ (i := 4) (j := 11) (Ni := some 11) (Nj := some 3) #[true, true, true, true, true, true, true, true, true, false, false, false, false] #[true, true, true, true, false, true, true, true, true, false, false, true, false] rfl rfl rfl rfl (two_of HT_.out (by kernel_rfl)) (by decide) (by decide) (fun K hK => ?_) (fun K hK => ?_)
      · skip
        refine goes_ Try.func18 (by kernel_rfl) rfl #[.string a0_4] (by rfl) rfl rfl (by (try simp only [List.map_toArray, List.map_cons, List.map_nil]); first | done | rfl | (simp only [List.length_drop, List.length_take]; rfl)) ?_
        with_reducible refine (sip_number.calls k a0_4 t132 _ A4.out).mono ?_
        rintro e w' ⟨rfl, ⟨nd, rfl⟩⟩
        refine ⟨_, rfl, ?_⟩
        refine hK.out _ _ ⟨(blk_cell BK130.out 0).trans rfl, (blk_cell BK130.out 1).trans rfl, (blk_cell BK130.out 2).trans rfl, (blk_cell BK130.out 3).trans rfl, (blk_cell BK130.out 4).trans rfl, (blk_cell BK130.out 5).trans rfl⟩ (fun hHeld => ?_)
        clear hK K
        refine norm_ (a' := ?_) ?_ ?_
        rotate_left
        · show Act.put _ (some 11) _ = _
          simp only [Act.put, List.setIfInBounds_toArray, List.set_cons_zero, List.set_cons_succ, i64_w, i32_w]
          rfl
        refine pure_ (i := 9) (N := some 16) (v := ?_) (a' := ?_) #[true, true, true, true, true, true, true, true, true, true, false, false, false] rfl rfl (any_of HT_.out (by kernel_rfl)) (fun _ _ _ h => h) (Or.inl ⟨by rfl, ?_⟩) ?_ ?_
        rotate_left
        · intro w'
          go_simp
          with_reducible rfl
        rotate_left
        · simp only [Act.put, List.setIfInBounds_toArray, List.set_cons_zero, List.set_cons_succ, i64_w, i32_w]
          rfl
        refine two_ (i := 10) (j := 11) (Ni := some 17) (Nj := some 3) #[true, true, true, true, true, true, true, true, true, true, true, false, false] #[true, true, true, true, true, true, true, true, true, true, false, true, false] rfl rfl rfl rfl (two_of HT_.out (by kernel_rfl)) (by decide) (by decide) (fun K hK => ?_) (fun K hK => ?_)
        · skip
          refine goes_ Try.func17 (by kernel_rfl) rfl #[.agg #[.int .u64 a0_0, .int .u64 a0_1, .int .u64 a0_2, .int .u64 a0_3], .int .u64 (Go.bits .or .u64 t132 (IntKind.u64.wrap ((IntKind.u64.wrap (a0_5)) * 72057594037927936)))] (by rfl) rfl rfl (by (try simp only [List.map_toArray, List.map_cons, List.map_nil]); first | done | rfl | (simp only [List.length_drop, List.length_take]; rfl)) ?_
          with_reducible refine (sip_take.calls a0_0 a0_1 a0_2 a0_3 (Go.bits .or .u64 t132 (IntKind.u64.wrap ((IntKind.u64.wrap (a0_5)) * 72057594037927936))) t133 t134 t135 t136 _ A5.out).mono ?_
          rintro e w10 ⟨rfl, hb⟩
          refine ⟨_, rfl, ?_⟩
          have n0_ := Aside0.mk (blk_below (g := gb130) (o := .cells #[.int .u64 a0_0, .int .u64 a0_1, .int .u64 a0_2, .int .u64 a0_3, .string a0_4, .int .i64 a0_5] 31 (0, 0)) (by (with_reducible repeat (first | refine blk_drewN ?_ _ | refine blk_drew ?_ | refine blk_alloc ?_ _)); exact BK130.out) hb)
          have n1_ := Aside0.mk (below_step (by repeat (first | (with_reducible first | exact HB.out | apply below_alloc | apply pw_below_drewN | apply below_drew1 | refine below_set ?_ GE130.out) | exact HB.out)) hb)
          clear BK130
          clear HB
          have BK130 := n0_
          have HB := n1_
          clear n0_ n1_
          (try clear hb)
          (try clear hb2)
          (try clear hk)
          (try clear hi)
          refine hK.out _ _ ⟨(blk_cell BK130.out 0).trans rfl, (blk_cell BK130.out 1).trans rfl, (blk_cell BK130.out 2).trans rfl, (blk_cell BK130.out 3).trans rfl, (blk_cell BK130.out 4).trans rfl, (blk_cell BK130.out 5).trans rfl⟩ (fun hHeld => ?_)
          clear hK K
          refine norm_ (a' := ?_) ?_ ?_
          rotate_left
          · show Act.put _ (some 17) _ = _
            simp only [Act.put, List.setIfInBounds_toArray, List.set_cons_zero, List.set_cons_succ, i64_w, i32_w]
            rfl
          refine one_ (i := 11) (N := some 3) #[true, true, true, true, true, true, true, true, true, true, true, true, false] rfl rfl (one_of HT_.out (by kernel_rfl)) (by decide) (fun K hK => ?_)
          refine box_step ?hg (N := 3) ?hd (cs := #[.int .u64 0, .int .u64 0, .int .u64 0, .int .u64 0]) (t := 29) ?hr ?_; (case hd => rfl); (case hg => rfl); (case hr => first | (go_simp; done) | (go_simp; rfl))
          intro gb137 hg w11 hbox hb
          have n0_ := Aside0.mk (blk_below (g := gb130) (o := .cells #[.int .u64 a0_0, .int .u64 a0_1, .int .u64 a0_2, .int .u64 a0_3, .string a0_4, .int .i64 a0_5] 31 (0, 0)) (by (with_reducible repeat (first | refine blk_drewN ?_ _ | refine blk_drew ?_ | refine blk_alloc ?_ _)); exact BK130.out) hb)
          have n1_ := Aside0.mk (below_step (by repeat (first | (with_reducible first | exact HB.out | apply below_alloc | apply pw_below_drewN | apply below_drew1 | refine below_set ?_ GE130.out) | exact HB.out)) hb)
          have n2_ := Aside0.mk (hbox)
          have n3_ := Aside0.mk ((by rw [hg]; exact (below_size (by repeat (first | (with_reducible first | exact HB.out | apply below_alloc | apply pw_below_drewN | apply below_drew1 | refine below_set ?_ GE130.out) | exact HB.out))) : w.heap.size ≤ gb137))
          have n4_ := Aside0.mk ((by rw [hg]; exact (below_size (by repeat (first | (with_reducible first | exact HB.out | apply below_alloc | apply pw_below_drewN | apply below_drew1 | refine below_set ?_ GE130.out) | exact HB.out))) : w.heap.size ≤ gb137))
          have n5_ := Aside0.mk ((by rw [hg]; exact Nat.ne_of_lt (blk_lt (g := gb130) (o := .cells #[.int .u64 a0_0, .int .u64 a0_1, .int .u64 a0_2, .int .u64 a0_3, .string a0_4, .int .i64 a0_5] 31 (0, 0)) (by (with_reducible repeat (first | refine blk_drewN ?_ _ | refine blk_drew ?_ | refine blk_alloc ?_ _)); exact BK130.out)) : gb130 ≠ gb137))
          have n6_ := Aside0.mk ((by rw [hg]; exact Nat.ne_of_gt (blk_lt (g := gb130) (o := .cells #[.int .u64 a0_0, .int .u64 a0_1, .int .u64 a0_2, .int .u64 a0_3, .string a0_4, .int .i64 a0_5] 31 (0, 0)) (by (with_reducible repeat (first | refine blk_drewN ?_ _ | refine blk_drew ?_ | refine blk_alloc ?_ _)); exact BK130.out)) : gb137 ≠ gb130))
          clear BK130
          clear HB
          have BK130 := n0_
          have HB := n1_
          have BK137 := n2_
          have GW137 := n3_
          have GE137 := n4_
          have NB130_137 := n5_
          have NB137_130 := n6_
          clear n0_ n1_ n2_ n3_ n4_ n5_ n6_
          clear hb hbox hg
          refine hK.out _ _ ⟨(blk_cell BK130.out 0).trans rfl, (blk_cell BK130.out 1).trans rfl, (blk_cell BK130.out 2).trans rfl, (blk_cell BK130.out 3).trans rfl, (blk_cell BK130.out 4).trans rfl, (blk_cell BK130.out 5).trans rfl⟩ (fun hHeld => ?_)
          clear hK K
          refine norm_ (a' := ?_) ?_ ?_
          rotate_left
          · show Act.put _ (some 3) _ = _
            simp only [Act.put, List.setIfInBounds_toArray, List.set_cons_zero, List.set_cons_succ, i64_w, i32_w]
            rfl
          exact norm_ (by simp only [putAll, Act.put, List.setIfInBounds_toArray, List.set_cons_zero, List.set_cons_succ]) (hCont (gb137) _ ⟨hHeld, (by (with_reducible repeat (first | refine blk_drewN ?_ _ | refine blk_drew ?_ | refine blk_alloc ?_ _)); exact BK130.out), (by (with_reducible repeat (first | refine blk_drewN ?_ _ | refine blk_drew ?_ | refine blk_alloc ?_ _)); exact BK137.out), GW137.out, GE137.out, NB130_137.out, NB137_130.out, (by repeat (first | (with_reducible first | exact HB.out | apply below_alloc | apply pw_below_drewN | apply below_drew1 | refine below_set ?_ GE130.out | refine below_set ?_ GE137.out) | exact HB.out))⟩)
        · skip
          refine box_step ?hg (N := 3) ?hd (cs := #[.int .u64 0, .int .u64 0, .int .u64 0, .int .u64 0]) (t := 29) ?hr ?_; (case hd => rfl); (case hg => rfl); (case hr => first | (go_simp; done) | (go_simp; rfl))
          intro gb137 hg w10 hbox hb
          have n0_ := Aside0.mk (blk_below (g := gb130) (o := .cells #[.int .u64 a0_0, .int .u64 a0_1, .int .u64 a0_2, .int .u64 a0_3, .string a0_4, .int .i64 a0_5] 31 (0, 0)) (by (with_reducible repeat (first | refine blk_drewN ?_ _ | refine blk_drew ?_ | refine blk_alloc ?_ _)); exact BK130.out) hb)
          have n1_ := Aside0.mk (below_step (by repeat (first | (with_reducible first | exact HB.out | apply below_alloc | apply pw_below_drewN | apply below_drew1 | refine below_set ?_ GE130.out) | exact HB.out)) hb)
          have n2_ := Aside0.mk (hbox)
          have n3_ := Aside0.mk ((by rw [hg]; exact (below_size (by repeat (first | (with_reducible first | exact HB.out | apply below_alloc | apply pw_below_drewN | apply below_drew1 | refine below_set ?_ GE130.out) | exact HB.out))) : w.heap.size ≤ gb137))
          have n4_ := Aside0.mk ((by rw [hg]; exact (below_size (by repeat (first | (with_reducible first | exact HB.out | apply below_alloc | apply pw_below_drewN | apply below_drew1 | refine below_set ?_ GE130.out) | exact HB.out))) : w.heap.size ≤ gb137))
          have n5_ := Aside0.mk ((by rw [hg]; exact Nat.ne_of_lt (blk_lt (g := gb130) (o := .cells #[.int .u64 a0_0, .int .u64 a0_1, .int .u64 a0_2, .int .u64 a0_3, .string a0_4, .int .i64 a0_5] 31 (0, 0)) (by (with_reducible repeat (first | refine blk_drewN ?_ _ | refine blk_drew ?_ | refine blk_alloc ?_ _)); exact BK130.out)) : gb130 ≠ gb137))
          have n6_ := Aside0.mk ((by rw [hg]; exact Nat.ne_of_gt (blk_lt (g := gb130) (o := .cells #[.int .u64 a0_0, .int .u64 a0_1, .int .u64 a0_2, .int .u64 a0_3, .string a0_4, .int .i64 a0_5] 31 (0, 0)) (by (with_reducible repeat (first | refine blk_drewN ?_ _ | refine blk_drew ?_ | refine blk_alloc ?_ _)); exact BK130.out)) : gb137 ≠ gb130))
          clear BK130
          clear HB
          have BK130 := n0_
          have HB := n1_
          have BK137 := n2_
          have GW137 := n3_
          have GE137 := n4_
          have NB130_137 := n5_
          have NB137_130 := n6_
          clear n0_ n1_ n2_ n3_ n4_ n5_ n6_
          clear hb hbox hg
          refine hK.out _ _ ⟨(blk_cell BK130.out 0).trans rfl, (blk_cell BK130.out 1).trans rfl, (blk_cell BK130.out 2).trans rfl, (blk_cell BK130.out 3).trans rfl, (blk_cell BK130.out 4).trans rfl, (blk_cell BK130.out 5).trans rfl⟩ (fun hHeld => ?_)
          clear hK K
          refine norm_ (a' := ?_) ?_ ?_
          rotate_left
          · show Act.put _ (some 3) _ = _
            simp only [Act.put, List.setIfInBounds_toArray, List.set_cons_zero, List.set_cons_succ, i64_w, i32_w]
            rfl
          refine one_ (i := 10) (N := some 17) #[true, true, true, true, true, true, true, true, true, true, true, true, false] rfl rfl (one_of HT_.out (by kernel_rfl)) (by decide) (fun K hK => ?_)
          refine goes_ Try.func17 (by kernel_rfl) rfl #[.agg #[.int .u64 a0_0, .int .u64 a0_1, .int .u64 a0_2, .int .u64 a0_3], .int .u64 (Go.bits .or .u64 t132 (IntKind.u64.wrap ((IntKind.u64.wrap (a0_5)) * 72057594037927936)))] (by rfl) rfl rfl (by (try simp only [List.map_toArray, List.map_cons, List.map_nil]); first | done | rfl | (simp only [List.length_drop, List.length_take]; rfl)) ?_
          with_reducible refine (sip_take.calls a0_0 a0_1 a0_2 a0_3 (Go.bits .or .u64 t132 (IntKind.u64.wrap ((IntKind.u64.wrap (a0_5)) * 72057594037927936))) t133 t134 t135 t136 _ A5.out).mono ?_
          rintro e w11 ⟨rfl, hb⟩
          refine ⟨_, rfl, ?_⟩
          have n0_ := Aside0.mk (blk_below (g := gb130) (o := .cells #[.int .u64 a0_0, .int .u64 a0_1, .int .u64 a0_2, .int .u64 a0_3, .string a0_4, .int .i64 a0_5] 31 (0, 0)) (by (with_reducible repeat (first | refine blk_drewN ?_ _ | refine blk_drew ?_ | refine blk_alloc ?_ _)); exact BK130.out) hb)
          have n1_ := Aside0.mk (blk_below (g := gb137) (o := .cells #[.int .u64 0, .int .u64 0, .int .u64 0, .int .u64 0] 29 (0, 0)) (by (with_reducible repeat (first | refine blk_drewN ?_ _ | refine blk_drew ?_ | refine blk_alloc ?_ _)); exact BK137.out) hb)
          have n2_ := Aside0.mk (below_step (by repeat (first | (with_reducible first | exact HB.out | apply below_alloc | apply pw_below_drewN | apply below_drew1 | refine below_set ?_ GE130.out | refine below_set ?_ GE137.out) | exact HB.out)) hb)
          clear BK130
          clear BK137
          clear HB
          have BK130 := n0_
          have BK137 := n1_
          have HB := n2_
          clear n0_ n1_ n2_
          (try clear hb)
          (try clear hb2)
          (try clear hk)
          (try clear hi)
          refine hK.out _ _ ⟨(blk_cell BK130.out 0).trans rfl, (blk_cell BK130.out 1).trans rfl, (blk_cell BK130.out 2).trans rfl, (blk_cell BK130.out 3).trans rfl, (blk_cell BK130.out 4).trans rfl, (blk_cell BK130.out 5).trans rfl⟩ (fun hHeld => ?_)
          clear hK K
          refine norm_ (a' := ?_) ?_ ?_
          rotate_left
          · show Act.put _ (some 17) _ = _
            simp only [Act.put, List.setIfInBounds_toArray, List.set_cons_zero, List.set_cons_succ, i64_w, i32_w]
            rfl
          exact norm_ (by simp only [putAll, Act.put, List.setIfInBounds_toArray, List.set_cons_zero, List.set_cons_succ]) (hCont (gb137) _ ⟨hHeld, (by (with_reducible repeat (first | refine blk_drewN ?_ _ | refine blk_drew ?_ | refine blk_alloc ?_ _)); exact BK130.out), (by (with_reducible repeat (first | refine blk_drewN ?_ _ | refine blk_drew ?_ | refine blk_alloc ?_ _)); exact BK137.out), GW137.out, GE137.out, NB130_137.out, NB137_130.out, (by repeat (first | (with_reducible first | exact HB.out | apply below_alloc | apply pw_below_drewN | apply below_drew1 | refine below_set ?_ GE130.out | refine below_set ?_ GE137.out) | exact HB.out))⟩)
      · skip
        refine box_step ?hg (N := 3) ?hd (cs := #[.int .u64 0, .int .u64 0, .int .u64 0, .int .u64 0]) (t := 29) ?hr ?_; (case hd => rfl); (case hg => rfl); (case hr => first | (go_simp; done) | (go_simp; rfl))
        intro gb137 hg w10 hbox hb
        have n0_ := Aside0.mk (blk_below (g := gb130) (o := .cells #[.int .u64 a0_0, .int .u64 a0_1, .int .u64 a0_2, .int .u64 a0_3, .string a0_4, .int .i64 a0_5] 31 (0, 0)) (by (with_reducible repeat (first | refine blk_drewN ?_ _ | refine blk_drew ?_ | refine blk_alloc ?_ _)); exact BK130.out) hb)
        have n1_ := Aside0.mk (below_step (by repeat (first | (with_reducible first | exact HB.out | apply below_alloc | apply pw_below_drewN | apply below_drew1 | refine below_set ?_ GE130.out) | exact HB.out)) hb)
        have n2_ := Aside0.mk (hbox)
        have n3_ := Aside0.mk ((by rw [hg]; exact (below_size (by repeat (first | (with_reducible first | exact HB.out | apply below_alloc | apply pw_below_drewN | apply below_drew1 | refine below_set ?_ GE130.out) | exact HB.out))) : w.heap.size ≤ gb137))
        have n4_ := Aside0.mk ((by rw [hg]; exact (below_size (by repeat (first | (with_reducible first | exact HB.out | apply below_alloc | apply pw_below_drewN | apply below_drew1 | refine below_set ?_ GE130.out) | exact HB.out))) : w.heap.size ≤ gb137))
        have n5_ := Aside0.mk ((by rw [hg]; exact Nat.ne_of_lt (blk_lt (g := gb130) (o := .cells #[.int .u64 a0_0, .int .u64 a0_1, .int .u64 a0_2, .int .u64 a0_3, .string a0_4, .int .i64 a0_5] 31 (0, 0)) (by (with_reducible repeat (first | refine blk_drewN ?_ _ | refine blk_drew ?_ | refine blk_alloc ?_ _)); exact BK130.out)) : gb130 ≠ gb137))
        have n6_ := Aside0.mk ((by rw [hg]; exact Nat.ne_of_gt (blk_lt (g := gb130) (o := .cells #[.int .u64 a0_0, .int .u64 a0_1, .int .u64 a0_2, .int .u64 a0_3, .string a0_4, .int .i64 a0_5] 31 (0, 0)) (by (with_reducible repeat (first | refine blk_drewN ?_ _ | refine blk_drew ?_ | refine blk_alloc ?_ _)); exact BK130.out)) : gb137 ≠ gb130))
        clear BK130
        clear HB
        have BK130 := n0_
        have HB := n1_
        have BK137 := n2_
        have GW137 := n3_
        have GE137 := n4_
        have NB130_137 := n5_
        have NB137_130 := n6_
        clear n0_ n1_ n2_ n3_ n4_ n5_ n6_
        clear hb hbox hg
        refine hK.out _ _ ⟨(blk_cell BK130.out 0).trans rfl, (blk_cell BK130.out 1).trans rfl, (blk_cell BK130.out 2).trans rfl, (blk_cell BK130.out 3).trans rfl, (blk_cell BK130.out 4).trans rfl, (blk_cell BK130.out 5).trans rfl⟩ (fun hHeld => ?_)
        clear hK K
        refine norm_ (a' := ?_) ?_ ?_
        rotate_left
        · show Act.put _ (some 3) _ = _
          simp only [Act.put, List.setIfInBounds_toArray, List.set_cons_zero, List.set_cons_succ, i64_w, i32_w]
          rfl
        refine one_ (i := 4) (N := some 11) #[true, true, true, true, true, true, true, true, true, false, false, true, false] rfl rfl (one_of HT_.out (by kernel_rfl)) (by decide) (fun K hK => ?_)
        refine goes_ Try.func18 (by kernel_rfl) rfl #[.string a0_4] (by rfl) rfl rfl (by (try simp only [List.map_toArray, List.map_cons, List.map_nil]); first | done | rfl | (simp only [List.length_drop, List.length_take]; rfl)) ?_
        with_reducible refine (sip_number.calls k a0_4 t132 _ A4.out).mono ?_
        rintro e w' ⟨rfl, ⟨nd, rfl⟩⟩
        refine ⟨_, rfl, ?_⟩
        refine hK.out _ _ ⟨(blk_cell BK130.out 0).trans rfl, (blk_cell BK130.out 1).trans rfl, (blk_cell BK130.out 2).trans rfl, (blk_cell BK130.out 3).trans rfl, (blk_cell BK130.out 4).trans rfl, (blk_cell BK130.out 5).trans rfl⟩ (fun hHeld => ?_)
        clear hK K
        refine norm_ (a' := ?_) ?_ ?_
        rotate_left
        · show Act.put _ (some 11) _ = _
          simp only [Act.put, List.setIfInBounds_toArray, List.set_cons_zero, List.set_cons_succ, i64_w, i32_w]
          rfl
        refine pure_ (i := 9) (N := some 16) (v := ?_) (a' := ?_) #[true, true, true, true, true, true, true, true, true, true, false, true, false] rfl rfl (any_of HT_.out (by kernel_rfl)) (fun _ _ _ h => h) (Or.inl ⟨by rfl, ?_⟩) ?_ ?_
        rotate_left
        · intro w'
          go_simp
          with_reducible rfl
        rotate_left
        · simp only [Act.put, List.setIfInBounds_toArray, List.set_cons_zero, List.set_cons_succ, i64_w, i32_w]
          rfl
        refine one_ (i := 10) (N := some 17) #[true, true, true, true, true, true, true, true, true, true, true, true, false] rfl rfl (one_of HT_.out (by kernel_rfl)) (by decide) (fun K hK => ?_)
        refine goes_ Try.func17 (by kernel_rfl) rfl #[.agg #[.int .u64 a0_0, .int .u64 a0_1, .int .u64 a0_2, .int .u64 a0_3], .int .u64 (Go.bits .or .u64 t132 (IntKind.u64.wrap ((IntKind.u64.wrap (a0_5)) * 72057594037927936)))] (by rfl) rfl rfl (by (try simp only [List.map_toArray, List.map_cons, List.map_nil]); first | done | rfl | (simp only [List.length_drop, List.length_take]; rfl)) ?_
        with_reducible refine (sip_take.calls a0_0 a0_1 a0_2 a0_3 (Go.bits .or .u64 t132 (IntKind.u64.wrap ((IntKind.u64.wrap (a0_5)) * 72057594037927936))) t133 t134 t135 t136 _ A5.out).mono ?_
        rintro e w11 ⟨rfl, hb⟩
        refine ⟨_, rfl, ?_⟩
        have n0_ := Aside0.mk (blk_below (g := gb130) (o := .cells #[.int .u64 a0_0, .int .u64 a0_1, .int .u64 a0_2, .int .u64 a0_3, .string a0_4, .int .i64 a0_5] 31 (0, 0)) (by (with_reducible repeat (first | refine blk_drewN ?_ _ | refine blk_drew ?_ | refine blk_alloc ?_ _)); exact BK130.out) hb)
        have n1_ := Aside0.mk (blk_below (g := gb137) (o := .cells #[.int .u64 0, .int .u64 0, .int .u64 0, .int .u64 0] 29 (0, 0)) (by (with_reducible repeat (first | refine blk_drewN ?_ _ | refine blk_drew ?_ | refine blk_alloc ?_ _)); exact BK137.out) hb)
        have n2_ := Aside0.mk (below_step (by repeat (first | (with_reducible first | exact HB.out | apply below_alloc | apply pw_below_drewN | apply below_drew1 | refine below_set ?_ GE130.out | refine below_set ?_ GE137.out) | exact HB.out)) hb)
        clear BK130
        clear BK137
        clear HB
        have BK130 := n0_
        have BK137 := n1_
        have HB := n2_
        clear n0_ n1_ n2_
        (try clear hb)
        (try clear hb2)
        (try clear hk)
        (try clear hi)
        refine hK.out _ _ ⟨(blk_cell BK130.out 0).trans rfl, (blk_cell BK130.out 1).trans rfl, (blk_cell BK130.out 2).trans rfl, (blk_cell BK130.out 3).trans rfl, (blk_cell BK130.out 4).trans rfl, (blk_cell BK130.out 5).trans rfl⟩ (fun hHeld => ?_)
        clear hK K
        refine norm_ (a' := ?_) ?_ ?_
        rotate_left
        · show Act.put _ (some 17) _ = _
          simp only [Act.put, List.setIfInBounds_toArray, List.set_cons_zero, List.set_cons_succ, i64_w, i32_w]
          rfl
        exact norm_ (by simp only [putAll, Act.put, List.setIfInBounds_toArray, List.set_cons_zero, List.set_cons_succ]) (hCont (gb137) _ ⟨hHeld, (by (with_reducible repeat (first | refine blk_drewN ?_ _ | refine blk_drew ?_ | refine blk_alloc ?_ _)); exact BK130.out), (by (with_reducible repeat (first | refine blk_drewN ?_ _ | refine blk_drew ?_ | refine blk_alloc ?_ _)); exact BK137.out), GW137.out, GE137.out, NB130_137.out, NB137_130.out, (by repeat (first | (with_reducible first | exact HB.out | apply below_alloc | apply pw_below_drewN | apply below_drew1 | refine below_set ?_ GE130.out | refine below_set ?_ GE137.out) | exact HB.out))⟩)
    rintro gb137 w12 ⟨hS_, h0_, h1_, h2_, h3_, h4_, h5_, h6_⟩
    have n0_ : Aside0 (w12.heap[gb130]? = some (.cells #[.int .u64 a0_0, .int .u64 a0_1, .int .u64 a0_2, .int .u64 a0_3, .string a0_4, .int .i64 a0_5] 31 (0, 0))) := ⟨h0_⟩
    have n1_ : Aside0 (w12.heap[gb137]? = some (.cells #[.int .u64 0, .int .u64 0, .int .u64 0, .int .u64 0] 29 (0, 0))) := ⟨h1_⟩
    have n2_ : Aside0 (w.heap.size ≤ gb137) := ⟨h2_⟩
    have n3_ : Aside0 (w.heap.size ≤ gb137) := ⟨h3_⟩
    have n4_ : Aside0 (gb130 ≠ gb137) := ⟨h4_⟩
    have n5_ : Aside0 (gb137 ≠ gb130) := ⟨h5_⟩
    have n6_ : Aside0 (Below w.heap.size w w12) := ⟨h6_⟩
    clear BK130
    clear HB
    clear h0_ h1_ h2_ h3_ h4_ h5_ h6_
    have BK130 := n0_
    have BK137 := n1_
    have GW137 := n2_
    have GE137 := n3_
    have NB130_137 := n4_
    have NB137_130 := n5_
    have HB := n6_
    clear n0_ n1_ n2_ n3_ n4_ n5_ n6_
    have hHeld : w12.cell? ⟨gb130, 0, none⟩ = some (.int .u64 a0_0) ∧ w12.cell? ⟨gb130, 1, none⟩ = some (.int .u64 a0_1) ∧ w12.cell? ⟨gb130, 2, none⟩ = some (.int .u64 a0_2) ∧ w12.cell? ⟨gb130, 3, none⟩ = some (.int .u64 a0_3) ∧ w12.cell? ⟨gb130, 4, none⟩ = some (.string a0_4) ∧ w12.cell? ⟨gb130, 5, none⟩ = some (.int .i64 a0_5) := hS_
    refine norm_ (a' := ?_) ?_ ?_
    rotate_left
    · simp only [putAll, Act.put, List.setIfInBounds_toArray, List.set_cons_zero, List.set_cons_succ]
      rfl
    refine one_ (i := 12) (N := none) #[true, true, true, true, true, true, true, true, true, true, true, true, true] rfl rfl (one_of HT_.out (by kernel_rfl)) (by decide) (fun K hK => ?_)
    have hs13 : w12.cell? ⟨gb137, 0, none⟩ = some (.int .u64 0) := (blk_cell BK137.out 0).trans rfl
    have hfs13 := blk_frozen BK137.out 0
    have hns13_0 := NB130_137.out
    have hms13_0 := NB137_130.out
    have hs14 : w12.cell? ⟨gb137, 1, none⟩ = some (.int .u64 0) := (blk_cell BK137.out 1).trans rfl
    have hfs14 := blk_frozen BK137.out 1
    have hns14_0 := NB130_137.out
    have hms14_0 := NB137_130.out
    have hs15 : w12.cell? ⟨gb137, 2, none⟩ = some (.int .u64 0) := (blk_cell BK137.out 2).trans rfl
    have hfs15 := blk_frozen BK137.out 2
    have hns15_0 := NB130_137.out
    have hms15_0 := NB137_130.out
    have hs16 : w12.cell? ⟨gb137, 3, none⟩ = some (.int .u64 0) := (blk_cell BK137.out 3).trans rfl
    have hfs16 := blk_frozen BK137.out 3
    have hns16_0 := NB130_137.out
    have hms16_0 := NB137_130.out
    refine skip_ (w1 := ?_) (by rfl) rfl ?_ ?_
    rotate_left
    · go_simp
      rfl
    refine hK.out _ _ ⟨((cell_far (p := ⟨gb137, _, none⟩) NB130_137.out _).trans (((cell_far (p := ⟨gb137, _, none⟩) NB130_137.out _).trans (((cell_far (p := ⟨gb137, _, none⟩) NB130_137.out _).trans (((cell_far (p := ⟨gb137, _, none⟩) NB130_137.out _).trans (hHeld.1)))))))), ((cell_far (p := ⟨gb137, _, none⟩) NB130_137.out _).trans (((cell_far (p := ⟨gb137, _, none⟩) NB130_137.out _).trans (((cell_far (p := ⟨gb137, _, none⟩) NB130_137.out _).trans (((cell_far (p := ⟨gb137, _, none⟩) NB130_137.out _).trans (hHeld.2.1)))))))), ((cell_far (p := ⟨gb137, _, none⟩) NB130_137.out _).trans (((cell_far (p := ⟨gb137, _, none⟩) NB130_137.out _).trans (((cell_far (p := ⟨gb137, _, none⟩) NB130_137.out _).trans (((cell_far (p := ⟨gb137, _, none⟩) NB130_137.out _).trans (hHeld.2.2.1)))))))), ((cell_far (p := ⟨gb137, _, none⟩) NB130_137.out _).trans (((cell_far (p := ⟨gb137, _, none⟩) NB130_137.out _).trans (((cell_far (p := ⟨gb137, _, none⟩) NB130_137.out _).trans (((cell_far (p := ⟨gb137, _, none⟩) NB130_137.out _).trans (hHeld.2.2.2.1)))))))), ((cell_far (p := ⟨gb137, _, none⟩) NB130_137.out _).trans (((cell_far (p := ⟨gb137, _, none⟩) NB130_137.out _).trans (((cell_far (p := ⟨gb137, _, none⟩) NB130_137.out _).trans (((cell_far (p := ⟨gb137, _, none⟩) NB130_137.out _).trans (hHeld.2.2.2.2.1)))))))), ((cell_far (p := ⟨gb137, _, none⟩) NB130_137.out _).trans (((cell_far (p := ⟨gb137, _, none⟩) NB130_137.out _).trans (((cell_far (p := ⟨gb137, _, none⟩) NB130_137.out _).trans (((cell_far (p := ⟨gb137, _, none⟩) NB130_137.out _).trans (hHeld.2.2.2.2.2))))))))⟩ (fun hHeld => ?_)
    clear hK K
    refine done_ (done_of HT_.out (by kernel_rfl)) ?_
    have hnb17 := NB137_130.out
    have hnc17 := NB130_137.out
    have hcz18_0 : w12.cell? ⟨gb137, 0, none⟩ = some (.int .u64 0) := (blk_cell BK137.out 0).trans rfl
    have hcz18_1 : w12.cell? ⟨gb137, 1, none⟩ = some (.int .u64 0) := (blk_cell BK137.out 1).trans rfl
    have hcz18_2 : w12.cell? ⟨gb137, 2, none⟩ = some (.int .u64 0) := (blk_cell BK137.out 2).trans rfl
    have hcz18_3 : w12.cell? ⟨gb137, 3, none⟩ = some (.int .u64 0) := (blk_cell BK137.out 3).trans rfl
    have hfz18_0 := blk_frozen BK137.out 0
    have hfz18_1 := blk_frozen BK137.out 1
    have hfz18_2 := blk_frozen BK137.out 2
    have hfz18_3 := blk_frozen BK137.out 3
    try go_wp2
    go_loopg [22] k (fun kq v22 w' => ∃ (x22_1 : Int) (x138000_1 : Int) (x138001_1 : Int) (x138002_1 : Int) (x138003_1 : Int), v22 = .int .i64 x22_1 ∧ Aside0 (sip_Done.l0 kq x22_1 x138000_1 x138001_1 x138002_1 x138003_1 = some r) ∧ Aside0 (kq ≤ k) ∧ Aside0 (w'.heap[gb130]? = some (.cells #[.int .u64 a0_0, .int .u64 a0_1, .int .u64 a0_2, .int .u64 a0_3, .string a0_4, .int .i64 a0_5] 31 (0, 0))) ∧ Aside0 (w'.heap[gb137]? = some (.cells #[.int .u64 x138000_1, .int .u64 x138001_1, .int .u64 x138002_1, .int .u64 x138003_1] 29 (0, 0))) ∧ Aside0 (Below w.heap.size w w'))
    case atStart => exact ⟨(0), (t133), (t134), (Go.bits .xor .u64 t135 255), (t136), (by first | rfl | (simp; done) | (simp [*]; done)), H', ⟨Nat.le_refl _⟩, ⟨by (with_reducible repeat (first | refine blk_drewN ?_ _ | refine blk_drew ?_ | refine blk_alloc ?_ _)); refine blk_far ?_ NB130_137.out _; (with_reducible repeat (first | refine blk_drewN ?_ _ | refine blk_drew ?_ | refine blk_alloc ?_ _)); refine blk_far ?_ NB130_137.out _; (with_reducible repeat (first | refine blk_drewN ?_ _ | refine blk_drew ?_ | refine blk_alloc ?_ _)); refine blk_far ?_ NB130_137.out _; (with_reducible repeat (first | refine blk_drewN ?_ _ | refine blk_drew ?_ | refine blk_alloc ?_ _)); refine blk_far ?_ NB130_137.out _; (with_reducible repeat (first | refine blk_drewN ?_ _ | refine blk_drew ?_ | refine blk_alloc ?_ _)); refine blk_far ?_ NB130_137.out _; (with_reducible repeat (first | refine blk_drewN ?_ _ | refine blk_drew ?_ | refine blk_alloc ?_ _)); exact BK130.out⟩, ⟨by (with_reducible repeat (first | refine blk_drewN ?_ _ | refine blk_drew ?_ | refine blk_alloc ?_ _)); refine blk_put (cs := #[.int .u64 t133, .int .u64 t134, .int .u64 t135, .int .u64 t136]) ?_ 2 _ rfl; (with_reducible repeat (first | refine blk_drewN ?_ _ | refine blk_drew ?_ | refine blk_alloc ?_ _)); refine blk_put (cs := #[.int .u64 t133, .int .u64 t134, .int .u64 t135, .int .u64 0]) ?_ 3 _ rfl; (with_reducible repeat (first | refine blk_drewN ?_ _ | refine blk_drew ?_ | refine blk_alloc ?_ _)); refine blk_put (cs := #[.int .u64 t133, .int .u64 t134, .int .u64 0, .int .u64 0]) ?_ 2 _ rfl; (with_reducible repeat (first | refine blk_drewN ?_ _ | refine blk_drew ?_ | refine blk_alloc ?_ _)); refine blk_put (cs := #[.int .u64 t133, .int .u64 0, .int .u64 0, .int .u64 0]) ?_ 1 _ rfl; (with_reducible repeat (first | refine blk_drewN ?_ _ | refine blk_drew ?_ | refine blk_alloc ?_ _)); refine blk_put (cs := #[.int .u64 0, .int .u64 0, .int .u64 0, .int .u64 0]) ?_ 0 _ rfl; (with_reducible repeat (first | refine blk_drewN ?_ _ | refine blk_drew ?_ | refine blk_alloc ?_ _)); exact BK137.out⟩, ⟨by repeat (first | (with_reducible first | exact HB.out | apply below_alloc | apply pw_below_drewN | apply below_drew1 | refine below_set ?_ GE130.out | refine below_set ?_ GE137.out) | exact HB.out)⟩⟩
    case round =>
      clear H'
      try clear c1
      try clear p2
      try clear c3
      try clear c14
      try clear c16
      try clear c17
      try clear c18
      try clear hcz18_0
      try clear hcz18_1
      try clear hcz18_2
      try clear hcz18_3
      try clear hcz7_0
      try clear hcz7_1
      try clear hcz7_2
      try clear hcz7_3
      try clear hcz7_4
      try clear hcz7_5
      try clear hfz18_0
      try clear hfz18_1
      try clear hfz18_2
      try clear hfz18_3
      try clear hfz7_0
      try clear hfz7_1
      try clear hfz7_2
      try clear hfz7_3
      try clear hfz7_4
      try clear hfz7_5
      obtain ⟨x22_1, x138000_1, x138001_1, x138002_1, x138003_1, rfl, HA, HK1, BK130, BK137, HB⟩ := hrel
      cases gk with
      | zero => exact absurd HA.out (by simp [sip_Done.l0])
      | succ k1 =>
        have H := HA.out
        clear HA
        simp only [sip_Done.l0] at H
        by_cases c19 : x22_1 < 4
        · rw [if_pos c19] at H
          have c19b0 : decide (x22_1 < 4) = true := decide_eq_true c19
          clear c19
          replace H := Option.bind_eq_some_iff.mp H
          obtain ⟨⟨t138, t139, t140, t141⟩, A200, H⟩ := H
          replace H : (sip_Done.l0 k1 (wrap64 (x22_1 + 1)) t138 t139 t140 t141) = some r := H
          have A20 := Aside0.mk A200
          clear A200
          have H' := Aside0.mk H
          clear H
          have hnb21 := NB137_130.out
          have hnc21 := NB130_137.out
          have hcz22_0 : wr.cell? ⟨gb137, 0, none⟩ = some (.int .u64 x138000_1) := (blk_cell BK137.out 0).trans rfl
          have hcz22_1 : wr.cell? ⟨gb137, 1, none⟩ = some (.int .u64 x138001_1) := (blk_cell BK137.out 1).trans rfl
          have hcz22_2 : wr.cell? ⟨gb137, 2, none⟩ = some (.int .u64 x138002_1) := (blk_cell BK137.out 2).trans rfl
          have hcz22_3 : wr.cell? ⟨gb137, 3, none⟩ = some (.int .u64 x138003_1) := (blk_cell BK137.out 3).trans rfl
          have hfz22_0 := blk_frozen BK137.out 0
          have hfz22_1 := blk_frozen BK137.out 1
          have hfz22_2 := blk_frozen BK137.out 2
          have hfz22_3 := blk_frozen BK137.out 3
          go_wp2_with (first | ((with_reducible refine gate_callee (f := 19) rfl ?_); refine goesL_ (some 25) rfl rfl Try.func19 (by kernel_rfl) rfl #[.agg #[.int .u64 x138000_1, .int .u64 x138001_1, .int .u64 x138002_1, .int .u64 x138003_1]] rfl (by (try simp only [List.map_toArray, List.map_cons, List.map_nil]); first | done | rfl | (simp only [List.length_drop, List.length_take]; rfl)) ?_; (with_reducible refine (sip_turn.calls x138000_1 x138001_1 x138002_1 x138003_1 t138 t139 t140 t141 _ A20.out).mono ?_); rintro e w23 ⟨rfl, hb⟩; refine ⟨_, rfl, ?_⟩; have n0_ := Aside0.mk (blk_below (g := gb130) (o := .cells #[.int .u64 a0_0, .int .u64 a0_1, .int .u64 a0_2, .int .u64 a0_3, .string a0_4, .int .i64 a0_5] 31 (0, 0)) (by (with_reducible repeat (first | refine blk_drewN ?_ _ | refine blk_drew ?_ | refine blk_alloc ?_ _)); exact BK130.out) hb); have n1_ := Aside0.mk (blk_below (g := gb137) (o := .cells #[.int .u64 x138000_1, .int .u64 x138001_1, .int .u64 x138002_1, .int .u64 x138003_1] 29 (0, 0)) (by (with_reducible repeat (first | refine blk_drewN ?_ _ | refine blk_drew ?_ | refine blk_alloc ?_ _)); exact BK137.out) hb); have n2_ := Aside0.mk (below_step (by repeat (first | (with_reducible first | exact HB.out | apply below_alloc | apply pw_below_drewN | apply below_drew1 | refine below_set ?_ GE130.out | refine below_set ?_ GE137.out) | exact HB.out)) hb); clear BK130; clear BK137; clear HB; have BK130 := n0_; have BK137 := n1_; have HB := n2_; clear n0_ n1_ n2_; (try clear hb); (try clear hb2); (try clear hk); (try clear hi); have hcz24_0 : w23.cell? ⟨gb137, 0, none⟩ = some (.int .u64 x138000_1) := (blk_cell BK137.out 0).trans rfl; have hcz24_1 : w23.cell? ⟨gb137, 1, none⟩ = some (.int .u64 x138001_1) := (blk_cell BK137.out 1).trans rfl; have hcz24_2 : w23.cell? ⟨gb137, 2, none⟩ = some (.int .u64 x138002_1) := (blk_cell BK137.out 2).trans rfl; have hcz24_3 : w23.cell? ⟨gb137, 3, none⟩ = some (.int .u64 x138003_1) := (blk_cell BK137.out 3).trans rfl; have hfz24_0 := blk_frozen BK137.out 0; have hfz24_1 := blk_frozen BK137.out 1; have hfz24_2 := blk_frozen BK137.out 2; have hfz24_3 := blk_frozen BK137.out 3))
          go_roundg k1
          case measure => have := HK1.out; omega
          case rel => exact ⟨(wrap64 (x22_1 + 1)), (t138), (t139), (t140), (t141), (by first | rfl | (simp; done) | (simp [*]; done)), H', ⟨by have := HK1.out; omega⟩, ⟨by (with_reducible repeat (first | refine blk_drewN ?_ _ | refine blk_drew ?_ | refine blk_alloc ?_ _)); refine blk_far ?_ NB130_137.out _; (with_reducible repeat (first | refine blk_drewN ?_ _ | refine blk_drew ?_ | refine blk_alloc ?_ _)); refine blk_far ?_ NB130_137.out _; (with_reducible repeat (first | refine blk_drewN ?_ _ | refine blk_drew ?_ | refine blk_alloc ?_ _)); refine blk_far ?_ NB130_137.out _; (with_reducible repeat (first | refine blk_drewN ?_ _ | refine blk_drew ?_ | refine blk_alloc ?_ _)); refine blk_far ?_ NB130_137.out _; (with_reducible repeat (first | refine blk_drewN ?_ _ | refine blk_drew ?_ | refine blk_alloc ?_ _)); exact BK130.out⟩, ⟨by (with_reducible repeat (first | refine blk_drewN ?_ _ | refine blk_drew ?_ | refine blk_alloc ?_ _)); refine blk_put (cs := #[.int .u64 t138, .int .u64 t139, .int .u64 t140, .int .u64 x138003_1]) ?_ 3 _ rfl; (with_reducible repeat (first | refine blk_drewN ?_ _ | refine blk_drew ?_ | refine blk_alloc ?_ _)); refine blk_put (cs := #[.int .u64 t138, .int .u64 t139, .int .u64 x138002_1, .int .u64 x138003_1]) ?_ 2 _ rfl; (with_reducible repeat (first | refine blk_drewN ?_ _ | refine blk_drew ?_ | refine blk_alloc ?_ _)); refine blk_put (cs := #[.int .u64 t138, .int .u64 x138001_1, .int .u64 x138002_1, .int .u64 x138003_1]) ?_ 1 _ rfl; (with_reducible repeat (first | refine blk_drewN ?_ _ | refine blk_drew ?_ | refine blk_alloc ?_ _)); refine blk_put (cs := #[.int .u64 x138000_1, .int .u64 x138001_1, .int .u64 x138002_1, .int .u64 x138003_1]) ?_ 0 _ rfl; (with_reducible repeat (first | refine blk_drewN ?_ _ | refine blk_drew ?_ | refine blk_alloc ?_ _)); exact BK137.out⟩, ⟨by repeat (first | (with_reducible first | exact HB.out | apply below_alloc | apply pw_below_drewN | apply below_drew1 | refine below_set ?_ GE130.out | refine below_set ?_ GE137.out) | exact HB.out)⟩⟩
        · rw [if_neg c19] at H
          have c19b0 : decide (x22_1 < 4) = false := decide_eq_false c19
          clear c19
          obtain rfl := Option.some.inj H
          have hnb25 := NB137_130.out
          have hnc25 := NB130_137.out
          have hcz26_0 : wr.cell? ⟨gb137, 0, none⟩ = some (.int .u64 x138000_1) := (blk_cell BK137.out 0).trans rfl
          have hcz26_1 : wr.cell? ⟨gb137, 1, none⟩ = some (.int .u64 x138001_1) := (blk_cell BK137.out 1).trans rfl
          have hcz26_2 : wr.cell? ⟨gb137, 2, none⟩ = some (.int .u64 x138002_1) := (blk_cell BK137.out 2).trans rfl
          have hcz26_3 : wr.cell? ⟨gb137, 3, none⟩ = some (.int .u64 x138003_1) := (blk_cell BK137.out 3).trans rfl
          have hfz26_0 := blk_frozen BK137.out 0
          have hfz26_1 := blk_frozen BK137.out 1
          have hfz26_2 := blk_frozen BK137.out 2
          have hfz26_3 := blk_frozen BK137.out 3
          go_wp2
          go_ret
          exact ⟨by first | rfl | (simp [errW_none, errW_some] <;> rfl) | (simp [*, errW_none, errW_some] <;> rfl), by repeat (first | (with_reducible first | exact HB.out | apply below_alloc | apply pw_below_drewN | apply below_drew1 | refine below_set ?_ GE130.out | refine below_set ?_ GE137.out) | exact HB.out)⟩
  · replace c3 := Bool.eq_false_iff.mpr c3
    subst c3
    have H1 : (some 0) = some r := by rw [if_neg (show ¬ (false = true) by decide)] at H; exact H
    clear H
    have H := H1
    clear H1
    obtain rfl := Option.some.inj H
    go_enter Try.func14, Try.ntmps14
    go_wp2_with (first | ((with_reducible refine gate_dst (N := 1) rfl ?_); refine box_event ?hg (N := 1) ?hd (cs := #[.int .u64 a0_0, .int .u64 a0_1, .int .u64 a0_2, .int .u64 a0_3, .string a0_4, .int .i64 a0_5]) (t := 31) ?hr ?_; (case hd => rfl); (case hg => rfl); (case hr => first | (go_simp; done) | (go_simp; rfl)); intro gb130 hg w27 hbox hb; have n0_ := Aside0.mk (below_step (by repeat (first | (with_reducible first | exact HB.out | apply below_alloc | apply pw_below_drewN | apply below_drew1) | exact HB.out)) hb); have n1_ := Aside0.mk (hbox); have n2_ := Aside0.mk ((by rw [hg]; exact (below_size (by repeat (first | (with_reducible first | exact HB.out | apply below_alloc | apply pw_below_drewN | apply below_drew1) | exact HB.out))) : w.heap.size ≤ gb130)); have n3_ := Aside0.mk ((by rw [hg]; exact (below_size (by repeat (first | (with_reducible first | exact HB.out | apply below_alloc | apply pw_below_drewN | apply below_drew1) | exact HB.out))) : w.heap.size ≤ gb130)); clear HB; have HB := n0_; have BK130 := n1_; have GW130 := n2_; have GE130 := n3_; clear n0_ n1_ n2_ n3_; clear hb hbox hg; have hcz28_0 : w27.cell? ⟨gb130, 0, none⟩ = some (.int .u64 a0_0) := (blk_cell BK130.out 0).trans rfl; have hcz28_1 : w27.cell? ⟨gb130, 1, none⟩ = some (.int .u64 a0_1) := (blk_cell BK130.out 1).trans rfl; have hcz28_2 : w27.cell? ⟨gb130, 2, none⟩ = some (.int .u64 a0_2) := (blk_cell BK130.out 2).trans rfl; have hcz28_3 : w27.cell? ⟨gb130, 3, none⟩ = some (.int .u64 a0_3) := (blk_cell BK130.out 3).trans rfl; have hcz28_4 : w27.cell? ⟨gb130, 4, none⟩ = some (.string a0_4) := (blk_cell BK130.out 4).trans rfl; have hcz28_5 : w27.cell? ⟨gb130, 5, none⟩ = some (.int .i64 a0_5) := (blk_cell BK130.out 5).trans rfl; have hfz28_0 := blk_frozen BK130.out 0; have hfz28_1 := blk_frozen BK130.out 1; have hfz28_2 := blk_frozen BK130.out 2; have hfz28_3 := blk_frozen BK130.out 3; have hfz28_4 := blk_frozen BK130.out 4; have hfz28_5 := blk_frozen BK130.out 5) | ((with_reducible refine gate_callee (f := 16) rfl ?_); refine goesL_ (some 5) rfl rfl Try.func16 (by kernel_rfl) rfl #[.agg #[.int .u64 a0_0, .int .u64 a0_1, .int .u64 a0_2, .int .u64 a0_3, .string a0_4, .int .i64 a0_5]] rfl (by (try simp only [List.map_toArray, List.map_cons, List.map_nil]); first | done | rfl | (simp only [List.length_drop, List.length_take]; rfl)) ?_; (with_reducible refine (sip_right.calls a0_0 a0_1 a0_2 a0_3 a0_4 a0_5 false _ A2.out).mono ?_); rintro e w29 ⟨rfl, hb⟩; refine ⟨_, rfl, ?_⟩; have n0_ := Aside0.mk (blk_below (g := gb130) (o := .cells #[.int .u64 a0_0, .int .u64 a0_1, .int .u64 a0_2, .int .u64 a0_3, .string a0_4, .int .i64 a0_5] 31 (0, 0)) (by (with_reducible repeat (first | refine blk_drewN ?_ _ | refine blk_drew ?_ | refine blk_alloc ?_ _)); exact BK130.out) hb); have n1_ := Aside0.mk (below_step (by repeat (first | (with_reducible first | exact HB.out | apply below_alloc | apply pw_below_drewN | apply below_drew1 | refine below_set ?_ GE130.out) | exact HB.out)) hb); clear BK130; clear HB; have BK130 := n0_; have HB := n1_; clear n0_ n1_; (try clear hb); (try clear hb2); (try clear hk); (try clear hi)))
    go_ret
    exact ⟨by first | rfl | (simp [errW_none, errW_some] <;> rfl) | (simp [*, errW_none, errW_some] <;> rfl), by repeat (first | (with_reducible first | exact HB.out | apply below_alloc | apply pw_below_drewN | apply below_drew1 | refine below_set ?_ GE130.out) | exact HB.out)⟩

/-! ### sip_Sum: function 9 -/
def sip_Sum.f (k : Nat) (a0_0 : Int) (a0_1 : Int) (a1 : ByteArray) : Option (Int) := (sip_New.f a0_0 a0_1).bind fun bt143 => ((sip_Write.f k bt143.1 bt143.2.1 bt143.2.2.1 bt143.2.2.2.1 bt143.2.2.2.2.1 bt143.2.2.2.2.2 a1).bind fun bt149 => ((sip_Done.f k bt149.1 bt149.2.1 bt149.2.2.1 bt149.2.2.2.1 bt149.2.2.2.2.1 bt149.2.2.2.2.2).bind fun t155 => (some t155)))
theorem sip_Sum.mono : ∀ a0 a1 a2 k, LeO (sip_Sum.f k a0 a1 a2) (sip_Sum.f (k + 1) a0 a1 a2) := by
  intro a0 a1 a2 k
  unfold sip_Sum.f
  repeat' first
      | (with_reducible exact sip_Done.mono _ _ _ _ _ _ _)
      | (with_reducible exact sip_Write.mono _ _ _ _ _ _ _ _)
      | (with_reducible exact LeO.refl _)
      | (with_reducible exact LeO.none _)
      | (with_reducible refine LeO.ite ?_ ?_)
      | (with_reducible refine LeO.bind ?_ (fun _ => ?_))
      | exact sip_Done.mono _ _ _ _ _ _ _
      | exact sip_Write.mono _ _ _ _ _ _ _ _
      | exact LeO.none _
      | refine LeO.ite ?_ ?_
      | refine LeO.bind ?_ (fun _ => ?_)
set_option maxHeartbeats 8000000 in
set_option maxRecDepth 100000 in
theorem sip_Sum.calls (k : Nat) (a0_0 : Int) (a0_1 : Int) (a1 : ByteArray) (r : Int) (w : World) (h : sip_Sum.f k a0_0 a0_1 a1 = some r) :
    Calls Try.prog 9 #[.agg #[.int .u64 a0_0, .int .u64 a0_1], .string a1] w fun e w' => e = .returned (.int .u64 r) ∧ Below w.heap.size w w' := by
  have hu24 := Try.underlying24
  have HB := Aside0.mk (Below.refl w.heap.size w)
  have H : ((sip_New.f a0_0 a0_1).bind fun bt143 => ((sip_Write.f k bt143.1 bt143.2.1 bt143.2.2.1 bt143.2.2.2.1 bt143.2.2.2.2.1 bt143.2.2.2.2.2 a1).bind fun bt149 => ((sip_Done.f k bt149.1 bt149.2.1 bt149.2.2.1 bt149.2.2.2.1 bt149.2.2.2.2.1 bt149.2.2.2.2.2).bind fun t155 => (some t155)))) = some r := h
  clear h
  replace H := Option.bind_eq_some_iff.mp H
  obtain ⟨⟨t143, t144, t145, t146, t147, t148⟩, A30, H⟩ := H
  replace H : ((sip_Write.f k t143 t144 t145 t146 t147 t148 a1).bind fun bt149 => ((sip_Done.f k bt149.1 bt149.2.1 bt149.2.2.1 bt149.2.2.2.1 bt149.2.2.2.2.1 bt149.2.2.2.2.2).bind fun t155 => (some t155))) = some r := H
  have A3 := Aside0.mk A30
  clear A30
  replace H := Option.bind_eq_some_iff.mp H
  obtain ⟨⟨t149, t150, t151, t152, t153, t154⟩, A40, H⟩ := H
  replace H : ((sip_Done.f k t149 t150 t151 t152 t153 t154).bind fun t155 => (some t155)) = some r := H
  have A4 := Aside0.mk A40
  clear A40
  replace H := Option.bind_eq_some_iff.mp H
  obtain ⟨t155, A50, H⟩ := H
  replace H : (some t155) = some r := H
  have A5 := Aside0.mk A50
  clear A50
  obtain rfl := Option.some.inj H
  go_enter Try.func9, Try.ntmps9
  go_wp2_with (first | ((with_reducible refine gate_dst (N := 2) rfl ?_); refine box_event ?hg (N := 2) ?hd (cs := #[.int .u64 a0_0, .int .u64 a0_1]) (t := 24) ?hr ?_; (case hd => rfl); (case hg => rfl); (case hr => first | (go_simp; done) | (go_simp; rfl)); intro gb142 hg w6 hbox hb; have n0_ := Aside0.mk (below_step (by repeat (first | (with_reducible first | exact HB.out | apply below_alloc | apply pw_below_drewN | apply below_drew1) | exact HB.out)) hb); have n1_ := Aside0.mk (hbox); have n2_ := Aside0.mk ((by rw [hg]; exact (below_size (by repeat (first | (with_reducible first | exact HB.out | apply below_alloc | apply pw_below_drewN | apply below_drew1) | exact HB.out))) : w.heap.size ≤ gb142)); have n3_ := Aside0.mk ((by rw [hg]; exact (below_size (by repeat (first | (with_reducible first | exact HB.out | apply below_alloc | apply pw_below_drewN | apply below_drew1) | exact HB.out))) : w.heap.size ≤ gb142)); clear HB; have HB := n0_; have BK142 := n1_; have GW142 := n2_; have GE142 := n3_; clear n0_ n1_ n2_ n3_; clear hb hbox hg; have hcz7_0 : w6.cell? ⟨gb142, 0, none⟩ = some (.int .u64 a0_0) := (blk_cell BK142.out 0).trans rfl; have hcz7_1 : w6.cell? ⟨gb142, 1, none⟩ = some (.int .u64 a0_1) := (blk_cell BK142.out 1).trans rfl; have hfz7_0 := blk_frozen BK142.out 0; have hfz7_1 := blk_frozen BK142.out 1) | ((with_reducible refine gate_callee (f := 11) rfl ?_); refine goesL_ (some 6) rfl rfl Try.func11 (by kernel_rfl) rfl #[.agg #[.int .u64 a0_0, .int .u64 a0_1]] rfl (by (try simp only [List.map_toArray, List.map_cons, List.map_nil]); first | done | rfl | (simp only [List.length_drop, List.length_take]; rfl)) ?_; (with_reducible refine (sip_New.calls a0_0 a0_1 t143 t144 t145 t146 t147 t148 _ A3.out).mono ?_); rintro e w8 ⟨rfl, hb⟩; refine ⟨_, rfl, ?_⟩; have n0_ := Aside0.mk (blk_below (g := gb142) (o := .cells #[.int .u64 a0_0, .int .u64 a0_1] 24 (0, 0)) (by (with_reducible repeat (first | refine blk_drewN ?_ _ | refine blk_drew ?_ | refine blk_alloc ?_ _)); exact BK142.out) hb); have n1_ := Aside0.mk (below_step (by repeat (first | (with_reducible first | exact HB.out | apply below_alloc | apply pw_below_drewN | apply below_drew1 | refine below_set ?_ GE142.out) | exact HB.out)) hb); clear BK142; clear HB; have BK142 := n0_; have HB := n1_; clear n0_ n1_; (try clear hb); (try clear hb2); (try clear hk); (try clear hi)) | ((with_reducible refine gate_callee (f := 12) rfl ?_); refine goesL_ (some 8) rfl rfl Try.func12 (by kernel_rfl) rfl #[.agg #[.int .u64 t143, .int .u64 t144, .int .u64 t145, .int .u64 t146, .string t147, .int .i64 t148], .string a1] rfl (by (try simp only [List.map_toArray, List.map_cons, List.map_nil]); first | done | rfl | (simp only [List.length_drop, List.length_take]; rfl)) ?_; (with_reducible refine (sip_Write.calls k t143 t144 t145 t146 t147 t148 a1 t149 t150 t151 t152 t153 t154 _ A4.out).mono ?_); rintro e w9 ⟨rfl, hb⟩; refine ⟨_, rfl, ?_⟩; have n0_ := Aside0.mk (blk_below (g := gb142) (o := .cells #[.int .u64 a0_0, .int .u64 a0_1] 24 (0, 0)) (by (with_reducible repeat (first | refine blk_drewN ?_ _ | refine blk_drew ?_ | refine blk_alloc ?_ _)); exact BK142.out) hb); have n1_ := Aside0.mk (below_step (by repeat (first | (with_reducible first | exact HB.out | apply below_alloc | apply pw_below_drewN | apply below_drew1 | refine below_set ?_ GE142.out) | exact HB.out)) hb); clear BK142; clear HB; have BK142 := n0_; have HB := n1_; clear n0_ n1_; (try clear hb); (try clear hb2); (try clear hk); (try clear hi)) | ((with_reducible refine gate_callee (f := 14) rfl ?_); refine goesL_ (some 9) rfl rfl Try.func14 (by kernel_rfl) rfl #[.agg #[.int .u64 t149, .int .u64 t150, .int .u64 t151, .int .u64 t152, .string t153, .int .i64 t154]] rfl (by (try simp only [List.map_toArray, List.map_cons, List.map_nil]); first | done | rfl | (simp only [List.length_drop, List.length_take]; rfl)) ?_; (with_reducible refine (sip_Done.calls k t149 t150 t151 t152 t153 t154 t155 _ A5.out).mono ?_); rintro e w10 ⟨rfl, hb⟩; refine ⟨_, rfl, ?_⟩; have n0_ := Aside0.mk (blk_below (g := gb142) (o := .cells #[.int .u64 a0_0, .int .u64 a0_1] 24 (0, 0)) (by (with_reducible repeat (first | refine blk_drewN ?_ _ | refine blk_drew ?_ | refine blk_alloc ?_ _)); exact BK142.out) hb); have n1_ := Aside0.mk (below_step (by repeat (first | (with_reducible first | exact HB.out | apply below_alloc | apply pw_below_drewN | apply below_drew1 | refine below_set ?_ GE142.out) | exact HB.out)) hb); clear BK142; clear HB; have BK142 := n0_; have HB := n1_; clear n0_ n1_; (try clear hb); (try clear hb2); (try clear hk); (try clear hi)))
  go_ret
  exact ⟨by first | rfl | (simp [errW_none, errW_some] <;> rfl) | (simp [*, errW_none, errW_some] <;> rfl), by repeat (first | (with_reducible first | exact HB.out | apply below_alloc | apply pw_below_drewN | apply below_drew1 | refine below_set ?_ GE142.out) | exact HB.out)⟩

/-! ### samphirelaw05_awake: function 8 -/
def samphirelaw05_awake.f (k : Nat)  : Option (Bool) := (sip_Sum.f k 506097522914230528 1084818905618843912 (⟨#[]⟩ : ByteArray)).bind fun t157 => (if t157 = 8246050544436514353 then ((sip_Sum.f k 506097522914230528 1084818905618843912 (⟨#[0, 1, 2, 3, 4, 5, 6, 7, 8, 9, 10, 11, 12, 13, 14]⟩ : ByteArray)).bind fun t158 => (some (t158 == 11613035633349379557))) else (some false))
theorem samphirelaw05_awake.mono : ∀ k, LeO (samphirelaw05_awake.f k ) (samphirelaw05_awake.f (k + 1) ) := by
  intro  k
  unfold samphirelaw05_awake.f
  repeat' first
      | (with_reducible exact sip_Sum.mono _ _ _ _)
      | (with_reducible exact LeO.refl _)
      | (with_reducible exact LeO.none _)
      | (with_reducible refine LeO.ite ?_ ?_)
      | (with_reducible refine LeO.bind ?_ (fun _ => ?_))
      | exact sip_Sum.mono _ _ _ _
      | exact LeO.none _
      | refine LeO.ite ?_ ?_
      | refine LeO.bind ?_ (fun _ => ?_)
set_option maxHeartbeats 8000000 in
set_option maxRecDepth 100000 in
theorem samphirelaw05_awake.calls (k : Nat)  (r : Bool) (w : World) (h : samphirelaw05_awake.f k  = some r) :
    Calls Try.prog 8 #[] w fun e w' => e = .returned (.bool r) ∧ Below w.heap.size w w' := by
  have hu24 := Try.underlying24
  have HB := Aside0.mk (Below.refl w.heap.size w)
  have H : ((sip_Sum.f k 506097522914230528 1084818905618843912 (⟨#[]⟩ : ByteArray)).bind fun t157 => (if t157 = 8246050544436514353 then ((sip_Sum.f k 506097522914230528 1084818905618843912 (⟨#[0, 1, 2, 3, 4, 5, 6, 7, 8, 9, 10, 11, 12, 13, 14]⟩ : ByteArray)).bind fun t158 => (some (t158 == 11613035633349379557))) else (some false))) = some r := h
  clear h
  replace H := Option.bind_eq_some_iff.mp H
  obtain ⟨t157, A10, H⟩ := H
  replace H : (if t157 = 8246050544436514353 then ((sip_Sum.f k 506097522914230528 1084818905618843912 (⟨#[0, 1, 2, 3, 4, 5, 6, 7, 8, 9, 10, 11, 12, 13, 14]⟩ : ByteArray)).bind fun t158 => (some (t158 == 11613035633349379557))) else (some false)) = some r := H
  have A1 := Aside0.mk A10
  clear A10
  by_cases c2 : t157 = 8246050544436514353
  · rw [if_pos c2] at H
    have c2b0 : (t157 == 8246050544436514353) = true := beq_iff_eq.mpr c2
    have c2b1 : (t157 != 8246050544436514353) = false := bne_eq_false_iff_eq.mpr c2
    clear c2
    replace H := Option.bind_eq_some_iff.mp H
    obtain ⟨t158, A30, H⟩ := H
    replace H : (some (t158 == 11613035633349379557)) = some r := H
    have A3 := Aside0.mk A30
    clear A30
    obtain rfl := Option.some.inj H
    go_enter Try.func8, Try.ntmps8
    go_wp2_with (first | ((with_reducible refine gate_dst (N := 1) rfl ?_); refine box_event ?hg (N := 1) ?hd (cs := #[.int .u64 0, .int .u64 0]) (t := 24) ?hr ?_; (case hd => rfl); (case hg => rfl); (case hr => first | (go_simp; done) | (go_simp; rfl)); intro gb156 hg w4 hbox hb; have n0_ := Aside0.mk (below_step (by repeat (first | (with_reducible first | exact HB.out | apply below_alloc | apply pw_below_drewN | apply below_drew1) | exact HB.out)) hb); have n1_ := Aside0.mk (hbox); have n2_ := Aside0.mk ((by rw [hg]; exact (below_size (by repeat (first | (with_reducible first | exact HB.out | apply below_alloc | apply pw_below_drewN | apply below_drew1) | exact HB.out))) : w.heap.size ≤ gb156)); have n3_ := Aside0.mk ((by rw [hg]; exact (below_size (by repeat (first | (with_reducible first | exact HB.out | apply below_alloc | apply pw_below_drewN | apply below_drew1) | exact HB.out))) : w.heap.size ≤ gb156)); clear HB; have HB := n0_; have BK156 := n1_; have GW156 := n2_; have GE156 := n3_; clear n0_ n1_ n2_ n3_; clear hb hbox hg; have hcz5_0 : w4.cell? ⟨gb156, 0, none⟩ = some (.int .u64 0) := (blk_cell BK156.out 0).trans rfl; have hcz5_1 : w4.cell? ⟨gb156, 1, none⟩ = some (.int .u64 0) := (blk_cell BK156.out 1).trans rfl; have hfz5_0 := blk_frozen BK156.out 0; have hfz5_1 := blk_frozen BK156.out 1) | ((with_reducible refine gate_callee (f := 9) rfl ?_); refine goesL_ (some 4) rfl rfl Try.func9 (by kernel_rfl) rfl #[.agg #[.int .u64 506097522914230528, .int .u64 1084818905618843912], .string (⟨#[]⟩ : ByteArray)] rfl (by (try simp only [List.map_toArray, List.map_cons, List.map_nil]); first | done | rfl | (simp only [List.length_drop, List.length_take]; rfl)) ?_; (with_reducible refine (sip_Sum.calls k 506097522914230528 1084818905618843912 (⟨#[]⟩ : ByteArray) t157 _ A1.out).mono ?_); rintro e w6 ⟨rfl, hb⟩; refine ⟨_, rfl, ?_⟩; have n0_ := Aside0.mk (blk_below (g := gb156) (o := .cells #[.int .u64 506097522914230528, .int .u64 1084818905618843912] 24 (0, 0)) (by (with_reducible repeat (first | refine blk_drewN ?_ _ | refine blk_drew ?_ | refine blk_alloc ?_ _)); refine blk_put (cs := #[.int .u64 506097522914230528, .int .u64 0]) ?_ 1 _ rfl; (with_reducible repeat (first | refine blk_drewN ?_ _ | refine blk_drew ?_ | refine blk_alloc ?_ _)); refine blk_put (cs := #[.int .u64 0, .int .u64 0]) ?_ 0 _ rfl; (with_reducible repeat (first | refine blk_drewN ?_ _ | refine blk_drew ?_ | refine blk_alloc ?_ _)); exact BK156.out) hb); have n1_ := Aside0.mk (below_step (by repeat (first | (with_reducible first | exact HB.out | apply below_alloc | apply pw_below_drewN | apply below_drew1 | refine below_set ?_ GE156.out) | exact HB.out)) hb); clear BK156; clear HB; have BK156 := n0_; have HB := n1_; clear n0_ n1_; (try clear hb); (try clear hb2); (try clear hk); (try clear hi); have hcz7_0 : w6.cell? ⟨gb156, 0, none⟩ = some (.int .u64 506097522914230528) := (blk_cell BK156.out 0).trans rfl; have hcz7_1 : w6.cell? ⟨gb156, 1, none⟩ = some (.int .u64 1084818905618843912) := (blk_cell BK156.out 1).trans rfl; have hfz7_0 := blk_frozen BK156.out 0; have hfz7_1 := blk_frozen BK156.out 1) | (go_at_call 9; (with_reducible refine (sip_Sum.calls k 506097522914230528 1084818905618843912 (⟨#[0, 1, 2, 3, 4, 5, 6, 7, 8, 9, 10, 11, 12, 13, 14]⟩ : ByteArray) t158 _ A3.out).mono ?_); rintro e w8 ⟨rfl, hb⟩; have n0_ := Aside0.mk (blk_below (g := gb156) (o := .cells #[.int .u64 506097522914230528, .int .u64 1084818905618843912] 24 (0, 0)) (by (with_reducible repeat (first | refine blk_drewN ?_ _ | refine blk_drew ?_ | refine blk_alloc ?_ _)); exact BK156.out) hb); have n1_ := Aside0.mk (below_step (by repeat (first | (with_reducible first | exact HB.out | apply below_alloc | apply pw_below_drewN | apply below_drew1 | refine below_set ?_ GE156.out) | exact HB.out)) hb); clear BK156; clear HB; have BK156 := n0_; have HB := n1_; clear n0_ n1_; (try clear hb); (try clear hb2); (try clear hk); (try clear hi)))
    go_ret
    exact ⟨by first | rfl | (simp [errW_none, errW_some] <;> rfl) | (simp [*, errW_none, errW_some] <;> rfl), by repeat (first | (with_reducible first | exact HB.out | apply below_alloc | apply pw_below_drewN | apply below_drew1 | refine below_set ?_ GE156.out) | exact HB.out)⟩
  · rw [if_neg c2] at H
    have c2b0 : (t157 == 8246050544436514353) = false := beq_eq_false_iff_ne.mpr c2
    have c2b1 : (t157 != 8246050544436514353) = true := bne_iff_ne.mpr c2
    obtain rfl := Option.some.inj H
    go_enter Try.func8, Try.ntmps8
    go_wp2_with (first | ((with_reducible refine gate_dst (N := 1) rfl ?_); refine box_event ?hg (N := 1) ?hd (cs := #[.int .u64 0, .int .u64 0]) (t := 24) ?hr ?_; (case hd => rfl); (case hg => rfl); (case hr => first | (go_simp; done) | (go_simp; rfl)); intro gb156 hg w9 hbox hb; have n0_ := Aside0.mk (below_step (by repeat (first | (with_reducible first | exact HB.out | apply below_alloc | apply pw_below_drewN | apply below_drew1) | exact HB.out)) hb); have n1_ := Aside0.mk (hbox); have n2_ := Aside0.mk ((by rw [hg]; exact (below_size (by repeat (first | (with_reducible first | exact HB.out | apply below_alloc | apply pw_below_drewN | apply below_drew1) | exact HB.out))) : w.heap.size ≤ gb156)); have n3_ := Aside0.mk ((by rw [hg]; exact (below_size (by repeat (first | (with_reducible first | exact HB.out | apply below_alloc | apply pw_below_drewN | apply below_drew1) | exact HB.out))) : w.heap.size ≤ gb156)); clear HB; have HB := n0_; have BK156 := n1_; have GW156 := n2_; have GE156 := n3_; clear n0_ n1_ n2_ n3_; clear hb hbox hg; have hcz10_0 : w9.cell? ⟨gb156, 0, none⟩ = some (.int .u64 0) := (blk_cell BK156.out 0).trans rfl; have hcz10_1 : w9.cell? ⟨gb156, 1, none⟩ = some (.int .u64 0) := (blk_cell BK156.out 1).trans rfl; have hfz10_0 := blk_frozen BK156.out 0; have hfz10_1 := blk_frozen BK156.out 1) | ((with_reducible refine gate_callee (f := 9) rfl ?_); refine goesL_ (some 4) rfl rfl Try.func9 (by kernel_rfl) rfl #[.agg #[.int .u64 506097522914230528, .int .u64 1084818905618843912], .string (⟨#[]⟩ : ByteArray)] rfl (by (try simp only [List.map_toArray, List.map_cons, List.map_nil]); first | done | rfl | (simp only [List.length_drop, List.length_take]; rfl)) ?_; (with_reducible refine (sip_Sum.calls k 506097522914230528 1084818905618843912 (⟨#[]⟩ : ByteArray) t157 _ A1.out).mono ?_); rintro e w11 ⟨rfl, hb⟩; refine ⟨_, rfl, ?_⟩; have n0_ := Aside0.mk (blk_below (g := gb156) (o := .cells #[.int .u64 506097522914230528, .int .u64 1084818905618843912] 24 (0, 0)) (by (with_reducible repeat (first | refine blk_drewN ?_ _ | refine blk_drew ?_ | refine blk_alloc ?_ _)); refine blk_put (cs := #[.int .u64 506097522914230528, .int .u64 0]) ?_ 1 _ rfl; (with_reducible repeat (first | refine blk_drewN ?_ _ | refine blk_drew ?_ | refine blk_alloc ?_ _)); refine blk_put (cs := #[.int .u64 0, .int .u64 0]) ?_ 0 _ rfl; (with_reducible repeat (first | refine blk_drewN ?_ _ | refine blk_drew ?_ | refine blk_alloc ?_ _)); exact BK156.out) hb); have n1_ := Aside0.mk (below_step (by repeat (first | (with_reducible first | exact HB.out | apply below_alloc | apply pw_below_drewN | apply below_drew1 | refine below_set ?_ GE156.out) | exact HB.out)) hb); clear BK156; clear HB; have BK156 := n0_; have HB := n1_; clear n0_ n1_; (try clear hb); (try clear hb2); (try clear hk); (try clear hi)))
    go_ret
    exact ⟨by first | rfl | (simp [errW_none, errW_some] <;> rfl) | (simp [*, errW_none, errW_some] <;> rfl), by repeat (first | (with_reducible first | exact HB.out | apply below_alloc | apply pw_below_drewN | apply below_drew1 | refine below_set ?_ GE156.out) | exact HB.out)⟩

/-! ### samphireref05_left: function 20 -/
def samphireref05_left.f (a0 : Int) (a1 : Int) : Option (Int) := if 0 ≤ a1 then (if 0 ≤ (IntKind.u64.wrap (64 - a1)) then (some (Go.bits .or .u64 (shl .u64 a0 a1) (shr .u64 a0 (IntKind.u64.wrap (64 - a1))))) else (none)) else (none)
set_option maxHeartbeats 8000000 in
set_option maxRecDepth 100000 in
theorem samphireref05_left.calls (a0 : Int) (a1 : Int) (r : Int) (w : World) (h : samphireref05_left.f a0 a1 = some r) :
    Calls Try.prog 20 #[.int .u64 a0, .int .u64 a1] w fun e w' => e = .returned (.int .u64 r) ∧ Below w.heap.size w w' := by
  have HB := Aside0.mk (Below.refl w.heap.size w)
  have H : (if 0 ≤ a1 then (if 0 ≤ (IntKind.u64.wrap (64 - a1)) then (some (Go.bits .or .u64 (shl .u64 a0 a1) (shr .u64 a0 (IntKind.u64.wrap (64 - a1))))) else (none)) else (none)) = some r := h
  clear h
  by_cases c3 : 0 ≤ a1
  · rw [if_pos c3] at H
    have c3b0 := eq_true c3
    have c3b1 : decide (0 ≤ a1) = true := decide_eq_true c3
    clear c3
    obtain ⟨ji4, hji4⟩ : ∃ j_ : Int, (shl .u64 a0 a1) = j_ := ⟨_, rfl⟩
    replace H : (if 0 ≤ (IntKind.u64.wrap (64 - a1)) then (some (Go.bits .or .u64 (ji4) (shr .u64 a0 (IntKind.u64.wrap (64 - a1))))) else (none)) = some r := by first | (rw [hji4] at H; exact H) | (simp only [hji4] at H ⊢; exact H)
    have hji4_ : (IntKind.u64.wrap (a0 * 2 ^ min a1.toNat 64)) = ji4 := hji4
    have hji4z : a1 ≤ 64 → (IntKind.u64.wrap (a0 * 2 ^ a1.toNat)) = ji4 := shl_small hji4
    obtain ⟨ji5, hji5⟩ : ∃ j_ : Int, (IntKind.u64.wrap (64 - a1)) = j_ := ⟨_, rfl⟩
    replace H : (if 0 ≤ (ji5) then (some (Go.bits .or .u64 (ji4) (shr .u64 a0 (ji5)))) else (none)) = some r := by first | (rw [hji5] at H; exact H) | (simp only [hji5] at H ⊢; exact H)
    by_cases c6 : 0 ≤ (ji5)
    · rw [if_pos c6] at H
      have c6b0 := eq_true c6
      have c6b1 : decide (0 ≤ (ji5)) = true := decide_eq_true c6
      clear c6
      obtain ⟨ji7, hji7⟩ : ∃ j_ : Int, (shr .u64 a0 (ji5)) = j_ := ⟨_, rfl⟩
      replace H : (some (Go.bits .or .u64 (ji4) (ji7))) = some r := by first | (rw [hji7] at H; exact H) | (simp only [hji7] at H ⊢; exact H)
      have hji7_ : (a0 / 2 ^ min (ji5).toNat 64) = ji7 := hji7
      have hji7z : (ji5) ≤ 64 → (a0 / 2 ^ (ji5).toNat) = ji7 := shr_small hji7
      obtain rfl := Option.some.inj H
      go_enter Try.func20, Try.ntmps20
      go_wp2
      go_ret
      exact ⟨by first | rfl | (simp [errW_none, errW_some] <;> rfl) | (simp only [← hji4, ← hji5, ← hji7]; first | rfl | (simp [errW_none, errW_some] <;> rfl)) | (simp [*, errW_none, errW_some] <;> rfl), by repeat (first | (with_reducible first | exact HB.out | apply below_alloc | apply pw_below_drewN | apply below_drew1) | exact HB.out)⟩
    · rw [if_neg c6] at H
      exact absurd H (by simp)
  · rw [if_neg c3] at H
    exact absurd H (by simp)

end Go.Proofs.Ytibdfimhhagjdaa.H
