-- laid by wip/hyb.py (the kit's printer with turns of ours)
import Derived.Test.YtnpipaehcklnbaaHx0
import Derived.Test.YtnpipaehcklnbaaHx5
namespace Go.Proofs.Ytnpipaehcklnbaa.H
open Go.RowKit Go.Proofs.YtnpipaehcklnbaaW.PrintWords Go.Proofs.YtnpipaehcklnbaaW.PrintLast Go.Proofs.YtnpipaehcklnbaaW.PrintMore
attribute [local go_sem] max2_int min2_int max_two min_two max_three min_three max_four min_four   -- for this text's walks alone
set_option linter.unusedVariables false
set_option linter.unusedSimpArgs false

/-! ### samphireref19_Meant: function 13 -/
mutual
def samphireref19_Meant.l0 : Nat → List (S46) → ByteArray → Int → Option (Bool)
  | 0, _, _, _ => none
  | k + 1, x0, x1, x5 => if x5 < (x0.length : Int) then (if 0 ≤ x5 then (if ((rd_T46 x0 x5).f0) = 1 then (if (x1.size : Int) < (((rd_T46 x0 x5).f1).size : Int) then (samphireref19_Meant.j1 k x0 x1 x5 true ((rd_T46 x0 x5).f0) ((rd_T46 x0 x5).f1) ((rd_T46 x0 x5).f2) ((rd_T46 x0 x5).f3)) else (if 0 ≤ (((rd_T46 x0 x5).f1).size : Int) then (if (((rd_T46 x0 x5).f1).size : Int) ≤ (x1.size : Int) then (samphireref19_Meant.j1 k x0 x1 x5 ((x1.extract 0 ((((rd_T46 x0 x5).f1).size : Int) : Int).toNat).toList != ((rd_T46 x0 x5).f1).toList) ((rd_T46 x0 x5).f0) ((rd_T46 x0 x5).f1) ((rd_T46 x0 x5).f2) ((rd_T46 x0 x5).f3)) else (none)) else (none))) else (samphireref19_Meant.j1 k x0 x1 x5 false ((rd_T46 x0 x5).f0) ((rd_T46 x0 x5).f1) ((rd_T46 x0 x5).f2) ((rd_T46 x0 x5).f3))) else (none)) else (some true)
def samphireref19_Meant.j1 : Nat → List (S46) → ByteArray → Int → Bool → Int → ByteArray → ByteArray → List ByteArray → Option (Bool)
  | 0, _, _, _, _, _, _, _, _ => none
  | k + 1, x0, x1, x5, x41, x182000, x182001, x182002, x182003 => if x41 = true then (some false) else (if x182000 = 2 then (if (Op.bytesLess x1.toList x182001.toList) = true then (samphireref19_Meant.j2 k x0 x1 x5 true x182000 x182001 x182002 x182003) else (if x182002.toList = ([] : List UInt8) then (samphireref19_Meant.j2 k x0 x1 x5 false x182000 x182001 x182002 x182003) else (samphireref19_Meant.j2 k x0 x1 x5 (!(Op.bytesLess x1.toList x182002.toList)) x182000 x182001 x182002 x182003))) else (samphireref19_Meant.j2 k x0 x1 x5 false x182000 x182001 x182002 x182003))
def samphireref19_Meant.j2 : Nat → List (S46) → ByteArray → Int → Bool → Int → ByteArray → ByteArray → List ByteArray → Option (Bool)
  | 0, _, _, _, _, _, _, _, _ => none
  | k + 1, x0, x1, x5, x61, x182000, x182001, x182002, x182003 => if x61 = true then (some false) else ((samphireref19_in.f k x182003 x1).bind fun t182 => (if x182000 = 3 then (if t182 = true then (if x182000 = 4 then (some false) else (samphireref19_Meant.l0 k x0 x1 (wrap64 (x5 + 1)))) else (some false)) else (if x182000 = 4 then (if t182 = true then (some false) else (samphireref19_Meant.l0 k x0 x1 (wrap64 (x5 + 1)))) else (samphireref19_Meant.l0 k x0 x1 (wrap64 (x5 + 1))))))
end
def samphireref19_Meant.f (k : Nat) (l0 : List (S46)) (a1 : ByteArray) : Option (Bool) := (samphireref19_All.f k l0).bind fun t179 => (if t179 = true then (samphireref19_Meant.l0 k l0 a1 0) else (some false))
theorem samphireref19_Meant.mono_l : ∀ k, (∀ y0 y1 y2, LeO (samphireref19_Meant.l0 k y0 y1 y2) (samphireref19_Meant.l0 (k + 1) y0 y1 y2)) ∧ (∀ y0 y1 y2 y3 y4 y5 y6 y7, LeO (samphireref19_Meant.j1 k y0 y1 y2 y3 y4 y5 y6 y7) (samphireref19_Meant.j1 (k + 1) y0 y1 y2 y3 y4 y5 y6 y7)) ∧ (∀ y0 y1 y2 y3 y4 y5 y6 y7, LeO (samphireref19_Meant.j2 k y0 y1 y2 y3 y4 y5 y6 y7) (samphireref19_Meant.j2 (k + 1) y0 y1 y2 y3 y4 y5 y6 y7))
  | 0 => ⟨fun _ _ _ r h => by simp [samphireref19_Meant.l0] at h, fun _ _ _ _ _ _ _ _ r h => by simp [samphireref19_Meant.j1] at h, fun _ _ _ _ _ _ _ _ r h => by simp [samphireref19_Meant.j2] at h⟩
  | k + 1 => by
    obtain ⟨ih0, ih1, ih2⟩ := samphireref19_Meant.mono_l k
    refine ⟨?_, ?_, ?_⟩
    · intro y0 y1 y2
      unfold samphireref19_Meant.l0
      repeat' first
      | (with_reducible exact ih0 _ _ _)
      | (with_reducible exact ih1 _ _ _ _ _ _ _ _)
      | (with_reducible exact ih2 _ _ _ _ _ _ _ _)
      | (with_reducible exact samphireref19_All.mono _ _)
      | (with_reducible exact samphireref19_in.mono _ _ _)
      | (with_reducible exact LeO.refl _)
      | (with_reducible exact LeO.none _)
      | (with_reducible refine LeO.ite ?_ ?_)
      | (with_reducible refine LeO.bind ?_ (fun _ => ?_))
      | exact ih0 _ _ _
      | exact ih1 _ _ _ _ _ _ _ _
      | exact ih2 _ _ _ _ _ _ _ _
      | exact samphireref19_All.mono _ _
      | exact samphireref19_in.mono _ _ _
      | exact LeO.none _
      | refine LeO.ite ?_ ?_
      | refine LeO.bind ?_ (fun _ => ?_)
    · intro y0 y1 y2 y3 y4 y5 y6 y7
      unfold samphireref19_Meant.j1
      repeat' first
      | (with_reducible exact ih0 _ _ _)
      | (with_reducible exact ih1 _ _ _ _ _ _ _ _)
      | (with_reducible exact ih2 _ _ _ _ _ _ _ _)
      | (with_reducible exact samphireref19_All.mono _ _)
      | (with_reducible exact samphireref19_in.mono _ _ _)
      | (with_reducible exact LeO.refl _)
      | (with_reducible exact LeO.none _)
      | (with_reducible refine LeO.ite ?_ ?_)
      | (with_reducible refine LeO.bind ?_ (fun _ => ?_))
      | exact ih0 _ _ _
      | exact ih1 _ _ _ _ _ _ _ _
      | exact ih2 _ _ _ _ _ _ _ _
      | exact samphireref19_All.mono _ _
      | exact samphireref19_in.mono _ _ _
      | exact LeO.none _
      | refine LeO.ite ?_ ?_
      | refine LeO.bind ?_ (fun _ => ?_)
    · intro y0 y1 y2 y3 y4 y5 y6 y7
      unfold samphireref19_Meant.j2
      repeat' first
      | (with_reducible exact ih0 _ _ _)
      | (with_reducible exact ih1 _ _ _ _ _ _ _ _)
      | (with_reducible exact ih2 _ _ _ _ _ _ _ _)
      | (with_reducible exact samphireref19_All.mono _ _)
      | (with_reducible exact samphireref19_in.mono _ _ _)
      | (with_reducible exact LeO.refl _)
      | (with_reducible exact LeO.none _)
      | (with_reducible refine LeO.ite ?_ ?_)
      | (with_reducible refine LeO.bind ?_ (fun _ => ?_))
      | exact ih0 _ _ _
      | exact ih1 _ _ _ _ _ _ _ _
      | exact ih2 _ _ _ _ _ _ _ _
      | exact samphireref19_All.mono _ _
      | exact samphireref19_in.mono _ _ _
      | exact LeO.none _
      | refine LeO.ite ?_ ?_
      | refine LeO.bind ?_ (fun _ => ?_)
theorem samphireref19_Meant.mono : ∀ a0 a1 k, LeO (samphireref19_Meant.f k a0 a1) (samphireref19_Meant.f (k + 1) a0 a1) := by
  intro a0 a1 k
  obtain ⟨ih0, ih1, ih2⟩ := samphireref19_Meant.mono_l k
  unfold samphireref19_Meant.f
  repeat' first
      | (with_reducible exact ih0 _ _ _)
      | (with_reducible exact ih1 _ _ _ _ _ _ _ _)
      | (with_reducible exact ih2 _ _ _ _ _ _ _ _)
      | (with_reducible exact samphireref19_All.mono _ _)
      | (with_reducible exact samphireref19_in.mono _ _ _)
      | (with_reducible exact LeO.refl _)
      | (with_reducible exact LeO.none _)
      | (with_reducible refine LeO.ite ?_ ?_)
      | (with_reducible refine LeO.bind ?_ (fun _ => ?_))
      | exact ih0 _ _ _
      | exact ih1 _ _ _ _ _ _ _ _
      | exact ih2 _ _ _ _ _ _ _ _
      | exact samphireref19_All.mono _ _
      | exact samphireref19_in.mono _ _ _
      | exact LeO.none _
      | refine LeO.ite ?_ ?_
      | refine LeO.bind ?_ (fun _ => ?_)
set_option maxHeartbeats 8000000 in
set_option maxRecDepth 100000 in
theorem samphireref19_Meant.calls (k : Nat) (A0 : Option Addr) (c0 : Nat) (l0 : List (S46)) (a1 : ByteArray) (r : Bool) (w : World) (hr0 : Kd.C k46 w A0 l0.length l0) (hc0 : l0.length ≤ c0) (h : samphireref19_Meant.f k l0 a1 = some r) :
    Calls Try.prog 13 #[.slice A0 l0.length c0, .string a1] w fun e w' => e = .returned (.bool r) ∧ Below w.heap.size w w' := by
  have hu46 := Try.underlying46
  have HR0 := Aside0.mk hr0
  have HC0 := Aside0.mk hc0
  clear hr0 hc0
  have HB := Aside0.mk (Below.refl w.heap.size w)
  have H : ((samphireref19_All.f k l0).bind fun t179 => (if t179 = true then (samphireref19_Meant.l0 k l0 a1 0) else (some false))) = some r := h
  clear h
  replace H := Option.bind_eq_some_iff.mp H
  obtain ⟨t179, A30, H⟩ := H
  replace H : (if t179 = true then (samphireref19_Meant.l0 k l0 a1 0) else (some false)) = some r := H
  have A3 := Aside0.mk A30
  clear A30
  by_cases c4 : t179 = true
  · subst c4
    have H1 : (samphireref19_Meant.l0 k l0 a1 0) = some r := by rw [if_pos rfl] at H; exact H
    clear H
    have H := H1
    clear H1
    have H' := Aside0.mk H
    clear H
    go_enter Try.func13, Try.ntmps13
    go_wp2_with (first | (go_at_call 15; (with_reducible refine (samphireref19_All.calls k _ _ l0 true _ ?side1 ?side2 A3.out).mono ?_); (case side1 => repeat (first | exact HR0.out | (with_reducible refine Kd.C_alloc ?_ _) | (with_reducible refine Kd.C_drewN ?_ _) | (with_reducible refine Kd.C_drew ?_))); (case side2 => exact HC0.out); rintro e w5 ⟨rfl, hb⟩; have n0_ := Aside0.mk (below_step (by repeat (first | (with_reducible first | exact HB.out | apply below_alloc | apply pw_below_drewN | apply below_drew1) | exact HB.out)) hb); clear HB; have HB := n0_; clear n0_; (try clear hb); (try clear hb2); (try clear hk); (try clear hi)))
    repeat (go_quiet (first | (go_at_call 15; (with_reducible refine (samphireref19_All.calls k _ _ l0 true _ ?side1 ?side2 A3.out).mono ?_); (case side1 => repeat (first | exact HR0.out | (with_reducible refine Kd.C_alloc ?_ _) | (with_reducible refine Kd.C_drewN ?_ _) | (with_reducible refine Kd.C_drew ?_))); (case side2 => exact HC0.out); rintro e w5 ⟨rfl, hb⟩; have n0_ := Aside0.mk (below_step (by repeat (first | (with_reducible first | exact HB.out | apply below_alloc | apply pw_below_drewN | apply below_drew1) | exact HB.out)) hb); clear HB; have HB := n0_; clear n0_; (try clear hb); (try clear hb2); (try clear hk); (try clear hi))); try go_wp2_with (first | (go_at_call 15; (with_reducible refine (samphireref19_All.calls k _ _ l0 true _ ?side1 ?side2 A3.out).mono ?_); (case side1 => repeat (first | exact HR0.out | (with_reducible refine Kd.C_alloc ?_ _) | (with_reducible refine Kd.C_drewN ?_ _) | (with_reducible refine Kd.C_drew ?_))); (case side2 => exact HC0.out); rintro e w5 ⟨rfl, hb⟩; have n0_ := Aside0.mk (below_step (by repeat (first | (with_reducible first | exact HB.out | apply below_alloc | apply pw_below_drewN | apply below_drew1) | exact HB.out)) hb); clear HB; have HB := n0_; clear n0_; (try clear hb); (try clear hb2); (try clear hk); (try clear hi))))
    go_loopg [5] k (fun kq v5 w' => ∃ (x5_1 : Int), v5 = .int .i64 x5_1 ∧ Aside0 (samphireref19_Meant.l0 kq l0 a1 x5_1 = some r) ∧ Aside0 (kq ≤ k) ∧ Aside0 (Below w.heap.size w w'))
    case atStart => exact ⟨(0), (by first | rfl | (simp; done) | (simp [*]; done)), H', ⟨Nat.le_refl _⟩, ⟨by repeat (first | (with_reducible first | exact HB.out | apply below_alloc | apply pw_below_drewN | apply below_drew1) | exact HB.out)⟩⟩
    case round =>
      clear H'
      try clear c1
      try clear p2
      try clear c4
      obtain ⟨x5_1, rfl, HA, HK1, HB⟩ := hrel
      cases gk with
      | zero => exact absurd HA.out (by simp [samphireref19_Meant.l0])
      | succ k1 =>
        have H := HA.out
        clear HA
        simp only [samphireref19_Meant.l0] at H
        by_cases c6 : x5_1 < (l0.length : Int)
        · rw [if_pos c6] at H
          have c6b0 : decide (x5_1 < (l0.length : Int)) = true := decide_eq_true c6
          clear c6
          by_cases c7 : 0 ≤ x5_1
          · rw [if_pos c7] at H
            have c7b0 : decide (0 ≤ x5_1) = true := decide_eq_true c7
            clear c7
            have HC8 := Aside0.mk H
            clear H
            have p180 : 0 ≤ (x5_1 : Int) := of_decide_eq_true (by first | (with_reducible assumption) | assumption)
            have q180 : x5_1 < (l0.length : Int) := of_decide_eq_true (by first | (with_reducible assumption) | assumption)
            obtain ⟨ad180, A180_3, c180_3, e180, hx180_0, hx180_1, hx180_2, hx180_3, hl180_3, hi180_3⟩ := at_T46 HR0.out x5_1 p180 q180
            cases e180
            replace hx180_0 := (HB.out.cell (World.block_lt_of_cell? w _ hx180_0)).trans hx180_0
            replace hx180_1 := (HB.out.cell (World.block_lt_of_cell? w _ hx180_1)).trans hx180_1
            replace hx180_2 := (HB.out.cell (World.block_lt_of_cell? w _ hx180_2)).trans hx180_2
            replace hx180_3 := (HB.out.cell (World.block_lt_of_cell? w _ hx180_3)).trans hx180_3
            have HR180_3 := Aside0.mk hi180_3
            have HC180_3 := Aside0.mk hl180_3
            clear hi180_3 hl180_3
            replace p180 := eq_true p180
            replace q180 := eq_true q180
            go_upto_region 7 with (first | ((with_reducible refine gate_dst (N := 6) rfl ?_); (try (refine gate_guard (by rfl) ?_; dsimp only)); refine box_event ?hg (N := 6) ?hd (cs := #[.int .i64 0, .string (⟨#[]⟩ : ByteArray), .string (⟨#[]⟩ : ByteArray), .slice none 0 0]) (t := 46) ?hr ?_; (case hd => rfl); (case hg => rfl); (case hr => first | (go_simp; done) | (go_simp; rfl)); intro gb181 hg w9 hbox hb; have n0_ := Aside0.mk (below_step (by repeat (first | (with_reducible first | exact HB.out | apply below_alloc | apply pw_below_drewN | apply below_drew1) | exact HB.out)) hb); have n1_ := Aside0.mk (hbox); have n2_ := Aside0.mk ((by rw [hg]; exact (below_size (by repeat (first | (with_reducible first | exact HB.out | apply below_alloc | apply pw_below_drewN | apply below_drew1) | exact HB.out))) : w.heap.size ≤ gb181)); have n3_ := Aside0.mk ((by rw [hg]; exact (below_size (by repeat (first | (with_reducible first | exact HB.out | apply below_alloc | apply pw_below_drewN | apply below_drew1) | exact HB.out))) : w.heap.size ≤ gb181)); clear HB; have HB := n0_; have BK181 := n1_; have GW181 := n2_; have GE181 := n3_; clear n0_ n1_ n2_ n3_; clear hb hbox hg; have hcz10_0 : w9.cell? ⟨gb181, 0, none⟩ = some (.int .i64 0) := (blk_cell BK181.out 0).trans rfl; have hcz10_1 : w9.cell? ⟨gb181, 1, none⟩ = some (.string (⟨#[]⟩ : ByteArray)) := (blk_cell BK181.out 1).trans rfl; have hcz10_2 : w9.cell? ⟨gb181, 2, none⟩ = some (.string (⟨#[]⟩ : ByteArray)) := (blk_cell BK181.out 2).trans rfl; have hcz10_3 : w9.cell? ⟨gb181, 3, none⟩ = some (.slice none 0 0) := (blk_cell BK181.out 3).trans rfl; have hfz10_0 := blk_frozen BK181.out 0; have hfz10_1 := blk_frozen BK181.out 1; have hfz10_2 := blk_frozen BK181.out 2; have hfz10_3 := blk_frozen BK181.out 3))
            repeat (go_quiet (first | ((with_reducible refine gate_dst (N := 6) rfl ?_); (try (refine gate_guard (by rfl) ?_; dsimp only)); refine box_event ?hg (N := 6) ?hd (cs := #[.int .i64 0, .string (⟨#[]⟩ : ByteArray), .string (⟨#[]⟩ : ByteArray), .slice none 0 0]) (t := 46) ?hr ?_; (case hd => rfl); (case hg => rfl); (case hr => first | (go_simp; done) | (go_simp; rfl)); intro gb181 hg w9 hbox hb; have n0_ := Aside0.mk (below_step (by repeat (first | (with_reducible first | exact HB.out | apply below_alloc | apply pw_below_drewN | apply below_drew1) | exact HB.out)) hb); have n1_ := Aside0.mk (hbox); have n2_ := Aside0.mk ((by rw [hg]; exact (below_size (by repeat (first | (with_reducible first | exact HB.out | apply below_alloc | apply pw_below_drewN | apply below_drew1) | exact HB.out))) : w.heap.size ≤ gb181)); have n3_ := Aside0.mk ((by rw [hg]; exact (below_size (by repeat (first | (with_reducible first | exact HB.out | apply below_alloc | apply pw_below_drewN | apply below_drew1) | exact HB.out))) : w.heap.size ≤ gb181)); clear HB; have HB := n0_; have BK181 := n1_; have GW181 := n2_; have GE181 := n3_; clear n0_ n1_ n2_ n3_; clear hb hbox hg; have hcz10_0 : w9.cell? ⟨gb181, 0, none⟩ = some (.int .i64 0) := (blk_cell BK181.out 0).trans rfl; have hcz10_1 : w9.cell? ⟨gb181, 1, none⟩ = some (.string (⟨#[]⟩ : ByteArray)) := (blk_cell BK181.out 1).trans rfl; have hcz10_2 : w9.cell? ⟨gb181, 2, none⟩ = some (.string (⟨#[]⟩ : ByteArray)) := (blk_cell BK181.out 2).trans rfl; have hcz10_3 : w9.cell? ⟨gb181, 3, none⟩ = some (.slice none 0 0) := (blk_cell BK181.out 3).trans rfl; have hfz10_0 := blk_frozen BK181.out 0; have hfz10_1 := blk_frozen BK181.out 1; have hfz10_2 := blk_frozen BK181.out 2; have hfz10_3 := blk_frozen BK181.out 3)); go_upto_region 7 with (first | ((with_reducible refine gate_dst (N := 6) rfl ?_); (try (refine gate_guard (by rfl) ?_; dsimp only)); refine box_event ?hg (N := 6) ?hd (cs := #[.int .i64 0, .string (⟨#[]⟩ : ByteArray), .string (⟨#[]⟩ : ByteArray), .slice none 0 0]) (t := 46) ?hr ?_; (case hd => rfl); (case hg => rfl); (case hr => first | (go_simp; done) | (go_simp; rfl)); intro gb181 hg w9 hbox hb; have n0_ := Aside0.mk (below_step (by repeat (first | (with_reducible first | exact HB.out | apply below_alloc | apply pw_below_drewN | apply below_drew1) | exact HB.out)) hb); have n1_ := Aside0.mk (hbox); have n2_ := Aside0.mk ((by rw [hg]; exact (below_size (by repeat (first | (with_reducible first | exact HB.out | apply below_alloc | apply pw_below_drewN | apply below_drew1) | exact HB.out))) : w.heap.size ≤ gb181)); have n3_ := Aside0.mk ((by rw [hg]; exact (below_size (by repeat (first | (with_reducible first | exact HB.out | apply below_alloc | apply pw_below_drewN | apply below_drew1) | exact HB.out))) : w.heap.size ≤ gb181)); clear HB; have HB := n0_; have BK181 := n1_; have GW181 := n2_; have GE181 := n3_; clear n0_ n1_ n2_ n3_; clear hb hbox hg; have hcz10_0 : w9.cell? ⟨gb181, 0, none⟩ = some (.int .i64 0) := (blk_cell BK181.out 0).trans rfl; have hcz10_1 : w9.cell? ⟨gb181, 1, none⟩ = some (.string (⟨#[]⟩ : ByteArray)) := (blk_cell BK181.out 1).trans rfl; have hcz10_2 : w9.cell? ⟨gb181, 2, none⟩ = some (.string (⟨#[]⟩ : ByteArray)) := (blk_cell BK181.out 2).trans rfl; have hcz10_3 : w9.cell? ⟨gb181, 3, none⟩ = some (.slice none 0 0) := (blk_cell BK181.out 3).trans rfl; have hfz10_0 := blk_frozen BK181.out 0; have hfz10_1 := blk_frozen BK181.out 1; have hfz10_2 := blk_frozen BK181.out 2; have hfz10_3 := blk_frozen BK181.out 3)))
            (try simp only [Act.put, List.setIfInBounds_toArray, List.set_cons_zero, List.set_cons_succ])
            go_cut [41] (fun v41 wc => ∃ (kq : Nat) (x41_7 : Bool), v41 = .bool x41_7 ∧ Aside0 (samphireref19_Meant.j1 kq l0 a1 x5_1 x41_7 ((rd_T46 l0 x5_1).f0) ((rd_T46 l0 x5_1).f1) ((rd_T46 l0 x5_1).f2) ((rd_T46 l0 x5_1).f3) = some r) ∧ Aside0 (kq ≤ k1) ∧ Aside0 (wc.heap[gb181]? = some (.cells #[.int .i64 ((rd_T46 l0 x5_1).f0), .string ((rd_T46 l0 x5_1).f1), .string ((rd_T46 l0 x5_1).f2), (.slice A180_3 ((rd_T46 l0 x5_1).f3).length c180_3)] 46 (0, 0))) ∧ Aside0 (Below w.heap.size w wc))
            case first =>
              have H := HC8.out
              clear HC8
              by_cases c11 : ((rd_T46 l0 x5_1).f0) = 1
              · rw [if_pos c11] at H
                have c11b0 : (((rd_T46 l0 x5_1).f0) == 1) = true := beq_iff_eq.mpr c11
                have c11b1 : (((rd_T46 l0 x5_1).f0) != 1) = false := bne_eq_false_iff_eq.mpr c11
                clear c11
                (first | rw [c11b0] | (simp only [i64_w, i32_w]; rw [c11b0]) | skip)
                by_cases c12 : (a1.size : Int) < (((rd_T46 l0 x5_1).f1).size : Int)
                · rw [if_pos c12] at H
                  have c12b0 : decide ((a1.size : Int) < (((rd_T46 l0 x5_1).f1).size : Int)) = true := decide_eq_true c12
                  have c12b1 : decide (a1.size < ((rd_T46 l0 x5_1).f1).size) = true := decide_eq_true (Int.ofNat_lt.mp c12)
                  clear c12
                  have H' := Aside0.mk H
                  clear H
                  have hcz13_0 : w9.cell? ⟨gb181, 0, none⟩ = some (.int .i64 0) := (blk_cell BK181.out 0).trans rfl
                  have hcz13_1 : w9.cell? ⟨gb181, 1, none⟩ = some (.string (⟨#[]⟩ : ByteArray)) := (blk_cell BK181.out 1).trans rfl
                  have hcz13_2 : w9.cell? ⟨gb181, 2, none⟩ = some (.string (⟨#[]⟩ : ByteArray)) := (blk_cell BK181.out 2).trans rfl
                  have hcz13_3 : w9.cell? ⟨gb181, 3, none⟩ = some (.slice none 0 0) := (blk_cell BK181.out 3).trans rfl
                  have hfz13_0 := blk_frozen BK181.out 0
                  have hfz13_1 := blk_frozen BK181.out 1
                  have hfz13_2 := blk_frozen BK181.out 2
                  have hfz13_3 := blk_frozen BK181.out 3
                  go_wp2
                  repeat (go_quiet (fail); try go_wp2)
                  go_meet
                  case rel => exact ⟨_, (true), (by first | rfl | (simp; done) | (simp [*]; done)), H', ⟨by have := HK1.out; first | omega | exact Nat.le_refl _⟩, ⟨by (with_reducible repeat (first | refine blk_drewN ?_ _ | refine blk_drew ?_ | refine blk_alloc ?_ _)); refine blk_put (cs := #[.int .i64 ((rd_T46 l0 x5_1).f0), .string ((rd_T46 l0 x5_1).f1), .string ((rd_T46 l0 x5_1).f2), .slice none 0 0]) ?_ 3 _ rfl; (with_reducible repeat (first | refine blk_drewN ?_ _ | refine blk_drew ?_ | refine blk_alloc ?_ _)); refine blk_put (cs := #[.int .i64 ((rd_T46 l0 x5_1).f0), .string ((rd_T46 l0 x5_1).f1), .string (⟨#[]⟩ : ByteArray), .slice none 0 0]) ?_ 2 _ rfl; (with_reducible repeat (first | refine blk_drewN ?_ _ | refine blk_drew ?_ | refine blk_alloc ?_ _)); refine blk_put (cs := #[.int .i64 ((rd_T46 l0 x5_1).f0), .string (⟨#[]⟩ : ByteArray), .string (⟨#[]⟩ : ByteArray), .slice none 0 0]) ?_ 1 _ rfl; (with_reducible repeat (first | refine blk_drewN ?_ _ | refine blk_drew ?_ | refine blk_alloc ?_ _)); refine blk_put (cs := #[.int .i64 0, .string (⟨#[]⟩ : ByteArray), .string (⟨#[]⟩ : ByteArray), .slice none 0 0]) ?_ 0 _ rfl; (with_reducible repeat (first | refine blk_drewN ?_ _ | refine blk_drew ?_ | refine blk_alloc ?_ _)); exact BK181.out⟩, ⟨by repeat (first | (with_reducible first | exact HB.out | apply below_alloc | apply pw_below_drewN | apply below_drew1 | refine below_set ?_ GE181.out) | exact HB.out)⟩⟩
                · rw [if_neg c12] at H
                  have c12b0 : decide ((a1.size : Int) < (((rd_T46 l0 x5_1).f1).size : Int)) = false := decide_eq_false c12
                  have c12b1 : decide (a1.size < ((rd_T46 l0 x5_1).f1).size) = false := decide_eq_false (fun h => c12 (Int.ofNat_lt.mpr h))
                  clear c12
                  by_cases c14 : 0 ≤ (((rd_T46 l0 x5_1).f1).size : Int)
                  · rw [if_pos c14] at H
                    have c14b0 := eq_true c14
                    have c14b1 : decide (0 ≤ (((rd_T46 l0 x5_1).f1).size : Int)) = true := decide_eq_true c14
                    clear c14
                    by_cases c15 : (((rd_T46 l0 x5_1).f1).size : Int) ≤ (a1.size : Int)
                    · rw [if_pos c15] at H
                      have c15b0 := eq_true c15
                      have c15b1 : decide ((((rd_T46 l0 x5_1).f1).size : Int) ≤ (a1.size : Int)) = true := decide_eq_true c15
                      clear c15
                      have H' := Aside0.mk H
                      clear H
                      have hcz16_0 : w9.cell? ⟨gb181, 0, none⟩ = some (.int .i64 0) := (blk_cell BK181.out 0).trans rfl
                      have hcz16_1 : w9.cell? ⟨gb181, 1, none⟩ = some (.string (⟨#[]⟩ : ByteArray)) := (blk_cell BK181.out 1).trans rfl
                      have hcz16_2 : w9.cell? ⟨gb181, 2, none⟩ = some (.string (⟨#[]⟩ : ByteArray)) := (blk_cell BK181.out 2).trans rfl
                      have hcz16_3 : w9.cell? ⟨gb181, 3, none⟩ = some (.slice none 0 0) := (blk_cell BK181.out 3).trans rfl
                      have hfz16_0 := blk_frozen BK181.out 0
                      have hfz16_1 := blk_frozen BK181.out 1
                      have hfz16_2 := blk_frozen BK181.out 2
                      have hfz16_3 := blk_frozen BK181.out 3
                      go_wp2
                      repeat (go_quiet (fail); try go_wp2)
                      go_meet
                      case rel => exact ⟨_, (((a1.extract 0 ((((rd_T46 l0 x5_1).f1).size : Int) : Int).toNat).toList != ((rd_T46 l0 x5_1).f1).toList)), (by first | rfl | (simp; done) | (simp [*]; done)), H', ⟨by have := HK1.out; first | omega | exact Nat.le_refl _⟩, ⟨by (with_reducible repeat (first | refine blk_drewN ?_ _ | refine blk_drew ?_ | refine blk_alloc ?_ _)); refine blk_put (cs := #[.int .i64 ((rd_T46 l0 x5_1).f0), .string ((rd_T46 l0 x5_1).f1), .string ((rd_T46 l0 x5_1).f2), .slice none 0 0]) ?_ 3 _ rfl; (with_reducible repeat (first | refine blk_drewN ?_ _ | refine blk_drew ?_ | refine blk_alloc ?_ _)); refine blk_put (cs := #[.int .i64 ((rd_T46 l0 x5_1).f0), .string ((rd_T46 l0 x5_1).f1), .string (⟨#[]⟩ : ByteArray), .slice none 0 0]) ?_ 2 _ rfl; (with_reducible repeat (first | refine blk_drewN ?_ _ | refine blk_drew ?_ | refine blk_alloc ?_ _)); refine blk_put (cs := #[.int .i64 ((rd_T46 l0 x5_1).f0), .string (⟨#[]⟩ : ByteArray), .string (⟨#[]⟩ : ByteArray), .slice none 0 0]) ?_ 1 _ rfl; (with_reducible repeat (first | refine blk_drewN ?_ _ | refine blk_drew ?_ | refine blk_alloc ?_ _)); refine blk_put (cs := #[.int .i64 0, .string (⟨#[]⟩ : ByteArray), .string (⟨#[]⟩ : ByteArray), .slice none 0 0]) ?_ 0 _ rfl; (with_reducible repeat (first | refine blk_drewN ?_ _ | refine blk_drew ?_ | refine blk_alloc ?_ _)); exact BK181.out⟩, ⟨by repeat (first | (with_reducible first | exact HB.out | apply below_alloc | apply pw_below_drewN | apply below_drew1 | refine below_set ?_ GE181.out) | exact HB.out)⟩⟩
                    · rw [if_neg c15] at H
                      exact absurd H (by simp)
                  · rw [if_neg c14] at H
                    exact absurd H (by simp)
              · rw [if_neg c11] at H
                have c11b0 : (((rd_T46 l0 x5_1).f0) == 1) = false := beq_eq_false_iff_ne.mpr c11
                have c11b1 : (((rd_T46 l0 x5_1).f0) != 1) = true := bne_iff_ne.mpr c11
                (first | rw [c11b0] | (simp only [i64_w, i32_w]; rw [c11b0]) | skip)
                have H' := Aside0.mk H
                clear H
                have hcz17_0 : w9.cell? ⟨gb181, 0, none⟩ = some (.int .i64 0) := (blk_cell BK181.out 0).trans rfl
                have hcz17_1 : w9.cell? ⟨gb181, 1, none⟩ = some (.string (⟨#[]⟩ : ByteArray)) := (blk_cell BK181.out 1).trans rfl
                have hcz17_2 : w9.cell? ⟨gb181, 2, none⟩ = some (.string (⟨#[]⟩ : ByteArray)) := (blk_cell BK181.out 2).trans rfl
                have hcz17_3 : w9.cell? ⟨gb181, 3, none⟩ = some (.slice none 0 0) := (blk_cell BK181.out 3).trans rfl
                have hfz17_0 := blk_frozen BK181.out 0
                have hfz17_1 := blk_frozen BK181.out 1
                have hfz17_2 := blk_frozen BK181.out 2
                have hfz17_3 := blk_frozen BK181.out 3
                go_wp2
                repeat (go_quiet (fail); try go_wp2)
                go_meet
                case rel => exact ⟨_, (false), (by first | rfl | (simp; done) | (simp [*]; done)), H', ⟨by have := HK1.out; first | omega | exact Nat.le_refl _⟩, ⟨by (with_reducible repeat (first | refine blk_drewN ?_ _ | refine blk_drew ?_ | refine blk_alloc ?_ _)); refine blk_put (cs := #[.int .i64 ((rd_T46 l0 x5_1).f0), .string ((rd_T46 l0 x5_1).f1), .string ((rd_T46 l0 x5_1).f2), .slice none 0 0]) ?_ 3 _ rfl; (with_reducible repeat (first | refine blk_drewN ?_ _ | refine blk_drew ?_ | refine blk_alloc ?_ _)); refine blk_put (cs := #[.int .i64 ((rd_T46 l0 x5_1).f0), .string ((rd_T46 l0 x5_1).f1), .string (⟨#[]⟩ : ByteArray), .slice none 0 0]) ?_ 2 _ rfl; (with_reducible repeat (first | refine blk_drewN ?_ _ | refine blk_drew ?_ | refine blk_alloc ?_ _)); refine blk_put (cs := #[.int .i64 ((rd_T46 l0 x5_1).f0), .string (⟨#[]⟩ : ByteArray), .string (⟨#[]⟩ : ByteArray), .slice none 0 0]) ?_ 1 _ rfl; (with_reducible repeat (first | refine blk_drewN ?_ _ | refine blk_drew ?_ | refine blk_alloc ?_ _)); refine blk_put (cs := #[.int .i64 0, .string (⟨#[]⟩ : ByteArray), .string (⟨#[]⟩ : ByteArray), .slice none 0 0]) ?_ 0 _ rfl; (with_reducible repeat (first | refine blk_drewN ?_ _ | refine blk_drew ?_ | refine blk_alloc ?_ _)); exact BK181.out⟩, ⟨by repeat (first | (with_reducible first | exact HB.out | apply below_alloc | apply pw_below_drewN | apply below_drew1 | refine below_set ?_ GE181.out) | exact HB.out)⟩⟩
            case rest =>
              clear HC8
              try clear c1
              try clear p1
              try clear q1
              try clear hx1
              try clear p2
              try clear c4
              try clear c6
              try clear c6b0
              try clear c7
              try clear c7b0
              try clear c11
              try clear c11b0
              try clear c11b1
              try clear c12
              try clear c12b0
              try clear c12b1
              try clear c13
              try clear c14
              try clear c14b0
              try clear c14b1
              try clear c15
              try clear c15b0
              try clear c15b1
              try clear hcz10_0
              try clear hcz10_1
              try clear hcz10_2
              try clear hcz10_3
              try clear hcz13_0
              try clear hcz13_1
              try clear hcz13_2
              try clear hcz13_3
              try clear hcz16_0
              try clear hcz16_1
              try clear hcz16_2
              try clear hcz16_3
              try clear hcz17_0
              try clear hcz17_1
              try clear hcz17_2
              try clear hcz17_3
              try clear hfz10_0
              try clear hfz10_1
              try clear hfz10_2
              try clear hfz10_3
              try clear hfz13_0
              try clear hfz13_1
              try clear hfz13_2
              try clear hfz13_3
              try clear hfz16_0
              try clear hfz16_1
              try clear hfz16_2
              try clear hfz16_3
              try clear hfz17_0
              try clear hfz17_1
              try clear hfz17_2
              try clear hfz17_3
              try clear hx180_0
              try clear hx180_1
              try clear hx180_2
              try clear hx180_3
              try clear p180
              try clear p2
              try clear q180
              obtain ⟨kq, x41_7, rfl, HA, HJ7, BK181, HB⟩ := hcut
              cases kq with
              | zero => exact absurd HA.out (by simp [samphireref19_Meant.j1])
              | succ kj7 =>
                have H := HA.out
                clear HA
                simp only [samphireref19_Meant.j1] at H
                by_cases c18 : x41_7 = true
                · subst c18
                  have H1 : (some false) = some r := by rw [if_pos rfl] at H; exact H
                  clear H
                  have H := H1
                  clear H1
                  obtain rfl := Option.some.inj H
                  go_wp2
                  repeat (go_quiet (fail); try go_wp2)
                  go_ret
                  exact ⟨by first | rfl | (simp [errW_none, errW_some] <;> rfl) | (simp [*, errW_none, errW_some] <;> rfl), by repeat (first | (with_reducible first | exact HB.out | apply below_alloc | apply pw_below_drewN | apply below_drew1 | refine below_set ?_ GE181.out) | exact HB.out)⟩
                · replace c18 := Bool.eq_false_iff.mpr c18
                  subst c18
                  have H1 : (if ((rd_T46 l0 x5_1).f0) = 2 then (if (Op.bytesLess a1.toList ((rd_T46 l0 x5_1).f1).toList) = true then (samphireref19_Meant.j2 kj7 l0 a1 x5_1 true ((rd_T46 l0 x5_1).f0) ((rd_T46 l0 x5_1).f1) ((rd_T46 l0 x5_1).f2) ((rd_T46 l0 x5_1).f3)) else (if ((rd_T46 l0 x5_1).f2).toList = ([] : List UInt8) then (samphireref19_Meant.j2 kj7 l0 a1 x5_1 false ((rd_T46 l0 x5_1).f0) ((rd_T46 l0 x5_1).f1) ((rd_T46 l0 x5_1).f2) ((rd_T46 l0 x5_1).f3)) else (samphireref19_Meant.j2 kj7 l0 a1 x5_1 (!(Op.bytesLess a1.toList ((rd_T46 l0 x5_1).f2).toList)) ((rd_T46 l0 x5_1).f0) ((rd_T46 l0 x5_1).f1) ((rd_T46 l0 x5_1).f2) ((rd_T46 l0 x5_1).f3)))) else (samphireref19_Meant.j2 kj7 l0 a1 x5_1 false ((rd_T46 l0 x5_1).f0) ((rd_T46 l0 x5_1).f1) ((rd_T46 l0 x5_1).f2) ((rd_T46 l0 x5_1).f3))) = some r := by rw [if_neg (show ¬ (false = true) by decide)] at H; exact H
                  clear H
                  have H := H1
                  clear H1
                  have HC19 := Aside0.mk H
                  clear H
                  go_upto_region 9 with (fail)
                  repeat (go_quiet (fail); go_upto_region 9 with (fail))
                  go_cut [61] (fun v61 wc => ∃ (kq : Nat) (x61_18 : Bool), v61 = .bool x61_18 ∧ Aside0 (samphireref19_Meant.j2 kq l0 a1 x5_1 x61_18 ((rd_T46 l0 x5_1).f0) ((rd_T46 l0 x5_1).f1) ((rd_T46 l0 x5_1).f2) ((rd_T46 l0 x5_1).f3) = some r) ∧ Aside0 (kq ≤ kj7) ∧ Aside0 (wc.heap[gb181]? = some (.cells #[.int .i64 ((rd_T46 l0 x5_1).f0), .string ((rd_T46 l0 x5_1).f1), .string ((rd_T46 l0 x5_1).f2), (.slice A180_3 ((rd_T46 l0 x5_1).f3).length c180_3)] 46 (0, 0))) ∧ Aside0 (Below w.heap.size w wc))
                  case first =>
                    have H := HC19.out
                    clear HC19
                    by_cases c20 : ((rd_T46 l0 x5_1).f0) = 2
                    · rw [if_pos c20] at H
                      have c20b0 : (((rd_T46 l0 x5_1).f0) == 2) = true := beq_iff_eq.mpr c20
                      have c20b1 : (((rd_T46 l0 x5_1).f0) != 2) = false := bne_eq_false_iff_eq.mpr c20
                      clear c20
                      (first | rw [c20b0] | (simp only [i64_w, i32_w]; rw [c20b0]) | skip)
                      by_cases c21 : (Op.bytesLess a1.toList ((rd_T46 l0 x5_1).f1).toList) = true
                      · rw [if_pos c21] at H
                        have c21b0 : (Op.bytesLess a1.toList ((rd_T46 l0 x5_1).f1).toList) = true := c21
                        clear c21
                        have H' := Aside0.mk H
                        clear H
                        have hcz22_0 : wc.cell? ⟨gb181, 0, none⟩ = some (.int .i64 ((rd_T46 l0 x5_1).f0)) := (blk_cell BK181.out 0).trans rfl
                        have hcz22_1 : wc.cell? ⟨gb181, 1, none⟩ = some (.string ((rd_T46 l0 x5_1).f1)) := (blk_cell BK181.out 1).trans rfl
                        have hcz22_2 : wc.cell? ⟨gb181, 2, none⟩ = some (.string ((rd_T46 l0 x5_1).f2)) := (blk_cell BK181.out 2).trans rfl
                        have hcz22_3 : wc.cell? ⟨gb181, 3, none⟩ = some (.slice A180_3 ((rd_T46 l0 x5_1).f3).length c180_3) := (blk_cell BK181.out 3).trans rfl
                        have hfz22_0 := blk_frozen BK181.out 0
                        have hfz22_1 := blk_frozen BK181.out 1
                        have hfz22_2 := blk_frozen BK181.out 2
                        have hfz22_3 := blk_frozen BK181.out 3
                        go_wp2
                        repeat (go_quiet (fail); try go_wp2)
                        go_meet
                        case rel => exact ⟨_, (true), (by first | rfl | (simp; done) | (simp [*]; done)), H', ⟨by have := HK1.out; have := HJ7.out; first | omega | exact Nat.le_refl _⟩, ⟨by (with_reducible repeat (first | refine blk_drewN ?_ _ | refine blk_drew ?_ | refine blk_alloc ?_ _)); exact BK181.out⟩, ⟨by repeat (first | (with_reducible first | exact HB.out | apply below_alloc | apply pw_below_drewN | apply below_drew1 | refine below_set ?_ GE181.out) | exact HB.out)⟩⟩
                      · rw [if_neg c21] at H
                        have c21b0 : (Op.bytesLess a1.toList ((rd_T46 l0 x5_1).f1).toList) = false := by simpa using c21
                        clear c21
                        by_cases c23 : ((rd_T46 l0 x5_1).f2).toList = ([] : List UInt8)
                        · rw [if_pos c23] at H
                          have c23b0 : (((rd_T46 l0 x5_1).f2).toList == ([] : List UInt8)) = true := beq_iff_eq.mpr c23
                          have c23b1 : (((rd_T46 l0 x5_1).f2).toList != ([] : List UInt8)) = false := bne_eq_false_iff_eq.mpr c23
                          clear c23
                          have H' := Aside0.mk H
                          clear H
                          have hcz24_0 : wc.cell? ⟨gb181, 0, none⟩ = some (.int .i64 ((rd_T46 l0 x5_1).f0)) := (blk_cell BK181.out 0).trans rfl
                          have hcz24_1 : wc.cell? ⟨gb181, 1, none⟩ = some (.string ((rd_T46 l0 x5_1).f1)) := (blk_cell BK181.out 1).trans rfl
                          have hcz24_2 : wc.cell? ⟨gb181, 2, none⟩ = some (.string ((rd_T46 l0 x5_1).f2)) := (blk_cell BK181.out 2).trans rfl
                          have hcz24_3 : wc.cell? ⟨gb181, 3, none⟩ = some (.slice A180_3 ((rd_T46 l0 x5_1).f3).length c180_3) := (blk_cell BK181.out 3).trans rfl
                          have hfz24_0 := blk_frozen BK181.out 0
                          have hfz24_1 := blk_frozen BK181.out 1
                          have hfz24_2 := blk_frozen BK181.out 2
                          have hfz24_3 := blk_frozen BK181.out 3
                          go_wp2
                          repeat (go_quiet (fail); try go_wp2)
                          go_meet
                          case rel => exact ⟨_, (false), (by first | rfl | (simp; done) | (simp [*]; done)), H', ⟨by have := HK1.out; have := HJ7.out; first | omega | exact Nat.le_refl _⟩, ⟨by (with_reducible repeat (first | refine blk_drewN ?_ _ | refine blk_drew ?_ | refine blk_alloc ?_ _)); exact BK181.out⟩, ⟨by repeat (first | (with_reducible first | exact HB.out | apply below_alloc | apply pw_below_drewN | apply below_drew1 | refine below_set ?_ GE181.out) | exact HB.out)⟩⟩
                        · rw [if_neg c23] at H
                          have c23b0 : (((rd_T46 l0 x5_1).f2).toList == ([] : List UInt8)) = false := beq_eq_false_iff_ne.mpr c23
                          have c23b1 : (((rd_T46 l0 x5_1).f2).toList != ([] : List UInt8)) = true := bne_iff_ne.mpr c23
                          have H' := Aside0.mk H
                          clear H
                          have hcz25_0 : wc.cell? ⟨gb181, 0, none⟩ = some (.int .i64 ((rd_T46 l0 x5_1).f0)) := (blk_cell BK181.out 0).trans rfl
                          have hcz25_1 : wc.cell? ⟨gb181, 1, none⟩ = some (.string ((rd_T46 l0 x5_1).f1)) := (blk_cell BK181.out 1).trans rfl
                          have hcz25_2 : wc.cell? ⟨gb181, 2, none⟩ = some (.string ((rd_T46 l0 x5_1).f2)) := (blk_cell BK181.out 2).trans rfl
                          have hcz25_3 : wc.cell? ⟨gb181, 3, none⟩ = some (.slice A180_3 ((rd_T46 l0 x5_1).f3).length c180_3) := (blk_cell BK181.out 3).trans rfl
                          have hfz25_0 := blk_frozen BK181.out 0
                          have hfz25_1 := blk_frozen BK181.out 1
                          have hfz25_2 := blk_frozen BK181.out 2
                          have hfz25_3 := blk_frozen BK181.out 3
                          go_wp2
                          repeat (go_quiet (fail); try go_wp2)
                          go_meet
                          case rel => exact ⟨_, (!(Op.bytesLess a1.toList ((rd_T46 l0 x5_1).f2).toList)), (by first | rfl | (simp; done) | (simp [*]; done)), H', ⟨by have := HK1.out; have := HJ7.out; first | omega | exact Nat.le_refl _⟩, ⟨by (with_reducible repeat (first | refine blk_drewN ?_ _ | refine blk_drew ?_ | refine blk_alloc ?_ _)); exact BK181.out⟩, ⟨by repeat (first | (with_reducible first | exact HB.out | apply below_alloc | apply pw_below_drewN | apply below_drew1 | refine below_set ?_ GE181.out) | exact HB.out)⟩⟩
                    · rw [if_neg c20] at H
                      have c20b0 : (((rd_T46 l0 x5_1).f0) == 2) = false := beq_eq_false_iff_ne.mpr c20
                      have c20b1 : (((rd_T46 l0 x5_1).f0) != 2) = true := bne_iff_ne.mpr c20
                      (first | rw [c20b0] | (simp only [i64_w, i32_w]; rw [c20b0]) | skip)
                      have H' := Aside0.mk H
                      clear H
                      have hcz26_0 : wc.cell? ⟨gb181, 0, none⟩ = some (.int .i64 ((rd_T46 l0 x5_1).f0)) := (blk_cell BK181.out 0).trans rfl
                      have hcz26_1 : wc.cell? ⟨gb181, 1, none⟩ = some (.string ((rd_T46 l0 x5_1).f1)) := (blk_cell BK181.out 1).trans rfl
                      have hcz26_2 : wc.cell? ⟨gb181, 2, none⟩ = some (.string ((rd_T46 l0 x5_1).f2)) := (blk_cell BK181.out 2).trans rfl
                      have hcz26_3 : wc.cell? ⟨gb181, 3, none⟩ = some (.slice A180_3 ((rd_T46 l0 x5_1).f3).length c180_3) := (blk_cell BK181.out 3).trans rfl
                      have hfz26_0 := blk_frozen BK181.out 0
                      have hfz26_1 := blk_frozen BK181.out 1
                      have hfz26_2 := blk_frozen BK181.out 2
                      have hfz26_3 := blk_frozen BK181.out 3
                      go_wp2
                      repeat (go_quiet (fail); try go_wp2)
                      go_meet
                      case rel => exact ⟨_, (false), (by first | rfl | (simp; done) | (simp [*]; done)), H', ⟨by have := HK1.out; have := HJ7.out; first | omega | exact Nat.le_refl _⟩, ⟨by (with_reducible repeat (first | refine blk_drewN ?_ _ | refine blk_drew ?_ | refine blk_alloc ?_ _)); exact BK181.out⟩, ⟨by repeat (first | (with_reducible first | exact HB.out | apply below_alloc | apply pw_below_drewN | apply below_drew1 | refine below_set ?_ GE181.out) | exact HB.out)⟩⟩
                  case rest =>
                    clear HC19
                    try clear c1
                    try clear p1
                    try clear q1
                    try clear hx1
                    try clear c2
                    try clear p2
                    try clear c4
                    try clear c6
                    try clear c6b0
                    try clear c7
                    try clear c7b0
                    try clear c11
                    try clear c11b0
                    try clear c11b1
                    try clear c12
                    try clear c12b0
                    try clear c12b1
                    try clear c13
                    try clear c14
                    try clear c14b0
                    try clear c14b1
                    try clear c15
                    try clear c15b0
                    try clear c15b1
                    try clear c18
                    try clear p18
                    try clear q18
                    try clear hx18
                    try clear c20
                    try clear c20b0
                    try clear c20b1
                    try clear c21
                    try clear c21b0
                    try clear c23
                    try clear c23b0
                    try clear c23b1
                    try clear hcz10_0
                    try clear hcz10_1
                    try clear hcz10_2
                    try clear hcz10_3
                    try clear hcz13_0
                    try clear hcz13_1
                    try clear hcz13_2
                    try clear hcz13_3
                    try clear hcz16_0
                    try clear hcz16_1
                    try clear hcz16_2
                    try clear hcz16_3
                    try clear hcz17_0
                    try clear hcz17_1
                    try clear hcz17_2
                    try clear hcz17_3
                    try clear hcz22_0
                    try clear hcz22_1
                    try clear hcz22_2
                    try clear hcz22_3
                    try clear hcz24_0
                    try clear hcz24_1
                    try clear hcz24_2
                    try clear hcz24_3
                    try clear hcz25_0
                    try clear hcz25_1
                    try clear hcz25_2
                    try clear hcz25_3
                    try clear hcz26_0
                    try clear hcz26_1
                    try clear hcz26_2
                    try clear hcz26_3
                    try clear hfz10_0
                    try clear hfz10_1
                    try clear hfz10_2
                    try clear hfz10_3
                    try clear hfz13_0
                    try clear hfz13_1
                    try clear hfz13_2
                    try clear hfz13_3
                    try clear hfz16_0
                    try clear hfz16_1
                    try clear hfz16_2
                    try clear hfz16_3
                    try clear hfz17_0
                    try clear hfz17_1
                    try clear hfz17_2
                    try clear hfz17_3
                    try clear hfz22_0
                    try clear hfz22_1
                    try clear hfz22_2
                    try clear hfz22_3
                    try clear hfz24_0
                    try clear hfz24_1
                    try clear hfz24_2
                    try clear hfz24_3
                    try clear hfz25_0
                    try clear hfz25_1
                    try clear hfz25_2
                    try clear hfz25_3
                    try clear hfz26_0
                    try clear hfz26_1
                    try clear hfz26_2
                    try clear hfz26_3
                    try clear hx180_0
                    try clear hx180_1
                    try clear hx180_2
                    try clear hx180_3
                    try clear p1
                    try clear p180
                    try clear p2
                    try clear q1
                    try clear q180
                    obtain ⟨kq, x61_18, rfl, HA, HJ18, BK181, HB⟩ := hcut
                    cases kq with
                    | zero => exact absurd HA.out (by simp [samphireref19_Meant.j2])
                    | succ kj18 =>
                      have H := HA.out
                      clear HA
                      simp only [samphireref19_Meant.j2] at H
                      by_cases c27 : x61_18 = true
                      · subst c27
                        have H1 : (some false) = some r := by rw [if_pos rfl] at H; exact H
                        clear H
                        have H := H1
                        clear H1
                        obtain rfl := Option.some.inj H
                        go_wp2
                        repeat (go_quiet (fail); try go_wp2)
                        go_ret
                        exact ⟨by first | rfl | (simp [errW_none, errW_some] <;> rfl) | (simp [*, errW_none, errW_some] <;> rfl), by repeat (first | (with_reducible first | exact HB.out | apply below_alloc | apply pw_below_drewN | apply below_drew1 | refine below_set ?_ GE181.out) | exact HB.out)⟩
                      · replace c27 := Bool.eq_false_iff.mpr c27
                        subst c27
                        have H1 : ((samphireref19_in.f kj18 ((rd_T46 l0 x5_1).f3) a1).bind fun t182 => (if ((rd_T46 l0 x5_1).f0) = 3 then (if t182 = true then (if ((rd_T46 l0 x5_1).f0) = 4 then (some false) else (samphireref19_Meant.l0 kj18 l0 a1 (wrap64 (x5_1 + 1)))) else (some false)) else (if ((rd_T46 l0 x5_1).f0) = 4 then (if t182 = true then (some false) else (samphireref19_Meant.l0 kj18 l0 a1 (wrap64 (x5_1 + 1)))) else (samphireref19_Meant.l0 kj18 l0 a1 (wrap64 (x5_1 + 1)))))) = some r := by rw [if_neg (show ¬ (false = true) by decide)] at H; exact H
                        clear H
                        have H := H1
                        clear H1
                        replace H := Option.bind_eq_some_iff.mp H
                        obtain ⟨t182, A280, H⟩ := H
                        replace H : (if ((rd_T46 l0 x5_1).f0) = 3 then (if t182 = true then (if ((rd_T46 l0 x5_1).f0) = 4 then (some false) else (samphireref19_Meant.l0 kj18 l0 a1 (wrap64 (x5_1 + 1)))) else (some false)) else (if ((rd_T46 l0 x5_1).f0) = 4 then (if t182 = true then (some false) else (samphireref19_Meant.l0 kj18 l0 a1 (wrap64 (x5_1 + 1)))) else (samphireref19_Meant.l0 kj18 l0 a1 (wrap64 (x5_1 + 1))))) = some r := H
                        have A28 := Aside0.mk A280
                        clear A280
                        by_cases c29 : ((rd_T46 l0 x5_1).f0) = 3
                        · rw [if_pos c29] at H
                          have c29b0 : (((rd_T46 l0 x5_1).f0) == 3) = true := beq_iff_eq.mpr c29
                          have c29b1 : (((rd_T46 l0 x5_1).f0) != 3) = false := bne_eq_false_iff_eq.mpr c29
                          clear c29
                          by_cases c30 : t182 = true
                          · subst c30
                            have H1 : (if ((rd_T46 l0 x5_1).f0) = 4 then (some false) else (samphireref19_Meant.l0 kj18 l0 a1 (wrap64 (x5_1 + 1)))) = some r := by rw [if_pos rfl] at H; exact H
                            clear H
                            have H := H1
                            clear H1
                            by_cases c31 : ((rd_T46 l0 x5_1).f0) = 4
                            · rw [if_pos c31] at H
                              have c31b0 : (((rd_T46 l0 x5_1).f0) == 4) = true := beq_iff_eq.mpr c31
                              have c31b1 : (((rd_T46 l0 x5_1).f0) != 4) = false := bne_eq_false_iff_eq.mpr c31
                              clear c31
                              obtain rfl := Option.some.inj H
                              have hcz32_0 : wc.cell? ⟨gb181, 0, none⟩ = some (.int .i64 ((rd_T46 l0 x5_1).f0)) := (blk_cell BK181.out 0).trans rfl
                              have hcz32_1 : wc.cell? ⟨gb181, 1, none⟩ = some (.string ((rd_T46 l0 x5_1).f1)) := (blk_cell BK181.out 1).trans rfl
                              have hcz32_2 : wc.cell? ⟨gb181, 2, none⟩ = some (.string ((rd_T46 l0 x5_1).f2)) := (blk_cell BK181.out 2).trans rfl
                              have hcz32_3 : wc.cell? ⟨gb181, 3, none⟩ = some (.slice A180_3 ((rd_T46 l0 x5_1).f3).length c180_3) := (blk_cell BK181.out 3).trans rfl
                              have hfz32_0 := blk_frozen BK181.out 0
                              have hfz32_1 := blk_frozen BK181.out 1
                              have hfz32_2 := blk_frozen BK181.out 2
                              have hfz32_3 := blk_frozen BK181.out 3
                              go_wp2_with (first | (go_at_call 23; (with_reducible refine (samphireref19_in.calls kj18 _ _ ((rd_T46 l0 x5_1).f3) a1 true _ ?side1 ?side2 A28.out).mono ?_); (case side1 => repeat (first | exact (Kd.C_below HR180_3.out HB.out) | (with_reducible refine Kd.C_alloc ?_ _) | (with_reducible refine Kd.C_drewN ?_ _) | (with_reducible refine Kd.C_drew ?_))); (case side2 => exact HC180_3.out); rintro e w' ⟨rfl, ⟨nd, rfl⟩⟩; (try first | exact ⟨rfl, _, World.drewN_drewN _ _ _⟩ | exact ⟨rfl, _, Eq.trans (World.drewN_drewN _ _ _) (congrArg (World.drewN _) (Nat.add_assoc _ _ _))⟩)))
                              repeat (go_quiet (first | (go_at_call 23; (with_reducible refine (samphireref19_in.calls kj18 _ _ ((rd_T46 l0 x5_1).f3) a1 true _ ?side1 ?side2 A28.out).mono ?_); (case side1 => repeat (first | exact (Kd.C_below HR180_3.out HB.out) | (with_reducible refine Kd.C_alloc ?_ _) | (with_reducible refine Kd.C_drewN ?_ _) | (with_reducible refine Kd.C_drew ?_))); (case side2 => exact HC180_3.out); rintro e w' ⟨rfl, ⟨nd, rfl⟩⟩; (try first | exact ⟨rfl, _, World.drewN_drewN _ _ _⟩ | exact ⟨rfl, _, Eq.trans (World.drewN_drewN _ _ _) (congrArg (World.drewN _) (Nat.add_assoc _ _ _))⟩))); try go_wp2_with (first | (go_at_call 23; (with_reducible refine (samphireref19_in.calls kj18 _ _ ((rd_T46 l0 x5_1).f3) a1 true _ ?side1 ?side2 A28.out).mono ?_); (case side1 => repeat (first | exact (Kd.C_below HR180_3.out HB.out) | (with_reducible refine Kd.C_alloc ?_ _) | (with_reducible refine Kd.C_drewN ?_ _) | (with_reducible refine Kd.C_drew ?_))); (case side2 => exact HC180_3.out); rintro e w' ⟨rfl, ⟨nd, rfl⟩⟩; (try first | exact ⟨rfl, _, World.drewN_drewN _ _ _⟩ | exact ⟨rfl, _, Eq.trans (World.drewN_drewN _ _ _) (congrArg (World.drewN _) (Nat.add_assoc _ _ _))⟩))))
                              go_ret
                              exact ⟨by first | rfl | (simp [errW_none, errW_some] <;> rfl) | (simp [*, errW_none, errW_some] <;> rfl), by repeat (first | (with_reducible first | exact HB.out | apply below_alloc | apply pw_below_drewN | apply below_drew1 | refine below_set ?_ GE181.out) | exact HB.out)⟩
                            · rw [if_neg c31] at H
                              have c31b0 : (((rd_T46 l0 x5_1).f0) == 4) = false := beq_eq_false_iff_ne.mpr c31
                              have c31b1 : (((rd_T46 l0 x5_1).f0) != 4) = true := bne_iff_ne.mpr c31
                              have H' := Aside0.mk H
                              clear H
                              have hcz33_0 : wc.cell? ⟨gb181, 0, none⟩ = some (.int .i64 ((rd_T46 l0 x5_1).f0)) := (blk_cell BK181.out 0).trans rfl
                              have hcz33_1 : wc.cell? ⟨gb181, 1, none⟩ = some (.string ((rd_T46 l0 x5_1).f1)) := (blk_cell BK181.out 1).trans rfl
                              have hcz33_2 : wc.cell? ⟨gb181, 2, none⟩ = some (.string ((rd_T46 l0 x5_1).f2)) := (blk_cell BK181.out 2).trans rfl
                              have hcz33_3 : wc.cell? ⟨gb181, 3, none⟩ = some (.slice A180_3 ((rd_T46 l0 x5_1).f3).length c180_3) := (blk_cell BK181.out 3).trans rfl
                              have hfz33_0 := blk_frozen BK181.out 0
                              have hfz33_1 := blk_frozen BK181.out 1
                              have hfz33_2 := blk_frozen BK181.out 2
                              have hfz33_3 := blk_frozen BK181.out 3
                              go_wp2_with (first | (go_at_call 23; (with_reducible refine (samphireref19_in.calls kj18 _ _ ((rd_T46 l0 x5_1).f3) a1 true _ ?side1 ?side2 A28.out).mono ?_); (case side1 => repeat (first | exact (Kd.C_below HR180_3.out HB.out) | (with_reducible refine Kd.C_alloc ?_ _) | (with_reducible refine Kd.C_drewN ?_ _) | (with_reducible refine Kd.C_drew ?_))); (case side2 => exact HC180_3.out); rintro e w' ⟨rfl, ⟨nd, rfl⟩⟩; (try first | exact ⟨rfl, _, World.drewN_drewN _ _ _⟩ | exact ⟨rfl, _, Eq.trans (World.drewN_drewN _ _ _) (congrArg (World.drewN _) (Nat.add_assoc _ _ _))⟩)))
                              repeat (go_quiet (first | (go_at_call 23; (with_reducible refine (samphireref19_in.calls kj18 _ _ ((rd_T46 l0 x5_1).f3) a1 true _ ?side1 ?side2 A28.out).mono ?_); (case side1 => repeat (first | exact (Kd.C_below HR180_3.out HB.out) | (with_reducible refine Kd.C_alloc ?_ _) | (with_reducible refine Kd.C_drewN ?_ _) | (with_reducible refine Kd.C_drew ?_))); (case side2 => exact HC180_3.out); rintro e w' ⟨rfl, ⟨nd, rfl⟩⟩; (try first | exact ⟨rfl, _, World.drewN_drewN _ _ _⟩ | exact ⟨rfl, _, Eq.trans (World.drewN_drewN _ _ _) (congrArg (World.drewN _) (Nat.add_assoc _ _ _))⟩))); try go_wp2_with (first | (go_at_call 23; (with_reducible refine (samphireref19_in.calls kj18 _ _ ((rd_T46 l0 x5_1).f3) a1 true _ ?side1 ?side2 A28.out).mono ?_); (case side1 => repeat (first | exact (Kd.C_below HR180_3.out HB.out) | (with_reducible refine Kd.C_alloc ?_ _) | (with_reducible refine Kd.C_drewN ?_ _) | (with_reducible refine Kd.C_drew ?_))); (case side2 => exact HC180_3.out); rintro e w' ⟨rfl, ⟨nd, rfl⟩⟩; (try first | exact ⟨rfl, _, World.drewN_drewN _ _ _⟩ | exact ⟨rfl, _, Eq.trans (World.drewN_drewN _ _ _) (congrArg (World.drewN _) (Nat.add_assoc _ _ _))⟩))))
                              go_roundg kj18
                              case measure => have := HK1.out; have := HJ7.out; have := HJ18.out; omega
                              case rel => exact ⟨(wrap64 (x5_1 + 1)), (by first | rfl | (simp; done) | (simp [*]; done)), H', ⟨by have := HK1.out; have := HJ7.out; have := HJ18.out; omega⟩, ⟨by repeat (first | (with_reducible first | exact HB.out | apply below_alloc | apply pw_below_drewN | apply below_drew1 | refine below_set ?_ GE181.out) | exact HB.out)⟩⟩
                          · replace c30 := Bool.eq_false_iff.mpr c30
                            subst c30
                            have H1 : (some false) = some r := by rw [if_neg (show ¬ (false = true) by decide)] at H; exact H
                            clear H
                            have H := H1
                            clear H1
                            obtain rfl := Option.some.inj H
                            have hcz34_0 : wc.cell? ⟨gb181, 0, none⟩ = some (.int .i64 ((rd_T46 l0 x5_1).f0)) := (blk_cell BK181.out 0).trans rfl
                            have hcz34_1 : wc.cell? ⟨gb181, 1, none⟩ = some (.string ((rd_T46 l0 x5_1).f1)) := (blk_cell BK181.out 1).trans rfl
                            have hcz34_2 : wc.cell? ⟨gb181, 2, none⟩ = some (.string ((rd_T46 l0 x5_1).f2)) := (blk_cell BK181.out 2).trans rfl
                            have hcz34_3 : wc.cell? ⟨gb181, 3, none⟩ = some (.slice A180_3 ((rd_T46 l0 x5_1).f3).length c180_3) := (blk_cell BK181.out 3).trans rfl
                            have hfz34_0 := blk_frozen BK181.out 0
                            have hfz34_1 := blk_frozen BK181.out 1
                            have hfz34_2 := blk_frozen BK181.out 2
                            have hfz34_3 := blk_frozen BK181.out 3
                            go_wp2_with (first | (go_at_call 23; (with_reducible refine (samphireref19_in.calls kj18 _ _ ((rd_T46 l0 x5_1).f3) a1 false _ ?side1 ?side2 A28.out).mono ?_); (case side1 => repeat (first | exact (Kd.C_below HR180_3.out HB.out) | (with_reducible refine Kd.C_alloc ?_ _) | (with_reducible refine Kd.C_drewN ?_ _) | (with_reducible refine Kd.C_drew ?_))); (case side2 => exact HC180_3.out); rintro e w' ⟨rfl, ⟨nd, rfl⟩⟩; (try first | exact ⟨rfl, _, World.drewN_drewN _ _ _⟩ | exact ⟨rfl, _, Eq.trans (World.drewN_drewN _ _ _) (congrArg (World.drewN _) (Nat.add_assoc _ _ _))⟩)))
                            repeat (go_quiet (first | (go_at_call 23; (with_reducible refine (samphireref19_in.calls kj18 _ _ ((rd_T46 l0 x5_1).f3) a1 false _ ?side1 ?side2 A28.out).mono ?_); (case side1 => repeat (first | exact (Kd.C_below HR180_3.out HB.out) | (with_reducible refine Kd.C_alloc ?_ _) | (with_reducible refine Kd.C_drewN ?_ _) | (with_reducible refine Kd.C_drew ?_))); (case side2 => exact HC180_3.out); rintro e w' ⟨rfl, ⟨nd, rfl⟩⟩; (try first | exact ⟨rfl, _, World.drewN_drewN _ _ _⟩ | exact ⟨rfl, _, Eq.trans (World.drewN_drewN _ _ _) (congrArg (World.drewN _) (Nat.add_assoc _ _ _))⟩))); try go_wp2_with (first | (go_at_call 23; (with_reducible refine (samphireref19_in.calls kj18 _ _ ((rd_T46 l0 x5_1).f3) a1 false _ ?side1 ?side2 A28.out).mono ?_); (case side1 => repeat (first | exact (Kd.C_below HR180_3.out HB.out) | (with_reducible refine Kd.C_alloc ?_ _) | (with_reducible refine Kd.C_drewN ?_ _) | (with_reducible refine Kd.C_drew ?_))); (case side2 => exact HC180_3.out); rintro e w' ⟨rfl, ⟨nd, rfl⟩⟩; (try first | exact ⟨rfl, _, World.drewN_drewN _ _ _⟩ | exact ⟨rfl, _, Eq.trans (World.drewN_drewN _ _ _) (congrArg (World.drewN _) (Nat.add_assoc _ _ _))⟩))))
                            go_ret
                            exact ⟨by first | rfl | (simp [errW_none, errW_some] <;> rfl) | (simp [*, errW_none, errW_some] <;> rfl), by repeat (first | (with_reducible first | exact HB.out | apply below_alloc | apply pw_below_drewN | apply below_drew1 | refine below_set ?_ GE181.out) | exact HB.out)⟩
                        · rw [if_neg c29] at H
                          have c29b0 : (((rd_T46 l0 x5_1).f0) == 3) = false := beq_eq_false_iff_ne.mpr c29
                          have c29b1 : (((rd_T46 l0 x5_1).f0) != 3) = true := bne_iff_ne.mpr c29
                          by_cases c35 : ((rd_T46 l0 x5_1).f0) = 4
                          · rw [if_pos c35] at H
                            have c35b0 : (((rd_T46 l0 x5_1).f0) == 4) = true := beq_iff_eq.mpr c35
                            have c35b1 : (((rd_T46 l0 x5_1).f0) != 4) = false := bne_eq_false_iff_eq.mpr c35
                            clear c35
                            by_cases c36 : t182 = true
                            · subst c36
                              have H1 : (some false) = some r := by rw [if_pos rfl] at H; exact H
                              clear H
                              have H := H1
                              clear H1
                              obtain rfl := Option.some.inj H
                              have hcz37_0 : wc.cell? ⟨gb181, 0, none⟩ = some (.int .i64 ((rd_T46 l0 x5_1).f0)) := (blk_cell BK181.out 0).trans rfl
                              have hcz37_1 : wc.cell? ⟨gb181, 1, none⟩ = some (.string ((rd_T46 l0 x5_1).f1)) := (blk_cell BK181.out 1).trans rfl
                              have hcz37_2 : wc.cell? ⟨gb181, 2, none⟩ = some (.string ((rd_T46 l0 x5_1).f2)) := (blk_cell BK181.out 2).trans rfl
                              have hcz37_3 : wc.cell? ⟨gb181, 3, none⟩ = some (.slice A180_3 ((rd_T46 l0 x5_1).f3).length c180_3) := (blk_cell BK181.out 3).trans rfl
                              have hfz37_0 := blk_frozen BK181.out 0
                              have hfz37_1 := blk_frozen BK181.out 1
                              have hfz37_2 := blk_frozen BK181.out 2
                              have hfz37_3 := blk_frozen BK181.out 3
                              go_wp2_with (first | (go_at_call 23; (with_reducible refine (samphireref19_in.calls kj18 _ _ ((rd_T46 l0 x5_1).f3) a1 true _ ?side1 ?side2 A28.out).mono ?_); (case side1 => repeat (first | exact (Kd.C_below HR180_3.out HB.out) | (with_reducible refine Kd.C_alloc ?_ _) | (with_reducible refine Kd.C_drewN ?_ _) | (with_reducible refine Kd.C_drew ?_))); (case side2 => exact HC180_3.out); rintro e w' ⟨rfl, ⟨nd, rfl⟩⟩; (try first | exact ⟨rfl, _, World.drewN_drewN _ _ _⟩ | exact ⟨rfl, _, Eq.trans (World.drewN_drewN _ _ _) (congrArg (World.drewN _) (Nat.add_assoc _ _ _))⟩)))
                              repeat (go_quiet (first | (go_at_call 23; (with_reducible refine (samphireref19_in.calls kj18 _ _ ((rd_T46 l0 x5_1).f3) a1 true _ ?side1 ?side2 A28.out).mono ?_); (case side1 => repeat (first | exact (Kd.C_below HR180_3.out HB.out) | (with_reducible refine Kd.C_alloc ?_ _) | (with_reducible refine Kd.C_drewN ?_ _) | (with_reducible refine Kd.C_drew ?_))); (case side2 => exact HC180_3.out); rintro e w' ⟨rfl, ⟨nd, rfl⟩⟩; (try first | exact ⟨rfl, _, World.drewN_drewN _ _ _⟩ | exact ⟨rfl, _, Eq.trans (World.drewN_drewN _ _ _) (congrArg (World.drewN _) (Nat.add_assoc _ _ _))⟩))); try go_wp2_with (first | (go_at_call 23; (with_reducible refine (samphireref19_in.calls kj18 _ _ ((rd_T46 l0 x5_1).f3) a1 true _ ?side1 ?side2 A28.out).mono ?_); (case side1 => repeat (first | exact (Kd.C_below HR180_3.out HB.out) | (with_reducible refine Kd.C_alloc ?_ _) | (with_reducible refine Kd.C_drewN ?_ _) | (with_reducible refine Kd.C_drew ?_))); (case side2 => exact HC180_3.out); rintro e w' ⟨rfl, ⟨nd, rfl⟩⟩; (try first | exact ⟨rfl, _, World.drewN_drewN _ _ _⟩ | exact ⟨rfl, _, Eq.trans (World.drewN_drewN _ _ _) (congrArg (World.drewN _) (Nat.add_assoc _ _ _))⟩))))
                              go_ret
                              exact ⟨by first | rfl | (simp [errW_none, errW_some] <;> rfl) | (simp [*, errW_none, errW_some] <;> rfl), by repeat (first | (with_reducible first | exact HB.out | apply below_alloc | apply pw_below_drewN | apply below_drew1 | refine below_set ?_ GE181.out) | exact HB.out)⟩
                            · replace c36 := Bool.eq_false_iff.mpr c36
                              subst c36
                              have H1 : (samphireref19_Meant.l0 kj18 l0 a1 (wrap64 (x5_1 + 1))) = some r := by rw [if_neg (show ¬ (false = true) by decide)] at H; exact H
                              clear H
                              have H := H1
                              clear H1
                              have H' := Aside0.mk H
                              clear H
                              have hcz38_0 : wc.cell? ⟨gb181, 0, none⟩ = some (.int .i64 ((rd_T46 l0 x5_1).f0)) := (blk_cell BK181.out 0).trans rfl
                              have hcz38_1 : wc.cell? ⟨gb181, 1, none⟩ = some (.string ((rd_T46 l0 x5_1).f1)) := (blk_cell BK181.out 1).trans rfl
                              have hcz38_2 : wc.cell? ⟨gb181, 2, none⟩ = some (.string ((rd_T46 l0 x5_1).f2)) := (blk_cell BK181.out 2).trans rfl
                              have hcz38_3 : wc.cell? ⟨gb181, 3, none⟩ = some (.slice A180_3 ((rd_T46 l0 x5_1).f3).length c180_3) := (blk_cell BK181.out 3).trans rfl
                              have hfz38_0 := blk_frozen BK181.out 0
                              have hfz38_1 := blk_frozen BK181.out 1
                              have hfz38_2 := blk_frozen BK181.out 2
                              have hfz38_3 := blk_frozen BK181.out 3
                              go_wp2_with (first | (go_at_call 23; (with_reducible refine (samphireref19_in.calls kj18 _ _ ((rd_T46 l0 x5_1).f3) a1 false _ ?side1 ?side2 A28.out).mono ?_); (case side1 => repeat (first | exact (Kd.C_below HR180_3.out HB.out) | (with_reducible refine Kd.C_alloc ?_ _) | (with_reducible refine Kd.C_drewN ?_ _) | (with_reducible refine Kd.C_drew ?_))); (case side2 => exact HC180_3.out); rintro e w' ⟨rfl, ⟨nd, rfl⟩⟩; (try first | exact ⟨rfl, _, World.drewN_drewN _ _ _⟩ | exact ⟨rfl, _, Eq.trans (World.drewN_drewN _ _ _) (congrArg (World.drewN _) (Nat.add_assoc _ _ _))⟩)))
                              repeat (go_quiet (first | (go_at_call 23; (with_reducible refine (samphireref19_in.calls kj18 _ _ ((rd_T46 l0 x5_1).f3) a1 false _ ?side1 ?side2 A28.out).mono ?_); (case side1 => repeat (first | exact (Kd.C_below HR180_3.out HB.out) | (with_reducible refine Kd.C_alloc ?_ _) | (with_reducible refine Kd.C_drewN ?_ _) | (with_reducible refine Kd.C_drew ?_))); (case side2 => exact HC180_3.out); rintro e w' ⟨rfl, ⟨nd, rfl⟩⟩; (try first | exact ⟨rfl, _, World.drewN_drewN _ _ _⟩ | exact ⟨rfl, _, Eq.trans (World.drewN_drewN _ _ _) (congrArg (World.drewN _) (Nat.add_assoc _ _ _))⟩))); try go_wp2_with (first | (go_at_call 23; (with_reducible refine (samphireref19_in.calls kj18 _ _ ((rd_T46 l0 x5_1).f3) a1 false _ ?side1 ?side2 A28.out).mono ?_); (case side1 => repeat (first | exact (Kd.C_below HR180_3.out HB.out) | (with_reducible refine Kd.C_alloc ?_ _) | (with_reducible refine Kd.C_drewN ?_ _) | (with_reducible refine Kd.C_drew ?_))); (case side2 => exact HC180_3.out); rintro e w' ⟨rfl, ⟨nd, rfl⟩⟩; (try first | exact ⟨rfl, _, World.drewN_drewN _ _ _⟩ | exact ⟨rfl, _, Eq.trans (World.drewN_drewN _ _ _) (congrArg (World.drewN _) (Nat.add_assoc _ _ _))⟩))))
                              go_roundg kj18
                              case measure => have := HK1.out; have := HJ7.out; have := HJ18.out; omega
                              case rel => exact ⟨(wrap64 (x5_1 + 1)), (by first | rfl | (simp; done) | (simp [*]; done)), H', ⟨by have := HK1.out; have := HJ7.out; have := HJ18.out; omega⟩, ⟨by repeat (first | (with_reducible first | exact HB.out | apply below_alloc | apply pw_below_drewN | apply below_drew1 | refine below_set ?_ GE181.out) | exact HB.out)⟩⟩
                          · rw [if_neg c35] at H
                            have c35b0 : (((rd_T46 l0 x5_1).f0) == 4) = false := beq_eq_false_iff_ne.mpr c35
                            have c35b1 : (((rd_T46 l0 x5_1).f0) != 4) = true := bne_iff_ne.mpr c35
                            have H' := Aside0.mk H
                            clear H
                            have hcz39_0 : wc.cell? ⟨gb181, 0, none⟩ = some (.int .i64 ((rd_T46 l0 x5_1).f0)) := (blk_cell BK181.out 0).trans rfl
                            have hcz39_1 : wc.cell? ⟨gb181, 1, none⟩ = some (.string ((rd_T46 l0 x5_1).f1)) := (blk_cell BK181.out 1).trans rfl
                            have hcz39_2 : wc.cell? ⟨gb181, 2, none⟩ = some (.string ((rd_T46 l0 x5_1).f2)) := (blk_cell BK181.out 2).trans rfl
                            have hcz39_3 : wc.cell? ⟨gb181, 3, none⟩ = some (.slice A180_3 ((rd_T46 l0 x5_1).f3).length c180_3) := (blk_cell BK181.out 3).trans rfl
                            have hfz39_0 := blk_frozen BK181.out 0
                            have hfz39_1 := blk_frozen BK181.out 1
                            have hfz39_2 := blk_frozen BK181.out 2
                            have hfz39_3 := blk_frozen BK181.out 3
                            go_wp2_with (first | (go_at_call 23; (with_reducible refine (samphireref19_in.calls kj18 _ _ ((rd_T46 l0 x5_1).f3) a1 t182 _ ?side1 ?side2 A28.out).mono ?_); (case side1 => repeat (first | exact (Kd.C_below HR180_3.out HB.out) | (with_reducible refine Kd.C_alloc ?_ _) | (with_reducible refine Kd.C_drewN ?_ _) | (with_reducible refine Kd.C_drew ?_))); (case side2 => exact HC180_3.out); rintro e w' ⟨rfl, ⟨nd, rfl⟩⟩; (try first | exact ⟨rfl, _, World.drewN_drewN _ _ _⟩ | exact ⟨rfl, _, Eq.trans (World.drewN_drewN _ _ _) (congrArg (World.drewN _) (Nat.add_assoc _ _ _))⟩)))
                            repeat (go_quiet (first | (go_at_call 23; (with_reducible refine (samphireref19_in.calls kj18 _ _ ((rd_T46 l0 x5_1).f3) a1 t182 _ ?side1 ?side2 A28.out).mono ?_); (case side1 => repeat (first | exact (Kd.C_below HR180_3.out HB.out) | (with_reducible refine Kd.C_alloc ?_ _) | (with_reducible refine Kd.C_drewN ?_ _) | (with_reducible refine Kd.C_drew ?_))); (case side2 => exact HC180_3.out); rintro e w' ⟨rfl, ⟨nd, rfl⟩⟩; (try first | exact ⟨rfl, _, World.drewN_drewN _ _ _⟩ | exact ⟨rfl, _, Eq.trans (World.drewN_drewN _ _ _) (congrArg (World.drewN _) (Nat.add_assoc _ _ _))⟩))); try go_wp2_with (first | (go_at_call 23; (with_reducible refine (samphireref19_in.calls kj18 _ _ ((rd_T46 l0 x5_1).f3) a1 t182 _ ?side1 ?side2 A28.out).mono ?_); (case side1 => repeat (first | exact (Kd.C_below HR180_3.out HB.out) | (with_reducible refine Kd.C_alloc ?_ _) | (with_reducible refine Kd.C_drewN ?_ _) | (with_reducible refine Kd.C_drew ?_))); (case side2 => exact HC180_3.out); rintro e w' ⟨rfl, ⟨nd, rfl⟩⟩; (try first | exact ⟨rfl, _, World.drewN_drewN _ _ _⟩ | exact ⟨rfl, _, Eq.trans (World.drewN_drewN _ _ _) (congrArg (World.drewN _) (Nat.add_assoc _ _ _))⟩))))
                            go_roundg kj18
                            case measure => have := HK1.out; have := HJ7.out; have := HJ18.out; omega
                            case rel => exact ⟨(wrap64 (x5_1 + 1)), (by first | rfl | (simp; done) | (simp [*]; done)), H', ⟨by have := HK1.out; have := HJ7.out; have := HJ18.out; omega⟩, ⟨by repeat (first | (with_reducible first | exact HB.out | apply below_alloc | apply pw_below_drewN | apply below_drew1 | refine below_set ?_ GE181.out) | exact HB.out)⟩⟩
          · rw [if_neg c7] at H
            exact absurd H (by simp)
        · rw [if_neg c6] at H
          have c6b0 : decide (x5_1 < (l0.length : Int)) = false := decide_eq_false c6
          clear c6
          obtain rfl := Option.some.inj H
          go_wp2
          repeat (go_quiet (fail); try go_wp2)
          go_ret
          exact ⟨by first | rfl | (simp [errW_none, errW_some] <;> rfl) | (simp [*, errW_none, errW_some] <;> rfl), by repeat (first | (with_reducible first | exact HB.out | apply below_alloc | apply pw_below_drewN | apply below_drew1) | exact HB.out)⟩
  · replace c4 := Bool.eq_false_iff.mpr c4
    subst c4
    have H1 : (some false) = some r := by rw [if_neg (show ¬ (false = true) by decide)] at H; exact H
    clear H
    have H := H1
    clear H1
    obtain rfl := Option.some.inj H
    go_enter Try.func13, Try.ntmps13
    go_wp2_with (first | (go_at_call 15; (with_reducible refine (samphireref19_All.calls k _ _ l0 false _ ?side1 ?side2 A3.out).mono ?_); (case side1 => repeat (first | exact HR0.out | (with_reducible refine Kd.C_alloc ?_ _) | (with_reducible refine Kd.C_drewN ?_ _) | (with_reducible refine Kd.C_drew ?_))); (case side2 => exact HC0.out); rintro e w40 ⟨rfl, hb⟩; have n0_ := Aside0.mk (below_step (by repeat (first | (with_reducible first | exact HB.out | apply below_alloc | apply pw_below_drewN | apply below_drew1) | exact HB.out)) hb); clear HB; have HB := n0_; clear n0_; (try clear hb); (try clear hb2); (try clear hk); (try clear hi)))
    repeat (go_quiet (first | (go_at_call 15; (with_reducible refine (samphireref19_All.calls k _ _ l0 false _ ?side1 ?side2 A3.out).mono ?_); (case side1 => repeat (first | exact HR0.out | (with_reducible refine Kd.C_alloc ?_ _) | (with_reducible refine Kd.C_drewN ?_ _) | (with_reducible refine Kd.C_drew ?_))); (case side2 => exact HC0.out); rintro e w40 ⟨rfl, hb⟩; have n0_ := Aside0.mk (below_step (by repeat (first | (with_reducible first | exact HB.out | apply below_alloc | apply pw_below_drewN | apply below_drew1) | exact HB.out)) hb); clear HB; have HB := n0_; clear n0_; (try clear hb); (try clear hb2); (try clear hk); (try clear hi))); try go_wp2_with (first | (go_at_call 15; (with_reducible refine (samphireref19_All.calls k _ _ l0 false _ ?side1 ?side2 A3.out).mono ?_); (case side1 => repeat (first | exact HR0.out | (with_reducible refine Kd.C_alloc ?_ _) | (with_reducible refine Kd.C_drewN ?_ _) | (with_reducible refine Kd.C_drew ?_))); (case side2 => exact HC0.out); rintro e w40 ⟨rfl, hb⟩; have n0_ := Aside0.mk (below_step (by repeat (first | (with_reducible first | exact HB.out | apply below_alloc | apply pw_below_drewN | apply below_drew1) | exact HB.out)) hb); clear HB; have HB := n0_; clear n0_; (try clear hb); (try clear hb2); (try clear hk); (try clear hi))))
    go_ret
    exact ⟨by first | rfl | (simp [errW_none, errW_some] <;> rfl) | (simp [*, errW_none, errW_some] <;> rfl), by repeat (first | (with_reducible first | exact HB.out | apply below_alloc | apply pw_below_drewN | apply below_drew1) | exact HB.out)⟩

end Go.Proofs.Ytnpipaehcklnbaa.H
