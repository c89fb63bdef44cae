-- laid by wip/hyb.py (the kit's printer with turns of ours)
import Derived.Test.YtnpipaehcklnbaaHx0
import Derived.Test.YtnpipaehcklnbaaHx1
namespace Go.Proofs.Ytnpipaehcklnbaa.H
open Go.RowKit Go.Proofs.YtnpipaehcklnbaaW.PrintWords Go.Proofs.YtnpipaehcklnbaaW.PrintLast Go.Proofs.YtnpipaehcklnbaaW.PrintMore
attribute [local go_sem] max2_int min2_int max_two min_two max_three min_three max_four min_four   -- for this text's walks alone
set_option linter.unusedVariables false
set_option linter.unusedSimpArgs false

/-! ### samphirelaw19_Refs: function 8 -/
def samphirelaw19_Refs.l0 : Nat → List (S46) → List (S42) → Int → Int → Option ((List (S46)))
  | 0, _, _, _, _ => none
  | k + 1, x3, x6, x7, x8 => if x8 < x7 then (if 0 ≤ x8 then (if x8 < (x6.length : Int) then (if x3.length < 2199023255552 then (samphirelaw19_Refs.l0 k (x3 ++ [(⟨(rd_T42 x6 x8).f0, (rd_T42 x6 x8).f1, (rd_T42 x6 x8).f2, (rd_T42 x6 x8).f3⟩ : S46)]) x6 x7 (wrap64 (x8 + 1))) else (none)) else (none)) else (none)) else (some x3)
def samphirelaw19_Refs.f (k : Nat) (l0 : List (S42)) : Option ((List (S46))) := samphirelaw19_Refs.l0 k ([] : List (S46)) l0 (l0.length : Int) 0
theorem samphirelaw19_Refs.mono_l : ∀ k, (∀ y0 y1 y2 y3, LeO (samphirelaw19_Refs.l0 k y0 y1 y2 y3) (samphirelaw19_Refs.l0 (k + 1) y0 y1 y2 y3))
  | 0 => fun _ _ _ _ r h => by simp [samphirelaw19_Refs.l0] at h
  | k + 1 => by
    have ih0 := samphirelaw19_Refs.mono_l k
    · intro y0 y1 y2 y3
      unfold samphirelaw19_Refs.l0
      repeat' first
      | (with_reducible exact ih0 _ _ _ _)
      | (with_reducible exact LeO.refl _)
      | (with_reducible exact LeO.none _)
      | (with_reducible refine LeO.ite ?_ ?_)
      | (with_reducible refine LeO.bind ?_ (fun _ => ?_))
      | exact ih0 _ _ _ _
      | exact LeO.none _
      | refine LeO.ite ?_ ?_
      | refine LeO.bind ?_ (fun _ => ?_)
theorem samphirelaw19_Refs.mono : ∀ a0 k, LeO (samphirelaw19_Refs.f k a0) (samphirelaw19_Refs.f (k + 1) a0) := by
  intro a0 k
  have ih0 := samphirelaw19_Refs.mono_l k
  unfold samphirelaw19_Refs.f
  repeat' first
      | (with_reducible exact ih0 _ _ _ _)
      | (with_reducible exact LeO.refl _)
      | (with_reducible exact LeO.none _)
      | (with_reducible refine LeO.ite ?_ ?_)
      | (with_reducible refine LeO.bind ?_ (fun _ => ?_))
      | exact ih0 _ _ _ _
      | exact LeO.none _
      | refine LeO.ite ?_ ?_
      | refine LeO.bind ?_ (fun _ => ?_)
set_option maxHeartbeats 8000000 in
set_option maxRecDepth 100000 in
theorem samphirelaw19_Refs.calls (k : Nat) (P0_ : Nat → Prop) (A0 : Option Addr) (c0 : Nat) (l0 : List (S42)) (r : List (S46)) (w : World) (hs0 : Kd.V k42 42 w w.heap.size (fun k_ => P0_ k_) (.slice A0 l0.length c0) l0) (h : samphirelaw19_Refs.f k l0 = some r) :
    Calls Try.prog 8 #[.slice A0 l0.length c0] w fun e w' => ∃ v0_ : Value, e = .returned (v0_) ∧ Kd.N k46 46 w' w.heap.size (fun k_ => (P0_ k_ ∨ w.heap.size ≤ k_)) v0_ r ∧ Below w.heap.size w w' := by
  have hu42 := Try.underlying42
  have HO0 := Aside0.mk (show Kd.V k42 42 w w.heap.size (fun k_ => (P0_ k_ ∨ w.heap.size ≤ k_)) (.slice A0 l0.length c0) l0 from Kd.V_mono hs0 (fun k_ hk => .inl hk))
  have HB := Aside0.mk (Below.refl w.heap.size w)
  have H : (samphirelaw19_Refs.l0 k ([] : List (S46)) l0 (l0.length : Int) 0) = some r := h
  clear h
  have H' := Aside0.mk H
  clear H
  go_enter Try.func8, Try.ntmps8
  go_wp2
  go_loopg [3, 8] k (fun kq v3 v8 w' => ∃ (x3_1 : List (S46)) (x8_1 : Int), v8 = .int .i64 x8_1 ∧ Aside0 (samphirelaw19_Refs.l0 kq x3_1 l0 (l0.length : Int) x8_1 = some r) ∧ Aside0 (kq ≤ k) ∧ Aside0 (Kd.N k46 46 w' w.heap.size (fun k_ => (P0_ k_ ∨ w.heap.size ≤ k_)) v3 x3_1) ∧ Aside0 (Kd.V k42 42 w' w.heap.size (fun k_ => (P0_ k_ ∨ w.heap.size ≤ k_) ∧ some k_ ≠ (v3 : Value).ownBlock) (.slice A0 l0.length c0) l0) ∧ Aside0 (Below w.heap.size w w'))
  case atStart => exact ⟨(([] : List (S46))), (0), (by first | rfl | (simp; done) | (simp [*]; done)), H', ⟨Nat.le_refl _⟩, ⟨by first | exact Kd.S_nil _ _ _ _ _ | exact Kd.N_nil _ _ _ _ _ | exact Kd.V_nil _ _ _ _ _ | exact Kd.Q_nil _ _ _ _ _ | exact Kd.R_nil _ _ _ _ _⟩, ⟨by (with_reducible repeat (first | apply Kd.V_alloc | apply Kd.V_drewN | apply Kd.V_drew)); exact Kd.V_mono HO0.out (fun _ hk => ⟨hk, (by simp [Value.ownBlock])⟩)⟩, ⟨by repeat (first | (with_reducible first | exact HB.out | apply below_alloc | apply pw_below_drewN | apply below_drew1) | exact HB.out)⟩⟩
  case round =>
    clear H'
    obtain ⟨x3_1, x8_1, rfl, HA, HK1, HO_3, HO_6, HB⟩ := hrel
    cases gk with
    | zero => exact absurd HA.out (by simp [samphirelaw19_Refs.l0])
    | succ k1 =>
      have H := HA.out
      clear HA
      simp only [samphirelaw19_Refs.l0] at H
      by_cases c2 : x8_1 < (l0.length : Int)
      · rw [if_pos c2] at H
        have c2b0 : decide (x8_1 < (l0.length : Int)) = true := decide_eq_true c2
        clear c2
        by_cases c3 : 0 ≤ x8_1
        · rw [if_pos c3] at H
          have c3b0 : decide (0 ≤ x8_1) = true := decide_eq_true c3
          clear c3
          by_cases c4 : x8_1 < (l0.length : Int)
          · rw [if_pos c4] at H
            have c4b0 : decide (x8_1 < (l0.length : Int)) = true := decide_eq_true c4
            clear c4
            by_cases c5 : x3_1.length < 2199023255552
            · rw [if_pos c5] at H
              have LMc5 := Aside0.mk c5
              clear c5
              obtain ⟨y125, hy125⟩ : ∃ y_ : List (S46), y_ = (x3_1 ++ [(⟨(rd_T42 l0 x8_1).f0, (rd_T42 l0 x8_1).f1, (rd_T42 l0 x8_1).f2, (rd_T42 l0 x8_1).f3⟩ : S46)]) := ⟨_, rfl⟩
              replace H : (samphirelaw19_Refs.l0 k1 y125 l0 (l0.length : Int) (wrap64 (x8_1 + 1))) = some r := by first | (rw [hy125]; with_reducible exact H) | (have H2_ := (Option.bind_some _ _).symm.trans H; rw [hy125]; with_reducible exact H2_) | (have H2_ := (Option.bind_some _ _).symm.trans H; with_reducible exact H2_) | with_reducible exact H | (rw [hy125]; exact H) | exact H
              have Ny125 := Aside0.mk hy125
              clear hy125
              have H' := Aside0.mk H
              clear H
              have p123 : 0 ≤ (x8_1 : Int) := of_decide_eq_true (by first | (with_reducible assumption) | assumption)
              have q123 : x8_1 < (l0.length : Int) := of_decide_eq_true (by first | (with_reducible assumption) | assumption)
              obtain ⟨ad123, A123_3, c123_3, e123, hx123_0, hx123_1, hx123_2, hx123_3, hl123_3, hi123_3⟩ := at_T42 (Kd.V_reads' HO_6.out).2.2 x8_1 p123 q123
              cases e123
              obtain ⟨ce123, hce123, hMe123, hcc123⟩ := Kd.V_get HO_6.out z42 x8_1 p123 (by first | exact q123 | exact of_decide_eq_true (by first | (with_reducible assumption) | assumption) | (have e_ := (Kd.V_reads' HO_6.out).1; omega))
              obtain ⟨ua123_3, uc123_3, rfl, ul123_3, ge123_3⟩ := k42_openF hMe123
              have hv123_3 := hcc123 3 _ rfl
              rw [add_field _ _ 3 (by omega)] at hv123_3
              replace hv123_3 := Option.some.inj (hv123_3.symm.trans hx123_3)
              injection hv123_3 with hva_ hvn_ hvc_
              rw [hva_] at ge123_3
              rw [hvc_] at ul123_3
              have HL123_3 := Aside0.mk (show Kd.V Kd.string 9 _ w.heap.size _ _ ((rd_T42 l0 x8_1).f3) from Kd.V_mk ul123_3 ge123_3)
              clear hva_ hvn_ hvc_ ge123_3 ul123_3
              clear hcc123 hce123
              have HR123_3 := Aside0.mk hi123_3
              have HC123_3 := Aside0.mk hl123_3
              clear hi123_3 hl123_3
              replace p123 := eq_true p123
              replace q123 := eq_true q123
              go_wp2_with (first | ((with_reducible refine gate_dst (N := 5) rfl ?_); refine box_event ?hg (N := 5) ?hd (cs := #[.int .i64 0, .string (⟨#[]⟩ : ByteArray), .string (⟨#[]⟩ : ByteArray), .slice none 0 0]) (t := 42) ?hr ?_; (case hd => rfl); (case hg => rfl); (case hr => first | (go_simp; done) | (go_simp; rfl)); intro gb124 hg w6 hbox hb; have n0_ := Aside0.mk (Kd.N_below (Kd.N_elderB (by (with_reducible repeat (first | apply Kd.N_alloc | apply Kd.N_drewN | apply Kd.N_drew)); exact HO_3.out) gb124 (Nat.le_of_eq hg.symm)) hb); have n1_ := Aside0.mk (Kd.V_below (Kd.V_elderB (by (with_reducible repeat (first | apply Kd.V_alloc | apply Kd.V_drewN | apply Kd.V_drew)); exact HO_6.out) gb124 (Nat.le_of_eq hg.symm)) hb); have n2_ := Aside0.mk (Kd.V_below (Kd.V_elderB (by (with_reducible repeat (first | apply Kd.V_alloc | apply Kd.V_drewN | apply Kd.V_drew)); exact HL123_3.out) gb124 (Nat.le_of_eq hg.symm)) hb); have n3_ := Aside0.mk (Kd.C_below (by repeat (first | (with_reducible exact HR123_3.out) | (with_reducible refine Kd.C_alloc ?_ _) | (with_reducible refine Kd.C_drewN ?_ _) | (with_reducible refine Kd.C_drew ?_) | exact HR123_3.out)) hb); have n4_ := Aside0.mk (below_step (by repeat (first | (with_reducible first | exact HB.out | apply below_alloc | apply pw_below_drewN | apply below_drew1) | exact HB.out)) hb); have n5_ := Aside0.mk (hbox); have n6_ := Aside0.mk ((by rw [hg]; exact (below_size (by repeat (first | (with_reducible first | exact HB.out | apply below_alloc | apply pw_below_drewN | apply below_drew1) | exact HB.out))) : w.heap.size ≤ gb124)); have n7_ := Aside0.mk ((by rw [hg]; exact (below_size (by repeat (first | (with_reducible first | exact HB.out | apply below_alloc | apply pw_below_drewN | apply below_drew1) | exact HB.out))) : w.heap.size ≤ gb124)); clear HO_3; clear HO_6; clear HL123_3; clear HR123_3; clear HB; have HO_3 := n0_; have HO_6 := n1_; have HL123_3 := n2_; have HR123_3 := n3_; have HB := n4_; have BK124 := n5_; have GW124 := n6_; have GE124 := n7_; clear n0_ n1_ n2_ n3_ n4_ n5_ n6_ n7_; clear hb hbox hg; have hcz7_0 : w6.cell? ⟨gb124, 0, none⟩ = some (.int .i64 0) := (blk_cell BK124.out 0).trans rfl; have hcz7_1 : w6.cell? ⟨gb124, 1, none⟩ = some (.string (⟨#[]⟩ : ByteArray)) := (blk_cell BK124.out 1).trans rfl; have hcz7_2 : w6.cell? ⟨gb124, 2, none⟩ = some (.string (⟨#[]⟩ : ByteArray)) := (blk_cell BK124.out 2).trans rfl; have hcz7_3 : w6.cell? ⟨gb124, 3, none⟩ = some (.slice none 0 0) := (blk_cell BK124.out 3).trans rfl; have hfz7_0 := blk_frozen BK124.out 0; have hfz7_1 := blk_frozen BK124.out 1; have hfz7_2 := blk_frozen BK124.out 2; have hfz7_3 := blk_frozen BK124.out 3) | ((with_reducible refine gate_store (t := 42) (p := 5) rfl ?_); refine store_event (t := 42) (p := 5) (v := ?vo_w8) (w1 := ((((w6.setCell ⟨gb124, 0, none⟩ (.int .i64 ((rd_T42 l0 x8_1).f0))).setCell ⟨gb124, 1, none⟩ (.string ((rd_T42 l0 x8_1).f1))).setCell ⟨gb124, 2, none⟩ (.string ((rd_T42 l0 x8_1).f2))).setCell ⟨gb124, 3, none⟩ (.slice A123_3 ((rd_T42 l0 x8_1).f3).length c123_3))) ?hg ?ho ?hn ?hr ?_; (case ho => rfl); (case hg => rfl); (case hn => rfl); (case hr => first | (go_simp; done) | (go_simp; rfl)); intro w8 hw; have n0_ : Aside0 (Kd.N k46 46 w8 w.heap.size (fun k_ => (P0_ k_ ∨ w.heap.size ≤ k_) ∧ k_ ≠ gb124) u3 x3_1) := ⟨(by rw [hw]; exact (by (with_reducible repeat (first | apply Kd.N_alloc | apply Kd.N_drewN | apply Kd.N_drew)); exact Kd.N_mono (Kd.N_far (p := ⟨gb124, 3, none⟩) (Kd.N_far (p := ⟨gb124, 2, none⟩) (Kd.N_far (p := ⟨gb124, 1, none⟩) (Kd.N_far (p := ⟨gb124, 0, none⟩) (Kd.N_mono HO_3.out (fun k_ hk => (⟨hk, hk.2⟩ : _ ∧ k_ ≠ gb124))) (fun _ hk => hk.2) (.int .i64 ((rd_T42 l0 x8_1).f0))) (fun _ hk => hk.2) (.string ((rd_T42 l0 x8_1).f1))) (fun _ hk => hk.2) (.string ((rd_T42 l0 x8_1).f2))) (fun _ hk => hk.2) (.slice A123_3 ((rd_T42 l0 x8_1).f3).length c123_3)) (fun _ hk => ⟨hk.1.1, hk.1.2⟩)))⟩; have n1_ : Aside0 (Kd.V k42 42 w8 w.heap.size (fun k_ => (P0_ k_ ∨ w.heap.size ≤ k_) ∧ some k_ ≠ (u3 : Value).ownBlock ∧ k_ ≠ gb124) (.slice (some ad123) l0.length c0) l0) := ⟨(by rw [hw]; exact (by (with_reducible repeat (first | apply Kd.V_alloc | apply Kd.V_drewN | apply Kd.V_drew)); exact Kd.V_mono (Kd.V_far (p := ⟨gb124, 3, none⟩) (Kd.V_far (p := ⟨gb124, 2, none⟩) (Kd.V_far (p := ⟨gb124, 1, none⟩) (Kd.V_far (p := ⟨gb124, 0, none⟩) (Kd.V_mono HO_6.out (fun k_ hk => (⟨hk, hk.2⟩ : _ ∧ k_ ≠ gb124))) (fun _ hk => hk.2) (.int .i64 ((rd_T42 l0 x8_1).f0))) (fun _ hk => hk.2) (.string ((rd_T42 l0 x8_1).f1))) (fun _ hk => hk.2) (.string ((rd_T42 l0 x8_1).f2))) (fun _ hk => hk.2) (.slice A123_3 ((rd_T42 l0 x8_1).f3).length c123_3)) (fun _ hk => ⟨hk.1.1.1, ⟨hk.1.1.2, hk.1.2⟩⟩)))⟩; have n2_ : Aside0 (Kd.V Kd.string 9 w8 w.heap.size (fun k_ => (P0_ k_ ∨ w.heap.size ≤ k_) ∧ some k_ ≠ (u3 : Value).ownBlock ∧ k_ ≠ gb124) (.slice A123_3 ((rd_T42 l0 x8_1).f3).length c123_3) ((rd_T42 l0 x8_1).f3)) := ⟨(by rw [hw]; exact (by (with_reducible repeat (first | apply Kd.V_alloc | apply Kd.V_drewN | apply Kd.V_drew)); exact Kd.V_mono (Kd.V_far (p := ⟨gb124, 3, none⟩) (Kd.V_far (p := ⟨gb124, 2, none⟩) (Kd.V_far (p := ⟨gb124, 1, none⟩) (Kd.V_far (p := ⟨gb124, 0, none⟩) (Kd.V_mono HL123_3.out (fun k_ hk => (⟨hk, hk.2⟩ : _ ∧ k_ ≠ gb124))) (fun _ hk => hk.2) (.int .i64 ((rd_T42 l0 x8_1).f0))) (fun _ hk => hk.2) (.string ((rd_T42 l0 x8_1).f1))) (fun _ hk => hk.2) (.string ((rd_T42 l0 x8_1).f2))) (fun _ hk => hk.2) (.slice A123_3 ((rd_T42 l0 x8_1).f3).length c123_3)) (fun _ hk => ⟨hk.1.1.1, ⟨hk.1.1.2, hk.1.2⟩⟩)))⟩; have n3_ : Aside0 (w8.heap[gb124]? = some (.cells #[.int .i64 ((rd_T42 l0 x8_1).f0), .string ((rd_T42 l0 x8_1).f1), .string ((rd_T42 l0 x8_1).f2), .slice A123_3 ((rd_T42 l0 x8_1).f3).length c123_3] 42 (0, 0))) := ⟨(by rw [hw]; exact (by (with_reducible repeat (first | refine blk_drewN ?_ _ | refine blk_drew ?_ | refine blk_alloc ?_ _)); refine blk_put (cs := #[.int .i64 ((rd_T42 l0 x8_1).f0), .string ((rd_T42 l0 x8_1).f1), .string ((rd_T42 l0 x8_1).f2), .slice none 0 0]) ?_ 3 _ rfl; (with_reducible repeat (first | refine blk_drewN ?_ _ | refine blk_drew ?_ | refine blk_alloc ?_ _)); refine blk_put (cs := #[.int .i64 ((rd_T42 l0 x8_1).f0), .string ((rd_T42 l0 x8_1).f1), .string (⟨#[]⟩ : ByteArray), .slice none 0 0]) ?_ 2 _ rfl; (with_reducible repeat (first | refine blk_drewN ?_ _ | refine blk_drew ?_ | refine blk_alloc ?_ _)); refine blk_put (cs := #[.int .i64 ((rd_T42 l0 x8_1).f0), .string (⟨#[]⟩ : ByteArray), .string (⟨#[]⟩ : ByteArray), .slice none 0 0]) ?_ 1 _ rfl; (with_reducible repeat (first | refine blk_drewN ?_ _ | refine blk_drew ?_ | refine blk_alloc ?_ _)); refine blk_put (cs := #[.int .i64 0, .string (⟨#[]⟩ : ByteArray), .string (⟨#[]⟩ : ByteArray), .slice none 0 0]) ?_ 0 _ rfl; (with_reducible repeat (first | refine blk_drewN ?_ _ | refine blk_drew ?_ | refine blk_alloc ?_ _)); exact BK124.out))⟩; have n4_ : Aside0 (Below w.heap.size w w8) := ⟨(by rw [hw]; exact (by repeat (first | (with_reducible first | exact HB.out | apply below_alloc | apply pw_below_drewN | apply below_drew1 | refine below_set ?_ GE124.out) | exact HB.out)))⟩; clear hw; clear HO_3; clear HO_6; clear HL123_3; clear BK124; clear HB; have HO_3 := n0_; have HO_6 := n1_; have HL123_3 := n2_; have BK124 := n3_; have HB := n4_; clear n0_ n1_ n2_ n3_ n4_; have hcz9_0 : w8.cell? ⟨gb124, 0, none⟩ = some (.int .i64 ((rd_T42 l0 x8_1).f0)) := (blk_cell BK124.out 0).trans rfl; have hcz9_1 : w8.cell? ⟨gb124, 1, none⟩ = some (.string ((rd_T42 l0 x8_1).f1)) := (blk_cell BK124.out 1).trans rfl; have hcz9_2 : w8.cell? ⟨gb124, 2, none⟩ = some (.string ((rd_T42 l0 x8_1).f2)) := (blk_cell BK124.out 2).trans rfl; have hcz9_3 : w8.cell? ⟨gb124, 3, none⟩ = some (.slice A123_3 ((rd_T42 l0 x8_1).f3).length c123_3) := (blk_cell BK124.out 3).trans rfl; have hfz9_0 := blk_frozen BK124.out 0; have hfz9_1 := blk_frozen BK124.out 1; have hfz9_2 := blk_frozen BK124.out 2; have hfz9_3 := blk_frozen BK124.out 3) | ((with_reducible refine gate_builtin (b := .append) (xs := #[.tmp 12, .tmp 14]) rfl ?_); at_builtin; refine Kd.N_append k46 (w0 := w) w.heap.size rfl (.tmp 12) (.tmp 14) 24 46 (.agg #[(.int .i64 0), (.string ⟨#[]⟩), (.string ⟨#[]⟩), (.slice none 0 0)]) 64 rfl Try.underlying24 info46 rfl (by decide) (by omega) u3 x3_1 (⟨(rd_T42 l0 x8_1).f0, (rd_T42 l0 x8_1).f1, (rd_T42 l0 x8_1).f2, (rd_T42 l0 x8_1).f3⟩ : S46) [.int .i64 ((rd_T42 l0 x8_1).f0), .string ((rd_T42 l0 x8_1).f1), .string ((rd_T42 l0 x8_1).f2), .slice A123_3 ((rd_T42 l0 x8_1).f3).length c123_3] (fun k_ => (P0_ k_ ∨ w.heap.size ≤ k_) ∧ k_ ≠ gb124) (fun k_ => ((fun k_ => (P0_ k_ ∨ w.heap.size ≤ k_) ∧ k_ ≠ gb124)) k_ ∧ some k_ ≠ (u3 : Value).ownBlock) rfl rfl ?aP (fun _ hk => hk) ?aF ?aO ?aB ?aS ?aL ?_; (case aP => exact (k46_mkF _ _ (⟨(rd_T42 l0 x8_1).f0, (rd_T42 l0 x8_1).f1, (rd_T42 l0 x8_1).f2, (rd_T42 l0 x8_1).f3⟩ : S46) (Kd.V_reads' (Kd.V_mono (ok' := (fun k_ => ((fun k_ => (P0_ k_ ∨ w.heap.size ≤ k_) ∧ k_ ≠ gb124)) k_ ∧ some k_ ≠ (u3 : Value).ownBlock)) (HL123_3.out) (fun k_ hk => ⟨⟨hk.1, hk.2.2⟩, hk.2.1⟩))).2.1 (Kd.V_F (Kd.V_mono (ok' := (fun k_ => ((fun k_ => (P0_ k_ ∨ w.heap.size ≤ k_) ∧ k_ ≠ gb124)) k_ ∧ some k_ ≠ (u3 : Value).ownBlock)) (HL123_3.out) (fun k_ hk => ⟨⟨hk.1, hk.2.2⟩, hk.2.1⟩))))); (case aB => exact (by repeat (first | (with_reducible first | exact HB.out | apply below_alloc | apply pw_below_drewN | apply below_drew1 | refine below_set ?_ GE124.out) | exact HB.out))); (case aF => exact (fun k_ hk => ⟨(.inr (Nat.le_trans (below_size (by repeat (first | (with_reducible first | exact HB.out | apply below_alloc | apply pw_below_drewN | apply below_drew1 | refine below_set ?_ GE124.out) | exact HB.out))) hk)), Kd.freshB (g := gb124) (o := .cells #[.int .i64 ((rd_T42 l0 x8_1).f0), .string ((rd_T42 l0 x8_1).f1), .string ((rd_T42 l0 x8_1).f2), .slice A123_3 ((rd_T42 l0 x8_1).f3).length c123_3] 42 (0, 0)) (by (with_reducible repeat (first | refine blk_drewN ?_ _ | refine blk_drew ?_ | refine blk_alloc ?_ _)); exact BK124.out) k_ hk⟩)); (case aO => exact (by (with_reducible repeat (first | apply Kd.N_alloc | apply Kd.N_drewN | apply Kd.N_drew)); exact HO_3.out)); (case aS => exact (below_size (by repeat (first | (with_reducible first | exact HB.out | apply below_alloc | apply pw_below_drewN | apply below_drew1 | refine below_set ?_ GE124.out) | exact HB.out)))); (case aL => have := LMc5.out; omega); intro v126 w10 ho hb hg hat; rw [← Ny125.out] at ho; have n0_ := Aside0.mk (Kd.V_afterv (ok := (fun k_ => (P0_ k_ ∨ w.heap.size ≤ k_) ∧ k_ ≠ gb124)) (by (with_reducible repeat (first | apply Kd.V_alloc | apply Kd.V_drewN | apply Kd.V_drew)); exact Kd.V_mono HO_6.out (fun _ hk => ⟨⟨hk.1, hk.2.2⟩, hk.2.1⟩)) hg hat); have n1_ := Aside0.mk (Kd.V_afterv (ok := (fun k_ => (P0_ k_ ∨ w.heap.size ≤ k_) ∧ k_ ≠ gb124)) (by (with_reducible repeat (first | apply Kd.V_alloc | apply Kd.V_drewN | apply Kd.V_drew)); exact Kd.V_mono HL123_3.out (fun _ hk => ⟨⟨hk.1, hk.2.2⟩, hk.2.1⟩)) hg hat); have n2_ := Aside0.mk (blk_grown (g := gb124) (o := .cells #[.int .i64 ((rd_T42 l0 x8_1).f0), .string ((rd_T42 l0 x8_1).f1), .string ((rd_T42 l0 x8_1).f2), .slice A123_3 ((rd_T42 l0 x8_1).f3).length c123_3] 42 (0, 0)) (by (with_reducible repeat (first | refine blk_drewN ?_ _ | refine blk_drew ?_ | refine blk_alloc ?_ _)); exact BK124.out) hg (Kd.N_ne HO_3.out BK124.out (by decide))); have n3_ := Aside0.mk (hb); have n4_ := Aside0.mk (ho); clear HO_6; clear HL123_3; clear BK124; clear HB; clear HO_3; have HO_6 := n0_; have HL123_3 := n1_; have BK124 := n2_; have HB := n3_; have HO127 := n4_; clear n0_ n1_ n2_ n3_ n4_; clear ho hb hg hat))
              go_roundg k1
              case measure => have := HK1.out; omega
              case rel => exact ⟨(y125), (wrap64 (x8_1 + 1)), (by first | rfl | (simp; done) | (simp [*]; done)), H', ⟨by have := HK1.out; omega⟩, ⟨by (with_reducible repeat (first | apply Kd.N_alloc | apply Kd.N_drewN | apply Kd.N_drew)); exact Kd.N_mono HO127.out (fun _ hk => hk.1)⟩, ⟨by (with_reducible repeat (first | apply Kd.V_alloc | apply Kd.V_drewN | apply Kd.V_drew)); exact Kd.V_mono HO_6.out (fun _ hk => ⟨hk.1.1, hk.2⟩)⟩, ⟨by repeat (first | (with_reducible first | exact HB.out | apply below_alloc | apply pw_below_drewN | apply below_drew1 | refine below_set ?_ GE124.out) | exact HB.out)⟩⟩
            · rw [if_neg c5] at H
              exact absurd H (by simp)
          · rw [if_neg c4] at H
            exact absurd H (by simp)
        · rw [if_neg c3] at H
          exact absurd H (by simp)
      · rw [if_neg c2] at H
        have c2b0 : decide (x8_1 < (l0.length : Int)) = false := decide_eq_false c2
        clear c2
        obtain rfl := Option.some.inj H
        go_wp2
        go_ret
        exact ⟨_, by first | rfl | (simp [errW_none, errW_some] <;> rfl) | (simp [*, errW_none, errW_some] <;> rfl), by (with_reducible repeat (first | apply Kd.N_alloc | apply Kd.N_drewN | apply Kd.N_drew)); exact HO_3.out, by repeat (first | (with_reducible first | exact HB.out | apply below_alloc | apply pw_below_drewN | apply below_drew1) | exact HB.out)⟩

/-! ### samphireref19_Small: function 9 -/
mutual
def samphireref19_Small.l0 : Nat → List (S46) → Int → Option (Bool)
  | 0, _, _ => none
  | k + 1, x0, x3 => if x3 < (x0.length : Int) then (if 0 ≤ x3 then (if (((rd_T46 x0 x3).f1).size : Int) > 100 then (samphireref19_Small.j1 k x0 x3 true) else (if (((rd_T46 x0 x3).f2).size : Int) > 100 then (samphireref19_Small.j1 k x0 x3 true) else (samphireref19_Small.j1 k x0 x3 (decide ((((rd_T46 x0 x3).f3).length : Int) > 20))))) else (none)) else (some true)
def samphireref19_Small.j1 : Nat → List (S46) → Int → Bool → Option (Bool)
  | 0, _, _, _ => none
  | k + 1, x0, x3, x38 => if x38 = true then (some false) else (samphireref19_Small.l1 k x0 x3 0)
def samphireref19_Small.l1 : Nat → List (S46) → Int → Int → Option (Bool)
  | 0, _, _, _ => none
  | k + 1, x0, x3, x4 => if 0 ≤ x3 then (if x3 < (x0.length : Int) then (if x4 < (((rd_T46 x0 x3).f3).length : Int) then (if 0 ≤ x4 then (if ((rdOf ByteArray.empty ((rd_T46 x0 x3).f3) x4).size : Int) > 100 then (some false) else (samphireref19_Small.l1 k x0 x3 (wrap64 (x4 + 1)))) else (none)) else (samphireref19_Small.l0 k x0 (wrap64 (x3 + 1)))) else (none)) else (none)
end
def samphireref19_Small.f (k : Nat) (l0 : List (S46)) : Option (Bool) := if (l0.length : Int) > 20 then (some false) else (samphireref19_Small.l0 k l0 0)
theorem samphireref19_Small.mono_l : ∀ k, (∀ y0 y1, LeO (samphireref19_Small.l0 k y0 y1) (samphireref19_Small.l0 (k + 1) y0 y1)) ∧ (∀ y0 y1 y2, LeO (samphireref19_Small.j1 k y0 y1 y2) (samphireref19_Small.j1 (k + 1) y0 y1 y2)) ∧ (∀ y0 y1 y2, LeO (samphireref19_Small.l1 k y0 y1 y2) (samphireref19_Small.l1 (k + 1) y0 y1 y2))
  | 0 => ⟨fun _ _ r h => by simp [samphireref19_Small.l0] at h, fun _ _ _ r h => by simp [samphireref19_Small.j1] at h, fun _ _ _ r h => by simp [samphireref19_Small.l1] at h⟩
  | k + 1 => by
    obtain ⟨ih0, ih1, ih2⟩ := samphireref19_Small.mono_l k
    refine ⟨?_, ?_, ?_⟩
    · intro y0 y1
      unfold samphireref19_Small.l0
      repeat' first
      | (with_reducible exact ih0 _ _)
      | (with_reducible exact ih1 _ _ _)
      | (with_reducible exact ih2 _ _ _)
      | (with_reducible exact LeO.refl _)
      | (with_reducible exact LeO.none _)
      | (with_reducible refine LeO.ite ?_ ?_)
      | (with_reducible refine LeO.bind ?_ (fun _ => ?_))
      | exact ih0 _ _
      | exact ih1 _ _ _
      | exact ih2 _ _ _
      | exact LeO.none _
      | refine LeO.ite ?_ ?_
      | refine LeO.bind ?_ (fun _ => ?_)
    · intro y0 y1 y2
      unfold samphireref19_Small.j1
      repeat' first
      | (with_reducible exact ih0 _ _)
      | (with_reducible exact ih1 _ _ _)
      | (with_reducible exact ih2 _ _ _)
      | (with_reducible exact LeO.refl _)
      | (with_reducible exact LeO.none _)
      | (with_reducible refine LeO.ite ?_ ?_)
      | (with_reducible refine LeO.bind ?_ (fun _ => ?_))
      | exact ih0 _ _
      | exact ih1 _ _ _
      | exact ih2 _ _ _
      | exact LeO.none _
      | refine LeO.ite ?_ ?_
      | refine LeO.bind ?_ (fun _ => ?_)
    · intro y0 y1 y2
      unfold samphireref19_Small.l1
      repeat' first
      | (with_reducible exact ih0 _ _)
      | (with_reducible exact ih1 _ _ _)
      | (with_reducible exact ih2 _ _ _)
      | (with_reducible exact LeO.refl _)
      | (with_reducible exact LeO.none _)
      | (with_reducible refine LeO.ite ?_ ?_)
      | (with_reducible refine LeO.bind ?_ (fun _ => ?_))
      | exact ih0 _ _
      | exact ih1 _ _ _
      | exact ih2 _ _ _
      | exact LeO.none _
      | refine LeO.ite ?_ ?_
      | refine LeO.bind ?_ (fun _ => ?_)
theorem samphireref19_Small.mono : ∀ a0 k, LeO (samphireref19_Small.f k a0) (samphireref19_Small.f (k + 1) a0) := by
  intro a0 k
  obtain ⟨ih0, ih1, ih2⟩ := samphireref19_Small.mono_l k
  unfold samphireref19_Small.f
  repeat' first
      | (with_reducible exact ih0 _ _)
      | (with_reducible exact ih1 _ _ _)
      | (with_reducible exact ih2 _ _ _)
      | (with_reducible exact LeO.refl _)
      | (with_reducible exact LeO.none _)
      | (with_reducible refine LeO.ite ?_ ?_)
      | (with_reducible refine LeO.bind ?_ (fun _ => ?_))
      | exact ih0 _ _
      | exact ih1 _ _ _
      | exact ih2 _ _ _
      | exact LeO.none _
      | refine LeO.ite ?_ ?_
      | refine LeO.bind ?_ (fun _ => ?_)
set_option maxHeartbeats 8000000 in
set_option maxRecDepth 100000 in
theorem samphireref19_Small.calls (k : Nat) (A0 : Option Addr) (c0 : Nat) (l0 : List (S46)) (r : Bool) (w : World) (hr0 : Kd.C k46 w A0 l0.length l0) (hc0 : l0.length ≤ c0) (h : samphireref19_Small.f k l0 = some r) :
    Calls Try.prog 9 #[.slice A0 l0.length c0] w fun e w' => e = .returned (.bool r) ∧ Drawn0 w w' := by
  have HR0 := Aside0.mk hr0
  have HC0 := Aside0.mk hc0
  clear hr0 hc0
  have H : (if (l0.length : Int) > 20 then (some false) else (samphireref19_Small.l0 k l0 0)) = some r := h
  clear h
  by_cases c2 : (l0.length : Int) > 20
  · rw [if_pos c2] at H
    have c2b0 : decide (20 < (l0.length : Int)) = true := decide_eq_true c2
    have c2b1 : decide (20 < l0.length) = true := decide_eq_true (by omega)
    clear c2
    obtain rfl := Option.some.inj H
    go_enter Try.func9, Try.ntmps9
    go_wp2
    go_ret
    exact ⟨by first | rfl | (simp; done) | (simp [*]; done), by repeat (first | exact Drawn0.refl _ | apply Drawn0.step)⟩
  · rw [if_neg c2] at H
    have c2b0 : decide (20 < (l0.length : Int)) = false := decide_eq_false c2
    have c2b1 : decide (20 < l0.length) = false := decide_eq_false (by omega)
    clear c2
    have H' := Aside0.mk H
    clear H
    go_enter Try.func9, Try.ntmps9
    go_wp2
    go_loopg [3] k (fun kq v3 w' => ∃ (x3_1 : Int), v3 = .int .i64 x3_1 ∧ Aside0 (samphireref19_Small.l0 kq l0 x3_1 = some r) ∧ Aside0 (kq ≤ k) ∧ Drawn0 w w')
    case atStart => exact ⟨(0), (by first | rfl | (simp; done) | (simp [*]; done)), H', ⟨Nat.le_refl _⟩, by repeat (first | exact Drawn0.refl _ | apply Drawn0.step)⟩
    case round =>
      clear H'
      try clear c2
      try clear c2b0
      try clear c2b1
      try clear p2
      obtain ⟨x3_1, rfl, HA, HK1, ⟨m1, rfl⟩⟩ := hrel
      cases gk with
      | zero => exact absurd HA.out (by simp [samphireref19_Small.l0])
      | succ k1 =>
        have H := HA.out
        clear HA
        simp only [samphireref19_Small.l0] at H
        by_cases c3 : x3_1 < (l0.length : Int)
        · rw [if_pos c3] at H
          have c3b0 : decide (x3_1 < (l0.length : Int)) = true := decide_eq_true c3
          clear c3
          have HC4 := Aside0.mk H
          clear H
          go_upto_region 6 with (fail)
          go_cut [38] (fun v38 wc => ∃ (kq : Nat) (x38_3 : Bool), v38 = .bool x38_3 ∧ Aside0 (samphireref19_Small.j1 kq l0 x3_1 x38_3 = some r) ∧ Aside0 (kq ≤ k1) ∧ Drawn0 w wc)
          case first =>
            have H := HC4.out
            clear HC4
            by_cases c5 : 0 ≤ x3_1
            · rw [if_pos c5] at H
              have c5b0 : decide (0 ≤ x3_1) = true := decide_eq_true c5
              clear c5
              (first | rw [c5b0] | (simp only [i64_w, i32_w]; rw [c5b0]) | skip)
              by_cases c6 : (((rd_T46 l0 x3_1).f1).size : Int) > 100
              · rw [if_pos c6] at H
                have c6b0 : decide (100 < (((rd_T46 l0 x3_1).f1).size : Int)) = true := decide_eq_true c6
                have c6b1 : decide (100 < ((rd_T46 l0 x3_1).f1).size) = true := decide_eq_true (by omega)
                clear c6
                have H' := Aside0.mk H
                clear H
                have p128 : 0 ≤ (x3_1 : Int) := of_decide_eq_true (by first | (with_reducible assumption) | assumption)
                have q128 : x3_1 < (l0.length : Int) := of_decide_eq_true (by first | (with_reducible assumption) | assumption)
                obtain ⟨ad128, A128_3, c128_3, e128, hx128_0, hx128_1, hx128_2, hx128_3, hl128_3, hi128_3⟩ := at_T46 HR0.out x3_1 p128 q128
                cases e128
                have HR128_3 := Aside0.mk hi128_3
                have HC128_3 := Aside0.mk hl128_3
                clear hi128_3 hl128_3
                replace p128 := eq_true p128
                replace q128 := eq_true q128
                go_wp2
                go_meet
                case rel => exact ⟨_, (true), (by first | rfl | (simp; done) | (simp [*]; done)), H', ⟨by have := HK1.out; first | omega | exact Nat.le_refl _⟩, by repeat (first | exact Drawn0.refl _ | apply Drawn0.step)⟩
              · rw [if_neg c6] at H
                have c6b0 : decide (100 < (((rd_T46 l0 x3_1).f1).size : Int)) = false := decide_eq_false c6
                have c6b1 : decide (100 < ((rd_T46 l0 x3_1).f1).size) = false := decide_eq_false (by omega)
                clear c6
                by_cases c7 : (((rd_T46 l0 x3_1).f2).size : Int) > 100
                · rw [if_pos c7] at H
                  have c7b0 : decide (100 < (((rd_T46 l0 x3_1).f2).size : Int)) = true := decide_eq_true c7
                  have c7b1 : decide (100 < ((rd_T46 l0 x3_1).f2).size) = true := decide_eq_true (by omega)
                  clear c7
                  have H' := Aside0.mk H
                  clear H
                  have p128 : 0 ≤ (x3_1 : Int) := of_decide_eq_true (by first | (with_reducible assumption) | assumption)
                  have q128 : x3_1 < (l0.length : Int) := of_decide_eq_true (by first | (with_reducible assumption) | assumption)
                  obtain ⟨ad128, A128_3, c128_3, e128, hx128_0, hx128_1, hx128_2, hx128_3, hl128_3, hi128_3⟩ := at_T46 HR0.out x3_1 p128 q128
                  cases e128
                  have HR128_3 := Aside0.mk hi128_3
                  have HC128_3 := Aside0.mk hl128_3
                  clear hi128_3 hl128_3
                  replace p128 := eq_true p128
                  replace q128 := eq_true q128
                  have p129 : 0 ≤ (x3_1 : Int) := of_decide_eq_true (by first | (with_reducible assumption) | assumption)
                  have q129 : x3_1 < (l0.length : Int) := of_decide_eq_true (by first | (with_reducible assumption) | assumption)
                  obtain ⟨ad129, A129_3, c129_3, e129, hx129_0, hx129_1, hx129_2, hx129_3, hl129_3, hi129_3⟩ := at_T46 HR0.out x3_1 p129 q129
                  obtain rfl : ad128 = ad129 := (by injection e129)
                  have HR129_3 := Aside0.mk hi129_3
                  have HC129_3 := Aside0.mk hl129_3
                  clear hi129_3 hl129_3
                  replace p129 := eq_true p129
                  replace q129 := eq_true q129
                  have ea_ := Option.some.inj (hx128_3.symm.trans hx129_3)
                  injection ea_ with ea_ en_ ec_
                  subst ea_
                  subst ec_
                  clear en_
                  go_wp2
                  go_meet
                  case rel => exact ⟨_, (true), (by first | rfl | (simp; done) | (simp [*]; done)), H', ⟨by have := HK1.out; first | omega | exact Nat.le_refl _⟩, by repeat (first | exact Drawn0.refl _ | apply Drawn0.step)⟩
                · rw [if_neg c7] at H
                  have c7b0 : decide (100 < (((rd_T46 l0 x3_1).f2).size : Int)) = false := decide_eq_false c7
                  have c7b1 : decide (100 < ((rd_T46 l0 x3_1).f2).size) = false := decide_eq_false (by omega)
                  clear c7
                  have H' := Aside0.mk H
                  clear H
                  have p128 : 0 ≤ (x3_1 : Int) := of_decide_eq_true (by first | (with_reducible assumption) | assumption)
                  have q128 : x3_1 < (l0.length : Int) := of_decide_eq_true (by first | (with_reducible assumption) | assumption)
                  obtain ⟨ad128, A128_3, c128_3, e128, hx128_0, hx128_1, hx128_2, hx128_3, hl128_3, hi128_3⟩ := at_T46 HR0.out x3_1 p128 q128
                  cases e128
                  have HR128_3 := Aside0.mk hi128_3
                  have HC128_3 := Aside0.mk hl128_3
                  clear hi128_3 hl128_3
                  replace p128 := eq_true p128
                  replace q128 := eq_true q128
                  have p129 : 0 ≤ (x3_1 : Int) := of_decide_eq_true (by first | (with_reducible assumption) | assumption)
                  have q129 : x3_1 < (l0.length : Int) := of_decide_eq_true (by first | (with_reducible assumption) | assumption)
                  obtain ⟨ad129, A129_3, c129_3, e129, hx129_0, hx129_1, hx129_2, hx129_3, hl129_3, hi129_3⟩ := at_T46 HR0.out x3_1 p129 q129
                  obtain rfl : ad128 = ad129 := (by injection e129)
                  have HR129_3 := Aside0.mk hi129_3
                  have HC129_3 := Aside0.mk hl129_3
                  clear hi129_3 hl129_3
                  replace p129 := eq_true p129
                  replace q129 := eq_true q129
                  have ea_ := Option.some.inj (hx128_3.symm.trans hx129_3)
                  injection ea_ with ea_ en_ ec_
                  subst ea_
                  subst ec_
                  clear en_
                  have p130 : 0 ≤ (x3_1 : Int) := of_decide_eq_true (by first | (with_reducible assumption) | assumption)
                  have q130 : x3_1 < (l0.length : Int) := of_decide_eq_true (by first | (with_reducible assumption) | assumption)
                  obtain ⟨ad130, A130_3, c130_3, e130, hx130_0, hx130_1, hx130_2, hx130_3, hl130_3, hi130_3⟩ := at_T46 HR0.out x3_1 p130 q130
                  obtain rfl : ad128 = ad130 := (by injection e130)
                  have HR130_3 := Aside0.mk hi130_3
                  have HC130_3 := Aside0.mk hl130_3
                  clear hi130_3 hl130_3
                  replace p130 := eq_true p130
                  replace q130 := eq_true q130
                  have ea_ := Option.some.inj (hx128_3.symm.trans hx130_3)
                  injection ea_ with ea_ en_ ec_
                  subst ea_
                  subst ec_
                  clear en_
                  go_wp2
                  go_meet
                  case rel => exact ⟨_, (decide ((((rd_T46 l0 x3_1).f3).length : Int) > 20)), (by first | rfl | (simp; done) | (simp [*]; done)), H', ⟨by have := HK1.out; first | omega | exact Nat.le_refl _⟩, by repeat (first | exact Drawn0.refl _ | apply Drawn0.step)⟩
            · rw [if_neg c5] at H
              exact absurd H (by simp)
          case rest =>
            clear HC4
            try clear c1
            try clear p1
            try clear q1
            try clear hx1
            try clear c2
            try clear c2b0
            try clear c2b1
            try clear p2
            try clear c3
            try clear c3b0
            try clear c5
            try clear c5b0
            try clear c6
            try clear c6b0
            try clear c6b1
            try clear c7
            try clear c7b0
            try clear c7b1
            try clear hx128_0
            try clear hx128_1
            try clear hx128_2
            try clear hx128_3
            try clear hx129_0
            try clear hx129_1
            try clear hx129_2
            try clear hx129_3
            try clear hx130_0
            try clear hx130_1
            try clear hx130_2
            try clear hx130_3
            try clear p128
            try clear p129
            try clear p130
            try clear p2
            try clear q128
            try clear q129
            try clear q130
            obtain ⟨kq, x38_3, rfl, HA, HJ3, ⟨mc3, rfl⟩⟩ := hcut
            cases kq with
            | zero => exact absurd HA.out (by simp [samphireref19_Small.j1])
            | succ kj3 =>
              have H := HA.out
              clear HA
              simp only [samphireref19_Small.j1] at H
              by_cases c8 : x38_3 = true
              · subst c8
                have H1 : (some false) = some r := by rw [if_pos rfl] at H; exact H
                clear H
                have H := H1
                clear H1
                obtain rfl := Option.some.inj H
                go_wp2
                go_ret
                exact ⟨by first | rfl | (simp; done) | (simp [*]; done), by repeat (first | exact Drawn0.refl _ | apply Drawn0.step)⟩
              · replace c8 := Bool.eq_false_iff.mpr c8
                subst c8
                have H1 : (samphireref19_Small.l1 kj3 l0 x3_1 0) = some r := by rw [if_neg (show ¬ (false = true) by decide)] at H; exact H
                clear H
                have H := H1
                clear H1
                have H' := Aside0.mk H
                clear H
                go_wp2
                go_loopg [4] kj3 (fun kq v4 w' => ∃ (x4_3 : Int), v4 = .int .i64 x4_3 ∧ Aside0 (samphireref19_Small.l1 kq l0 x3_1 x4_3 = some r) ∧ Aside0 (kq ≤ kj3) ∧ Drawn0 w w')
                case atStart => exact ⟨(0), (by first | rfl | (simp; done) | (simp [*]; done)), H', ⟨Nat.le_refl _⟩, by repeat (first | exact Drawn0.refl _ | apply Drawn0.step)⟩
                case round =>
                  clear H'
                  try clear c1
                  try clear p1
                  try clear q1
                  try clear hx1
                  try clear c2
                  try clear c2b0
                  try clear c2b1
                  try clear p2
                  try clear c3
                  try clear c3b0
                  try clear c5
                  try clear c5b0
                  try clear c6
                  try clear c6b0
                  try clear c6b1
                  try clear c7
                  try clear c7b0
                  try clear c7b1
                  try clear c8
                  try clear hx128_0
                  try clear hx128_1
                  try clear hx128_2
                  try clear hx128_3
                  try clear hx129_0
                  try clear hx129_1
                  try clear hx129_2
                  try clear hx129_3
                  try clear hx130_0
                  try clear hx130_1
                  try clear hx130_2
                  try clear hx130_3
                  try clear p1
                  try clear p128
                  try clear p129
                  try clear p130
                  try clear p2
                  try clear q1
                  try clear q128
                  try clear q129
                  try clear q130
                  obtain ⟨x4_3, rfl, HA, HK3, ⟨m3, rfl⟩⟩ := hrel
                  cases gk with
                  | zero => exact absurd HA.out (by simp [samphireref19_Small.l1])
                  | succ k3 =>
                    have H := HA.out
                    clear HA
                    simp only [samphireref19_Small.l1] at H
                    by_cases c9 : 0 ≤ x3_1
                    · rw [if_pos c9] at H
                      have c9b0 : decide (0 ≤ x3_1) = true := decide_eq_true c9
                      clear c9
                      by_cases c10 : x3_1 < (l0.length : Int)
                      · rw [if_pos c10] at H
                        have c10b0 : decide (x3_1 < (l0.length : Int)) = true := decide_eq_true c10
                        clear c10
                        by_cases c11 : x4_3 < (((rd_T46 l0 x3_1).f3).length : Int)
                        · rw [if_pos c11] at H
                          have c11b0 : decide (x4_3 < (((rd_T46 l0 x3_1).f3).length : Int)) = true := decide_eq_true c11
                          clear c11
                          by_cases c12 : 0 ≤ x4_3
                          · rw [if_pos c12] at H
                            have c12b0 : decide (0 ≤ x4_3) = true := decide_eq_true c12
                            clear c12
                            by_cases c13 : ((rdOf ByteArray.empty ((rd_T46 l0 x3_1).f3) x4_3).size : Int) > 100
                            · rw [if_pos c13] at H
                              have c13b0 : decide (100 < ((rdOf ByteArray.empty ((rd_T46 l0 x3_1).f3) x4_3).size : Int)) = true := decide_eq_true c13
                              have c13b1 : decide (100 < (rdOf ByteArray.empty ((rd_T46 l0 x3_1).f3) x4_3).size) = true := decide_eq_true (by omega)
                              clear c13
                              obtain rfl := Option.some.inj H
                              have p131 : 0 ≤ (x3_1 : Int) := of_decide_eq_true (by first | (with_reducible assumption) | assumption)
                              have q131 : x3_1 < (l0.length : Int) := of_decide_eq_true (by first | (with_reducible assumption) | assumption)
                              obtain ⟨ad131, A131_3, c131_3, e131, hx131_0, hx131_1, hx131_2, hx131_3, hl131_3, hi131_3⟩ := at_T46 HR0.out x3_1 p131 q131
                              cases e131
                              have HR131_3 := Aside0.mk hi131_3
                              have HC131_3 := Aside0.mk hl131_3
                              clear hi131_3 hl131_3
                              replace p131 := eq_true p131
                              replace q131 := eq_true q131
                              have p132 : 0 ≤ (x3_1 : Int) := of_decide_eq_true (by first | (with_reducible assumption) | assumption)
                              have q132 : x3_1 < (l0.length : Int) := of_decide_eq_true (by first | (with_reducible assumption) | assumption)
                              obtain ⟨ad132, A132_3, c132_3, e132, hx132_0, hx132_1, hx132_2, hx132_3, hl132_3, hi132_3⟩ := at_T46 HR0.out x3_1 p132 q132
                              obtain rfl : ad131 = ad132 := (by injection e132)
                              have HR132_3 := Aside0.mk hi132_3
                              have HC132_3 := Aside0.mk hl132_3
                              clear hi132_3 hl132_3
                              replace p132 := eq_true p132
                              replace q132 := eq_true q132
                              have ea_ := Option.some.inj (hx131_3.symm.trans hx132_3)
                              injection ea_ with ea_ en_ ec_
                              subst ea_
                              subst ec_
                              clear en_
                              have p133 : 0 ≤ (x4_3 : Int) := of_decide_eq_true (by first | (with_reducible assumption) | assumption)
                              have q133 : x4_3 < (((rd_T46 l0 x3_1).f3).length : Int) := of_decide_eq_true (by first | (with_reducible assumption) | assumption)
                              obtain ⟨ad133, e133, hx133_0⟩ := Kd.at_string HR132_3.out x4_3 p133 q133
                              cases e133
                              replace p133 := eq_true p133
                              replace q133 := eq_true q133
                              go_wp2
                              go_ret
                              exact ⟨by first | rfl | (simp; done) | (simp [*]; done), by repeat (first | exact Drawn0.refl _ | apply Drawn0.step)⟩
                            · rw [if_neg c13] at H
                              have c13b0 : decide (100 < ((rdOf ByteArray.empty ((rd_T46 l0 x3_1).f3) x4_3).size : Int)) = false := decide_eq_false c13
                              have c13b1 : decide (100 < (rdOf ByteArray.empty ((rd_T46 l0 x3_1).f3) x4_3).size) = false := decide_eq_false (by omega)
                              clear c13
                              have H' := Aside0.mk H
                              clear H
                              have p131 : 0 ≤ (x3_1 : Int) := of_decide_eq_true (by first | (with_reducible assumption) | assumption)
                              have q131 : x3_1 < (l0.length : Int) := of_decide_eq_true (by first | (with_reducible assumption) | assumption)
                              obtain ⟨ad131, A131_3, c131_3, e131, hx131_0, hx131_1, hx131_2, hx131_3, hl131_3, hi131_3⟩ := at_T46 HR0.out x3_1 p131 q131
                              cases e131
                              have HR131_3 := Aside0.mk hi131_3
                              have HC131_3 := Aside0.mk hl131_3
                              clear hi131_3 hl131_3
                              replace p131 := eq_true p131
                              replace q131 := eq_true q131
                              have p132 : 0 ≤ (x3_1 : Int) := of_decide_eq_true (by first | (with_reducible assumption) | assumption)
                              have q132 : x3_1 < (l0.length : Int) := of_decide_eq_true (by first | (with_reducible assumption) | assumption)
                              obtain ⟨ad132, A132_3, c132_3, e132, hx132_0, hx132_1, hx132_2, hx132_3, hl132_3, hi132_3⟩ := at_T46 HR0.out x3_1 p132 q132
                              obtain rfl : ad131 = ad132 := (by injection e132)
                              have HR132_3 := Aside0.mk hi132_3
                              have HC132_3 := Aside0.mk hl132_3
                              clear hi132_3 hl132_3
                              replace p132 := eq_true p132
                              replace q132 := eq_true q132
                              have ea_ := Option.some.inj (hx131_3.symm.trans hx132_3)
                              injection ea_ with ea_ en_ ec_
                              subst ea_
                              subst ec_
                              clear en_
                              have p133 : 0 ≤ (x4_3 : Int) := of_decide_eq_true (by first | (with_reducible assumption) | assumption)
                              have q133 : x4_3 < (((rd_T46 l0 x3_1).f3).length : Int) := of_decide_eq_true (by first | (with_reducible assumption) | assumption)
                              obtain ⟨ad133, e133, hx133_0⟩ := Kd.at_string HR132_3.out x4_3 p133 q133
                              cases e133
                              replace p133 := eq_true p133
                              replace q133 := eq_true q133
                              go_wp2
                              go_roundg k3
                              case measure => have := HK1.out; have := HJ3.out; have := HK3.out; omega
                              case rel => exact ⟨(wrap64 (x4_3 + 1)), (by first | rfl | (simp; done) | (simp [*]; done)), H', ⟨by have := HK1.out; have := HJ3.out; have := HK3.out; omega⟩, by repeat (first | exact Drawn0.refl _ | apply Drawn0.step)⟩
                          · rw [if_neg c12] at H
                            exact absurd H (by simp)
                        · rw [if_neg c11] at H
                          have c11b0 : decide (x4_3 < (((rd_T46 l0 x3_1).f3).length : Int)) = false := decide_eq_false c11
                          clear c11
                          have H' := Aside0.mk H
                          clear H
                          have p131 : 0 ≤ (x3_1 : Int) := of_decide_eq_true (by first | (with_reducible assumption) | assumption)
                          have q131 : x3_1 < (l0.length : Int) := of_decide_eq_true (by first | (with_reducible assumption) | assumption)
                          obtain ⟨ad131, A131_3, c131_3, e131, hx131_0, hx131_1, hx131_2, hx131_3, hl131_3, hi131_3⟩ := at_T46 HR0.out x3_1 p131 q131
                          cases e131
                          have HR131_3 := Aside0.mk hi131_3
                          have HC131_3 := Aside0.mk hl131_3
                          clear hi131_3 hl131_3
                          replace p131 := eq_true p131
                          replace q131 := eq_true q131
                          go_wp2
                          go_roundg k3
                          case measure => have := HK1.out; have := HJ3.out; have := HK3.out; omega
                          case rel => exact ⟨(wrap64 (x3_1 + 1)), (by first | rfl | (simp; done) | (simp [*]; done)), H', ⟨by have := HK1.out; have := HJ3.out; have := HK3.out; omega⟩, by repeat (first | exact Drawn0.refl _ | apply Drawn0.step)⟩
                      · rw [if_neg c10] at H
                        exact absurd H (by simp)
                    · rw [if_neg c9] at H
                      exact absurd H (by simp)
        · rw [if_neg c3] at H
          have c3b0 : decide (x3_1 < (l0.length : Int)) = false := decide_eq_false c3
          clear c3
          obtain rfl := Option.some.inj H
          go_wp2
          go_ret
          exact ⟨by first | rfl | (simp; done) | (simp [*]; done), by repeat (first | exact Drawn0.refl _ | apply Drawn0.step)⟩

/-! ### samphireref16_Small: function 10 -/
def samphireref16_Small.l0 : Nat → List ByteArray → Int → Option (Bool)
  | 0, _, _ => none
  | k + 1, x0, x3 => if x3 < (x0.length : Int) then (if 0 ≤ x3 then (if ((rdOf ByteArray.empty x0 x3).size : Int) > 100 then (some false) else (samphireref16_Small.l0 k x0 (wrap64 (x3 + 1)))) else (none)) else (some true)
def samphireref16_Small.f (k : Nat) (l0 : List ByteArray) : Option (Bool) := if (l0.length : Int) > 60 then (some false) else (samphireref16_Small.l0 k l0 0)
theorem samphireref16_Small.mono_l : ∀ k, (∀ y0 y1, LeO (samphireref16_Small.l0 k y0 y1) (samphireref16_Small.l0 (k + 1) y0 y1))
  | 0 => fun _ _ r h => by simp [samphireref16_Small.l0] at h
  | k + 1 => by
    have ih0 := samphireref16_Small.mono_l k
    · intro y0 y1
      unfold samphireref16_Small.l0
      repeat' first
      | (with_reducible exact ih0 _ _)
      | (with_reducible exact LeO.refl _)
      | (with_reducible exact LeO.none _)
      | (with_reducible refine LeO.ite ?_ ?_)
      | (with_reducible refine LeO.bind ?_ (fun _ => ?_))
      | exact ih0 _ _
      | exact LeO.none _
      | refine LeO.ite ?_ ?_
      | refine LeO.bind ?_ (fun _ => ?_)
theorem samphireref16_Small.mono : ∀ a0 k, LeO (samphireref16_Small.f k a0) (samphireref16_Small.f (k + 1) a0) := by
  intro a0 k
  have ih0 := samphireref16_Small.mono_l k
  unfold samphireref16_Small.f
  repeat' first
      | (with_reducible exact ih0 _ _)
      | (with_reducible exact LeO.refl _)
      | (with_reducible exact LeO.none _)
      | (with_reducible refine LeO.ite ?_ ?_)
      | (with_reducible refine LeO.bind ?_ (fun _ => ?_))
      | exact ih0 _ _
      | exact LeO.none _
      | refine LeO.ite ?_ ?_
      | refine LeO.bind ?_ (fun _ => ?_)
set_option maxHeartbeats 8000000 in
set_option maxRecDepth 100000 in
theorem samphireref16_Small.calls (k : Nat) (A0 : Option Addr) (c0 : Nat) (l0 : List ByteArray) (r : Bool) (w : World) (hr0 : Kd.C Kd.string w A0 l0.length l0) (hc0 : l0.length ≤ c0) (h : samphireref16_Small.f k l0 = some r) :
    Calls Try.prog 10 #[.slice A0 l0.length c0] w fun e w' => e = .returned (.bool r) ∧ Drawn0 w w' := by
  have HR0 := Aside0.mk hr0
  have HC0 := Aside0.mk hc0
  clear hr0 hc0
  have H : (if (l0.length : Int) > 60 then (some false) else (samphireref16_Small.l0 k l0 0)) = some r := h
  clear h
  by_cases c2 : (l0.length : Int) > 60
  · rw [if_pos c2] at H
    have c2b0 : decide (60 < (l0.length : Int)) = true := decide_eq_true c2
    have c2b1 : decide (60 < l0.length) = true := decide_eq_true (by omega)
    clear c2
    obtain rfl := Option.some.inj H
    go_enter Try.func10, Try.ntmps10
    go_wp2
    go_ret
    exact ⟨by first | rfl | (simp; done) | (simp [*]; done), by repeat (first | exact Drawn0.refl _ | apply Drawn0.step)⟩
  · rw [if_neg c2] at H
    have c2b0 : decide (60 < (l0.length : Int)) = false := decide_eq_false c2
    have c2b1 : decide (60 < l0.length) = false := decide_eq_false (by omega)
    clear c2
    have H' := Aside0.mk H
    clear H
    go_enter Try.func10, Try.ntmps10
    go_wp2
    go_loopg [3] k (fun kq v3 w' => ∃ (x3_1 : Int), v3 = .int .i64 x3_1 ∧ Aside0 (samphireref16_Small.l0 kq l0 x3_1 = some r) ∧ Aside0 (kq ≤ k) ∧ Drawn0 w w')
    case atStart => exact ⟨(0), (by first | rfl | (simp; done) | (simp [*]; done)), H', ⟨Nat.le_refl _⟩, by repeat (first | exact Drawn0.refl _ | apply Drawn0.step)⟩
    case round =>
      clear H'
      try clear c1
      try clear c2
      try clear c2b0
      try clear c2b1
      try clear p2
      obtain ⟨x3_1, rfl, HA, HK1, ⟨m1, rfl⟩⟩ := hrel
      cases gk with
      | zero => exact absurd HA.out (by simp [samphireref16_Small.l0])
      | succ k1 =>
        have H := HA.out
        clear HA
        simp only [samphireref16_Small.l0] at H
        by_cases c3 : x3_1 < (l0.length : Int)
        · rw [if_pos c3] at H
          have c3b0 : decide (x3_1 < (l0.length : Int)) = true := decide_eq_true c3
          clear c3
          by_cases c4 : 0 ≤ x3_1
          · rw [if_pos c4] at H
            have c4b0 : decide (0 ≤ x3_1) = true := decide_eq_true c4
            clear c4
            by_cases c5 : ((rdOf ByteArray.empty l0 x3_1).size : Int) > 100
            · rw [if_pos c5] at H
              have c5b0 : decide (100 < ((rdOf ByteArray.empty l0 x3_1).size : Int)) = true := decide_eq_true c5
              have c5b1 : decide (100 < (rdOf ByteArray.empty l0 x3_1).size) = true := decide_eq_true (by omega)
              clear c5
              obtain rfl := Option.some.inj H
              have p134 : 0 ≤ (x3_1 : Int) := of_decide_eq_true (by first | (with_reducible assumption) | assumption)
              have q134 : x3_1 < (l0.length : Int) := of_decide_eq_true (by first | (with_reducible assumption) | assumption)
              obtain ⟨ad134, e134, hx134_0⟩ := Kd.at_string HR0.out x3_1 p134 q134
              cases e134
              replace p134 := eq_true p134
              replace q134 := eq_true q134
              go_wp2
              go_ret
              exact ⟨by first | rfl | (simp; done) | (simp [*]; done), by repeat (first | exact Drawn0.refl _ | apply Drawn0.step)⟩
            · rw [if_neg c5] at H
              have c5b0 : decide (100 < ((rdOf ByteArray.empty l0 x3_1).size : Int)) = false := decide_eq_false c5
              have c5b1 : decide (100 < (rdOf ByteArray.empty l0 x3_1).size) = false := decide_eq_false (by omega)
              clear c5
              have H' := Aside0.mk H
              clear H
              have p134 : 0 ≤ (x3_1 : Int) := of_decide_eq_true (by first | (with_reducible assumption) | assumption)
              have q134 : x3_1 < (l0.length : Int) := of_decide_eq_true (by first | (with_reducible assumption) | assumption)
              obtain ⟨ad134, e134, hx134_0⟩ := Kd.at_string HR0.out x3_1 p134 q134
              cases e134
              replace p134 := eq_true p134
              replace q134 := eq_true q134
              go_wp2
              go_roundg k1
              case measure => have := HK1.out; omega
              case rel => exact ⟨(wrap64 (x3_1 + 1)), (by first | rfl | (simp; done) | (simp [*]; done)), H', ⟨by have := HK1.out; omega⟩, by repeat (first | exact Drawn0.refl _ | apply Drawn0.step)⟩
          · rw [if_neg c4] at H
            exact absurd H (by simp)
        · rw [if_neg c3] at H
          have c3b0 : decide (x3_1 < (l0.length : Int)) = false := decide_eq_false c3
          clear c3
          obtain rfl := Option.some.inj H
          go_wp2
          go_ret
          exact ⟨by first | rfl | (simp; done) | (simp [*]; done), by repeat (first | exact Drawn0.refl _ | apply Drawn0.step)⟩

-- NOT PRINTED: function 28 (choose_Term_28)

-- NOT PRINTED: function 20 (choose_Term_20)

/-! ### choose_Check: function 14 -/
theorem enter_at {P : Program} {f : FuncId} {fn : Func} {c : Code} (hf : P.funcs[f]? = some fn) (hn : (fn.name == "runtime.NumGoroutine") = false) (hb : fn.body = some c) (args : Array Value) (w : World) : (callFunc f args).run P w = .ok (.enter f args) w := by
  have h1 : fn.name ≠ "runtime.NumGoroutine" := by simpa using hn
  simp [callFunc, hf, h1, hb, mark]
/-- The first place at which p says yes, or -1. -/
def idxF {α : Type} (p : α → Option Bool) : List α → Int → Option Int
  | [], _ => some (-1)
  | x :: l, i => (p x).bind fun b => if b = true then some i else idxF p l (i + 1)
theorem idxF_at {α : Type} (p : α → Option Bool) (l : List α) (d : α) (i : Int) (h0 : 0 ≤ i) (h1 : i < l.length) (r : Int) (h : idxF p (l.drop i.toNat) i = some r) :
    ∃ b, p (l.getD i.toNat d) = some b ∧ ((b = true ∧ r = i) ∨ (b = false ∧ idxF p (l.drop (i + 1).toNat) (i + 1) = some r)) := by
  have hn : i.toNat < l.length := by omega
  rw [List.drop_eq_getElem_cons hn, idxF, Option.bind_eq_some_iff] at h
  obtain ⟨b, hb, h⟩ := h
  refine ⟨b, by rw [List.getD_eq_getElem?_getD, List.getElem?_eq_getElem hn]; exact hb, ?_⟩
  cases b with
  | true => exact .inl ⟨rfl, by simpa using h.symm⟩
  | false => exact .inr ⟨rfl, by rw [show (i + 1).toNat = i.toNat + 1 from by omega]; simpa using h⟩
theorem idxF_end {α : Type} (p : α → Option Bool) (l : List α) (i : Int) (h1 : ¬ i < l.length) (r : Int) (h : idxF p (l.drop i.toNat) i = some r) : r = -1 := by
  rw [List.drop_of_length_le (by omega), idxF] at h
  exact (Option.some.inj h).symm
set_option maxHeartbeats 1000000 in
theorem IndexFunc_calls (g : Nat) (lb : Array Value) (eg : ∀ args w, (callFunc g args).run Try.prog w = .ok (.enter g args) w) (p : S42 → Option Bool) (A0 : Option Addr) (c0 : Nat) (l0 : List S42) (r : Int) (w : World)
   (hr0 : Kd.C k42 w A0 l0.length l0) (hc0 : l0.length ≤ c0)
   (hp : ∀ (W : World) (x : S42) (A3 : Option Addr) (c3 : Nat) (b : Bool), Below w.heap.size w W → x.f3.length ≤ c3 → Kd.C Kd.string W A3 x.f3.length x.f3 → p x = some b → Calls Try.prog g (#[.agg #[.int .i64 x.f0, .string x.f1, .string x.f2, .slice A3 x.f3.length c3]] ++ lb) W fun e w' => e = .returned (.bool b) ∧ Below W.heap.size W w')
   (h : idxF p l0 0 = some r) :
   Calls Try.prog 28 #[.slice A0 l0.length c0, .func (.func g) #[] lb] w fun e w' => e = .returned (.int .i64 r) ∧ Below w.heap.size w w' := by
  have hn : l0.length ≤ 9223372036854775807 := hr0.2.1
  have HH := Aside0.mk h
  clear h
  have HP := Aside0.mk hp
  clear hp
  have HR := Aside0.mk hr0
  clear hr0
  go_enter Try.func28, Try.ntmps28
  go_wp2
  go_loopg [5, 8] l0.length (fun gg _ s8 wr => ∃ x8 : Int, s8 = .int .i64 x8 ∧ Aside0 (0 ≤ x8 ∧ x8 ≤ l0.length ∧ l0.length - x8.toNat ≤ gg) ∧ Aside0 (Below w.heap.size w wr) ∧ Aside0 (idxF p (l0.drop x8.toNat) x8 = some r))
  case atStart => exact ⟨0, rfl, ⟨by omega⟩, ⟨Below.refl _ w⟩, HH⟩
  case round =>
    clear HH
    obtain ⟨x8, rfl, hk, BW, HH⟩ := hrel
    obtain ⟨h0, h1, hg⟩ := hk.out
    clear hk
    by_cases hlt : x8 < (l0.length : Int)
    · obtain ⟨b, hb, hbr⟩ := idxF_at p l0 z42 x8 h0 hlt r HH.out
      clear HH
      obtain ⟨ad, A3, c3, e, hx0, hx1, hx2, hx3, hl3, hi3⟩ := at_T42 (Kd.C_below HR.out BW.out) x8 h0 hlt
      cases e
      have HC := Aside0.mk (HP.out wr (rd_T42 l0 x8) A3 c3 b BW.out hl3 hi3 hb)
      clear hi3
      have HB := Aside0.mk hb
      clear hb
      have HBR := Aside0.mk hbr
      clear hbr
      have d0 : decide (0 ≤ x8) = true := decide_eq_true h0
      have d1 : decide (x8 < (l0.length : Int)) = true := decide_eq_true hlt
      have w8 : wrap64 (x8 + 1) = x8 + 1 := by unfold wrap64; omega
      cases b with
      | true =>
        go_wp2_with fail
        refine HC.out.mono ?_
        rintro e w' ⟨rfl, hb'⟩
        go_wp2
        go_ret
        exact ⟨by rw [show r = x8 from by rcases HBR.out with h | h <;> first | exact h.2 | exact absurd h.1 (by decide)]; rfl, below_then BW.out BW.out.size hb'⟩
      | false =>
        go_wp2_with fail
        refine HC.out.mono ?_
        rintro e w' ⟨rfl, hb'⟩
        go_wp2
        go_roundg (l0.length - (x8 + 1).toNat)
        case measure => omega
        case rel => exact ⟨x8 + 1, by simp [w8], ⟨by omega⟩, ⟨below_then BW.out BW.out.size hb'⟩, ⟨by rcases HBR.out with h | h <;> first | exact absurd h.1 (by decide) | exact h.2⟩⟩
    · have d1 : decide (x8 < (l0.length : Int)) = false := decide_eq_false hlt
      have hr := idxF_end p l0 x8 hlt r HH.out
      clear HH
      subst hr
      go_wp2
      go_ret
      exact ⟨rfl, BW.out⟩
/-- Does p say yes anywhere? -/
def anyF {α : Type} (p : α → Option Bool) (l : List α) : Option Bool := (idxF p l 0).bind fun i => some (decide (i ≥ 0))
theorem idxF_leo {α : Type} {p q : α → Option Bool} (h : ∀ x, LeO (p x) (q x)) : ∀ (l : List α) (i : Int), LeO (idxF p l i) (idxF q l i)
  | [], _ => LeO.refl _
  | x :: l, i => LeO.bind (h x) (fun b => LeO.ite (LeO.refl _) (idxF_leo h l (i + 1)))
theorem anyF_leo {α : Type} {p q : α → Option Bool} (h : ∀ x, LeO (p x) (q x)) (l : List α) : LeO (anyF p l) (anyF q l) := LeO.bind (idxF_leo h l 0) (fun _ => LeO.refl _)
theorem ContainsFunc_calls (g : Nat) (lb : Array Value) (eg : ∀ args w, (callFunc g args).run Try.prog w = .ok (.enter g args) w) (p : S42 → Option Bool) (A0 : Option Addr) (c0 : Nat) (l0 : List S42) (r : Bool) (w : World)
   (hr0 : Kd.C k42 w A0 l0.length l0) (hc0 : l0.length ≤ c0)
   (hp : ∀ (W : World) (x : S42) (A3 : Option Addr) (c3 : Nat) (b : Bool), Below w.heap.size w W → x.f3.length ≤ c3 → Kd.C Kd.string W A3 x.f3.length x.f3 → p x = some b → Calls Try.prog g (#[.agg #[.int .i64 x.f0, .string x.f1, .string x.f2, .slice A3 x.f3.length c3]] ++ lb) W fun e w' => e = .returned (.bool b) ∧ Below W.heap.size W w')
   (h : anyF p l0 = some r) :
   Calls Try.prog 20 #[.slice A0 l0.length c0, .func (.func g) #[] lb] w fun e w' => e = .returned (.bool r) ∧ Below w.heap.size w w' := by
  obtain ⟨i, hi, hr⟩ := Option.bind_eq_some_iff.1 h
  clear h
  have hR := Aside0.mk (Option.some.inj hr)
  clear hr
  have HC := Aside0.mk (IndexFunc_calls g lb eg p A0 c0 l0 i w hr0 hc0 hp hi)
  clear hp hi hr0
  go_enter Try.func20, Try.ntmps20
  go_wp2_with fail
  refine HC.out.mono ?_
  rintro e w' ⟨rfl, hb⟩
  go_wp2
  go_ret
  exact ⟨by rw [← hR.out]; rfl, hb⟩
def notSound (k : Nat) (t : S42) : Option Bool := (choose_sound.f k t.f0 t.f1 t.f2 t.f3).bind fun b => some (!b)
theorem notSound_leo (k : Nat) (t : S42) : LeO (notSound k t) (notSound (k + 1) t) := LeO.bind (choose_sound.mono _ _ _ _ k) (fun _ => LeO.refl _)
theorem closureCheck (k : Nat) (x : S42) (A3 : Option Addr) (c3 : Nat) (b : Bool) (W : World) (hl : x.f3.length ≤ c3) (hC : Kd.C Kd.string W A3 x.f3.length x.f3) (h : notSound k x = some b) :
    Calls Try.prog 24 #[.agg #[.int .i64 x.f0, .string x.f1, .string x.f2, .slice A3 x.f3.length c3]] W fun e w' => e = .returned (.bool b) ∧ Below W.heap.size W w' := by
  obtain ⟨s, hs, hb⟩ := Option.bind_eq_some_iff.1 h
  clear h
  obtain rfl := Option.some.inj hb
  clear hb
  have HS := Aside0.mk hs
  clear hs
  have HCC := Aside0.mk hC
  clear hC
  go_enter Try.func24, Try.ntmps24
  go_wp2_with fail
  refine (choose_sound.calls k x.f0 x.f1 x.f2 A3 c3 x.f3 s _ (Kd.C_below HCC.out (below_alloc (Below.refl _ _) _)) hl HS.out).mono ?_
  rintro e w' ⟨rfl, hb⟩
  go_wp2
  go_ret
  exact ⟨rfl, below_then (below_alloc (Below.refl _ _) _) (below_alloc (Below.refl _ _) _).size hb⟩
def choose_Check.f (k : Nat) (l0 : List S42) : Option Int := if (l0.length : Int) > 8 then some 1 else (anyF (notSound k) l0).bind fun b => some (if b = true then 1 else 0)
theorem choose_Check.mono (a0 : List S42) (k : Nat) : LeO (choose_Check.f k a0) (choose_Check.f (k + 1) a0) := LeO.ite (LeO.refl _) (LeO.bind (anyF_leo (notSound_leo k) a0) (fun _ => LeO.refl _))
set_option maxHeartbeats 1000000 in
theorem choose_Check.calls (k : Nat) (A0 : Option Addr) (c0 : Nat) (l0 : List S42) (r : Int) (w : World) (hr0 : Kd.C k42 w A0 l0.length l0) (hc0 : l0.length ≤ c0) (h : choose_Check.f k l0 = some r) :
    Calls Try.prog 14 #[.slice A0 l0.length c0] w fun e w' => e = .returned (.int .i64 r) ∧ Below w.heap.size w w' := by
  have eg : ∀ args w, (callFunc 24 args).run Try.prog w = .ok (.enter 24 args) w := enter_at Try.func24 (by kernel_rfl) rfl
  unfold choose_Check.f at h
  by_cases h8 : (l0.length : Int) > 8
  · rw [if_pos h8] at h
    obtain rfl := Option.some.inj h
    clear h hr0
    have d0 : decide ((8 : Int) < (l0.length : Int)) = true := decide_eq_true h8
    have d1 : decide (8 < l0.length) = true := decide_eq_true (by omega)
    clear h8
    go_enter Try.func14, Try.ntmps14
    go_wp2
    go_ret
    exact ⟨rfl, Below.refl _ _⟩
  · rw [if_neg h8] at h
    obtain ⟨b, hb, h⟩ := Option.bind_eq_some_iff.1 h
    have HR := Aside0.mk (Option.some.inj h)
    clear h
    have HC := Aside0.mk (ContainsFunc_calls 24 #[] eg (notSound k) A0 c0 l0 b w hr0 hc0 (fun W x A3 c3 b' hB hl hC hh => closureCheck k x A3 c3 b' W hl hC hh) hb)
    clear hr0 hb
    have d0 : decide ((8 : Int) < (l0.length : Int)) = false := decide_eq_false h8
    have d1 : decide (8 < l0.length) = false := decide_eq_false (by omega)
    clear h8
    go_enter Try.func14, Try.ntmps14
    go_wp2_with fail
    refine HC.out.mono ?_
    rintro e w' ⟨rfl, hB⟩
    cases b with
    | true =>
      go_wp2
      go_ret
      exact ⟨by rw [← HR.out]; rfl, hB⟩
    | false =>
      go_wp2
      go_ret
      exact ⟨by rw [← HR.out]; rfl, hB⟩

end Go.Proofs.Ytnpipaehcklnbaa.H
