-- laid by wip/hyb.py (the kit's printer with turns of ours)
import Derived.Test.YtojpmjkphgjmgaaHx0
import Derived.Test.YtojpmjkphgjmgaaHx9
import Derived.Test.YtojpmjkphgjmgaaHx11
namespace Go.Proofs.Ytojpmjkphgjmgaa.H
open Go.RowKit Go.Proofs.YtojpmjkphgjmgaaW.PrintWords Go.Proofs.YtojpmjkphgjmgaaW.PrintLast Go.Proofs.YtojpmjkphgjmgaaW.PrintMore Go.Proofs.YtojpmjkphgjmgaaW.Sq
attribute [local go_sem] max2_int min2_int max_two min_two max_three min_three max_four min_four   -- for this text's walks alone
set_option linter.unusedVariables false
set_option linter.unusedSimpArgs false

/-! ### samphirelaw12_IndexGrows: function 6 -/
mutual
def samphirelaw12_IndexGrows.l0 : Nat → List ByteArray → Int → Int → Int → Int → List (S60) → Option (Bool)
 | 0, _, _, _, _, _, _ => none
 | k + 1, x17, x18, x19, x576000, x576001, x576002 => if x19 < x18 then (if 0 ≤ x19 then (if x19 < (x17.length : Int) then (if ((rdOf ByteArray.empty x17 x19).size : Int) > 64 then ((samphirelaw12_awake.f k).bind fun t577 => (some t577)) else ((index_Put.f k x576000 x576001 x576002 (rdOf ByteArray.empty x17 x19) x19).bind fun bt578 => (if bt578.2.2.2 = 0 then (samphirelaw12_IndexGrows.l0 k x17 x18 (wrap64 (x19 + 1)) bt578.1 bt578.2.1 bt578.2.2.1) else (some false)))) else (none)) else (none)) else (samphirelaw12_IndexGrows.l1 k 8 x576000 x576001 x576002)
def samphirelaw12_IndexGrows.l1 : Nat → Int → Int → Int → List (S60) → Option (Bool)
 | 0, _, _, _, _ => none
 | k + 1, x10, x576000, x576001, x576002 => (index_Many.f k x576000 x576001 x576002).bind fun t585 => (if x10 < (wrap64 (2 * t585)) then (samphirelaw12_IndexGrows.l1 k (wrap64 (2 * x10)) x576000 x576001 x576002) else (if (x576002.length : Int) = x10 then ((samphirelaw12_awake.f k).bind fun t586 => (some t586)) else (some false)))
end
def samphirelaw12_IndexGrows.f (k : Nat) (a0_0 : Int) (a0_1 : Int) (l1 : List ByteArray) : Option (Bool) := if (l1.length : Int) > 100 then ((samphirelaw12_awake.f k).bind fun t569 => (some t569)) else ((index_New.f a0_0 a0_1).bind fun bt570 => (samphirelaw12_IndexGrows.l0 k l1 (l1.length : Int) 0 bt570.1 bt570.2.1 bt570.2.2))
theorem samphirelaw12_IndexGrows.mono_l : ∀ k, (∀ y0 y1 y2 y3 y4 y5, LeO (samphirelaw12_IndexGrows.l0 k y0 y1 y2 y3 y4 y5) (samphirelaw12_IndexGrows.l0 (k + 1) y0 y1 y2 y3 y4 y5)) ∧ (∀ y0 y1 y2 y3, LeO (samphirelaw12_IndexGrows.l1 k y0 y1 y2 y3) (samphirelaw12_IndexGrows.l1 (k + 1) y0 y1 y2 y3))
 | 0 => ⟨fun _ _ _ _ _ _ r h => by simp [samphirelaw12_IndexGrows.l0] at h, fun _ _ _ _ r h => by simp [samphirelaw12_IndexGrows.l1] at h⟩
 | k + 1 => by
  obtain ⟨ih0, ih1⟩ := samphirelaw12_IndexGrows.mono_l k
  refine ⟨?_, ?_⟩
  ·intro y0 y1 y2 y3 y4 y5
   unfold samphirelaw12_IndexGrows.l0
   repeat' first
   | (with_reducible exact ih0 _ _ _ _ _ _)
   | (with_reducible exact ih1 _ _ _ _)
   | (with_reducible exact index_Many.mono _ _ _ _)
   | (with_reducible exact index_Put.mono _ _ _ _ _ _)
   | (with_reducible exact samphirelaw12_awake.mono _)
   | (with_reducible exact LeO.refl _)
   | (with_reducible exact LeO.none _)
   | (with_reducible refine LeO.ite ?_ ?_)
   | (with_reducible refine LeO.bind ?_ (fun _ => ?_))
   | exact ih0 _ _ _ _ _ _
   | exact ih1 _ _ _ _
   | exact index_Many.mono _ _ _ _
   | exact index_Put.mono _ _ _ _ _ _
   | exact samphirelaw12_awake.mono _
   | exact LeO.none _
   | refine LeO.ite ?_ ?_
   | refine LeO.bind ?_ (fun _ => ?_)
  ·intro y0 y1 y2 y3
   unfold samphirelaw12_IndexGrows.l1
   repeat' first
   | (with_reducible exact ih0 _ _ _ _ _ _)
   | (with_reducible exact ih1 _ _ _ _)
   | (with_reducible exact index_Many.mono _ _ _ _)
   | (with_reducible exact index_Put.mono _ _ _ _ _ _)
   | (with_reducible exact samphirelaw12_awake.mono _)
   | (with_reducible exact LeO.refl _)
   | (with_reducible exact LeO.none _)
   | (with_reducible refine LeO.ite ?_ ?_)
   | (with_reducible refine LeO.bind ?_ (fun _ => ?_))
   | exact ih0 _ _ _ _ _ _
   | exact ih1 _ _ _ _
   | exact index_Many.mono _ _ _ _
   | exact index_Put.mono _ _ _ _ _ _
   | exact samphirelaw12_awake.mono _
   | exact LeO.none _
   | refine LeO.ite ?_ ?_
   | refine LeO.bind ?_ (fun _ => ?_)
theorem samphirelaw12_IndexGrows.mono : ∀ a0 a1 a2 k, LeO (samphirelaw12_IndexGrows.f k a0 a1 a2) (samphirelaw12_IndexGrows.f (k + 1) a0 a1 a2) := by
 intro a0 a1 a2 k
 obtain ⟨ih0, ih1⟩ := samphirelaw12_IndexGrows.mono_l k
 unfold samphirelaw12_IndexGrows.f
 repeat' first
   | (with_reducible exact ih0 _ _ _ _ _ _)
   | (with_reducible exact ih1 _ _ _ _)
   | (with_reducible exact index_Many.mono _ _ _ _)
   | (with_reducible exact index_Put.mono _ _ _ _ _ _)
   | (with_reducible exact samphirelaw12_awake.mono _)
   | (with_reducible exact LeO.refl _)
   | (with_reducible exact LeO.none _)
   | (with_reducible refine LeO.ite ?_ ?_)
   | (with_reducible refine LeO.bind ?_ (fun _ => ?_))
   | exact ih0 _ _ _ _ _ _
   | exact ih1 _ _ _ _
   | exact index_Many.mono _ _ _ _
   | exact index_Put.mono _ _ _ _ _ _
   | exact samphirelaw12_awake.mono _
   | exact LeO.none _
   | refine LeO.ite ?_ ?_
   | refine LeO.bind ?_ (fun _ => ?_)
set_option maxHeartbeats 8000000 in
set_option maxRecDepth 100000 in
theorem samphirelaw12_IndexGrows.calls (k : Nat) (a0_0 : Int) (a0_1 : Int) (A1 : Option Addr) (c1 : Nat) (l1 : List ByteArray) (r : Bool) (hrT : Aside0 (r = true)) (w : World) (hr1 : Kd.C Kd.string w A1 l1.length l1) (hc1 : l1.length ≤ c1) (h : samphirelaw12_IndexGrows.f k a0_0 a0_1 l1 = some r) :
  Calls Try.prog 6 #[.agg #[.int .u64 a0_0, .int .u64 a0_1], .slice A1 l1.length c1] w fun e w' => e = .returned (.bool r) ∧ Below w.heap.size w w' := by
 have hu24 := Try.underlying24
 have hu27 := Try.underlying27
 have HR1 := Aside0.mk hr1
 have HC1 := Aside0.mk hc1
 clear hr1 hc1
 have HB := Aside0.mk (Below.refl w.heap.size w)
 have H : (if (l1.length : Int) > 100 then ((samphirelaw12_awake.f k).bind fun t569 => (some t569)) else ((index_New.f a0_0 a0_1).bind fun bt570 => (samphirelaw12_IndexGrows.l0 k l1 (l1.length : Int) 0 bt570.1 bt570.2.1 bt570.2.2))) = some r := h
 clear h
 by_cases c3 : (l1.length : Int) > 100
 ·rw [if_pos c3] at H
  have c3b0 : decide (100 < (l1.length : Int)) = true := decide_eq_true c3
  have c3b1 : decide (100 < l1.length) = true := decide_eq_true (by omega)
  clear c3
  replace H := Option.bind_eq_some_iff.mp H
  obtain ⟨t569, A40, H⟩ := H
  replace H : (some t569) = some r := H
  have A4 := Aside0.mk A40
  clear A40
  obtain rfl := Option.some.inj H
  go_enter Try.func6, Try.ntmps6
  go_wp2_with (first | ((with_reducible refine gate_dst (N := 2) rfl ?_); refine box_event ?hg (N := 2) ?hd (cs := #[.int .u64 a0_0, .int .u64 a0_1]) (t := 24) ?hr ?_; (case hd => rfl); (case hg => rfl); (case hr => first | (go_simp; done) | (go_simp; rfl)); intro gb568 hg w5 hbox hb; have n0_ := Aside0.mk (below_step (pb HB) hb); have n1_ := Aside0.mk (hbox); have n2_ := Aside0.mk ((pg hg HB : w.heap.size ≤ gb568)); have n3_ := Aside0.mk ((pg hg HB : w.heap.size ≤ gb568)); clear HB; have HB := n0_; have BK568 := n1_; have GW568 := n2_; have GE568 := n3_; clear n0_ n1_ n2_ n3_; clear hb hbox hg) | ((with_reducible refine gate_callee (f := 10) rfl ?_); refine gl (some 14) Try.func10 #[] ?_; (with_reducible refine (samphirelaw12_awake.calls k  t569 hrT _ A4.out).mono ?_); rintro e w6 ⟨rfl, hb⟩; refine ⟨_, rfl, ?_⟩; have n0_ := Aside0.mk (blk_below (pk BK568.out) hb); have n1_ := Aside0.mk (below_step (pb HB) hb); clear BK568; clear HB; have BK568 := n0_; have HB := n1_; clear n0_ n1_; (try clear hb); (try clear hb2); (try clear hk); (try clear hi)))
  go_ret
  exact ⟨by first | rfl | (simp [errW_none, errW_some] <;> rfl) | (simp [*, errW_none, errW_some] <;> rfl), pb HB⟩
 ·rw [if_neg c3] at H
  have c3b0 : decide (100 < (l1.length : Int)) = false := decide_eq_false c3
  have c3b1 : decide (100 < l1.length) = false := decide_eq_false (by omega)
  clear c3
  replace H := Option.bind_eq_some_iff.mp H
  obtain ⟨⟨t570, t571, t572⟩, A70, H⟩ := H
  replace H : (samphirelaw12_IndexGrows.l0 k l1 (l1.length : Int) 0 t570 t571 t572) = some r := H
  have A7 := Aside0.mk A70
  clear A70
  have H' := Aside0.mk H
  clear H
  go_enter Try.func6, Try.ntmps6
  go_wp2_with (first | ((with_reducible refine gate_dst (N := 2) rfl ?_); refine box_event ?hg (N := 2) ?hd (cs := #[.int .u64 a0_0, .int .u64 a0_1]) (t := 24) ?hr ?_; (case hd => rfl); (case hg => rfl); (case hr => first | (go_simp; done) | (go_simp; rfl)); intro gb568 hg w8 hbox hb; have n0_ := Aside0.mk (below_step (pb HB) hb); have n1_ := Aside0.mk (hbox); have n2_ := Aside0.mk ((pg hg HB : w.heap.size ≤ gb568)); have n3_ := Aside0.mk ((pg hg HB : w.heap.size ≤ gb568)); clear HB; have HB := n0_; have BK568 := n1_; have GW568 := n2_; have GE568 := n3_; clear n0_ n1_ n2_ n3_; clear hb hbox hg; have hcz9_0 := ce BK568 0; have hcz9_1 := ce BK568 1; have hfz9_0 := fz BK568 0; have hfz9_1 := fz BK568 1) | ((with_reducible refine gate_callee (f := 22) rfl ?_); refine gl (some 16) Try.func22 #[.agg #[.int .u64 a0_0, .int .u64 a0_1]] ?_; (with_reducible refine (index_New.calls a0_0 a0_1 t570 t571 t572 _ A7.out).mono ?_); rintro e w10 ⟨v573, rfl, ho0, hb⟩; refine ⟨_, rfl, ?_⟩; have n0_ := Aside0.mk (Kd.R_lower ho0 (below_size (pb HB))); have n1_ := Aside0.mk (blk_below (pk BK568.out) hb); have n2_ := Aside0.mk (below_step (pb HB) hb); clear BK568; clear HB; have HO574 := n0_; have BK568 := n1_; have HB := n2_; clear n0_ n1_ n2_; (try clear hb); (try clear hb2); (try clear hk); (try clear hi); (try clear ho0)) | ((with_reducible refine gate_dst (N := 5) rfl ?_); refine box_event ?hg (N := 5) ?hd (cs := #[.int .u64 0, .int .u64 0, .slice none 0 0]) (t := 27) ?hr ?_; (case hd => rfl); (case hg => rfl); (case hr => first | (go_simp; done) | (go_simp; rfl)); intro gb575 hg w11 hbox hb; have n0_ := Aside0.mk (Kd.R_below (pr HO574.out) hb); have n1_ := Aside0.mk (blk_below (pk BK568.out) hb); have n2_ := Aside0.mk (below_step (pb HB) hb); have n3_ := Aside0.mk (hbox); have n4_ := Aside0.mk ((pg hg HB : w.heap.size ≤ gb575)); have n5_ := Aside0.mk ((pg hg HB : w.heap.size ≤ gb575)); have n6_ := Aside0.mk ((pl hg (pk BK568.out) : gb568 ≠ gb575)); have n7_ := Aside0.mk ((pl' hg (pk BK568.out) : gb575 ≠ gb568)); clear HO574; clear BK568; clear HB; have HO574 := n0_; have BK568 := n1_; have HB := n2_; have BK575 := n3_; have GW575 := n4_; have GE575 := n5_; have NB568_575 := n6_; have NB575_568 := n7_; clear n0_ n1_ n2_ n3_ n4_ n5_ n6_ n7_; clear hb hbox hg; have hnb12 := NB575_568.out; have hnc12 := NB568_575.out; have hcz13_0 := ce BK575 0; have hcz13_1 := ce BK575 1; have hcz13_2 := ce BK575 2; have hfz13_0 := fz BK575 0; have hfz13_1 := fz BK575 1; have hfz13_2 := fz BK575 2; obtain ⟨Ao14, co14, eo14⟩ := Kd.R_slice HO574.out; subst eo14))
  go_loopg [19] k (fun kq v19 w' => ∃ (x19_1 : Int) (x576000_1 : Int) (x576001_1 : Int) (x576002_1 : List (S60)) (u576002 : Value), v19 = .int .i64 x19_1 ∧ Aside0 (samphirelaw12_IndexGrows.l0 kq l1 (l1.length : Int) x19_1 x576000_1 x576001_1 x576002_1 = some r) ∧ Aside0 (kq ≤ k) ∧ Aside0 (Kd.V k60 60 w' w.heap.size (fun k_ => k_ ≠ gb568 ∧ k_ ≠ gb575) u576002 x576002_1) ∧ Aside0 (w'.heap[gb568]? = some (.cells #[.int .u64 a0_0, .int .u64 a0_1] 24 (0, 0))) ∧ Aside0 (w'.heap[gb575]? = some (.cells #[.int .u64 x576000_1, .int .u64 x576001_1, u576002] 27 (0, 0))) ∧ Aside0 (Below w.heap.size w w'))
  case atStart => exact ⟨(0), (t570), (t571), (t572), (.slice Ao14 t572.length co14), (by first | rfl | (simp; done) | (simp [*]; done)), H', ⟨Nat.le_refl _⟩, ⟨Kd.R_V (pr (Kd.R_mono (Kd.R_far (p := ⟨gb575, 2, none⟩) (Kd.R_far (p := ⟨gb575, 1, none⟩) (Kd.R_far (p := ⟨gb575, 0, none⟩) (Kd.R_types (Kd.R_types (Kd.R_types HO574.out BK568.out (by decide)) BK575.out (by decide)) BK575.out (by decide)) (fun _ hk => hk.2) (.int .u64 t570)) (fun _ hk => hk.2) (.int .u64 t571)) (fun _ hk => hk.2) (.slice Ao14 t572.length co14)) (fun _ hk => ⟨hk.1.1.2, hk.1.2⟩)))⟩, ⟨by refine pk ?_; refine blk_far ?_ NB568_575.out _; refine pk ?_; refine blk_far ?_ NB568_575.out _; refine pk ?_; refine blk_far ?_ NB568_575.out _; refine pk ?_; exact BK568.out⟩, ⟨by refine pk ?_; refine blk_put (cs := #[.int .u64 t570, .int .u64 t571, .slice none 0 0]) ?_ 2 _ rfl; refine pk ?_; refine blk_put (cs := #[.int .u64 t570, .int .u64 0, .slice none 0 0]) ?_ 1 _ rfl; refine pk ?_; refine blk_put (cs := #[.int .u64 0, .int .u64 0, .slice none 0 0]) ?_ 0 _ rfl; refine pk ?_; exact BK575.out⟩, ⟨pb HB⟩⟩
  case round =>
   clear H'
   try clear c1
   try clear c2
   try clear p2
   try clear c3
   try clear c3b0
   try clear c3b1
   try clear c6
   try clear c10
   try clear c12
   try clear hcz13_0 hcz13_1 hcz13_2
   try clear hcz9_0 hcz9_1
   try clear hfz13_0 hfz13_1 hfz13_2
   try clear hfz9_0 hfz9_1
   obtain ⟨x19_1, x576000_1, x576001_1, x576002_1, u576002, rfl, HA, HK1, HO_576002, BK568, BK575, HB⟩ := hrel
   cases gk with
   | zero => exact absurd HA.out (by simp [samphirelaw12_IndexGrows.l0])
   | succ k1 =>
    have H := HA.out
    clear HA
    simp only [samphirelaw12_IndexGrows.l0] at H
    by_cases c15 : x19_1 < (l1.length : Int)
    ·rw [if_pos c15] at H
     have c15b0 : decide (x19_1 < (l1.length : Int)) = true := decide_eq_true c15
     clear c15
     by_cases c16 : 0 ≤ x19_1
     ·rw [if_pos c16] at H
      have c16b0 : decide (0 ≤ x19_1) = true := decide_eq_true c16
      clear c16
      by_cases c17 : x19_1 < (l1.length : Int)
      ·rw [if_pos c17] at H
       have c17b0 : decide (x19_1 < (l1.length : Int)) = true := decide_eq_true c17
       clear c17
       by_cases c18 : ((rdOf ByteArray.empty l1 x19_1).size : Int) > 64
       ·rw [if_pos c18] at H
        have c18b0 : decide (64 < ((rdOf ByteArray.empty l1 x19_1).size : Int)) = true := decide_eq_true c18
        have c18b1 : decide (64 < (rdOf ByteArray.empty l1 x19_1).size) = true := decide_eq_true (by omega)
        clear c18
        replace H := Option.bind_eq_some_iff.mp H
        obtain ⟨t577, A190, H⟩ := H
        replace H : (some t577) = some r := H
        have A19 := Aside0.mk A190
        clear A190
        obtain rfl := Option.some.inj H
        have p576 : 0 ≤ (x19_1 : Int) := of_decide_eq_true (by first | (with_reducible assumption) | assumption)
        have q576 : x19_1 < (l1.length : Int) := of_decide_eq_true (by first | (with_reducible assumption) | assumption)
        obtain ⟨ad576, e576, hx576_0⟩ := Kd.at_string HR1.out x19_1 p576 q576
        cases e576
        replace hx576_0 := (HB.out.cell (World.block_lt_of_cell? w _ hx576_0)).trans hx576_0
        replace p576 := eq_true p576
        replace q576 := eq_true q576
        go_wp2_with (first | ((with_reducible refine gate_callee (f := 10) rfl ?_); refine gl (some 27) Try.func10 #[] ?_; (with_reducible refine (samphirelaw12_awake.calls k1  t577 hrT _ A19.out).mono ?_); rintro e w20 ⟨rfl, hb⟩; refine ⟨_, rfl, ?_⟩; have n0_ := Aside0.mk (Kd.V_below (pv HO_576002.out) hb); have n1_ := Aside0.mk (blk_below (pk BK568.out) hb); have n2_ := Aside0.mk (blk_below (pk BK575.out) hb); have n3_ := Aside0.mk (below_step (pb HB) hb); clear HO_576002; clear BK568; clear BK575; clear HB; have HO_576002 := n0_; have BK568 := n1_; have BK575 := n2_; have HB := n3_; clear n0_ n1_ n2_ n3_; (try clear hb); (try clear hb2); (try clear hk); (try clear hi)))
        go_ret
        exact ⟨by first | rfl | (simp [errW_none, errW_some] <;> rfl) | (simp [*, errW_none, errW_some] <;> rfl), pb HB⟩
       ·rw [if_neg c18] at H
        have c18b0 : decide (64 < ((rdOf ByteArray.empty l1 x19_1).size : Int)) = false := decide_eq_false c18
        have c18b1 : decide (64 < (rdOf ByteArray.empty l1 x19_1).size) = false := decide_eq_false (by omega)
        clear c18
        replace H := Option.bind_eq_some_iff.mp H
        obtain ⟨⟨t578, t579, t580, t583⟩, A210, H⟩ := H
        replace H : (if t583 = 0 then (samphirelaw12_IndexGrows.l0 k1 l1 (l1.length : Int) (wrap64 (x19_1 + 1)) t578 t579 t580) else (some false)) = some r := H
        have A21 := Aside0.mk A210
        clear A210
        by_cases c22 : t583 = 0
        ·rw [if_pos c22] at H
         have c22b0 : (t583 == 0) = true := beq_iff_eq.mpr c22
         have c22b1 : (t583 != 0) = false := bne_eq_false_iff_eq.mpr c22
         clear c22
         have H' := Aside0.mk H
         clear H
         have p576 : 0 ≤ (x19_1 : Int) := of_decide_eq_true (by first | (with_reducible assumption) | assumption)
         have q576 : x19_1 < (l1.length : Int) := of_decide_eq_true (by first | (with_reducible assumption) | assumption)
         obtain ⟨ad576, e576, hx576_0⟩ := Kd.at_string HR1.out x19_1 p576 q576
         cases e576
         replace hx576_0 := (HB.out.cell (World.block_lt_of_cell? w _ hx576_0)).trans hx576_0
         replace p576 := eq_true p576
         replace q576 := eq_true q576
         have hnb23 := NB575_568.out
         have hnc23 := NB568_575.out
         have hcz24_0 := ce BK575 0
         have hcz24_1 := ce BK575 1
         have hcz24_2 := ce BK575 2
         have hfz24_0 := fz BK575 0
         have hfz24_1 := fz BK575 1
         have hfz24_2 := fz BK575 2
         obtain ⟨Ao25, co25, eo25⟩ := Kd.V_slice HO_576002.out
         subst eo25
         go_wp2_with (first | ((with_reducible refine gate_callee (f := 13) rfl ?_); refine gl (some 32) Try.func13 #[.agg #[.int .u64 x576000_1, .int .u64 x576001_1, .slice Ao25 x576002_1.length co25], .string (rdOf ByteArray.empty l1 x19_1), .int .i64 x19_1] ?_; (with_reducible refine (index_Put.calls k1 x576000_1 x576001_1 (fun k_ => (k_ ≠ gb568 ∧ k_ ≠ gb575)) _ _ x576002_1 (rdOf ByteArray.empty l1 x19_1) x19_1 t578 t579 t580 t583 _ ?side1 A21.out).mono ?_); (case side1 => exact HO_576002.out); rintro e w26 ⟨v581, rfl, ho0, hb⟩; refine ⟨_, rfl, ?_⟩; have n0_ := Aside0.mk (Kd.V_below (pv HO_576002.out) hb); have n1_ := Aside0.mk (Kd.V_lower (Kd.V_mono (ok' := fun k_ => k_ ≠ gb568 ∧ k_ ≠ gb575) ho0 (fun k_ hk_ => ⟨Or.elim hk_ (fun hs_ => hs_.1) (fun hn_ => (Kd.freshB (g := gb568) (o := .cells #[.int .u64 a0_0, .int .u64 a0_1] 24 (0, 0)) (pk BK568.out) k_ hn_)), Or.elim hk_ (fun hs_ => hs_.2) (fun hn_ => (Kd.freshB (g := gb575) (o := .cells #[.int .u64 x576000_1, .int .u64 x576001_1, .slice Ao25 x576002_1.length co25] 27 (0, 0)) (pk BK575.out) k_ hn_))⟩)) (below_size (pb HB))); have n2_ := Aside0.mk (blk_below (pk BK568.out) hb); have n3_ := Aside0.mk (blk_below (pk BK575.out) hb); have n4_ := Aside0.mk (below_step (pb HB) hb); clear HO_576002; clear BK568; clear BK575; clear HB; have HO_576002 := n0_; have HO582 := n1_; have BK568 := n2_; have BK575 := n3_; have HB := n4_; clear n0_ n1_ n2_ n3_ n4_; (try clear hb); (try clear hb2); (try clear hk); (try clear hi); (try clear ho0)) | ((with_reducible refine gate_dst (N := 8) rfl ?_); refine box_event ?hg (N := 8) ?hd (cs := #[.int .u64 0, .int .u64 0, .slice none 0 0]) (t := 27) ?hr ?_; (case hd => rfl); (case hg => rfl); (case hr => first | (go_simp; done) | (go_simp; rfl)); intro gb584 hg w27 hbox hb; have n0_ := Aside0.mk (Kd.V_below (Kd.V_elderB (pv HO_576002.out) gb584 (Nat.le_of_eq hg.symm)) hb); have n1_ := Aside0.mk (Kd.V_below (Kd.V_elderB (pv HO582.out) gb584 (Nat.le_of_eq hg.symm)) hb); have n2_ := Aside0.mk (blk_below (pk BK568.out) hb); have n3_ := Aside0.mk (blk_below (pk BK575.out) hb); have n4_ := Aside0.mk (below_step (pb HB) hb); have n5_ := Aside0.mk (hbox); have n6_ := Aside0.mk ((pg hg HB : w.heap.size ≤ gb584)); have n7_ := Aside0.mk ((pg hg HB : w.heap.size ≤ gb584)); have n8_ := Aside0.mk ((pl hg (pk BK568.out) : gb568 ≠ gb584)); have n9_ := Aside0.mk ((pl' hg (pk BK568.out) : gb584 ≠ gb568)); have n10_ := Aside0.mk ((pl hg (pk BK575.out) : gb575 ≠ gb584)); have n11_ := Aside0.mk ((pl' hg (pk BK575.out) : gb584 ≠ gb575)); clear HO_576002; clear HO582; clear BK568; clear BK575; clear HB; have HO_576002 := n0_; have HO582 := n1_; have BK568 := n2_; have BK575 := n3_; have HB := n4_; have BK584 := n5_; have GW584 := n6_; have GE584 := n7_; have NB568_584 := n8_; have NB584_568 := n9_; have NB575_584 := n10_; have NB584_575 := n11_; clear n0_ n1_ n2_ n3_ n4_ n5_ n6_ n7_ n8_ n9_ n10_ n11_; clear hb hbox hg; have hnb28 := NB584_568.out; have hnc28 := NB568_584.out; have hnb29 := NB584_575.out; have hnc29 := NB575_584.out; have hcz30_0 := ce BK584 0; have hcz30_1 := ce BK584 1; have hcz30_2 := ce BK584 2; have hfz30_0 := fz BK584 0; have hfz30_1 := fz BK584 1; have hfz30_2 := fz BK584 2; obtain ⟨Ao31, co31, eo31⟩ := Kd.V_slice HO582.out; subst eo31; have hcz32_0 := ce BK575 0; have hcz32_1 := ce BK575 1; have hcz32_2 := ce BK575 2; have hfz32_0 := fz BK575 0; have hfz32_1 := fz BK575 1; have hfz32_2 := fz BK575 2))
         go_roundg k1
         case measure => have := HK1.out; omega
         case rel => exact ⟨(wrap64 (x19_1 + 1)), (t578), (t579), (t580), (.slice Ao31 t580.length co31), (by first | rfl | (simp; done) | (simp [*]; done)), H', ⟨by have := HK1.out; omega⟩, ⟨by refine pv ?_; exact Kd.V_mono (Kd.V_far (p := ⟨gb575, 2, none⟩) (Kd.V_far (p := ⟨gb575, 1, none⟩) (Kd.V_far (p := ⟨gb575, 0, none⟩) (Kd.V_far (p := ⟨gb584, 2, none⟩) (Kd.V_far (p := ⟨gb584, 1, none⟩) (Kd.V_far (p := ⟨gb584, 0, none⟩) (Kd.V_mono (Kd.V_mono HO582.out (fun k_ hk => (⟨hk, hk.2⟩ : _ ∧ k_ ≠ gb584))) (fun k_ hk => (⟨hk, hk.1.1.2⟩ : _ ∧ k_ ≠ gb575))) (fun _ hk => hk.1.2) (.int .u64 t578)) (fun _ hk => hk.1.2) (.int .u64 t579)) (fun _ hk => hk.1.2) (.slice Ao31 t580.length co31)) (fun _ hk => hk.2) (.int .u64 t578)) (fun _ hk => hk.2) (.int .u64 t579)) (fun _ hk => hk.2) (.slice Ao31 t580.length co31)) (fun _ hk => ⟨hk.1.1.1.1, hk.1.1.1.2⟩)⟩, ⟨by refine pk ?_; refine blk_far ?_ NB568_575.out _; refine pk ?_; refine blk_far ?_ NB568_575.out _; refine pk ?_; refine blk_far ?_ NB568_575.out _; refine pk ?_; refine blk_far ?_ NB568_584.out _; refine pk ?_; refine blk_far ?_ NB568_584.out _; refine pk ?_; refine blk_far ?_ NB568_584.out _; refine pk ?_; exact BK568.out⟩, ⟨by refine pk ?_; refine blk_put (cs := #[.int .u64 t578, .int .u64 t579, .slice Ao25 x576002_1.length co25]) ?_ 2 _ rfl; refine pk ?_; refine blk_put (cs := #[.int .u64 t578, .int .u64 x576001_1, .slice Ao25 x576002_1.length co25]) ?_ 1 _ rfl; refine pk ?_; refine blk_put (cs := #[.int .u64 x576000_1, .int .u64 x576001_1, .slice Ao25 x576002_1.length co25]) ?_ 0 _ rfl; refine pk ?_; refine blk_far ?_ NB575_584.out _; refine pk ?_; refine blk_far ?_ NB575_584.out _; refine pk ?_; refine blk_far ?_ NB575_584.out _; refine pk ?_; exact BK575.out⟩, ⟨pb HB⟩⟩
        ·rw [if_neg c22] at H
         exact Bool.noConfusion ((Option.some.inj H).trans hrT.out)
      ·rw [if_neg c17] at H
       exact absurd H (by simp)
     ·rw [if_neg c16] at H
      exact absurd H (by simp)
    ·rw [if_neg c15] at H
     have c15b0 : decide (x19_1 < (l1.length : Int)) = false := decide_eq_false c15
     clear c15
     have H' := Aside0.mk H
     clear H
     go_wp2
     go_loopg [10] k1 (fun kq v10 w' => ∃ (x10_2 : Int), v10 = .int .i64 x10_2 ∧ Aside0 (samphirelaw12_IndexGrows.l1 kq x10_2 x576000_1 x576001_1 x576002_1 = some r) ∧ Aside0 (kq ≤ k1) ∧ Aside0 (Kd.V k60 60 w' w.heap.size (fun k_ => k_ ≠ gb568 ∧ k_ ≠ gb575) u576002 x576002_1) ∧ Aside0 (w'.heap[gb568]? = some (.cells #[.int .u64 a0_0, .int .u64 a0_1] 24 (0, 0))) ∧ Aside0 (w'.heap[gb575]? = some (.cells #[.int .u64 x576000_1, .int .u64 x576001_1, u576002] 27 (0, 0))) ∧ Aside0 (Below w.heap.size w w'))
     case atStart => exact ⟨(8), (by first | rfl | (simp; done) | (simp [*]; done)), H', ⟨Nat.le_refl _⟩, ⟨pv HO_576002.out⟩, ⟨pk BK568.out⟩, ⟨pk BK575.out⟩, ⟨pb HB⟩⟩
     case round =>
      clear H'
      try clear c1
      try clear c2
      try clear p2
      try clear c3
      try clear c3b0
      try clear c3b1
      try clear p5
      try clear q5
      try clear hx5
      try clear c6
      try clear p6
      try clear c10
      try clear c12
      try clear c13
      try clear c15
      try clear c15b0
      try clear c16
      try clear c16b0
      try clear c17
      try clear c17b0
      try clear c18
      try clear c18b0
      try clear c18b1
      try clear c22
      try clear c22b0
      try clear c22b1
      try clear c23
      try clear c28
      try clear c29
      try clear c33
      try clear c38
      try clear c39
      try clear hcz13_0 hcz13_1 hcz13_2
      try clear hcz24_0 hcz24_1 hcz24_2
      try clear hcz30_0 hcz30_1 hcz30_2
      try clear hcz32_0 hcz32_1 hcz32_2
      try clear hcz34_0 hcz34_1 hcz34_2
      try clear hcz40_0 hcz40_1 hcz40_2
      try clear hcz9_0 hcz9_1
      try clear hfz13_0 hfz13_1 hfz13_2
      try clear hfz24_0 hfz24_1 hfz24_2
      try clear hfz30_0 hfz30_1 hfz30_2
      try clear hfz32_0 hfz32_1 hfz32_2
      try clear hfz34_0 hfz34_1 hfz34_2
      try clear hfz40_0 hfz40_1 hfz40_2
      try clear hfz9_0 hfz9_1
      try clear hx576_0
      try clear p2
      try clear p576
      try clear q576
      obtain ⟨x10_2, rfl, HA, HK2, HO_576002, BK568, BK575, HB⟩ := hrel
      cases gk with
      | zero => exact absurd HA.out (by simp [samphirelaw12_IndexGrows.l1])
      | succ k2 =>
       have H := HA.out
       clear HA
       simp only [samphirelaw12_IndexGrows.l1] at H
       replace H := Option.bind_eq_some_iff.mp H
       obtain ⟨t585, A420, H⟩ := H
       replace H : (if x10_2 < (wrap64 (2 * t585)) then (samphirelaw12_IndexGrows.l1 k2 (wrap64 (2 * x10_2)) x576000_1 x576001_1 x576002_1) else (if (x576002_1.length : Int) = x10_2 then ((samphirelaw12_awake.f k2).bind fun t586 => (some t586)) else (some false))) = some r := H
       have A42 := Aside0.mk A420
       clear A420
       by_cases c43 : x10_2 < (wrap64 (2 * t585))
       ·rw [if_pos c43] at H
        have c43b0 : decide (x10_2 < (wrap64 (2 * t585))) = true := decide_eq_true c43
        clear c43
        have H' := Aside0.mk H
        clear H
        have hnb44 := NB575_568.out
        have hnc44 := NB568_575.out
        have hcz45_0 := ce BK575 0
        have hcz45_1 := ce BK575 1
        have hcz45_2 := ce BK575 2
        have hfz45_0 := fz BK575 0
        have hfz45_1 := fz BK575 1
        have hfz45_2 := fz BK575 2
        obtain ⟨Ao46, co46, eo46⟩ := Kd.V_slice HO_576002.out
        subst eo46
        go_wp2_with (first | ((with_reducible refine gate_callee (f := 16) rfl ?_); refine gl (some 41) Try.func16 #[.agg #[.int .u64 x576000_1, .int .u64 x576001_1, .slice Ao46 x576002_1.length co46]] ?_; (with_reducible refine (index_Many.calls k2 x576000_1 x576001_1 _ _ x576002_1 t585 _ ?side1 ?side2 A42.out).mono ?_); (case side1 => repeat (first | exact (Kd.V_reads' HO_576002.out).2.2 | (with_reducible refine Kd.C_alloc ?_ _) | (with_reducible refine Kd.C_drewN ?_ _) | (with_reducible refine Kd.C_drew ?_))); (case side2 => exact (Kd.V_reads' HO_576002.out).2.1); rintro e w47 ⟨rfl, hb⟩; refine ⟨_, rfl, ?_⟩; have n0_ := Aside0.mk (Kd.V_below (pv HO_576002.out) hb); have n1_ := Aside0.mk (blk_below (pk BK568.out) hb); have n2_ := Aside0.mk (blk_below (pk BK575.out) hb); have n3_ := Aside0.mk (below_step (pb HB) hb); clear HO_576002; clear BK568; clear BK575; clear HB; have HO_576002 := n0_; have BK568 := n1_; have BK575 := n2_; have HB := n3_; clear n0_ n1_ n2_ n3_; (try clear hb); (try clear hb2); (try clear hk); (try clear hi)))
        go_roundg k2
        case measure => have := HK1.out; have := HK2.out; omega
        case rel => exact ⟨(wrap64 (2 * x10_2)), (by first | rfl | (simp; done) | (simp [*]; done)), H', ⟨by have := HK1.out; have := HK2.out; omega⟩, ⟨pv HO_576002.out⟩, ⟨pk BK568.out⟩, ⟨pk BK575.out⟩, ⟨pb HB⟩⟩
       ·rw [if_neg c43] at H
        have c43b0 : decide (x10_2 < (wrap64 (2 * t585))) = false := decide_eq_false c43
        clear c43
        by_cases c48 : (x576002_1.length : Int) = x10_2
        ·rw [if_pos c48] at H
         have c48b0 : ((x576002_1.length : Int) == x10_2) = true := beq_iff_eq.mpr c48
         have c48b1 : ((x576002_1.length : Int) != x10_2) = false := bne_eq_false_iff_eq.mpr c48
         clear c48
         replace H := Option.bind_eq_some_iff.mp H
         obtain ⟨t586, A490, H⟩ := H
         replace H : (some t586) = some r := H
         have A49 := Aside0.mk A490
         clear A490
         obtain rfl := Option.some.inj H
         have hnb50 := NB575_568.out
         have hnc50 := NB568_575.out
         have hcz51_0 := ce BK575 0
         have hcz51_1 := ce BK575 1
         have hcz51_2 := ce BK575 2
         have hfz51_0 := fz BK575 0
         have hfz51_1 := fz BK575 1
         have hfz51_2 := fz BK575 2
         obtain ⟨Ao52, co52, eo52⟩ := Kd.V_slice HO_576002.out
         subst eo52
         go_wp2_with (first | ((with_reducible refine gate_callee (f := 16) rfl ?_); refine gl (some 41) Try.func16 #[.agg #[.int .u64 x576000_1, .int .u64 x576001_1, .slice Ao52 x576002_1.length co52]] ?_; (with_reducible refine (index_Many.calls k2 x576000_1 x576001_1 _ _ x576002_1 t585 _ ?side1 ?side2 A42.out).mono ?_); (case side1 => repeat (first | exact (Kd.V_reads' HO_576002.out).2.2 | (with_reducible refine Kd.C_alloc ?_ _) | (with_reducible refine Kd.C_drewN ?_ _) | (with_reducible refine Kd.C_drew ?_))); (case side2 => exact (Kd.V_reads' HO_576002.out).2.1); rintro e w53 ⟨rfl, hb⟩; refine ⟨_, rfl, ?_⟩; have n0_ := Aside0.mk (Kd.V_below (pv HO_576002.out) hb); have n1_ := Aside0.mk (blk_below (pk BK568.out) hb); have n2_ := Aside0.mk (blk_below (pk BK575.out) hb); have n3_ := Aside0.mk (below_step (pb HB) hb); clear HO_576002; clear BK568; clear BK575; clear HB; have HO_576002 := n0_; have BK568 := n1_; have BK575 := n2_; have HB := n3_; clear n0_ n1_ n2_ n3_; (try clear hb); (try clear hb2); (try clear hk); (try clear hi); have hcz54_0 := ce BK575 0; have hcz54_1 := ce BK575 1; have hcz54_2 := ce BK575 2; have hfz54_0 := fz BK575 0; have hfz54_1 := fz BK575 1; have hfz54_2 := fz BK575 2) | (go_at_call 10; (with_reducible refine (samphirelaw12_awake.calls k2  t586 hrT _ A49.out).mono ?_); rintro e w55 ⟨rfl, hb⟩; have n0_ := Aside0.mk (Kd.V_below (pv HO_576002.out) hb); have n1_ := Aside0.mk (blk_below (pk BK568.out) hb); have n2_ := Aside0.mk (blk_below (pk BK575.out) hb); have n3_ := Aside0.mk (below_step (pb HB) hb); clear HO_576002; clear BK568; clear BK575; clear HB; have HO_576002 := n0_; have BK568 := n1_; have BK575 := n2_; have HB := n3_; clear n0_ n1_ n2_ n3_; (try clear hb); (try clear hb2); (try clear hk); (try clear hi)))
         go_ret
         exact ⟨by first | rfl | (simp [errW_none, errW_some] <;> rfl) | (simp [*, errW_none, errW_some] <;> rfl), pb HB⟩
        ·rw [if_neg c48] at H
         exact Bool.noConfusion ((Option.some.inj H).trans hrT.out)
end Go.Proofs.Ytojpmjkphgjmgaa.H
