import Derived.Test.YtojpmjkphgjmgaaHx0
import Derived.Test.YtojpmjkphgjmgaaHx3
namespace Go.Proofs.Ytojpmjkphgjmgaa.H
open Go.RowKit Go.Proofs.YtojpmjkphgjmgaaW.PrintWords Go.Proofs.YtojpmjkphgjmgaaW.PrintLast Go.Proofs.YtojpmjkphgjmgaaW.PrintMore Go.Proofs.YtojpmjkphgjmgaaW.Sq
attribute [local go_sem] max2_int min2_int max_two min_two max_three min_three max_four min_four
set_option linter.unusedVariables false
set_option linter.unusedSimpArgs false

attribute [local go_sem high] eqA60
def index_sound.f (a0_0 : Bool) (a0_1 : ByteArray) (a0_2 : Int) : Option (Bool) := if a0_0 = true then (if (a0_1.size : Int) ≤ 64 then (if a0_2 ≥ 0 then (some (decide (a0_2 ≤ 2147483647))) else (some false)) else (some false)) else (some (!a0_0 && (a0_1.toList == ([] : List UInt8) && (a0_2 == 0))))
set_option maxHeartbeats 8000000 in
set_option maxRecDepth 100000 in
theorem index_sound.calls (a0_0 : Bool) (a0_1 : ByteArray) (a0_2 : Int) (r : Bool) (w : World) (h : index_sound.f a0_0 a0_1 a0_2 = some r) :
  Calls Try.prog 33 #[.agg #[.bool a0_0, .string a0_1, .int .i64 a0_2]] w fun e w' => e = .returned (.bool r) ∧ Below w.heap.size w w' := by
 have hu60 := Try.underlying60
 have HB := am (Below.refl w.heap.size w)
 have H : (if a0_0 = true then (if (a0_1.size : Int) ≤ 64 then (if a0_2 ≥ 0 then (some (decide (a0_2 ≤ 2147483647))) else (some false)) else (some false)) else (some (!a0_0 && (a0_1.toList == ([] : List UInt8) && (a0_2 == 0))))) = some r := h
 clear h
 by_cases c2 : a0_0 = true
 rotate_left
 ·replace c2 := Bool.eq_false_iff.mpr c2
  subst c2
  have H1 : (some (!false && (a0_1.toList == ([] : List UInt8) && (a0_2 == 0)))) = some r := by rw [if_neg (show ¬ (false = true) by decide)] at H; exact H
  clear H
  have H := H1
  clear H1
  obtain rfl := Option.some.inj H
  go_enter Try.func33, Try.ntmps33
  go_wp2_with (first | ((with_reducible refine gate_dst (N := 1) rfl ?_); refine be 1 #[.bool false, .string a0_1, .int .i64 a0_2] 60 ?_; intro gb101 hg w11 hbox hb; have n0_ := am (below_step (pb HB) hb); have n1_ := am (hbox); have n2_ := am ((pg hg HB : w.heap.size ≤ gb101)); have n3_ := am ((pg hg HB : w.heap.size ≤ gb101)); clear HB; have HB := n0_; have BK101 := n1_; have GW101 := n2_; have GE101 := n3_; clear n0_ n1_ n2_ n3_; clear hb hbox hg; have hcz12_0 := ce BK101 0; have hcz12_1 := ce BK101 1; have hcz12_2 := ce BK101 2; have hfz12_0 := fz BK101 0; have hfz12_1 := fz BK101 1; have hfz12_2 := fz BK101 2))
  go_ret
  exact ⟨by first | rfl | (simp [errW_none, errW_some] <;> rfl) | (simp [*, errW_none, errW_some] <;> rfl), pb HB⟩
 subst c2
 have H1 : (if (a0_1.size : Int) ≤ 64 then (if a0_2 ≥ 0 then (some (decide (a0_2 ≤ 2147483647))) else (some false)) else (some false)) = some r := by rw [if_pos rfl] at H; exact H
 clear H
 have H := H1
 clear H1
 by_cases c3 : (a0_1.size : Int) ≤ 64
 rotate_left
 ·rw [if_neg c3] at H
  have c3b0 : decide ((a0_1.size : Int) ≤ 64) = false := decide_eq_false c3
  have c3b1 : decide (a0_1.size ≤ 64) = false := decide_eq_false (by omega)
  clear c3
  obtain rfl := Option.some.inj H
  go_enter Try.func33, Try.ntmps33
  go_wp2_with (first | ((with_reducible refine gate_dst (N := 1) rfl ?_); refine be 1 #[.bool true, .string a0_1, .int .i64 a0_2] 60 ?_; intro gb101 hg w9 hbox hb; have n0_ := am (below_step (pb HB) hb); have n1_ := am (hbox); have n2_ := am ((pg hg HB : w.heap.size ≤ gb101)); have n3_ := am ((pg hg HB : w.heap.size ≤ gb101)); clear HB; have HB := n0_; have BK101 := n1_; have GW101 := n2_; have GE101 := n3_; clear n0_ n1_ n2_ n3_; clear hb hbox hg; have hcz10_0 := ce BK101 0; have hcz10_1 := ce BK101 1; have hcz10_2 := ce BK101 2; have hfz10_0 := fz BK101 0; have hfz10_1 := fz BK101 1; have hfz10_2 := fz BK101 2))
  go_ret
  exact ⟨by first | rfl | (simp [errW_none, errW_some] <;> rfl) | (simp [*, errW_none, errW_some] <;> rfl), pb HB⟩
 rw [if_pos c3] at H
 have c3b0 : decide ((a0_1.size : Int) ≤ 64) = true := decide_eq_true c3
 have c3b1 : decide (a0_1.size ≤ 64) = true := decide_eq_true (by omega)
 clear c3
 by_cases c4 : a0_2 ≥ 0
 ·rw [if_pos c4] at H
  have c4b0 : decide (0 ≤ a0_2) = true := decide_eq_true c4
  clear c4
  obtain rfl := Option.some.inj H
  go_enter Try.func33, Try.ntmps33
  go_wp2_with (first | ((with_reducible refine gate_dst (N := 1) rfl ?_); refine be 1 #[.bool true, .string a0_1, .int .i64 a0_2] 60 ?_; intro gb101 hg w5 hbox hb; have n0_ := am (below_step (pb HB) hb); have n1_ := am (hbox); have n2_ := am ((pg hg HB : w.heap.size ≤ gb101)); have n3_ := am ((pg hg HB : w.heap.size ≤ gb101)); clear HB; have HB := n0_; have BK101 := n1_; have GW101 := n2_; have GE101 := n3_; clear n0_ n1_ n2_ n3_; clear hb hbox hg; have hcz6_0 := ce BK101 0; have hcz6_1 := ce BK101 1; have hcz6_2 := ce BK101 2; have hfz6_0 := fz BK101 0; have hfz6_1 := fz BK101 1; have hfz6_2 := fz BK101 2))
  go_ret
  exact ⟨by first | rfl | (simp [errW_none, errW_some] <;> rfl) | (simp [*, errW_none, errW_some] <;> rfl), pb HB⟩
 rw [if_neg c4] at H
 have c4b0 : decide (0 ≤ a0_2) = false := decide_eq_false c4
 clear c4
 obtain rfl := Option.some.inj H
 go_enter Try.func33, Try.ntmps33
 go_wp2_with (first | ((with_reducible refine gate_dst (N := 1) rfl ?_); refine be 1 #[.bool true, .string a0_1, .int .i64 a0_2] 60 ?_; intro gb101 hg w7 hbox hb; have n0_ := am (below_step (pb HB) hb); have n1_ := am (hbox); have n2_ := am ((pg hg HB : w.heap.size ≤ gb101)); have n3_ := am ((pg hg HB : w.heap.size ≤ gb101)); clear HB; have HB := n0_; have BK101 := n1_; have GW101 := n2_; have GE101 := n3_; clear n0_ n1_ n2_ n3_; clear hb hbox hg; have hcz8_0 := ce BK101 0; have hcz8_1 := ce BK101 1; have hcz8_2 := ce BK101 2; have hfz8_0 := fz BK101 0; have hfz8_1 := fz BK101 1; have hfz8_2 := fz BK101 2))
 go_ret
 exact ⟨by first | rfl | (simp [errW_none, errW_some] <;> rfl) | (simp [*, errW_none, errW_some] <;> rfl), pb HB⟩
def l12_Ref.l0 : Nat → List (S46) → List (S60) → Int → Int → Int → Int → List (S60) → Option (Int × Int × (List (S46)))
 | 0, _, _, _, _, _, _, _ => none
 | k + 1, x3, x7, x8, x9, x103000, x103001, x103002 => if x9 < x8 then (if 0 ≤ x9 then (if x9 < (x7.length : Int) then (if x3.length < 4398046511104 then (l12_Ref.l0 k (x3 ++ [(⟨(rd_T60 x7 x9).f0, (rd_T60 x7 x9).f1, (rd_T60 x7 x9).f2⟩ : S46)]) x7 x8 (wrap64 (x9 + 1)) x103000 x103001 x103002) else (none)) else (none)) else (none)) else (some (x103000, x103001, x3))
def l12_Ref.f (k : Nat) (a0_0 : Int) (a0_1 : Int) (l0_2 : List (S60)) : Option (Int × Int × (List (S46))) := l12_Ref.l0 k ([] : List (S46)) l0_2 (l0_2.length : Int) 0 a0_0 a0_1 l0_2
theorem l12_Ref.mono_l : ∀ k, (∀ y0 y1 y2 y3 y4 y5 y6, LeO (l12_Ref.l0 k y0 y1 y2 y3 y4 y5 y6) (l12_Ref.l0 (k + 1) y0 y1 y2 y3 y4 y5 y6))
 | 0 => fun _ _ _ _ _ _ _ r h => by simp [l12_Ref.l0] at h
 | k + 1 => by
  have ih0 := l12_Ref.mono_l k
  ·intro y0 y1 y2 y3 y4 y5 y6
   unfold l12_Ref.l0
   repeat' first
   | (with_reducible exact ih0 _ _ _ _ _ _ _)
   | (with_reducible exact LeO.refl _)
   | (with_reducible exact LeO.none _)
   | (with_reducible refine LeO.ite ?_ ?_)
   | (with_reducible refine LeO.bind ?_ (fun _ => ?_))
theorem l12_Ref.mono : ∀ a0 a1 a2 k, LeO (l12_Ref.f k a0 a1 a2) (l12_Ref.f (k + 1) a0 a1 a2) := by
 intro a0 a1 a2 k
 have ih0 := l12_Ref.mono_l k
 unfold l12_Ref.f
 repeat' first
   | (with_reducible exact ih0 _ _ _ _ _ _ _)
   | (with_reducible exact LeO.refl _)
   | (with_reducible exact LeO.none _)
   | (with_reducible refine LeO.ite ?_ ?_)
   | (with_reducible refine LeO.bind ?_ (fun _ => ?_))
set_option maxHeartbeats 8000000 in
set_option maxRecDepth 100000 in
theorem l12_Ref.calls (k : Nat) (a0_0 : Int) (a0_1 : Int) (A0_2 : Option Addr) (c0_2 : Nat) (l0_2 : List (S60)) (r1 : Int) (r2 : Int) (r3 : List (S46)) (w : World) (hr0_2 : Kd.C k60 w A0_2 l0_2.length l0_2) (hc0_2 : l0_2.length ≤ c0_2) (h : l12_Ref.f k a0_0 a0_1 l0_2 = some (r1, r2, r3)) :
  Calls Try.prog 8 #[.agg #[.int .u64 a0_0, .int .u64 a0_1, .slice A0_2 l0_2.length c0_2]] w fun e w' => ∃ v2_ : Value, e = .returned (.agg #[.int .u64 r1, .int .u64 r2, v2_]) ∧ Kd.R k46 46 w' w.heap.size (fun _ => True) v2_ r3 ∧ Below w.heap.size w w' := by
 have hu27 := Try.underlying27
 have hu30 := Try.underlying30
 have hu60 := Try.underlying60
 have hu24 := Try.underlying24
 have HR0_2 := am hr0_2
 have HC0_2 := am hc0_2
 clear hr0_2 hc0_2
 have HB := am (Below.refl w.heap.size w)
 have H : (l12_Ref.l0 k ([] : List (S46)) l0_2 (l0_2.length : Int) 0 a0_0 a0_1 l0_2) = some (r1, r2, r3) := h
 clear h
 have H' := am H
 clear H
 go_enter Try.func8, Try.ntmps8
 go_wp2_with (first | ((with_reducible refine gate_dst (N := 1) rfl ?_); refine be 1 #[.int .u64 a0_0, .int .u64 a0_1, .slice A0_2 l0_2.length c0_2] 27 ?_; intro gb102 hg w2 hbox hb; have n0_ := am (below_step (pb HB) hb); have n1_ := am (hbox); have n2_ := am ((pg hg HB : w.heap.size ≤ gb102)); have n3_ := am ((pg hg HB : w.heap.size ≤ gb102)); clear HB; have HB := n0_; have BK102 := n1_; have GW102 := n2_; have GE102 := n3_; clear n0_ n1_ n2_ n3_; clear hb hbox hg) | ((with_reducible refine gate_dst (N := 2) rfl ?_); refine be 2 #[.int .u64 0, .int .u64 0, .slice none 0 0] 30 ?_; intro gb103 hg w3 hbox hb; have n0_ := am (blk_below (pk BK102.out) hb); have n1_ := am (below_step (pb HB) hb); have n2_ := am (hbox); have n3_ := am ((pg hg HB : w.heap.size ≤ gb103)); have n4_ := am ((pg hg HB : w.heap.size ≤ gb103)); have n5_ := am ((pl hg (pk BK102.out) : gb102 ≠ gb103)); have n6_ := am ((pl' hg (pk BK102.out) : gb103 ≠ gb102)); clear BK102; clear HB; have BK102 := n0_; have HB := n1_; have BK103 := n2_; have GW103 := n3_; have GE103 := n4_; have NB102_103 := n5_; have NB103_102 := n6_; clear n0_ n1_ n2_ n3_ n4_ n5_ n6_; clear hb hbox hg; have hnb4 := NB102_103.out; have hnc4 := NB103_102.out; have hcz5_0 := ce BK102 0; have hcz5_1 := ce BK102 1; have hcz5_2 := ce BK102 2; have hfz5_0 := fz BK102 0; have hfz5_1 := fz BK102 1; have hfz5_2 := fz BK102 2))
 go_loopg [3, 9] k (fun kq v3 v9 w' => ∃ (x3_1 : List (S46)) (x9_1 : Int), v9 = .int .i64 x9_1 ∧ Aside0 (l12_Ref.l0 kq x3_1 l0_2 (l0_2.length : Int) x9_1 a0_0 a0_1 l0_2 = some (r1, r2, r3)) ∧ Aside0 (kq ≤ k) ∧ Aside0 (Kd.R k46 46 w' w.heap.size (fun _ => True) v3 x3_1) ∧ Aside0 (w'.heap[gb102]? = some (.cells #[.int .u64 a0_0, .int .u64 a0_1, (.slice A0_2 l0_2.length c0_2)] 27 (0, 0))) ∧ Aside0 (w'.heap[gb103]? = some (.cells #[.int .u64 0, .int .u64 0, (.slice none 0 0)] 30 (0, 0))) ∧ Aside0 (Below w.heap.size w w'))
 case atStart => exact ⟨(([] : List (S46))), (0), (by first | rfl | (simp; done) | (simp [*]; done)), H', ⟨Nat.le_refl _⟩, ⟨by first | exact Kd.R_nil _ _ _ _ _ | exact Kd.N_nil _ _ _ _ _ | exact Kd.V_nil _ _ _ _ _ | exact Kd.Q_nil _ _ _ _ _ | exact Kd.S_nil _ _ _ _ _⟩, ⟨pk BK102.out⟩, ⟨pk BK103.out⟩, ⟨pb HB⟩⟩
 case round =>
  clear H'
  try clear p2
  try clear c4
  try clear hcz5_0 hcz5_1 hcz5_2 hfz5_0 hfz5_1 hfz5_2
  obtain ⟨x3_1, x9_1, rfl, HA, HK1, HO_3, BK102, BK103, HB⟩ := hrel
  cases gk with
  | zero => exact absurd HA.out (by simp [l12_Ref.l0])
  | succ k1 =>
   have H := HA.out
   clear HA
   simp only [l12_Ref.l0] at H
   by_cases c6 : x9_1 < (l0_2.length : Int)
   ·rw [if_pos c6] at H
    have c6b0 : decide (x9_1 < (l0_2.length : Int)) = true := decide_eq_true c6
    clear c6
    by_cases c7 : 0 ≤ x9_1
    ·rw [if_pos c7] at H
     have c7b0 : decide (0 ≤ x9_1) = true := decide_eq_true c7
     clear c7
     by_cases c8 : x9_1 < (l0_2.length : Int)
     ·rw [if_pos c8] at H
      have c8b0 : decide (x9_1 < (l0_2.length : Int)) = true := decide_eq_true c8
      clear c8
      by_cases c9 : x3_1.length < 4398046511104
      ·rw [if_pos c9] at H
       have LMc9 := am c9
       clear c9
       obtain ⟨y106, hy106⟩ : ∃ y_ : List (S46), y_ = (x3_1 ++ [(⟨(rd_T60 l0_2 x9_1).f0, (rd_T60 l0_2 x9_1).f1, (rd_T60 l0_2 x9_1).f2⟩ : S46)]) := ⟨_, rfl⟩
       replace H : (l12_Ref.l0 k1 y106 l0_2 (l0_2.length : Int) (wrap64 (x9_1 + 1)) a0_0 a0_1 l0_2) = some (r1, r2, r3) := by first | (rw [hy106]; with_reducible exact H) | (have H2_ := (Option.bind_some _ _).symm.trans H; rw [hy106]; with_reducible exact H2_) | (have H2_ := (Option.bind_some _ _).symm.trans H; with_reducible exact H2_) | with_reducible exact H | (rw [hy106]; exact H) | exact H
       have Ny106 := am hy106
       clear hy106
       have H' := am H
       clear H
       have p104 : 0 ≤ (x9_1 : Int) := of_decide_eq_true (by first | (with_reducible assumption) | assumption)
       have q104 : x9_1 < (l0_2.length : Int) := of_decide_eq_true (by first | (with_reducible assumption) | assumption)
       obtain ⟨ad104, e104, hx104_0, hx104_1, hx104_2⟩ := at_T60 HR0_2.out x9_1 p104 q104
       cases e104
       replace hx104_0 := (HB.out.cell (World.block_lt_of_cell? w _ hx104_0)).trans hx104_0
       replace hx104_1 := (HB.out.cell (World.block_lt_of_cell? w _ hx104_1)).trans hx104_1
       replace hx104_2 := (HB.out.cell (World.block_lt_of_cell? w _ hx104_2)).trans hx104_2
       replace p104 := eq_true p104
       replace q104 := eq_true q104
       go_wp2_with (first | ((with_reducible refine gate_dst (N := 5) rfl ?_); refine be 5 #[.bool false, .string (⟨#[]⟩ : ByteArray), .int .i64 0] 60 ?_; intro gb105 hg w10 hbox hb; have n0_ := am (Kd.R_below (pr HO_3.out) hb); have n1_ := am (blk_below (pk BK102.out) hb); have n2_ := am (blk_below (pk BK103.out) hb); have n3_ := am (below_step (pb HB) hb); have n4_ := am (hbox); have n5_ := am ((pg hg HB : w.heap.size ≤ gb105)); have n6_ := am ((pg hg HB : w.heap.size ≤ gb105)); have n7_ := am ((pl hg (pk BK102.out) : gb102 ≠ gb105)); have n8_ := am ((pl' hg (pk BK102.out) : gb105 ≠ gb102)); have n9_ := am ((pl hg (pk BK103.out) : gb103 ≠ gb105)); have n10_ := am ((pl' hg (pk BK103.out) : gb105 ≠ gb103)); clear HO_3; clear BK102; clear BK103; clear HB; have HO_3 := n0_; have BK102 := n1_; have BK103 := n2_; have HB := n3_; have BK105 := n4_; have GW105 := n5_; have GE105 := n6_; have NB102_105 := n7_; have NB105_102 := n8_; have NB103_105 := n9_; have NB105_103 := n10_; clear n0_ n1_ n2_ n3_ n4_ n5_ n6_ n7_ n8_ n9_ n10_; clear hb hbox hg; have hnb11 := NB105_102.out; have hnc11 := NB102_105.out; have hnb12 := NB105_103.out; have hnc12 := NB103_105.out; have hcz13_0 := ce BK105 0; have hcz13_1 := ce BK105 1; have hcz13_2 := ce BK105 2; have hfz13_0 := fz BK105 0; have hfz13_1 := fz BK105 1; have hfz13_2 := fz BK105 2) | ((with_reducible refine gate_builtin (b := .append) (xs := #[.tmp 13, .tmp 15]) rfl ?_); at_builtin; refine Kd.R_append k46 (w0 := w) w.heap.size rfl (.tmp 13) (.tmp 15) 28 46 (.agg #[(.bool false), (.string ⟨#[]⟩), (.int .i64 0)]) 32 rfl Try.underlying28 info46 rfl (by decide) (by omega) u3 x3_1 (⟨(rd_T60 l0_2 x9_1).f0, (rd_T60 l0_2 x9_1).f1, (rd_T60 l0_2 x9_1).f2⟩ : S46) [.bool ((rd_T60 l0_2 x9_1).f0), .string ((rd_T60 l0_2 x9_1).f1), .int .i64 ((rd_T60 l0_2 x9_1).f2)] (fun _ => True) (fun _ => False) rfl (by first | (go_simp; done) | (go_simp; rfl)) ?aP (fun _ hk => hk.elim) ?aF ?aO ?aB ?aS ?aL ?_; (case aP => exact k46_mkM _ _ _ (⟨(rd_T60 l0_2 x9_1).f0, (rd_T60 l0_2 x9_1).f1, (rd_T60 l0_2 x9_1).f2⟩ : S46)); (case aB => exact (pb HB)); (case aF => exact (fun _ _ => trivial)); (case aO => exact (pr (Kd.R_mono (Kd.R_far (p := ⟨gb105, 2, none⟩) (Kd.R_far (p := ⟨gb105, 1, none⟩) (Kd.R_far (p := ⟨gb105, 0, none⟩) (Kd.R_types HO_3.out BK105.out (by decide)) (fun _ hk => hk.2) (.bool ((rd_T60 l0_2 x9_1).f0))) (fun _ hk => hk.2) (.string ((rd_T60 l0_2 x9_1).f1))) (fun _ hk => hk.2) (.int .i64 ((rd_T60 l0_2 x9_1).f2))) (fun _ hk => trivial)))); (case aS => exact (below_size (pb HB))); (case aL => have := LMc9.out; omega); intro v107 w14 ho hb hg hat; rw [← Ny106.out] at ho; replace BK102 := am (blk_grown (g := gb102) (o := .cells #[.int .u64 a0_0, .int .u64 a0_1, .slice (some ad104) l0_2.length c0_2] 27 (0, 0)) (by refine pk ?_; refine blk_far ?_ NB102_105.out _; refine pk ?_; refine blk_far ?_ NB102_105.out _; refine pk ?_; refine blk_far ?_ NB102_105.out _; refine pk ?_; exact BK102.out) hg (Kd.R_ne HO_3.out BK102.out (by decide))); replace BK103 := am (blk_grown (g := gb103) (o := .cells #[.int .u64 0, .int .u64 0, .slice none 0 0] 30 (0, 0)) (by refine pk ?_; refine blk_far ?_ NB103_105.out _; refine pk ?_; refine blk_far ?_ NB103_105.out _; refine pk ?_; refine blk_far ?_ NB103_105.out _; refine pk ?_; exact BK103.out) hg (Kd.R_ne HO_3.out BK103.out (by decide))); replace BK105 := am (blk_grown (g := gb105) (o := .cells #[.bool ((rd_T60 l0_2 x9_1).f0), .string ((rd_T60 l0_2 x9_1).f1), .int .i64 ((rd_T60 l0_2 x9_1).f2)] 60 (0, 0)) (by refine pk ?_; refine blk_put (cs := #[.bool ((rd_T60 l0_2 x9_1).f0), .string ((rd_T60 l0_2 x9_1).f1), .int .i64 0]) ?_ 2 _ rfl; refine pk ?_; refine blk_put (cs := #[.bool ((rd_T60 l0_2 x9_1).f0), .string (⟨#[]⟩ : ByteArray), .int .i64 0]) ?_ 1 _ rfl; refine pk ?_; refine blk_put (cs := #[.bool false, .string (⟨#[]⟩ : ByteArray), .int .i64 0]) ?_ 0 _ rfl; refine pk ?_; exact BK105.out) hg (Kd.R_ne HO_3.out BK105.out (by decide))); replace HB := am (hb); have HO108 := am (ho); clear HO_3; clear ho hb hg hat))
       go_roundg k1
       case measure => have := HK1.out; omega
       case rel => exact ⟨(y106), (wrap64 (x9_1 + 1)), (by first | rfl | (simp; done) | (simp [*]; done)), H', ⟨by have := HK1.out; omega⟩, ⟨pr HO108.out⟩, ⟨pk BK102.out⟩, ⟨pk BK103.out⟩, ⟨pb HB⟩⟩
      ·rw [if_neg c9] at H
       exact absurd H (by simp)
     ·rw [if_neg c8] at H
      exact absurd H (by simp)
    ·rw [if_neg c7] at H
     exact absurd H (by simp)
   ·rw [if_neg c6] at H
    have c6b0 : decide (x9_1 < (l0_2.length : Int)) = false := decide_eq_false c6
    clear c6
    simp only [Option.some.injEq, Prod.mk.injEq] at H
    obtain ⟨rfl, rfl, rfl⟩ := H
    have hnb15 := NB102_103.out
    have hnc15 := NB103_102.out
    have hcz16_0 := ce BK102 0
    have hcz16_1 := ce BK102 1
    have hcz16_2 := ce BK102 2
    have hfz16_0 := fz BK102 0
    have hfz16_1 := fz BK102 1
    have hfz16_2 := fz BK102 2
    obtain ⟨Ao17, co17, eo17⟩ := Kd.R_slice HO_3.out
    subst eo17
    have hcz18_0 := ce BK103 0
    have hcz18_1 := ce BK103 1
    have hcz18_2 := ce BK103 2
    have hfz18_0 := fz BK103 0
    have hfz18_1 := fz BK103 1
    have hfz18_2 := fz BK103 2
    go_wp2
    refine bodyPost_ret (results_cell_row rfl _ _ gb103 30 #[.int .u64 a0_0, .int .u64 a0_1, .slice Ao17 x3_1.length co17] (0, 0) _ rfl (by refine pk ?_; refine blk_put (cs := #[.int .u64 a0_0, .int .u64 a0_1, .slice none 0 0]) ?_ 2 _ rfl; refine pk ?_; refine blk_put (cs := #[.int .u64 a0_0, .int .u64 0, .slice none 0 0]) ?_ 1 _ rfl; refine pk ?_; refine blk_put (cs := #[.int .u64 0, .int .u64 0, .slice none 0 0]) ?_ 0 _ rfl; refine pk ?_; exact BK103.out) Try.underlying30 rfl (by kernel_rfl)) rfl ?_
    exact ⟨_, by first | rfl | (simp [errW_none, errW_some] <;> rfl) | (simp [*, errW_none, errW_some] <;> rfl), by refine pr ?_; exact Kd.R_mono (Kd.R_far (p := ⟨gb103, 2, none⟩) (Kd.R_far (p := ⟨gb103, 1, none⟩) (Kd.R_far (p := ⟨gb103, 0, none⟩) (Kd.R_types HO_3.out BK103.out (by decide)) (fun _ hk => hk.2) (.int .u64 a0_0)) (fun _ hk => hk.2) (.int .u64 a0_1)) (fun _ hk => hk.2) (.slice Ao17 x3_1.length co17)) (fun _ hk => trivial), pb HB⟩
def r12_Small.l0 : Nat → Int → Int → Int → List (S46) → Option (Bool)
 | 0, _, _, _, _ => none
 | k + 1, x3, x110000, x110001, x110002 => if x3 < (x110002.length : Int) then (if 0 ≤ x3 then (if (((rd_T46 x110002 x3).f1).size : Int) > 100 then (some false) else (r12_Small.l0 k (wrap64 (x3 + 1)) x110000 x110001 x110002)) else (none)) else (some true)
def r12_Small.f (k : Nat) (a0_0 : Int) (a0_1 : Int) (l0_2 : List (S46)) : Option (Bool) := if (l0_2.length : Int) > 70 then (some false) else (r12_Small.l0 k 0 a0_0 a0_1 l0_2)
theorem r12_Small.mono_l : ∀ k, (∀ y0 y1 y2 y3, LeO (r12_Small.l0 k y0 y1 y2 y3) (r12_Small.l0 (k + 1) y0 y1 y2 y3))
 | 0 => fun _ _ _ _ r h => by simp [r12_Small.l0] at h
 | k + 1 => by
  have ih0 := r12_Small.mono_l k
  ·intro y0 y1 y2 y3
   unfold r12_Small.l0
   repeat' first
   | (with_reducible exact ih0 _ _ _ _)
   | (with_reducible exact LeO.refl _)
   | (with_reducible exact LeO.none _)
   | (with_reducible refine LeO.ite ?_ ?_)
   | (with_reducible refine LeO.bind ?_ (fun _ => ?_))
theorem r12_Small.mono : ∀ a0 a1 a2 k, LeO (r12_Small.f k a0 a1 a2) (r12_Small.f (k + 1) a0 a1 a2) := by
 intro a0 a1 a2 k
 have ih0 := r12_Small.mono_l k
 unfold r12_Small.f
 repeat' first
   | (with_reducible exact ih0 _ _ _ _)
   | (with_reducible exact LeO.refl _)
   | (with_reducible exact LeO.none _)
   | (with_reducible refine LeO.ite ?_ ?_)
   | (with_reducible refine LeO.bind ?_ (fun _ => ?_))
set_option maxHeartbeats 8000000 in
set_option maxRecDepth 100000 in
theorem r12_Small.calls (k : Nat) (a0_0 : Int) (a0_1 : Int) (A0_2 : Option Addr) (c0_2 : Nat) (l0_2 : List (S46)) (r : Bool) (w : World) (hr0_2 : Kd.C k46 w A0_2 l0_2.length l0_2) (hc0_2 : l0_2.length ≤ c0_2) (h : r12_Small.f k a0_0 a0_1 l0_2 = some r) :
  Calls Try.prog 9 #[.agg #[.int .u64 a0_0, .int .u64 a0_1, .slice A0_2 l0_2.length c0_2]] w fun e w' => e = .returned (.bool r) ∧ Below w.heap.size w w' := by
 have hu30 := Try.underlying30
 have HR0_2 := am hr0_2
 have HC0_2 := am hc0_2
 clear hr0_2 hc0_2
 have HB := am (Below.refl w.heap.size w)
 have H : (if (l0_2.length : Int) > 70 then (some false) else (r12_Small.l0 k 0 a0_0 a0_1 l0_2)) = some r := h
 clear h
 by_cases c2 : (l0_2.length : Int) > 70
 ·rw [if_pos c2] at H
  have c2b0 : decide (70 < (l0_2.length : Int)) = true := decide_eq_true c2
  have c2b1 : decide (70 < l0_2.length) = true := decide_eq_true (by omega)
  clear c2
  obtain rfl := Option.some.inj H
  go_enter Try.func9, Try.ntmps9
  go_wp2_with (first | ((with_reducible refine gate_dst (N := 1) rfl ?_); refine be 1 #[.int .u64 a0_0, .int .u64 a0_1, .slice A0_2 l0_2.length c0_2] 30 ?_; intro gb109 hg w3 hbox hb; have n0_ := am (below_step (pb HB) hb); have n1_ := am (hbox); have n2_ := am ((pg hg HB : w.heap.size ≤ gb109)); have n3_ := am ((pg hg HB : w.heap.size ≤ gb109)); clear HB; have HB := n0_; have BK109 := n1_; have GW109 := n2_; have GE109 := n3_; clear n0_ n1_ n2_ n3_; clear hb hbox hg; have hcz4_0 := ce BK109 0; have hcz4_1 := ce BK109 1; have hcz4_2 := ce BK109 2; have hfz4_0 := fz BK109 0; have hfz4_1 := fz BK109 1; have hfz4_2 := fz BK109 2))
  go_ret
  exact ⟨by first | rfl | (simp [errW_none, errW_some] <;> rfl) | (simp [*, errW_none, errW_some] <;> rfl), pb HB⟩
 rw [if_neg c2] at H
 have c2b0 : decide (70 < (l0_2.length : Int)) = false := decide_eq_false c2
 have c2b1 : decide (70 < l0_2.length) = false := decide_eq_false (by omega)
 clear c2
 have H' := am H
 clear H
 go_enter Try.func9, Try.ntmps9
 go_wp2_with (first | ((with_reducible refine gate_dst (N := 1) rfl ?_); refine be 1 #[.int .u64 a0_0, .int .u64 a0_1, .slice A0_2 l0_2.length c0_2] 30 ?_; intro gb109 hg w5 hbox hb; have n0_ := am (below_step (pb HB) hb); have n1_ := am (hbox); have n2_ := am ((pg hg HB : w.heap.size ≤ gb109)); have n3_ := am ((pg hg HB : w.heap.size ≤ gb109)); clear HB; have HB := n0_; have BK109 := n1_; have GW109 := n2_; have GE109 := n3_; clear n0_ n1_ n2_ n3_; clear hb hbox hg; have hcz6_0 := ce BK109 0; have hcz6_1 := ce BK109 1; have hcz6_2 := ce BK109 2; have hfz6_0 := fz BK109 0; have hfz6_1 := fz BK109 1; have hfz6_2 := fz BK109 2))
 go_loopg [3] k (fun kq v3 w' => ∃ (x3_1 : Int), v3 = .int .i64 x3_1 ∧ Aside0 (r12_Small.l0 kq x3_1 a0_0 a0_1 l0_2 = some r) ∧ Aside0 (kq ≤ k) ∧ Aside0 (w'.heap[gb109]? = some (.cells #[.int .u64 a0_0, .int .u64 a0_1, (.slice A0_2 l0_2.length c0_2)] 30 (0, 0))) ∧ Aside0 (Below w.heap.size w w'))
 case atStart => exact ⟨(0), (by first | rfl | (simp; done) | (simp [*]; done)), H', ⟨Nat.le_refl _⟩, ⟨pk BK109.out⟩, ⟨pb HB⟩⟩
 case round =>
  clear H'
  try clear c2
  try clear c2b0
  try clear c2b1
  try clear p2
  try clear hcz4_0 hcz4_1 hcz4_2
  try clear hcz6_0 hcz6_1 hcz6_2
  try clear hfz4_0 hfz4_1 hfz4_2
  try clear hfz6_0 hfz6_1 hfz6_2
  obtain ⟨x3_1, rfl, HA, HK1, BK109, HB⟩ := hrel
  cases gk with
  | zero => exact absurd HA.out (by simp [r12_Small.l0])
  | succ k1 =>
   have H := HA.out
   clear HA
   simp only [r12_Small.l0] at H
   by_cases c7 : x3_1 < (l0_2.length : Int)
   ·rw [if_pos c7] at H
    have c7b0 : decide (x3_1 < (l0_2.length : Int)) = true := decide_eq_true c7
    clear c7
    by_cases c8 : 0 ≤ x3_1
    ·rw [if_pos c8] at H
     have c8b0 : decide (0 ≤ x3_1) = true := decide_eq_true c8
     clear c8
     by_cases c9 : (((rd_T46 l0_2 x3_1).f1).size : Int) > 100
     ·rw [if_pos c9] at H
      have c9b0 : decide (100 < (((rd_T46 l0_2 x3_1).f1).size : Int)) = true := decide_eq_true c9
      have c9b1 : decide (100 < ((rd_T46 l0_2 x3_1).f1).size) = true := decide_eq_true (by omega)
      clear c9
      obtain rfl := Option.some.inj H
      have hcz10_0 := ce BK109 0
      have hcz10_1 := ce BK109 1
      have hcz10_2 := ce BK109 2
      have hfz10_0 := fz BK109 0
      have hfz10_1 := fz BK109 1
      have hfz10_2 := fz BK109 2
      have p110 : 0 ≤ (x3_1 : Int) := of_decide_eq_true (by first | (with_reducible assumption) | assumption)
      have q110 : x3_1 < (l0_2.length : Int) := of_decide_eq_true (by first | (with_reducible assumption) | assumption)
      obtain ⟨ad110, e110, hx110_0, hx110_1, hx110_2⟩ := at_T46 HR0_2.out x3_1 p110 q110
      cases e110
      replace hx110_0 := (HB.out.cell (World.block_lt_of_cell? w _ hx110_0)).trans hx110_0
      replace hx110_1 := (HB.out.cell (World.block_lt_of_cell? w _ hx110_1)).trans hx110_1
      replace hx110_2 := (HB.out.cell (World.block_lt_of_cell? w _ hx110_2)).trans hx110_2
      replace p110 := eq_true p110
      replace q110 := eq_true q110
      go_wp2
      go_ret
      exact ⟨by first | rfl | (simp [errW_none, errW_some] <;> rfl) | (simp [*, errW_none, errW_some] <;> rfl), pb HB⟩
     ·rw [if_neg c9] at H
      have c9b0 : decide (100 < (((rd_T46 l0_2 x3_1).f1).size : Int)) = false := decide_eq_false c9
      have c9b1 : decide (100 < ((rd_T46 l0_2 x3_1).f1).size) = false := decide_eq_false (by omega)
      clear c9
      have H' := am H
      clear H
      have hcz11_0 := ce BK109 0
      have hcz11_1 := ce BK109 1
      have hcz11_2 := ce BK109 2
      have hfz11_0 := fz BK109 0
      have hfz11_1 := fz BK109 1
      have hfz11_2 := fz BK109 2
      have p110 : 0 ≤ (x3_1 : Int) := of_decide_eq_true (by first | (with_reducible assumption) | assumption)
      have q110 : x3_1 < (l0_2.length : Int) := of_decide_eq_true (by first | (with_reducible assumption) | assumption)
      obtain ⟨ad110, e110, hx110_0, hx110_1, hx110_2⟩ := at_T46 HR0_2.out x3_1 p110 q110
      cases e110
      replace hx110_0 := (HB.out.cell (World.block_lt_of_cell? w _ hx110_0)).trans hx110_0
      replace hx110_1 := (HB.out.cell (World.block_lt_of_cell? w _ hx110_1)).trans hx110_1
      replace hx110_2 := (HB.out.cell (World.block_lt_of_cell? w _ hx110_2)).trans hx110_2
      replace p110 := eq_true p110
      replace q110 := eq_true q110
      go_wp2
      go_roundg k1
      case measure => have := HK1.out; omega
      case rel => exact ⟨(wrap64 (x3_1 + 1)), (by first | rfl | (simp; done) | (simp [*]; done)), H', ⟨by have := HK1.out; omega⟩, ⟨pk BK109.out⟩, ⟨pb HB⟩⟩
    ·rw [if_neg c8] at H
     exact absurd H (by simp)
   ·rw [if_neg c7] at H
    have c7b0 : decide (x3_1 < (l0_2.length : Int)) = false := decide_eq_false c7
    clear c7
    obtain rfl := Option.some.inj H
    have hcz12_0 := ce BK109 0
    have hcz12_1 := ce BK109 1
    have hcz12_2 := ce BK109 2
    have hfz12_0 := fz BK109 0
    have hfz12_1 := fz BK109 1
    have hfz12_2 := fz BK109 2
    go_wp2
    go_ret
    exact ⟨by first | rfl | (simp [errW_none, errW_some] <;> rfl) | (simp [*, errW_none, errW_some] <;> rfl), pb HB⟩
def sip_right.f (a0_0 : Int) (a0_1 : Int) (a0_2 : Int) (a0_3 : Int) (a0_4 : ByteArray) (a0_5 : Int) : Option (Bool) := if a0_5 ≥ 0 then (some ((a0_4.size : Int) == (Int.tmod a0_5 8))) else (some false)
set_option maxHeartbeats 8000000 in
set_option maxRecDepth 100000 in
theorem sip_right.calls (a0_0 : Int) (a0_1 : Int) (a0_2 : Int) (a0_3 : Int) (a0_4 : ByteArray) (a0_5 : Int) (r : Bool) (w : World) (h : sip_right.f a0_0 a0_1 a0_2 a0_3 a0_4 a0_5 = some r) :
  Calls Try.prog 46 #[.agg #[.int .u64 a0_0, .int .u64 a0_1, .int .u64 a0_2, .int .u64 a0_3, .string a0_4, .int .i64 a0_5]] w fun e w' => e = .returned (.bool r) ∧ Below w.heap.size w w' := by
 have hu80 := Try.underlying80
 have HB := am (Below.refl w.heap.size w)
 have H : (if a0_5 ≥ 0 then (some ((a0_4.size : Int) == (Int.tmod a0_5 8))) else (some false)) = some r := h
 clear h
 by_cases c2 : a0_5 ≥ 0
 ·rw [if_pos c2] at H
  have c2b0 : decide (0 ≤ a0_5) = true := decide_eq_true c2
  clear c2
  obtain rfl := Option.some.inj H
  go_enter Try.func46, Try.ntmps46
  go_wp2_with (first | ((with_reducible refine gate_dst (N := 1) rfl ?_); (try (refine gate_guard (by rfl) ?_; dsimp only)); refine be 1 #[.int .u64 a0_0, .int .u64 a0_1, .int .u64 a0_2, .int .u64 a0_3, .string a0_4, .int .i64 a0_5] 80 ?_; intro gb111 hg w3 hbox hb; have n0_ := am (below_step (pb HB) hb); have n1_ := am (hbox); have n2_ := am ((pg hg HB : w.heap.size ≤ gb111)); have n3_ := am ((pg hg HB : w.heap.size ≤ gb111)); clear HB; have HB := n0_; have BK111 := n1_; have GW111 := n2_; have GE111 := n3_; clear n0_ n1_ n2_ n3_; clear hb hbox hg; have hcz4_0 := ce BK111 0; have hcz4_1 := ce BK111 1; have hcz4_2 := ce BK111 2; have hcz4_3 := ce BK111 3; have hcz4_4 := ce BK111 4; have hcz4_5 := ce BK111 5; have hfz4_0 := fz BK111 0; have hfz4_1 := fz BK111 1; have hfz4_2 := fz BK111 2; have hfz4_3 := fz BK111 3; have hfz4_4 := fz BK111 4; have hfz4_5 := fz BK111 5))
  go_ret
  exact ⟨by first | rfl | (simp [errW_none, errW_some] <;> rfl) | (simp [*, errW_none, errW_some] <;> rfl), pb HB⟩
 rw [if_neg c2] at H
 have c2b0 : decide (0 ≤ a0_5) = false := decide_eq_false c2
 clear c2
 obtain rfl := Option.some.inj H
 go_enter Try.func46, Try.ntmps46
 go_wp2_with (first | ((with_reducible refine gate_dst (N := 1) rfl ?_); (try (refine gate_guard (by rfl) ?_; dsimp only)); refine be 1 #[.int .u64 a0_0, .int .u64 a0_1, .int .u64 a0_2, .int .u64 a0_3, .string a0_4, .int .i64 a0_5] 80 ?_; intro gb111 hg w5 hbox hb; have n0_ := am (below_step (pb HB) hb); have n1_ := am (hbox); have n2_ := am ((pg hg HB : w.heap.size ≤ gb111)); have n3_ := am ((pg hg HB : w.heap.size ≤ gb111)); clear HB; have HB := n0_; have BK111 := n1_; have GW111 := n2_; have GE111 := n3_; clear n0_ n1_ n2_ n3_; clear hb hbox hg; have hcz6_0 := ce BK111 0; have hcz6_1 := ce BK111 1; have hcz6_2 := ce BK111 2; have hcz6_3 := ce BK111 3; have hcz6_4 := ce BK111 4; have hcz6_5 := ce BK111 5; have hfz6_0 := fz BK111 0; have hfz6_1 := fz BK111 1; have hfz6_2 := fz BK111 2; have hfz6_3 := fz BK111 3; have hfz6_4 := fz BK111 4; have hfz6_5 := fz BK111 5))
 go_ret
 exact ⟨by first | rfl | (simp [errW_none, errW_some] <;> rfl) | (simp [*, errW_none, errW_some] <;> rfl), pb HB⟩
def bits_RotateLeft64.f (a0 : Int) (a1 : Int) : Option (Int) := if 0 ≤ (Go.bits .and .u64 (IntKind.u64.wrap (a1)) 63) then (if 0 ≤ (IntKind.u64.wrap (64 - (Go.bits .and .u64 (IntKind.u64.wrap (a1)) 63))) then (some (Go.bits .or .u64 (shl .u64 a0 (Go.bits .and .u64 (IntKind.u64.wrap (a1)) 63)) (shr .u64 a0 (IntKind.u64.wrap (64 - (Go.bits .and .u64 (IntKind.u64.wrap (a1)) 63)))))) else (none)) else (none)
set_option maxHeartbeats 8000000 in
set_option maxRecDepth 100000 in
theorem bits_RotateLeft64.calls (a0 : Int) (a1 : Int) (r : Int) (w : World) (h : bits_RotateLeft64.f a0 a1 = some r) :
  Calls Try.prog 50 #[.int .u64 a0, .int .i64 a1] w fun e w' => e = .returned (.int .u64 r) ∧ Drawn0 w w' := by
 have H : (if 0 ≤ (Go.bits .and .u64 (IntKind.u64.wrap (a1)) 63) then (if 0 ≤ (IntKind.u64.wrap (64 - (Go.bits .and .u64 (IntKind.u64.wrap (a1)) 63))) then (some (Go.bits .or .u64 (shl .u64 a0 (Go.bits .and .u64 (IntKind.u64.wrap (a1)) 63)) (shr .u64 a0 (IntKind.u64.wrap (64 - (Go.bits .and .u64 (IntKind.u64.wrap (a1)) 63)))))) else (none)) else (none)) = some r := h
 clear h
 obtain ⟨ji3, hji3⟩ : ∃ j_ : Int, (Go.bits .and .u64 (IntKind.u64.wrap (a1)) 63) = j_ := ⟨_, rfl⟩
 replace H : (if 0 ≤ (ji3) then (if 0 ≤ (IntKind.u64.wrap (64 - (ji3))) then (some (Go.bits .or .u64 (shl .u64 a0 (ji3)) (shr .u64 a0 (IntKind.u64.wrap (64 - (ji3)))))) else (none)) else (none)) = some r := by first | (rw [hji3] at H; exact H) | (simp only [hji3] at H ⊢; exact H)
 by_cases c4 : 0 ≤ (ji3)
 rotate_left
 ·rw [if_neg c4] at H
  exact absurd H (by simp)
 rw [if_pos c4] at H
 have c4b0 := eq_true c4
 have c4b1 : decide (0 ≤ (ji3)) = true := decide_eq_true c4
 clear c4
 obtain ⟨ji5, hji5⟩ : ∃ j_ : Int, (shl .u64 a0 (ji3)) = j_ := ⟨_, rfl⟩
 replace H : (if 0 ≤ (IntKind.u64.wrap (64 - (ji3))) then (some (Go.bits .or .u64 (ji5) (shr .u64 a0 (IntKind.u64.wrap (64 - (ji3)))))) else (none)) = some r := by first | (rw [hji5] at H; exact H) | (simp only [hji5] at H ⊢; exact H)
 have hji5_ : (IntKind.u64.wrap (a0 * 2 ^ min (ji3).toNat 64)) = ji5 := hji5
 have hji5z : (ji3) ≤ 64 → (IntKind.u64.wrap (a0 * 2 ^ (ji3).toNat)) = ji5 := shl_small hji5
 obtain ⟨ji6, hji6⟩ : ∃ j_ : Int, (IntKind.u64.wrap (64 - (ji3))) = j_ := ⟨_, rfl⟩
 replace H : (if 0 ≤ (ji6) then (some (Go.bits .or .u64 (ji5) (shr .u64 a0 (ji6)))) else (none)) = some r := by first | (rw [hji6] at H; exact H) | (simp only [hji6] at H ⊢; exact H)
 by_cases c7 : 0 ≤ (ji6)
 rotate_left
 ·rw [if_neg c7] at H
  exact absurd H (by simp)
 rw [if_pos c7] at H
 have c7b0 := eq_true c7
 have c7b1 : decide (0 ≤ (ji6)) = true := decide_eq_true c7
 clear c7
 obtain ⟨ji8, hji8⟩ : ∃ j_ : Int, (shr .u64 a0 (ji6)) = j_ := ⟨_, rfl⟩
 replace H : (some (Go.bits .or .u64 (ji5) (ji8))) = some r := by first | (rw [hji8] at H; exact H) | (simp only [hji8] at H ⊢; exact H)
 have hji8_ : (a0 / 2 ^ min (ji6).toNat 64) = ji8 := hji8
 have hji8z : (ji6) ≤ 64 → (a0 / 2 ^ (ji6).toNat) = ji8 := shr_small hji8
 obtain rfl := Option.some.inj H
 go_enter Try.func50, Try.ntmps50
 go_wp2
 go_ret
 exact ⟨by first | rfl | (simp; done) | (simp only [← hji3, ← hji5, ← hji6, ← hji8] <;> (first | rfl | (simp; done) | (simp [show ∀ j_ : Int, shl .u64 0 j_ = 0 from fun j_ => by unfold shl; rw [Int.zero_mul]; decide]; done))) | (simp [*]; done), by repeat (first | exact Drawn0.refl _ | apply Drawn0.step)⟩
def sip_turn.f (a0_0 : Int) (a0_1 : Int) (a0_2 : Int) (a0_3 : Int) : Option (Int × Int × Int × Int) := (bits_RotateLeft64.f a0_1 13).bind fun t114 => ((bits_RotateLeft64.f (IntKind.u64.wrap (a0_0 + a0_1)) 32).bind fun t115 => ((bits_RotateLeft64.f a0_3 16).bind fun t116 => ((bits_RotateLeft64.f (Go.bits .xor .u64 t116 (IntKind.u64.wrap (a0_2 + a0_3))) 21).bind fun t117 => ((bits_RotateLeft64.f (Go.bits .xor .u64 t114 (IntKind.u64.wrap (a0_0 + a0_1))) 17).bind fun t118 => ((bits_RotateLeft64.f (IntKind.u64.wrap ((IntKind.u64.wrap (a0_2 + a0_3)) + (Go.bits .xor .u64 t114 (IntKind.u64.wrap (a0_0 + a0_1))))) 32).bind fun t119 => (some (IntKind.u64.wrap (t115 + (Go.bits .xor .u64 t116 (IntKind.u64.wrap (a0_2 + a0_3)))), Go.bits .xor .u64 t118 (IntKind.u64.wrap ((IntKind.u64.wrap (a0_2 + a0_3)) + (Go.bits .xor .u64 t114 (IntKind.u64.wrap (a0_0 + a0_1))))), t119, Go.bits .xor .u64 t117 (IntKind.u64.wrap (t115 + (Go.bits .xor .u64 t116 (IntKind.u64.wrap (a0_2 + a0_3))))))))))))
set_option maxHeartbeats 8000000 in
set_option maxRecDepth 100000 in
theorem sip_turn.calls (a0_0 : Int) (a0_1 : Int) (a0_2 : Int) (a0_3 : Int) (r1 : Int) (r2 : Int) (r3 : Int) (r4 : Int) (w : World) (h : sip_turn.f a0_0 a0_1 a0_2 a0_3 = some (r1, r2, r3, r4)) :
  Calls Try.prog 49 #[.agg #[.int .u64 a0_0, .int .u64 a0_1, .int .u64 a0_2, .int .u64 a0_3]] w fun e w' => e = .returned (.agg #[.int .u64 r1, .int .u64 r2, .int .u64 r3, .int .u64 r4]) ∧ Below w.heap.size w w' := by
 have hu76 := Try.underlying76
 have HB := am (Below.refl w.heap.size w)
 have H : ((bits_RotateLeft64.f a0_1 13).bind fun t114 => ((bits_RotateLeft64.f (IntKind.u64.wrap (a0_0 + a0_1)) 32).bind fun t115 => ((bits_RotateLeft64.f a0_3 16).bind fun t116 => ((bits_RotateLeft64.f (Go.bits .xor .u64 t116 (IntKind.u64.wrap (a0_2 + a0_3))) 21).bind fun t117 => ((bits_RotateLeft64.f (Go.bits .xor .u64 t114 (IntKind.u64.wrap (a0_0 + a0_1))) 17).bind fun t118 => ((bits_RotateLeft64.f (IntKind.u64.wrap ((IntKind.u64.wrap (a0_2 + a0_3)) + (Go.bits .xor .u64 t114 (IntKind.u64.wrap (a0_0 + a0_1))))) 32).bind fun t119 => (some (IntKind.u64.wrap (t115 + (Go.bits .xor .u64 t116 (IntKind.u64.wrap (a0_2 + a0_3)))), Go.bits .xor .u64 t118 (IntKind.u64.wrap ((IntKind.u64.wrap (a0_2 + a0_3)) + (Go.bits .xor .u64 t114 (IntKind.u64.wrap (a0_0 + a0_1))))), t119, Go.bits .xor .u64 t117 (IntKind.u64.wrap (t115 + (Go.bits .xor .u64 t116 (IntKind.u64.wrap (a0_2 + a0_3))))))))))))) = some (r1, r2, r3, r4) := h
 clear h
 replace H := Option.bind_eq_some_iff.mp H
 obtain ⟨t114, A20, H⟩ := H
 replace H : ((bits_RotateLeft64.f (IntKind.u64.wrap (a0_0 + a0_1)) 32).bind fun t115 => ((bits_RotateLeft64.f a0_3 16).bind fun t116 => ((bits_RotateLeft64.f (Go.bits .xor .u64 t116 (IntKind.u64.wrap (a0_2 + a0_3))) 21).bind fun t117 => ((bits_RotateLeft64.f (Go.bits .xor .u64 t114 (IntKind.u64.wrap (a0_0 + a0_1))) 17).bind fun t118 => ((bits_RotateLeft64.f (IntKind.u64.wrap ((IntKind.u64.wrap (a0_2 + a0_3)) + (Go.bits .xor .u64 t114 (IntKind.u64.wrap (a0_0 + a0_1))))) 32).bind fun t119 => (some (IntKind.u64.wrap (t115 + (Go.bits .xor .u64 t116 (IntKind.u64.wrap (a0_2 + a0_3)))), Go.bits .xor .u64 t118 (IntKind.u64.wrap ((IntKind.u64.wrap (a0_2 + a0_3)) + (Go.bits .xor .u64 t114 (IntKind.u64.wrap (a0_0 + a0_1))))), t119, Go.bits .xor .u64 t117 (IntKind.u64.wrap (t115 + (Go.bits .xor .u64 t116 (IntKind.u64.wrap (a0_2 + a0_3)))))))))))) = some (r1, r2, r3, r4) := H
 have A2 := am A20
 clear A20
 replace H := Option.bind_eq_some_iff.mp H
 obtain ⟨t115, A30, H⟩ := H
 replace H : ((bits_RotateLeft64.f a0_3 16).bind fun t116 => ((bits_RotateLeft64.f (Go.bits .xor .u64 t116 (IntKind.u64.wrap (a0_2 + a0_3))) 21).bind fun t117 => ((bits_RotateLeft64.f (Go.bits .xor .u64 t114 (IntKind.u64.wrap (a0_0 + a0_1))) 17).bind fun t118 => ((bits_RotateLeft64.f (IntKind.u64.wrap ((IntKind.u64.wrap (a0_2 + a0_3)) + (Go.bits .xor .u64 t114 (IntKind.u64.wrap (a0_0 + a0_1))))) 32).bind fun t119 => (some (IntKind.u64.wrap (t115 + (Go.bits .xor .u64 t116 (IntKind.u64.wrap (a0_2 + a0_3)))), Go.bits .xor .u64 t118 (IntKind.u64.wrap ((IntKind.u64.wrap (a0_2 + a0_3)) + (Go.bits .xor .u64 t114 (IntKind.u64.wrap (a0_0 + a0_1))))), t119, Go.bits .xor .u64 t117 (IntKind.u64.wrap (t115 + (Go.bits .xor .u64 t116 (IntKind.u64.wrap (a0_2 + a0_3))))))))))) = some (r1, r2, r3, r4) := H
 have A3 := am A30
 clear A30
 replace H := Option.bind_eq_some_iff.mp H
 obtain ⟨t116, A40, H⟩ := H
 replace H : ((bits_RotateLeft64.f (Go.bits .xor .u64 t116 (IntKind.u64.wrap (a0_2 + a0_3))) 21).bind fun t117 => ((bits_RotateLeft64.f (Go.bits .xor .u64 t114 (IntKind.u64.wrap (a0_0 + a0_1))) 17).bind fun t118 => ((bits_RotateLeft64.f (IntKind.u64.wrap ((IntKind.u64.wrap (a0_2 + a0_3)) + (Go.bits .xor .u64 t114 (IntKind.u64.wrap (a0_0 + a0_1))))) 32).bind fun t119 => (some (IntKind.u64.wrap (t115 + (Go.bits .xor .u64 t116 (IntKind.u64.wrap (a0_2 + a0_3)))), Go.bits .xor .u64 t118 (IntKind.u64.wrap ((IntKind.u64.wrap (a0_2 + a0_3)) + (Go.bits .xor .u64 t114 (IntKind.u64.wrap (a0_0 + a0_1))))), t119, Go.bits .xor .u64 t117 (IntKind.u64.wrap (t115 + (Go.bits .xor .u64 t116 (IntKind.u64.wrap (a0_2 + a0_3)))))))))) = some (r1, r2, r3, r4) := H
 have A4 := am A40
 clear A40
 replace H := Option.bind_eq_some_iff.mp H
 obtain ⟨t117, A50, H⟩ := H
 replace H : ((bits_RotateLeft64.f (Go.bits .xor .u64 t114 (IntKind.u64.wrap (a0_0 + a0_1))) 17).bind fun t118 => ((bits_RotateLeft64.f (IntKind.u64.wrap ((IntKind.u64.wrap (a0_2 + a0_3)) + (Go.bits .xor .u64 t114 (IntKind.u64.wrap (a0_0 + a0_1))))) 32).bind fun t119 => (some (IntKind.u64.wrap (t115 + (Go.bits .xor .u64 t116 (IntKind.u64.wrap (a0_2 + a0_3)))), Go.bits .xor .u64 t118 (IntKind.u64.wrap ((IntKind.u64.wrap (a0_2 + a0_3)) + (Go.bits .xor .u64 t114 (IntKind.u64.wrap (a0_0 + a0_1))))), t119, Go.bits .xor .u64 t117 (IntKind.u64.wrap (t115 + (Go.bits .xor .u64 t116 (IntKind.u64.wrap (a0_2 + a0_3))))))))) = some (r1, r2, r3, r4) := H
 have A5 := am A50
 clear A50
 replace H := Option.bind_eq_some_iff.mp H
 obtain ⟨t118, A60, H⟩ := H
 replace H : ((bits_RotateLeft64.f (IntKind.u64.wrap ((IntKind.u64.wrap (a0_2 + a0_3)) + (Go.bits .xor .u64 t114 (IntKind.u64.wrap (a0_0 + a0_1))))) 32).bind fun t119 => (some (IntKind.u64.wrap (t115 + (Go.bits .xor .u64 t116 (IntKind.u64.wrap (a0_2 + a0_3)))), Go.bits .xor .u64 t118 (IntKind.u64.wrap ((IntKind.u64.wrap (a0_2 + a0_3)) + (Go.bits .xor .u64 t114 (IntKind.u64.wrap (a0_0 + a0_1))))), t119, Go.bits .xor .u64 t117 (IntKind.u64.wrap (t115 + (Go.bits .xor .u64 t116 (IntKind.u64.wrap (a0_2 + a0_3)))))))) = some (r1, r2, r3, r4) := H
 have A6 := am A60
 clear A60
 replace H := Option.bind_eq_some_iff.mp H
 obtain ⟨t119, A70, H⟩ := H
 replace H : (some (IntKind.u64.wrap (t115 + (Go.bits .xor .u64 t116 (IntKind.u64.wrap (a0_2 + a0_3)))), Go.bits .xor .u64 t118 (IntKind.u64.wrap ((IntKind.u64.wrap (a0_2 + a0_3)) + (Go.bits .xor .u64 t114 (IntKind.u64.wrap (a0_0 + a0_1))))), t119, Go.bits .xor .u64 t117 (IntKind.u64.wrap (t115 + (Go.bits .xor .u64 t116 (IntKind.u64.wrap (a0_2 + a0_3))))))) = some (r1, r2, r3, r4) := H
 have A7 := am A70
 clear A70
 simp only [Option.some.injEq, Prod.mk.injEq] at H
 obtain ⟨rfl, rfl, rfl, rfl⟩ := H
 go_enter Try.func49, Try.ntmps49
 go_wp2_with (first | ((with_reducible refine gate_dst (N := 1) rfl ?_); refine be 1 #[.int .u64 a0_0, .int .u64 a0_1, .int .u64 a0_2, .int .u64 a0_3] 76 ?_; intro gb112 hg w8 hbox hb; have n0_ := am (below_step (pb HB) hb); have n1_ := am (hbox); have n2_ := am ((pg hg HB : w.heap.size ≤ gb112)); have n3_ := am ((pg hg HB : w.heap.size ≤ gb112)); clear HB; have HB := n0_; have BK112 := n1_; have GW112 := n2_; have GE112 := n3_; clear n0_ n1_ n2_ n3_; clear hb hbox hg) | ((with_reducible refine gate_dst (N := 2) rfl ?_); refine be 2 #[.int .u64 0, .int .u64 0, .int .u64 0, .int .u64 0] 76 ?_; intro gb113 hg w9 hbox hb; have n0_ := am (blk_below (pk BK112.out) hb); have n1_ := am (below_step (pb HB) hb); have n2_ := am (hbox); have n3_ := am ((pg hg HB : w.heap.size ≤ gb113)); have n4_ := am ((pg hg HB : w.heap.size ≤ gb113)); have n5_ := am ((pl hg (pk BK112.out) : gb112 ≠ gb113)); have n6_ := am ((pl' hg (pk BK112.out) : gb113 ≠ gb112)); clear BK112; clear HB; have BK112 := n0_; have HB := n1_; have BK113 := n2_; have GW113 := n3_; have GE113 := n4_; have NB112_113 := n5_; have NB113_112 := n6_; clear n0_ n1_ n2_ n3_ n4_ n5_ n6_; clear hb hbox hg; have hnb10 := NB112_113.out; have hnc10 := NB113_112.out; have hcz11_0 := ce BK112 0; have hcz11_1 := ce BK112 1; have hcz11_2 := ce BK112 2; have hcz11_3 := ce BK112 3; have hfz11_0 := fz BK112 0; have hfz11_1 := fz BK112 1; have hfz11_2 := fz BK112 2; have hfz11_3 := fz BK112 3) | (go_at_call 50; (with_reducible refine (bits_RotateLeft64.calls a0_1 13 t114 _ A2.out).mono ?_); rintro e w' ⟨rfl, ⟨nd, rfl⟩⟩; (try first | exact ⟨rfl, _, World.drewN_drewN _ _ _⟩ | exact ⟨rfl, _, Eq.trans (World.drewN_drewN _ _ _) (congrArg (World.drewN _) (Nat.add_assoc _ _ _))⟩)) | (go_at_call 50; (with_reducible refine (bits_RotateLeft64.calls (IntKind.u64.wrap (a0_0 + a0_1)) 32 t115 _ A3.out).mono ?_); rintro e w' ⟨rfl, ⟨nd, rfl⟩⟩; (try first | exact ⟨rfl, _, World.drewN_drewN _ _ _⟩ | exact ⟨rfl, _, Eq.trans (World.drewN_drewN _ _ _) (congrArg (World.drewN _) (Nat.add_assoc _ _ _))⟩)) | (go_at_call 50; (with_reducible refine (bits_RotateLeft64.calls a0_3 16 t116 _ A4.out).mono ?_); rintro e w' ⟨rfl, ⟨nd, rfl⟩⟩; (try first | exact ⟨rfl, _, World.drewN_drewN _ _ _⟩ | exact ⟨rfl, _, Eq.trans (World.drewN_drewN _ _ _) (congrArg (World.drewN _) (Nat.add_assoc _ _ _))⟩)) | (go_at_call 50; (with_reducible refine (bits_RotateLeft64.calls (Go.bits .xor .u64 t116 (IntKind.u64.wrap (a0_2 + a0_3))) 21 t117 _ A5.out).mono ?_); rintro e w' ⟨rfl, ⟨nd, rfl⟩⟩; (try first | exact ⟨rfl, _, World.drewN_drewN _ _ _⟩ | exact ⟨rfl, _, Eq.trans (World.drewN_drewN _ _ _) (congrArg (World.drewN _) (Nat.add_assoc _ _ _))⟩)) | (go_at_call 50; (with_reducible refine (bits_RotateLeft64.calls (Go.bits .xor .u64 t114 (IntKind.u64.wrap (a0_0 + a0_1))) 17 t118 _ A6.out).mono ?_); rintro e w' ⟨rfl, ⟨nd, rfl⟩⟩; (try first | exact ⟨rfl, _, World.drewN_drewN _ _ _⟩ | exact ⟨rfl, _, Eq.trans (World.drewN_drewN _ _ _) (congrArg (World.drewN _) (Nat.add_assoc _ _ _))⟩)) | (go_at_call 50; (with_reducible refine (bits_RotateLeft64.calls (IntKind.u64.wrap ((IntKind.u64.wrap (a0_2 + a0_3)) + (Go.bits .xor .u64 t114 (IntKind.u64.wrap (a0_0 + a0_1))))) 32 t119 _ A7.out).mono ?_); rintro e w' ⟨rfl, ⟨nd, rfl⟩⟩; (try first | exact ⟨rfl, _, World.drewN_drewN _ _ _⟩ | exact ⟨rfl, _, Eq.trans (World.drewN_drewN _ _ _) (congrArg (World.drewN _) (Nat.add_assoc _ _ _))⟩); have hcz12_0 := ce BK113 0; have hcz12_1 := ce BK113 1; have hcz12_2 := ce BK113 2; have hcz12_3 := ce BK113 3; have hfz12_0 := fz BK113 0; have hfz12_1 := fz BK113 1; have hfz12_2 := fz BK113 2; have hfz12_3 := fz BK113 3))
 repeat (go_quiet (first | ((with_reducible refine gate_dst (N := 1) rfl ?_); refine be 1 #[.int .u64 a0_0, .int .u64 a0_1, .int .u64 a0_2, .int .u64 a0_3] 76 ?_; intro gb112 hg w8 hbox hb; have n0_ := am (below_step (pb HB) hb); have n1_ := am (hbox); have n2_ := am ((pg hg HB : w.heap.size ≤ gb112)); have n3_ := am ((pg hg HB : w.heap.size ≤ gb112)); clear HB; have HB := n0_; have BK112 := n1_; have GW112 := n2_; have GE112 := n3_; clear n0_ n1_ n2_ n3_; clear hb hbox hg) | ((with_reducible refine gate_dst (N := 2) rfl ?_); refine be 2 #[.int .u64 0, .int .u64 0, .int .u64 0, .int .u64 0] 76 ?_; intro gb113 hg w9 hbox hb; have n0_ := am (blk_below (pk BK112.out) hb); have n1_ := am (below_step (pb HB) hb); have n2_ := am (hbox); have n3_ := am ((pg hg HB : w.heap.size ≤ gb113)); have n4_ := am ((pg hg HB : w.heap.size ≤ gb113)); have n5_ := am ((pl hg (pk BK112.out) : gb112 ≠ gb113)); have n6_ := am ((pl' hg (pk BK112.out) : gb113 ≠ gb112)); clear BK112; clear HB; have BK112 := n0_; have HB := n1_; have BK113 := n2_; have GW113 := n3_; have GE113 := n4_; have NB112_113 := n5_; have NB113_112 := n6_; clear n0_ n1_ n2_ n3_ n4_ n5_ n6_; clear hb hbox hg; have hnb10 := NB112_113.out; have hnc10 := NB113_112.out; have hcz11_0 := ce BK112 0; have hcz11_1 := ce BK112 1; have hcz11_2 := ce BK112 2; have hcz11_3 := ce BK112 3; have hfz11_0 := fz BK112 0; have hfz11_1 := fz BK112 1; have hfz11_2 := fz BK112 2; have hfz11_3 := fz BK112 3) | (go_at_call 50; (with_reducible refine (bits_RotateLeft64.calls a0_1 13 t114 _ A2.out).mono ?_); rintro e w' ⟨rfl, ⟨nd, rfl⟩⟩; (try first | exact ⟨rfl, _, World.drewN_drewN _ _ _⟩ | exact ⟨rfl, _, Eq.trans (World.drewN_drewN _ _ _) (congrArg (World.drewN _) (Nat.add_assoc _ _ _))⟩)) | (go_at_call 50; (with_reducible refine (bits_RotateLeft64.calls (IntKind.u64.wrap (a0_0 + a0_1)) 32 t115 _ A3.out).mono ?_); rintro e w' ⟨rfl, ⟨nd, rfl⟩⟩; (try first | exact ⟨rfl, _, World.drewN_drewN _ _ _⟩ | exact ⟨rfl, _, Eq.trans (World.drewN_drewN _ _ _) (congrArg (World.drewN _) (Nat.add_assoc _ _ _))⟩)) | (go_at_call 50; (with_reducible refine (bits_RotateLeft64.calls a0_3 16 t116 _ A4.out).mono ?_); rintro e w' ⟨rfl, ⟨nd, rfl⟩⟩; (try first | exact ⟨rfl, _, World.drewN_drewN _ _ _⟩ | exact ⟨rfl, _, Eq.trans (World.drewN_drewN _ _ _) (congrArg (World.drewN _) (Nat.add_assoc _ _ _))⟩)) | (go_at_call 50; (with_reducible refine (bits_RotateLeft64.calls (Go.bits .xor .u64 t116 (IntKind.u64.wrap (a0_2 + a0_3))) 21 t117 _ A5.out).mono ?_); rintro e w' ⟨rfl, ⟨nd, rfl⟩⟩; (try first | exact ⟨rfl, _, World.drewN_drewN _ _ _⟩ | exact ⟨rfl, _, Eq.trans (World.drewN_drewN _ _ _) (congrArg (World.drewN _) (Nat.add_assoc _ _ _))⟩)) | (go_at_call 50; (with_reducible refine (bits_RotateLeft64.calls (Go.bits .xor .u64 t114 (IntKind.u64.wrap (a0_0 + a0_1))) 17 t118 _ A6.out).mono ?_); rintro e w' ⟨rfl, ⟨nd, rfl⟩⟩; (try first | exact ⟨rfl, _, World.drewN_drewN _ _ _⟩ | exact ⟨rfl, _, Eq.trans (World.drewN_drewN _ _ _) (congrArg (World.drewN _) (Nat.add_assoc _ _ _))⟩)) | (go_at_call 50; (with_reducible refine (bits_RotateLeft64.calls (IntKind.u64.wrap ((IntKind.u64.wrap (a0_2 + a0_3)) + (Go.bits .xor .u64 t114 (IntKind.u64.wrap (a0_0 + a0_1))))) 32 t119 _ A7.out).mono ?_); rintro e w' ⟨rfl, ⟨nd, rfl⟩⟩; (try first | exact ⟨rfl, _, World.drewN_drewN _ _ _⟩ | exact ⟨rfl, _, Eq.trans (World.drewN_drewN _ _ _) (congrArg (World.drewN _) (Nat.add_assoc _ _ _))⟩); have hcz12_0 := ce BK113 0; have hcz12_1 := ce BK113 1; have hcz12_2 := ce BK113 2; have hcz12_3 := ce BK113 3; have hfz12_0 := fz BK113 0; have hfz12_1 := fz BK113 1; have hfz12_2 := fz BK113 2; have hfz12_3 := fz BK113 3)); try go_wp2_with (first | ((with_reducible refine gate_dst (N := 1) rfl ?_); refine be 1 #[.int .u64 a0_0, .int .u64 a0_1, .int .u64 a0_2, .int .u64 a0_3] 76 ?_; intro gb112 hg w8 hbox hb; have n0_ := am (below_step (pb HB) hb); have n1_ := am (hbox); have n2_ := am ((pg hg HB : w.heap.size ≤ gb112)); have n3_ := am ((pg hg HB : w.heap.size ≤ gb112)); clear HB; have HB := n0_; have BK112 := n1_; have GW112 := n2_; have GE112 := n3_; clear n0_ n1_ n2_ n3_; clear hb hbox hg) | ((with_reducible refine gate_dst (N := 2) rfl ?_); refine be 2 #[.int .u64 0, .int .u64 0, .int .u64 0, .int .u64 0] 76 ?_; intro gb113 hg w9 hbox hb; have n0_ := am (blk_below (pk BK112.out) hb); have n1_ := am (below_step (pb HB) hb); have n2_ := am (hbox); have n3_ := am ((pg hg HB : w.heap.size ≤ gb113)); have n4_ := am ((pg hg HB : w.heap.size ≤ gb113)); have n5_ := am ((pl hg (pk BK112.out) : gb112 ≠ gb113)); have n6_ := am ((pl' hg (pk BK112.out) : gb113 ≠ gb112)); clear BK112; clear HB; have BK112 := n0_; have HB := n1_; have BK113 := n2_; have GW113 := n3_; have GE113 := n4_; have NB112_113 := n5_; have NB113_112 := n6_; clear n0_ n1_ n2_ n3_ n4_ n5_ n6_; clear hb hbox hg; have hnb10 := NB112_113.out; have hnc10 := NB113_112.out; have hcz11_0 := ce BK112 0; have hcz11_1 := ce BK112 1; have hcz11_2 := ce BK112 2; have hcz11_3 := ce BK112 3; have hfz11_0 := fz BK112 0; have hfz11_1 := fz BK112 1; have hfz11_2 := fz BK112 2; have hfz11_3 := fz BK112 3) | (go_at_call 50; (with_reducible refine (bits_RotateLeft64.calls a0_1 13 t114 _ A2.out).mono ?_); rintro e w' ⟨rfl, ⟨nd, rfl⟩⟩; (try first | exact ⟨rfl, _, World.drewN_drewN _ _ _⟩ | exact ⟨rfl, _, Eq.trans (World.drewN_drewN _ _ _) (congrArg (World.drewN _) (Nat.add_assoc _ _ _))⟩)) | (go_at_call 50; (with_reducible refine (bits_RotateLeft64.calls (IntKind.u64.wrap (a0_0 + a0_1)) 32 t115 _ A3.out).mono ?_); rintro e w' ⟨rfl, ⟨nd, rfl⟩⟩; (try first | exact ⟨rfl, _, World.drewN_drewN _ _ _⟩ | exact ⟨rfl, _, Eq.trans (World.drewN_drewN _ _ _) (congrArg (World.drewN _) (Nat.add_assoc _ _ _))⟩)) | (go_at_call 50; (with_reducible refine (bits_RotateLeft64.calls a0_3 16 t116 _ A4.out).mono ?_); rintro e w' ⟨rfl, ⟨nd, rfl⟩⟩; (try first | exact ⟨rfl, _, World.drewN_drewN _ _ _⟩ | exact ⟨rfl, _, Eq.trans (World.drewN_drewN _ _ _) (congrArg (World.drewN _) (Nat.add_assoc _ _ _))⟩)) | (go_at_call 50; (with_reducible refine (bits_RotateLeft64.calls (Go.bits .xor .u64 t116 (IntKind.u64.wrap (a0_2 + a0_3))) 21 t117 _ A5.out).mono ?_); rintro e w' ⟨rfl, ⟨nd, rfl⟩⟩; (try first | exact ⟨rfl, _, World.drewN_drewN _ _ _⟩ | exact ⟨rfl, _, Eq.trans (World.drewN_drewN _ _ _) (congrArg (World.drewN _) (Nat.add_assoc _ _ _))⟩)) | (go_at_call 50; (with_reducible refine (bits_RotateLeft64.calls (Go.bits .xor .u64 t114 (IntKind.u64.wrap (a0_0 + a0_1))) 17 t118 _ A6.out).mono ?_); rintro e w' ⟨rfl, ⟨nd, rfl⟩⟩; (try first | exact ⟨rfl, _, World.drewN_drewN _ _ _⟩ | exact ⟨rfl, _, Eq.trans (World.drewN_drewN _ _ _) (congrArg (World.drewN _) (Nat.add_assoc _ _ _))⟩)) | (go_at_call 50; (with_reducible refine (bits_RotateLeft64.calls (IntKind.u64.wrap ((IntKind.u64.wrap (a0_2 + a0_3)) + (Go.bits .xor .u64 t114 (IntKind.u64.wrap (a0_0 + a0_1))))) 32 t119 _ A7.out).mono ?_); rintro e w' ⟨rfl, ⟨nd, rfl⟩⟩; (try first | exact ⟨rfl, _, World.drewN_drewN _ _ _⟩ | exact ⟨rfl, _, Eq.trans (World.drewN_drewN _ _ _) (congrArg (World.drewN _) (Nat.add_assoc _ _ _))⟩); have hcz12_0 := ce BK113 0; have hcz12_1 := ce BK113 1; have hcz12_2 := ce BK113 2; have hcz12_3 := ce BK113 3; have hfz12_0 := fz BK113 0; have hfz12_1 := fz BK113 1; have hfz12_2 := fz BK113 2; have hfz12_3 := fz BK113 3)))
 refine bodyPost_ret (results_cell_row rfl _ _ gb113 76 #[.int .u64 (IntKind.u64.wrap (t115 + (Go.bits .xor .u64 t116 (IntKind.u64.wrap (a0_2 + a0_3))))), .int .u64 (Go.bits .xor .u64 t118 (IntKind.u64.wrap ((IntKind.u64.wrap (a0_2 + a0_3)) + (Go.bits .xor .u64 t114 (IntKind.u64.wrap (a0_0 + a0_1)))))), .int .u64 t119, .int .u64 (Go.bits .xor .u64 t117 (IntKind.u64.wrap (t115 + (Go.bits .xor .u64 t116 (IntKind.u64.wrap (a0_2 + a0_3))))))] (0, 0) _ rfl (by refine pk ?_; refine blk_put (cs := #[.int .u64 (IntKind.u64.wrap (t115 + (Go.bits .xor .u64 t116 (IntKind.u64.wrap (a0_2 + a0_3))))), .int .u64 (Go.bits .xor .u64 t118 (IntKind.u64.wrap ((IntKind.u64.wrap (a0_2 + a0_3)) + (Go.bits .xor .u64 t114 (IntKind.u64.wrap (a0_0 + a0_1)))))), .int .u64 t119, .int .u64 0]) ?_ 3 _ rfl; refine pk ?_; refine blk_put (cs := #[.int .u64 (IntKind.u64.wrap (t115 + (Go.bits .xor .u64 t116 (IntKind.u64.wrap (a0_2 + a0_3))))), .int .u64 (Go.bits .xor .u64 t118 (IntKind.u64.wrap ((IntKind.u64.wrap (a0_2 + a0_3)) + (Go.bits .xor .u64 t114 (IntKind.u64.wrap (a0_0 + a0_1)))))), .int .u64 0, .int .u64 0]) ?_ 2 _ rfl; refine pk ?_; refine blk_put (cs := #[.int .u64 (IntKind.u64.wrap (t115 + (Go.bits .xor .u64 t116 (IntKind.u64.wrap (a0_2 + a0_3))))), .int .u64 0, .int .u64 0, .int .u64 0]) ?_ 1 _ rfl; refine pk ?_; refine blk_put (cs := #[.int .u64 0, .int .u64 0, .int .u64 0, .int .u64 0]) ?_ 0 _ rfl; refine pk ?_; exact BK113.out) Try.underlying76 rfl (by kernel_rfl)) rfl ?_
 exact ⟨by first | rfl | (simp [errW_none, errW_some] <;> rfl) | (simp [*, errW_none, errW_some] <;> rfl), pb HB⟩

def sip_take.f (a0_0 : Int) (a0_1 : Int) (a0_2 : Int) (a0_3 : Int) (a1 : Int) : Option (Int × Int × Int × Int) := (sip_turn.f a0_0 a0_1 a0_2 (Go.bits .xor .u64 a0_3 a1)).bind fun bt122 => ((sip_turn.f bt122.1 bt122.2.1 bt122.2.2.1 bt122.2.2.2).bind fun bt126 => (some (Go.bits .xor .u64 bt126.1 a1, bt126.2.1, bt126.2.2.1, bt126.2.2.2)))
set_option maxHeartbeats 8000000 in
set_option maxRecDepth 100000 in
theorem sip_take.calls (a0_0 : Int) (a0_1 : Int) (a0_2 : Int) (a0_3 : Int) (a1 : Int) (r1 : Int) (r2 : Int) (r3 : Int) (r4 : Int) (w : World) (h : sip_take.f a0_0 a0_1 a0_2 a0_3 a1 = some (r1, r2, r3, r4)) :
  Calls Try.prog 47 #[.agg #[.int .u64 a0_0, .int .u64 a0_1, .int .u64 a0_2, .int .u64 a0_3], .int .u64 a1] w fun e w' => e = .returned (.agg #[.int .u64 r1, .int .u64 r2, .int .u64 r3, .int .u64 r4]) ∧ Below w.heap.size w w' := by
 have hu76 := Try.underlying76
 have HB := am (Below.refl w.heap.size w)
 have H : ((sip_turn.f a0_0 a0_1 a0_2 (Go.bits .xor .u64 a0_3 a1)).bind fun bt122 => ((sip_turn.f bt122.1 bt122.2.1 bt122.2.2.1 bt122.2.2.2).bind fun bt126 => (some (Go.bits .xor .u64 bt126.1 a1, bt126.2.1, bt126.2.2.1, bt126.2.2.2)))) = some (r1, r2, r3, r4) := h
 clear h
 replace H := Option.bind_eq_some_iff.mp H
 obtain ⟨⟨t122, t123, t124, t125⟩, A30, H⟩ := H
 replace H : ((sip_turn.f t122 t123 t124 t125).bind fun bt126 => (some (Go.bits .xor .u64 bt126.1 a1, bt126.2.1, bt126.2.2.1, bt126.2.2.2))) = some (r1, r2, r3, r4) := H
 have A3 := am A30
 clear A30
 replace H := Option.bind_eq_some_iff.mp H
 obtain ⟨⟨t126, t127, t128, t129⟩, A40, H⟩ := H
 replace H : (some (Go.bits .xor .u64 t126 a1, t127, t128, t129)) = some (r1, r2, r3, r4) := H
 have A4 := am A40
 clear A40
 simp only [Option.some.injEq, Prod.mk.injEq] at H
 obtain ⟨rfl, rfl, rfl, rfl⟩ := H
 go_enter Try.func47, Try.ntmps47
 go_wp2_with (first | ((with_reducible refine gate_dst (N := 2) rfl ?_); refine be 2 #[.int .u64 a0_0, .int .u64 a0_1, .int .u64 a0_2, .int .u64 a0_3] 76 ?_; intro gb120 hg w5 hbox hb; have n0_ := am (below_step (pb HB) hb); have n1_ := am (hbox); have n2_ := am ((pg hg HB : w.heap.size ≤ gb120)); have n3_ := am ((pg hg HB : w.heap.size ≤ gb120)); clear HB; have HB := n0_; have BK120 := n1_; have GW120 := n2_; have GE120 := n3_; clear n0_ n1_ n2_ n3_; clear hb hbox hg) | ((with_reducible refine gate_dst (N := 4) rfl ?_); refine be 4 #[.int .u64 0, .int .u64 0, .int .u64 0, .int .u64 0] 76 ?_; intro gb121 hg w6 hbox hb; have n0_ := am (blk_below (pk BK120.out) hb); have n1_ := am (below_step (pb HB) hb); have n2_ := am (hbox); have n3_ := am ((pg hg HB : w.heap.size ≤ gb121)); have n4_ := am ((pg hg HB : w.heap.size ≤ gb121)); have n5_ := am ((pl hg (pk BK120.out) : gb120 ≠ gb121)); have n6_ := am ((pl' hg (pk BK120.out) : gb121 ≠ gb120)); clear BK120; clear HB; have BK120 := n0_; have HB := n1_; have BK121 := n2_; have GW121 := n3_; have GE121 := n4_; have NB120_121 := n5_; have NB121_120 := n6_; clear n0_ n1_ n2_ n3_ n4_ n5_ n6_; clear hb hbox hg; have hnb7 := NB120_121.out; have hnc7 := NB121_120.out; have hcz8_0 := ce BK120 0; have hcz8_1 := ce BK120 1; have hcz8_2 := ce BK120 2; have hcz8_3 := ce BK120 3; have hfz8_0 := fz BK120 0; have hfz8_1 := fz BK120 1; have hfz8_2 := fz BK120 2; have hfz8_3 := fz BK120 3) | ((with_reducible refine gate_callee (f := 49) rfl ?_); refine gl (some 11) Try.func49 #[.agg #[.int .u64 a0_0, .int .u64 a0_1, .int .u64 a0_2, .int .u64 (Go.bits .xor .u64 a0_3 a1)]] ?_; (with_reducible refine (sip_turn.calls a0_0 a0_1 a0_2 (Go.bits .xor .u64 a0_3 a1) t122 t123 t124 t125 _ A3.out).mono ?_); rintro e w9 ⟨rfl, hb⟩; refine ⟨_, rfl, ?_⟩; replace BK120 := am (blk_below (g := gb120) (o := .cells #[.int .u64 a0_0, .int .u64 a0_1, .int .u64 a0_2, .int .u64 (Go.bits .xor .u64 a0_3 a1)] 76 (0, 0)) (by refine pk ?_; refine blk_put (cs := #[.int .u64 a0_0, .int .u64 a0_1, .int .u64 a0_2, .int .u64 a0_3]) ?_ 3 _ rfl; refine pk ?_; exact BK120.out) hb); replace BK121 := am (blk_below (g := gb121) (o := .cells #[.int .u64 0, .int .u64 0, .int .u64 0, .int .u64 0] 76 (0, 0)) (by refine pk ?_; refine blk_far ?_ NB121_120.out _; refine pk ?_; exact BK121.out) hb); replace HB := am (below_step (pb HB) hb); (try clear hb); (try clear hb2); (try clear hk); (try clear hi)) | ((with_reducible refine gate_callee (f := 49) rfl ?_); refine gl (some 12) Try.func49 #[.agg #[.int .u64 t122, .int .u64 t123, .int .u64 t124, .int .u64 t125]] ?_; (with_reducible refine (sip_turn.calls t122 t123 t124 t125 t126 t127 t128 t129 _ A4.out).mono ?_); rintro e w10 ⟨rfl, hb⟩; refine ⟨_, rfl, ?_⟩; replace BK120 := am (blk_below (pk BK120.out) hb); replace BK121 := am (blk_below (pk BK121.out) hb); replace HB := am (below_step (pb HB) hb); (try clear hb); (try clear hb2); (try clear hk); (try clear hi); have hcz11_0 := ce BK120 0; have hcz11_1 := ce BK120 1; have hcz11_2 := ce BK120 2; have hcz11_3 := ce BK120 3; have hfz11_0 := fz BK120 0; have hfz11_1 := fz BK120 1; have hfz11_2 := fz BK120 2; have hfz11_3 := fz BK120 3; have hcz12_0 := ce BK121 0; have hcz12_1 := ce BK121 1; have hcz12_2 := ce BK121 2; have hcz12_3 := ce BK121 3; have hfz12_0 := fz BK121 0; have hfz12_1 := fz BK121 1; have hfz12_2 := fz BK121 2; have hfz12_3 := fz BK121 3))
 refine bodyPost_ret (results_cell_row rfl _ _ gb121 76 #[.int .u64 (Go.bits .xor .u64 t126 a1), .int .u64 t127, .int .u64 t128, .int .u64 t129] (0, 0) _ rfl (by refine pk ?_; refine blk_put (cs := #[.int .u64 (Go.bits .xor .u64 t126 a1), .int .u64 t127, .int .u64 t128, .int .u64 0]) ?_ 3 _ rfl; refine pk ?_; refine blk_put (cs := #[.int .u64 (Go.bits .xor .u64 t126 a1), .int .u64 t127, .int .u64 0, .int .u64 0]) ?_ 2 _ rfl; refine pk ?_; refine blk_put (cs := #[.int .u64 (Go.bits .xor .u64 t126 a1), .int .u64 0, .int .u64 0, .int .u64 0]) ?_ 1 _ rfl; refine pk ?_; refine blk_put (cs := #[.int .u64 0, .int .u64 0, .int .u64 0, .int .u64 0]) ?_ 0 _ rfl; refine pk ?_; refine blk_far ?_ NB121_120.out _; refine pk ?_; refine blk_far ?_ NB121_120.out _; refine pk ?_; refine blk_far ?_ NB121_120.out _; refine pk ?_; refine blk_far ?_ NB121_120.out _; refine pk ?_; refine blk_far ?_ NB121_120.out _; refine pk ?_; exact BK121.out) Try.underlying76 rfl (by kernel_rfl)) rfl ?_
 exact ⟨by first | rfl | (simp [errW_none, errW_some] <;> rfl) | (simp [*, errW_none, errW_some] <;> rfl), pb HB⟩

def sip_number.l0 : Nat → ByteArray → Int → Int → Int → Option (Int)
 | 0, _, _, _, _ => none
 | k + 1, x0, x2, x5, x6 => if x6 < x5 then (if 0 ≤ x6 then (if x6 < (x0.size : Int) then (if 0 ≤ (wrap64 (8 * x6)) then (sip_number.l0 k x0 (Go.bits .or .u64 x2 (shl .u64 (IntKind.u64.wrap (bt x0 x6)) (wrap64 (8 * x6)))) x5 (wrap64 (x6 + 1))) else (none)) else (none)) else (none)) else (some x2)
def sip_number.f (k : Nat) (a0 : ByteArray) : Option (Int) := sip_number.l0 k a0 0 (a0.size : Int) 0
theorem sip_number.mono_l : ∀ k, (∀ y0 y1 y2 y3, LeO (sip_number.l0 k y0 y1 y2 y3) (sip_number.l0 (k + 1) y0 y1 y2 y3))
 | 0 => fun _ _ _ _ r h => by simp [sip_number.l0] at h
 | k + 1 => by
  have ih0 := sip_number.mono_l k
  ·intro y0 y1 y2 y3
   unfold sip_number.l0
   repeat' first
   | (with_reducible exact ih0 _ _ _ _)
   | (with_reducible exact LeO.refl _)
   | (with_reducible exact LeO.none _)
   | (with_reducible refine LeO.ite ?_ ?_)
   | (with_reducible refine LeO.bind ?_ (fun _ => ?_))
theorem sip_number.mono : ∀ a0 k, LeO (sip_number.f k a0) (sip_number.f (k + 1) a0) := by
 intro a0 k
 have ih0 := sip_number.mono_l k
 unfold sip_number.f
 repeat' first
   | (with_reducible exact ih0 _ _ _ _)
   | (with_reducible exact LeO.refl _)
   | (with_reducible exact LeO.none _)
   | (with_reducible refine LeO.ite ?_ ?_)
   | (with_reducible refine LeO.bind ?_ (fun _ => ?_))
set_option maxHeartbeats 8000000 in
set_option maxRecDepth 100000 in
theorem sip_number.calls (k : Nat) (a0 : ByteArray) (r : Int) (w : World) (h : sip_number.f k a0 = some r) :
  Calls Try.prog 48 #[.string a0] w fun e w' => e = .returned (.int .u64 r) ∧ Drawn0 w w' := by
 have H : (sip_number.l0 k a0 0 (a0.size : Int) 0) = some r := h
 clear h
 have H' := am H
 clear H
 go_enter Try.func48, Try.ntmps48
 go_wp2
 go_loopg [2, 6] k (fun kq v2 v6 w' => ∃ (x2_1 : Int) (x6_1 : Int), v2 = .int .u64 x2_1 ∧ v6 = .int .i64 x6_1 ∧ Aside0 (sip_number.l0 kq a0 x2_1 (a0.size : Int) x6_1 = some r) ∧ Aside0 (kq ≤ k) ∧ Drawn0 w w')
 case atStart => exact ⟨(0), (0), (by first | rfl | (simp; done) | (simp [*]; done)), (by first | rfl | (simp; done) | (simp [*]; done)), H', ⟨Nat.le_refl _⟩, by repeat (first | exact Drawn0.refl _ | apply Drawn0.step)⟩
 case round =>
  clear H'
  obtain ⟨x2_1, x6_1, rfl, rfl, HA, HK1, ⟨m1, rfl⟩⟩ := hrel
  cases gk with
  | zero => exact absurd HA.out (by simp [sip_number.l0])
  | succ k1 =>
   have H := HA.out
   clear HA
   simp only [sip_number.l0] at H
   by_cases c2 : x6_1 < (a0.size : Int)
   ·rw [if_pos c2] at H
    have c2b0 : decide (x6_1 < (a0.size : Int)) = true := decide_eq_true c2
    clear c2
    by_cases c3 : 0 ≤ x6_1
    ·rw [if_pos c3] at H
     have c3b0 : decide (0 ≤ x6_1) = true := decide_eq_true c3
     clear c3
     by_cases c4 : x6_1 < (a0.size : Int)
     ·rw [if_pos c4] at H
      have c4b0 : decide (x6_1 < (a0.size : Int)) = true := decide_eq_true c4
      clear c4
      obtain ⟨ji6, hji6⟩ : ∃ j_ : Int, (wrap64 (8 * x6_1)) = j_ := ⟨_, rfl⟩
      replace H : (if 0 ≤ (ji6) then (sip_number.l0 k1 a0 (Go.bits .or .u64 x2_1 (shl .u64 (IntKind.u64.wrap (bt a0 x6_1)) (ji6))) (a0.size : Int) (wrap64 (x6_1 + 1))) else (none)) = some r := by first | (rw [hji6] at H; exact H) | (simp only [hji6] at H ⊢; exact H)
      have hji6w : (IntKind.i64.wrap (8 * x6_1)) = ji6 := (i64_w _).trans hji6
      by_cases c7 : 0 ≤ (ji6)
      ·rw [if_pos c7] at H
       have c7b0 := eq_true c7
       have c7b1 : decide (0 ≤ (ji6)) = true := decide_eq_true c7
       clear c7
       obtain ⟨ji8, hji8⟩ : ∃ j_ : Int, (shl .u64 (IntKind.u64.wrap (bt a0 x6_1)) (ji6)) = j_ := ⟨_, rfl⟩
       replace H : (sip_number.l0 k1 a0 (Go.bits .or .u64 x2_1 (ji8)) (a0.size : Int) (wrap64 (x6_1 + 1))) = some r := by first | (rw [hji8] at H; exact H) | (simp only [hji8] at H ⊢; exact H)
       have hji8_ : (IntKind.u64.wrap ((IntKind.u64.wrap (bt a0 x6_1)) * 2 ^ min (ji6).toNat 64)) = ji8 := hji8
       have hji8z : (ji6) ≤ 64 → (IntKind.u64.wrap ((IntKind.u64.wrap (bt a0 x6_1)) * 2 ^ (ji6).toNat)) = ji8 := shl_small hji8
       have H' := am H
       clear H
       have p5 : 0 ≤ (x6_1 : Int) := of_decide_eq_true (by first | (with_reducible assumption) | assumption)
       have q5 : x6_1 < (a0.size : Int) := of_decide_eq_true (by first | (with_reducible assumption) | assumption)
       have hx5 := bt_at a0 x6_1
       replace p5 := eq_true p5
       replace q5 := eq_true q5
       go_wp2
       go_roundg k1
       case measure => have := HK1.out; omega
       case rel => exact ⟨(Go.bits .or .u64 x2_1 (ji8)), (wrap64 (x6_1 + 1)), (by first | rfl | (simp; done) | (simp only [← hji8] <;> (first | rfl | (simp; done) | (simp [show ∀ j_ : Int, shl .u64 0 j_ = 0 from fun j_ => by unfold shl; rw [Int.zero_mul]; decide]; done))) | (simp [*]; done)), (by first | rfl | (simp; done) | (simp [*]; done)), H', ⟨by have := HK1.out; omega⟩, by repeat (first | exact Drawn0.refl _ | apply Drawn0.step)⟩
      ·rw [if_neg c7] at H
       exact absurd H (by simp)
     ·rw [if_neg c4] at H
      exact absurd H (by simp)
    ·rw [if_neg c3] at H
     exact absurd H (by simp)
   ·rw [if_neg c2] at H
    have c2b0 : decide (x6_1 < (a0.size : Int)) = false := decide_eq_false c2
    clear c2
    obtain rfl := Option.some.inj H
    go_wp2
    go_ret
    exact ⟨by first | rfl | (simp; done) | (simp [*]; done), by repeat (first | exact Drawn0.refl _ | apply Drawn0.step)⟩
end Go.Proofs.Ytojpmjkphgjmgaa.H
