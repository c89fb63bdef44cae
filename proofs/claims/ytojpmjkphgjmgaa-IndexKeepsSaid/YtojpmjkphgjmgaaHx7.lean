import Derived.Test.YtojpmjkphgjmgaaHx0
import Derived.Test.YtojpmjkphgjmgaaHx6
namespace Go.Proofs.Ytojpmjkphgjmgaa.H
open Go.RowKit Go.Proofs.YtojpmjkphgjmgaaW.PrintWords Go.Proofs.YtojpmjkphgjmgaaW.PrintLast Go.Proofs.YtojpmjkphgjmgaaW.PrintMore Go.Proofs.YtojpmjkphgjmgaaW.Sq
attribute [local go_sem] max2_int min2_int max_two min_two max_three min_three max_four min_four
set_option linter.unusedVariables false
set_option linter.unusedSimpArgs false

mutual
def index_Right.j0 : Nat → Bool → Int → Int → List (S60) → Option (Bool)
 | 0, _, _, _, _ => none
 | k + 1, x34, x179000, x179001, x179002 => if x34 = true then (some false) else (index_Right.l0 k x179002 (x179002.length : Int) 0 x179000 x179001 x179002)
def index_Right.l0 : Nat → List (S60) → Int → Int → Int → Int → List (S60) → Option (Bool)
 | 0, _, _, _, _, _, _ => none
 | k + 1, x36, x37, x38, x179000, x179001, x179002 => if x38 < x37 then (if 0 ≤ x38 then (if x38 < (x36.length : Int) then (if ((rd_T60 x36 x38).f0 = true) then ((index_walk.f k x179000 x179001 x179002 ((rd_T60 x36 x38).f1)).bind fun bt184 => (if bt184.2 = true then (if bt184.1 = x38 then (index_Right.l0 k x36 x37 (wrap64 (x38 + 1)) x179000 x179001 x179002) else (some false)) else (some false))) else (index_Right.l0 k x36 x37 (wrap64 (x38 + 1)) x179000 x179001 x179002)) else (none)) else (none)) else (some true)
end
def index_Right.f (k : Nat) (a0_0 : Int) (a0_1 : Int) (l0_2 : List (S60)) : Option (Bool) := if (l0_2.length : Int) < 8 then (index_Right.j0 k true a0_0 a0_1 l0_2) else (if (l0_2.length : Int) > 4096 then (index_Right.j0 k true a0_0 a0_1 l0_2) else ((bits_OnesCount.f (IntKind.u64.wrap ((l0_2.length : Int)))).bind fun t179 => (if t179 = 1 then ((index_many.f k a0_0 a0_1 l0_2).bind fun t180 => (if (wrap64 (2 * t180)) > (l0_2.length : Int) then (index_Right.j0 k true a0_0 a0_1 l0_2) else ((index_Slot_31.f l0_2).bind fun t181 => (index_Right.j0 k t181 a0_0 a0_1 l0_2)))) else (index_Right.j0 k true a0_0 a0_1 l0_2))))
theorem index_Right.mono_l : ∀ k, (∀ y0 y1 y2 y3, LeO (index_Right.j0 k y0 y1 y2 y3) (index_Right.j0 (k + 1) y0 y1 y2 y3)) ∧ (∀ y0 y1 y2 y3 y4 y5, LeO (index_Right.l0 k y0 y1 y2 y3 y4 y5) (index_Right.l0 (k + 1) y0 y1 y2 y3 y4 y5))
 | 0 => ⟨fun _ _ _ _ r h => by simp [index_Right.j0] at h, fun _ _ _ _ _ _ r h => by simp [index_Right.l0] at h⟩
 | k + 1 => by
  obtain ⟨ih0, ih1⟩ := index_Right.mono_l k
  refine ⟨?_, ?_⟩
  ·intro y0 y1 y2 y3
   unfold index_Right.j0
   repeat' first
   | (with_reducible exact ih0 _ _ _ _)
   | (with_reducible exact ih1 _ _ _ _ _ _)
   | (with_reducible exact index_many.mono _ _ _ _)
   | (with_reducible exact index_walk.mono _ _ _ _ _)
   | (with_reducible exact LeO.refl _)
   | (with_reducible exact LeO.none _)
   | (with_reducible refine LeO.ite ?_ ?_)
   | (with_reducible refine LeO.bind ?_ (fun _ => ?_))
  ·intro y0 y1 y2 y3 y4 y5
   unfold index_Right.l0
   repeat' first
   | (with_reducible exact ih0 _ _ _ _)
   | (with_reducible exact ih1 _ _ _ _ _ _)
   | (with_reducible exact index_many.mono _ _ _ _)
   | (with_reducible exact index_walk.mono _ _ _ _ _)
   | (with_reducible exact LeO.refl _)
   | (with_reducible exact LeO.none _)
   | (with_reducible refine LeO.ite ?_ ?_)
   | (with_reducible refine LeO.bind ?_ (fun _ => ?_))
theorem index_Right.mono : ∀ a0 a1 a2 k, LeO (index_Right.f k a0 a1 a2) (index_Right.f (k + 1) a0 a1 a2) := by
 intro a0 a1 a2 k
 obtain ⟨ih0, ih1⟩ := index_Right.mono_l k
 unfold index_Right.f
 repeat' first
   | (with_reducible exact ih0 _ _ _ _)
   | (with_reducible exact ih1 _ _ _ _ _ _)
   | (with_reducible exact index_many.mono _ _ _ _)
   | (with_reducible exact index_walk.mono _ _ _ _ _)
   | (with_reducible exact LeO.refl _)
   | (with_reducible exact LeO.none _)
   | (with_reducible refine LeO.ite ?_ ?_)
   | (with_reducible refine LeO.bind ?_ (fun _ => ?_))
set_option maxHeartbeats 8000000 in
set_option maxRecDepth 100000 in
theorem index_Right.calls (k : Nat) (a0_0 : Int) (a0_1 : Int) (A0_2 : Option Addr) (c0_2 : Nat) (l0_2 : List (S60)) (r : Bool) (w : World) (hr0_2 : Kd.C k60 w A0_2 l0_2.length l0_2) (hc0_2 : l0_2.length ≤ c0_2) (h : index_Right.f k a0_0 a0_1 l0_2 = some r) :
  Calls Try.prog 15 #[.agg #[.int .u64 a0_0, .int .u64 a0_1, .slice A0_2 l0_2.length c0_2]] w fun e w' => e = .returned (.bool r) ∧ Below w.heap.size w w' := by
 have hu27 := Try.underlying27
 have hu60 := Try.underlying60
 have HR0_2 := am hr0_2
 have HC0_2 := am hc0_2
 clear hr0_2 hc0_2
 have HB := am (Below.refl w.heap.size w)
 have H : (if (l0_2.length : Int) < 8 then (index_Right.j0 k true a0_0 a0_1 l0_2) else (if (l0_2.length : Int) > 4096 then (index_Right.j0 k true a0_0 a0_1 l0_2) else ((bits_OnesCount.f (IntKind.u64.wrap ((l0_2.length : Int)))).bind fun t179 => (if t179 = 1 then ((index_many.f k a0_0 a0_1 l0_2).bind fun t180 => (if (wrap64 (2 * t180)) > (l0_2.length : Int) then (index_Right.j0 k true a0_0 a0_1 l0_2) else ((index_Slot_31.f l0_2).bind fun t181 => (index_Right.j0 k t181 a0_0 a0_1 l0_2)))) else (index_Right.j0 k true a0_0 a0_1 l0_2))))) = some r := h
 clear h
 have HC2 := am H
 clear H
 go_enter Try.func15, Try.ntmps15
 go_upto_region 2 with (first | ((with_reducible refine gate_dst (N := 1) rfl ?_); refine be 1 #[.int .u64 a0_0, .int .u64 a0_1, .slice A0_2 l0_2.length c0_2] 27 ?_; intro gb178 hg w3 hbox hb; have n0_ := am (below_step (pb HB) hb); have n1_ := am (hbox); have n2_ := am ((pg hg HB : w.heap.size ≤ gb178)); have n3_ := am ((pg hg HB : w.heap.size ≤ gb178)); clear HB; have HB := n0_; have BK178 := n1_; have GW178 := n2_; have GE178 := n3_; clear n0_ n1_ n2_ n3_; clear hb hbox hg; have hcz4_0 := ce BK178 0; have hcz4_1 := ce BK178 1; have hcz4_2 := ce BK178 2; have hfz4_0 := fz BK178 0; have hfz4_1 := fz BK178 1; have hfz4_2 := fz BK178 2))
 (try simp only [Act.put, List.setIfInBounds_toArray, List.set_cons_zero, List.set_cons_succ])
 go_cut [34] (fun v34 wc => ∃ (kq : Nat) (x34_1 : Bool), v34 = .bool x34_1 ∧ Aside0 (index_Right.j0 kq x34_1 a0_0 a0_1 l0_2 = some r) ∧ Aside0 (kq ≤ k) ∧ Aside0 (wc.heap[gb178]? = some (.cells #[.int .u64 a0_0, .int .u64 a0_1, (.slice A0_2 l0_2.length c0_2)] 27 (0, 0))) ∧ Aside0 (Below w.heap.size w wc))
 case first =>
  have H := HC2.out
  clear HC2
  by_cases c5 : (l0_2.length : Int) < 8
  ·rw [if_pos c5] at H
   have c5b0 : decide ((l0_2.length : Int) < 8) = true := decide_eq_true c5
   have c5b1 : decide (l0_2.length < 8) = true := decide_eq_true (by omega)
   clear c5
   (first | rw [c5b0] | (simp only [i64_w, i32_w]; rw [c5b0]) | skip)
   have H' := am H
   clear H
   go_wp2
   go_meet
   case rel => exact ⟨_, (true), (by first | rfl | (simp; done) | (simp [*]; done)), H', ⟨by first | omega | exact Nat.le_refl _⟩, ⟨pk BK178.out⟩, ⟨pb HB⟩⟩
  ·rw [if_neg c5] at H
   have c5b0 : decide ((l0_2.length : Int) < 8) = false := decide_eq_false c5
   have c5b1 : decide (l0_2.length < 8) = false := decide_eq_false (by omega)
   clear c5
   (first | rw [c5b0] | (simp only [i64_w, i32_w]; rw [c5b0]) | skip)
   by_cases c6 : (l0_2.length : Int) > 4096
   ·rw [if_pos c6] at H
    have c6b0 : decide (4096 < (l0_2.length : Int)) = true := decide_eq_true c6
    have c6b1 : decide (4096 < l0_2.length) = true := decide_eq_true (by omega)
    clear c6
    have H' := am H
    clear H
    go_wp2
    go_meet
    case rel => exact ⟨_, (true), (by first | rfl | (simp; done) | (simp [*]; done)), H', ⟨by first | omega | exact Nat.le_refl _⟩, ⟨pk BK178.out⟩, ⟨pb HB⟩⟩
   ·rw [if_neg c6] at H
    have c6b0 : decide (4096 < (l0_2.length : Int)) = false := decide_eq_false c6
    have c6b1 : decide (4096 < l0_2.length) = false := decide_eq_false (by omega)
    clear c6
    replace H := Option.bind_eq_some_iff.mp H
    obtain ⟨t179, A70, H⟩ := H
    replace H : (if t179 = 1 then ((index_many.f k a0_0 a0_1 l0_2).bind fun t180 => (if (wrap64 (2 * t180)) > (l0_2.length : Int) then (index_Right.j0 k true a0_0 a0_1 l0_2) else ((index_Slot_31.f l0_2).bind fun t181 => (index_Right.j0 k t181 a0_0 a0_1 l0_2)))) else (index_Right.j0 k true a0_0 a0_1 l0_2)) = some r := H
    have A7 := am A70
    clear A70
    by_cases c8 : t179 = 1
    ·rw [if_pos c8] at H
     have c8b0 : (t179 == 1) = true := beq_iff_eq.mpr c8
     have c8b1 : (t179 != 1) = false := bne_eq_false_iff_eq.mpr c8
     clear c8
     replace H := Option.bind_eq_some_iff.mp H
     obtain ⟨t180, A90, H⟩ := H
     replace H : (if (wrap64 (2 * t180)) > (l0_2.length : Int) then (index_Right.j0 k true a0_0 a0_1 l0_2) else ((index_Slot_31.f l0_2).bind fun t181 => (index_Right.j0 k t181 a0_0 a0_1 l0_2))) = some r := H
     have A9 := am A90
     clear A90
     by_cases c10 : (wrap64 (2 * t180)) > (l0_2.length : Int)
     ·rw [if_pos c10] at H
      have c10b0 : decide ((l0_2.length : Int) < (wrap64 (2 * t180))) = true := decide_eq_true c10
      clear c10
      have H' := am H
      clear H
      go_wp2_with (first | (go_at_call 30; (with_reducible refine (bits_OnesCount.calls (IntKind.u64.wrap ((l0_2.length : Int))) t179 _ A7.out).mono ?_); rintro e w' ⟨rfl, ⟨nd, rfl⟩⟩; have hcz11_0 := ce BK178 0; have hcz11_1 := ce BK178 1; have hcz11_2 := ce BK178 2; have hfz11_0 := fz BK178 0; have hfz11_1 := fz BK178 1; have hfz11_2 := fz BK178 2) | (go_at_call 26; (with_reducible refine (index_many.calls k a0_0 a0_1 _ _ l0_2 t180 _ ?side1 ?side2 A9.out).mono ?_); (case side1 => repeat (first | exact (Kd.C_below HR0_2.out (pb HB)) | (with_reducible refine Kd.C_alloc ?_ _) | (with_reducible refine Kd.C_drewN ?_ _) | (with_reducible refine Kd.C_drew ?_))); (case side2 => exact HC0_2.out); rintro e w12 ⟨rfl, hb⟩; replace BK178 := am (blk_below (pk BK178.out) hb); replace HB := am (below_step (pb HB) hb); (try clear hb); (try clear hb2); (try clear hk); (try clear hi)))
      go_meet
      case rel => exact ⟨_, (true), (by first | rfl | (simp; done) | (simp [*]; done)), H', ⟨by first | omega | exact Nat.le_refl _⟩, ⟨pk BK178.out⟩, ⟨pb HB⟩⟩
     ·rw [if_neg c10] at H
      have c10b0 : decide ((l0_2.length : Int) < (wrap64 (2 * t180))) = false := decide_eq_false c10
      clear c10
      replace H := Option.bind_eq_some_iff.mp H
      obtain ⟨t181, A130, H⟩ := H
      replace H : (index_Right.j0 k t181 a0_0 a0_1 l0_2) = some r := H
      have A13 := am A130
      clear A130
      have H' := am H
      clear H
      go_wp2_with (first | (go_at_call 30; (with_reducible refine (bits_OnesCount.calls (IntKind.u64.wrap ((l0_2.length : Int))) t179 _ A7.out).mono ?_); rintro e w' ⟨rfl, ⟨nd, rfl⟩⟩; have hcz14_0 := ce BK178 0; have hcz14_1 := ce BK178 1; have hcz14_2 := ce BK178 2; have hfz14_0 := fz BK178 0; have hfz14_1 := fz BK178 1; have hfz14_2 := fz BK178 2) | (go_at_call 26; (with_reducible refine (index_many.calls k a0_0 a0_1 _ _ l0_2 t180 _ ?side1 ?side2 A9.out).mono ?_); (case side1 => repeat (first | exact (Kd.C_below HR0_2.out (pb HB)) | (with_reducible refine Kd.C_alloc ?_ _) | (with_reducible refine Kd.C_drewN ?_ _) | (with_reducible refine Kd.C_drew ?_))); (case side2 => exact HC0_2.out); rintro e w15 ⟨rfl, hb⟩; replace BK178 := am (blk_below (pk BK178.out) hb); replace HB := am (below_step (pb HB) hb); (try clear hb); (try clear hb2); (try clear hk); (try clear hi); have hcz16_0 := ce BK178 0; have hcz16_1 := ce BK178 1; have hcz16_2 := ce BK178 2; have hfz16_0 := fz BK178 0; have hfz16_1 := fz BK178 1; have hfz16_2 := fz BK178 2) | (go_at_call 31; (with_reducible refine (index_Slot_31.calls _ _ l0_2 t181 _ ?side1 ?side2 A13.out).mono ?_); (case side1 => repeat (first | exact (Kd.C_below HR0_2.out HB.out) | (with_reducible refine Kd.C_alloc ?_ _) | (with_reducible refine Kd.C_drewN ?_ _) | (with_reducible refine Kd.C_drew ?_))); (case side2 => exact HC0_2.out); rintro e w17 ⟨rfl, hb⟩; replace BK178 := am (blk_below (pk BK178.out) hb); replace HB := am (below_step (pb HB) hb); (try clear hb); (try clear hb2); (try clear hk); (try clear hi)))
      go_meet
      case rel => exact ⟨_, (t181), (by first | rfl | (simp; done) | (simp [*]; done)), H', ⟨by first | omega | exact Nat.le_refl _⟩, ⟨pk BK178.out⟩, ⟨pb HB⟩⟩
    ·rw [if_neg c8] at H
     have c8b0 : (t179 == 1) = false := beq_eq_false_iff_ne.mpr c8
     have c8b1 : (t179 != 1) = true := bne_iff_ne.mpr c8
     have H' := am H
     clear H
     go_wp2_with (first | (go_at_call 30; (with_reducible refine (bits_OnesCount.calls (IntKind.u64.wrap ((l0_2.length : Int))) t179 _ A7.out).mono ?_); rintro e w' ⟨rfl, ⟨nd, rfl⟩⟩))
     go_meet
     case rel => exact ⟨_, (true), (by first | rfl | (simp; done) | (simp [*]; done)), H', ⟨by first | omega | exact Nat.le_refl _⟩, ⟨pk BK178.out⟩, ⟨pb HB⟩⟩
 case rest =>
  clear HC2
  try clear c1
  try clear p2
  try clear c5
  try clear c5b0
  try clear c5b1
  try clear c6
  try clear c6b0
  try clear c6b1
  try clear p6
  try clear c8
  try clear c8b0
  try clear c8b1
  try clear c10
  try clear c10b0
  try clear c15
  try clear hcz11_0 hcz11_1 hcz11_2
  try clear hcz14_0 hcz14_1 hcz14_2
  try clear hcz16_0 hcz16_1 hcz16_2
  try clear hcz4_0 hcz4_1 hcz4_2
  try clear hfz11_0 hfz11_1 hfz11_2
  try clear hfz14_0 hfz14_1 hfz14_2
  try clear hfz16_0 hfz16_1 hfz16_2
  try clear hfz4_0 hfz4_1 hfz4_2
  obtain ⟨kq, x34_1, rfl, HA, HJ1, BK178, HB⟩ := hcut
  cases kq with
  | zero => exact absurd HA.out (by simp [index_Right.j0])
  | succ kj1 =>
   have H := HA.out
   clear HA
   simp only [index_Right.j0] at H
   by_cases c18 : x34_1 = true
   ·subst c18
    have H1 : (some false) = some r := by rw [if_pos rfl] at H; exact H
    clear H
    have H := H1
    clear H1
    obtain rfl := Option.some.inj H
    go_wp2
    go_ret
    exact ⟨by first | rfl | (simp [errW_none, errW_some] <;> rfl) | (simp [*, errW_none, errW_some] <;> rfl), pb HB⟩
   ·replace c18 := Bool.eq_false_iff.mpr c18
    subst c18
    have H1 : (index_Right.l0 kj1 l0_2 (l0_2.length : Int) 0 a0_0 a0_1 l0_2) = some r := by rw [if_neg (show ¬ (false = true) by decide)] at H; exact H
    clear H
    have H := H1
    clear H1
    have H' := am H
    clear H
    have hcz19_0 := ce BK178 0
    have hcz19_1 := ce BK178 1
    have hcz19_2 := ce BK178 2
    have hfz19_0 := fz BK178 0
    have hfz19_1 := fz BK178 1
    have hfz19_2 := fz BK178 2
    go_wp2
    go_loopg [38] kj1 (fun kq v38 w' => ∃ (x38_2 : Int), v38 = .int .i64 x38_2 ∧ Aside0 (index_Right.l0 kq l0_2 (l0_2.length : Int) x38_2 a0_0 a0_1 l0_2 = some r) ∧ Aside0 (kq ≤ kj1) ∧ Aside0 (w'.heap[gb178]? = some (.cells #[.int .u64 a0_0, .int .u64 a0_1, (.slice A0_2 l0_2.length c0_2)] 27 (0, 0))) ∧ Aside0 (Below w.heap.size w w'))
    case atStart => exact ⟨(0), (by first | rfl | (simp; done) | (simp [*]; done)), H', ⟨Nat.le_refl _⟩, ⟨pk BK178.out⟩, ⟨pb HB⟩⟩
    case round =>
     clear H'
     try clear c1
     try clear p2
     try clear c5
     try clear c5b0
     try clear c5b1
     try clear c6
     try clear c6b0
     try clear c6b1
     try clear p6
     try clear c8
     try clear c8b0
     try clear c8b1
     try clear c10
     try clear c10b0
     try clear c15
     try clear c18
     try clear hcz11_0 hcz11_1 hcz11_2
     try clear hcz14_0 hcz14_1 hcz14_2
     try clear hcz16_0 hcz16_1 hcz16_2
     try clear hcz19_0 hcz19_1 hcz19_2
     try clear hcz4_0 hcz4_1 hcz4_2
     try clear hfz11_0 hfz11_1 hfz11_2
     try clear hfz14_0 hfz14_1 hfz14_2
     try clear hfz16_0 hfz16_1 hfz16_2
     try clear hfz19_0 hfz19_1 hfz19_2
     try clear hfz4_0 hfz4_1 hfz4_2
     try clear p2
     try clear p6
     obtain ⟨x38_2, rfl, HA, HK2, BK178, HB⟩ := hrel
     cases gk with
     | zero => exact absurd HA.out (by simp [index_Right.l0])
     | succ k2 =>
      have H := HA.out
      clear HA
      simp only [index_Right.l0] at H
      by_cases c20 : x38_2 < (l0_2.length : Int)
      ·rw [if_pos c20] at H
       have c20b0 : decide (x38_2 < (l0_2.length : Int)) = true := decide_eq_true c20
       clear c20
       by_cases c21 : 0 ≤ x38_2
       ·rw [if_pos c21] at H
        have c21b0 : decide (0 ≤ x38_2) = true := decide_eq_true c21
        clear c21
        by_cases c22 : x38_2 < (l0_2.length : Int)
        ·rw [if_pos c22] at H
         have c22b0 : decide (x38_2 < (l0_2.length : Int)) = true := decide_eq_true c22
         clear c22
         obtain ⟨bq23, hbq23⟩ : ∃ b_ : Bool, b_ = ((rd_T60 l0_2 x38_2).f0) := ⟨_, rfl⟩
         replace H : (if (bq23 = true) then ((index_walk.f k2 a0_0 a0_1 l0_2 ((rd_T60 l0_2 x38_2).f1)).bind fun bt184 => (if bt184.2 = true then (if bt184.1 = x38_2 then (index_Right.l0 k2 l0_2 (l0_2.length : Int) (wrap64 (x38_2 + 1)) a0_0 a0_1 l0_2) else (some false)) else (some false))) else (index_Right.l0 k2 l0_2 (l0_2.length : Int) (wrap64 (x38_2 + 1)) a0_0 a0_1 l0_2)) = some r := by rw [← hbq23] at H; exact H
         have Nbq23 := am hbq23
         clear hbq23
         by_cases c24 : (bq23 = true)
         ·subst c24
          have H1 : ((index_walk.f k2 a0_0 a0_1 l0_2 ((rd_T60 l0_2 x38_2).f1)).bind fun bt184 => (if bt184.2 = true then (if bt184.1 = x38_2 then (index_Right.l0 k2 l0_2 (l0_2.length : Int) (wrap64 (x38_2 + 1)) a0_0 a0_1 l0_2) else (some false)) else (some false))) = some r := by rw [if_pos rfl] at H; exact H
          clear H
          have H := H1
          clear H1
          replace H := Option.bind_eq_some_iff.mp H
          obtain ⟨⟨t184, t185⟩, A250, H⟩ := H
          replace H : (if t185 = true then (if t184 = x38_2 then (index_Right.l0 k2 l0_2 (l0_2.length : Int) (wrap64 (x38_2 + 1)) a0_0 a0_1 l0_2) else (some false)) else (some false)) = some r := H
          have A25 := am A250
          clear A250
          by_cases c26 : t185 = true
          ·subst c26
           have H1 : (if t184 = x38_2 then (index_Right.l0 k2 l0_2 (l0_2.length : Int) (wrap64 (x38_2 + 1)) a0_0 a0_1 l0_2) else (some false)) = some r := by rw [if_pos rfl] at H; exact H
           clear H
           have H := H1
           clear H1
           by_cases c27 : t184 = x38_2
           ·rw [if_pos c27] at H
            have c27b0 : (t184 == x38_2) = true := beq_iff_eq.mpr c27
            have c27b1 : (t184 != x38_2) = false := bne_eq_false_iff_eq.mpr c27
            clear c27
            have H' := am H
            clear H
            have p182 : 0 ≤ (x38_2 : Int) := of_decide_eq_true (by first | (with_reducible assumption) | assumption)
            have q182 : x38_2 < (l0_2.length : Int) := of_decide_eq_true (by first | (with_reducible assumption) | assumption)
            obtain ⟨ad182, e182, hx182_0, hx182_1, hx182_2⟩ := at_T60 HR0_2.out x38_2 p182 q182
            (try rw [← Nbq23.out] at hx182_0)
            cases e182
            replace hx182_0 := (HB.out.cell (World.block_lt_of_cell? w _ hx182_0)).trans hx182_0
            replace hx182_1 := (HB.out.cell (World.block_lt_of_cell? w _ hx182_1)).trans hx182_1
            replace hx182_2 := (HB.out.cell (World.block_lt_of_cell? w _ hx182_2)).trans hx182_2
            replace p182 := eq_true p182
            replace q182 := eq_true q182
            go_wp2_with (first | ((with_reducible refine gate_dst (N := 5) rfl ?_); refine be 5 #[.bool false, .string (⟨#[]⟩ : ByteArray), .int .i64 0] 60 ?_; intro gb183 hg w28 hbox hb; have n0_ := am (blk_below (pk BK178.out) hb); have n1_ := am (below_step (pb HB) hb); have n2_ := am (hbox); have n3_ := am ((pg hg HB : w.heap.size ≤ gb183)); have n4_ := am ((pg hg HB : w.heap.size ≤ gb183)); have n5_ := am ((pl hg (pk BK178.out) : gb178 ≠ gb183)); have n6_ := am ((pl' hg (pk BK178.out) : gb183 ≠ gb178)); clear BK178; clear HB; have BK178 := n0_; have HB := n1_; have BK183 := n2_; have GW183 := n3_; have GE183 := n4_; have NB178_183 := n5_; have NB183_178 := n6_; clear n0_ n1_ n2_ n3_ n4_ n5_ n6_; clear hb hbox hg; have hnb29 := NB183_178.out; have hnc29 := NB178_183.out; have hcz30_0 := ce BK183 0; have hcz30_1 := ce BK183 1; have hcz30_2 := ce BK183 2; have hfz30_0 := fz BK183 0; have hfz30_1 := fz BK183 1; have hfz30_2 := fz BK183 2; have hcz31_0 := ce BK178 0; have hcz31_1 := ce BK178 1; have hcz31_2 := ce BK178 2; have hfz31_0 := fz BK178 0; have hfz31_1 := fz BK178 1; have hfz31_2 := fz BK178 2) | ((with_reducible refine gate_callee (f := 25) rfl ?_); refine gl (some 50) Try.func25 #[.agg #[.int .u64 a0_0, .int .u64 a0_1, .slice (some ad182) l0_2.length c0_2], .string ((rd_T60 l0_2 x38_2).f1)] ?_; (with_reducible refine (index_walk.calls k2 a0_0 a0_1 _ _ l0_2 ((rd_T60 l0_2 x38_2).f1) t184 true _ ?side1 ?side2 A25.out).mono ?_); (case side1 => exact Kd.C_below HR0_2.out (pb HB)); (case side2 => exact HC0_2.out); rintro e w32 ⟨rfl, hb⟩; refine ⟨_, rfl, ?_⟩; replace BK178 := am (blk_below (g := gb178) (o := .cells #[.int .u64 a0_0, .int .u64 a0_1, .slice (some ad182) l0_2.length c0_2] 27 (0, 0)) (by refine pk ?_; refine blk_far ?_ NB178_183.out _; refine pk ?_; refine blk_far ?_ NB178_183.out _; refine pk ?_; refine blk_far ?_ NB178_183.out _; refine pk ?_; exact BK178.out) hb); replace BK183 := am (blk_below (g := gb183) (o := .cells #[.bool true, .string ((rd_T60 l0_2 x38_2).f1), .int .i64 ((rd_T60 l0_2 x38_2).f2)] 60 (0, 0)) (by refine pk ?_; refine blk_put (cs := #[.bool true, .string ((rd_T60 l0_2 x38_2).f1), .int .i64 0]) ?_ 2 _ rfl; refine pk ?_; refine blk_put (cs := #[.bool true, .string (⟨#[]⟩ : ByteArray), .int .i64 0]) ?_ 1 _ rfl; refine pk ?_; refine blk_put (cs := #[.bool false, .string (⟨#[]⟩ : ByteArray), .int .i64 0]) ?_ 0 _ rfl; refine pk ?_; exact BK183.out) hb); replace HB := am (below_step (pb HB) hb); (try clear hb); (try clear hb2); (try clear hk); (try clear hi)))
            go_roundg k2
            case measure => have := HJ1.out; have := HK2.out; omega
            case rel => exact ⟨(wrap64 (x38_2 + 1)), (by first | rfl | (simp; done) | (simp [*]; done)), H', ⟨by have := HJ1.out; have := HK2.out; omega⟩, ⟨pk BK178.out⟩, ⟨pb HB⟩⟩
           ·rw [if_neg c27] at H
            have c27b0 : (t184 == x38_2) = false := beq_eq_false_iff_ne.mpr c27
            have c27b1 : (t184 != x38_2) = true := bne_iff_ne.mpr c27
            obtain rfl := Option.some.inj H
            have p182 : 0 ≤ (x38_2 : Int) := of_decide_eq_true (by first | (with_reducible assumption) | assumption)
            have q182 : x38_2 < (l0_2.length : Int) := of_decide_eq_true (by first | (with_reducible assumption) | assumption)
            obtain ⟨ad182, e182, hx182_0, hx182_1, hx182_2⟩ := at_T60 HR0_2.out x38_2 p182 q182
            (try rw [← Nbq23.out] at hx182_0)
            cases e182
            replace hx182_0 := (HB.out.cell (World.block_lt_of_cell? w _ hx182_0)).trans hx182_0
            replace hx182_1 := (HB.out.cell (World.block_lt_of_cell? w _ hx182_1)).trans hx182_1
            replace hx182_2 := (HB.out.cell (World.block_lt_of_cell? w _ hx182_2)).trans hx182_2
            replace p182 := eq_true p182
            replace q182 := eq_true q182
            go_wp2_with (first | ((with_reducible refine gate_dst (N := 5) rfl ?_); refine be 5 #[.bool false, .string (⟨#[]⟩ : ByteArray), .int .i64 0] 60 ?_; intro gb183 hg w33 hbox hb; have n0_ := am (blk_below (pk BK178.out) hb); have n1_ := am (below_step (pb HB) hb); have n2_ := am (hbox); have n3_ := am ((pg hg HB : w.heap.size ≤ gb183)); have n4_ := am ((pg hg HB : w.heap.size ≤ gb183)); have n5_ := am ((pl hg (pk BK178.out) : gb178 ≠ gb183)); have n6_ := am ((pl' hg (pk BK178.out) : gb183 ≠ gb178)); clear BK178; clear HB; have BK178 := n0_; have HB := n1_; have BK183 := n2_; have GW183 := n3_; have GE183 := n4_; have NB178_183 := n5_; have NB183_178 := n6_; clear n0_ n1_ n2_ n3_ n4_ n5_ n6_; clear hb hbox hg; have hnb34 := NB183_178.out; have hnc34 := NB178_183.out; have hcz35_0 := ce BK183 0; have hcz35_1 := ce BK183 1; have hcz35_2 := ce BK183 2; have hfz35_0 := fz BK183 0; have hfz35_1 := fz BK183 1; have hfz35_2 := fz BK183 2; have hcz36_0 := ce BK178 0; have hcz36_1 := ce BK178 1; have hcz36_2 := ce BK178 2; have hfz36_0 := fz BK178 0; have hfz36_1 := fz BK178 1; have hfz36_2 := fz BK178 2) | ((with_reducible refine gate_callee (f := 25) rfl ?_); refine gl (some 50) Try.func25 #[.agg #[.int .u64 a0_0, .int .u64 a0_1, .slice (some ad182) l0_2.length c0_2], .string ((rd_T60 l0_2 x38_2).f1)] ?_; (with_reducible refine (index_walk.calls k2 a0_0 a0_1 _ _ l0_2 ((rd_T60 l0_2 x38_2).f1) t184 true _ ?side1 ?side2 A25.out).mono ?_); (case side1 => exact Kd.C_below HR0_2.out (pb HB)); (case side2 => exact HC0_2.out); rintro e w37 ⟨rfl, hb⟩; refine ⟨_, rfl, ?_⟩; replace BK178 := am (blk_below (g := gb178) (o := .cells #[.int .u64 a0_0, .int .u64 a0_1, .slice (some ad182) l0_2.length c0_2] 27 (0, 0)) (by refine pk ?_; refine blk_far ?_ NB178_183.out _; refine pk ?_; refine blk_far ?_ NB178_183.out _; refine pk ?_; refine blk_far ?_ NB178_183.out _; refine pk ?_; exact BK178.out) hb); replace BK183 := am (blk_below (g := gb183) (o := .cells #[.bool true, .string ((rd_T60 l0_2 x38_2).f1), .int .i64 ((rd_T60 l0_2 x38_2).f2)] 60 (0, 0)) (by refine pk ?_; refine blk_put (cs := #[.bool true, .string ((rd_T60 l0_2 x38_2).f1), .int .i64 0]) ?_ 2 _ rfl; refine pk ?_; refine blk_put (cs := #[.bool true, .string (⟨#[]⟩ : ByteArray), .int .i64 0]) ?_ 1 _ rfl; refine pk ?_; refine blk_put (cs := #[.bool false, .string (⟨#[]⟩ : ByteArray), .int .i64 0]) ?_ 0 _ rfl; refine pk ?_; exact BK183.out) hb); replace HB := am (below_step (pb HB) hb); (try clear hb); (try clear hb2); (try clear hk); (try clear hi)))
            go_ret
            exact ⟨by first | rfl | (simp [errW_none, errW_some] <;> rfl) | (simp [*, errW_none, errW_some] <;> rfl), pb HB⟩
          ·replace c26 := Bool.eq_false_iff.mpr c26
           subst c26
           have H1 : (some false) = some r := by rw [if_neg (show ¬ (false = true) by decide)] at H; exact H
           clear H
           have H := H1
           clear H1
           obtain rfl := Option.some.inj H
           have p182 : 0 ≤ (x38_2 : Int) := of_decide_eq_true (by first | (with_reducible assumption) | assumption)
           have q182 : x38_2 < (l0_2.length : Int) := of_decide_eq_true (by first | (with_reducible assumption) | assumption)
           obtain ⟨ad182, e182, hx182_0, hx182_1, hx182_2⟩ := at_T60 HR0_2.out x38_2 p182 q182
           (try rw [← Nbq23.out] at hx182_0)
           cases e182
           replace hx182_0 := (HB.out.cell (World.block_lt_of_cell? w _ hx182_0)).trans hx182_0
           replace hx182_1 := (HB.out.cell (World.block_lt_of_cell? w _ hx182_1)).trans hx182_1
           replace hx182_2 := (HB.out.cell (World.block_lt_of_cell? w _ hx182_2)).trans hx182_2
           replace p182 := eq_true p182
           replace q182 := eq_true q182
           go_wp2_with (first | ((with_reducible refine gate_dst (N := 5) rfl ?_); refine be 5 #[.bool false, .string (⟨#[]⟩ : ByteArray), .int .i64 0] 60 ?_; intro gb183 hg w38 hbox hb; have n0_ := am (blk_below (pk BK178.out) hb); have n1_ := am (below_step (pb HB) hb); have n2_ := am (hbox); have n3_ := am ((pg hg HB : w.heap.size ≤ gb183)); have n4_ := am ((pg hg HB : w.heap.size ≤ gb183)); have n5_ := am ((pl hg (pk BK178.out) : gb178 ≠ gb183)); have n6_ := am ((pl' hg (pk BK178.out) : gb183 ≠ gb178)); clear BK178; clear HB; have BK178 := n0_; have HB := n1_; have BK183 := n2_; have GW183 := n3_; have GE183 := n4_; have NB178_183 := n5_; have NB183_178 := n6_; clear n0_ n1_ n2_ n3_ n4_ n5_ n6_; clear hb hbox hg; have hnb39 := NB183_178.out; have hnc39 := NB178_183.out; have hcz40_0 := ce BK183 0; have hcz40_1 := ce BK183 1; have hcz40_2 := ce BK183 2; have hfz40_0 := fz BK183 0; have hfz40_1 := fz BK183 1; have hfz40_2 := fz BK183 2; have hcz41_0 := ce BK178 0; have hcz41_1 := ce BK178 1; have hcz41_2 := ce BK178 2; have hfz41_0 := fz BK178 0; have hfz41_1 := fz BK178 1; have hfz41_2 := fz BK178 2) | ((with_reducible refine gate_callee (f := 25) rfl ?_); refine gl (some 50) Try.func25 #[.agg #[.int .u64 a0_0, .int .u64 a0_1, .slice (some ad182) l0_2.length c0_2], .string ((rd_T60 l0_2 x38_2).f1)] ?_; (with_reducible refine (index_walk.calls k2 a0_0 a0_1 _ _ l0_2 ((rd_T60 l0_2 x38_2).f1) t184 false _ ?side1 ?side2 A25.out).mono ?_); (case side1 => exact Kd.C_below HR0_2.out (pb HB)); (case side2 => exact HC0_2.out); rintro e w42 ⟨rfl, hb⟩; refine ⟨_, rfl, ?_⟩; replace BK178 := am (blk_below (g := gb178) (o := .cells #[.int .u64 a0_0, .int .u64 a0_1, .slice (some ad182) l0_2.length c0_2] 27 (0, 0)) (by refine pk ?_; refine blk_far ?_ NB178_183.out _; refine pk ?_; refine blk_far ?_ NB178_183.out _; refine pk ?_; refine blk_far ?_ NB178_183.out _; refine pk ?_; exact BK178.out) hb); replace BK183 := am (blk_below (g := gb183) (o := .cells #[.bool true, .string ((rd_T60 l0_2 x38_2).f1), .int .i64 ((rd_T60 l0_2 x38_2).f2)] 60 (0, 0)) (by refine pk ?_; refine blk_put (cs := #[.bool true, .string ((rd_T60 l0_2 x38_2).f1), .int .i64 0]) ?_ 2 _ rfl; refine pk ?_; refine blk_put (cs := #[.bool true, .string (⟨#[]⟩ : ByteArray), .int .i64 0]) ?_ 1 _ rfl; refine pk ?_; refine blk_put (cs := #[.bool false, .string (⟨#[]⟩ : ByteArray), .int .i64 0]) ?_ 0 _ rfl; refine pk ?_; exact BK183.out) hb); replace HB := am (below_step (pb HB) hb); (try clear hb); (try clear hb2); (try clear hk); (try clear hi)))
           go_ret
           exact ⟨by first | rfl | (simp [errW_none, errW_some] <;> rfl) | (simp [*, errW_none, errW_some] <;> rfl), pb HB⟩
         ·replace c24 := Bool.eq_false_iff.mpr c24
          subst c24
          have H1 : (index_Right.l0 k2 l0_2 (l0_2.length : Int) (wrap64 (x38_2 + 1)) a0_0 a0_1 l0_2) = some r := by rw [if_neg (show ¬ (false = true) by decide)] at H; exact H
          clear H
          have H := H1
          clear H1
          have H' := am H
          clear H
          have p182 : 0 ≤ (x38_2 : Int) := of_decide_eq_true (by first | (with_reducible assumption) | assumption)
          have q182 : x38_2 < (l0_2.length : Int) := of_decide_eq_true (by first | (with_reducible assumption) | assumption)
          obtain ⟨ad182, e182, hx182_0, hx182_1, hx182_2⟩ := at_T60 HR0_2.out x38_2 p182 q182
          (try rw [← Nbq23.out] at hx182_0)
          cases e182
          replace hx182_0 := (HB.out.cell (World.block_lt_of_cell? w _ hx182_0)).trans hx182_0
          replace hx182_1 := (HB.out.cell (World.block_lt_of_cell? w _ hx182_1)).trans hx182_1
          replace hx182_2 := (HB.out.cell (World.block_lt_of_cell? w _ hx182_2)).trans hx182_2
          replace p182 := eq_true p182
          replace q182 := eq_true q182
          go_wp2_with (first | ((with_reducible refine gate_dst (N := 5) rfl ?_); refine be 5 #[.bool false, .string (⟨#[]⟩ : ByteArray), .int .i64 0] 60 ?_; intro gb183 hg w43 hbox hb; have n0_ := am (blk_below (pk BK178.out) hb); have n1_ := am (below_step (pb HB) hb); have n2_ := am (hbox); have n3_ := am ((pg hg HB : w.heap.size ≤ gb183)); have n4_ := am ((pg hg HB : w.heap.size ≤ gb183)); have n5_ := am ((pl hg (pk BK178.out) : gb178 ≠ gb183)); have n6_ := am ((pl' hg (pk BK178.out) : gb183 ≠ gb178)); clear BK178; clear HB; have BK178 := n0_; have HB := n1_; have BK183 := n2_; have GW183 := n3_; have GE183 := n4_; have NB178_183 := n5_; have NB183_178 := n6_; clear n0_ n1_ n2_ n3_ n4_ n5_ n6_; clear hb hbox hg; have hnb44 := NB183_178.out; have hnc44 := NB178_183.out; have hcz45_0 := ce BK183 0; have hcz45_1 := ce BK183 1; have hcz45_2 := ce BK183 2; have hfz45_0 := fz BK183 0; have hfz45_1 := fz BK183 1; have hfz45_2 := fz BK183 2))
          go_roundg k2
          case measure => have := HJ1.out; have := HK2.out; omega
          case rel => exact ⟨(wrap64 (x38_2 + 1)), (by first | rfl | (simp; done) | (simp [*]; done)), H', ⟨by have := HJ1.out; have := HK2.out; omega⟩, ⟨by refine pk ?_; refine blk_far ?_ NB178_183.out _; refine pk ?_; refine blk_far ?_ NB178_183.out _; refine pk ?_; refine blk_far ?_ NB178_183.out _; refine pk ?_; exact BK178.out⟩, ⟨pb HB⟩⟩
        ·rw [if_neg c22] at H
         exact absurd H (by simp)
       ·rw [if_neg c21] at H
        exact absurd H (by simp)
      ·rw [if_neg c20] at H
       have c20b0 : decide (x38_2 < (l0_2.length : Int)) = false := decide_eq_false c20
       clear c20
       obtain rfl := Option.some.inj H
       go_wp2
       go_ret
       exact ⟨by first | rfl | (simp [errW_none, errW_some] <;> rfl) | (simp [*, errW_none, errW_some] <;> rfl), pb HB⟩
def index_Get.f (k : Nat) (a0_0 : Int) (a0_1 : Int) (l0_2 : List (S60)) (a1 : ByteArray) : Option (Int × Bool) := (index_Right.f k a0_0 a0_1 l0_2).bind fun t187 => (if t187 = true then ((index_walk.f k a0_0 a0_1 l0_2 a1).bind fun bt188 => (if 0 ≤ bt188.1 then (if bt188.1 < (l0_2.length : Int) then (some ((rd_T60 l0_2 bt188.1).f2, bt188.2)) else (none)) else (none))) else (some (0, false)))
theorem index_Get.mono : ∀ a0 a1 a2 a3 k, LeO (index_Get.f k a0 a1 a2 a3) (index_Get.f (k + 1) a0 a1 a2 a3) := by
 intro a0 a1 a2 a3 k
 unfold index_Get.f
 repeat' first
   | (with_reducible exact index_Right.mono _ _ _ _)
   | (with_reducible exact index_walk.mono _ _ _ _ _)
   | (with_reducible exact LeO.refl _)
   | (with_reducible exact LeO.none _)
   | (with_reducible refine LeO.ite ?_ ?_)
   | (with_reducible refine LeO.bind ?_ (fun _ => ?_))
set_option maxHeartbeats 8000000 in
set_option maxRecDepth 100000 in
theorem index_Get.calls (k : Nat) (a0_0 : Int) (a0_1 : Int) (A0_2 : Option Addr) (c0_2 : Nat) (l0_2 : List (S60)) (a1 : ByteArray) (r1 : Int) (r2 : Bool) (w : World) (hr0_2 : Kd.C k60 w A0_2 l0_2.length l0_2) (hc0_2 : l0_2.length ≤ c0_2) (h : index_Get.f k a0_0 a0_1 l0_2 a1 = some (r1, r2)) :
  Calls Try.prog 12 #[.agg #[.int .u64 a0_0, .int .u64 a0_1, .slice A0_2 l0_2.length c0_2], .string a1] w fun e w' => e = .returned (.tuple #[.int .i64 r1, .bool r2]) ∧ Below w.heap.size w w' := by
 have hu27 := Try.underlying27
 have HR0_2 := am hr0_2
 have HC0_2 := am hc0_2
 clear hr0_2 hc0_2
 have HB := am (Below.refl w.heap.size w)
 have H : ((index_Right.f k a0_0 a0_1 l0_2).bind fun t187 => (if t187 = true then ((index_walk.f k a0_0 a0_1 l0_2 a1).bind fun bt188 => (if 0 ≤ bt188.1 then (if bt188.1 < (l0_2.length : Int) then (some ((rd_T60 l0_2 bt188.1).f2, bt188.2)) else (none)) else (none))) else (some (0, false)))) = some (r1, r2) := h
 clear h
 replace H := Option.bind_eq_some_iff.mp H
 obtain ⟨t187, A30, H⟩ := H
 replace H : (if t187 = true then ((index_walk.f k a0_0 a0_1 l0_2 a1).bind fun bt188 => (if 0 ≤ bt188.1 then (if bt188.1 < (l0_2.length : Int) then (some ((rd_T60 l0_2 bt188.1).f2, bt188.2)) else (none)) else (none))) else (some (0, false))) = some (r1, r2) := H
 have A3 := am A30
 clear A30
 by_cases c4 : t187 = true
 rotate_left
 ·replace c4 := Bool.eq_false_iff.mpr c4
  subst c4
  have H1 : (some (0, false)) = some (r1, r2) := by rw [if_neg (show ¬ (false = true) by decide)] at H; exact H
  clear H
  have H := H1
  clear H1
  simp only [Option.some.injEq, Prod.mk.injEq] at H
  obtain ⟨rfl, rfl⟩ := H
  go_enter Try.func12, Try.ntmps12
  go_wp2_with (first | ((with_reducible refine gate_dst (N := 2) rfl ?_); refine be 2 #[.int .u64 a0_0, .int .u64 a0_1, .slice A0_2 l0_2.length c0_2] 27 ?_; intro gb186 hg w14 hbox hb; have n0_ := am (below_step (pb HB) hb); have n1_ := am (hbox); have n2_ := am ((pg hg HB : w.heap.size ≤ gb186)); have n3_ := am ((pg hg HB : w.heap.size ≤ gb186)); clear HB; have HB := n0_; have BK186 := n1_; have GW186 := n2_; have GE186 := n3_; clear n0_ n1_ n2_ n3_; clear hb hbox hg; have hcz15_0 := ce BK186 0; have hcz15_1 := ce BK186 1; have hcz15_2 := ce BK186 2; have hfz15_0 := fz BK186 0; have hfz15_1 := fz BK186 1; have hfz15_2 := fz BK186 2) | ((with_reducible refine gate_callee (f := 15) rfl ?_); refine gl (some 9) Try.func15 #[.agg #[.int .u64 a0_0, .int .u64 a0_1, .slice A0_2 l0_2.length c0_2]] ?_; (with_reducible refine (index_Right.calls k a0_0 a0_1 _ _ l0_2 false _ ?side1 ?side2 A3.out).mono ?_); (case side1 => repeat (first | exact (Kd.C_below HR0_2.out HB.out) | (with_reducible refine Kd.C_alloc ?_ _) | (with_reducible refine Kd.C_drewN ?_ _) | (with_reducible refine Kd.C_drew ?_))); (case side2 => exact HC0_2.out); rintro e w16 ⟨rfl, hb⟩; refine ⟨_, rfl, ?_⟩; replace BK186 := am (blk_below (pk BK186.out) hb); replace HB := am (below_step (pb HB) hb); (try clear hb); (try clear hb2); (try clear hk); (try clear hi)))
  go_ret2
  exact ⟨by first | rfl | (simp [errW_none, errW_some] <;> rfl) | (simp [*, errW_none, errW_some] <;> rfl), pb HB⟩
 subst c4
 have H1 : ((index_walk.f k a0_0 a0_1 l0_2 a1).bind fun bt188 => (if 0 ≤ bt188.1 then (if bt188.1 < (l0_2.length : Int) then (some ((rd_T60 l0_2 bt188.1).f2, bt188.2)) else (none)) else (none))) = some (r1, r2) := by rw [if_pos rfl] at H; exact H
 clear H
 have H := H1
 clear H1
 replace H := Option.bind_eq_some_iff.mp H
 obtain ⟨⟨t188, t189⟩, A50, H⟩ := H
 replace H : (if 0 ≤ t188 then (if t188 < (l0_2.length : Int) then (some ((rd_T60 l0_2 t188).f2, t189)) else (none)) else (none)) = some (r1, r2) := H
 have A5 := am A50
 clear A50
 by_cases c6 : 0 ≤ t188
 rotate_left
 ·rw [if_neg c6] at H
  exact absurd H (by simp)
 rw [if_pos c6] at H
 have c6b0 : decide (0 ≤ t188) = true := decide_eq_true c6
 clear c6
 by_cases c7 : t188 < (l0_2.length : Int)
 rotate_left
 ·rw [if_neg c7] at H
  exact absurd H (by simp)
 rw [if_pos c7] at H
 have c7b0 : decide (t188 < (l0_2.length : Int)) = true := decide_eq_true c7
 clear c7
 simp only [Option.some.injEq, Prod.mk.injEq] at H
 obtain ⟨rfl, rfl⟩ := H
 go_enter Try.func12, Try.ntmps12
 go_wp2_with (first | ((with_reducible refine gate_dst (N := 2) rfl ?_); refine be 2 #[.int .u64 a0_0, .int .u64 a0_1, .slice A0_2 l0_2.length c0_2] 27 ?_; intro gb186 hg w8 hbox hb; have n0_ := am (below_step (pb HB) hb); have n1_ := am (hbox); have n2_ := am ((pg hg HB : w.heap.size ≤ gb186)); have n3_ := am ((pg hg HB : w.heap.size ≤ gb186)); clear HB; have HB := n0_; have BK186 := n1_; have GW186 := n2_; have GE186 := n3_; clear n0_ n1_ n2_ n3_; clear hb hbox hg; have hcz9_0 := ce BK186 0; have hcz9_1 := ce BK186 1; have hcz9_2 := ce BK186 2; have hfz9_0 := fz BK186 0; have hfz9_1 := fz BK186 1; have hfz9_2 := fz BK186 2) | ((with_reducible refine gate_callee (f := 15) rfl ?_); refine gl (some 9) Try.func15 #[.agg #[.int .u64 a0_0, .int .u64 a0_1, .slice A0_2 l0_2.length c0_2]] ?_; (with_reducible refine (index_Right.calls k a0_0 a0_1 _ _ l0_2 true _ ?side1 ?side2 A3.out).mono ?_); (case side1 => repeat (first | exact (Kd.C_below HR0_2.out HB.out) | (with_reducible refine Kd.C_alloc ?_ _) | (with_reducible refine Kd.C_drewN ?_ _) | (with_reducible refine Kd.C_drew ?_))); (case side2 => exact HC0_2.out); rintro e w10 ⟨rfl, hb⟩; refine ⟨_, rfl, ?_⟩; replace BK186 := am (blk_below (pk BK186.out) hb); replace HB := am (below_step (pb HB) hb); (try clear hb); (try clear hb2); (try clear hk); (try clear hi); have hcz11_0 := ce BK186 0; have hcz11_1 := ce BK186 1; have hcz11_2 := ce BK186 2; have hfz11_0 := fz BK186 0; have hfz11_1 := fz BK186 1; have hfz11_2 := fz BK186 2) | ((with_reducible refine gate_callee (f := 25) rfl ?_); refine gl (some 14) Try.func25 #[.agg #[.int .u64 a0_0, .int .u64 a0_1, .slice A0_2 l0_2.length c0_2], .string a1] ?_; (with_reducible refine (index_walk.calls k a0_0 a0_1 _ _ l0_2 a1 t188 t189 _ ?side1 ?side2 A5.out).mono ?_); (case side1 => repeat (first | exact (Kd.C_below HR0_2.out HB.out) | (with_reducible refine Kd.C_alloc ?_ _) | (with_reducible refine Kd.C_drewN ?_ _) | (with_reducible refine Kd.C_drew ?_))); (case side2 => exact HC0_2.out); rintro e w12 ⟨rfl, hb⟩; refine ⟨_, rfl, ?_⟩; replace BK186 := am (blk_below (pk BK186.out) hb); replace HB := am (below_step (pb HB) hb); (try clear hb); (try clear hb2); (try clear hk); (try clear hi); have hcz13_0 := ce BK186 0; have hcz13_1 := ce BK186 1; have hcz13_2 := ce BK186 2; have hfz13_0 := fz BK186 0; have hfz13_1 := fz BK186 1; have hfz13_2 := fz BK186 2; have p190 : 0 ≤ (t188 : Int) := of_decide_eq_true (by first | (with_reducible assumption) | assumption); have q190 : t188 < (l0_2.length : Int) := of_decide_eq_true (by first | (with_reducible assumption) | assumption); obtain ⟨ad190, e190, hx190_0, hx190_1, hx190_2⟩ := at_T60 HR0_2.out t188 p190 q190; cases e190; replace hx190_0 := (HB.out.cell (World.block_lt_of_cell? w _ hx190_0)).trans hx190_0; replace hx190_1 := (HB.out.cell (World.block_lt_of_cell? w _ hx190_1)).trans hx190_1; replace hx190_2 := (HB.out.cell (World.block_lt_of_cell? w _ hx190_2)).trans hx190_2; replace p190 := eq_true p190; replace q190 := eq_true q190))
 go_ret2
 exact ⟨by first | rfl | (simp [errW_none, errW_some] <;> rfl) | (simp [*, errW_none, errW_some] <;> rfl), pb HB⟩
end Go.Proofs.Ytojpmjkphgjmgaa.H
