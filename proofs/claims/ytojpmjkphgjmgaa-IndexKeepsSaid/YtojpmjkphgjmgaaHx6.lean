import Derived.Test.YtojpmjkphgjmgaaHx0
import Derived.Test.YtojpmjkphgjmgaaHx4
import Derived.Test.YtojpmjkphgjmgaaHx5
namespace Go.Proofs.Ytojpmjkphgjmgaa.H
open Go.RowKit Go.Proofs.YtojpmjkphgjmgaaW.PrintWords Go.Proofs.YtojpmjkphgjmgaaW.PrintLast Go.Proofs.YtojpmjkphgjmgaaW.PrintMore Go.Proofs.YtojpmjkphgjmgaaW.Sq
attribute [local go_sem] max2_int min2_int max_two min_two max_three min_three max_four min_four
set_option linter.unusedVariables false
set_option linter.unusedSimpArgs false

def sip_Sum.f (k : Nat) (a0_0 : Int) (a0_1 : Int) (a1 : ByteArray) : Option (Int) := (sip_New.f a0_0 a0_1).bind fun bt153 => ((sip_Write.f k bt153.1 bt153.2.1 bt153.2.2.1 bt153.2.2.2.1 bt153.2.2.2.2.1 bt153.2.2.2.2.2 a1).bind fun bt159 => ((sip_Done.f k bt159.1 bt159.2.1 bt159.2.2.1 bt159.2.2.2.1 bt159.2.2.2.2.1 bt159.2.2.2.2.2).bind fun t165 => (some t165)))
theorem sip_Sum.mono : ∀ a0 a1 a2 k, LeO (sip_Sum.f k a0 a1 a2) (sip_Sum.f (k + 1) a0 a1 a2) := by
 intro a0 a1 a2 k
 unfold sip_Sum.f
 repeat' first
   | (with_reducible exact sip_Done.mono _ _ _ _ _ _ _)
   | (with_reducible exact sip_Write.mono _ _ _ _ _ _ _ _)
   | (with_reducible exact LeO.refl _)
   | (with_reducible exact LeO.none _)
   | (with_reducible refine LeO.ite ?_ ?_)
   | (with_reducible refine LeO.bind ?_ (fun _ => ?_))
set_option maxHeartbeats 8000000 in
set_option maxRecDepth 100000 in
theorem sip_Sum.calls (k : Nat) (a0_0 : Int) (a0_1 : Int) (a1 : ByteArray) (r : Int) (w : World) (h : sip_Sum.f k a0_0 a0_1 a1 = some r) :
  Calls Try.prog 37 #[.agg #[.int .u64 a0_0, .int .u64 a0_1], .string a1] w fun e w' => e = .returned (.int .u64 r) ∧ Below w.heap.size w w' := by
 have hu24 := Try.underlying24
 have HB := am (Below.refl w.heap.size w)
 have H : ((sip_New.f a0_0 a0_1).bind fun bt153 => ((sip_Write.f k bt153.1 bt153.2.1 bt153.2.2.1 bt153.2.2.2.1 bt153.2.2.2.2.1 bt153.2.2.2.2.2 a1).bind fun bt159 => ((sip_Done.f k bt159.1 bt159.2.1 bt159.2.2.1 bt159.2.2.2.1 bt159.2.2.2.2.1 bt159.2.2.2.2.2).bind fun t165 => (some t165)))) = some r := h
 clear h
 replace H := Option.bind_eq_some_iff.mp H
 obtain ⟨⟨t153, t154, t155, t156, t157, t158⟩, A30, H⟩ := H
 replace H : ((sip_Write.f k t153 t154 t155 t156 t157 t158 a1).bind fun bt159 => ((sip_Done.f k bt159.1 bt159.2.1 bt159.2.2.1 bt159.2.2.2.1 bt159.2.2.2.2.1 bt159.2.2.2.2.2).bind fun t165 => (some t165))) = some r := H
 have A3 := am A30
 clear A30
 replace H := Option.bind_eq_some_iff.mp H
 obtain ⟨⟨t159, t160, t161, t162, t163, t164⟩, A40, H⟩ := H
 replace H : ((sip_Done.f k t159 t160 t161 t162 t163 t164).bind fun t165 => (some t165)) = some r := H
 have A4 := am A40
 clear A40
 replace H := Option.bind_eq_some_iff.mp H
 obtain ⟨t165, A50, H⟩ := H
 replace H : (some t165) = some r := H
 have A5 := am A50
 clear A50
 obtain rfl := Option.some.inj H
 go_enter Try.func37, Try.ntmps37
 go_wp2_with (first | ((with_reducible refine gate_dst (N := 2) rfl ?_); refine be 2 #[.int .u64 a0_0, .int .u64 a0_1] 24 ?_; intro gb152 hg w6 hbox hb; have n0_ := am (below_step (pb HB) hb); have n1_ := am (hbox); have n2_ := am ((pg hg HB : w.heap.size ≤ gb152)); have n3_ := am ((pg hg HB : w.heap.size ≤ gb152)); clear HB; have HB := n0_; have BK152 := n1_; have GW152 := n2_; have GE152 := n3_; clear n0_ n1_ n2_ n3_; clear hb hbox hg; have hcz7_0 := ce BK152 0; have hcz7_1 := ce BK152 1; have hfz7_0 := fz BK152 0; have hfz7_1 := fz BK152 1) | ((with_reducible refine gate_callee (f := 44) rfl ?_); refine gl (some 6) Try.func44 #[.agg #[.int .u64 a0_0, .int .u64 a0_1]] ?_; (with_reducible refine (sip_New.calls a0_0 a0_1 t153 t154 t155 t156 t157 t158 _ A3.out).mono ?_); rintro e w8 ⟨rfl, hb⟩; refine ⟨_, rfl, ?_⟩; replace BK152 := am (blk_below (pk BK152.out) hb); replace HB := am (below_step (pb HB) hb); (try clear hb); (try clear hb2); (try clear hk); (try clear hi)) | ((with_reducible refine gate_callee (f := 43) rfl ?_); refine gl (some 8) Try.func43 #[.agg #[.int .u64 t153, .int .u64 t154, .int .u64 t155, .int .u64 t156, .string t157, .int .i64 t158], .string a1] ?_; (with_reducible refine (sip_Write.calls k t153 t154 t155 t156 t157 t158 a1 t159 t160 t161 t162 t163 t164 _ A4.out).mono ?_); rintro e w9 ⟨rfl, hb⟩; refine ⟨_, rfl, ?_⟩; replace BK152 := am (blk_below (pk BK152.out) hb); replace HB := am (below_step (pb HB) hb); (try clear hb); (try clear hb2); (try clear hk); (try clear hi)) | ((with_reducible refine gate_callee (f := 42) rfl ?_); refine gl (some 9) Try.func42 #[.agg #[.int .u64 t159, .int .u64 t160, .int .u64 t161, .int .u64 t162, .string t163, .int .i64 t164]] ?_; (with_reducible refine (sip_Done.calls k t159 t160 t161 t162 t163 t164 t165 _ A5.out).mono ?_); rintro e w10 ⟨rfl, hb⟩; refine ⟨_, rfl, ?_⟩; replace BK152 := am (blk_below (pk BK152.out) hb); replace HB := am (below_step (pb HB) hb); (try clear hb); (try clear hb2); (try clear hk); (try clear hi)))
 go_ret
 exact ⟨by first | rfl | (simp [errW_none, errW_some] <;> rfl) | (simp [*, errW_none, errW_some] <;> rfl), pb HB⟩

def index_home.f (k : Nat) (a0_0 : Int) (a0_1 : Int) (l0_2 : List (S60)) (a1 : ByteArray) : Option (Int) := (sip_Sum.f k a0_0 a0_1 a1).bind fun t167 => (if (IntKind.u64.wrap ((l0_2.length : Int))) = 0 then (none) else (some (wrap64 (Int.tmod t167 (IntKind.u64.wrap ((l0_2.length : Int)))))))
theorem index_home.mono : ∀ a0 a1 a2 a3 k, LeO (index_home.f k a0 a1 a2 a3) (index_home.f (k + 1) a0 a1 a2 a3) := by
 intro a0 a1 a2 a3 k
 unfold index_home.f
 repeat' first
   | (with_reducible exact sip_Sum.mono _ _ _ _)
   | (with_reducible exact LeO.refl _)
   | (with_reducible exact LeO.none _)
   | (with_reducible refine LeO.ite ?_ ?_)
   | (with_reducible refine LeO.bind ?_ (fun _ => ?_))
def index_home.T1 : Bool × List (List Nat × List Nat) := (true, [([], []), ([0], [0]), ([], []), ([1, 2], [1, 2]), ([], []), ([4], [4]), ([5], [5]), ([6], [6]), ([3, 7], [3, 7]), ([8], [8]), ([9, 3, 0, 1, 2, 3, 4, 5, 6, 7, 8, 9], [9])])
def index_home.B1 : List Nat := [0, 1, 0, 7, 0, 16, 48, 112, 255, 511, 1023]
theorem index_home.tab1 : rtab .any (opsOf Try.f29 1) = index_home.T1 := by kernel_rfl
theorem index_home.bits1 : waitsOk index_home.T1.2 index_home.B1 = true := by kernel_rfl
set_option maxHeartbeats 8000000 in
set_option maxRecDepth 100000 in
theorem index_home.calls (k : Nat) (a0_0 : Int) (a0_1 : Int) (A0_2 : Option Addr) (c0_2 : Nat) (l0_2 : List (S60)) (a1 : ByteArray) (r : Int) (w : World) (hr0_2 : Kd.C k60 w A0_2 l0_2.length l0_2) (hc0_2 : l0_2.length ≤ c0_2) (h : index_home.f k a0_0 a0_1 l0_2 a1 = some r) :
  Calls Try.prog 29 #[.agg #[.int .u64 a0_0, .int .u64 a0_1, .slice A0_2 l0_2.length c0_2], .string a1] w fun e w' => e = .returned (.int .i64 r) ∧ Below w.heap.size w w' := by
 have hu27 := Try.underlying27
 have hu24 := Try.underlying24
 have HR0_2 := am hr0_2
 have HC0_2 := am hc0_2
 clear hr0_2 hc0_2
 have HB := am (Below.refl w.heap.size w)
 have H : ((sip_Sum.f k a0_0 a0_1 a1).bind fun t167 => (if (IntKind.u64.wrap ((l0_2.length : Int))) = 0 then (none) else (some (wrap64 (Int.tmod t167 (IntKind.u64.wrap ((l0_2.length : Int)))))))) = some r := h
 clear h
 replace H := Option.bind_eq_some_iff.mp H
 obtain ⟨t167, A30, H⟩ := H
 replace H : (if (IntKind.u64.wrap ((l0_2.length : Int))) = 0 then (none) else (some (wrap64 (Int.tmod t167 (IntKind.u64.wrap ((l0_2.length : Int))))))) = some r := H
 have A3 := am A30
 clear A30
 by_cases c4 : (IntKind.u64.wrap ((l0_2.length : Int))) = 0
 ·rw [if_pos c4] at H
  exact absurd H (by simp)
 rw [if_neg c4] at H
 have c4b0 : ((IntKind.u64.wrap ((l0_2.length : Int))) == 0) = false := beq_eq_false_iff_ne.mpr c4
 have c4b1 : ((IntKind.u64.wrap ((l0_2.length : Int))) != 0) = true := bne_iff_ne.mpr c4
 obtain rfl := Option.some.inj H
 go_enter Try.func29, Try.ntmps29
 try go_wp2_with (first | ((with_reducible refine gate_dst (N := 2) rfl ?_); refine be 2 #[.int .u64 a0_0, .int .u64 a0_1, .slice A0_2 l0_2.length c0_2] 27 ?_; intro gb166 hg w5 hbox hb; have n0_ := am (below_step (pb HB) hb); have n1_ := am (hbox); have n2_ := am ((pg hg HB : w.heap.size ≤ gb166)); have n3_ := am ((pg hg HB : w.heap.size ≤ gb166)); clear HB; have HB := n0_; have BK166 := n1_; have GW166 := n2_; have GE166 := n3_; clear n0_ n1_ n2_ n3_; clear hb hbox hg))
 replace BK166 := am (blk_drew BK166.out)
 replace HB := am (below_drew1 HB.out)
 refine start_ (n := 11) (S := fun w' => w'.cell? ⟨gb166, 0, none⟩ = some (.int .u64 a0_0) ∧ w'.cell? ⟨gb166, 1, none⟩ = some (.int .u64 a0_1) ∧ w'.cell? ⟨gb166, 2, none⟩ = some (.slice A0_2 l0_2.length c0_2)) (ds := []) #[false, false, false, false, false, false, false, false, false, false, false] (by kernel_rfl) rfl rfl ⟨ce BK166 0, ce BK166 1, ce BK166 2⟩ (fun hHeld => ?_); refine with_tabW index_home.tab1 index_home.bits1 (fun HT_ HW_ => ?_)
 generalize w5.drew = w6 at BK166 HB hHeld ⊢
 refine pu 0 ?_
 refine pu 2 ?_
 refine pu 4 ?_
 refine ta 1 hHeld ?_
 refine ta 5 hHeld ?_
 refine pu 6 ?_
 refine pu 7 ?_
 refine on1 3 (fun K hK => ?_)
 refine gs Try.func37 #[.agg #[.int .u64 a0_0, .int .u64 a0_1], .string a1] ?_
 with_reducible refine (sip_Sum.calls k a0_0 a0_1 a1 t167 _ A3.out).mono ?_
 rintro e w7 ⟨rfl, hb⟩
 refine ⟨_, rfl, ?_⟩
 replace BK166 := am (blk_below (pk BK166.out) hb)
 replace HB := am (below_step (pb HB) hb)
 (try clear hb)
 (try clear hb2)
 (try clear hk)
 (try clear hi)
 refine hK.out _ _ ⟨ce BK166 0, ce BK166 1, ce BK166 2⟩ (fun hHeld => ?_)
 clear hK K
 refine nm ?_
 refine pu 8 ?_
 refine pu 9 ?_
 refine pu 10 ?_
 refine done_ (done_of HT_.out (by kernel_rfl)) ?_
 try go_wp2
 go_ret
 exact ⟨by first | rfl | (simp [errW_none, errW_some] <;> rfl) | (simp [*, errW_none, errW_some] <;> rfl), pb HB⟩
def index_walk.l0 : Nat → ByteArray → Int → Int → Int → List (S60) → Option (Int × Bool)
 | 0, _, _, _, _, _ => none
 | k + 1, x1, x6, x169000, x169001, x169002 => if 0 ≤ x6 then (if x6 < (x169002.length : Int) then (if (rd_T60 x169002 x6).f0 = true then (if ((rd_T60 x169002 x6).f1).toList = x1.toList then (some (x6, (rd_T60 x169002 x6).f0)) else (if (x169002.length : Int) = 0 then (none) else (index_walk.l0 k x1 (Int.tmod (wrap64 (x6 + 1)) (x169002.length : Int)) x169000 x169001 x169002))) else (some (x6, (rd_T60 x169002 x6).f0))) else (none)) else (none)
def index_walk.f (k : Nat) (a0_0 : Int) (a0_1 : Int) (l0_2 : List (S60)) (a1 : ByteArray) : Option (Int × Bool) := (index_home.f k a0_0 a0_1 l0_2 a1).bind fun t169 => (index_walk.l0 k a1 t169 a0_0 a0_1 l0_2)
theorem index_walk.mono_l : ∀ k, (∀ y0 y1 y2 y3 y4, LeO (index_walk.l0 k y0 y1 y2 y3 y4) (index_walk.l0 (k + 1) y0 y1 y2 y3 y4))
 | 0 => fun _ _ _ _ _ r h => by simp [index_walk.l0] at h
 | k + 1 => by
  have ih0 := index_walk.mono_l k
  ·intro y0 y1 y2 y3 y4
   unfold index_walk.l0
   repeat' first
   | (with_reducible exact ih0 _ _ _ _ _)
   | (with_reducible exact index_home.mono _ _ _ _ _)
   | (with_reducible exact LeO.refl _)
   | (with_reducible exact LeO.none _)
   | (with_reducible refine LeO.ite ?_ ?_)
   | (with_reducible refine LeO.bind ?_ (fun _ => ?_))
theorem index_walk.mono : ∀ a0 a1 a2 a3 k, LeO (index_walk.f k a0 a1 a2 a3) (index_walk.f (k + 1) a0 a1 a2 a3) := by
 intro a0 a1 a2 a3 k
 have ih0 := index_walk.mono_l k
 unfold index_walk.f
 repeat' first
   | (with_reducible exact ih0 _ _ _ _ _)
   | (with_reducible exact index_home.mono _ _ _ _ _)
   | (with_reducible exact LeO.refl _)
   | (with_reducible exact LeO.none _)
   | (with_reducible refine LeO.ite ?_ ?_)
   | (with_reducible refine LeO.bind ?_ (fun _ => ?_))
set_option maxHeartbeats 8000000 in
set_option maxRecDepth 100000 in
theorem index_walk.calls (k : Nat) (a0_0 : Int) (a0_1 : Int) (A0_2 : Option Addr) (c0_2 : Nat) (l0_2 : List (S60)) (a1 : ByteArray) (r1 : Int) (r2 : Bool) (w : World) (hr0_2 : Kd.C k60 w A0_2 l0_2.length l0_2) (hc0_2 : l0_2.length ≤ c0_2) (h : index_walk.f k a0_0 a0_1 l0_2 a1 = some (r1, r2)) :
  Calls Try.prog 25 #[.agg #[.int .u64 a0_0, .int .u64 a0_1, .slice A0_2 l0_2.length c0_2], .string a1] w fun e w' => e = .returned (.tuple #[.int .i64 r1, .bool r2]) ∧ Below w.heap.size w w' := by
 have hu27 := Try.underlying27
 have HR0_2 := am hr0_2
 have HC0_2 := am hc0_2
 clear hr0_2 hc0_2
 have HB := am (Below.refl w.heap.size w)
 have H : ((index_home.f k a0_0 a0_1 l0_2 a1).bind fun t169 => (index_walk.l0 k a1 t169 a0_0 a0_1 l0_2)) = some (r1, r2) := h
 clear h
 replace H := Option.bind_eq_some_iff.mp H
 obtain ⟨t169, A30, H⟩ := H
 replace H : (index_walk.l0 k a1 t169 a0_0 a0_1 l0_2) = some (r1, r2) := H
 have A3 := am A30
 clear A30
 have H' := am H
 clear H
 go_enter Try.func25, Try.ntmps25
 go_wp2_with (first | ((with_reducible refine gate_dst (N := 2) rfl ?_); refine be 2 #[.int .u64 a0_0, .int .u64 a0_1, .slice A0_2 l0_2.length c0_2] 27 ?_; intro gb168 hg w4 hbox hb; have n0_ := am (below_step (pb HB) hb); have n1_ := am (hbox); have n2_ := am ((pg hg HB : w.heap.size ≤ gb168)); have n3_ := am ((pg hg HB : w.heap.size ≤ gb168)); clear HB; have HB := n0_; have BK168 := n1_; have GW168 := n2_; have GE168 := n3_; clear n0_ n1_ n2_ n3_; clear hb hbox hg; have hcz5_0 := ce BK168 0; have hcz5_1 := ce BK168 1; have hcz5_2 := ce BK168 2; have hfz5_0 := fz BK168 0; have hfz5_1 := fz BK168 1; have hfz5_2 := fz BK168 2) | (go_at_call 29; (with_reducible refine (index_home.calls k a0_0 a0_1 _ _ l0_2 a1 t169 _ ?side1 ?side2 A3.out).mono ?_); (case side1 => repeat (first | exact (Kd.C_below HR0_2.out HB.out) | (with_reducible refine Kd.C_alloc ?_ _) | (with_reducible refine Kd.C_drewN ?_ _) | (with_reducible refine Kd.C_drew ?_))); (case side2 => exact HC0_2.out); rintro e w6 ⟨rfl, hb⟩; replace BK168 := am (blk_below (pk BK168.out) hb); replace HB := am (below_step (pb HB) hb); (try clear hb); (try clear hb2); (try clear hk); (try clear hi)))
 repeat (go_quiet (first | ((with_reducible refine gate_dst (N := 2) rfl ?_); refine be 2 #[.int .u64 a0_0, .int .u64 a0_1, .slice A0_2 l0_2.length c0_2] 27 ?_; intro gb168 hg w4 hbox hb; have n0_ := am (below_step (pb HB) hb); have n1_ := am (hbox); have n2_ := am ((pg hg HB : w.heap.size ≤ gb168)); have n3_ := am ((pg hg HB : w.heap.size ≤ gb168)); clear HB; have HB := n0_; have BK168 := n1_; have GW168 := n2_; have GE168 := n3_; clear n0_ n1_ n2_ n3_; clear hb hbox hg; have hcz5_0 := ce BK168 0; have hcz5_1 := ce BK168 1; have hcz5_2 := ce BK168 2; have hfz5_0 := fz BK168 0; have hfz5_1 := fz BK168 1; have hfz5_2 := fz BK168 2) | (go_at_call 29; (with_reducible refine (index_home.calls k a0_0 a0_1 _ _ l0_2 a1 t169 _ ?side1 ?side2 A3.out).mono ?_); (case side1 => repeat (first | exact (Kd.C_below HR0_2.out HB.out) | (with_reducible refine Kd.C_alloc ?_ _) | (with_reducible refine Kd.C_drewN ?_ _) | (with_reducible refine Kd.C_drew ?_))); (case side2 => exact HC0_2.out); rintro e w6 ⟨rfl, hb⟩; replace BK168 := am (blk_below (pk BK168.out) hb); replace HB := am (below_step (pb HB) hb); (try clear hb); (try clear hb2); (try clear hk); (try clear hi))); try go_wp2_with (first | ((with_reducible refine gate_dst (N := 2) rfl ?_); refine be 2 #[.int .u64 a0_0, .int .u64 a0_1, .slice A0_2 l0_2.length c0_2] 27 ?_; intro gb168 hg w4 hbox hb; have n0_ := am (below_step (pb HB) hb); have n1_ := am (hbox); have n2_ := am ((pg hg HB : w.heap.size ≤ gb168)); have n3_ := am ((pg hg HB : w.heap.size ≤ gb168)); clear HB; have HB := n0_; have BK168 := n1_; have GW168 := n2_; have GE168 := n3_; clear n0_ n1_ n2_ n3_; clear hb hbox hg; have hcz5_0 := ce BK168 0; have hcz5_1 := ce BK168 1; have hcz5_2 := ce BK168 2; have hfz5_0 := fz BK168 0; have hfz5_1 := fz BK168 1; have hfz5_2 := fz BK168 2) | (go_at_call 29; (with_reducible refine (index_home.calls k a0_0 a0_1 _ _ l0_2 a1 t169 _ ?side1 ?side2 A3.out).mono ?_); (case side1 => repeat (first | exact (Kd.C_below HR0_2.out HB.out) | (with_reducible refine Kd.C_alloc ?_ _) | (with_reducible refine Kd.C_drewN ?_ _) | (with_reducible refine Kd.C_drew ?_))); (case side2 => exact HC0_2.out); rintro e w6 ⟨rfl, hb⟩; replace BK168 := am (blk_below (pk BK168.out) hb); replace HB := am (below_step (pb HB) hb); (try clear hb); (try clear hb2); (try clear hk); (try clear hi))))
 go_loopg [6] k (fun kq v6 w' => ∃ (x6_1 : Int), v6 = .int .i64 x6_1 ∧ Aside0 (index_walk.l0 kq a1 x6_1 a0_0 a0_1 l0_2 = some (r1, r2)) ∧ Aside0 (kq ≤ k) ∧ Aside0 (w'.heap[gb168]? = some (.cells #[.int .u64 a0_0, .int .u64 a0_1, (.slice A0_2 l0_2.length c0_2)] 27 (0, 0))) ∧ Aside0 (Below w.heap.size w w'))
 case atStart => exact ⟨(t169), (by first | rfl | (simp; done) | (simp [*]; done)), H', ⟨Nat.le_refl _⟩, ⟨pk BK168.out⟩, ⟨pb HB⟩⟩
 case round =>
  clear H'
  try clear c2
  try clear p2
  try clear hcz5_0 hcz5_1 hcz5_2 hfz5_0 hfz5_1 hfz5_2
  obtain ⟨x6_1, rfl, HA, HK1, BK168, HB⟩ := hrel
  cases gk with
  | zero => exact absurd HA.out (by simp [index_walk.l0])
  | succ k1 =>
   have H := HA.out
   clear HA
   simp only [index_walk.l0] at H
   by_cases c7 : 0 ≤ x6_1
   ·rw [if_pos c7] at H
    have c7b0 : decide (0 ≤ x6_1) = true := decide_eq_true c7
    clear c7
    by_cases c8 : x6_1 < (l0_2.length : Int)
    ·rw [if_pos c8] at H
     have c8b0 : decide (x6_1 < (l0_2.length : Int)) = true := decide_eq_true c8
     clear c8
     obtain ⟨bq9, hbq9⟩ : ∃ b_ : Bool, b_ = ((rd_T60 l0_2 x6_1).f0) := ⟨_, rfl⟩
     replace H : (if bq9 = true then (if ((rd_T60 l0_2 x6_1).f1).toList = a1.toList then (some (x6_1, bq9)) else (if (l0_2.length : Int) = 0 then (none) else (index_walk.l0 k1 a1 (Int.tmod (wrap64 (x6_1 + 1)) (l0_2.length : Int)) a0_0 a0_1 l0_2))) else (some (x6_1, bq9))) = some (r1, r2) := by rw [← hbq9] at H; exact H
     have Nbq9 := am hbq9
     clear hbq9
     by_cases c10 : bq9 = true
     ·subst c10
      have H1 : (if ((rd_T60 l0_2 x6_1).f1).toList = a1.toList then (some (x6_1, true)) else (if (l0_2.length : Int) = 0 then (none) else (index_walk.l0 k1 a1 (Int.tmod (wrap64 (x6_1 + 1)) (l0_2.length : Int)) a0_0 a0_1 l0_2))) = some (r1, r2) := by rw [if_pos rfl] at H; exact H
      clear H
      have H := H1
      clear H1
      by_cases c11 : ((rd_T60 l0_2 x6_1).f1).toList = a1.toList
      ·rw [if_pos c11] at H
       have c11b0 : (((rd_T60 l0_2 x6_1).f1).toList == a1.toList) = true := beq_iff_eq.mpr c11
       have c11b1 : (((rd_T60 l0_2 x6_1).f1).toList != a1.toList) = false := bne_eq_false_iff_eq.mpr c11
       clear c11
       simp only [Option.some.injEq, Prod.mk.injEq] at H
       obtain ⟨rfl, rfl⟩ := H
       have hcz12_0 := ce BK168 0
       have hcz12_1 := ce BK168 1
       have hcz12_2 := ce BK168 2
       have hfz12_0 := fz BK168 0
       have hfz12_1 := fz BK168 1
       have hfz12_2 := fz BK168 2
       have p170 : 0 ≤ (x6_1 : Int) := of_decide_eq_true (by first | (with_reducible assumption) | assumption)
       have q170 : x6_1 < (l0_2.length : Int) := of_decide_eq_true (by first | (with_reducible assumption) | assumption)
       obtain ⟨ad170, e170, hx170_0, hx170_1, hx170_2⟩ := at_T60 HR0_2.out x6_1 p170 q170
       (try rw [← Nbq9.out] at hx170_0)
       cases e170
       replace hx170_0 := (HB.out.cell (World.block_lt_of_cell? w _ hx170_0)).trans hx170_0
       replace hx170_1 := (HB.out.cell (World.block_lt_of_cell? w _ hx170_1)).trans hx170_1
       replace hx170_2 := (HB.out.cell (World.block_lt_of_cell? w _ hx170_2)).trans hx170_2
       replace p170 := eq_true p170
       replace q170 := eq_true q170
       have p171 : 0 ≤ (x6_1 : Int) := of_decide_eq_true (by first | (with_reducible assumption) | assumption)
       have q171 : x6_1 < (l0_2.length : Int) := of_decide_eq_true (by first | (with_reducible assumption) | assumption)
       obtain ⟨ad171, e171, hx171_0, hx171_1, hx171_2⟩ := at_T60 HR0_2.out x6_1 p171 q171
       (try rw [← Nbq9.out] at hx171_0)
       obtain rfl : ad170 = ad171 := (by injection e171)
       replace hx171_0 := (HB.out.cell (World.block_lt_of_cell? w _ hx171_0)).trans hx171_0
       replace hx171_1 := (HB.out.cell (World.block_lt_of_cell? w _ hx171_1)).trans hx171_1
       replace hx171_2 := (HB.out.cell (World.block_lt_of_cell? w _ hx171_2)).trans hx171_2
       replace p171 := eq_true p171
       replace q171 := eq_true q171
       have p172 : 0 ≤ (x6_1 : Int) := of_decide_eq_true (by first | (with_reducible assumption) | assumption)
       have q172 : x6_1 < (l0_2.length : Int) := of_decide_eq_true (by first | (with_reducible assumption) | assumption)
       obtain ⟨ad172, e172, hx172_0, hx172_1, hx172_2⟩ := at_T60 HR0_2.out x6_1 p172 q172
       (try rw [← Nbq9.out] at hx172_0)
       obtain rfl : ad170 = ad172 := (by injection e172)
       replace hx172_0 := (HB.out.cell (World.block_lt_of_cell? w _ hx172_0)).trans hx172_0
       replace hx172_1 := (HB.out.cell (World.block_lt_of_cell? w _ hx172_1)).trans hx172_1
       replace hx172_2 := (HB.out.cell (World.block_lt_of_cell? w _ hx172_2)).trans hx172_2
       replace p172 := eq_true p172
       replace q172 := eq_true q172
       go_wp2
       repeat (go_quiet (fail); try go_wp2)
       go_ret2
       exact ⟨by first | rfl | (simp [errW_none, errW_some] <;> rfl) | (simp [*, errW_none, errW_some] <;> rfl), pb HB⟩
      ·rw [if_neg c11] at H
       have c11b0 : (((rd_T60 l0_2 x6_1).f1).toList == a1.toList) = false := beq_eq_false_iff_ne.mpr c11
       have c11b1 : (((rd_T60 l0_2 x6_1).f1).toList != a1.toList) = true := bne_iff_ne.mpr c11
       by_cases c13 : (l0_2.length : Int) = 0
       ·rw [if_pos c13] at H
        exact absurd H (by simp)
       ·rw [if_neg c13] at H
        have c13b0 : ((l0_2.length : Int) == 0) = false := beq_eq_false_iff_ne.mpr c13
        have c13b1 : ((l0_2.length : Int) != 0) = true := bne_iff_ne.mpr c13
        have c13b2 : ¬ (l0_2 = []) := fun h_ => c13 (by rw [h_]; rfl)
        have H' := am H
        clear H
        have hcz14_0 := ce BK168 0
        have hcz14_1 := ce BK168 1
        have hcz14_2 := ce BK168 2
        have hfz14_0 := fz BK168 0
        have hfz14_1 := fz BK168 1
        have hfz14_2 := fz BK168 2
        have p170 : 0 ≤ (x6_1 : Int) := of_decide_eq_true (by first | (with_reducible assumption) | assumption)
        have q170 : x6_1 < (l0_2.length : Int) := of_decide_eq_true (by first | (with_reducible assumption) | assumption)
        obtain ⟨ad170, e170, hx170_0, hx170_1, hx170_2⟩ := at_T60 HR0_2.out x6_1 p170 q170
        (try rw [← Nbq9.out] at hx170_0)
        cases e170
        replace hx170_0 := (HB.out.cell (World.block_lt_of_cell? w _ hx170_0)).trans hx170_0
        replace hx170_1 := (HB.out.cell (World.block_lt_of_cell? w _ hx170_1)).trans hx170_1
        replace hx170_2 := (HB.out.cell (World.block_lt_of_cell? w _ hx170_2)).trans hx170_2
        replace p170 := eq_true p170
        replace q170 := eq_true q170
        have p171 : 0 ≤ (x6_1 : Int) := of_decide_eq_true (by first | (with_reducible assumption) | assumption)
        have q171 : x6_1 < (l0_2.length : Int) := of_decide_eq_true (by first | (with_reducible assumption) | assumption)
        obtain ⟨ad171, e171, hx171_0, hx171_1, hx171_2⟩ := at_T60 HR0_2.out x6_1 p171 q171
        (try rw [← Nbq9.out] at hx171_0)
        obtain rfl : ad170 = ad171 := (by injection e171)
        replace hx171_0 := (HB.out.cell (World.block_lt_of_cell? w _ hx171_0)).trans hx171_0
        replace hx171_1 := (HB.out.cell (World.block_lt_of_cell? w _ hx171_1)).trans hx171_1
        replace hx171_2 := (HB.out.cell (World.block_lt_of_cell? w _ hx171_2)).trans hx171_2
        replace p171 := eq_true p171
        replace q171 := eq_true q171
        go_wp2
        repeat (go_quiet (fail); try go_wp2)
        go_roundg k1
        case measure => have := HK1.out; omega
        case rel => exact ⟨(Int.tmod (wrap64 (x6_1 + 1)) (l0_2.length : Int)), (by first | rfl | (simp; done) | (simp [*]; done)), H', ⟨by have := HK1.out; omega⟩, ⟨pk BK168.out⟩, ⟨pb HB⟩⟩
     ·replace c10 := Bool.eq_false_iff.mpr c10
      subst c10
      have H1 : (some (x6_1, false)) = some (r1, r2) := by rw [if_neg (show ¬ (false = true) by decide)] at H; exact H
      clear H
      have H := H1
      clear H1
      simp only [Option.some.injEq, Prod.mk.injEq] at H
      obtain ⟨rfl, rfl⟩ := H
      have hcz15_0 := ce BK168 0
      have hcz15_1 := ce BK168 1
      have hcz15_2 := ce BK168 2
      have hfz15_0 := fz BK168 0
      have hfz15_1 := fz BK168 1
      have hfz15_2 := fz BK168 2
      have p170 : 0 ≤ (x6_1 : Int) := of_decide_eq_true (by first | (with_reducible assumption) | assumption)
      have q170 : x6_1 < (l0_2.length : Int) := of_decide_eq_true (by first | (with_reducible assumption) | assumption)
      obtain ⟨ad170, e170, hx170_0, hx170_1, hx170_2⟩ := at_T60 HR0_2.out x6_1 p170 q170
      (try rw [← Nbq9.out] at hx170_0)
      cases e170
      replace hx170_0 := (HB.out.cell (World.block_lt_of_cell? w _ hx170_0)).trans hx170_0
      replace hx170_1 := (HB.out.cell (World.block_lt_of_cell? w _ hx170_1)).trans hx170_1
      replace hx170_2 := (HB.out.cell (World.block_lt_of_cell? w _ hx170_2)).trans hx170_2
      replace p170 := eq_true p170
      replace q170 := eq_true q170
      have p173 : 0 ≤ (x6_1 : Int) := of_decide_eq_true (by first | (with_reducible assumption) | assumption)
      have q173 : x6_1 < (l0_2.length : Int) := of_decide_eq_true (by first | (with_reducible assumption) | assumption)
      obtain ⟨ad173, e173, hx173_0, hx173_1, hx173_2⟩ := at_T60 HR0_2.out x6_1 p173 q173
      (try rw [← Nbq9.out] at hx173_0)
      obtain rfl : ad170 = ad173 := (by injection e173)
      replace hx173_0 := (HB.out.cell (World.block_lt_of_cell? w _ hx173_0)).trans hx173_0
      replace hx173_1 := (HB.out.cell (World.block_lt_of_cell? w _ hx173_1)).trans hx173_1
      replace hx173_2 := (HB.out.cell (World.block_lt_of_cell? w _ hx173_2)).trans hx173_2
      replace p173 := eq_true p173
      replace q173 := eq_true q173
      go_wp2
      repeat (go_quiet (fail); try go_wp2)
      go_ret2
      exact ⟨by first | rfl | (simp [errW_none, errW_some] <;> rfl) | (simp [*, errW_none, errW_some] <;> rfl), pb HB⟩
    ·rw [if_neg c8] at H
     exact absurd H (by simp)
   ·rw [if_neg c7] at H
    exact absurd H (by simp)
def index_many.l0 : Nat → Int → List (S60) → Int → Int → Option (Int)
 | 0, _, _, _, _ => none
 | k + 1, x3, x7, x8, x9 => if x9 < x8 then (if 0 ≤ x9 then (if x9 < (x7.length : Int) then (if (rd_T60 x7 x9).f0 = true then (index_many.l0 k (wrap64 (x3 + 1)) x7 x8 (wrap64 (x9 + 1))) else (index_many.l0 k x3 x7 x8 (wrap64 (x9 + 1)))) else (none)) else (none)) else (some x3)
def index_many.f (k : Nat) (a0_0 : Int) (a0_1 : Int) (l0_2 : List (S60)) : Option (Int) := index_many.l0 k 0 l0_2 (l0_2.length : Int) 0
theorem index_many.mono_l : ∀ k, (∀ y0 y1 y2 y3, LeO (index_many.l0 k y0 y1 y2 y3) (index_many.l0 (k + 1) y0 y1 y2 y3))
 | 0 => fun _ _ _ _ r h => by simp [index_many.l0] at h
 | k + 1 => by
  have ih0 := index_many.mono_l k
  ·intro y0 y1 y2 y3
   unfold index_many.l0
   repeat' first
   | (with_reducible exact ih0 _ _ _ _)
   | (with_reducible exact LeO.refl _)
   | (with_reducible exact LeO.none _)
   | (with_reducible refine LeO.ite ?_ ?_)
   | (with_reducible refine LeO.bind ?_ (fun _ => ?_))
theorem index_many.mono : ∀ a0 a1 a2 k, LeO (index_many.f k a0 a1 a2) (index_many.f (k + 1) a0 a1 a2) := by
 intro a0 a1 a2 k
 have ih0 := index_many.mono_l k
 unfold index_many.f
 repeat' first
   | (with_reducible exact ih0 _ _ _ _)
   | (with_reducible exact LeO.refl _)
   | (with_reducible exact LeO.none _)
   | (with_reducible refine LeO.ite ?_ ?_)
   | (with_reducible refine LeO.bind ?_ (fun _ => ?_))
set_option maxHeartbeats 8000000 in
set_option maxRecDepth 100000 in
theorem index_many.calls (k : Nat) (a0_0 : Int) (a0_1 : Int) (A0_2 : Option Addr) (c0_2 : Nat) (l0_2 : List (S60)) (r : Int) (w : World) (hr0_2 : Kd.C k60 w A0_2 l0_2.length l0_2) (hc0_2 : l0_2.length ≤ c0_2) (h : index_many.f k a0_0 a0_1 l0_2 = some r) :
  Calls Try.prog 26 #[.agg #[.int .u64 a0_0, .int .u64 a0_1, .slice A0_2 l0_2.length c0_2]] w fun e w' => e = .returned (.int .i64 r) ∧ Below w.heap.size w w' := by
 have hu27 := Try.underlying27
 have hu60 := Try.underlying60
 have HR0_2 := am hr0_2
 have HC0_2 := am hc0_2
 clear hr0_2 hc0_2
 have HB := am (Below.refl w.heap.size w)
 have H : (index_many.l0 k 0 l0_2 (l0_2.length : Int) 0) = some r := h
 clear h
 have H' := am H
 clear H
 go_enter Try.func26, Try.ntmps26
 go_wp2_with (first | ((with_reducible refine gate_dst (N := 1) rfl ?_); refine be 1 #[.int .u64 a0_0, .int .u64 a0_1, .slice A0_2 l0_2.length c0_2] 27 ?_; intro gb174 hg w2 hbox hb; have n0_ := am (below_step (pb HB) hb); have n1_ := am (hbox); have n2_ := am ((pg hg HB : w.heap.size ≤ gb174)); have n3_ := am ((pg hg HB : w.heap.size ≤ gb174)); clear HB; have HB := n0_; have BK174 := n1_; have GW174 := n2_; have GE174 := n3_; clear n0_ n1_ n2_ n3_; clear hb hbox hg; have hcz3_0 := ce BK174 0; have hcz3_1 := ce BK174 1; have hcz3_2 := ce BK174 2; have hfz3_0 := fz BK174 0; have hfz3_1 := fz BK174 1; have hfz3_2 := fz BK174 2))
 go_loopg [3, 9] k (fun kq v3 v9 w' => ∃ (x3_1 : Int) (x9_1 : Int), v3 = .int .i64 x3_1 ∧ v9 = .int .i64 x9_1 ∧ Aside0 (index_many.l0 kq x3_1 l0_2 (l0_2.length : Int) x9_1 = some r) ∧ Aside0 (kq ≤ k) ∧ Aside0 (w'.heap[gb174]? = some (.cells #[.int .u64 a0_0, .int .u64 a0_1, (.slice A0_2 l0_2.length c0_2)] 27 (0, 0))) ∧ Aside0 (Below w.heap.size w w'))
 case atStart => exact ⟨(0), (0), (by first | rfl | (simp; done) | (simp [*]; done)), (by first | rfl | (simp; done) | (simp [*]; done)), H', ⟨Nat.le_refl _⟩, ⟨pk BK174.out⟩, ⟨pb HB⟩⟩
 case round =>
  clear H'
  try clear c2
  try clear p2
  try clear hcz3_0 hcz3_1 hcz3_2 hfz3_0 hfz3_1 hfz3_2
  obtain ⟨x3_1, x9_1, rfl, rfl, HA, HK1, BK174, HB⟩ := hrel
  cases gk with
  | zero => exact absurd HA.out (by simp [index_many.l0])
  | succ k1 =>
   have H := HA.out
   clear HA
   simp only [index_many.l0] at H
   by_cases c4 : x9_1 < (l0_2.length : Int)
   ·rw [if_pos c4] at H
    have c4b0 : decide (x9_1 < (l0_2.length : Int)) = true := decide_eq_true c4
    clear c4
    by_cases c5 : 0 ≤ x9_1
    ·rw [if_pos c5] at H
     have c5b0 : decide (0 ≤ x9_1) = true := decide_eq_true c5
     clear c5
     by_cases c6 : x9_1 < (l0_2.length : Int)
     ·rw [if_pos c6] at H
      have c6b0 : decide (x9_1 < (l0_2.length : Int)) = true := decide_eq_true c6
      clear c6
      obtain ⟨bq7, hbq7⟩ : ∃ b_ : Bool, b_ = ((rd_T60 l0_2 x9_1).f0) := ⟨_, rfl⟩
      replace H : (if bq7 = true then (index_many.l0 k1 (wrap64 (x3_1 + 1)) l0_2 (l0_2.length : Int) (wrap64 (x9_1 + 1))) else (index_many.l0 k1 x3_1 l0_2 (l0_2.length : Int) (wrap64 (x9_1 + 1)))) = some r := by rw [← hbq7] at H; exact H
      have Nbq7 := am hbq7
      clear hbq7
      by_cases c8 : bq7 = true
      ·subst c8
       have H1 : (index_many.l0 k1 (wrap64 (x3_1 + 1)) l0_2 (l0_2.length : Int) (wrap64 (x9_1 + 1))) = some r := by rw [if_pos rfl] at H; exact H
       clear H
       have H := H1
       clear H1
       have H' := am H
       clear H
       have p175 : 0 ≤ (x9_1 : Int) := of_decide_eq_true (by first | (with_reducible assumption) | assumption)
       have q175 : x9_1 < (l0_2.length : Int) := of_decide_eq_true (by first | (with_reducible assumption) | assumption)
       obtain ⟨ad175, e175, hx175_0, hx175_1, hx175_2⟩ := at_T60 HR0_2.out x9_1 p175 q175
       (try rw [← Nbq7.out] at hx175_0)
       cases e175
       replace hx175_0 := (HB.out.cell (World.block_lt_of_cell? w _ hx175_0)).trans hx175_0
       replace hx175_1 := (HB.out.cell (World.block_lt_of_cell? w _ hx175_1)).trans hx175_1
       replace hx175_2 := (HB.out.cell (World.block_lt_of_cell? w _ hx175_2)).trans hx175_2
       replace p175 := eq_true p175
       replace q175 := eq_true q175
       go_wp2_with (first | ((with_reducible refine gate_dst (N := 5) rfl ?_); refine be 5 #[.bool false, .string (⟨#[]⟩ : ByteArray), .int .i64 0] 60 ?_; intro gb176 hg w9 hbox hb; have n0_ := am (blk_below (pk BK174.out) hb); have n1_ := am (below_step (pb HB) hb); have n2_ := am (hbox); have n3_ := am ((pg hg HB : w.heap.size ≤ gb176)); have n4_ := am ((pg hg HB : w.heap.size ≤ gb176)); have n5_ := am ((pl hg (pk BK174.out) : gb174 ≠ gb176)); have n6_ := am ((pl' hg (pk BK174.out) : gb176 ≠ gb174)); clear BK174; clear HB; have BK174 := n0_; have HB := n1_; have BK176 := n2_; have GW176 := n3_; have GE176 := n4_; have NB174_176 := n5_; have NB176_174 := n6_; clear n0_ n1_ n2_ n3_ n4_ n5_ n6_; clear hb hbox hg; have hnb10 := NB176_174.out; have hnc10 := NB174_176.out; have hcz11_0 := ce BK176 0; have hcz11_1 := ce BK176 1; have hcz11_2 := ce BK176 2; have hfz11_0 := fz BK176 0; have hfz11_1 := fz BK176 1; have hfz11_2 := fz BK176 2))
       go_roundg k1
       case measure => have := HK1.out; omega
       case rel => exact ⟨(wrap64 (x3_1 + 1)), (wrap64 (x9_1 + 1)), (by first | rfl | (simp; done) | (simp [*]; done)), (by first | rfl | (simp; done) | (simp [*]; done)), H', ⟨by have := HK1.out; omega⟩, ⟨by refine pk ?_; refine blk_far ?_ NB174_176.out _; refine pk ?_; refine blk_far ?_ NB174_176.out _; refine pk ?_; refine blk_far ?_ NB174_176.out _; refine pk ?_; exact BK174.out⟩, ⟨pb HB⟩⟩
      ·replace c8 := Bool.eq_false_iff.mpr c8
       subst c8
       have H1 : (index_many.l0 k1 x3_1 l0_2 (l0_2.length : Int) (wrap64 (x9_1 + 1))) = some r := by rw [if_neg (show ¬ (false = true) by decide)] at H; exact H
       clear H
       have H := H1
       clear H1
       have H' := am H
       clear H
       have p175 : 0 ≤ (x9_1 : Int) := of_decide_eq_true (by first | (with_reducible assumption) | assumption)
       have q175 : x9_1 < (l0_2.length : Int) := of_decide_eq_true (by first | (with_reducible assumption) | assumption)
       obtain ⟨ad175, e175, hx175_0, hx175_1, hx175_2⟩ := at_T60 HR0_2.out x9_1 p175 q175
       (try rw [← Nbq7.out] at hx175_0)
       cases e175
       replace hx175_0 := (HB.out.cell (World.block_lt_of_cell? w _ hx175_0)).trans hx175_0
       replace hx175_1 := (HB.out.cell (World.block_lt_of_cell? w _ hx175_1)).trans hx175_1
       replace hx175_2 := (HB.out.cell (World.block_lt_of_cell? w _ hx175_2)).trans hx175_2
       replace p175 := eq_true p175
       replace q175 := eq_true q175
       go_wp2_with (first | ((with_reducible refine gate_dst (N := 5) rfl ?_); refine be 5 #[.bool false, .string (⟨#[]⟩ : ByteArray), .int .i64 0] 60 ?_; intro gb176 hg w12 hbox hb; have n0_ := am (blk_below (pk BK174.out) hb); have n1_ := am (below_step (pb HB) hb); have n2_ := am (hbox); have n3_ := am ((pg hg HB : w.heap.size ≤ gb176)); have n4_ := am ((pg hg HB : w.heap.size ≤ gb176)); have n5_ := am ((pl hg (pk BK174.out) : gb174 ≠ gb176)); have n6_ := am ((pl' hg (pk BK174.out) : gb176 ≠ gb174)); clear BK174; clear HB; have BK174 := n0_; have HB := n1_; have BK176 := n2_; have GW176 := n3_; have GE176 := n4_; have NB174_176 := n5_; have NB176_174 := n6_; clear n0_ n1_ n2_ n3_ n4_ n5_ n6_; clear hb hbox hg; have hnb13 := NB176_174.out; have hnc13 := NB174_176.out; have hcz14_0 := ce BK176 0; have hcz14_1 := ce BK176 1; have hcz14_2 := ce BK176 2; have hfz14_0 := fz BK176 0; have hfz14_1 := fz BK176 1; have hfz14_2 := fz BK176 2))
       go_roundg k1
       case measure => have := HK1.out; omega
       case rel => exact ⟨(x3_1), (wrap64 (x9_1 + 1)), (by first | rfl | (simp; done) | (simp [*]; done)), (by first | rfl | (simp; done) | (simp [*]; done)), H', ⟨by have := HK1.out; omega⟩, ⟨by refine pk ?_; refine blk_far ?_ NB174_176.out _; refine pk ?_; refine blk_far ?_ NB174_176.out _; refine pk ?_; refine blk_far ?_ NB174_176.out _; refine pk ?_; exact BK174.out⟩, ⟨pb HB⟩⟩
     ·rw [if_neg c6] at H
      exact absurd H (by simp)
    ·rw [if_neg c5] at H
     exact absurd H (by simp)
   ·rw [if_neg c4] at H
    have c4b0 : decide (x9_1 < (l0_2.length : Int)) = false := decide_eq_false c4
    clear c4
    obtain rfl := Option.some.inj H
    go_wp2
    go_ret
    exact ⟨by first | rfl | (simp [errW_none, errW_some] <;> rfl) | (simp [*, errW_none, errW_some] <;> rfl), pb HB⟩

def bits_OnesCount64.f (a0 : Int) : Option (Int) := some (Go.bits .and .i64 (wrap64 (IntKind.u64.wrap ((IntKind.u64.wrap ((IntKind.u64.wrap ((Go.bits .and .u64 (IntKind.u64.wrap (((IntKind.u64.wrap ((Go.bits .and .u64 ((IntKind.u64.wrap ((Go.bits .and .u64 (a0 / 2) 6148914691236517205) + (Go.bits .and .u64 a0 6148914691236517205))) / 4) 3689348814741910323) + (Go.bits .and .u64 (IntKind.u64.wrap ((Go.bits .and .u64 (a0 / 2) 6148914691236517205) + (Go.bits .and .u64 a0 6148914691236517205))) 3689348814741910323))) / 16) + (IntKind.u64.wrap ((Go.bits .and .u64 ((IntKind.u64.wrap ((Go.bits .and .u64 (a0 / 2) 6148914691236517205) + (Go.bits .and .u64 a0 6148914691236517205))) / 4) 3689348814741910323) + (Go.bits .and .u64 (IntKind.u64.wrap ((Go.bits .and .u64 (a0 / 2) 6148914691236517205) + (Go.bits .and .u64 a0 6148914691236517205))) 3689348814741910323))))) 1085102592571150095) + ((Go.bits .and .u64 (IntKind.u64.wrap (((IntKind.u64.wrap ((Go.bits .and .u64 ((IntKind.u64.wrap ((Go.bits .and .u64 (a0 / 2) 6148914691236517205) + (Go.bits .and .u64 a0 6148914691236517205))) / 4) 3689348814741910323) + (Go.bits .and .u64 (IntKind.u64.wrap ((Go.bits .and .u64 (a0 / 2) 6148914691236517205) + (Go.bits .and .u64 a0 6148914691236517205))) 3689348814741910323))) / 16) + (IntKind.u64.wrap ((Go.bits .and .u64 ((IntKind.u64.wrap ((Go.bits .and .u64 (a0 / 2) 6148914691236517205) + (Go.bits .and .u64 a0 6148914691236517205))) / 4) 3689348814741910323) + (Go.bits .and .u64 (IntKind.u64.wrap ((Go.bits .and .u64 (a0 / 2) 6148914691236517205) + (Go.bits .and .u64 a0 6148914691236517205))) 3689348814741910323))))) 1085102592571150095) / 256))) + ((IntKind.u64.wrap ((Go.bits .and .u64 (IntKind.u64.wrap (((IntKind.u64.wrap ((Go.bits .and .u64 ((IntKind.u64.wrap ((Go.bits .and .u64 (a0 / 2) 6148914691236517205) + (Go.bits .and .u64 a0 6148914691236517205))) / 4) 3689348814741910323) + (Go.bits .and .u64 (IntKind.u64.wrap ((Go.bits .and .u64 (a0 / 2) 6148914691236517205) + (Go.bits .and .u64 a0 6148914691236517205))) 3689348814741910323))) / 16) + (IntKind.u64.wrap ((Go.bits .and .u64 ((IntKind.u64.wrap ((Go.bits .and .u64 (a0 / 2) 6148914691236517205) + (Go.bits .and .u64 a0 6148914691236517205))) / 4) 3689348814741910323) + (Go.bits .and .u64 (IntKind.u64.wrap ((Go.bits .and .u64 (a0 / 2) 6148914691236517205) + (Go.bits .and .u64 a0 6148914691236517205))) 3689348814741910323))))) 1085102592571150095) + ((Go.bits .and .u64 (IntKind.u64.wrap (((IntKind.u64.wrap ((Go.bits .and .u64 ((IntKind.u64.wrap ((Go.bits .and .u64 (a0 / 2) 6148914691236517205) + (Go.bits .and .u64 a0 6148914691236517205))) / 4) 3689348814741910323) + (Go.bits .and .u64 (IntKind.u64.wrap ((Go.bits .and .u64 (a0 / 2) 6148914691236517205) + (Go.bits .and .u64 a0 6148914691236517205))) 3689348814741910323))) / 16) + (IntKind.u64.wrap ((Go.bits .and .u64 ((IntKind.u64.wrap ((Go.bits .and .u64 (a0 / 2) 6148914691236517205) + (Go.bits .and .u64 a0 6148914691236517205))) / 4) 3689348814741910323) + (Go.bits .and .u64 (IntKind.u64.wrap ((Go.bits .and .u64 (a0 / 2) 6148914691236517205) + (Go.bits .and .u64 a0 6148914691236517205))) 3689348814741910323))))) 1085102592571150095) / 256))) / 65536))) + ((IntKind.u64.wrap ((IntKind.u64.wrap ((Go.bits .and .u64 (IntKind.u64.wrap (((IntKind.u64.wrap ((Go.bits .and .u64 ((IntKind.u64.wrap ((Go.bits .and .u64 (a0 / 2) 6148914691236517205) + (Go.bits .and .u64 a0 6148914691236517205))) / 4) 3689348814741910323) + (Go.bits .and .u64 (IntKind.u64.wrap ((Go.bits .and .u64 (a0 / 2) 6148914691236517205) + (Go.bits .and .u64 a0 6148914691236517205))) 3689348814741910323))) / 16) + (IntKind.u64.wrap ((Go.bits .and .u64 ((IntKind.u64.wrap ((Go.bits .and .u64 (a0 / 2) 6148914691236517205) + (Go.bits .and .u64 a0 6148914691236517205))) / 4) 3689348814741910323) + (Go.bits .and .u64 (IntKind.u64.wrap ((Go.bits .and .u64 (a0 / 2) 6148914691236517205) + (Go.bits .and .u64 a0 6148914691236517205))) 3689348814741910323))))) 1085102592571150095) + ((Go.bits .and .u64 (IntKind.u64.wrap (((IntKind.u64.wrap ((Go.bits .and .u64 ((IntKind.u64.wrap ((Go.bits .and .u64 (a0 / 2) 6148914691236517205) + (Go.bits .and .u64 a0 6148914691236517205))) / 4) 3689348814741910323) + (Go.bits .and .u64 (IntKind.u64.wrap ((Go.bits .and .u64 (a0 / 2) 6148914691236517205) + (Go.bits .and .u64 a0 6148914691236517205))) 3689348814741910323))) / 16) + (IntKind.u64.wrap ((Go.bits .and .u64 ((IntKind.u64.wrap ((Go.bits .and .u64 (a0 / 2) 6148914691236517205) + (Go.bits .and .u64 a0 6148914691236517205))) / 4) 3689348814741910323) + (Go.bits .and .u64 (IntKind.u64.wrap ((Go.bits .and .u64 (a0 / 2) 6148914691236517205) + (Go.bits .and .u64 a0 6148914691236517205))) 3689348814741910323))))) 1085102592571150095) / 256))) + ((IntKind.u64.wrap ((Go.bits .and .u64 (IntKind.u64.wrap (((IntKind.u64.wrap ((Go.bits .and .u64 ((IntKind.u64.wrap ((Go.bits .and .u64 (a0 / 2) 6148914691236517205) + (Go.bits .and .u64 a0 6148914691236517205))) / 4) 3689348814741910323) + (Go.bits .and .u64 (IntKind.u64.wrap ((Go.bits .and .u64 (a0 / 2) 6148914691236517205) + (Go.bits .and .u64 a0 6148914691236517205))) 3689348814741910323))) / 16) + (IntKind.u64.wrap ((Go.bits .and .u64 ((IntKind.u64.wrap ((Go.bits .and .u64 (a0 / 2) 6148914691236517205) + (Go.bits .and .u64 a0 6148914691236517205))) / 4) 3689348814741910323) + (Go.bits .and .u64 (IntKind.u64.wrap ((Go.bits .and .u64 (a0 / 2) 6148914691236517205) + (Go.bits .and .u64 a0 6148914691236517205))) 3689348814741910323))))) 1085102592571150095) + ((Go.bits .and .u64 (IntKind.u64.wrap (((IntKind.u64.wrap ((Go.bits .and .u64 ((IntKind.u64.wrap ((Go.bits .and .u64 (a0 / 2) 6148914691236517205) + (Go.bits .and .u64 a0 6148914691236517205))) / 4) 3689348814741910323) + (Go.bits .and .u64 (IntKind.u64.wrap ((Go.bits .and .u64 (a0 / 2) 6148914691236517205) + (Go.bits .and .u64 a0 6148914691236517205))) 3689348814741910323))) / 16) + (IntKind.u64.wrap ((Go.bits .and .u64 ((IntKind.u64.wrap ((Go.bits .and .u64 (a0 / 2) 6148914691236517205) + (Go.bits .and .u64 a0 6148914691236517205))) / 4) 3689348814741910323) + (Go.bits .and .u64 (IntKind.u64.wrap ((Go.bits .and .u64 (a0 / 2) 6148914691236517205) + (Go.bits .and .u64 a0 6148914691236517205))) 3689348814741910323))))) 1085102592571150095) / 256))) / 65536))) / 4294967296)))) 127)
set_option maxHeartbeats 8000000 in
set_option maxRecDepth 100000 in
theorem bits_OnesCount64.calls (a0 : Int) (r : Int) (w : World) (h : bits_OnesCount64.f a0 = some r) :
  Calls Try.prog 39 #[.int .u64 a0] w fun e w' => e = .returned (.int .i64 r) ∧ Drawn0 w w' := by
 have H : (some (Go.bits .and .i64 (wrap64 (IntKind.u64.wrap ((IntKind.u64.wrap ((IntKind.u64.wrap ((Go.bits .and .u64 (IntKind.u64.wrap (((IntKind.u64.wrap ((Go.bits .and .u64 ((IntKind.u64.wrap ((Go.bits .and .u64 (a0 / 2) 6148914691236517205) + (Go.bits .and .u64 a0 6148914691236517205))) / 4) 3689348814741910323) + (Go.bits .and .u64 (IntKind.u64.wrap ((Go.bits .and .u64 (a0 / 2) 6148914691236517205) + (Go.bits .and .u64 a0 6148914691236517205))) 3689348814741910323))) / 16) + (IntKind.u64.wrap ((Go.bits .and .u64 ((IntKind.u64.wrap ((Go.bits .and .u64 (a0 / 2) 6148914691236517205) + (Go.bits .and .u64 a0 6148914691236517205))) / 4) 3689348814741910323) + (Go.bits .and .u64 (IntKind.u64.wrap ((Go.bits .and .u64 (a0 / 2) 6148914691236517205) + (Go.bits .and .u64 a0 6148914691236517205))) 3689348814741910323))))) 1085102592571150095) + ((Go.bits .and .u64 (IntKind.u64.wrap (((IntKind.u64.wrap ((Go.bits .and .u64 ((IntKind.u64.wrap ((Go.bits .and .u64 (a0 / 2) 6148914691236517205) + (Go.bits .and .u64 a0 6148914691236517205))) / 4) 3689348814741910323) + (Go.bits .and .u64 (IntKind.u64.wrap ((Go.bits .and .u64 (a0 / 2) 6148914691236517205) + (Go.bits .and .u64 a0 6148914691236517205))) 3689348814741910323))) / 16) + (IntKind.u64.wrap ((Go.bits .and .u64 ((IntKind.u64.wrap ((Go.bits .and .u64 (a0 / 2) 6148914691236517205) + (Go.bits .and .u64 a0 6148914691236517205))) / 4) 3689348814741910323) + (Go.bits .and .u64 (IntKind.u64.wrap ((Go.bits .and .u64 (a0 / 2) 6148914691236517205) + (Go.bits .and .u64 a0 6148914691236517205))) 3689348814741910323))))) 1085102592571150095) / 256))) + ((IntKind.u64.wrap ((Go.bits .and .u64 (IntKind.u64.wrap (((IntKind.u64.wrap ((Go.bits .and .u64 ((IntKind.u64.wrap ((Go.bits .and .u64 (a0 / 2) 6148914691236517205) + (Go.bits .and .u64 a0 6148914691236517205))) / 4) 3689348814741910323) + (Go.bits .and .u64 (IntKind.u64.wrap ((Go.bits .and .u64 (a0 / 2) 6148914691236517205) + (Go.bits .and .u64 a0 6148914691236517205))) 3689348814741910323))) / 16) + (IntKind.u64.wrap ((Go.bits .and .u64 ((IntKind.u64.wrap ((Go.bits .and .u64 (a0 / 2) 6148914691236517205) + (Go.bits .and .u64 a0 6148914691236517205))) / 4) 3689348814741910323) + (Go.bits .and .u64 (IntKind.u64.wrap ((Go.bits .and .u64 (a0 / 2) 6148914691236517205) + (Go.bits .and .u64 a0 6148914691236517205))) 3689348814741910323))))) 1085102592571150095) + ((Go.bits .and .u64 (IntKind.u64.wrap (((IntKind.u64.wrap ((Go.bits .and .u64 ((IntKind.u64.wrap ((Go.bits .and .u64 (a0 / 2) 6148914691236517205) + (Go.bits .and .u64 a0 6148914691236517205))) / 4) 3689348814741910323) + (Go.bits .and .u64 (IntKind.u64.wrap ((Go.bits .and .u64 (a0 / 2) 6148914691236517205) + (Go.bits .and .u64 a0 6148914691236517205))) 3689348814741910323))) / 16) + (IntKind.u64.wrap ((Go.bits .and .u64 ((IntKind.u64.wrap ((Go.bits .and .u64 (a0 / 2) 6148914691236517205) + (Go.bits .and .u64 a0 6148914691236517205))) / 4) 3689348814741910323) + (Go.bits .and .u64 (IntKind.u64.wrap ((Go.bits .and .u64 (a0 / 2) 6148914691236517205) + (Go.bits .and .u64 a0 6148914691236517205))) 3689348814741910323))))) 1085102592571150095) / 256))) / 65536))) + ((IntKind.u64.wrap ((IntKind.u64.wrap ((Go.bits .and .u64 (IntKind.u64.wrap (((IntKind.u64.wrap ((Go.bits .and .u64 ((IntKind.u64.wrap ((Go.bits .and .u64 (a0 / 2) 6148914691236517205) + (Go.bits .and .u64 a0 6148914691236517205))) / 4) 3689348814741910323) + (Go.bits .and .u64 (IntKind.u64.wrap ((Go.bits .and .u64 (a0 / 2) 6148914691236517205) + (Go.bits .and .u64 a0 6148914691236517205))) 3689348814741910323))) / 16) + (IntKind.u64.wrap ((Go.bits .and .u64 ((IntKind.u64.wrap ((Go.bits .and .u64 (a0 / 2) 6148914691236517205) + (Go.bits .and .u64 a0 6148914691236517205))) / 4) 3689348814741910323) + (Go.bits .and .u64 (IntKind.u64.wrap ((Go.bits .and .u64 (a0 / 2) 6148914691236517205) + (Go.bits .and .u64 a0 6148914691236517205))) 3689348814741910323))))) 1085102592571150095) + ((Go.bits .and .u64 (IntKind.u64.wrap (((IntKind.u64.wrap ((Go.bits .and .u64 ((IntKind.u64.wrap ((Go.bits .and .u64 (a0 / 2) 6148914691236517205) + (Go.bits .and .u64 a0 6148914691236517205))) / 4) 3689348814741910323) + (Go.bits .and .u64 (IntKind.u64.wrap ((Go.bits .and .u64 (a0 / 2) 6148914691236517205) + (Go.bits .and .u64 a0 6148914691236517205))) 3689348814741910323))) / 16) + (IntKind.u64.wrap ((Go.bits .and .u64 ((IntKind.u64.wrap ((Go.bits .and .u64 (a0 / 2) 6148914691236517205) + (Go.bits .and .u64 a0 6148914691236517205))) / 4) 3689348814741910323) + (Go.bits .and .u64 (IntKind.u64.wrap ((Go.bits .and .u64 (a0 / 2) 6148914691236517205) + (Go.bits .and .u64 a0 6148914691236517205))) 3689348814741910323))))) 1085102592571150095) / 256))) + ((IntKind.u64.wrap ((Go.bits .and .u64 (IntKind.u64.wrap (((IntKind.u64.wrap ((Go.bits .and .u64 ((IntKind.u64.wrap ((Go.bits .and .u64 (a0 / 2) 6148914691236517205) + (Go.bits .and .u64 a0 6148914691236517205))) / 4) 3689348814741910323) + (Go.bits .and .u64 (IntKind.u64.wrap ((Go.bits .and .u64 (a0 / 2) 6148914691236517205) + (Go.bits .and .u64 a0 6148914691236517205))) 3689348814741910323))) / 16) + (IntKind.u64.wrap ((Go.bits .and .u64 ((IntKind.u64.wrap ((Go.bits .and .u64 (a0 / 2) 6148914691236517205) + (Go.bits .and .u64 a0 6148914691236517205))) / 4) 3689348814741910323) + (Go.bits .and .u64 (IntKind.u64.wrap ((Go.bits .and .u64 (a0 / 2) 6148914691236517205) + (Go.bits .and .u64 a0 6148914691236517205))) 3689348814741910323))))) 1085102592571150095) + ((Go.bits .and .u64 (IntKind.u64.wrap (((IntKind.u64.wrap ((Go.bits .and .u64 ((IntKind.u64.wrap ((Go.bits .and .u64 (a0 / 2) 6148914691236517205) + (Go.bits .and .u64 a0 6148914691236517205))) / 4) 3689348814741910323) + (Go.bits .and .u64 (IntKind.u64.wrap ((Go.bits .and .u64 (a0 / 2) 6148914691236517205) + (Go.bits .and .u64 a0 6148914691236517205))) 3689348814741910323))) / 16) + (IntKind.u64.wrap ((Go.bits .and .u64 ((IntKind.u64.wrap ((Go.bits .and .u64 (a0 / 2) 6148914691236517205) + (Go.bits .and .u64 a0 6148914691236517205))) / 4) 3689348814741910323) + (Go.bits .and .u64 (IntKind.u64.wrap ((Go.bits .and .u64 (a0 / 2) 6148914691236517205) + (Go.bits .and .u64 a0 6148914691236517205))) 3689348814741910323))))) 1085102592571150095) / 256))) / 65536))) / 4294967296)))) 127)) = some r := h
 clear h
 obtain rfl := Option.some.inj H
 go_enter Try.func39, Try.ntmps39
 go_wp2
 go_ret
 exact ⟨by first | rfl | (simp; done) | (simp [*]; done), by repeat (first | exact Drawn0.refl _ | apply Drawn0.step)⟩

def bits_OnesCount.f (a0 : Int) : Option (Int) := (bits_OnesCount64.f a0).bind fun t177 => (some t177)
set_option maxHeartbeats 8000000 in
set_option maxRecDepth 100000 in
theorem bits_OnesCount.calls (a0 : Int) (r : Int) (w : World) (h : bits_OnesCount.f a0 = some r) :
  Calls Try.prog 30 #[.int .u64 a0] w fun e w' => e = .returned (.int .i64 r) ∧ Drawn0 w w' := by
 have H : ((bits_OnesCount64.f a0).bind fun t177 => (some t177)) = some r := h
 clear h
 replace H := Option.bind_eq_some_iff.mp H
 obtain ⟨t177, A20, H⟩ := H
 replace H : (some t177) = some r := H
 have A2 := am A20
 clear A20
 obtain rfl := Option.some.inj H
 go_enter Try.func30, Try.ntmps30
 go_wp2_with (first | ((with_reducible refine gate_callee (f := 39) rfl ?_); refine gl (some 7) Try.func39 #[.int .u64 a0] ?_; (with_reducible refine (bits_OnesCount64.calls a0 t177 _ A2.out).mono ?_); rintro e w' ⟨rfl, ⟨nd, rfl⟩⟩; refine ⟨_, rfl, ?_⟩))
 go_ret
 exact ⟨by first | rfl | (simp; done) | (simp [*]; done), by repeat (first | exact Drawn0.refl _ | apply Drawn0.step)⟩


theorem enter_at {P : Program} {f : FuncId} {fn : Func} {c : Code} (hf : P.funcs[f]? = some fn) (hn : (fn.name == "runtime.NumGoroutine") = false) (hb : fn.body = some c) (args : Array Value) (w : World) : (callFunc f args).run P w = .ok (.enter f args) w := by
 have h1 : fn.name ≠ "runtime.NumGoroutine" := by simpa using hn
 simp [callFunc, hf, h1, hb, mark]
def idxF {α : Type} (p : α → Option Bool) : List α → Int → Option Int
 | [], _ => some (-1)
 | x :: l, i => (p x).bind fun b => if b = true then some i else idxF p l (i + 1)
theorem idxF_at {α : Type} (p : α → Option Bool) (l : List α) (d : α) (i : Int) (h0 : 0 ≤ i) (h1 : i < l.length) (r : Int) (h : idxF p (l.drop i.toNat) i = some r) :
  ∃ b, p (l.getD i.toNat d) = some b ∧ ((b = true ∧ r = i) ∨ (b = false ∧ idxF p (l.drop (i + 1).toNat) (i + 1) = some r)) := by
 have hn : i.toNat < l.length := by omega
 rw [List.drop_eq_getElem_cons hn, idxF, Option.bind_eq_some_iff] at h
 obtain ⟨b, hb, h⟩ := h
 refine ⟨b, by rw [List.getD_eq_getElem?_getD, List.getElem?_eq_getElem hn]; exact hb, ?_⟩
 cases b with
 | true => exact .inl ⟨rfl, by simpa using h.symm⟩
 | false => exact .inr ⟨rfl, by rw [show (i + 1).toNat = i.toNat + 1 from by omega]; simpa using h⟩
theorem idxF_end {α : Type} (p : α → Option Bool) (l : List α) (i : Int) (h1 : ¬ i < l.length) (r : Int) (h : idxF p (l.drop i.toNat) i = some r) : r = -1 := by
 rw [List.drop_of_length_le (by omega), idxF] at h
 exact (Option.some.inj h).symm
def anyF {α : Type} (p : α → Option Bool) (l : List α) : Option Bool := (idxF p l 0).bind fun i => some (decide (i ≥ 0))
theorem idxF_leo {α : Type} {p q : α → Option Bool} (h : ∀ x, LeO (p x) (q x)) : ∀ (l : List α) (i : Int), LeO (idxF p l i) (idxF q l i)
 | [], _ => LeO.refl _
 | x :: l, i => LeO.bind (h x) (fun b => LeO.ite (LeO.refl _) (idxF_leo h l (i + 1)))
theorem anyF_leo {α : Type} {p q : α → Option Bool} (h : ∀ x, LeO (p x) (q x)) (l : List α) : LeO (anyF p l) (anyF q l) := LeO.bind (idxF_leo h l 0) (fun _ => LeO.refl _)
set_option maxHeartbeats 1000000 in
theorem IndexFunc_calls (g : Nat) (lb : Array Value) (eg : ∀ args w, (callFunc g args).run Try.prog w = .ok (.enter g args) w) (p : S60 → Option Bool) (A0 : Option Addr) (c0 : Nat) (l0 : List S60) (r : Int) (w : World)
  (hr0 : Kd.C k60 w A0 l0.length l0) (hc0 : l0.length ≤ c0)
  (hp : ∀ (W : World) (x : S60) (b : Bool), Below w.heap.size w W → p x = some b → Calls Try.prog g (#[.agg #[.bool x.f0, .string x.f1, .int .i64 x.f2]] ++ lb) W fun e w' => e = .returned (.bool b) ∧ Below W.heap.size W w')
  (h : idxF p l0 0 = some r) :
  Calls Try.prog 40 #[.slice A0 l0.length c0, .func (.func g) #[] lb] w fun e w' => e = .returned (.int .i64 r) ∧ Below w.heap.size w w' := by
 have hn : l0.length ≤ 9223372036854775807 := hr0.2.1
 have HH := am h
 clear h
 have HP := am hp
 clear hp
 have HR := am hr0
 clear hr0
 go_enter Try.func40, Try.ntmps40
 go_wp2
 go_loopg [5, 8] l0.length (fun gg _ s8 wr => ∃ x8 : Int, s8 = .int .i64 x8 ∧ Aside0 (0 ≤ x8 ∧ x8 ≤ l0.length ∧ l0.length - x8.toNat ≤ gg) ∧ Aside0 (Below w.heap.size w wr) ∧ Aside0 (idxF p (l0.drop x8.toNat) x8 = some r))
 case atStart => exact ⟨0, rfl, ⟨by omega⟩, ⟨Below.refl _ w⟩, HH⟩
 case round =>
  clear HH
  obtain ⟨x8, rfl, hk, BW, HH⟩ := hrel
  obtain ⟨h0, h1, hg⟩ := hk.out
  clear hk
  by_cases hlt : x8 < (l0.length : Int)
  ·obtain ⟨b, hb, hbr⟩ := idxF_at p l0 z60 x8 h0 hlt r HH.out
   clear HH
   obtain ⟨ad, e, hx0, hx1, hx2⟩ := at_T60 (Kd.C_below HR.out BW.out) x8 h0 hlt
   cases e
   have HC := am (HP.out wr (rd_T60 l0 x8) b BW.out hb)
   have HB := am hb
   clear hb
   have HBR := am hbr
   clear hbr
   have d0 : decide (0 ≤ x8) = true := decide_eq_true h0
   have d1 : decide (x8 < (l0.length : Int)) = true := decide_eq_true hlt
   have w8 : wrap64 (x8 + 1) = x8 + 1 := by unfold wrap64; omega
   cases b with
   | true =>
    go_wp2_with fail
    refine HC.out.mono ?_
    rintro e w' ⟨rfl, hb'⟩
    go_wp2
    go_ret
    exact ⟨by rw [show r = x8 from by rcases HBR.out with h | h <;> first | exact h.2 | exact absurd h.1 (by decide)]; rfl, below_then BW.out BW.out.size hb'⟩
   | false =>
    go_wp2_with fail
    refine HC.out.mono ?_
    rintro e w' ⟨rfl, hb'⟩
    go_wp2
    go_roundg (l0.length - (x8 + 1).toNat)
    case measure => omega
    case rel => exact ⟨x8 + 1, by simp [w8], ⟨by omega⟩, ⟨below_then BW.out BW.out.size hb'⟩, ⟨by rcases HBR.out with h | h <;> first | exact absurd h.1 (by decide) | exact h.2⟩⟩
  ·have d1 : decide (x8 < (l0.length : Int)) = false := decide_eq_false hlt
   have hr := idxF_end p l0 x8 hlt r HH.out
   clear HH
   subst hr
   go_wp2
   go_ret
   exact ⟨rfl, BW.out⟩
theorem ContainsFunc_calls (g : Nat) (lb : Array Value) (eg : ∀ args w, (callFunc g args).run Try.prog w = .ok (.enter g args) w) (p : S60 → Option Bool) (A0 : Option Addr) (c0 : Nat) (l0 : List S60) (r : Bool) (w : World)
  (hr0 : Kd.C k60 w A0 l0.length l0) (hc0 : l0.length ≤ c0)
  (hp : ∀ (W : World) (x : S60) (b : Bool), Below w.heap.size w W → p x = some b → Calls Try.prog g (#[.agg #[.bool x.f0, .string x.f1, .int .i64 x.f2]] ++ lb) W fun e w' => e = .returned (.bool b) ∧ Below W.heap.size W w')
  (h : anyF p l0 = some r) :
  Calls Try.prog 31 #[.slice A0 l0.length c0, .func (.func g) #[] lb] w fun e w' => e = .returned (.bool r) ∧ Below w.heap.size w w' := by
 obtain ⟨i, hi, hr⟩ := Option.bind_eq_some_iff.1 h
 clear h
 have hR := am (Option.some.inj hr)
 clear hr
 have HC := am (IndexFunc_calls g lb eg p A0 c0 l0 i w hr0 hc0 hp hi)
 clear hp hi hr0
 go_enter Try.func31, Try.ntmps31
 go_wp2_with fail
 refine HC.out.mono ?_
 rintro e w' ⟨rfl, hb⟩
 go_wp2
 go_ret
 exact ⟨by rw [← hR.out]; rfl, hb⟩
def notSound (t : S60) : Option Bool := (index_sound.f t.f0 t.f1 t.f2).bind fun b => some (!b)
theorem closureRight (x : S60) (b : Bool) (W : World) (h : notSound x = some b) :
  Calls Try.prog 32 #[.agg #[.bool x.f0, .string x.f1, .int .i64 x.f2]] W fun e w' => e = .returned (.bool b) ∧ Below W.heap.size W w' := by
 obtain ⟨s, hs, hb⟩ := Option.bind_eq_some_iff.1 h
 clear h
 obtain rfl := Option.some.inj hb
 clear hb
 have HS := am hs
 clear hs
 go_enter Try.func32, Try.ntmps32
 go_wp2_with fail
 refine (index_sound.calls x.f0 x.f1 x.f2 s _ HS.out).mono ?_
 rintro e w' ⟨rfl, hb⟩
 go_wp2
 go_ret
 exact ⟨rfl, below_then (below_alloc (Below.refl _ _) _) (below_alloc (Below.refl _ _) _).size hb⟩
def index_Slot_31.f (l0 : List S60) : Option Bool := anyF notSound l0
theorem index_Slot_31.calls (A0 : Option Addr) (c0 : Nat) (l0 : List S60) (r : Bool) (w : World) (hr0 : Kd.C k60 w A0 l0.length l0) (hc0 : l0.length ≤ c0) (h : index_Slot_31.f l0 = some r) :
  Calls Try.prog 31 #[.slice A0 l0.length c0, .func (.func 32) #[] #[]] w fun e w' => e = .returned (.bool r) ∧ Below w.heap.size w w' := by
 have eg : ∀ args w, (callFunc 32 args).run Try.prog w = .ok (.enter 32 args) w := enter_at Try.func32 (by kernel_rfl) rfl
 exact ContainsFunc_calls 32 #[] eg notSound A0 c0 l0 r w hr0 hc0 (fun W x b _ hh => closureRight x b W hh) h

end Go.Proofs.Ytojpmjkphgjmgaa.H
