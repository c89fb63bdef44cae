import Derived.Test.YtmfffbafldbihaaHx0
import Derived.Test.YtmfffbafldbihaaHx8
namespace Go.Proofs.Ytmfffbafldbihaa.H
open Go.RowKit Go.Proofs.YtmfffbafldbihaaW.PrintWords Go.Proofs.YtmfffbafldbihaaW.PrintLast Go.Proofs.YtmfffbafldbihaaW.PrintMore Go.Proofs.YtmfffbafldbihaaW.Sq
attribute [local go_sem] max2_int min2_int max_two min_two max_three min_three max_four min_four
set_option linter.unusedVariables false
set_option linter.unusedSimpArgs false

def sip_Sum.f (k : Nat) (a0_0 : Int) (a0_1 : Int) (a1 : ByteArray) : Option (Int) := (sip_New.f a0_0 a0_1).bind fun bt169 => ((sip_Write.f k bt169.1 bt169.2.1 bt169.2.2.1 bt169.2.2.2.1 bt169.2.2.2.2.1 bt169.2.2.2.2.2 a1).bind fun bt175 => ((sip_Done.f k bt175.1 bt175.2.1 bt175.2.2.1 bt175.2.2.2.1 bt175.2.2.2.2.1 bt175.2.2.2.2.2).bind fun t181 => (some t181)))
theorem sip_Sum.mono : ∀ a0 a1 a2 k, LeO (sip_Sum.f k a0 a1 a2) (sip_Sum.f (k + 1) a0 a1 a2) := by
 intro a0 a1 a2 k
 unfold sip_Sum.f
 repeat' first
   | (with_reducible exact sip_Done.mono _ _ _ _ _ _ _)
   | (with_reducible exact sip_Write.mono _ _ _ _ _ _ _ _)
   | (with_reducible exact LeO.refl _)
   | (with_reducible exact LeO.none _)
   | (with_reducible refine LeO.ite ?_ ?_)
   | (with_reducible refine LeO.bind ?_ (fun _ => ?_))
set_option maxHeartbeats 8000000 in
set_option maxRecDepth 100000 in
theorem sip_Sum.calls (k : Nat) (a0_0 : Int) (a0_1 : Int) (a1 : ByteArray) (r : Int) (w : World) (h : sip_Sum.f k a0_0 a0_1 a1 = some r) :
  Calls Try.prog 30 #[.agg #[.int .u64 a0_0, .int .u64 a0_1], .string a1] w fun e w' => e = .returned (.int .u64 r) ∧ Below w.heap.size w w' := by
 have hu24 := Try.underlying24;have HB := am (Below.refl w.heap.size w);have H : ((sip_New.f a0_0 a0_1).bind fun bt169 => ((sip_Write.f k bt169.1 bt169.2.1 bt169.2.2.1 bt169.2.2.2.1 bt169.2.2.2.2.1 bt169.2.2.2.2.2 a1).bind fun bt175 => ((sip_Done.f k bt175.1 bt175.2.1 bt175.2.2.1 bt175.2.2.2.1 bt175.2.2.2.2.1 bt175.2.2.2.2.2).bind fun t181 => (some t181)))) = some r := h;clear h;replace H := Option.bind_eq_some_iff.mp H;obtain ⟨⟨t169, t170, t171, t172, t173, t174⟩, A30, H⟩ := H
 try dsimp only at H
 have A3 := am A30;clear A30;replace H := Option.bind_eq_some_iff.mp H;obtain ⟨⟨t175, t176, t177, t178, t179, t180⟩, A40, H⟩ := H
 try dsimp only at H
 have A4 := am A40;clear A40;replace H := Option.bind_eq_some_iff.mp H;obtain ⟨t181, A50, H⟩ := H
 try dsimp only at H
 have A5 := am A50;clear A50;obtain rfl := Option.some.inj H
 go_enter Try.func30, Try.ntmps30
 go_wp2_with (first | ((with_reducible refine gate_dst (N := 2) rfl ?_); refine be 2 #[.int .u64 a0_0, .int .u64 a0_1] 24 ?_; intro gb168 hg w6 hbox hb; have BK168 := am (hbox); have GW168 := am ((pg hg HB : w.heap.size ≤ gb168)); have GE168 := am ((pg hg HB : w.heap.size ≤ gb168)); replace HB := am (below_step (pb HB) hb); clear hb hbox hg; obtain ⟨hcz7_0, hcz7_1, hfz7_0, hfz7_1⟩ := g2 BK168) | ((with_reducible refine gate_callee (f := 42) rfl ?_); refine gl (some 6) Try.func42 #[.agg #[.int .u64 a0_0, .int .u64 a0_1]] ?_; (with_reducible refine (sip_New.calls a0_0 a0_1 t169 t170 t171 t172 t173 t174 _ A3.out).mono ?_); rintro e w8 ⟨rfl, hb⟩; refine ⟨_, rfl, ?_⟩; replace BK168 := am (blk_below (pk BK168.out) hb); replace HB := am (below_step (pb HB) hb); (try clear hb); (try clear hb2); (try clear hk); (try clear hi)) | ((with_reducible refine gate_callee (f := 41) rfl ?_); refine gl (some 8) Try.func41 #[.agg #[.int .u64 t169, .int .u64 t170, .int .u64 t171, .int .u64 t172, .string t173, .int .i64 t174], .string a1] ?_; (with_reducible refine (sip_Write.calls k t169 t170 t171 t172 t173 t174 a1 t175 t176 t177 t178 t179 t180 _ A4.out).mono ?_); rintro e w9 ⟨rfl, hb⟩; refine ⟨_, rfl, ?_⟩; replace BK168 := am (blk_below (pk BK168.out) hb); replace HB := am (below_step (pb HB) hb); (try clear hb); (try clear hb2); (try clear hk); (try clear hi)) | ((with_reducible refine gate_callee (f := 40) rfl ?_); refine gl (some 9) Try.func40 #[.agg #[.int .u64 t175, .int .u64 t176, .int .u64 t177, .int .u64 t178, .string t179, .int .i64 t180]] ?_; (with_reducible refine (sip_Done.calls k t175 t176 t177 t178 t179 t180 t181 _ A5.out).mono ?_); rintro e w10 ⟨rfl, hb⟩; refine ⟨_, rfl, ?_⟩; replace BK168 := am (blk_below (pk BK168.out) hb); replace HB := am (below_step (pb HB) hb); (try clear hb); (try clear hb2); (try clear hk); (try clear hi)))
 go_ret
 exact ⟨by first | rfl | (simp [errW_none, errW_some] <;> rfl) | (simp [*, errW_none, errW_some] <;> rfl), pb HB⟩

end Go.Proofs.Ytmfffbafldbihaa.H
