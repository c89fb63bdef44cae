import Derived.Test.YtmfffbafldbihaaHx0
import Derived.Test.YtmfffbafldbihaaHx7
namespace Go.Proofs.Ytmfffbafldbihaa.H
open Go.RowKit Go.Proofs.YtmfffbafldbihaaW.PrintWords Go.Proofs.YtmfffbafldbihaaW.PrintLast Go.Proofs.YtmfffbafldbihaaW.PrintMore Go.Proofs.YtmfffbafldbihaaW.Sq
attribute [local go_sem] max2_int min2_int max_two min_two max_three min_three max_four min_four
set_option linter.unusedVariables false
set_option linter.unusedSimpArgs false

def sip_Sum.f (k : Nat) (a0_0 : Int) (a0_1 : Int) (a1 : ByteArray) : Option (Int) := (sip_New.f a0_0 a0_1).bind fun bt157 => ((sip_Write.f k bt157.1 bt157.2.1 bt157.2.2.1 bt157.2.2.2.1 bt157.2.2.2.2.1 bt157.2.2.2.2.2 a1).bind fun bt163 => ((sip_Done.f k bt163.1 bt163.2.1 bt163.2.2.1 bt163.2.2.2.1 bt163.2.2.2.2.1 bt163.2.2.2.2.2).bind fun t169 => (some t169)))
theorem sip_Sum.mono : ∀ a0 a1 a2 k, LeO (sip_Sum.f k a0 a1 a2) (sip_Sum.f (k + 1) a0 a1 a2) := by
 intro a0 a1 a2 k
 unfold sip_Sum.f
 repeat' first
   | (with_reducible exact sip_Done.mono _ _ _ _ _ _ _)
   | (with_reducible exact sip_Write.mono _ _ _ _ _ _ _ _)
   | (with_reducible exact LeO.refl _)
   | (with_reducible exact LeO.none _)
   | (with_reducible refine LeO.ite ?_ ?_)
   | (with_reducible refine LeO.bind ?_ (fun _ => ?_))
set_option maxHeartbeats 8000000 in
set_option maxRecDepth 100000 in
theorem sip_Sum.calls (k : Nat) (ac : Int) (ad : Int) (a1 : ByteArray) (r : Int) (w : World) (h : sip_Sum.f k ac ad a1 = some r) :
  Calls Try.prog 30 #[.agg #[.int .u64 ac, .int .u64 ad], .string a1] w fun e w' => e = .returned (.int .u64 r) ∧ Below w.heap.size w w' := by
 have hu24 := Try.underlying24;have HB := am (Below.refl w.heap.size w);have H : ((sip_New.f ac ad).bind fun bt157 => ((sip_Write.f k bt157.1 bt157.2.1 bt157.2.2.1 bt157.2.2.2.1 bt157.2.2.2.2.1 bt157.2.2.2.2.2 a1).bind fun bt163 => ((sip_Done.f k bt163.1 bt163.2.1 bt163.2.2.1 bt163.2.2.2.1 bt163.2.2.2.2.1 bt163.2.2.2.2.2).bind fun ae => (some ae)))) = some r := h;clear h;replace H := Option.bind_eq_some_iff.mp H;obtain ⟨⟨af, ag, ah, ai, aj, ak⟩, av, H⟩ := H
 try dsimp only at H
 have A3 := am av;clear av;replace H := Option.bind_eq_some_iff.mp H;obtain ⟨⟨an, ao, ap, aq, ar, au⟩, aw, H⟩ := H
 try dsimp only at H
 have A4 := am aw;clear aw;replace H := Option.bind_eq_some_iff.mp H;obtain ⟨ae, ax, H⟩ := H
 try dsimp only at H
 have A5 := am ax;clear ax;obtain rfl := Option.some.inj H
 go_enter Try.func30, Try.ntmps30
 go_wp2_with (first | ((with_reducible refine gate_dst (N := 2) rfl ?_); refine be 2 #[.int .u64 ac, .int .u64 ad] 24 ?_; intro aC hg w6 hbox hb; have aa := am (hbox); have aD := gq hg HB; have aE := gq hg HB; replace HB := lb HB hb; clear hb hbox hg; obtain ⟨ay, az, aA, aB⟩ := g2 aa) | ((with_reducible refine gate_callee (f := 42) rfl ?_); refine gl (some 6) Try.func42 #[.agg #[.int .u64 ac, .int .u64 ad]] ?_; (with_reducible refine (sip_New.calls ac ad af ag ah ai aj ak _ A3.out).mono ?_); rintro e w8 ⟨rfl, hb⟩; refine ⟨_, rfl, ?_⟩; replace aa := kb aa hb; replace HB := lb HB hb; (try clear hb); (try clear hb2); (try clear hk); (try clear hi)) | ((with_reducible refine gate_callee (f := 41) rfl ?_); refine gl (some 8) Try.func41 #[.agg #[.int .u64 af, .int .u64 ag, .int .u64 ah, .int .u64 ai, .string aj, .int .i64 ak], .string a1] ?_; (with_reducible refine (sip_Write.calls k af ag ah ai aj ak a1 an ao ap aq ar au _ A4.out).mono ?_); rintro e w9 ⟨rfl, hb⟩; refine ⟨_, rfl, ?_⟩; replace aa := kb aa hb; replace HB := lb HB hb; (try clear hb); (try clear hb2); (try clear hk); (try clear hi)) | ((with_reducible refine gate_callee (f := 40) rfl ?_); refine gl (some 9) Try.func40 #[.agg #[.int .u64 an, .int .u64 ao, .int .u64 ap, .int .u64 aq, .string ar, .int .i64 au]] ?_; (with_reducible refine (sip_Done.calls k an ao ap aq ar au ae _ A5.out).mono ?_); rintro e aF ⟨rfl, hb⟩; refine ⟨_, rfl, ?_⟩; replace aa := kb aa hb; replace HB := lb HB hb; (try clear hb); (try clear hb2); (try clear hk); (try clear hi)))
 go_ret
 exact ⟨by first | rfl | (simp [errW_none, errW_some] <;> rfl) | (simp [*, errW_none, errW_some] <;> rfl), pb HB⟩

end Go.Proofs.Ytmfffbafldbihaa.H
