/- The law StrataMerges holds: for every input that its row lets in, the call returns true and leaves its arguments as they read. -/
import Derived.Test.YtpbiobbddgipkaaRows
import Derived.Test.YtpbiobbddgipkaaPureStrataMerges
import Derived.ProofKit
import Derived.ShutString
namespace Go.Proofs.Ytpbiobbddgipkaa.strataMerges
open Go.ChangeShapes Go.WideShapes Go.ChangeAt Go.RowKit Go.Proofs.Ytpbiobbddgipkaa.H Go.Proofs.YtpbiobbddgipkaaW.Opn
open Go.ChangeMaps (open_string shut_string)
set_option linter.unusedVariables false
theorem own : ownKnob Try.prog.godebug = none := by kernel_rfl
theorem laidOut : laidOutB Try.prog = true := by kernel_rfl
set_option maxRecDepth 100000 in
theorem lifted (os : Os) (started : os.Started) (H : Type) (enc : TypeId × Value → H) :
    ReturnsInHanded {} Try.checked os 6 .any (Rows.strataMergesSpec.pre6 enc Try.prog Try.f6 Rows.strataMergesRow.domain false) (Rows.strataMergesSpec.post enc Try.prog Try.f6 false true false false) := by
  refine returnsInHanded_of_change_sized (C := Try.checked) own started (by kernel_rfl) Try.func6
    (ChangeSpec.witness6 (enc := enc) (C := Try.checked) false ⟨#[], #[.agg #[(.int .u64 0), (.int .u64 0), (.int .i64 0), (.int .i64 0), (.slice none 0 0)], .agg #[(.int .u64 0), (.int .u64 0), (.int .i64 0), (.int .i64 0), (.slice none 0 0)]], []⟩ 8 (by kernel_rfl) (by kernel_rfl) (by kernel_rfl) (by kernel_rfl)) ?_
  intro W base args ds gs before hval0 hW hcnd hsz0 _
  have hsz : (DataW.weightsEach Try.prog (Try.f6.params.toList ++ Rows.strataMergesSpec.plain.varTypes Try.prog) (ds ++ gs)).all (· ≤ reachBytes) = true := hsz0
  have hval : ∀ (j : Nat) t v, Try.f6.params[j]? = some t → args[j]? = some v → Value.okWide Try.prog W .any base t v := hval0
  have hW' := hW
  obtain ⟨p, q, hA0, hV, rfl, hfz, hnd⟩ := hW
  have hA : DataW.TrodAll enc Try.prog W 0 (fun _ => true) true Try.f6.params.toList args.toList ds p := hA0
  rw [Try.params6] at hA hval hsz
  obtain ⟨v0, vs0, d0, ds0, p0, q0, hargs, rfl, rfl, h0, r0⟩ := trodAll_cons hA
  obtain ⟨v1, vs1, d1, ds1, p1, q1, rfl, rfl, rfl, h1, r1⟩ := trodAll_cons r0
  obtain ⟨rfl, rfl, rfl⟩ := trodAll_nil r1
  obtain rfl : args = #[v0, v1] := by cases args; simp_all
  obtain ⟨rfl, rfl⟩ := trodVars_none hV
  have k0 := h0
  have lt0 : ∀ x ∈ p0, x.block < W.heap.size := by obtain ⟨m, hm⟩ := k0; exact DataW.trod_lt m _ _ _ hm
  obtain ⟨x0, cs0, rfl, K0, ok0⟩ := arg_agg o28 (agg_struct Try.underlying28 (hval 0 28 v0 rfl rfl)) h0 (fun n hn => by have := List.all_eq_true.1 hsz n (DataW.weights_mem_each (j := 0) (t := 28) rfl rfl n hn); simpa using this)
  obtain ⟨A0_4, c0_4, E0, hc0_4, hr0_4⟩ := k28_open K0
  obtain rfl := toList_eq E0
  have k1 := h1
  have lt1 : ∀ x ∈ p1, x.block < W.heap.size := by obtain ⟨m, hm⟩ := k1; exact DataW.trod_lt m _ _ _ hm
  obtain ⟨x1, cs1, rfl, K1, ok1⟩ := arg_agg o28 (agg_struct Try.underlying28 (hval 1 28 v1 rfl rfl)) h1 (fun n hn => by have := List.all_eq_true.1 hsz n (DataW.weights_mem_each (j := 1) (t := 28) rfl rfl n hn); simpa using this)
  obtain ⟨A1_4, c1_4, E1, hc1_4, hr1_4⟩ := k28_open K1
  obtain rfl := toList_eq E1
  clear hA0 hval0 hsz0 hsz
  obtain ⟨k, h⟩ := Pure.StrataMerges x0 x1 ok0 ok1
  refine (l21_StrataMerges.calls k x0.f0.f0 x0.f0.f1 x0.f1 x0.f2 A0_4 c0_4 x0.f3 x1.f0.f0 x1.f0.f1 x1.f1 x1.f2 A1_4 c1_4 x1.f3 true ⟨rfl⟩ W hr0_4 hc0_4 hr1_4 hc1_4 h).mono fun e W' hh => ?_
  obtain ⟨he, bel0⟩ := hh
  have bel : Below W.heap.size W W' := bel0
  subst he
  exact ⟨_, rfl, _, _, _, [], _, [], hW', trodAll_mk1 (shut_bool Try.underlying4 _), (trodAll_cons_mk (Below.trod laidOut (by kernel_rfl) (of_decide_eq_true (by kernel_rfl)) k0 bel lt0) (trodAll_cons_mk (Below.trod laidOut (by kernel_rfl) (of_decide_eq_true (by kernel_rfl)) k1 bel lt1) trodAll_mk0)), rfl, bel.frame _, fun h => by cases h⟩
theorem over : Rows.strataMergesRow.holds Try.pinned (OpenSpec.ofChange Rows.strataMergesSpec) :=
  OpenClaim.holds_of_wide 6 Try.f6 rfl rfl rfl rfl rfl rfl rfl ⟨rfl, rfl, rfl, rfl, rfl⟩ rfl rfl rfl rfl rfl (by kernel_rfl) Try.func6 (by kernel_rfl)
    (of_decide_eq_true (by kernel_rfl)) (by unfold Func.isWrapper; first | (rw [if_pos (by decide +kernel)]; kernel_rfl) | (rw [if_neg (by decide +kernel)]; exact ⟨rfl, rfl⟩))
    (fun os started H enc _ => lifted os started H enc)
theorem proved : Rows.StrataMergesSaid := over
#print axioms proved
end Go.Proofs.Ytpbiobbddgipkaa.strataMerges
namespace Go.Proofs.Ytpbiobbddgipkaa
/-- The row, under a short name, for the claim. -/
theorem strataMerges_holds : Rows.StrataMergesSaid := strataMerges.proved
end Go.Proofs.Ytpbiobbddgipkaa
