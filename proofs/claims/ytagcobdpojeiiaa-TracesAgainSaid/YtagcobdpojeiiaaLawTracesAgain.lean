/- The law TracesAgain holds: for every input that its row lets in, the call returns true and leaves its arguments as they read. -/
import Derived.Test.YtagcobdpojeiiaaRows
import Derived.Test.YtagcobdpojeiiaaHx20
import Derived.Test.YtagcobdpojeiiaaHo
import Derived.Test.YtagcobdpojeiiaaHqTracesAgain
import Derived.Test.YtagcobdpojeiiaaPureTracesAgain
import Derived.WalkKit
import Derived.ProofKit
import Derived.OpenShut
import Derived.ShutString
import Derived.ChangeOld
import Derived.Below
import Derived.SizedLaws
import Derived.Carry
namespace Go.Proofs.Ytagcobdpojeiiaa.tracesAgain
open Go.ChangeShapes Go.WideShapes Go.ChangeAt Go.RowKit Go.Proofs.Ytagcobdpojeiiaa.H Go.Proofs.YtagcobdpojeiiaaW.Opn
open Go.ChangeMaps (open_string shut_string)
set_option linter.unusedVariables false
theorem own : ownKnob Try.prog.godebug = none := by kernel_rfl
theorem laidOut : laidOutB Try.prog = true := by kernel_rfl
set_option maxRecDepth 100000 in
theorem lifted (os : Os) (started : os.Started) (H : Type) (enc : TypeId × Value → H) :
    ReturnsInHanded {} Try.checked os 7 .any (Rows.tracesAgainSpec.pre6 enc Try.prog Try.f7 Rows.tracesAgainRow.domain false) (Rows.tracesAgainSpec.post enc Try.prog Try.f7 false true false false) := by
  refine returnsInHanded_of_change_sized (C := Try.checked) own started (by kernel_rfl) Try.func7
    (ChangeSpec.witness6 (enc := enc) (C := Try.checked) false ⟨#[], #[.agg #[(.int .u64 0), (.int .u64 0), (.int .i64 0), (.int .i64 0), (.int .i64 0), (.int .i64 0), (.slice none 0 0)]], []⟩ 8 (by kernel_rfl) (by kernel_rfl) (by kernel_rfl) (by kernel_rfl)) ?_
  intro W base args ds gs before hval0 hW hcnd hsz0 _
  have hsz : (DataW.weightsEach Try.prog (Try.f7.params.toList ++ Rows.tracesAgainSpec.plain.varTypes Try.prog) (ds ++ gs)).all (· ≤ reachBytes) = true := hsz0
  have hval : ∀ (j : Nat) t v, Try.f7.params[j]? = some t → args[j]? = some v → Value.okWide Try.prog W .any base t v := hval0
  have hW' := hW
  obtain ⟨p, q, hA0, hV, rfl, hfz, hnd⟩ := hW
  have hA : DataW.TrodAll enc Try.prog W 0 (fun _ => true) true Try.f7.params.toList args.toList ds p := hA0
  rw [Try.params7] at hA hval hsz
  obtain ⟨v0, vs0, d0, ds0, p0, q0, hargs, rfl, rfl, h0, r0⟩ := trodAll_cons hA
  obtain ⟨rfl, rfl, rfl⟩ := trodAll_nil r0
  obtain rfl : args = #[v0] := by cases args; simp_all
  obtain ⟨rfl, rfl⟩ := trodVars_none hV
  have k0 := h0
  have lt0 : ∀ x ∈ p0, x.block < W.heap.size := by obtain ⟨m, hm⟩ := k0; exact DataW.trod_lt m _ _ _ hm
  obtain ⟨x0, cs0, rfl, K0, ok0⟩ := arg_agg o27 (agg_struct Try.underlying27 (hval 0 27 v0 rfl rfl)) h0 (fun n hn => by have := List.all_eq_true.1 hsz n (DataW.weights_mem_each (j := 0) (t := 27) rfl rfl n hn); simpa using this)
  obtain ⟨A0_6, c0_6, E0, hc0_6, hr0_6⟩ := k27_open K0
  obtain rfl := toList_eq E0
  clear hA0 hval0 hsz0 hsz
  obtain ⟨k, h⟩ := Pure.TracesAgain x0 ok0
  refine (l22_TracesAgain.calls k x0.f0.f0 x0.f0.f1 x0.f1 x0.f2 x0.f3 x0.f4 (fun _ => True) A0_6 c0_6 x0.f5 true ⟨rfl⟩ W (slice_V o63.heap (fun _ => trivial) hc0_6 hr0_6) h).mono fun e W' hh => ?_
  obtain ⟨he, bel0⟩ := hh
  have bel : Below W.heap.size W W' := bel0
  subst he
  exact ⟨_, rfl, _, _, _, [], _, [], hW', trodAll_mk1 (shut_bool Try.underlying4 _), (trodAll_cons_mk (Below.trod laidOut (by kernel_rfl) (of_decide_eq_true (by kernel_rfl)) k0 bel lt0) trodAll_mk0), rfl, bel.frame _, fun h => by cases h⟩
theorem over : Rows.tracesAgainRow.holds Try.pinned (OpenSpec.ofChange Rows.tracesAgainSpec) :=
  OpenClaim.holds_of_wide 7 Try.f7 rfl rfl rfl rfl rfl rfl rfl ⟨rfl, rfl, rfl, rfl, rfl⟩ rfl rfl rfl rfl rfl (by kernel_rfl) Try.func7 (by kernel_rfl)
    (of_decide_eq_true (by kernel_rfl)) (by unfold Func.isWrapper; first | (rw [if_pos (by decide +kernel)]; kernel_rfl) | (rw [if_neg (by decide +kernel)]; exact ⟨rfl, rfl⟩))
    (fun os started H enc _ => lifted os started H enc)
theorem proved : Rows.TracesAgainSaid := over
#print axioms proved
end Go.Proofs.Ytagcobdpojeiiaa.tracesAgain
namespace Go.Proofs.Ytagcobdpojeiiaa
/-- The row, under a short name, for the claim. -/
theorem tracesAgain_holds : Rows.TracesAgainSaid := tracesAgain.proved
end Go.Proofs.Ytagcobdpojeiiaa
