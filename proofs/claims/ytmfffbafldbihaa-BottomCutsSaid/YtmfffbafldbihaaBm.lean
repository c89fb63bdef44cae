/- Chapter 14 in plain Lean: entries laid in one behind the other. -/
import Derived.Test.YtmfffbafldbihaaBo3
set_option linter.unusedVariables false
set_option linter.unusedSimpArgs false
namespace Go.Proofs.Ytmfffbafldbihaa.Bo
open Go.RowKit Go.Proofs.Ytmfffbafldbihaa.H Go.Proofs.YtmfffbafldbihaaW.PrintWords Go.Proofs.YtmfffbafldbihaaW.PrintMore

def mdl : List S62 → List S62 → Option (List S62)
  | out, [] => some out
  | out, x :: es => (ins x out).bind fun m => mdl m es
theorem rl_ins {x : S62} {l m : List S62} (hr : Rl l) (hx : Rng x.f2) (hi : ins x l = some m) : Rl m := by
  intro z hz
  rcases ins_mem hi z hz with h1 | h1 | ⟨y, h1, h2⟩
  · exact hr z h1
  · rw [h1]; exact hx
  · exact un_rng (hr y h1) hx h2
theorem mdl_append : ∀ (es fs out : List S62), mdl out (es ++ fs) = (mdl out es).bind fun m => mdl m fs
  | [], _, _ => rfl
  | x :: es, fs, out => by
    rw [List.cons_append, mdl, mdl]
    cases ins x out with
    | none => rfl
    | some m => exact mdl_append es fs m
theorem mdl_srt : ∀ (l out : List S62), Srt (out ++ l) → mdl out l = some (out ++ l)
  | [], out, _ => by rw [mdl, List.append_nil]
  | x :: l, out, h => by
    have h2 : ∀ z ∈ out, cp z x < 0 := fun z hz => (List.pairwise_append.1 h).2.2 z hz x (List.mem_cons_self ..)
    rw [mdl, ins_all h2, Option.bind_some, mdl_srt l (out ++ [x]) (by rw [List.append_assoc]; exact h), List.append_assoc]
    rfl
end Go.Proofs.Ytmfffbafldbihaa.Bo
