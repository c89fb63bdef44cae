-- laid by wip/hyb.py (the kit's printer with turns of ours)
import Derived.Test.YtibdfimhhagjdaaHx0
namespace Go.Proofs.Ytibdfimhhagjdaa.H
open Go.RowKit Go.Proofs.YtibdfimhhagjdaaW.PrintWords Go.Proofs.YtibdfimhhagjdaaW.PrintLast Go.Proofs.YtibdfimhhagjdaaW.PrintMore
attribute [local go_sem] max2_int min2_int max_two min_two max_three min_three max_four min_four   -- for this text's walks alone
set_option linter.unusedVariables false
set_option linter.unusedSimpArgs false

theorem eqi_cons29 {P : Program} {d e c i : Nat} {is : List Nat} {xs ys : Array Value} {a b : Value} {r s : Bool} {w : World} (ha : (part e xs (i * c)).run P w = .ok a w) (hb : (part e ys (i * c)).run P w = .ok b w) (he : (Op.equalIn d e a b).run P w = .ok r w) (hr : (Op.eqItems d e c xs ys is).run P w = .ok s w) : (Op.eqItems d e c xs ys (i :: is)).run P w = .ok (r && s) w := by
  rw [Op.eqItems]
  simp only [Sem.run_bind, ha, hb, he, Result.andThen_ok]
  cases r
  · simp
  · simpa using hr
theorem eqi_last29 {P : Program} {d e c i : Nat} {xs ys : Array Value} {a b : Value} {r : Bool} {w : World} (ha : (part e xs (i * c)).run P w = .ok a w) (hb : (part e ys (i * c)).run P w = .ok b w) (he : (Op.equalIn d e a b).run P w = .ok r w) : (Op.eqItems d e c xs ys [i]).run P w = .ok r w := by
  have h := eqi_cons29 (is := []) ha hb he (s := true) (by simp [Op.eqItems])
  rwa [Bool.and_true] at h
theorem eqA29 (d : Nat) (w : World) (x0 y0 : Int) (x1 y1 : Int) (x2 y2 : Int) (x3 y3 : Int) :
    (Op.equalIn (d + 2) 29 (.agg #[.int .u64 x0, .int .u64 x1, .int .u64 x2, .int .u64 x3]) (.agg #[.int .u64 y0, .int .u64 y1, .int .u64 y2, .int .u64 y3])).run Try.prog w = .ok (x0 == y0 && (x1 == y1 && (x2 == y2 && (x3 == y3)))) w := by
  obtain ⟨i, hi⟩ : ∃ i, Try.prog.info? 22 = some i := Option.isSome_iff_exists.1 (by kernel_rfl)
  have hc : Try.prog.cellsOf 22 = 1 := by kernel_rfl
  have hl : List.range 4 = [0, 1, 2, 3] := rfl
  rw [run_equalIn_array w (d + 1) _ _ Try.underlying29 hi, hc, hl]
  refine eqi_cons29 (by go_simp; rfl) (by go_simp; rfl) (by go_simp) ?_
  refine eqi_cons29 (by go_simp; rfl) (by go_simp; rfl) (by go_simp) ?_
  refine eqi_cons29 (by go_simp; rfl) (by go_simp; rfl) (by go_simp) ?_
  exact eqi_last29 (by go_simp; rfl) (by go_simp; rfl) (by go_simp)
end Go.Proofs.Ytibdfimhhagjdaa.H
