import Derived.Test.YtmfffbafldbihaaWMore
set_option linter.unusedVariables false
namespace Go.Proofs.YtmfffbafldbihaaW.PrintMore
open Go.RowKit Go.Proofs.YtmfffbafldbihaaW.PrintWords
def sel3 {α : Type} (i : Int) (a b c : α) : α := if i = 0 then a else if i = 1 then b else c
theorem sel3_int (i : Int) (k : IntKind) (x y z : Int) : sel3 i (Value.int k x) (.int k y) (.int k z) = .int k (sel3 i x y z) := by
 unfold sel3; split
 ·rfl
 ·split <;> rfl
section
variable {W : World} {g t : Nat} {a0 a1 a2 a3 b0 b1 b2 b3 c0 c1 c2 c3 : Value} {i : Int}
theorem sc0 (h : W.heap[g]? = some (.cells #[a0, a1, a2, a3, b0, b1, b2, b3, c0, c1, c2, c3] t (0, 0))) (h0 : 0 ≤ i := by first | assumption | exact of_eq_true (by assumption) | exact of_decide_eq_true (by first | (with_reducible assumption) | assumption) | omega) (h3 : i < 3 := by first | assumption | exact of_eq_true (by assumption) | exact of_decide_eq_true (by first | (with_reducible assumption) | assumption) | omega) : W.cell? ⟨g, i.toNat * 4, none⟩ = some (sel3 i a0 b0 c0) := by
 rcases (show i = 0 ∨ i = 1 ∨ i = 2 by omega) with rfl | rfl | rfl
 ·exact (blk_cell h 0).trans rfl
 ·exact (blk_cell h 4).trans rfl
 ·exact (blk_cell h 8).trans rfl
theorem sc1 (h : W.heap[g]? = some (.cells #[a0, a1, a2, a3, b0, b1, b2, b3, c0, c1, c2, c3] t (0, 0))) (h0 : 0 ≤ i := by first | assumption | exact of_eq_true (by assumption) | exact of_decide_eq_true (by first | (with_reducible assumption) | assumption) | omega) (h3 : i < 3 := by first | assumption | exact of_eq_true (by assumption) | exact of_decide_eq_true (by first | (with_reducible assumption) | assumption) | omega) : W.cell? ⟨g, i.toNat * 4 + 1, none⟩ = some (sel3 i a1 b1 c1) := by
 rcases (show i = 0 ∨ i = 1 ∨ i = 2 by omega) with rfl | rfl | rfl
 ·exact (blk_cell h 1).trans rfl
 ·exact (blk_cell h 5).trans rfl
 ·exact (blk_cell h 9).trans rfl
theorem sc2 (h : W.heap[g]? = some (.cells #[a0, a1, a2, a3, b0, b1, b2, b3, c0, c1, c2, c3] t (0, 0))) (h0 : 0 ≤ i := by first | assumption | exact of_eq_true (by assumption) | exact of_decide_eq_true (by first | (with_reducible assumption) | assumption) | omega) (h3 : i < 3 := by first | assumption | exact of_eq_true (by assumption) | exact of_decide_eq_true (by first | (with_reducible assumption) | assumption) | omega) : W.cell? ⟨g, i.toNat * 4 + 2, none⟩ = some (sel3 i a2 b2 c2) := by
 rcases (show i = 0 ∨ i = 1 ∨ i = 2 by omega) with rfl | rfl | rfl
 ·exact (blk_cell h 2).trans rfl
 ·exact (blk_cell h 6).trans rfl
 ·exact (blk_cell h 10).trans rfl
theorem sc3 (h : W.heap[g]? = some (.cells #[a0, a1, a2, a3, b0, b1, b2, b3, c0, c1, c2, c3] t (0, 0))) (h0 : 0 ≤ i := by first | assumption | exact of_eq_true (by assumption) | exact of_decide_eq_true (by first | (with_reducible assumption) | assumption) | omega) (h3 : i < 3 := by first | assumption | exact of_eq_true (by assumption) | exact of_decide_eq_true (by first | (with_reducible assumption) | assumption) | omega) : W.cell? ⟨g, i.toNat * 4 + 3, none⟩ = some (sel3 i a3 b3 c3) := by
 rcases (show i = 0 ∨ i = 1 ∨ i = 2 by omega) with rfl | rfl | rfl
 ·exact (blk_cell h 3).trans rfl
 ·exact (blk_cell h 7).trans rfl
 ·exact (blk_cell h 11).trans rfl
end
section
variable {W : World} {g t : Nat} {k0 k1 k2 : IntKind} {x0 x1 x2 y0 y1 y2 z0 z1 z2 : Int} {a3 b3 c3 : Value} {i : Int}
theorem si0 (h : W.heap[g]? = some (.cells #[.int k0 x0, .int k1 x1, .int k2 x2, a3, .int k0 y0, .int k1 y1, .int k2 y2, b3, .int k0 z0, .int k1 z1, .int k2 z2, c3] t (0, 0))) (h0 : 0 ≤ i := by first | assumption | exact of_eq_true (by assumption) | exact of_decide_eq_true (by first | (with_reducible assumption) | assumption) | omega) (h3 : i < 3 := by first | assumption | exact of_eq_true (by assumption) | exact of_decide_eq_true (by first | (with_reducible assumption) | assumption) | omega) : W.cell? ⟨g, i.toNat * 4, none⟩ = some (.int k0 (sel3 i x0 y0 z0)) := (sc0 h h0 h3).trans (congrArg some (sel3_int _ _ _ _ _))
theorem si1 (h : W.heap[g]? = some (.cells #[.int k0 x0, .int k1 x1, .int k2 x2, a3, .int k0 y0, .int k1 y1, .int k2 y2, b3, .int k0 z0, .int k1 z1, .int k2 z2, c3] t (0, 0))) (h0 : 0 ≤ i := by first | assumption | exact of_eq_true (by assumption) | exact of_decide_eq_true (by first | (with_reducible assumption) | assumption) | omega) (h3 : i < 3 := by first | assumption | exact of_eq_true (by assumption) | exact of_decide_eq_true (by first | (with_reducible assumption) | assumption) | omega) : W.cell? ⟨g, i.toNat * 4 + 1, none⟩ = some (.int k1 (sel3 i x1 y1 z1)) := (sc1 h h0 h3).trans (congrArg some (sel3_int _ _ _ _ _))
theorem si2 (h : W.heap[g]? = some (.cells #[.int k0 x0, .int k1 x1, .int k2 x2, a3, .int k0 y0, .int k1 y1, .int k2 y2, b3, .int k0 z0, .int k1 z1, .int k2 z2, c3] t (0, 0))) (h0 : 0 ≤ i := by first | assumption | exact of_eq_true (by assumption) | exact of_decide_eq_true (by first | (with_reducible assumption) | assumption) | omega) (h3 : i < 3 := by first | assumption | exact of_eq_true (by assumption) | exact of_decide_eq_true (by first | (with_reducible assumption) | assumption) | omega) : W.cell? ⟨g, i.toNat * 4 + 2, none⟩ = some (.int k2 (sel3 i x2 y2 z2)) := (sc2 h h0 h3).trans (congrArg some (sel3_int _ _ _ _ _))
end
theorem V_sel {α : Type} {d : Kd α} {e : Nat} {W : World} {base : Nat} {ok : Nat → Prop} {i : Int} {u v w : Value} {l m n : List α} (h0 : Kd.V d e W base ok u l) (h1 : Kd.V d e W base ok v m) (h2 : Kd.V d e W base ok w n) : Kd.V d e W base ok (sel3 i u v w) (sel3 i l m n) := by
 unfold sel3; split
 ·exact h0
 ·split
  ·exact h1
  ·exact h2
end Go.Proofs.YtmfffbafldbihaaW.PrintMore
