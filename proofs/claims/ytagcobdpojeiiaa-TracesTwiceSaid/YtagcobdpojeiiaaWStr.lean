import Derived.Test.YtagcobdpojeiiaaWWords
set_option linter.unusedVariables false
namespace Go.Proofs.YtagcobdpojeiiaaW.Str
theorem bl_irrefl : ∀ l : List UInt8, Op.bytesLess l l = false
 | [] => by simp [Op.bytesLess]
 | a :: l => by simp [Op.bytesLess, bl_irrefl l]
theorem bl_total : ∀ a b : List UInt8, (Op.bytesLess a b || a == b) = !Op.bytesLess b a
 | [], [] => by simp [Op.bytesLess]
 | [], b :: y => by simp [Op.bytesLess]
 | a :: x, [] => by simp [Op.bytesLess]
 | a :: x, b :: y => by
  have ih := bl_total x y
  simp only [Op.bytesLess, List.cons_beq_cons]
  by_cases h1 : a < b
  ·have h2 : ¬ b < a := fun h => by rw [UInt8.lt_iff_toNat_lt] at h h1; omega
   have h3 : (b == a) = false := by rw [beq_eq_false_iff_ne]; rintro rfl; exact absurd h1 h2
   simp [h1, h2, h3]
  ·by_cases h2 : b < a
   ·have h3 : (a == b) = false := by rw [beq_eq_false_iff_ne]; rintro rfl; exact absurd h2 h1
    simp [h1, h2, h3]
   ·have h3 : a = b := by
     apply UInt8.toNat_inj.1
     rw [UInt8.lt_iff_toNat_lt] at h1 h2
     omega
    subst h3
    simp only [h1, decide_false, Bool.false_or, BEq.rfl, Bool.true_and]
    exact ih
theorem str_leq (t : TypeId) (a b : ByteArray) : binOp .leq t (.string a) (.string b) = pure (.bool (!(Op.bytesLess b.toList a.toList))) := by
 rw [← bl_total]
 simp [binOp, Op.stringOp]
theorem str_gtr (t : TypeId) (a b : ByteArray) : binOp .gtr t (.string a) (.string b) = pure (.bool (Op.bytesLess b.toList a.toList)) := by
 have h := bl_total a.toList b.toList
 rw [show Op.bytesLess b.toList a.toList = !(Op.bytesLess a.toList b.toList || a.toList == b.toList) from by rw [h]; simp]
 simp [binOp, Op.stringOp]
theorem str_geq (t : TypeId) (a b : ByteArray) : binOp .geq t (.string a) (.string b) = pure (.bool (!(Op.bytesLess a.toList b.toList))) := by simp [binOp, Op.stringOp]
attribute [go_sem] str_leq str_gtr str_geq
end Go.Proofs.YtagcobdpojeiiaaW.Str
