import Derived.Test.YtpbiobbddgipkaaHx0
import Derived.Test.YtpbiobbddgipkaaHx4
import Derived.Test.YtpbiobbddgipkaaHx14
import Derived.Test.YtpbiobbddgipkaaHx18
import Derived.Test.YtpbiobbddgipkaaHx20
namespace Go.Proofs.Ytpbiobbddgipkaa.H
open Go.RowKit Go.Proofs.YtpbiobbddgipkaaW.PrintWords Go.Proofs.YtpbiobbddgipkaaW.PrintLast Go.Proofs.YtpbiobbddgipkaaW.PrintMore Go.Proofs.YtpbiobbddgipkaaW.Sq
attribute [local go_sem] max2_int min2_int max_two min_two max_three min_three max_four min_four
set_option linter.unusedVariables false
set_option linter.unusedSimpArgs false

mutual
def samphirelaw21_StrataLabels.j0 : Nat → List (S35) → Int → Int → Bool → Int → Int → Int → Int → Int → Int → List (S42) → Option (Bool)
 | 0, _, _, _, _, _, _, _, _, _, _, _ => none
 | k + 1, x2, x7, x9, x42, x390000, x390001, x399000, x399001, x399002, x399003, x399004 => if x42 = true then (if x9 = 0 then ((samphirelaw21_awake.f k).bind fun t399 => (some t399)) else (some false)) else (samphirelaw21_StrataLabels.l0 k x7 ([] : List ByteArray) x2 (x2.length : Int) 0 x390000 x390001 x399000 x399001 x399002 x399003 x399004)
def samphirelaw21_StrataLabels.l0 : Nat → Int → List ByteArray → List (S35) → Int → Int → Int → Int → Int → Int → Int → Int → List (S42) → Option (Bool)
 | 0, _, _, _, _, _, _, _, _, _, _, _, _ => none
 | k + 1, x7, x10, x48, x49, x50, x390000, x390001, x399000, x399001, x399002, x399003, x399004 => if x50 < x49 then (if 0 ≤ x50 then (if x50 < (x48.length : Int) then (if (((rd_T35 x48 x50).f0).size : Int) > 64 then (samphirelaw21_StrataLabels.j2 k x7 x10 x48 x49 x50 true x390000 x390001 x399000 x399001 x399002 x399003 x399004 ((rd_T35 x48 x50).f0) ((rd_T35 x48 x50).f1) ((rd_T35 x48 x50).f2) ((rd_T35 x48 x50).f3)) else (if (((rd_T35 x48 x50).f1).size : Int) > 64 then (samphirelaw21_StrataLabels.j2 k x7 x10 x48 x49 x50 true x390000 x390001 x399000 x399001 x399002 x399003 x399004 ((rd_T35 x48 x50).f0) ((rd_T35 x48 x50).f1) ((rd_T35 x48 x50).f2) ((rd_T35 x48 x50).f3)) else (samphirelaw21_StrataLabels.j2 k x7 x10 x48 x49 x50 (((rd_T35 x48 x50).f2) == 0) x390000 x390001 x399000 x399001 x399002 x399003 x399004 ((rd_T35 x48 x50).f0) ((rd_T35 x48 x50).f1) ((rd_T35 x48 x50).f2) ((rd_T35 x48 x50).f3)))) else (none)) else (none)) else (if (x399004.length : Int) = (mn x7 (x10.length : Int)) then (samphirelaw21_StrataLabels.l2 k x7 x10 x10 (x10.length : Int) 0 x390000 x390001 x399000 x399001 x399002 x399003 x399004) else (some false))
def samphirelaw21_StrataLabels.j2 : Nat → Int → List ByteArray → List (S35) → Int → Int → Bool → Int → Int → Int → Int → Int → Int → List (S42) → ByteArray → ByteArray → Int → Int → Option (Bool)
 | 0, _, _, _, _, _, _, _, _, _, _, _, _, _, _, _, _, _ => none
 | k + 1, x7, x10, x48, x49, x50, x68, x390000, x390001, x399000, x399001, x399002, x399003, x399004, x402000, x402001, x402002, x402003 => if x68 = true then ((samphirelaw21_awake.f k).bind fun t402 => (some t402)) else ((strata_Add.f k x399000 x399001 x399002 x399003 x399004 x402000 x402001 x402002).bind fun bt403 => (samphirelaw21_StrataLabels.l1 k x7 x10 false x48 x49 x50 x10 (x10.length : Int) 0 x390000 x390001 bt403.1 bt403.2.1 bt403.2.2.1 bt403.2.2.2.1 bt403.2.2.2.2.1 x402000 x402001 x402002 x402003))
def samphirelaw21_StrataLabels.l1 : Nat → Int → List ByteArray → Bool → List (S35) → Int → Int → List ByteArray → Int → Int → Int → Int → Int → Int → Int → Int → List (S42) → ByteArray → ByteArray → Int → Int → Option (Bool)
 | 0, _, _, _, _, _, _, _, _, _, _, _, _, _, _, _, _, _, _, _, _ => none
 | k + 1, x7, x10, x13, x48, x49, x50, x81, x82, x83, x390000, x390001, x399000, x399001, x399002, x399003, x399004, x402000, x402001, x402002, x402003 => if x83 < x82 then (if 0 ≤ x83 then (if x83 < (x81.length : Int) then (if x13 = true then (samphirelaw21_StrataLabels.l1 k x7 x10 true x48 x49 x50 x81 x82 (wrap64 (x83 + 1)) x390000 x390001 x399000 x399001 x399002 x399003 x399004 x402000 x402001 x402002 x402003) else (samphirelaw21_StrataLabels.l1 k x7 x10 ((rdOf ByteArray.empty x81 x83).toList == x402000.toList) x48 x49 x50 x81 x82 (wrap64 (x83 + 1)) x390000 x390001 x399000 x399001 x399002 x399003 x399004 x402000 x402001 x402002 x402003)) else (none)) else (none)) else (if x13 = true then (samphirelaw21_StrataLabels.l0 k x7 x10 x48 x49 (wrap64 (x50 + 1)) x390000 x390001 x399000 x399001 x399002 x399003 x399004) else (if x10.length < 8796093022208 then (samphirelaw21_StrataLabels.l0 k x7 (x10 ++ [x402000]) x48 x49 (wrap64 (x50 + 1)) x390000 x390001 x399000 x399001 x399002 x399003 x399004) else (none)))
def samphirelaw21_StrataLabels.l2 : Nat → Int → List ByteArray → List ByteArray → Int → Int → Int → Int → Int → Int → Int → Int → List (S42) → Option (Bool)
 | 0, _, _, _, _, _, _, _, _, _, _, _, _ => none
 | k + 1, x7, x10, x111, x112, x113, x390000, x390001, x399000, x399001, x399002, x399003, x399004 => if x113 < x112 then (if 0 ≤ x113 then (if x113 < (x111.length : Int) then ((samphireref05_Sum.f k x390000 x390001 (rdOf ByteArray.empty x111 x113)).bind fun t417 => (samphirelaw21_StrataLabels.l3 k x7 x10 (rdOf ByteArray.empty x111 x113) false 0 t417 x111 x112 x113 x399004 (x399004.length : Int) 0 x390000 x390001 x399000 x399001 x399002 x399003 x399004)) else (none)) else (none)) else ((samphirelaw21_awake.f k).bind fun t415 => (some t415))
def samphirelaw21_StrataLabels.l3 : Nat → Int → List ByteArray → ByteArray → Bool → Int → Int → List ByteArray → Int → Int → List (S42) → Int → Int → Int → Int → Int → Int → Int → Int → List (S42) → Option (Bool)
 | 0, _, _, _, _, _, _, _, _, _, _, _, _, _, _, _, _, _, _, _ => none
 | k + 1, x7, x10, x17, x18, x19, x20, x111, x112, x113, x121, x122, x123, x390000, x390001, x399000, x399001, x399002, x399003, x399004 => if x123 < x122 then (if 0 ≤ x123 then (if x123 < (x121.length : Int) then (if x18 = true then (samphirelaw21_StrataLabels.l3 k x7 x10 x17 true x19 x20 x111 x112 x113 x121 x122 (wrap64 (x123 + 1)) x390000 x390001 x399000 x399001 x399002 x399003 x399004) else (samphirelaw21_StrataLabels.l3 k x7 x10 x17 (((rd_T42 x121 x123).f0).toList == x17.toList) x19 x20 x111 x112 x113 x121 x122 (wrap64 (x123 + 1)) x390000 x390001 x399000 x399001 x399002 x399003 x399004)) else (none)) else (none)) else (samphirelaw21_StrataLabels.l4 k x7 x10 x17 x18 x19 x20 x111 x112 x113 x10 (x10.length : Int) 0 x390000 x390001 x399000 x399001 x399002 x399003 x399004)
def samphirelaw21_StrataLabels.l4 : Nat → Int → List ByteArray → ByteArray → Bool → Int → Int → List ByteArray → Int → Int → List ByteArray → Int → Int → Int → Int → Int → Int → Int → Int → List (S42) → Option (Bool)
 | 0, _, _, _, _, _, _, _, _, _, _, _, _, _, _, _, _, _, _, _ => none
 | k + 1, x7, x10, x17, x18, x19, x20, x111, x112, x113, x135, x136, x137, x390000, x390001, x399000, x399001, x399002, x399003, x399004 => if x137 < x136 then (if 0 ≤ x137 then (if x137 < (x135.length : Int) then ((samphireref05_Sum.f k x390000 x390001 (rdOf ByteArray.empty x135 x137)).bind fun t421 => (if t421 < x20 then (samphirelaw21_StrataLabels.l4 k x7 x10 x17 x18 (wrap64 (x19 + 1)) x20 x111 x112 x113 x135 x136 (wrap64 (x137 + 1)) x390000 x390001 x399000 x399001 x399002 x399003 x399004) else (if t421 = x20 then (if (Op.bytesLess ((rdOf ByteArray.empty x135 x137).toList) x17.toList) = true then (samphirelaw21_StrataLabels.l4 k x7 x10 x17 x18 (wrap64 (x19 + 1)) x20 x111 x112 x113 x135 x136 (wrap64 (x137 + 1)) x390000 x390001 x399000 x399001 x399002 x399003 x399004) else (samphirelaw21_StrataLabels.l4 k x7 x10 x17 x18 x19 x20 x111 x112 x113 x135 x136 (wrap64 (x137 + 1)) x390000 x390001 x399000 x399001 x399002 x399003 x399004)) else (samphirelaw21_StrataLabels.l4 k x7 x10 x17 x18 x19 x20 x111 x112 x113 x135 x136 (wrap64 (x137 + 1)) x390000 x390001 x399000 x399001 x399002 x399003 x399004)))) else (none)) else (none)) else (if (x18 != (decide (x19 < x7))) = true then (some false) else (samphirelaw21_StrataLabels.l2 k x7 x10 x111 x112 (wrap64 (x113 + 1)) x390000 x390001 x399000 x399001 x399002 x399003 x399004))
end
def samphirelaw21_StrataLabels.f (k : Nat) (a0_0 : Int) (a0_1 : Int) (a1 : Int) (l2 : List (S35)) : Option (Bool) := (strata_New.f a0_0 a0_1 (wrap64 (1 + (wrap64 (Int.tmod a1 8)))) 2).bind fun bt390 => (if bt390.2.2.2.2.2 = 0 then (samphirelaw21_StrataLabels.j0 k l2 (wrap64 (1 + (wrap64 (Int.tmod a1 8)))) bt390.2.2.2.2.2 (decide ((l2.length : Int) > 60)) a0_0 a0_1 bt390.1 bt390.2.1 bt390.2.2.1 bt390.2.2.2.1 bt390.2.2.2.2.1) else (samphirelaw21_StrataLabels.j0 k l2 (wrap64 (1 + (wrap64 (Int.tmod a1 8)))) bt390.2.2.2.2.2 true a0_0 a0_1 bt390.1 bt390.2.1 bt390.2.2.1 bt390.2.2.2.1 bt390.2.2.2.2.1))
theorem samphirelaw21_StrataLabels.mono_l : ∀ k, (∀ y0 y1 y2 y3 y4 y5 y6 y7 y8 y9 y10, LeO (samphirelaw21_StrataLabels.j0 k y0 y1 y2 y3 y4 y5 y6 y7 y8 y9 y10) (samphirelaw21_StrataLabels.j0 (k + 1) y0 y1 y2 y3 y4 y5 y6 y7 y8 y9 y10)) ∧ (∀ y0 y1 y2 y3 y4 y5 y6 y7 y8 y9 y10 y11, LeO (samphirelaw21_StrataLabels.l0 k y0 y1 y2 y3 y4 y5 y6 y7 y8 y9 y10 y11) (samphirelaw21_StrataLabels.l0 (k + 1) y0 y1 y2 y3 y4 y5 y6 y7 y8 y9 y10 y11)) ∧ (∀ y0 y1 y2 y3 y4 y5 y6 y7 y8 y9 y10 y11 y12 y13 y14 y15 y16, LeO (samphirelaw21_StrataLabels.j2 k y0 y1 y2 y3 y4 y5 y6 y7 y8 y9 y10 y11 y12 y13 y14 y15 y16) (samphirelaw21_StrataLabels.j2 (k + 1) y0 y1 y2 y3 y4 y5 y6 y7 y8 y9 y10 y11 y12 y13 y14 y15 y16)) ∧ (∀ y0 y1 y2 y3 y4 y5 y6 y7 y8 y9 y10 y11 y12 y13 y14 y15 y16 y17 y18 y19, LeO (samphirelaw21_StrataLabels.l1 k y0 y1 y2 y3 y4 y5 y6 y7 y8 y9 y10 y11 y12 y13 y14 y15 y16 y17 y18 y19) (samphirelaw21_StrataLabels.l1 (k + 1) y0 y1 y2 y3 y4 y5 y6 y7 y8 y9 y10 y11 y12 y13 y14 y15 y16 y17 y18 y19)) ∧ (∀ y0 y1 y2 y3 y4 y5 y6 y7 y8 y9 y10 y11, LeO (samphirelaw21_StrataLabels.l2 k y0 y1 y2 y3 y4 y5 y6 y7 y8 y9 y10 y11) (samphirelaw21_StrataLabels.l2 (k + 1) y0 y1 y2 y3 y4 y5 y6 y7 y8 y9 y10 y11)) ∧ (∀ y0 y1 y2 y3 y4 y5 y6 y7 y8 y9 y10 y11 y12 y13 y14 y15 y16 y17 y18, LeO (samphirelaw21_StrataLabels.l3 k y0 y1 y2 y3 y4 y5 y6 y7 y8 y9 y10 y11 y12 y13 y14 y15 y16 y17 y18) (samphirelaw21_StrataLabels.l3 (k + 1) y0 y1 y2 y3 y4 y5 y6 y7 y8 y9 y10 y11 y12 y13 y14 y15 y16 y17 y18)) ∧ (∀ y0 y1 y2 y3 y4 y5 y6 y7 y8 y9 y10 y11 y12 y13 y14 y15 y16 y17 y18, LeO (samphirelaw21_StrataLabels.l4 k y0 y1 y2 y3 y4 y5 y6 y7 y8 y9 y10 y11 y12 y13 y14 y15 y16 y17 y18) (samphirelaw21_StrataLabels.l4 (k + 1) y0 y1 y2 y3 y4 y5 y6 y7 y8 y9 y10 y11 y12 y13 y14 y15 y16 y17 y18))
 | 0 => ⟨fun _ _ _ _ _ _ _ _ _ _ _ r h => by simp [samphirelaw21_StrataLabels.j0] at h, fun _ _ _ _ _ _ _ _ _ _ _ _ r h => by simp [samphirelaw21_StrataLabels.l0] at h, fun _ _ _ _ _ _ _ _ _ _ _ _ _ _ _ _ _ r h => by simp [samphirelaw21_StrataLabels.j2] at h, fun _ _ _ _ _ _ _ _ _ _ _ _ _ _ _ _ _ _ _ _ r h => by simp [samphirelaw21_StrataLabels.l1] at h, fun _ _ _ _ _ _ _ _ _ _ _ _ r h => by simp [samphirelaw21_StrataLabels.l2] at h, fun _ _ _ _ _ _ _ _ _ _ _ _ _ _ _ _ _ _ _ r h => by simp [samphirelaw21_StrataLabels.l3] at h, fun _ _ _ _ _ _ _ _ _ _ _ _ _ _ _ _ _ _ _ r h => by simp [samphirelaw21_StrataLabels.l4] at h⟩
 | k + 1 => by
  obtain ⟨ih0, ih1, ih2, ih3, ih4, ih5, ih6⟩ := samphirelaw21_StrataLabels.mono_l k
  refine ⟨?_, ?_, ?_, ?_, ?_, ?_, ?_⟩
  ·intro y0 y1 y2 y3 y4 y5 y6 y7 y8 y9 y10
   unfold samphirelaw21_StrataLabels.j0
   repeat' first
   | (with_reducible exact ih0 _ _ _ _ _ _ _ _ _ _ _)
   | (with_reducible exact ih1 _ _ _ _ _ _ _ _ _ _ _ _)
   | (with_reducible exact ih2 _ _ _ _ _ _ _ _ _ _ _ _ _ _ _ _ _)
   | (with_reducible exact ih3 _ _ _ _ _ _ _ _ _ _ _ _ _ _ _ _ _ _ _ _)
   | (with_reducible exact ih4 _ _ _ _ _ _ _ _ _ _ _ _)
   | (with_reducible exact ih5 _ _ _ _ _ _ _ _ _ _ _ _ _ _ _ _ _ _ _)
   | (with_reducible exact ih6 _ _ _ _ _ _ _ _ _ _ _ _ _ _ _ _ _ _ _)
   | (with_reducible exact samphirelaw21_awake.mono _)
   | (with_reducible exact samphireref05_Sum.mono _ _ _ _)
   | (with_reducible exact strata_Add.mono _ _ _ _ _ _ _ _ _)
   | (with_reducible exact LeO.refl _)
   | (with_reducible exact LeO.none _)
   | (with_reducible refine LeO.ite ?_ ?_)
   | (with_reducible refine LeO.bind ?_ (fun _ => ?_))
  ·intro y0 y1 y2 y3 y4 y5 y6 y7 y8 y9 y10 y11
   unfold samphirelaw21_StrataLabels.l0
   repeat' first
   | (with_reducible exact ih0 _ _ _ _ _ _ _ _ _ _ _)
   | (with_reducible exact ih1 _ _ _ _ _ _ _ _ _ _ _ _)
   | (with_reducible exact ih2 _ _ _ _ _ _ _ _ _ _ _ _ _ _ _ _ _)
   | (with_reducible exact ih3 _ _ _ _ _ _ _ _ _ _ _ _ _ _ _ _ _ _ _ _)
   | (with_reducible exact ih4 _ _ _ _ _ _ _ _ _ _ _ _)
   | (with_reducible exact ih5 _ _ _ _ _ _ _ _ _ _ _ _ _ _ _ _ _ _ _)
   | (with_reducible exact ih6 _ _ _ _ _ _ _ _ _ _ _ _ _ _ _ _ _ _ _)
   | (with_reducible exact samphirelaw21_awake.mono _)
   | (with_reducible exact samphireref05_Sum.mono _ _ _ _)
   | (with_reducible exact strata_Add.mono _ _ _ _ _ _ _ _ _)
   | (with_reducible exact LeO.refl _)
   | (with_reducible exact LeO.none _)
   | (with_reducible refine LeO.ite ?_ ?_)
   | (with_reducible refine LeO.bind ?_ (fun _ => ?_))
  ·intro y0 y1 y2 y3 y4 y5 y6 y7 y8 y9 y10 y11 y12 y13 y14 y15 y16
   unfold samphirelaw21_StrataLabels.j2
   repeat' first
   | (with_reducible exact ih0 _ _ _ _ _ _ _ _ _ _ _)
   | (with_reducible exact ih1 _ _ _ _ _ _ _ _ _ _ _ _)
   | (with_reducible exact ih2 _ _ _ _ _ _ _ _ _ _ _ _ _ _ _ _ _)
   | (with_reducible exact ih3 _ _ _ _ _ _ _ _ _ _ _ _ _ _ _ _ _ _ _ _)
   | (with_reducible exact ih4 _ _ _ _ _ _ _ _ _ _ _ _)
   | (with_reducible exact ih5 _ _ _ _ _ _ _ _ _ _ _ _ _ _ _ _ _ _ _)
   | (with_reducible exact ih6 _ _ _ _ _ _ _ _ _ _ _ _ _ _ _ _ _ _ _)
   | (with_reducible exact samphirelaw21_awake.mono _)
   | (with_reducible exact samphireref05_Sum.mono _ _ _ _)
   | (with_reducible exact strata_Add.mono _ _ _ _ _ _ _ _ _)
   | (with_reducible exact LeO.refl _)
   | (with_reducible exact LeO.none _)
   | (with_reducible refine LeO.ite ?_ ?_)
   | (with_reducible refine LeO.bind ?_ (fun _ => ?_))
  ·intro y0 y1 y2 y3 y4 y5 y6 y7 y8 y9 y10 y11 y12 y13 y14 y15 y16 y17 y18 y19
   unfold samphirelaw21_StrataLabels.l1
   repeat' first
   | (with_reducible exact ih0 _ _ _ _ _ _ _ _ _ _ _)
   | (with_reducible exact ih1 _ _ _ _ _ _ _ _ _ _ _ _)
   | (with_reducible exact ih2 _ _ _ _ _ _ _ _ _ _ _ _ _ _ _ _ _)
   | (with_reducible exact ih3 _ _ _ _ _ _ _ _ _ _ _ _ _ _ _ _ _ _ _ _)
   | (with_reducible exact ih4 _ _ _ _ _ _ _ _ _ _ _ _)
   | (with_reducible exact ih5 _ _ _ _ _ _ _ _ _ _ _ _ _ _ _ _ _ _ _)
   | (with_reducible exact ih6 _ _ _ _ _ _ _ _ _ _ _ _ _ _ _ _ _ _ _)
   | (with_reducible exact samphirelaw21_awake.mono _)
   | (with_reducible exact samphireref05_Sum.mono _ _ _ _)
   | (with_reducible exact strata_Add.mono _ _ _ _ _ _ _ _ _)
   | (with_reducible exact LeO.refl _)
   | (with_reducible exact LeO.none _)
   | (with_reducible refine LeO.ite ?_ ?_)
   | (with_reducible refine LeO.bind ?_ (fun _ => ?_))
  ·intro y0 y1 y2 y3 y4 y5 y6 y7 y8 y9 y10 y11
   unfold samphirelaw21_StrataLabels.l2
   repeat' first
   | (with_reducible exact ih0 _ _ _ _ _ _ _ _ _ _ _)
   | (with_reducible exact ih1 _ _ _ _ _ _ _ _ _ _ _ _)
   | (with_reducible exact ih2 _ _ _ _ _ _ _ _ _ _ _ _ _ _ _ _ _)
   | (with_reducible exact ih3 _ _ _ _ _ _ _ _ _ _ _ _ _ _ _ _ _ _ _ _)
   | (with_reducible exact ih4 _ _ _ _ _ _ _ _ _ _ _ _)
   | (with_reducible exact ih5 _ _ _ _ _ _ _ _ _ _ _ _ _ _ _ _ _ _ _)
   | (with_reducible exact ih6 _ _ _ _ _ _ _ _ _ _ _ _ _ _ _ _ _ _ _)
   | (with_reducible exact samphirelaw21_awake.mono _)
   | (with_reducible exact samphireref05_Sum.mono _ _ _ _)
   | (with_reducible exact strata_Add.mono _ _ _ _ _ _ _ _ _)
   | (with_reducible exact LeO.refl _)
   | (with_reducible exact LeO.none _)
   | (with_reducible refine LeO.ite ?_ ?_)
   | (with_reducible refine LeO.bind ?_ (fun _ => ?_))
  ·intro y0 y1 y2 y3 y4 y5 y6 y7 y8 y9 y10 y11 y12 y13 y14 y15 y16 y17 y18
   unfold samphirelaw21_StrataLabels.l3
   repeat' first
   | (with_reducible exact ih0 _ _ _ _ _ _ _ _ _ _ _)
   | (with_reducible exact ih1 _ _ _ _ _ _ _ _ _ _ _ _)
   | (with_reducible exact ih2 _ _ _ _ _ _ _ _ _ _ _ _ _ _ _ _ _)
   | (with_reducible exact ih3 _ _ _ _ _ _ _ _ _ _ _ _ _ _ _ _ _ _ _ _)
   | (with_reducible exact ih4 _ _ _ _ _ _ _ _ _ _ _ _)
   | (with_reducible exact ih5 _ _ _ _ _ _ _ _ _ _ _ _ _ _ _ _ _ _ _)
   | (with_reducible exact ih6 _ _ _ _ _ _ _ _ _ _ _ _ _ _ _ _ _ _ _)
   | (with_reducible exact samphirelaw21_awake.mono _)
   | (with_reducible exact samphireref05_Sum.mono _ _ _ _)
   | (with_reducible exact strata_Add.mono _ _ _ _ _ _ _ _ _)
   | (with_reducible exact LeO.refl _)
   | (with_reducible exact LeO.none _)
   | (with_reducible refine LeO.ite ?_ ?_)
   | (with_reducible refine LeO.bind ?_ (fun _ => ?_))
  ·intro y0 y1 y2 y3 y4 y5 y6 y7 y8 y9 y10 y11 y12 y13 y14 y15 y16 y17 y18
   unfold samphirelaw21_StrataLabels.l4
   repeat' first
   | (with_reducible exact ih0 _ _ _ _ _ _ _ _ _ _ _)
   | (with_reducible exact ih1 _ _ _ _ _ _ _ _ _ _ _ _)
   | (with_reducible exact ih2 _ _ _ _ _ _ _ _ _ _ _ _ _ _ _ _ _)
   | (with_reducible exact ih3 _ _ _ _ _ _ _ _ _ _ _ _ _ _ _ _ _ _ _ _)
   | (with_reducible exact ih4 _ _ _ _ _ _ _ _ _ _ _ _)
   | (with_reducible exact ih5 _ _ _ _ _ _ _ _ _ _ _ _ _ _ _ _ _ _ _)
   | (with_reducible exact ih6 _ _ _ _ _ _ _ _ _ _ _ _ _ _ _ _ _ _ _)
   | (with_reducible exact samphirelaw21_awake.mono _)
   | (with_reducible exact samphireref05_Sum.mono _ _ _ _)
   | (with_reducible exact strata_Add.mono _ _ _ _ _ _ _ _ _)
   | (with_reducible exact LeO.refl _)
   | (with_reducible exact LeO.none _)
   | (with_reducible refine LeO.ite ?_ ?_)
   | (with_reducible refine LeO.bind ?_ (fun _ => ?_))
theorem samphirelaw21_StrataLabels.mono : ∀ a0 a1 a2 a3 k, LeO (samphirelaw21_StrataLabels.f k a0 a1 a2 a3) (samphirelaw21_StrataLabels.f (k + 1) a0 a1 a2 a3) := by
 intro a0 a1 a2 a3 k
 obtain ⟨ih0, ih1, ih2, ih3, ih4, ih5, ih6⟩ := samphirelaw21_StrataLabels.mono_l k
 unfold samphirelaw21_StrataLabels.f
 repeat' first
   | (with_reducible exact ih0 _ _ _ _ _ _ _ _ _ _ _)
   | (with_reducible exact ih1 _ _ _ _ _ _ _ _ _ _ _ _)
   | (with_reducible exact ih2 _ _ _ _ _ _ _ _ _ _ _ _ _ _ _ _ _)
   | (with_reducible exact ih3 _ _ _ _ _ _ _ _ _ _ _ _ _ _ _ _ _ _ _ _)
   | (with_reducible exact ih4 _ _ _ _ _ _ _ _ _ _ _ _)
   | (with_reducible exact ih5 _ _ _ _ _ _ _ _ _ _ _ _ _ _ _ _ _ _ _)
   | (with_reducible exact ih6 _ _ _ _ _ _ _ _ _ _ _ _ _ _ _ _ _ _ _)
   | (with_reducible exact samphirelaw21_awake.mono _)
   | (with_reducible exact samphireref05_Sum.mono _ _ _ _)
   | (with_reducible exact strata_Add.mono _ _ _ _ _ _ _ _ _)
   | (with_reducible exact LeO.refl _)
   | (with_reducible exact LeO.none _)
   | (with_reducible refine LeO.ite ?_ ?_)
   | (with_reducible refine LeO.bind ?_ (fun _ => ?_))
set_option maxHeartbeats 8000000 in
set_option maxRecDepth 100000 in
theorem samphirelaw21_StrataLabels.calls (k : Nat) (a0_0 : Int) (a0_1 : Int) (a1 : Int) (A2 : Option Addr) (c2 : Nat) (l2 : List (S35)) (r : Bool) (hrT : Aside0 (r = true)) (w : World) (hr2 : Kd.C k35 w A2 l2.length l2) (hc2 : l2.length ≤ c2) (h : samphirelaw21_StrataLabels.f k a0_0 a0_1 a1 l2 = some r) :
  Calls Try.prog 3 #[.agg #[.int .u64 a0_0, .int .u64 a0_1], .int .u8 a1, .slice A2 l2.length c2] w fun e w' => e = .returned (.bool r) ∧ Below w.heap.size w w' := by
 have hu24 := Try.underlying24
 have hu28 := Try.underlying28
 have hu35 := Try.underlying35
 have hu42 := Try.underlying42
 have HR2 := am hr2
 have HC2 := am hc2
 clear hr2 hc2
 have HB := am (Below.refl w.heap.size w)
 have H : ((strata_New.f a0_0 a0_1 (wrap64 (1 + (wrap64 (Int.tmod a1 8)))) 2).bind fun bt390 => (if bt390.2.2.2.2.2 = 0 then (samphirelaw21_StrataLabels.j0 k l2 (wrap64 (1 + (wrap64 (Int.tmod a1 8)))) bt390.2.2.2.2.2 (decide ((l2.length : Int) > 60)) a0_0 a0_1 bt390.1 bt390.2.1 bt390.2.2.1 bt390.2.2.2.1 bt390.2.2.2.2.1) else (samphirelaw21_StrataLabels.j0 k l2 (wrap64 (1 + (wrap64 (Int.tmod a1 8)))) bt390.2.2.2.2.2 true a0_0 a0_1 bt390.1 bt390.2.1 bt390.2.2.1 bt390.2.2.2.1 bt390.2.2.2.2.1))) = some r := h
 clear h
 replace H := Option.bind_eq_some_iff.mp H
 obtain ⟨⟨t390, t391, t392, t393, t394, t397⟩, A40, H⟩ := H
 try dsimp only at H
 have A4 := am A40
 clear A40
 have HC5 := am H
 clear H
 go_enter Try.func3, Try.ntmps3
 go_upto_region 3 with (first | ((with_reducible refine gate_dst (N := 3) rfl ?_); (try (refine gate_guard (by rfl) ?_; dsimp only)); refine be 3 #[.int .u64 a0_0, .int .u64 a0_1] 24 ?_; intro gb389 hg w6 hbox hb; have BK389 := am (hbox); have GW389 := am ((pg hg HB : w.heap.size ≤ gb389)); have GE389 := am ((pg hg HB : w.heap.size ≤ gb389)); replace HB := am (below_step (pb HB) hb); clear hb hbox hg; obtain ⟨hcz7_0, hcz7_1, hfz7_0, hfz7_1⟩ := g2 BK389) | ((with_reducible refine gate_callee (f := 8) rfl ?_); refine gl (some 33) Try.func8 #[.agg #[.int .u64 a0_0, .int .u64 a0_1], .int .i64 (wrap64 (1 + (wrap64 (Int.tmod a1 8)))), .int .i64 2] ?_; (with_reducible refine (strata_New.calls a0_0 a0_1 (wrap64 (1 + (wrap64 (Int.tmod a1 8)))) 2 t390 t391 t392 t393 t394 t397 _ A4.out).mono ?_); rintro e w8 ⟨v395, rfl, ho0, hb⟩; refine ⟨_, rfl, ?_⟩; have HO396 := am (Kd.V_lower (Kd.V_mono (ok' := fun k_ => k_ ≠ gb389) ho0 (fun k_ hk_ => (Kd.freshB (g := gb389) (o := .cells #[.int .u64 a0_0, .int .u64 a0_1] 24 (0, 0)) (pk BK389.out) k_ hk_))) (below_size (pb HB))); replace BK389 := am (blk_below (pk BK389.out) hb); replace HB := am (below_step (pb HB) hb); (try clear hb); (try clear hb2); (try clear hk); (try clear hi); (try clear ho0)) | ((with_reducible refine gate_dst (N := 8) rfl ?_); (try (refine gate_guard (by rfl) ?_; dsimp only)); refine be 8 #[.int .u64 0, .int .u64 0, .int .i64 0, .int .i64 0, .slice none 0 0] 28 ?_; intro gb398 hg w9 hbox hb; replace HO396 := am (Kd.V_below (Kd.V_elderB (pv HO396.out) gb398 (Nat.le_of_eq hg.symm)) hb); have BK398 := am (hbox); have GW398 := am ((pg hg HB : w.heap.size ≤ gb398)); have GE398 := am ((pg hg HB : w.heap.size ≤ gb398)); replace HB := am (below_step (pb HB) hb); obtain ⟨NB389_398, NB398_389, hnc10, hnb10⟩ := pm hg BK389; replace BK389 := am (blk_below (pk BK389.out) hb); clear hb hbox hg; obtain ⟨hcz11_0, hcz11_1, hcz11_2, hcz11_3, hcz11_4, hfz11_0, hfz11_1, hfz11_2, hfz11_3, hfz11_4⟩ := g5 BK398; obtain ⟨Ao12, co12, eo12⟩ := Kd.V_slice HO396.out; subst eo12))
 (try simp only [Act.put, List.setIfInBounds_toArray, List.set_cons_zero, List.set_cons_succ])
 go_cut [42] (fun v42 wc => ∃ (kq : Nat) (x42_4 : Bool), v42 = .bool x42_4 ∧ Aside0 (samphirelaw21_StrataLabels.j0 kq l2 (wrap64 (1 + (wrap64 (Int.tmod a1 8)))) t397 x42_4 a0_0 a0_1 t390 t391 t392 t393 t394 = some r) ∧ Aside0 (kq ≤ k) ∧ Aside0 (Kd.V k42 42 wc w.heap.size (fun k_ => k_ ≠ gb389 ∧ k_ ≠ gb398) (.slice Ao12 t394.length co12) t394) ∧ Aside0 (wc.heap[gb389]? = some (.cells #[.int .u64 a0_0, .int .u64 a0_1] 24 (0, 0))) ∧ Aside0 (wc.heap[gb398]? = some (.cells #[.int .u64 t390, .int .u64 t391, .int .i64 t392, .int .i64 t393, (.slice Ao12 t394.length co12)] 28 (0, 0))) ∧ Aside0 (Below w.heap.size w wc))
 case first =>
  have H := HC5.out
  clear HC5
  by_cases c13 : t397 = 0
  ·rw [if_pos c13] at H
   have c13b0 : (t397 == 0) = true := beq_iff_eq.mpr c13
   have c13b1 : (t397 != 0) = false := bne_eq_false_iff_eq.mpr c13
   clear c13
   (first | rw [c13b0] | (simp only [i64_w, i32_w]; rw [c13b0]) | skip)
   have H' := am H
   clear H
   go_wp2
   go_meet
   case rel => exact ⟨_, (decide ((l2.length : Int) > 60)), (by first | rfl | (simp; done) | (simp [*]; done)), H', ⟨by first | omega | exact Nat.le_refl _⟩, ⟨by refine pv ?_; exact Kd.V_mono (Kd.V_far (p := ⟨gb398, 4, none⟩) (Kd.V_far (p := ⟨gb398, 3, none⟩) (Kd.V_far (p := ⟨gb398, 2, none⟩) (Kd.V_far (p := ⟨gb398, 1, none⟩) (Kd.V_far (p := ⟨gb398, 0, none⟩) (Kd.V_mono HO396.out (fun k_ hk => (⟨hk, hk.2⟩ : _ ∧ k_ ≠ gb398))) (fun _ hk => hk.2) (.int .u64 t390)) (fun _ hk => hk.2) (.int .u64 t391)) (fun _ hk => hk.2) (.int .i64 t392)) (fun _ hk => hk.2) (.int .i64 t393)) (fun _ hk => hk.2) (.slice Ao12 t394.length co12)) (fun _ hk => ⟨hk.1.1, hk.1.2⟩)⟩, ⟨by refine pk ?_; refine blk_far ?_ NB389_398.out _; refine pk ?_; refine blk_far ?_ NB389_398.out _; refine pk ?_; refine blk_far ?_ NB389_398.out _; refine pk ?_; refine blk_far ?_ NB389_398.out _; refine pk ?_; refine blk_far ?_ NB389_398.out _; refine pk ?_; exact BK389.out⟩, ⟨by refine pk ?_; refine blk_put (cs := #[.int .u64 t390, .int .u64 t391, .int .i64 t392, .int .i64 t393, .slice none 0 0]) ?_ 4 _ rfl; refine pk ?_; refine blk_put (cs := #[.int .u64 t390, .int .u64 t391, .int .i64 t392, .int .i64 0, .slice none 0 0]) ?_ 3 _ rfl; refine pk ?_; refine blk_put (cs := #[.int .u64 t390, .int .u64 t391, .int .i64 0, .int .i64 0, .slice none 0 0]) ?_ 2 _ rfl; refine pk ?_; refine blk_put (cs := #[.int .u64 t390, .int .u64 0, .int .i64 0, .int .i64 0, .slice none 0 0]) ?_ 1 _ rfl; refine pk ?_; refine blk_put (cs := #[.int .u64 0, .int .u64 0, .int .i64 0, .int .i64 0, .slice none 0 0]) ?_ 0 _ rfl; refine pk ?_; exact BK398.out⟩, ⟨pb HB⟩⟩
  ·rw [if_neg c13] at H
   have c13b0 : (t397 == 0) = false := beq_eq_false_iff_ne.mpr c13
   have c13b1 : (t397 != 0) = true := bne_iff_ne.mpr c13
   (first | rw [c13b0] | (simp only [i64_w, i32_w]; rw [c13b0]) | skip)
   have H' := am H
   clear H
   go_wp2
   go_meet
   case rel => exact ⟨_, (true), (by first | rfl | (simp; done) | (simp [*]; done)), H', ⟨by first | omega | exact Nat.le_refl _⟩, ⟨by refine pv ?_; exact Kd.V_mono (Kd.V_far (p := ⟨gb398, 4, none⟩) (Kd.V_far (p := ⟨gb398, 3, none⟩) (Kd.V_far (p := ⟨gb398, 2, none⟩) (Kd.V_far (p := ⟨gb398, 1, none⟩) (Kd.V_far (p := ⟨gb398, 0, none⟩) (Kd.V_mono HO396.out (fun k_ hk => (⟨hk, hk.2⟩ : _ ∧ k_ ≠ gb398))) (fun _ hk => hk.2) (.int .u64 t390)) (fun _ hk => hk.2) (.int .u64 t391)) (fun _ hk => hk.2) (.int .i64 t392)) (fun _ hk => hk.2) (.int .i64 t393)) (fun _ hk => hk.2) (.slice Ao12 t394.length co12)) (fun _ hk => ⟨hk.1.1, hk.1.2⟩)⟩, ⟨by refine pk ?_; refine blk_far ?_ NB389_398.out _; refine pk ?_; refine blk_far ?_ NB389_398.out _; refine pk ?_; refine blk_far ?_ NB389_398.out _; refine pk ?_; refine blk_far ?_ NB389_398.out _; refine pk ?_; refine blk_far ?_ NB389_398.out _; refine pk ?_; exact BK389.out⟩, ⟨by refine pk ?_; refine blk_put (cs := #[.int .u64 t390, .int .u64 t391, .int .i64 t392, .int .i64 t393, .slice none 0 0]) ?_ 4 _ rfl; refine pk ?_; refine blk_put (cs := #[.int .u64 t390, .int .u64 t391, .int .i64 t392, .int .i64 0, .slice none 0 0]) ?_ 3 _ rfl; refine pk ?_; refine blk_put (cs := #[.int .u64 t390, .int .u64 t391, .int .i64 0, .int .i64 0, .slice none 0 0]) ?_ 2 _ rfl; refine pk ?_; refine blk_put (cs := #[.int .u64 t390, .int .u64 0, .int .i64 0, .int .i64 0, .slice none 0 0]) ?_ 1 _ rfl; refine pk ?_; refine blk_put (cs := #[.int .u64 0, .int .u64 0, .int .i64 0, .int .i64 0, .slice none 0 0]) ?_ 0 _ rfl; refine pk ?_; exact BK398.out⟩, ⟨pb HB⟩⟩
 case rest =>
  clear HC5
  try clear c1
  try clear c2
  try clear p2
  try clear c3
  try clear p6
  try clear c8
  try clear c10
  try clear c13
  try clear c13b0
  try clear c13b1
  try clear hcz11_0 hcz11_1 hcz11_2 hcz11_3 hcz11_4
  try clear hcz7_0 hcz7_1
  try clear hfz11_0 hfz11_1 hfz11_2 hfz11_3 hfz11_4
  try clear hfz7_0 hfz7_1
  obtain ⟨kq, x42_4, rfl, HA, HJ4, HO_399004, BK389, BK398, HB⟩ := hcut
  cases kq with
  | zero => exact absurd HA.out (by simp [samphirelaw21_StrataLabels.j0])
  | succ kj4 =>
   have H := HA.out
   clear HA
   simp only [samphirelaw21_StrataLabels.j0] at H
   by_cases c14 : x42_4 = true
   ·subst c14
    have H1 : (if t397 = 0 then ((samphirelaw21_awake.f kj4).bind fun t399 => (some t399)) else (some false)) = some r := by rw [if_pos rfl] at H; exact H
    clear H
    have H := H1
    clear H1
    by_cases c15 : t397 = 0
    ·rw [if_pos c15] at H
     have c15b0 : (t397 == 0) = true := beq_iff_eq.mpr c15
     have c15b1 : (t397 != 0) = false := bne_eq_false_iff_eq.mpr c15
     clear c15
     replace H := Option.bind_eq_some_iff.mp H
     obtain ⟨t399, A160, H⟩ := H
     try dsimp only at H
     have A16 := am A160
     clear A160
     obtain rfl := Option.some.inj H
     go_wp2_with (first | (go_at_call 9; (with_reducible refine (samphirelaw21_awake.calls kj4  t399 hrT _ A16.out).mono ?_); rintro e w17 ⟨rfl, hb⟩; replace HO_399004 := am (Kd.V_below (pv HO_399004.out) hb); replace BK389 := am (blk_below (pk BK389.out) hb); replace BK398 := am (blk_below (pk BK398.out) hb); replace HB := am (below_step (pb HB) hb); (try clear hb); (try clear hb2); (try clear hk); (try clear hi)))
     go_ret
     exact ⟨by first | rfl | (simp [errW_none, errW_some] <;> rfl) | (simp [*, errW_none, errW_some] <;> rfl), pb HB⟩
    ·rw [if_neg c15] at H
     exact Bool.noConfusion ((Option.some.inj H).trans hrT.out)
   ·replace c14 := Bool.eq_false_iff.mpr c14
    subst c14
    have H1 : (samphirelaw21_StrataLabels.l0 kj4 (wrap64 (1 + (wrap64 (Int.tmod a1 8)))) ([] : List ByteArray) l2 (l2.length : Int) 0 a0_0 a0_1 t390 t391 t392 t393 t394) = some r := by rw [if_neg (show ¬ (false = true) by decide)] at H; exact H
    clear H
    have H := H1
    clear H1
    have H' := am H
    clear H
    go_wp2
    go_loopg [10, 50] kj4 (fun kq v10 v50 w' => ∃ (x10_2 : List ByteArray) (x50_2 : Int) (x399000_2 : Int) (x399001_2 : Int) (x399002_2 : Int) (x399003_2 : Int) (x399004_2 : List (S42)) (u399004 : Value), v50 = .int .i64 x50_2 ∧ Aside0 (samphirelaw21_StrataLabels.l0 kq (wrap64 (1 + (wrap64 (Int.tmod a1 8)))) x10_2 l2 (l2.length : Int) x50_2 a0_0 a0_1 x399000_2 x399001_2 x399002_2 x399003_2 x399004_2 = some r) ∧ Aside0 (kq ≤ kj4) ∧ Aside0 (Kd.R Kd.string 9 w' w.heap.size (fun _ => True) v10 x10_2) ∧ Aside0 (Kd.V k42 42 w' w.heap.size (fun k_ => some k_ ≠ (v10 : Value).ownBlock ∧ k_ ≠ gb389 ∧ k_ ≠ gb398) u399004 x399004_2) ∧ Aside0 (w'.heap[gb389]? = some (.cells #[.int .u64 a0_0, .int .u64 a0_1] 24 (0, 0))) ∧ Aside0 (w'.heap[gb398]? = some (.cells #[.int .u64 x399000_2, .int .u64 x399001_2, .int .i64 x399002_2, .int .i64 x399003_2, u399004] 28 (0, 0))) ∧ Aside0 (Below w.heap.size w w'))
    case atStart => exact ⟨(([] : List ByteArray)), (0), (t390), (t391), (t392), (t393), (t394), (.slice Ao12 t394.length co12), (by first | rfl | (simp; done) | (simp [*]; done)), H', ⟨Nat.le_refl _⟩, ⟨by first | exact Kd.R_nil _ _ _ _ _ | exact Kd.N_nil _ _ _ _ _ | exact Kd.V_nil _ _ _ _ _ | exact Kd.Q_nil _ _ _ _ _ | exact Kd.S_nil _ _ _ _ _⟩, ⟨by refine pv ?_; exact Kd.V_mono HO_399004.out (fun _ hk => ⟨(by simp [Value.ownBlock]), ⟨hk.1, hk.2⟩⟩)⟩, ⟨pk BK389.out⟩, ⟨pk BK398.out⟩, ⟨pb HB⟩⟩
    case round =>
     clear H'
     try clear c1
     try clear c2
     try clear p2
     try clear c3
     try clear p6
     try clear c8
     try clear c10
     try clear c13
     try clear c13b0
     try clear c13b1
     try clear c14
     try clear c15
     try clear c15b0
     try clear c15b1
     try clear hcz11_0 hcz11_1 hcz11_2 hcz11_3 hcz11_4
     try clear hcz7_0 hcz7_1
     try clear hfz11_0 hfz11_1 hfz11_2 hfz11_3 hfz11_4
     try clear hfz7_0 hfz7_1
     try clear p2
     try clear p6
     obtain ⟨x10_2, x50_2, x399000_2, x399001_2, x399002_2, x399003_2, x399004_2, u399004, rfl, HA, HK2, HO_10, HO_399004, BK389, BK398, HB⟩ := hrel
     cases gk with
     | zero => exact absurd HA.out (by simp [samphirelaw21_StrataLabels.l0])
     | succ k2 =>
      have H := HA.out
      clear HA
      simp only [samphirelaw21_StrataLabels.l0] at H
      by_cases c18 : x50_2 < (l2.length : Int)
      ·rw [if_pos c18] at H
       have c18b0 : decide (x50_2 < (l2.length : Int)) = true := decide_eq_true c18
       clear c18
       by_cases c19 : 0 ≤ x50_2
       ·rw [if_pos c19] at H
        have c19b0 : decide (0 ≤ x50_2) = true := decide_eq_true c19
        clear c19
        by_cases c20 : x50_2 < (l2.length : Int)
        ·rw [if_pos c20] at H
         have c20b0 : decide (x50_2 < (l2.length : Int)) = true := decide_eq_true c20
         clear c20
         have HC21 := am H
         clear H
         have p400 : 0 ≤ (x50_2 : Int) := of_decide_eq_true (by first | (with_reducible assumption) | assumption)
         have q400 : x50_2 < (l2.length : Int) := of_decide_eq_true (by first | (with_reducible assumption) | assumption)
         obtain ⟨ad400, e400, hx400_0, hx400_1, hx400_2, hx400_3⟩ := at_T35 HR2.out x50_2 p400 q400
         cases e400
         replace hx400_0 := (HB.out.cell (World.block_lt_of_cell? w _ hx400_0)).trans hx400_0
         replace hx400_1 := (HB.out.cell (World.block_lt_of_cell? w _ hx400_1)).trans hx400_1
         replace hx400_2 := (HB.out.cell (World.block_lt_of_cell? w _ hx400_2)).trans hx400_2
         replace hx400_3 := (HB.out.cell (World.block_lt_of_cell? w _ hx400_3)).trans hx400_3
         replace p400 := eq_true p400
         replace q400 := eq_true q400
         go_upto_region 9 with (first | ((with_reducible refine gate_dst (N := 12) rfl ?_); (try (refine gate_guard (by rfl) ?_; dsimp only)); refine be 12 #[.string (⟨#[]⟩ : ByteArray), .string (⟨#[]⟩ : ByteArray), .int .u64 0, .int .u8 0] 35 ?_; intro gb401 hg w22 hbox hb; replace HO_10 := am (Kd.R_below (pr HO_10.out) hb); replace HO_399004 := am (Kd.V_below (Kd.V_elderB (pv HO_399004.out) gb401 (Nat.le_of_eq hg.symm)) hb); have BK401 := am (hbox); have GW401 := am ((pg hg HB : w.heap.size ≤ gb401)); have GE401 := am ((pg hg HB : w.heap.size ≤ gb401)); replace HB := am (below_step (pb HB) hb); obtain ⟨NB389_401, NB401_389, hnc23, hnb23⟩ := pm hg BK389; replace BK389 := am (blk_below (pk BK389.out) hb); obtain ⟨NB398_401, NB401_398, hnc24, hnb24⟩ := pm hg BK398; replace BK398 := am (blk_below (pk BK398.out) hb); clear hb hbox hg; obtain ⟨hcz25_0, hcz25_1, hcz25_2, hcz25_3, hfz25_0, hfz25_1, hfz25_2, hfz25_3⟩ := g4 BK401))
         (try simp only [Act.put, List.setIfInBounds_toArray, List.set_cons_zero, List.set_cons_succ])
         go_cut [68] (fun v68 wc => ∃ (kq : Nat) (x68_20 : Bool), v68 = .bool x68_20 ∧ Aside0 (samphirelaw21_StrataLabels.j2 kq (wrap64 (1 + (wrap64 (Int.tmod a1 8)))) x10_2 l2 (l2.length : Int) x50_2 x68_20 a0_0 a0_1 x399000_2 x399001_2 x399002_2 x399003_2 x399004_2 ((rd_T35 l2 x50_2).f0) ((rd_T35 l2 x50_2).f1) ((rd_T35 l2 x50_2).f2) ((rd_T35 l2 x50_2).f3) = some r) ∧ Aside0 (kq ≤ k2) ∧ Aside0 (Kd.R Kd.string 9 wc w.heap.size (fun _ => True) u10 x10_2) ∧ Aside0 (Kd.V k42 42 wc w.heap.size (fun k_ => some k_ ≠ (u10 : Value).ownBlock ∧ k_ ≠ gb389 ∧ k_ ≠ gb398 ∧ k_ ≠ gb401) u399004 x399004_2) ∧ Aside0 (wc.heap[gb389]? = some (.cells #[.int .u64 a0_0, .int .u64 a0_1] 24 (0, 0))) ∧ Aside0 (wc.heap[gb398]? = some (.cells #[.int .u64 x399000_2, .int .u64 x399001_2, .int .i64 x399002_2, .int .i64 x399003_2, u399004] 28 (0, 0))) ∧ Aside0 (wc.heap[gb401]? = some (.cells #[.string ((rd_T35 l2 x50_2).f0), .string ((rd_T35 l2 x50_2).f1), .int .u64 ((rd_T35 l2 x50_2).f2), .int .u8 ((rd_T35 l2 x50_2).f3)] 35 (0, 0))) ∧ Aside0 (Below w.heap.size w wc))
         case first =>
          have H := HC21.out
          clear HC21
          by_cases c26 : (((rd_T35 l2 x50_2).f0).size : Int) > 64
          ·rw [if_pos c26] at H
           have c26b0 : decide (64 < (((rd_T35 l2 x50_2).f0).size : Int)) = true := decide_eq_true c26
           have c26b1 : decide (64 < ((rd_T35 l2 x50_2).f0).size) = true := decide_eq_true (by omega)
           clear c26
           (first | rw [c26b0] | (simp only [i64_w, i32_w]; rw [c26b0]) | skip)
           have H' := am H
           clear H
           have hnb27 := NB401_389.out
           have hnc27 := NB389_401.out
           have hnb28 := NB401_398.out
           have hnc28 := NB398_401.out
           obtain ⟨hcz29_0, hcz29_1, hcz29_2, hcz29_3, hfz29_0, hfz29_1, hfz29_2, hfz29_3⟩ := g4 BK401
           go_wp2
           go_meet
           case rel => exact ⟨_, (true), (by first | rfl | (simp; done) | (simp [*]; done)), H', ⟨by have := HJ4.out; have := HK2.out; first | omega | exact Nat.le_refl _⟩, ⟨by refine pr ?_; exact Kd.R_mono (Kd.R_far (p := ⟨gb401, 3, none⟩) (Kd.R_far (p := ⟨gb401, 2, none⟩) (Kd.R_far (p := ⟨gb401, 1, none⟩) (Kd.R_far (p := ⟨gb401, 0, none⟩) (Kd.R_types HO_10.out BK401.out (by decide)) (fun _ hk => hk.2) (.string ((rd_T35 l2 x50_2).f0))) (fun _ hk => hk.2) (.string ((rd_T35 l2 x50_2).f1))) (fun _ hk => hk.2) (.int .u64 ((rd_T35 l2 x50_2).f2))) (fun _ hk => hk.2) (.int .u8 ((rd_T35 l2 x50_2).f3))) (fun _ hk => trivial)⟩, ⟨by refine pv ?_; exact Kd.V_mono (Kd.V_far (p := ⟨gb401, 3, none⟩) (Kd.V_far (p := ⟨gb401, 2, none⟩) (Kd.V_far (p := ⟨gb401, 1, none⟩) (Kd.V_far (p := ⟨gb401, 0, none⟩) (Kd.V_mono HO_399004.out (fun k_ hk => (⟨hk, hk.2⟩ : _ ∧ k_ ≠ gb401))) (fun _ hk => hk.2) (.string ((rd_T35 l2 x50_2).f0))) (fun _ hk => hk.2) (.string ((rd_T35 l2 x50_2).f1))) (fun _ hk => hk.2) (.int .u64 ((rd_T35 l2 x50_2).f2))) (fun _ hk => hk.2) (.int .u8 ((rd_T35 l2 x50_2).f3))) (fun _ hk => ⟨hk.1.1.1, ⟨hk.1.1.2.1, ⟨hk.1.1.2.2, hk.1.2⟩⟩⟩)⟩, ⟨by refine pk ?_; refine blk_far ?_ NB389_401.out _; refine pk ?_; refine blk_far ?_ NB389_401.out _; refine pk ?_; refine blk_far ?_ NB389_401.out _; refine pk ?_; refine blk_far ?_ NB389_401.out _; refine pk ?_; exact BK389.out⟩, ⟨by refine pk ?_; refine blk_far ?_ NB398_401.out _; refine pk ?_; refine blk_far ?_ NB398_401.out _; refine pk ?_; refine blk_far ?_ NB398_401.out _; refine pk ?_; refine blk_far ?_ NB398_401.out _; refine pk ?_; exact BK398.out⟩, ⟨by refine pk ?_; refine blk_put (cs := #[.string ((rd_T35 l2 x50_2).f0), .string ((rd_T35 l2 x50_2).f1), .int .u64 ((rd_T35 l2 x50_2).f2), .int .u8 0]) ?_ 3 _ rfl; refine pk ?_; refine blk_put (cs := #[.string ((rd_T35 l2 x50_2).f0), .string ((rd_T35 l2 x50_2).f1), .int .u64 0, .int .u8 0]) ?_ 2 _ rfl; refine pk ?_; refine blk_put (cs := #[.string ((rd_T35 l2 x50_2).f0), .string (⟨#[]⟩ : ByteArray), .int .u64 0, .int .u8 0]) ?_ 1 _ rfl; refine pk ?_; refine blk_put (cs := #[.string (⟨#[]⟩ : ByteArray), .string (⟨#[]⟩ : ByteArray), .int .u64 0, .int .u8 0]) ?_ 0 _ rfl; refine pk ?_; exact BK401.out⟩, ⟨pb HB⟩⟩
          ·rw [if_neg c26] at H
           have c26b0 : decide (64 < (((rd_T35 l2 x50_2).f0).size : Int)) = false := decide_eq_false c26
           have c26b1 : decide (64 < ((rd_T35 l2 x50_2).f0).size) = false := decide_eq_false (by omega)
           clear c26
           (first | rw [c26b0] | (simp only [i64_w, i32_w]; rw [c26b0]) | skip)
           by_cases c30 : (((rd_T35 l2 x50_2).f1).size : Int) > 64
           ·rw [if_pos c30] at H
            have c30b0 : decide (64 < (((rd_T35 l2 x50_2).f1).size : Int)) = true := decide_eq_true c30
            have c30b1 : decide (64 < ((rd_T35 l2 x50_2).f1).size) = true := decide_eq_true (by omega)
            clear c30
            have H' := am H
            clear H
            have hnb31 := NB401_389.out
            have hnc31 := NB389_401.out
            have hnb32 := NB401_398.out
            have hnc32 := NB398_401.out
            obtain ⟨hcz33_0, hcz33_1, hcz33_2, hcz33_3, hfz33_0, hfz33_1, hfz33_2, hfz33_3⟩ := g4 BK401
            go_wp2
            go_meet
            case rel => exact ⟨_, (true), (by first | rfl | (simp; done) | (simp [*]; done)), H', ⟨by have := HJ4.out; have := HK2.out; first | omega | exact Nat.le_refl _⟩, ⟨by refine pr ?_; exact Kd.R_mono (Kd.R_far (p := ⟨gb401, 3, none⟩) (Kd.R_far (p := ⟨gb401, 2, none⟩) (Kd.R_far (p := ⟨gb401, 1, none⟩) (Kd.R_far (p := ⟨gb401, 0, none⟩) (Kd.R_types HO_10.out BK401.out (by decide)) (fun _ hk => hk.2) (.string ((rd_T35 l2 x50_2).f0))) (fun _ hk => hk.2) (.string ((rd_T35 l2 x50_2).f1))) (fun _ hk => hk.2) (.int .u64 ((rd_T35 l2 x50_2).f2))) (fun _ hk => hk.2) (.int .u8 ((rd_T35 l2 x50_2).f3))) (fun _ hk => trivial)⟩, ⟨by refine pv ?_; exact Kd.V_mono (Kd.V_far (p := ⟨gb401, 3, none⟩) (Kd.V_far (p := ⟨gb401, 2, none⟩) (Kd.V_far (p := ⟨gb401, 1, none⟩) (Kd.V_far (p := ⟨gb401, 0, none⟩) (Kd.V_mono HO_399004.out (fun k_ hk => (⟨hk, hk.2⟩ : _ ∧ k_ ≠ gb401))) (fun _ hk => hk.2) (.string ((rd_T35 l2 x50_2).f0))) (fun _ hk => hk.2) (.string ((rd_T35 l2 x50_2).f1))) (fun _ hk => hk.2) (.int .u64 ((rd_T35 l2 x50_2).f2))) (fun _ hk => hk.2) (.int .u8 ((rd_T35 l2 x50_2).f3))) (fun _ hk => ⟨hk.1.1.1, ⟨hk.1.1.2.1, ⟨hk.1.1.2.2, hk.1.2⟩⟩⟩)⟩, ⟨by refine pk ?_; refine blk_far ?_ NB389_401.out _; refine pk ?_; refine blk_far ?_ NB389_401.out _; refine pk ?_; refine blk_far ?_ NB389_401.out _; refine pk ?_; refine blk_far ?_ NB389_401.out _; refine pk ?_; exact BK389.out⟩, ⟨by refine pk ?_; refine blk_far ?_ NB398_401.out _; refine pk ?_; refine blk_far ?_ NB398_401.out _; refine pk ?_; refine blk_far ?_ NB398_401.out _; refine pk ?_; refine blk_far ?_ NB398_401.out _; refine pk ?_; exact BK398.out⟩, ⟨by refine pk ?_; refine blk_put (cs := #[.string ((rd_T35 l2 x50_2).f0), .string ((rd_T35 l2 x50_2).f1), .int .u64 ((rd_T35 l2 x50_2).f2), .int .u8 0]) ?_ 3 _ rfl; refine pk ?_; refine blk_put (cs := #[.string ((rd_T35 l2 x50_2).f0), .string ((rd_T35 l2 x50_2).f1), .int .u64 0, .int .u8 0]) ?_ 2 _ rfl; refine pk ?_; refine blk_put (cs := #[.string ((rd_T35 l2 x50_2).f0), .string (⟨#[]⟩ : ByteArray), .int .u64 0, .int .u8 0]) ?_ 1 _ rfl; refine pk ?_; refine blk_put (cs := #[.string (⟨#[]⟩ : ByteArray), .string (⟨#[]⟩ : ByteArray), .int .u64 0, .int .u8 0]) ?_ 0 _ rfl; refine pk ?_; exact BK401.out⟩, ⟨pb HB⟩⟩
           ·rw [if_neg c30] at H
            have c30b0 : decide (64 < (((rd_T35 l2 x50_2).f1).size : Int)) = false := decide_eq_false c30
            have c30b1 : decide (64 < ((rd_T35 l2 x50_2).f1).size) = false := decide_eq_false (by omega)
            clear c30
            have H' := am H
            clear H
            have hnb34 := NB401_389.out
            have hnc34 := NB389_401.out
            have hnb35 := NB401_398.out
            have hnc35 := NB398_401.out
            obtain ⟨hcz36_0, hcz36_1, hcz36_2, hcz36_3, hfz36_0, hfz36_1, hfz36_2, hfz36_3⟩ := g4 BK401
            go_wp2
            go_meet
            case rel => exact ⟨_, ((((rd_T35 l2 x50_2).f2) == 0)), (by first | rfl | (simp; done) | (simp [*]; done)), H', ⟨by have := HJ4.out; have := HK2.out; first | omega | exact Nat.le_refl _⟩, ⟨by refine pr ?_; exact Kd.R_mono (Kd.R_far (p := ⟨gb401, 3, none⟩) (Kd.R_far (p := ⟨gb401, 2, none⟩) (Kd.R_far (p := ⟨gb401, 1, none⟩) (Kd.R_far (p := ⟨gb401, 0, none⟩) (Kd.R_types HO_10.out BK401.out (by decide)) (fun _ hk => hk.2) (.string ((rd_T35 l2 x50_2).f0))) (fun _ hk => hk.2) (.string ((rd_T35 l2 x50_2).f1))) (fun _ hk => hk.2) (.int .u64 ((rd_T35 l2 x50_2).f2))) (fun _ hk => hk.2) (.int .u8 ((rd_T35 l2 x50_2).f3))) (fun _ hk => trivial)⟩, ⟨by refine pv ?_; exact Kd.V_mono (Kd.V_far (p := ⟨gb401, 3, none⟩) (Kd.V_far (p := ⟨gb401, 2, none⟩) (Kd.V_far (p := ⟨gb401, 1, none⟩) (Kd.V_far (p := ⟨gb401, 0, none⟩) (Kd.V_mono HO_399004.out (fun k_ hk => (⟨hk, hk.2⟩ : _ ∧ k_ ≠ gb401))) (fun _ hk => hk.2) (.string ((rd_T35 l2 x50_2).f0))) (fun _ hk => hk.2) (.string ((rd_T35 l2 x50_2).f1))) (fun _ hk => hk.2) (.int .u64 ((rd_T35 l2 x50_2).f2))) (fun _ hk => hk.2) (.int .u8 ((rd_T35 l2 x50_2).f3))) (fun _ hk => ⟨hk.1.1.1, ⟨hk.1.1.2.1, ⟨hk.1.1.2.2, hk.1.2⟩⟩⟩)⟩, ⟨by refine pk ?_; refine blk_far ?_ NB389_401.out _; refine pk ?_; refine blk_far ?_ NB389_401.out _; refine pk ?_; refine blk_far ?_ NB389_401.out _; refine pk ?_; refine blk_far ?_ NB389_401.out _; refine pk ?_; exact BK389.out⟩, ⟨by refine pk ?_; refine blk_far ?_ NB398_401.out _; refine pk ?_; refine blk_far ?_ NB398_401.out _; refine pk ?_; refine blk_far ?_ NB398_401.out _; refine pk ?_; refine blk_far ?_ NB398_401.out _; refine pk ?_; exact BK398.out⟩, ⟨by refine pk ?_; refine blk_put (cs := #[.string ((rd_T35 l2 x50_2).f0), .string ((rd_T35 l2 x50_2).f1), .int .u64 ((rd_T35 l2 x50_2).f2), .int .u8 0]) ?_ 3 _ rfl; refine pk ?_; refine blk_put (cs := #[.string ((rd_T35 l2 x50_2).f0), .string ((rd_T35 l2 x50_2).f1), .int .u64 0, .int .u8 0]) ?_ 2 _ rfl; refine pk ?_; refine blk_put (cs := #[.string ((rd_T35 l2 x50_2).f0), .string (⟨#[]⟩ : ByteArray), .int .u64 0, .int .u8 0]) ?_ 1 _ rfl; refine pk ?_; refine blk_put (cs := #[.string (⟨#[]⟩ : ByteArray), .string (⟨#[]⟩ : ByteArray), .int .u64 0, .int .u8 0]) ?_ 0 _ rfl; refine pk ?_; exact BK401.out⟩, ⟨pb HB⟩⟩
         case rest =>
          clear HC21
          try clear c1
          try clear c2
          try clear p2
          try clear c3
          try clear p4
          try clear q4
          try clear hx4
          try clear p6
          try clear c8
          try clear c10
          try clear c13
          try clear c13b0
          try clear c13b1
          try clear c14
          try clear c15
          try clear c15b0
          try clear c15b1
          try clear c18
          try clear c18b0
          try clear c19
          try clear c19b0
          try clear c20
          try clear c20b0
          try clear c23
          try clear c24
          try clear c26
          try clear c26b0
          try clear c26b1
          try clear c27
          try clear c28
          try clear c30
          try clear c30b0
          try clear c30b1
          try clear c31
          try clear c32
          try clear c34
          try clear c35
          try clear hcz11_0 hcz11_1 hcz11_2 hcz11_3 hcz11_4
          try clear hcz25_0 hcz25_1 hcz25_2 hcz25_3
          try clear hcz29_0 hcz29_1 hcz29_2 hcz29_3
          try clear hcz33_0 hcz33_1 hcz33_2 hcz33_3
          try clear hcz36_0 hcz36_1 hcz36_2 hcz36_3
          try clear hcz7_0 hcz7_1
          try clear hfz11_0 hfz11_1 hfz11_2 hfz11_3 hfz11_4
          try clear hfz25_0 hfz25_1 hfz25_2 hfz25_3
          try clear hfz29_0 hfz29_1 hfz29_2 hfz29_3
          try clear hfz33_0 hfz33_1 hfz33_2 hfz33_3
          try clear hfz36_0 hfz36_1 hfz36_2 hfz36_3
          try clear hfz7_0 hfz7_1
          try clear hx400_0
          try clear hx400_1
          try clear hx400_2
          try clear hx400_3
          try clear p2
          try clear p400
          try clear p6
          try clear q400
          obtain ⟨kq, x68_20, rfl, HA, HJ20, HO_10, HO_399004, BK389, BK398, BK401, HB⟩ := hcut
          cases kq with
          | zero => exact absurd HA.out (by simp [samphirelaw21_StrataLabels.j2])
          | succ kj20 =>
           have H := HA.out
           clear HA
           simp only [samphirelaw21_StrataLabels.j2] at H
           by_cases c37 : x68_20 = true
           ·subst c37
            have H1 : ((samphirelaw21_awake.f kj20).bind fun t402 => (some t402)) = some r := by rw [if_pos rfl] at H; exact H
            clear H
            have H := H1
            clear H1
            replace H := Option.bind_eq_some_iff.mp H
            obtain ⟨t402, A380, H⟩ := H
            try dsimp only at H
            have A38 := am A380
            clear A380
            obtain rfl := Option.some.inj H
            go_wp2_with (first | ((with_reducible refine gate_callee (f := 9) rfl ?_); refine gl (some 69) Try.func9 #[] ?_; (with_reducible refine (samphirelaw21_awake.calls kj20  t402 hrT _ A38.out).mono ?_); rintro e w39 ⟨rfl, hb⟩; refine ⟨_, rfl, ?_⟩; replace HO_10 := am (Kd.R_below (pr HO_10.out) hb); replace HO_399004 := am (Kd.V_below (pv HO_399004.out) hb); replace BK389 := am (blk_below (pk BK389.out) hb); replace BK398 := am (blk_below (pk BK398.out) hb); replace BK401 := am (blk_below (pk BK401.out) hb); replace HB := am (below_step (pb HB) hb); (try clear hb); (try clear hb2); (try clear hk); (try clear hi)))
            go_ret
            exact ⟨by first | rfl | (simp [errW_none, errW_some] <;> rfl) | (simp [*, errW_none, errW_some] <;> rfl), pb HB⟩
           ·replace c37 := Bool.eq_false_iff.mpr c37
            subst c37
            have H1 : ((strata_Add.f kj20 x399000_2 x399001_2 x399002_2 x399003_2 x399004_2 ((rd_T35 l2 x50_2).f0) ((rd_T35 l2 x50_2).f1) ((rd_T35 l2 x50_2).f2)).bind fun bt403 => (samphirelaw21_StrataLabels.l1 kj20 (wrap64 (1 + (wrap64 (Int.tmod a1 8)))) x10_2 false l2 (l2.length : Int) x50_2 x10_2 (x10_2.length : Int) 0 a0_0 a0_1 bt403.1 bt403.2.1 bt403.2.2.1 bt403.2.2.2.1 bt403.2.2.2.2.1 ((rd_T35 l2 x50_2).f0) ((rd_T35 l2 x50_2).f1) ((rd_T35 l2 x50_2).f2) ((rd_T35 l2 x50_2).f3))) = some r := by rw [if_neg (show ¬ (false = true) by decide)] at H; exact H
            clear H
            have H := H1
            clear H1
            replace H := Option.bind_eq_some_iff.mp H
            obtain ⟨⟨t403, t404, t405, t406, t407, t410⟩, A400, H⟩ := H
            try dsimp only at H
            have A40 := am A400
            clear A400
            have H' := am H
            clear H
            have hnb41 := NB398_389.out
            have hnc41 := NB389_398.out
            have hnb42 := NB398_401.out
            have hnc42 := NB401_398.out
            obtain ⟨hcz43_0, hcz43_1, hcz43_2, hcz43_3, hcz43_4, hfz43_0, hfz43_1, hfz43_2, hfz43_3, hfz43_4⟩ := g5 BK398
            have hnb44 := NB401_389.out
            have hnc44 := NB389_401.out
            obtain ⟨hcz45_0, hcz45_1, hcz45_2, hcz45_3, hfz45_0, hfz45_1, hfz45_2, hfz45_3⟩ := g4 BK401
            obtain ⟨Ao46, co46, eo46⟩ := Kd.V_slice HO_399004.out
            subst eo46
            go_wp2_with (first | ((with_reducible refine gate_callee (f := 10) rfl ?_); refine gl (some 78) Try.func10 #[.agg #[.int .u64 x399000_2, .int .u64 x399001_2, .int .i64 x399002_2, .int .i64 x399003_2, .slice Ao46 x399004_2.length co46], .string ((rd_T35 l2 x50_2).f0), .string ((rd_T35 l2 x50_2).f1), .int .u64 ((rd_T35 l2 x50_2).f2)] ?_; (with_reducible refine (strata_Add.calls kj20 x399000_2 x399001_2 x399002_2 x399003_2 (fun k_ => (some k_ ≠ (u10 : Value).ownBlock ∧ (k_ ≠ gb389 ∧ (k_ ≠ gb398 ∧ k_ ≠ gb401)))) _ _ x399004_2 ((rd_T35 l2 x50_2).f0) ((rd_T35 l2 x50_2).f1) ((rd_T35 l2 x50_2).f2) t403 t404 t405 t406 t407 t410 _ ?side1 A40.out).mono ?_); (case side1 => exact HO_399004.out); rintro e w47 ⟨v408, rfl, ho0, hb⟩; refine ⟨_, rfl, ?_⟩; replace HO_399004 := am (Kd.V_below (pv HO_399004.out) hb); have HO409 := am (Kd.V_lower (Kd.V_mono (ok' := fun k_ => some k_ ≠ (u10 : Value).ownBlock ∧ k_ ≠ gb389 ∧ k_ ≠ gb398 ∧ k_ ≠ gb401) ho0 (fun k_ hk_ => ⟨Or.elim hk_ (fun hs_ => hs_.1) (fun hn_ => (Kd.fresh' (Kd.R_lt (pr HO_10.out)) k_ hn_)), Or.elim hk_ (fun hs_ => hs_.2.1) (fun hn_ => (Kd.freshB (g := gb389) (o := .cells #[.int .u64 a0_0, .int .u64 a0_1] 24 (0, 0)) (pk BK389.out) k_ hn_)), Or.elim hk_ (fun hs_ => hs_.2.2.1) (fun hn_ => (Kd.freshB (g := gb398) (o := .cells #[.int .u64 x399000_2, .int .u64 x399001_2, .int .i64 x399002_2, .int .i64 x399003_2, .slice Ao46 x399004_2.length co46] 28 (0, 0)) (pk BK398.out) k_ hn_)), Or.elim hk_ (fun hs_ => hs_.2.2.2) (fun hn_ => (Kd.freshB (g := gb401) (o := .cells #[.string ((rd_T35 l2 x50_2).f0), .string ((rd_T35 l2 x50_2).f1), .int .u64 ((rd_T35 l2 x50_2).f2), .int .u8 ((rd_T35 l2 x50_2).f3)] 35 (0, 0)) (pk BK401.out) k_ hn_))⟩)) (below_size (pb HB))); replace HO_10 := am (Kd.R_below (pr HO_10.out) hb); replace BK389 := am (blk_below (pk BK389.out) hb); replace BK398 := am (blk_below (pk BK398.out) hb); replace BK401 := am (blk_below (pk BK401.out) hb); replace HB := am (below_step (pb HB) hb); (try clear hb); (try clear hb2); (try clear hk); (try clear hi); (try clear ho0); obtain ⟨hcz48_0, hcz48_1, hcz48_2, hcz48_3, hcz48_4, hfz48_0, hfz48_1, hfz48_2, hfz48_3, hfz48_4⟩ := g5 BK398; obtain ⟨Ao49, co49, eo49⟩ := Kd.V_slice HO409.out; subst eo49; obtain ⟨Ao50, co50, eo50⟩ := Kd.R_slice HO_10.out; subst eo50))
            go_loopg [13, 83] kj20 (fun kq v13 v83 w' => ∃ (x13_4 : Bool) (x83_4 : Int), v13 = .bool x13_4 ∧ v83 = .int .i64 x83_4 ∧ Aside0 (samphirelaw21_StrataLabels.l1 kq (wrap64 (1 + (wrap64 (Int.tmod a1 8)))) x10_2 x13_4 l2 (l2.length : Int) x50_2 x10_2 (x10_2.length : Int) x83_4 a0_0 a0_1 t403 t404 t405 t406 t407 ((rd_T35 l2 x50_2).f0) ((rd_T35 l2 x50_2).f1) ((rd_T35 l2 x50_2).f2) ((rd_T35 l2 x50_2).f3) = some r) ∧ Aside0 (kq ≤ kj20) ∧ Aside0 (Kd.R Kd.string 9 w' w.heap.size (fun _ => True) (.slice Ao50 x10_2.length co50) x10_2) ∧ Aside0 (Kd.R Kd.string 9 w' w.heap.size (fun _ => True) (.slice Ao50 x10_2.length co50) x10_2) ∧ Aside0 (Kd.V k42 42 w' w.heap.size (fun k_ => some k_ ≠ ((.slice Ao50 x10_2.length co50) : Value).ownBlock ∧ some k_ ≠ ((.slice Ao50 x10_2.length co50) : Value).ownBlock ∧ k_ ≠ gb389 ∧ k_ ≠ gb398 ∧ k_ ≠ gb401) (.slice Ao49 t407.length co49) t407) ∧ Aside0 (w'.heap[gb389]? = some (.cells #[.int .u64 a0_0, .int .u64 a0_1] 24 (0, 0))) ∧ Aside0 (w'.heap[gb398]? = some (.cells #[.int .u64 t403, .int .u64 t404, .int .i64 t405, .int .i64 t406, (.slice Ao49 t407.length co49)] 28 (0, 0))) ∧ Aside0 (w'.heap[gb401]? = some (.cells #[.string ((rd_T35 l2 x50_2).f0), .string ((rd_T35 l2 x50_2).f1), .int .u64 ((rd_T35 l2 x50_2).f2), .int .u8 ((rd_T35 l2 x50_2).f3)] 35 (0, 0))) ∧ Aside0 (Below w.heap.size w w'))
            case atStart => exact ⟨(false), (0), (by first | rfl | (simp; done) | (simp [*]; done)), (by first | rfl | (simp; done) | (simp [*]; done)), H', ⟨Nat.le_refl _⟩, ⟨by refine pr ?_; exact Kd.R_mono (Kd.R_far (p := ⟨gb398, 4, none⟩) (Kd.R_far (p := ⟨gb398, 3, none⟩) (Kd.R_far (p := ⟨gb398, 2, none⟩) (Kd.R_far (p := ⟨gb398, 1, none⟩) (Kd.R_far (p := ⟨gb398, 0, none⟩) (Kd.R_types HO_10.out BK398.out (by decide)) (fun _ hk => hk.2) (.int .u64 t403)) (fun _ hk => hk.2) (.int .u64 t404)) (fun _ hk => hk.2) (.int .i64 t405)) (fun _ hk => hk.2) (.int .i64 t406)) (fun _ hk => hk.2) (.slice Ao49 t407.length co49)) (fun _ hk => trivial)⟩, ⟨by refine pr ?_; exact Kd.R_mono (Kd.R_far (p := ⟨gb398, 4, none⟩) (Kd.R_far (p := ⟨gb398, 3, none⟩) (Kd.R_far (p := ⟨gb398, 2, none⟩) (Kd.R_far (p := ⟨gb398, 1, none⟩) (Kd.R_far (p := ⟨gb398, 0, none⟩) (Kd.R_types HO_10.out BK398.out (by decide)) (fun _ hk => hk.2) (.int .u64 t403)) (fun _ hk => hk.2) (.int .u64 t404)) (fun _ hk => hk.2) (.int .i64 t405)) (fun _ hk => hk.2) (.int .i64 t406)) (fun _ hk => hk.2) (.slice Ao49 t407.length co49)) (fun _ hk => trivial)⟩, ⟨by refine pv ?_; exact Kd.V_mono (Kd.V_far (p := ⟨gb398, 4, none⟩) (Kd.V_far (p := ⟨gb398, 3, none⟩) (Kd.V_far (p := ⟨gb398, 2, none⟩) (Kd.V_far (p := ⟨gb398, 1, none⟩) (Kd.V_far (p := ⟨gb398, 0, none⟩) (Kd.V_mono HO409.out (fun k_ hk => (⟨hk, hk.2.2.1⟩ : _ ∧ k_ ≠ gb398))) (fun _ hk => hk.2) (.int .u64 t403)) (fun _ hk => hk.2) (.int .u64 t404)) (fun _ hk => hk.2) (.int .i64 t405)) (fun _ hk => hk.2) (.int .i64 t406)) (fun _ hk => hk.2) (.slice Ao49 t407.length co49)) (fun _ hk => ⟨hk.1.1, ⟨hk.1.1, ⟨hk.1.2.1, ⟨hk.1.2.2.1, hk.1.2.2.2⟩⟩⟩⟩)⟩, ⟨by refine pk ?_; refine blk_far ?_ NB389_398.out _; refine pk ?_; refine blk_far ?_ NB389_398.out _; refine pk ?_; refine blk_far ?_ NB389_398.out _; refine pk ?_; refine blk_far ?_ NB389_398.out _; refine pk ?_; refine blk_far ?_ NB389_398.out _; refine pk ?_; exact BK389.out⟩, ⟨by refine pk ?_; refine blk_put (cs := #[.int .u64 t403, .int .u64 t404, .int .i64 t405, .int .i64 t406, .slice Ao46 x399004_2.length co46]) ?_ 4 _ rfl; refine pk ?_; refine blk_put (cs := #[.int .u64 t403, .int .u64 t404, .int .i64 t405, .int .i64 x399003_2, .slice Ao46 x399004_2.length co46]) ?_ 3 _ rfl; refine pk ?_; refine blk_put (cs := #[.int .u64 t403, .int .u64 t404, .int .i64 x399002_2, .int .i64 x399003_2, .slice Ao46 x399004_2.length co46]) ?_ 2 _ rfl; refine pk ?_; refine blk_put (cs := #[.int .u64 t403, .int .u64 x399001_2, .int .i64 x399002_2, .int .i64 x399003_2, .slice Ao46 x399004_2.length co46]) ?_ 1 _ rfl; refine pk ?_; refine blk_put (cs := #[.int .u64 x399000_2, .int .u64 x399001_2, .int .i64 x399002_2, .int .i64 x399003_2, .slice Ao46 x399004_2.length co46]) ?_ 0 _ rfl; refine pk ?_; exact BK398.out⟩, ⟨by refine pk ?_; refine blk_far ?_ NB401_398.out _; refine pk ?_; refine blk_far ?_ NB401_398.out _; refine pk ?_; refine blk_far ?_ NB401_398.out _; refine pk ?_; refine blk_far ?_ NB401_398.out _; refine pk ?_; refine blk_far ?_ NB401_398.out _; refine pk ?_; exact BK401.out⟩, ⟨pb HB⟩⟩
            case round =>
             clear H'
             try clear c1
             try clear c2
             try clear p2
             try clear c3
             try clear c4
             try clear p4
             try clear q4
             try clear hx4
             try clear p6
             try clear c8
             try clear c9
             try clear c10
             try clear c13
             try clear c13b0
             try clear c13b1
             try clear c14
             try clear c15
             try clear c15b0
             try clear c15b1
             try clear c18
             try clear c18b0
             try clear c19
             try clear c19b0
             try clear c20
             try clear c20b0
             try clear c23
             try clear c24
             try clear c26
             try clear c26b0
             try clear c26b1
             try clear c27
             try clear c28
             try clear c30
             try clear c30b0
             try clear c30b1
             try clear c31
             try clear c32
             try clear c34
             try clear c35
             try clear c37
             try clear p40
             try clear q40
             try clear hx40
             try clear c41
             try clear c42
             try clear c44
             try clear hcz11_0 hcz11_1 hcz11_2 hcz11_3 hcz11_4
             try clear hcz25_0 hcz25_1 hcz25_2 hcz25_3
             try clear hcz29_0 hcz29_1 hcz29_2 hcz29_3
             try clear hcz33_0 hcz33_1 hcz33_2 hcz33_3
             try clear hcz36_0 hcz36_1 hcz36_2 hcz36_3
             try clear hcz43_0 hcz43_1 hcz43_2 hcz43_3 hcz43_4
             try clear hcz45_0 hcz45_1 hcz45_2 hcz45_3
             try clear hcz48_0 hcz48_1 hcz48_2 hcz48_3 hcz48_4
             try clear hcz7_0 hcz7_1
             try clear hfz11_0 hfz11_1 hfz11_2 hfz11_3 hfz11_4
             try clear hfz25_0 hfz25_1 hfz25_2 hfz25_3
             try clear hfz29_0 hfz29_1 hfz29_2 hfz29_3
             try clear hfz33_0 hfz33_1 hfz33_2 hfz33_3
             try clear hfz36_0 hfz36_1 hfz36_2 hfz36_3
             try clear hfz43_0 hfz43_1 hfz43_2 hfz43_3 hfz43_4
             try clear hfz45_0 hfz45_1 hfz45_2 hfz45_3
             try clear hfz48_0 hfz48_1 hfz48_2 hfz48_3 hfz48_4
             try clear hfz7_0 hfz7_1
             try clear hx400_0
             try clear hx400_1
             try clear hx400_2
             try clear hx400_3
             try clear p2
             try clear p4
             try clear p400
             try clear p6
             try clear q4
             try clear q400
             obtain ⟨x13_4, x83_4, rfl, rfl, HA, HK4, HO_10, HO_81, HO_399004, BK389, BK398, BK401, HB⟩ := hrel
             cases gk with
             | zero => exact absurd HA.out (by simp [samphirelaw21_StrataLabels.l1])
             | succ k4 =>
              have H := HA.out
              clear HA
              simp only [samphirelaw21_StrataLabels.l1] at H
              by_cases c51 : x83_4 < (x10_2.length : Int)
              ·rw [if_pos c51] at H
               have c51b0 : decide (x83_4 < (x10_2.length : Int)) = true := decide_eq_true c51
               clear c51
               by_cases c52 : 0 ≤ x83_4
               ·rw [if_pos c52] at H
                have c52b0 : decide (0 ≤ x83_4) = true := decide_eq_true c52
                clear c52
                by_cases c53 : x83_4 < (x10_2.length : Int)
                ·rw [if_pos c53] at H
                 have c53b0 : decide (x83_4 < (x10_2.length : Int)) = true := decide_eq_true c53
                 clear c53
                 by_cases c54 : x13_4 = true
                 ·subst c54
                  have H1 : (samphirelaw21_StrataLabels.l1 k4 (wrap64 (1 + (wrap64 (Int.tmod a1 8)))) x10_2 true l2 (l2.length : Int) x50_2 x10_2 (x10_2.length : Int) (wrap64 (x83_4 + 1)) a0_0 a0_1 t403 t404 t405 t406 t407 ((rd_T35 l2 x50_2).f0) ((rd_T35 l2 x50_2).f1) ((rd_T35 l2 x50_2).f2) ((rd_T35 l2 x50_2).f3)) = some r := by rw [if_pos rfl] at H; exact H
                  clear H
                  have H := H1
                  clear H1
                  have H' := am H
                  clear H
                  have p411 : 0 ≤ (x83_4 : Int) := of_decide_eq_true (by first | (with_reducible assumption) | assumption)
                  have q411 : x83_4 < (x10_2.length : Int) := of_decide_eq_true (by first | (with_reducible assumption) | assumption)
                  obtain ⟨ad411, e411, hx411_0⟩ := Kd.at_string (Kd.R_reads' HO_81.out).2.2 x83_4 p411 q411
                  cases e411
                  replace p411 := eq_true p411
                  replace q411 := eq_true q411
                  go_wp2
                  go_roundg k4
                  case measure => have := HJ4.out; have := HK2.out; have := HJ20.out; have := HK4.out; omega
                  case rel => exact ⟨(true), (wrap64 (x83_4 + 1)), (by first | rfl | (simp; done) | (simp [*]; done)), (by first | rfl | (simp; done) | (simp [*]; done)), H', ⟨by have := HJ4.out; have := HK2.out; have := HJ20.out; have := HK4.out; omega⟩, ⟨pr HO_10.out⟩, ⟨pr HO_81.out⟩, ⟨pv HO_399004.out⟩, ⟨pk BK389.out⟩, ⟨pk BK398.out⟩, ⟨pk BK401.out⟩, ⟨pb HB⟩⟩
                 ·replace c54 := Bool.eq_false_iff.mpr c54
                  subst c54
                  have H1 : (samphirelaw21_StrataLabels.l1 k4 (wrap64 (1 + (wrap64 (Int.tmod a1 8)))) x10_2 ((rdOf ByteArray.empty x10_2 x83_4).toList == ((rd_T35 l2 x50_2).f0).toList) l2 (l2.length : Int) x50_2 x10_2 (x10_2.length : Int) (wrap64 (x83_4 + 1)) a0_0 a0_1 t403 t404 t405 t406 t407 ((rd_T35 l2 x50_2).f0) ((rd_T35 l2 x50_2).f1) ((rd_T35 l2 x50_2).f2) ((rd_T35 l2 x50_2).f3)) = some r := by rw [if_neg (show ¬ (false = true) by decide)] at H; exact H
                  clear H
                  have H := H1
                  clear H1
                  have H' := am H
                  clear H
                  have p411 : 0 ≤ (x83_4 : Int) := of_decide_eq_true (by first | (with_reducible assumption) | assumption)
                  have q411 : x83_4 < (x10_2.length : Int) := of_decide_eq_true (by first | (with_reducible assumption) | assumption)
                  obtain ⟨ad411, e411, hx411_0⟩ := Kd.at_string (Kd.R_reads' HO_81.out).2.2 x83_4 p411 q411
                  cases e411
                  replace p411 := eq_true p411
                  replace q411 := eq_true q411
                  have hnb55 := NB401_389.out
                  have hnc55 := NB389_401.out
                  have hnb56 := NB401_398.out
                  have hnc56 := NB398_401.out
                  obtain ⟨hcz57_0, hcz57_1, hcz57_2, hcz57_3, hfz57_0, hfz57_1, hfz57_2, hfz57_3⟩ := g4 BK401
                  go_wp2
                  go_roundg k4
                  case measure => have := HJ4.out; have := HK2.out; have := HJ20.out; have := HK4.out; omega
                  case rel => exact ⟨(((rdOf ByteArray.empty x10_2 x83_4).toList == ((rd_T35 l2 x50_2).f0).toList)), (wrap64 (x83_4 + 1)), (by first | rfl | (simp; done) | (simp [*]; done)), (by first | rfl | (simp; done) | (simp [*]; done)), H', ⟨by have := HJ4.out; have := HK2.out; have := HJ20.out; have := HK4.out; omega⟩, ⟨pr HO_10.out⟩, ⟨pr HO_81.out⟩, ⟨pv HO_399004.out⟩, ⟨pk BK389.out⟩, ⟨pk BK398.out⟩, ⟨pk BK401.out⟩, ⟨pb HB⟩⟩
                ·rw [if_neg c53] at H
                 exact absurd H (by simp)
               ·rw [if_neg c52] at H
                exact absurd H (by simp)
              ·rw [if_neg c51] at H
               have c51b0 : decide (x83_4 < (x10_2.length : Int)) = false := decide_eq_false c51
               clear c51
               by_cases c58 : x13_4 = true
               ·subst c58
                have H1 : (samphirelaw21_StrataLabels.l0 k4 (wrap64 (1 + (wrap64 (Int.tmod a1 8)))) x10_2 l2 (l2.length : Int) (wrap64 (x50_2 + 1)) a0_0 a0_1 t403 t404 t405 t406 t407) = some r := by rw [if_pos rfl] at H; exact H
                clear H
                have H := H1
                clear H1
                have H' := am H
                clear H
                go_wp2
                go_roundg k4
                case measure => have := HJ4.out; have := HK2.out; have := HJ20.out; have := HK4.out; omega
                case rel => exact ⟨(x10_2), (wrap64 (x50_2 + 1)), (t403), (t404), (t405), (t406), (t407), (.slice Ao49 t407.length co49), (by first | rfl | (simp; done) | (simp [*]; done)), H', ⟨by have := HJ4.out; have := HK2.out; have := HJ20.out; have := HK4.out; omega⟩, ⟨pr HO_10.out⟩, ⟨by refine pv ?_; exact Kd.V_mono HO_399004.out (fun _ hk => ⟨hk.1, ⟨hk.2.2.1, hk.2.2.2.1⟩⟩)⟩, ⟨pk BK389.out⟩, ⟨pk BK398.out⟩, ⟨pb HB⟩⟩
               ·replace c58 := Bool.eq_false_iff.mpr c58
                subst c58
                have H1 : (if x10_2.length < 8796093022208 then (samphirelaw21_StrataLabels.l0 k4 (wrap64 (1 + (wrap64 (Int.tmod a1 8)))) (x10_2 ++ [((rd_T35 l2 x50_2).f0)]) l2 (l2.length : Int) (wrap64 (x50_2 + 1)) a0_0 a0_1 t403 t404 t405 t406 t407) else (none)) = some r := by rw [if_neg (show ¬ (false = true) by decide)] at H; exact H
                clear H
                have H := H1
                clear H1
                by_cases c59 : x10_2.length < 8796093022208
                ·rw [if_pos c59] at H
                 have LMc59 := am c59
                 clear c59
                 obtain ⟨y412, hy412⟩ : ∃ y_ : List ByteArray, y_ = (x10_2 ++ [((rd_T35 l2 x50_2).f0)]) := ⟨_, rfl⟩
                 replace H : (samphirelaw21_StrataLabels.l0 k4 (wrap64 (1 + (wrap64 (Int.tmod a1 8)))) y412 l2 (l2.length : Int) (wrap64 (x50_2 + 1)) a0_0 a0_1 t403 t404 t405 t406 t407) = some r := by first | (rw [hy412]; with_reducible exact H) | (have H2_ := (Option.bind_some _ _).symm.trans H; rw [hy412]; with_reducible exact H2_) | (have H2_ := (Option.bind_some _ _).symm.trans H; with_reducible exact H2_) | with_reducible exact H | (rw [hy412]; exact H) | exact H
                 have Ny412 := am hy412
                 clear hy412
                 have H' := am H
                 clear H
                 have hnb60 := NB401_389.out
                 have hnc60 := NB389_401.out
                 have hnb61 := NB401_398.out
                 have hnc61 := NB398_401.out
                 obtain ⟨hcz62_0, hcz62_1, hcz62_2, hcz62_3, hfz62_0, hfz62_1, hfz62_2, hfz62_3⟩ := g4 BK401
                 go_wp2_with (first | ((with_reducible refine gate_builtin (b := .append) (xs := #[.tmp 97, .tmp 100]) rfl ?_); (try (refine gate_guard (by rfl) ?_; dsimp only)); at_builtin; refine Kd.R_append Kd.string (w0 := w) w.heap.size rfl (.tmp 97) (.tmp 100) 33 9 (.string ⟨#[]⟩) 16 rfl Try.underlying33 info9 rfl (by decide) (by omega) (.slice Ao50 x10_2.length co50) x10_2 ((rd_T35 l2 x50_2).f0) [.string ((rd_T35 l2 x50_2).f0)] (fun _ => True) (fun _ => False) rfl rfl ?aP (fun _ hk => hk.elim) ?aF ?aO ?aB ?aS ?aL ?_; (case aP => exact rfl); (case aB => exact (pb HB)); (case aF => exact (fun _ _ => trivial)); (case aO => exact (pr HO_10.out)); (case aS => exact (below_size (pb HB))); (case aL => have := LMc59.out; omega); intro v413 w63 ho hb hg hat; rw [← Ny412.out] at ho; replace HO_399004 := am (Kd.V_afterv (ok := (fun k_ => k_ ≠ gb389 ∧ k_ ≠ gb398 ∧ k_ ≠ gb401)) (pv (Kd.V_mono HO_399004.out (fun _ hk => ⟨⟨hk.2.2.1, ⟨hk.2.2.2.1, hk.2.2.2.2⟩⟩, hk.1⟩))) hg hat); replace BK389 := am (blk_grown (g := gb389) (o := .cells #[.int .u64 a0_0, .int .u64 a0_1] 24 (0, 0)) (pk BK389.out) hg (Kd.R_ne HO_10.out BK389.out (by decide))); replace BK398 := am (blk_grown (g := gb398) (o := .cells #[.int .u64 t403, .int .u64 t404, .int .i64 t405, .int .i64 t406, .slice Ao49 t407.length co49] 28 (0, 0)) (pk BK398.out) hg (Kd.R_ne HO_10.out BK398.out (by decide))); replace BK401 := am (blk_grown (g := gb401) (o := .cells #[.string ((rd_T35 l2 x50_2).f0), .string ((rd_T35 l2 x50_2).f1), .int .u64 ((rd_T35 l2 x50_2).f2), .int .u8 ((rd_T35 l2 x50_2).f3)] 35 (0, 0)) (pk BK401.out) hg (Kd.R_ne HO_10.out BK401.out (by decide))); replace HB := am (hb); have HO414 := am (ho); clear HO_10; clear ho hb hg hat))
                 go_roundg k4
                 case measure => have := HJ4.out; have := HK2.out; have := HJ20.out; have := HK4.out; omega
                 case rel => exact ⟨(y412), (wrap64 (x50_2 + 1)), (t403), (t404), (t405), (t406), (t407), (.slice Ao49 t407.length co49), (by first | rfl | (simp; done) | (simp [*]; done)), H', ⟨by have := HJ4.out; have := HK2.out; have := HJ20.out; have := HK4.out; omega⟩, ⟨pr HO414.out⟩, ⟨by refine pv ?_; exact Kd.V_mono HO_399004.out (fun _ hk => ⟨hk.2, ⟨hk.1.1, hk.1.2.1⟩⟩)⟩, ⟨pk BK389.out⟩, ⟨pk BK398.out⟩, ⟨pb HB⟩⟩
                ·rw [if_neg c59] at H
                 exact absurd H (by simp)
        ·rw [if_neg c20] at H
         exact absurd H (by simp)
       ·rw [if_neg c19] at H
        exact absurd H (by simp)
      ·rw [if_neg c18] at H
       have c18b0 : decide (x50_2 < (l2.length : Int)) = false := decide_eq_false c18
       clear c18
       obtain ⟨ji64, hji64⟩ : ∃ j_ : Int, (mn (wrap64 (1 + (wrap64 (Int.tmod a1 8)))) (x10_2.length : Int)) = j_ := ⟨_, rfl⟩
       replace H : (if (x399004_2.length : Int) = (ji64) then (samphirelaw21_StrataLabels.l2 k2 (wrap64 (1 + (wrap64 (Int.tmod a1 8)))) x10_2 x10_2 (x10_2.length : Int) 0 a0_0 a0_1 x399000_2 x399001_2 x399002_2 x399003_2 x399004_2) else (some false)) = some r := by first | (rw [hji64] at H; exact H) | (simp only [hji64] at H ⊢; exact H)
       have hji64_ : (if (x10_2.length : Int) < (wrap64 (1 + (wrap64 (Int.tmod a1 8)))) then (x10_2.length : Int) else (wrap64 (1 + (wrap64 (Int.tmod a1 8))))) = ji64 := hji64
       by_cases c65 : (x399004_2.length : Int) = (ji64)
       ·rw [if_pos c65] at H
        have c65b0 : ((x399004_2.length : Int) == (ji64)) = true := beq_iff_eq.mpr c65
        have c65b1 : ((x399004_2.length : Int) != (ji64)) = false := bne_eq_false_iff_eq.mpr c65
        clear c65
        have H' := am H
        clear H
        have hnb66 := NB398_389.out
        have hnc66 := NB389_398.out
        obtain ⟨hcz67_0, hcz67_1, hcz67_2, hcz67_3, hcz67_4, hfz67_0, hfz67_1, hfz67_2, hfz67_3, hfz67_4⟩ := g5 BK398
        obtain ⟨Ao68, co68, eo68⟩ := Kd.V_slice HO_399004.out
        subst eo68
        obtain ⟨Ao69, co69, eo69⟩ := Kd.R_slice HO_10.out
        subst eo69
        go_wp2
        go_loopg [113] k2 (fun kq v113 w' => ∃ (x113_3 : Int), v113 = .int .i64 x113_3 ∧ Aside0 (samphirelaw21_StrataLabels.l2 kq (wrap64 (1 + (wrap64 (Int.tmod a1 8)))) x10_2 x10_2 (x10_2.length : Int) x113_3 a0_0 a0_1 x399000_2 x399001_2 x399002_2 x399003_2 x399004_2 = some r) ∧ Aside0 (kq ≤ k2) ∧ Aside0 (Kd.R Kd.string 9 w' w.heap.size (fun _ => True) (.slice Ao69 x10_2.length co69) x10_2) ∧ Aside0 (Kd.R Kd.string 9 w' w.heap.size (fun _ => True) (.slice Ao69 x10_2.length co69) x10_2) ∧ Aside0 (Kd.V k42 42 w' w.heap.size (fun k_ => some k_ ≠ ((.slice Ao69 x10_2.length co69) : Value).ownBlock ∧ some k_ ≠ ((.slice Ao69 x10_2.length co69) : Value).ownBlock ∧ k_ ≠ gb389 ∧ k_ ≠ gb398) (.slice Ao68 x399004_2.length co68) x399004_2) ∧ Aside0 (w'.heap[gb389]? = some (.cells #[.int .u64 a0_0, .int .u64 a0_1] 24 (0, 0))) ∧ Aside0 (w'.heap[gb398]? = some (.cells #[.int .u64 x399000_2, .int .u64 x399001_2, .int .i64 x399002_2, .int .i64 x399003_2, (.slice Ao68 x399004_2.length co68)] 28 (0, 0))) ∧ Aside0 (Below w.heap.size w w'))
        case atStart => exact ⟨(0), (by first | rfl | (simp; done) | (simp [*]; done)), H', ⟨Nat.le_refl _⟩, ⟨pr HO_10.out⟩, ⟨pr HO_10.out⟩, ⟨by refine pv ?_; exact Kd.V_mono HO_399004.out (fun _ hk => ⟨hk.1, ⟨hk.1, ⟨hk.2.1, hk.2.2⟩⟩⟩)⟩, ⟨pk BK389.out⟩, ⟨pk BK398.out⟩, ⟨pb HB⟩⟩
        case round =>
         clear H'
         try clear c1
         try clear c2
         try clear p2
         try clear c3
         try clear c4
         try clear p4
         try clear q4
         try clear hx4
         try clear c5
         try clear c6
         try clear p6
         try clear c8
         try clear c9
         try clear c10
         try clear c13
         try clear c13b0
         try clear c13b1
         try clear c14
         try clear c15
         try clear c15b0
         try clear c15b1
         try clear c18
         try clear c18b0
         try clear c19
         try clear c19b0
         try clear c20
         try clear c20b0
         try clear c23
         try clear c24
         try clear c26
         try clear c26b0
         try clear c26b1
         try clear c27
         try clear c28
         try clear c30
         try clear c30b0
         try clear c30b1
         try clear c31
         try clear c32
         try clear c34
         try clear c35
         try clear c37
         try clear p40
         try clear q40
         try clear hx40
         try clear c41
         try clear p41
         try clear q41
         try clear hx41
         try clear c42
         try clear c44
         try clear c51
         try clear c51b0
         try clear c52
         try clear c52b0
         try clear c53
         try clear c53b0
         try clear c54
         try clear c55
         try clear c56
         try clear c58
         try clear c59
         try clear c60
         try clear c61
         try clear p64
         try clear c65
         try clear c65b0
         try clear c65b1
         try clear c66
         try clear hcz11_0 hcz11_1 hcz11_2 hcz11_3 hcz11_4
         try clear hcz25_0 hcz25_1 hcz25_2 hcz25_3
         try clear hcz29_0 hcz29_1 hcz29_2 hcz29_3
         try clear hcz33_0 hcz33_1 hcz33_2 hcz33_3
         try clear hcz36_0 hcz36_1 hcz36_2 hcz36_3
         try clear hcz43_0 hcz43_1 hcz43_2 hcz43_3 hcz43_4
         try clear hcz45_0 hcz45_1 hcz45_2 hcz45_3
         try clear hcz48_0 hcz48_1 hcz48_2 hcz48_3 hcz48_4
         try clear hcz57_0 hcz57_1 hcz57_2 hcz57_3
         try clear hcz62_0 hcz62_1 hcz62_2 hcz62_3
         try clear hcz67_0 hcz67_1 hcz67_2 hcz67_3 hcz67_4
         try clear hcz7_0 hcz7_1
         try clear hfz11_0 hfz11_1 hfz11_2 hfz11_3 hfz11_4
         try clear hfz25_0 hfz25_1 hfz25_2 hfz25_3
         try clear hfz29_0 hfz29_1 hfz29_2 hfz29_3
         try clear hfz33_0 hfz33_1 hfz33_2 hfz33_3
         try clear hfz36_0 hfz36_1 hfz36_2 hfz36_3
         try clear hfz43_0 hfz43_1 hfz43_2 hfz43_3 hfz43_4
         try clear hfz45_0 hfz45_1 hfz45_2 hfz45_3
         try clear hfz48_0 hfz48_1 hfz48_2 hfz48_3 hfz48_4
         try clear hfz57_0 hfz57_1 hfz57_2 hfz57_3
         try clear hfz62_0 hfz62_1 hfz62_2 hfz62_3
         try clear hfz67_0 hfz67_1 hfz67_2 hfz67_3 hfz67_4
         try clear hfz7_0 hfz7_1
         try clear hx400_0
         try clear hx400_1
         try clear hx400_2
         try clear hx400_3
         try clear hx411_0
         try clear p2
         try clear p4
         try clear p40
         try clear p400
         try clear p411
         try clear p6
         try clear q4
         try clear q40
         try clear q400
         try clear q411
         obtain ⟨x113_3, rfl, HA, HK3, HO_10, HO_111, HO_399004, BK389, BK398, HB⟩ := hrel
         cases gk with
         | zero => exact absurd HA.out (by simp [samphirelaw21_StrataLabels.l2])
         | succ k3 =>
          have H := HA.out
          clear HA
          simp only [samphirelaw21_StrataLabels.l2] at H
          by_cases c70 : x113_3 < (x10_2.length : Int)
          ·rw [if_pos c70] at H
           have c70b0 : decide (x113_3 < (x10_2.length : Int)) = true := decide_eq_true c70
           clear c70
           by_cases c71 : 0 ≤ x113_3
           ·rw [if_pos c71] at H
            have c71b0 : decide (0 ≤ x113_3) = true := decide_eq_true c71
            clear c71
            by_cases c72 : x113_3 < (x10_2.length : Int)
            ·rw [if_pos c72] at H
             have c72b0 : decide (x113_3 < (x10_2.length : Int)) = true := decide_eq_true c72
             clear c72
             replace H := Option.bind_eq_some_iff.mp H
             obtain ⟨t417, A730, H⟩ := H
             try dsimp only at H
             have A73 := am A730
             clear A730
             have H' := am H
             clear H
             have p416 : 0 ≤ (x113_3 : Int) := of_decide_eq_true (by first | (with_reducible assumption) | assumption)
             have q416 : x113_3 < (x10_2.length : Int) := of_decide_eq_true (by first | (with_reducible assumption) | assumption)
             obtain ⟨ad416, e416, hx416_0⟩ := Kd.at_string (Kd.R_reads' HO_111.out).2.2 x113_3 p416 q416
             cases e416
             replace p416 := eq_true p416
             replace q416 := eq_true q416
             have hnb74 := NB389_398.out
             have hnc74 := NB398_389.out
             obtain ⟨hcz75_0, hcz75_1, hfz75_0, hfz75_1⟩ := g2 BK389
             go_wp2_with (first | ((with_reducible refine gate_callee (f := 11) rfl ?_); refine gl (some 119) Try.func11 #[.agg #[.int .u64 a0_0, .int .u64 a0_1], .string (rdOf ByteArray.empty x10_2 x113_3)] ?_; (with_reducible refine (samphireref05_Sum.calls k3 a0_0 a0_1 (rdOf ByteArray.empty x10_2 x113_3) t417 _ A73.out).mono ?_); rintro e w76 ⟨rfl, hb⟩; refine ⟨_, rfl, ?_⟩; replace HO_10 := am (Kd.R_below (pr HO_10.out) hb); replace HO_111 := am (Kd.R_below (pr HO_111.out) hb); replace HO_399004 := am (Kd.V_below (pv HO_399004.out) hb); replace BK389 := am (blk_below (pk BK389.out) hb); replace BK398 := am (blk_below (pk BK398.out) hb); replace HB := am (below_step (pb HB) hb); (try clear hb); (try clear hb2); (try clear hk); (try clear hi); obtain ⟨hcz77_0, hcz77_1, hcz77_2, hcz77_3, hcz77_4, hfz77_0, hfz77_1, hfz77_2, hfz77_3, hfz77_4⟩ := g5 BK398))
             go_loopg [18, 123] k3 (fun kq v18 v123 w' => ∃ (x18_4 : Bool) (x123_4 : Int), v18 = .bool x18_4 ∧ v123 = .int .i64 x123_4 ∧ Aside0 (samphirelaw21_StrataLabels.l3 kq (wrap64 (1 + (wrap64 (Int.tmod a1 8)))) x10_2 (rdOf ByteArray.empty x10_2 x113_3) x18_4 0 t417 x10_2 (x10_2.length : Int) x113_3 x399004_2 (x399004_2.length : Int) x123_4 a0_0 a0_1 x399000_2 x399001_2 x399002_2 x399003_2 x399004_2 = some r) ∧ Aside0 (kq ≤ k3) ∧ Aside0 (Kd.R Kd.string 9 w' w.heap.size (fun _ => True) (.slice (some ad416) x10_2.length co69) x10_2) ∧ Aside0 (Kd.R Kd.string 9 w' w.heap.size (fun _ => True) (.slice (some ad416) x10_2.length co69) x10_2) ∧ Aside0 (Kd.V k42 42 w' w.heap.size (fun k_ => some k_ ≠ ((.slice (some ad416) x10_2.length co69) : Value).ownBlock ∧ some k_ ≠ ((.slice (some ad416) x10_2.length co69) : Value).ownBlock ∧ k_ ≠ gb389 ∧ k_ ≠ gb398) (.slice Ao68 x399004_2.length co68) x399004_2) ∧ Aside0 (Kd.V k42 42 w' w.heap.size (fun k_ => some k_ ≠ ((.slice (some ad416) x10_2.length co69) : Value).ownBlock ∧ some k_ ≠ ((.slice (some ad416) x10_2.length co69) : Value).ownBlock ∧ k_ ≠ gb389 ∧ k_ ≠ gb398) (.slice Ao68 x399004_2.length co68) x399004_2) ∧ Aside0 (w'.heap[gb389]? = some (.cells #[.int .u64 a0_0, .int .u64 a0_1] 24 (0, 0))) ∧ Aside0 (w'.heap[gb398]? = some (.cells #[.int .u64 x399000_2, .int .u64 x399001_2, .int .i64 x399002_2, .int .i64 x399003_2, (.slice Ao68 x399004_2.length co68)] 28 (0, 0))) ∧ Aside0 (Below w.heap.size w w'))
             case atStart => exact ⟨(false), (0), (by first | rfl | (simp; done) | (simp [*]; done)), (by first | rfl | (simp; done) | (simp [*]; done)), H', ⟨Nat.le_refl _⟩, ⟨pr HO_10.out⟩, ⟨pr HO_111.out⟩, ⟨pv HO_399004.out⟩, ⟨pv HO_399004.out⟩, ⟨pk BK389.out⟩, ⟨pk BK398.out⟩, ⟨pb HB⟩⟩
             case round =>
              clear H'
              try clear c1
              try clear c2
              try clear p2
              try clear c3
              try clear c4
              try clear p4
              try clear q4
              try clear hx4
              try clear c5
              try clear c6
              try clear p6
              try clear c7
              try clear c8
              try clear c9
              try clear c10
              try clear c11
              try clear c13
              try clear c13b0
              try clear c13b1
              try clear c14
              try clear c15
              try clear c15b0
              try clear c15b1
              try clear c18
              try clear c18b0
              try clear c19
              try clear c19b0
              try clear c20
              try clear c20b0
              try clear c23
              try clear c24
              try clear c26
              try clear c26b0
              try clear c26b1
              try clear c27
              try clear c28
              try clear c30
              try clear c30b0
              try clear c30b1
              try clear c31
              try clear c32
              try clear c34
              try clear c35
              try clear c37
              try clear p40
              try clear q40
              try clear hx40
              try clear c41
              try clear p41
              try clear q41
              try clear hx41
              try clear c42
              try clear c44
              try clear c51
              try clear c51b0
              try clear c52
              try clear c52b0
              try clear c53
              try clear c53b0
              try clear c54
              try clear c55
              try clear c56
              try clear c58
              try clear c59
              try clear c60
              try clear c61
              try clear p64
              try clear c65
              try clear c65b0
              try clear c65b1
              try clear c66
              try clear c70
              try clear c70b0
              try clear c71
              try clear c71b0
              try clear c72
              try clear c72b0
              try clear c74
              try clear hcz11_0 hcz11_1 hcz11_2 hcz11_3 hcz11_4
              try clear hcz25_0 hcz25_1 hcz25_2 hcz25_3
              try clear hcz29_0 hcz29_1 hcz29_2 hcz29_3
              try clear hcz33_0 hcz33_1 hcz33_2 hcz33_3
              try clear hcz36_0 hcz36_1 hcz36_2 hcz36_3
              try clear hcz43_0 hcz43_1 hcz43_2 hcz43_3 hcz43_4
              try clear hcz45_0 hcz45_1 hcz45_2 hcz45_3
              try clear hcz48_0 hcz48_1 hcz48_2 hcz48_3 hcz48_4
              try clear hcz57_0 hcz57_1 hcz57_2 hcz57_3
              try clear hcz62_0 hcz62_1 hcz62_2 hcz62_3
              try clear hcz67_0 hcz67_1 hcz67_2 hcz67_3 hcz67_4
              try clear hcz75_0 hcz75_1
              try clear hcz77_0 hcz77_1 hcz77_2 hcz77_3 hcz77_4
              try clear hcz7_0 hcz7_1
              try clear hfz11_0 hfz11_1 hfz11_2 hfz11_3 hfz11_4
              try clear hfz25_0 hfz25_1 hfz25_2 hfz25_3
              try clear hfz29_0 hfz29_1 hfz29_2 hfz29_3
              try clear hfz33_0 hfz33_1 hfz33_2 hfz33_3
              try clear hfz36_0 hfz36_1 hfz36_2 hfz36_3
              try clear hfz43_0 hfz43_1 hfz43_2 hfz43_3 hfz43_4
              try clear hfz45_0 hfz45_1 hfz45_2 hfz45_3
              try clear hfz48_0 hfz48_1 hfz48_2 hfz48_3 hfz48_4
              try clear hfz57_0 hfz57_1 hfz57_2 hfz57_3
              try clear hfz62_0 hfz62_1 hfz62_2 hfz62_3
              try clear hfz67_0 hfz67_1 hfz67_2 hfz67_3 hfz67_4
              try clear hfz75_0 hfz75_1
              try clear hfz77_0 hfz77_1 hfz77_2 hfz77_3 hfz77_4
              try clear hfz7_0 hfz7_1
              try clear hx400_0
              try clear hx400_1
              try clear hx400_2
              try clear hx400_3
              try clear hx411_0
              try clear hx416_0
              try clear p2
              try clear p4
              try clear p40
              try clear p400
              try clear p41
              try clear p411
              try clear p416
              try clear p6
              try clear p64
              try clear q4
              try clear q40
              try clear q400
              try clear q41
              try clear q411
              try clear q416
              obtain ⟨x18_4, x123_4, rfl, rfl, HA, HK4, HO_10, HO_111, HO_121, HO_399004, BK389, BK398, HB⟩ := hrel
              cases gk with
              | zero => exact absurd HA.out (by simp [samphirelaw21_StrataLabels.l3])
              | succ k4 =>
               have H := HA.out
               clear HA
               simp only [samphirelaw21_StrataLabels.l3] at H
               by_cases c78 : x123_4 < (x399004_2.length : Int)
               ·rw [if_pos c78] at H
                have c78b0 : decide (x123_4 < (x399004_2.length : Int)) = true := decide_eq_true c78
                clear c78
                by_cases c79 : 0 ≤ x123_4
                ·rw [if_pos c79] at H
                 have c79b0 : decide (0 ≤ x123_4) = true := decide_eq_true c79
                 clear c79
                 by_cases c80 : x123_4 < (x399004_2.length : Int)
                 ·rw [if_pos c80] at H
                  have c80b0 : decide (x123_4 < (x399004_2.length : Int)) = true := decide_eq_true c80
                  clear c80
                  by_cases c81 : x18_4 = true
                  ·subst c81
                   have H1 : (samphirelaw21_StrataLabels.l3 k4 (wrap64 (1 + (wrap64 (Int.tmod a1 8)))) x10_2 (rdOf ByteArray.empty x10_2 x113_3) true 0 t417 x10_2 (x10_2.length : Int) x113_3 x399004_2 (x399004_2.length : Int) (wrap64 (x123_4 + 1)) a0_0 a0_1 x399000_2 x399001_2 x399002_2 x399003_2 x399004_2) = some r := by rw [if_pos rfl] at H; exact H
                   clear H
                   have H := H1
                   clear H1
                   have H' := am H
                   clear H
                   have p418 : 0 ≤ (x123_4 : Int) := of_decide_eq_true (by first | (with_reducible assumption) | assumption)
                   have q418 : x123_4 < (x399004_2.length : Int) := of_decide_eq_true (by first | (with_reducible assumption) | assumption)
                   obtain ⟨ad418, A418_5, c418_5, e418, hx418_0, hx418_1, hx418_2, hx418_3, hx418_4, hx418_5, hl418_5, hi418_5⟩ := at_T42 (Kd.V_reads' HO_121.out).2.2 x123_4 p418 q418
                   cases e418
                   obtain ⟨ce418, hce418, hMe418, hcc418⟩ := Kd.V_get HO_121.out z42 x123_4 p418 (by first | exact q418 | exact of_decide_eq_true (by first | (with_reducible assumption) | assumption) | (have e_ := (Kd.V_reads' HO_121.out).1; omega))
                   obtain ⟨ua418_5, uc418_5, rfl, ul418_5, ge418_5⟩ := k42_openF hMe418
                   have hv418_5 := hcc418 5 _ rfl
                   rw [add_field _ _ 5 (by omega)] at hv418_5
                   replace hv418_5 := Option.some.inj (hv418_5.symm.trans hx418_5)
                   injection hv418_5 with hva_ hvn_ hvc_
                   rw [hva_] at ge418_5
                   rw [hvc_] at ul418_5
                   have HL418_5 := am (show Kd.V k87 87 _ w.heap.size _ _ ((rd_T42 x399004_2 x123_4).f2.f2) from Kd.V_mk ul418_5 ge418_5)
                   clear hva_ hvn_ hvc_ ge418_5 ul418_5 hcc418 hce418
                   have HR418_5 := am hi418_5
                   have HC418_5 := am hl418_5
                   clear hi418_5 hl418_5
                   replace p418 := eq_true p418
                   replace q418 := eq_true q418
                   go_wp2_with (first | ((with_reducible refine gate_dst (N := 22) rfl ?_); (try (refine gate_guard (by rfl) ?_; dsimp only)); refine be 22 #[.string (⟨#[]⟩ : ByteArray), .int .u64 0, .int .u64 0, .int .u64 0, .int .i64 0, .slice none 0 0] 42 ?_; intro gb419 hg w82 hbox hb; replace HO_10 := am (Kd.R_below (pr HO_10.out) hb); replace HO_111 := am (Kd.R_below (pr HO_111.out) hb); replace HO_121 := am (Kd.V_below (Kd.V_elderB (pv HO_121.out) gb419 (Nat.le_of_eq hg.symm)) hb); replace HO_399004 := am (Kd.V_below (Kd.V_elderB (pv HO_399004.out) gb419 (Nat.le_of_eq hg.symm)) hb); replace HL418_5 := am (Kd.V_below (Kd.V_elderB (pv HL418_5.out) gb419 (Nat.le_of_eq hg.symm)) hb); replace HR418_5 := am (Kd.C_below (by repeat (first | (with_reducible exact HR418_5.out) | (with_reducible refine Kd.C_alloc ?_ _) | (with_reducible refine Kd.C_drewN ?_ _) | (with_reducible refine Kd.C_drew ?_) | exact HR418_5.out)) hb); have BK419 := am (hbox); have GW419 := am ((pg hg HB : w.heap.size ≤ gb419)); have GE419 := am ((pg hg HB : w.heap.size ≤ gb419)); replace HB := am (below_step (pb HB) hb); obtain ⟨NB389_419, NB419_389, hnc83, hnb83⟩ := pm hg BK389; replace BK389 := am (blk_below (pk BK389.out) hb); obtain ⟨NB398_419, NB419_398, hnc84, hnb84⟩ := pm hg BK398; replace BK398 := am (blk_below (pk BK398.out) hb); clear hb hbox hg; obtain ⟨hcz85_0, hcz85_1, hcz85_2, hcz85_3, hcz85_4, hcz85_5, hfz85_0, hfz85_1, hfz85_2, hfz85_3, hfz85_4, hfz85_5⟩ := g6 BK419))
                   go_roundg k4
                   case measure => have := HJ4.out; have := HK2.out; have := HK3.out; have := HK4.out; omega
                   case rel => exact ⟨(true), (wrap64 (x123_4 + 1)), (by first | rfl | (simp; done) | (simp [*]; done)), (by first | rfl | (simp; done) | (simp [*]; done)), H', ⟨by have := HJ4.out; have := HK2.out; have := HK3.out; have := HK4.out; omega⟩, ⟨by refine pr ?_; exact Kd.R_mono (Kd.R_far (p := ⟨gb419, 5, none⟩) (Kd.R_far (p := ⟨gb419, 4, none⟩) (Kd.R_far (p := ⟨gb419, 3, none⟩) (Kd.R_far (p := ⟨gb419, 2, none⟩) (Kd.R_far (p := ⟨gb419, 1, none⟩) (Kd.R_far (p := ⟨gb419, 0, none⟩) (Kd.R_types HO_10.out BK419.out (by decide)) (fun _ hk => hk.2) (.string ((rd_T42 x399004_2 x123_4).f0))) (fun _ hk => hk.2) (.int .u64 ((rd_T42 x399004_2 x123_4).f1))) (fun _ hk => hk.2) (.int .u64 ((rd_T42 x399004_2 x123_4).f2.f0.f0))) (fun _ hk => hk.2) (.int .u64 ((rd_T42 x399004_2 x123_4).f2.f0.f1))) (fun _ hk => hk.2) (.int .i64 ((rd_T42 x399004_2 x123_4).f2.f1))) (fun _ hk => hk.2) (.slice A418_5 ((rd_T42 x399004_2 x123_4).f2.f2).length c418_5)) (fun _ hk => trivial)⟩, ⟨by refine pr ?_; exact Kd.R_mono (Kd.R_far (p := ⟨gb419, 5, none⟩) (Kd.R_far (p := ⟨gb419, 4, none⟩) (Kd.R_far (p := ⟨gb419, 3, none⟩) (Kd.R_far (p := ⟨gb419, 2, none⟩) (Kd.R_far (p := ⟨gb419, 1, none⟩) (Kd.R_far (p := ⟨gb419, 0, none⟩) (Kd.R_types HO_111.out BK419.out (by decide)) (fun _ hk => hk.2) (.string ((rd_T42 x399004_2 x123_4).f0))) (fun _ hk => hk.2) (.int .u64 ((rd_T42 x399004_2 x123_4).f1))) (fun _ hk => hk.2) (.int .u64 ((rd_T42 x399004_2 x123_4).f2.f0.f0))) (fun _ hk => hk.2) (.int .u64 ((rd_T42 x399004_2 x123_4).f2.f0.f1))) (fun _ hk => hk.2) (.int .i64 ((rd_T42 x399004_2 x123_4).f2.f1))) (fun _ hk => hk.2) (.slice A418_5 ((rd_T42 x399004_2 x123_4).f2.f2).length c418_5)) (fun _ hk => trivial)⟩, ⟨by refine pv ?_; exact Kd.V_mono (Kd.V_far (p := ⟨gb419, 5, none⟩) (Kd.V_far (p := ⟨gb419, 4, none⟩) (Kd.V_far (p := ⟨gb419, 3, none⟩) (Kd.V_far (p := ⟨gb419, 2, none⟩) (Kd.V_far (p := ⟨gb419, 1, none⟩) (Kd.V_far (p := ⟨gb419, 0, none⟩) (Kd.V_mono HO_121.out (fun k_ hk => (⟨hk, hk.2⟩ : _ ∧ k_ ≠ gb419))) (fun _ hk => hk.2) (.string ((rd_T42 x399004_2 x123_4).f0))) (fun _ hk => hk.2) (.int .u64 ((rd_T42 x399004_2 x123_4).f1))) (fun _ hk => hk.2) (.int .u64 ((rd_T42 x399004_2 x123_4).f2.f0.f0))) (fun _ hk => hk.2) (.int .u64 ((rd_T42 x399004_2 x123_4).f2.f0.f1))) (fun _ hk => hk.2) (.int .i64 ((rd_T42 x399004_2 x123_4).f2.f1))) (fun _ hk => hk.2) (.slice A418_5 ((rd_T42 x399004_2 x123_4).f2.f2).length c418_5)) (fun _ hk => ⟨hk.1.1.1, ⟨hk.1.1.2.1, ⟨hk.1.1.2.2.1, hk.1.1.2.2.2⟩⟩⟩)⟩, ⟨by refine pv ?_; exact Kd.V_mono (Kd.V_far (p := ⟨gb419, 5, none⟩) (Kd.V_far (p := ⟨gb419, 4, none⟩) (Kd.V_far (p := ⟨gb419, 3, none⟩) (Kd.V_far (p := ⟨gb419, 2, none⟩) (Kd.V_far (p := ⟨gb419, 1, none⟩) (Kd.V_far (p := ⟨gb419, 0, none⟩) (Kd.V_mono HO_399004.out (fun k_ hk => (⟨hk, hk.2⟩ : _ ∧ k_ ≠ gb419))) (fun _ hk => hk.2) (.string ((rd_T42 x399004_2 x123_4).f0))) (fun _ hk => hk.2) (.int .u64 ((rd_T42 x399004_2 x123_4).f1))) (fun _ hk => hk.2) (.int .u64 ((rd_T42 x399004_2 x123_4).f2.f0.f0))) (fun _ hk => hk.2) (.int .u64 ((rd_T42 x399004_2 x123_4).f2.f0.f1))) (fun _ hk => hk.2) (.int .i64 ((rd_T42 x399004_2 x123_4).f2.f1))) (fun _ hk => hk.2) (.slice A418_5 ((rd_T42 x399004_2 x123_4).f2.f2).length c418_5)) (fun _ hk => ⟨hk.1.1.1, ⟨hk.1.1.2.1, ⟨hk.1.1.2.2.1, hk.1.1.2.2.2⟩⟩⟩)⟩, ⟨by refine pk ?_; refine blk_far ?_ NB389_419.out _; refine pk ?_; refine blk_far ?_ NB389_419.out _; refine pk ?_; refine blk_far ?_ NB389_419.out _; refine pk ?_; refine blk_far ?_ NB389_419.out _; refine pk ?_; refine blk_far ?_ NB389_419.out _; refine pk ?_; refine blk_far ?_ NB389_419.out _; refine pk ?_; exact BK389.out⟩, ⟨by refine pk ?_; refine blk_far ?_ NB398_419.out _; refine pk ?_; refine blk_far ?_ NB398_419.out _; refine pk ?_; refine blk_far ?_ NB398_419.out _; refine pk ?_; refine blk_far ?_ NB398_419.out _; refine pk ?_; refine blk_far ?_ NB398_419.out _; refine pk ?_; refine blk_far ?_ NB398_419.out _; refine pk ?_; exact BK398.out⟩, ⟨pb HB⟩⟩
                  ·replace c81 := Bool.eq_false_iff.mpr c81
                   subst c81
                   have H1 : (samphirelaw21_StrataLabels.l3 k4 (wrap64 (1 + (wrap64 (Int.tmod a1 8)))) x10_2 (rdOf ByteArray.empty x10_2 x113_3) (((rd_T42 x399004_2 x123_4).f0).toList == (rdOf ByteArray.empty x10_2 x113_3).toList) 0 t417 x10_2 (x10_2.length : Int) x113_3 x399004_2 (x399004_2.length : Int) (wrap64 (x123_4 + 1)) a0_0 a0_1 x399000_2 x399001_2 x399002_2 x399003_2 x399004_2) = some r := by rw [if_neg (show ¬ (false = true) by decide)] at H; exact H
                   clear H
                   have H := H1
                   clear H1
                   have H' := am H
                   clear H
                   have p418 : 0 ≤ (x123_4 : Int) := of_decide_eq_true (by first | (with_reducible assumption) | assumption)
                   have q418 : x123_4 < (x399004_2.length : Int) := of_decide_eq_true (by first | (with_reducible assumption) | assumption)
                   obtain ⟨ad418, A418_5, c418_5, e418, hx418_0, hx418_1, hx418_2, hx418_3, hx418_4, hx418_5, hl418_5, hi418_5⟩ := at_T42 (Kd.V_reads' HO_121.out).2.2 x123_4 p418 q418
                   cases e418
                   obtain ⟨ce418, hce418, hMe418, hcc418⟩ := Kd.V_get HO_121.out z42 x123_4 p418 (by first | exact q418 | exact of_decide_eq_true (by first | (with_reducible assumption) | assumption) | (have e_ := (Kd.V_reads' HO_121.out).1; omega))
                   obtain ⟨ua418_5, uc418_5, rfl, ul418_5, ge418_5⟩ := k42_openF hMe418
                   have hv418_5 := hcc418 5 _ rfl
                   rw [add_field _ _ 5 (by omega)] at hv418_5
                   replace hv418_5 := Option.some.inj (hv418_5.symm.trans hx418_5)
                   injection hv418_5 with hva_ hvn_ hvc_
                   rw [hva_] at ge418_5
                   rw [hvc_] at ul418_5
                   have HL418_5 := am (show Kd.V k87 87 _ w.heap.size _ _ ((rd_T42 x399004_2 x123_4).f2.f2) from Kd.V_mk ul418_5 ge418_5)
                   clear hva_ hvn_ hvc_ ge418_5 ul418_5 hcc418 hce418
                   have HR418_5 := am hi418_5
                   have HC418_5 := am hl418_5
                   clear hi418_5 hl418_5
                   replace p418 := eq_true p418
                   replace q418 := eq_true q418
                   go_wp2_with (first | ((with_reducible refine gate_dst (N := 22) rfl ?_); (try (refine gate_guard (by rfl) ?_; dsimp only)); refine be 22 #[.string (⟨#[]⟩ : ByteArray), .int .u64 0, .int .u64 0, .int .u64 0, .int .i64 0, .slice none 0 0] 42 ?_; intro gb419 hg w86 hbox hb; replace HO_10 := am (Kd.R_below (pr HO_10.out) hb); replace HO_111 := am (Kd.R_below (pr HO_111.out) hb); replace HO_121 := am (Kd.V_below (Kd.V_elderB (pv HO_121.out) gb419 (Nat.le_of_eq hg.symm)) hb); replace HO_399004 := am (Kd.V_below (Kd.V_elderB (pv HO_399004.out) gb419 (Nat.le_of_eq hg.symm)) hb); replace HL418_5 := am (Kd.V_below (Kd.V_elderB (pv HL418_5.out) gb419 (Nat.le_of_eq hg.symm)) hb); replace HR418_5 := am (Kd.C_below (by repeat (first | (with_reducible exact HR418_5.out) | (with_reducible refine Kd.C_alloc ?_ _) | (with_reducible refine Kd.C_drewN ?_ _) | (with_reducible refine Kd.C_drew ?_) | exact HR418_5.out)) hb); have BK419 := am (hbox); have GW419 := am ((pg hg HB : w.heap.size ≤ gb419)); have GE419 := am ((pg hg HB : w.heap.size ≤ gb419)); replace HB := am (below_step (pb HB) hb); obtain ⟨NB389_419, NB419_389, hnc87, hnb87⟩ := pm hg BK389; replace BK389 := am (blk_below (pk BK389.out) hb); obtain ⟨NB398_419, NB419_398, hnc88, hnb88⟩ := pm hg BK398; replace BK398 := am (blk_below (pk BK398.out) hb); clear hb hbox hg; obtain ⟨hcz89_0, hcz89_1, hcz89_2, hcz89_3, hcz89_4, hcz89_5, hfz89_0, hfz89_1, hfz89_2, hfz89_3, hfz89_4, hfz89_5⟩ := g6 BK419))
                   go_roundg k4
                   case measure => have := HJ4.out; have := HK2.out; have := HK3.out; have := HK4.out; omega
                   case rel => exact ⟨((((rd_T42 x399004_2 x123_4).f0).toList == (rdOf ByteArray.empty x10_2 x113_3).toList)), (wrap64 (x123_4 + 1)), (by first | rfl | (simp; done) | (simp [*]; done)), (by first | rfl | (simp; done) | (simp [*]; done)), H', ⟨by have := HJ4.out; have := HK2.out; have := HK3.out; have := HK4.out; omega⟩, ⟨by refine pr ?_; exact Kd.R_mono (Kd.R_far (p := ⟨gb419, 5, none⟩) (Kd.R_far (p := ⟨gb419, 4, none⟩) (Kd.R_far (p := ⟨gb419, 3, none⟩) (Kd.R_far (p := ⟨gb419, 2, none⟩) (Kd.R_far (p := ⟨gb419, 1, none⟩) (Kd.R_far (p := ⟨gb419, 0, none⟩) (Kd.R_types HO_10.out BK419.out (by decide)) (fun _ hk => hk.2) (.string ((rd_T42 x399004_2 x123_4).f0))) (fun _ hk => hk.2) (.int .u64 ((rd_T42 x399004_2 x123_4).f1))) (fun _ hk => hk.2) (.int .u64 ((rd_T42 x399004_2 x123_4).f2.f0.f0))) (fun _ hk => hk.2) (.int .u64 ((rd_T42 x399004_2 x123_4).f2.f0.f1))) (fun _ hk => hk.2) (.int .i64 ((rd_T42 x399004_2 x123_4).f2.f1))) (fun _ hk => hk.2) (.slice A418_5 ((rd_T42 x399004_2 x123_4).f2.f2).length c418_5)) (fun _ hk => trivial)⟩, ⟨by refine pr ?_; exact Kd.R_mono (Kd.R_far (p := ⟨gb419, 5, none⟩) (Kd.R_far (p := ⟨gb419, 4, none⟩) (Kd.R_far (p := ⟨gb419, 3, none⟩) (Kd.R_far (p := ⟨gb419, 2, none⟩) (Kd.R_far (p := ⟨gb419, 1, none⟩) (Kd.R_far (p := ⟨gb419, 0, none⟩) (Kd.R_types HO_111.out BK419.out (by decide)) (fun _ hk => hk.2) (.string ((rd_T42 x399004_2 x123_4).f0))) (fun _ hk => hk.2) (.int .u64 ((rd_T42 x399004_2 x123_4).f1))) (fun _ hk => hk.2) (.int .u64 ((rd_T42 x399004_2 x123_4).f2.f0.f0))) (fun _ hk => hk.2) (.int .u64 ((rd_T42 x399004_2 x123_4).f2.f0.f1))) (fun _ hk => hk.2) (.int .i64 ((rd_T42 x399004_2 x123_4).f2.f1))) (fun _ hk => hk.2) (.slice A418_5 ((rd_T42 x399004_2 x123_4).f2.f2).length c418_5)) (fun _ hk => trivial)⟩, ⟨by refine pv ?_; exact Kd.V_mono (Kd.V_far (p := ⟨gb419, 5, none⟩) (Kd.V_far (p := ⟨gb419, 4, none⟩) (Kd.V_far (p := ⟨gb419, 3, none⟩) (Kd.V_far (p := ⟨gb419, 2, none⟩) (Kd.V_far (p := ⟨gb419, 1, none⟩) (Kd.V_far (p := ⟨gb419, 0, none⟩) (Kd.V_mono HO_121.out (fun k_ hk => (⟨hk, hk.2⟩ : _ ∧ k_ ≠ gb419))) (fun _ hk => hk.2) (.string ((rd_T42 x399004_2 x123_4).f0))) (fun _ hk => hk.2) (.int .u64 ((rd_T42 x399004_2 x123_4).f1))) (fun _ hk => hk.2) (.int .u64 ((rd_T42 x399004_2 x123_4).f2.f0.f0))) (fun _ hk => hk.2) (.int .u64 ((rd_T42 x399004_2 x123_4).f2.f0.f1))) (fun _ hk => hk.2) (.int .i64 ((rd_T42 x399004_2 x123_4).f2.f1))) (fun _ hk => hk.2) (.slice A418_5 ((rd_T42 x399004_2 x123_4).f2.f2).length c418_5)) (fun _ hk => ⟨hk.1.1.1, ⟨hk.1.1.2.1, ⟨hk.1.1.2.2.1, hk.1.1.2.2.2⟩⟩⟩)⟩, ⟨by refine pv ?_; exact Kd.V_mono (Kd.V_far (p := ⟨gb419, 5, none⟩) (Kd.V_far (p := ⟨gb419, 4, none⟩) (Kd.V_far (p := ⟨gb419, 3, none⟩) (Kd.V_far (p := ⟨gb419, 2, none⟩) (Kd.V_far (p := ⟨gb419, 1, none⟩) (Kd.V_far (p := ⟨gb419, 0, none⟩) (Kd.V_mono HO_399004.out (fun k_ hk => (⟨hk, hk.2⟩ : _ ∧ k_ ≠ gb419))) (fun _ hk => hk.2) (.string ((rd_T42 x399004_2 x123_4).f0))) (fun _ hk => hk.2) (.int .u64 ((rd_T42 x399004_2 x123_4).f1))) (fun _ hk => hk.2) (.int .u64 ((rd_T42 x399004_2 x123_4).f2.f0.f0))) (fun _ hk => hk.2) (.int .u64 ((rd_T42 x399004_2 x123_4).f2.f0.f1))) (fun _ hk => hk.2) (.int .i64 ((rd_T42 x399004_2 x123_4).f2.f1))) (fun _ hk => hk.2) (.slice A418_5 ((rd_T42 x399004_2 x123_4).f2.f2).length c418_5)) (fun _ hk => ⟨hk.1.1.1, ⟨hk.1.1.2.1, ⟨hk.1.1.2.2.1, hk.1.1.2.2.2⟩⟩⟩)⟩, ⟨by refine pk ?_; refine blk_far ?_ NB389_419.out _; refine pk ?_; refine blk_far ?_ NB389_419.out _; refine pk ?_; refine blk_far ?_ NB389_419.out _; refine pk ?_; refine blk_far ?_ NB389_419.out _; refine pk ?_; refine blk_far ?_ NB389_419.out _; refine pk ?_; refine blk_far ?_ NB389_419.out _; refine pk ?_; exact BK389.out⟩, ⟨by refine pk ?_; refine blk_far ?_ NB398_419.out _; refine pk ?_; refine blk_far ?_ NB398_419.out _; refine pk ?_; refine blk_far ?_ NB398_419.out _; refine pk ?_; refine blk_far ?_ NB398_419.out _; refine pk ?_; refine blk_far ?_ NB398_419.out _; refine pk ?_; refine blk_far ?_ NB398_419.out _; refine pk ?_; exact BK398.out⟩, ⟨pb HB⟩⟩
                 ·rw [if_neg c80] at H
                  exact absurd H (by simp)
                ·rw [if_neg c79] at H
                 exact absurd H (by simp)
               ·rw [if_neg c78] at H
                have c78b0 : decide (x123_4 < (x399004_2.length : Int)) = false := decide_eq_false c78
                clear c78
                have H' := am H
                clear H
                go_wp2
                go_loopg [19, 137] k4 (fun kq v19 v137 w' => ∃ (x19_5 : Int) (x137_5 : Int), v19 = .int .i64 x19_5 ∧ v137 = .int .i64 x137_5 ∧ Aside0 (samphirelaw21_StrataLabels.l4 kq (wrap64 (1 + (wrap64 (Int.tmod a1 8)))) x10_2 (rdOf ByteArray.empty x10_2 x113_3) x18_4 x19_5 t417 x10_2 (x10_2.length : Int) x113_3 x10_2 (x10_2.length : Int) x137_5 a0_0 a0_1 x399000_2 x399001_2 x399002_2 x399003_2 x399004_2 = some r) ∧ Aside0 (kq ≤ k4) ∧ Aside0 (Kd.R Kd.string 9 w' w.heap.size (fun _ => True) (.slice (some ad416) x10_2.length co69) x10_2) ∧ Aside0 (Kd.R Kd.string 9 w' w.heap.size (fun _ => True) (.slice (some ad416) x10_2.length co69) x10_2) ∧ Aside0 (Kd.R Kd.string 9 w' w.heap.size (fun _ => True) (.slice (some ad416) x10_2.length co69) x10_2) ∧ Aside0 (Kd.V k42 42 w' w.heap.size (fun k_ => some k_ ≠ ((.slice (some ad416) x10_2.length co69) : Value).ownBlock ∧ some k_ ≠ ((.slice (some ad416) x10_2.length co69) : Value).ownBlock ∧ some k_ ≠ ((.slice (some ad416) x10_2.length co69) : Value).ownBlock ∧ k_ ≠ gb389 ∧ k_ ≠ gb398) (.slice Ao68 x399004_2.length co68) x399004_2) ∧ Aside0 (w'.heap[gb389]? = some (.cells #[.int .u64 a0_0, .int .u64 a0_1] 24 (0, 0))) ∧ Aside0 (w'.heap[gb398]? = some (.cells #[.int .u64 x399000_2, .int .u64 x399001_2, .int .i64 x399002_2, .int .i64 x399003_2, (.slice Ao68 x399004_2.length co68)] 28 (0, 0))) ∧ Aside0 (Below w.heap.size w w'))
                case atStart => exact ⟨(0), (0), (by first | rfl | (simp; done) | (simp [*]; done)), (by first | rfl | (simp; done) | (simp [*]; done)), H', ⟨Nat.le_refl _⟩, ⟨pr HO_10.out⟩, ⟨pr HO_111.out⟩, ⟨pr HO_10.out⟩, ⟨by refine pv ?_; exact Kd.V_mono HO_399004.out (fun _ hk => ⟨hk.1, ⟨hk.2.1, ⟨hk.1, ⟨hk.2.2.1, hk.2.2.2⟩⟩⟩⟩)⟩, ⟨pk BK389.out⟩, ⟨pk BK398.out⟩, ⟨pb HB⟩⟩
                case round =>
                 clear H'
                 try clear c1
                 try clear c2
                 try clear p2
                 try clear c3
                 try clear c4
                 try clear p4
                 try clear q4
                 try clear hx4
                 try clear c5
                 try clear c6
                 try clear p6
                 try clear c7
                 try clear c8
                 try clear c9
                 try clear c10
                 try clear c11
                 try clear c13
                 try clear c13b0
                 try clear c13b1
                 try clear c14
                 try clear c15
                 try clear c15b0
                 try clear c15b1
                 try clear c18
                 try clear c18b0
                 try clear c19
                 try clear c19b0
                 try clear c20
                 try clear c20b0
                 try clear c23
                 try clear c24
                 try clear c26
                 try clear c26b0
                 try clear c26b1
                 try clear c27
                 try clear c28
                 try clear c30
                 try clear c30b0
                 try clear c30b1
                 try clear c31
                 try clear c32
                 try clear c34
                 try clear c35
                 try clear c37
                 try clear p40
                 try clear q40
                 try clear hx40
                 try clear c41
                 try clear p41
                 try clear q41
                 try clear hx41
                 try clear c42
                 try clear c44
                 try clear c51
                 try clear c51b0
                 try clear c52
                 try clear c52b0
                 try clear c53
                 try clear c53b0
                 try clear c54
                 try clear c55
                 try clear c56
                 try clear c58
                 try clear c59
                 try clear c60
                 try clear c61
                 try clear p64
                 try clear c65
                 try clear c65b0
                 try clear c65b1
                 try clear c66
                 try clear c70
                 try clear c70b0
                 try clear c71
                 try clear c71b0
                 try clear c72
                 try clear c72b0
                 try clear c74
                 try clear c78
                 try clear c78b0
                 try clear c79
                 try clear c79b0
                 try clear c80
                 try clear c80b0
                 try clear c81
                 try clear c83
                 try clear c84
                 try clear c87
                 try clear c88
                 try clear hcz11_0 hcz11_1 hcz11_2 hcz11_3 hcz11_4
                 try clear hcz25_0 hcz25_1 hcz25_2 hcz25_3
                 try clear hcz29_0 hcz29_1 hcz29_2 hcz29_3
                 try clear hcz33_0 hcz33_1 hcz33_2 hcz33_3
                 try clear hcz36_0 hcz36_1 hcz36_2 hcz36_3
                 try clear hcz43_0 hcz43_1 hcz43_2 hcz43_3 hcz43_4
                 try clear hcz45_0 hcz45_1 hcz45_2 hcz45_3
                 try clear hcz48_0 hcz48_1 hcz48_2 hcz48_3 hcz48_4
                 try clear hcz57_0 hcz57_1 hcz57_2 hcz57_3
                 try clear hcz62_0 hcz62_1 hcz62_2 hcz62_3
                 try clear hcz67_0 hcz67_1 hcz67_2 hcz67_3 hcz67_4
                 try clear hcz75_0 hcz75_1
                 try clear hcz77_0 hcz77_1 hcz77_2 hcz77_3 hcz77_4
                 try clear hcz7_0 hcz7_1
                 try clear hcz85_0 hcz85_1 hcz85_2 hcz85_3 hcz85_4 hcz85_5
                 try clear hcz89_0 hcz89_1 hcz89_2 hcz89_3 hcz89_4 hcz89_5
                 try clear hfz11_0 hfz11_1 hfz11_2 hfz11_3 hfz11_4
                 try clear hfz25_0 hfz25_1 hfz25_2 hfz25_3
                 try clear hfz29_0 hfz29_1 hfz29_2 hfz29_3
                 try clear hfz33_0 hfz33_1 hfz33_2 hfz33_3
                 try clear hfz36_0 hfz36_1 hfz36_2 hfz36_3
                 try clear hfz43_0 hfz43_1 hfz43_2 hfz43_3 hfz43_4
                 try clear hfz45_0 hfz45_1 hfz45_2 hfz45_3
                 try clear hfz48_0 hfz48_1 hfz48_2 hfz48_3 hfz48_4
                 try clear hfz57_0 hfz57_1 hfz57_2 hfz57_3
                 try clear hfz62_0 hfz62_1 hfz62_2 hfz62_3
                 try clear hfz67_0 hfz67_1 hfz67_2 hfz67_3 hfz67_4
                 try clear hfz75_0 hfz75_1
                 try clear hfz77_0 hfz77_1 hfz77_2 hfz77_3 hfz77_4
                 try clear hfz7_0 hfz7_1
                 try clear hfz85_0 hfz85_1 hfz85_2 hfz85_3 hfz85_4 hfz85_5
                 try clear hfz89_0 hfz89_1 hfz89_2 hfz89_3 hfz89_4 hfz89_5
                 try clear hx400_0
                 try clear hx400_1
                 try clear hx400_2
                 try clear hx400_3
                 try clear hx411_0
                 try clear hx416_0
                 try clear hx418_0
                 try clear hx418_1
                 try clear hx418_2
                 try clear hx418_3
                 try clear hx418_4
                 try clear hx418_5
                 try clear p2
                 try clear p4
                 try clear p40
                 try clear p400
                 try clear p41
                 try clear p411
                 try clear p416
                 try clear p418
                 try clear p6
                 try clear p64
                 try clear q4
                 try clear q40
                 try clear q400
                 try clear q41
                 try clear q411
                 try clear q416
                 try clear q418
                 obtain ⟨x19_5, x137_5, rfl, rfl, HA, HK5, HO_10, HO_111, HO_135, HO_399004, BK389, BK398, HB⟩ := hrel
                 cases gk with
                 | zero => exact absurd HA.out (by simp [samphirelaw21_StrataLabels.l4])
                 | succ k5 =>
                  have H := HA.out
                  clear HA
                  simp only [samphirelaw21_StrataLabels.l4] at H
                  by_cases c90 : x137_5 < (x10_2.length : Int)
                  ·rw [if_pos c90] at H
                   have c90b0 : decide (x137_5 < (x10_2.length : Int)) = true := decide_eq_true c90
                   clear c90
                   by_cases c91 : 0 ≤ x137_5
                   ·rw [if_pos c91] at H
                    have c91b0 : decide (0 ≤ x137_5) = true := decide_eq_true c91
                    clear c91
                    by_cases c92 : x137_5 < (x10_2.length : Int)
                    ·rw [if_pos c92] at H
                     have c92b0 : decide (x137_5 < (x10_2.length : Int)) = true := decide_eq_true c92
                     clear c92
                     replace H := Option.bind_eq_some_iff.mp H
                     obtain ⟨t421, A930, H⟩ := H
                     try dsimp only at H
                     have A93 := am A930
                     clear A930
                     by_cases c94 : t421 < t417
                     ·rw [if_pos c94] at H
                      have c94b0 : decide (t421 < t417) = true := decide_eq_true c94
                      clear c94
                      have H' := am H
                      clear H
                      have p420 : 0 ≤ (x137_5 : Int) := of_decide_eq_true (by first | (with_reducible assumption) | assumption)
                      have q420 : x137_5 < (x10_2.length : Int) := of_decide_eq_true (by first | (with_reducible assumption) | assumption)
                      obtain ⟨ad420, e420, hx420_0⟩ := Kd.at_string (Kd.R_reads' HO_135.out).2.2 x137_5 p420 q420
                      obtain rfl : ad416 = ad420 := (by injection e420)
                      replace p420 := eq_true p420
                      replace q420 := eq_true q420
                      have hnb95 := NB389_398.out
                      have hnc95 := NB398_389.out
                      obtain ⟨hcz96_0, hcz96_1, hfz96_0, hfz96_1⟩ := g2 BK389
                      go_wp2_with (first | ((with_reducible refine gate_callee (f := 11) rfl ?_); refine gl (some 143) Try.func11 #[.agg #[.int .u64 a0_0, .int .u64 a0_1], .string (rdOf ByteArray.empty x10_2 x137_5)] ?_; (with_reducible refine (samphireref05_Sum.calls k5 a0_0 a0_1 (rdOf ByteArray.empty x10_2 x137_5) t421 _ A93.out).mono ?_); rintro e w97 ⟨rfl, hb⟩; refine ⟨_, rfl, ?_⟩; replace HO_10 := am (Kd.R_below (pr HO_10.out) hb); replace HO_111 := am (Kd.R_below (pr HO_111.out) hb); replace HO_135 := am (Kd.R_below (pr HO_135.out) hb); replace HO_399004 := am (Kd.V_below (pv HO_399004.out) hb); replace BK389 := am (blk_below (pk BK389.out) hb); replace BK398 := am (blk_below (pk BK398.out) hb); replace HB := am (below_step (pb HB) hb); (try clear hb); (try clear hb2); (try clear hk); (try clear hi)))
                      go_roundg k5
                      case measure => have := HJ4.out; have := HK2.out; have := HK3.out; have := HK4.out; have := HK5.out; omega
                      case rel => exact ⟨(wrap64 (x19_5 + 1)), (wrap64 (x137_5 + 1)), (by first | rfl | (simp; done) | (simp [*]; done)), (by first | rfl | (simp; done) | (simp [*]; done)), H', ⟨by have := HJ4.out; have := HK2.out; have := HK3.out; have := HK4.out; have := HK5.out; omega⟩, ⟨pr HO_10.out⟩, ⟨pr HO_111.out⟩, ⟨pr HO_135.out⟩, ⟨pv HO_399004.out⟩, ⟨pk BK389.out⟩, ⟨pk BK398.out⟩, ⟨pb HB⟩⟩
                     ·rw [if_neg c94] at H
                      have c94b0 : decide (t421 < t417) = false := decide_eq_false c94
                      clear c94
                      by_cases c98 : t421 = t417
                      ·rw [if_pos c98] at H
                       have c98b0 : (t421 == t417) = true := beq_iff_eq.mpr c98
                       have c98b1 : (t421 != t417) = false := bne_eq_false_iff_eq.mpr c98
                       clear c98
                       by_cases c99 : (Op.bytesLess ((rdOf ByteArray.empty x10_2 x137_5).toList) (rdOf ByteArray.empty x10_2 x113_3).toList) = true
                       ·rw [if_pos c99] at H
                        have c99b0 : (Op.bytesLess ((rdOf ByteArray.empty x10_2 x137_5).toList) (rdOf ByteArray.empty x10_2 x113_3).toList) = true := c99
                        clear c99
                        have H' := am H
                        clear H
                        have p420 : 0 ≤ (x137_5 : Int) := of_decide_eq_true (by first | (with_reducible assumption) | assumption)
                        have q420 : x137_5 < (x10_2.length : Int) := of_decide_eq_true (by first | (with_reducible assumption) | assumption)
                        obtain ⟨ad420, e420, hx420_0⟩ := Kd.at_string (Kd.R_reads' HO_135.out).2.2 x137_5 p420 q420
                        obtain rfl : ad416 = ad420 := (by injection e420)
                        replace p420 := eq_true p420
                        replace q420 := eq_true q420
                        have hnb100 := NB389_398.out
                        have hnc100 := NB398_389.out
                        obtain ⟨hcz101_0, hcz101_1, hfz101_0, hfz101_1⟩ := g2 BK389
                        go_wp2_with (first | ((with_reducible refine gate_callee (f := 11) rfl ?_); refine gl (some 143) Try.func11 #[.agg #[.int .u64 a0_0, .int .u64 a0_1], .string (rdOf ByteArray.empty x10_2 x137_5)] ?_; (with_reducible refine (samphireref05_Sum.calls k5 a0_0 a0_1 (rdOf ByteArray.empty x10_2 x137_5) t421 _ A93.out).mono ?_); rintro e w102 ⟨rfl, hb⟩; refine ⟨_, rfl, ?_⟩; replace HO_10 := am (Kd.R_below (pr HO_10.out) hb); replace HO_111 := am (Kd.R_below (pr HO_111.out) hb); replace HO_135 := am (Kd.R_below (pr HO_135.out) hb); replace HO_399004 := am (Kd.V_below (pv HO_399004.out) hb); replace BK389 := am (blk_below (pk BK389.out) hb); replace BK398 := am (blk_below (pk BK398.out) hb); replace HB := am (below_step (pb HB) hb); (try clear hb); (try clear hb2); (try clear hk); (try clear hi)))
                        go_roundg k5
                        case measure => have := HJ4.out; have := HK2.out; have := HK3.out; have := HK4.out; have := HK5.out; omega
                        case rel => exact ⟨(wrap64 (x19_5 + 1)), (wrap64 (x137_5 + 1)), (by first | rfl | (simp; done) | (simp [*]; done)), (by first | rfl | (simp; done) | (simp [*]; done)), H', ⟨by have := HJ4.out; have := HK2.out; have := HK3.out; have := HK4.out; have := HK5.out; omega⟩, ⟨pr HO_10.out⟩, ⟨pr HO_111.out⟩, ⟨pr HO_135.out⟩, ⟨pv HO_399004.out⟩, ⟨pk BK389.out⟩, ⟨pk BK398.out⟩, ⟨pb HB⟩⟩
                       ·rw [if_neg c99] at H
                        have c99b0 : (Op.bytesLess ((rdOf ByteArray.empty x10_2 x137_5).toList) (rdOf ByteArray.empty x10_2 x113_3).toList) = false := by simpa using c99
                        clear c99
                        have H' := am H
                        clear H
                        have p420 : 0 ≤ (x137_5 : Int) := of_decide_eq_true (by first | (with_reducible assumption) | assumption)
                        have q420 : x137_5 < (x10_2.length : Int) := of_decide_eq_true (by first | (with_reducible assumption) | assumption)
                        obtain ⟨ad420, e420, hx420_0⟩ := Kd.at_string (Kd.R_reads' HO_135.out).2.2 x137_5 p420 q420
                        obtain rfl : ad416 = ad420 := (by injection e420)
                        replace p420 := eq_true p420
                        replace q420 := eq_true q420
                        have hnb103 := NB389_398.out
                        have hnc103 := NB398_389.out
                        obtain ⟨hcz104_0, hcz104_1, hfz104_0, hfz104_1⟩ := g2 BK389
                        go_wp2_with (first | ((with_reducible refine gate_callee (f := 11) rfl ?_); refine gl (some 143) Try.func11 #[.agg #[.int .u64 a0_0, .int .u64 a0_1], .string (rdOf ByteArray.empty x10_2 x137_5)] ?_; (with_reducible refine (samphireref05_Sum.calls k5 a0_0 a0_1 (rdOf ByteArray.empty x10_2 x137_5) t421 _ A93.out).mono ?_); rintro e w105 ⟨rfl, hb⟩; refine ⟨_, rfl, ?_⟩; replace HO_10 := am (Kd.R_below (pr HO_10.out) hb); replace HO_111 := am (Kd.R_below (pr HO_111.out) hb); replace HO_135 := am (Kd.R_below (pr HO_135.out) hb); replace HO_399004 := am (Kd.V_below (pv HO_399004.out) hb); replace BK389 := am (blk_below (pk BK389.out) hb); replace BK398 := am (blk_below (pk BK398.out) hb); replace HB := am (below_step (pb HB) hb); (try clear hb); (try clear hb2); (try clear hk); (try clear hi)))
                        go_roundg k5
                        case measure => have := HJ4.out; have := HK2.out; have := HK3.out; have := HK4.out; have := HK5.out; omega
                        case rel => exact ⟨(x19_5), (wrap64 (x137_5 + 1)), (by first | rfl | (simp; done) | (simp [*]; done)), (by first | rfl | (simp; done) | (simp [*]; done)), H', ⟨by have := HJ4.out; have := HK2.out; have := HK3.out; have := HK4.out; have := HK5.out; omega⟩, ⟨pr HO_10.out⟩, ⟨pr HO_111.out⟩, ⟨pr HO_135.out⟩, ⟨pv HO_399004.out⟩, ⟨pk BK389.out⟩, ⟨pk BK398.out⟩, ⟨pb HB⟩⟩
                      ·rw [if_neg c98] at H
                       have c98b0 : (t421 == t417) = false := beq_eq_false_iff_ne.mpr c98
                       have c98b1 : (t421 != t417) = true := bne_iff_ne.mpr c98
                       have H' := am H
                       clear H
                       have p420 : 0 ≤ (x137_5 : Int) := of_decide_eq_true (by first | (with_reducible assumption) | assumption)
                       have q420 : x137_5 < (x10_2.length : Int) := of_decide_eq_true (by first | (with_reducible assumption) | assumption)
                       obtain ⟨ad420, e420, hx420_0⟩ := Kd.at_string (Kd.R_reads' HO_135.out).2.2 x137_5 p420 q420
                       obtain rfl : ad416 = ad420 := (by injection e420)
                       replace p420 := eq_true p420
                       replace q420 := eq_true q420
                       have hnb106 := NB389_398.out
                       have hnc106 := NB398_389.out
                       obtain ⟨hcz107_0, hcz107_1, hfz107_0, hfz107_1⟩ := g2 BK389
                       go_wp2_with (first | ((with_reducible refine gate_callee (f := 11) rfl ?_); refine gl (some 143) Try.func11 #[.agg #[.int .u64 a0_0, .int .u64 a0_1], .string (rdOf ByteArray.empty x10_2 x137_5)] ?_; (with_reducible refine (samphireref05_Sum.calls k5 a0_0 a0_1 (rdOf ByteArray.empty x10_2 x137_5) t421 _ A93.out).mono ?_); rintro e w108 ⟨rfl, hb⟩; refine ⟨_, rfl, ?_⟩; replace HO_10 := am (Kd.R_below (pr HO_10.out) hb); replace HO_111 := am (Kd.R_below (pr HO_111.out) hb); replace HO_135 := am (Kd.R_below (pr HO_135.out) hb); replace HO_399004 := am (Kd.V_below (pv HO_399004.out) hb); replace BK389 := am (blk_below (pk BK389.out) hb); replace BK398 := am (blk_below (pk BK398.out) hb); replace HB := am (below_step (pb HB) hb); (try clear hb); (try clear hb2); (try clear hk); (try clear hi)))
                       go_roundg k5
                       case measure => have := HJ4.out; have := HK2.out; have := HK3.out; have := HK4.out; have := HK5.out; omega
                       case rel => exact ⟨(x19_5), (wrap64 (x137_5 + 1)), (by first | rfl | (simp; done) | (simp [*]; done)), (by first | rfl | (simp; done) | (simp [*]; done)), H', ⟨by have := HJ4.out; have := HK2.out; have := HK3.out; have := HK4.out; have := HK5.out; omega⟩, ⟨pr HO_10.out⟩, ⟨pr HO_111.out⟩, ⟨pr HO_135.out⟩, ⟨pv HO_399004.out⟩, ⟨pk BK389.out⟩, ⟨pk BK398.out⟩, ⟨pb HB⟩⟩
                    ·rw [if_neg c92] at H
                     exact absurd H (by simp)
                   ·rw [if_neg c91] at H
                    exact absurd H (by simp)
                  ·rw [if_neg c90] at H
                   have c90b0 : decide (x137_5 < (x10_2.length : Int)) = false := decide_eq_false c90
                   clear c90
                   by_cases c109 : (x18_4 != (decide (x19_5 < (wrap64 (1 + (wrap64 (Int.tmod a1 8))))))) = true
                   ·rw [if_pos c109] at H
                    have c109b0 : (x18_4 != (decide (x19_5 < (wrap64 (1 + (wrap64 (Int.tmod a1 8))))))) = true := c109
                    (try (have c109b1 : decide (x18_4 = (decide (x19_5 < (wrap64 (1 + (wrap64 (Int.tmod a1 8))))))) = false := by simpa using c109))
                    (try (have c109b2 : (x18_4 == (decide (x19_5 < (wrap64 (1 + (wrap64 (Int.tmod a1 8))))))) = false := by simpa using c109))
                    (try (have c109b3 : ¬ (x18_4 = (decide (x19_5 < (wrap64 (1 + (wrap64 (Int.tmod a1 8))))))) := by simpa using c109))
                    clear c109
                    obtain rfl := Option.some.inj H
                    go_wp2
                    go_ret
                    exact ⟨by first | rfl | (simp [errW_none, errW_some] <;> rfl) | (simp only [← hji64]; first | rfl | (simp [errW_none, errW_some] <;> rfl)) | (simp [*, errW_none, errW_some] <;> rfl), pb HB⟩
                   ·rw [if_neg c109] at H
                    have c109b0 : (x18_4 != (decide (x19_5 < (wrap64 (1 + (wrap64 (Int.tmod a1 8))))))) = false := by simpa using c109
                    (try (have c109b1 : decide (x18_4 = (decide (x19_5 < (wrap64 (1 + (wrap64 (Int.tmod a1 8))))))) = true := by simpa using c109))
                    (try (have c109b2 : (x18_4 == (decide (x19_5 < (wrap64 (1 + (wrap64 (Int.tmod a1 8))))))) = true := by simpa using c109))
                    clear c109
                    have H' := am H
                    clear H
                    go_wp2
                    go_roundg k5
                    case measure => have := HJ4.out; have := HK2.out; have := HK3.out; have := HK4.out; have := HK5.out; omega
                    case rel => exact ⟨(wrap64 (x113_3 + 1)), (by first | rfl | (simp; done) | (simp [*]; done)), H', ⟨by have := HJ4.out; have := HK2.out; have := HK3.out; have := HK4.out; have := HK5.out; omega⟩, ⟨pr HO_10.out⟩, ⟨pr HO_111.out⟩, ⟨by refine pv ?_; exact Kd.V_mono HO_399004.out (fun _ hk => ⟨hk.1, ⟨hk.2.1, ⟨hk.2.2.2.1, hk.2.2.2.2⟩⟩⟩)⟩, ⟨pk BK389.out⟩, ⟨pk BK398.out⟩, ⟨pb HB⟩⟩
            ·rw [if_neg c72] at H
             exact absurd H (by simp)
           ·rw [if_neg c71] at H
            exact absurd H (by simp)
          ·rw [if_neg c70] at H
           have c70b0 : decide (x113_3 < (x10_2.length : Int)) = false := decide_eq_false c70
           clear c70
           replace H := Option.bind_eq_some_iff.mp H
           obtain ⟨t415, A1100, H⟩ := H
           try dsimp only at H
           have A110 := am A1100
           clear A1100
           obtain rfl := Option.some.inj H
           go_wp2_with (first | ((with_reducible refine gate_callee (f := 9) rfl ?_); refine gl (some 166) Try.func9 #[] ?_; (with_reducible refine (samphirelaw21_awake.calls k3  t415 hrT _ A110.out).mono ?_); rintro e w111 ⟨rfl, hb⟩; refine ⟨_, rfl, ?_⟩; replace HO_10 := am (Kd.R_below (pr HO_10.out) hb); replace HO_111 := am (Kd.R_below (pr HO_111.out) hb); replace HO_399004 := am (Kd.V_below (pv HO_399004.out) hb); replace BK389 := am (blk_below (pk BK389.out) hb); replace BK398 := am (blk_below (pk BK398.out) hb); replace HB := am (below_step (pb HB) hb); (try clear hb); (try clear hb2); (try clear hk); (try clear hi)))
           go_ret
           exact ⟨by first | rfl | (simp [errW_none, errW_some] <;> rfl) | (simp only [← hji64]; first | rfl | (simp [errW_none, errW_some] <;> rfl)) | (simp [*, errW_none, errW_some] <;> rfl), pb HB⟩
       ·rw [if_neg c65] at H
        exact Bool.noConfusion ((Option.some.inj H).trans hrT.out)
end Go.Proofs.Ytpbiobbddgipkaa.H
