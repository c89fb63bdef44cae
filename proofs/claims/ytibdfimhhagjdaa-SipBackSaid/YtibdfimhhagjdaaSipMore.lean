/- What is written in parts is written at once: laws of SipHash's going state, in plain Lean. -/
import Derived.Test.YtibdfimhhagjdaaSip
set_option linter.unusedVariables false
namespace Go.Proofs.Ytibdfimhhagjdaa.Sip
open Go.RowKit Go.Proofs.Ytibdfimhhagjdaa.H Go.Proofs.YtibdfimhhagjdaaW.PrintWords Go.Proofs.YtibdfimhhagjdaaW.PrintMore

theorem absorb_add : ∀ (m n : Nat) (v : W4) (l : List UInt8), absorb (m + n) v l = absorb n (absorb m v l) (l.drop (8 * m))
  | 0, n, v, l => by rw [Nat.zero_add]; rfl
  | m + 1, n, v, l => by
    rw [show m + 1 + n = (m + n) + 1 from by omega, absorb, absorb, absorb_add m n, List.drop_drop, show 8 + 8 * m = 8 * (m + 1) from by omega]
theorem absorb_prefix : ∀ (n : Nat) (v : W4) (l m : List UInt8), 8 * n ≤ l.length → absorb n v (l ++ m) = absorb n v l
  | 0, v, l, m, h => rfl
  | n + 1, v, l, m, h => by
    rw [absorb, absorb, List.take_append_of_le_length (by omega), List.drop_append_of_le_length (by omega)]
    exact absorb_prefix n _ _ _ (by rw [List.length_drop]; omega)
/-- Written behind a state: the numbers, and the bytes that are left. -/
def wt (v : W4) (t s : List UInt8) : W4 × List UInt8 := (absorb ((t ++ s).length / 8) v (t ++ s), (t ++ s).drop (8 * ((t ++ s).length / 8)))
theorem wt_left (v : W4) (t s : List UInt8) : (wt v t s).2.length = (t.length + s.length) % 8 := by
  simp only [wt, List.length_drop, List.length_append]
  omega
theorem wt_wt (v : W4) (t s r : List UInt8) : wt (wt v t s).1 (wt v t s).2 r = wt v t (s ++ r) := by
  have e : t ++ (s ++ r) = t ++ s ++ r := (List.append_assoc ..).symm
  unfold wt
  rw [e]
  generalize t ++ s = a
  have h1 : 8 * (a.length / 8) ≤ a.length := by omega
  have h2 : List.drop (8 * (a.length / 8)) a ++ r = (a ++ r).drop (8 * (a.length / 8)) := (List.drop_append_of_le_length h1).symm
  have h3 : ((a ++ r).drop (8 * (a.length / 8))).length / 8 + a.length / 8 = (a ++ r).length / 8 := by
    rw [List.length_drop, List.length_append]
    omega
  simp only [h2]
  rw [← absorb_prefix (a.length / 8) v a r h1, ← absorb_add, List.drop_drop, Nat.add_comm (a.length / 8), h3, ← Nat.mul_add, Nat.add_comm (a.length / 8), h3]
theorem wt_nil (v : W4) (t : List UInt8) (h : t.length < 8) : wt v t [] = (v, t) := by
  unfold wt
  rw [List.append_nil, show t.length / 8 = 0 from by omega]
  rfl
theorem write_wt (v : W4) (t s : List UInt8) (N : Int) (h0 : 0 ≤ N) (ht : (t.length : Int) = N % 8) (hN : N + s.length ≤ 9223372036854775807) (hs : (t.length + s.length : Int) ≤ 9223372036854775807) (k : Nat) (hk : (t.length + s.length) / 8 + 9 < k) :
    sip_Write.f k v.1 v.2.1 v.2.2.1 v.2.2.2 (mkB t) N (mkB s) = some ((wt v t s).1.1, (wt v t s).1.2.1, (wt v t s).1.2.2.1, (wt v t s).1.2.2.2, mkB (wt v t s).2, N + s.length) := write_eq v t s N h0 ht hN hs k hk
theorem done_wt (v : W4) (t s : List UInt8) (N : Int) (h0 : 0 ≤ N) (ht : ((t.length + s.length) % 8 : Int) = N % 8) (k : Nat) (hk : 9 ≤ k) :
    sip_Done.f k (wt v t s).1.1 (wt v t s).1.2.1 (wt v t s).1.2.2.1 (wt v t s).1.2.2.2 (mkB (wt v t s).2) N = some (fin (wt v t s).1 (wt v t s).2 N) :=
  done_eq (wt v t s).1 (wt v t s).2 N h0 (by rw [wt_left]; omega) k hk
theorem sum_wt (a b : Int) (l : List UInt8) : sum a b l = fin (wt (init a b) [] l).1 (wt (init a b) [] l).2 l.length := rfl
/-- Of one that may not be. -/
theorem write_bad (v0 v1 v2 v3 : Int) (t s : ByteArray) (N : Int) (h : ¬ (N ≥ 0 ∧ (t.size : Int) = Int.tmod N 8)) (k : Nat) : sip_Write.f k v0 v1 v2 v3 t N s = some (v0, v1, v2, v3, t, N) := by
  unfold sip_Write.f
  rw [right_eq, decide_eq_false h]
  rfl
theorem done_bad (v0 v1 v2 v3 : Int) (t : ByteArray) (N : Int) (h : ¬ (N ≥ 0 ∧ (t.size : Int) = Int.tmod N 8)) (k : Nat) : sip_Done.f k v0 v1 v2 v3 t N = some 0 := by
  unfold sip_Done.f
  rw [right_eq, decide_eq_false h]
  rfl
theorem awake_eq (k : Nat) (hk : 20 ≤ k) : sip_Sum.f k 506097522914230528 1084818905618843912 ⟨#[]⟩ = some 8246050544436514353 ∧ sip_Sum.f k 506097522914230528 1084818905618843912 ⟨#[0, 1, 2, 3, 4, 5, 6, 7, 8, 9, 10, 11, 12, 13, 14]⟩ = some 11613035633349379557 := by
  have h1 := sum_eq 506097522914230528 1084818905618843912 ⟨#[]⟩ (by decide) k (by show 0 / 8 + 9 < k; omega)
  have h2 := sum_eq 506097522914230528 1084818905618843912 ⟨#[0, 1, 2, 3, 4, 5, 6, 7, 8, 9, 10, 11, 12, 13, 14]⟩ (by decide) k (by show 15 / 8 + 9 < k; omega)
  have e1 : sum 506097522914230528 1084818905618843912 [] = 8246050544436514353 := by decide +kernel
  have e2 : sum 506097522914230528 1084818905618843912 [0, 1, 2, 3, 4, 5, 6, 7, 8, 9, 10, 11, 12, 13, 14] = 11613035633349379557 := by decide +kernel
  exact ⟨by rw [h1, ← e1], by rw [h2, ← e2]⟩
end Go.Proofs.Ytibdfimhhagjdaa.Sip
