/- The law SipParts, in plain Lean: a text written in any parts has the hash of the whole, and the state behind each part is the document's. -/
import Derived.Test.YtibdfimhhagjdaaHqSipParts
import Derived.Test.YtibdfimhhagjdaaSipMore
import Derived.Test.YtibdfimhhagjdaaSipRef
import Derived.Test.YtibdfimhhagjdaaHx4
import Derived.Test.YtibdfimhhagjdaaHx7
set_option linter.unusedVariables false
namespace Go.Proofs.Ytibdfimhhagjdaa.Pure
open Go.RowKit Go.Proofs.Ytibdfimhhagjdaa.H Go.Proofs.YtibdfimhhagjdaaW.PrintWords Go.Proofs.Ytibdfimhhagjdaa.Sip

theorem awakeP (k : Nat) (hk : 20 ≤ k) : samphirelaw05_awake.f k = some true := by
  obtain ⟨h1, h2⟩ := awake_eq k hk
  unfold samphirelaw05_awake.f
  rw [h1, Option.bind_some, if_pos rfl, h2, Option.bind_some]
  rfl
theorem behind_l1 (l : List UInt8) (hl : l.length ≤ 1000000) (k x : Nat) (E : Int) (hx : 8 * x + 8 ≤ l.length) (v : W4) : ∀ d : Nat, d ≤ 8 →
    samphireref05_Behind.l1 (k + d + 1) (mkB l) E x (num ((l.drop (8 * x + d)).take (8 - d))) ((d : Int) - 1) v.1 v.2.1 v.2.2.1 v.2.2.2 =
      (samphireref05_turns.f k v.1 v.2.1 v.2.2.1 (xr v.2.2.2 (num ((l.drop (8 * x)).take 8))) 2).bind fun t => samphireref05_Behind.l0 k (mkB l) E ((x + 1 : Nat) : Int) (xr t.1 (num ((l.drop (8 * x)).take 8))) t.2.1 t.2.2.1 t.2.2.2 := by
  intro d
  induction d with
  | zero =>
    intro _
    rw [samphireref05_Behind.l1, if_neg (by omega), Nat.add_zero, wrap64_id (by omega) (by omega), show (x : Int) + 1 = ((x + 1 : Nat) : Int) from by omega]
    rfl
  | succ d ih =>
    intro hd
    have h1 : 8 * x + d < l.length := by omega
    have e1 : wrap64 (8 * (x : Int)) = ((8 * x : Nat) : Int) := by rw [wrap64_id (by omega) (by omega)]; omega
    have e0 : ((d + 1 : Nat) : Int) - 1 = (d : Int) := by omega
    have e2 : wrap64 (((8 * x : Nat) : Int) + (d : Int)) = ((8 * x + d : Nat) : Int) := by rw [wrap64_id (by omega) (by omega)]; omega
    have e3 : wrap64 ((d : Int) - 1) = (d : Int) - 1 := wrap64_id (by omega) (by omega)
    have hr := num_range ((l.drop (8 * x + (d + 1))).take (8 - (d + 1)))
    have hlen : ((l.drop (8 * x + (d + 1))).take (8 - (d + 1))).length = 7 - d := by rw [List.length_take, List.length_drop]; omega
    rw [hlen] at hr
    have h7 : (256 : Int) ^ (7 - d) ≤ 256 ^ 7 := pow256_le (by omega)
    have h77 : (256 : Int) ^ 7 = 72057594037927936 := by decide
    have hb := (l[8 * x + d]).toNat_lt
    have hs : (l.drop (8 * x + d)).take (8 - d) = l[8 * x + d] :: (l.drop (8 * x + (d + 1))).take (8 - (d + 1)) := by
      rw [List.drop_eq_getElem_cons h1, show 8 - d = (8 - (d + 1)) + 1 from by omega, List.take_succ_cons]
      rfl
    have hn : IntKind.u64.wrap (IntKind.u64.wrap (256 * num ((l.drop (8 * x + (d + 1))).take (8 - (d + 1)))) + ((l[8 * x + d]).toNat : Int)) = num ((l.drop (8 * x + d)).take (8 - d)) := by
      rw [hs, num, IntKind.wrap_u64, IntKind.wrap_u64]
      omega
    rw [show k + (d + 1) + 1 = (k + d + 1) + 1 from by omega, samphireref05_Behind.l1, e0, if_pos (by omega)]
    simp only [e1, e2, e3, mkB_size]
    rw [if_pos (by omega), if_pos (by omega), mkB_bt l _ h1, wr_byte, hn]
    exact ih (by omega)
theorem behind_l0 (l : List UInt8) (hl : l.length ≤ 1000000) (E : Nat) (hE : 8 * E ≤ l.length) : ∀ (e x k : Nat) (v : W4), x + e = E → 10 * e + 30 < k →
    samphireref05_Behind.l0 k (mkB l) E x v.1 v.2.1 v.2.2.1 v.2.2.2 = some (absorb e v (l.drop (8 * x))) := by
  intro e
  induction e with
  | zero =>
    intro x k v hx hk
    obtain ⟨k, rfl⟩ : ∃ m, k = m + 1 := ⟨k - 1, by omega⟩
    rw [samphireref05_Behind.l0, if_neg (by omega)]
    rfl
  | succ e ih =>
    intro x k v hx hk
    obtain ⟨k, rfl⟩ : ∃ m, k = m + 20 := ⟨k - 20, by omega⟩
    have h1 := behind_l1 l hl (k + 10) x E (by omega) v 8 (by omega)
    rw [show (8 : Nat) - 8 = 0 from rfl, List.take_zero, show num [] = 0 from rfl, show ((8 : Nat) : Int) - 1 = 7 from rfl] at h1
    have h2 := ih (x + 1) (k + 10) (take v (num ((l.drop (8 * x)).take 8))) (by omega) (by omega)
    rw [samphireref05_Behind.l0, if_pos (by omega)]
    refine h1.trans ?_
    rw [turns2, Option.bind_some, absorb, List.drop_drop, show 8 * x + 8 = 8 * (x + 1) from by omega]
    exact h2
theorem behind_eq (a b : Int) (l : List UInt8) (hl : l.length ≤ 1000000) (E : Nat) (hE : 8 * E ≤ l.length) (k : Nat) (hk : 10 * E + 30 < k) : samphireref05_Behind.f k a b (mkB l) E = some (absorb E (init a b) l) := by
  have h := behind_l0 l hl E hE E 0 k (init a b) (by omega) hk
  rw [Nat.mul_zero, List.drop_zero] at h
  exact h

theorem le63 {x : Nat} (h : x ≤ 100000) : x ≤ 9223372036854775807 := Nat.le_trans h (by decide)
theorem parts_loop (a b : Int) (ps : List ByteArray) (hp : ps.length ≤ 20) : ∀ (d i k : Nat) (m : List UInt8), i + d = ps.length → m.length ≤ 60 * i → 2500 + d < k →
    samphirelaw05_SipParts.l0 k (mkB m) ps ps.length i a b (wt (init a b) [] m).1.1 (wt (init a b) [] m).1.2.1 (wt (init a b) [] m).1.2.2.1 (wt (init a b) [] m).1.2.2.2 (mkB (wt (init a b) [] m).2) m.length = some true := by
  intro d
  induction d with
  | zero =>
    intro i k m hi hm hk
    obtain ⟨k, rfl⟩ : ∃ q, k = q + 1 := ⟨k - 1, by omega⟩
    rw [samphirelaw05_SipParts.l0, if_neg (by omega), done_wt _ _ _ _ (by omega) (by simp only [List.length_nil]; omega) k (by omega), Option.bind_some, sum_eq a b (mkB m) (by rw [mkB_size]; omega) k (by rw [mkB_size]; omega), Option.bind_some, mkB_list, sum_wt, if_pos rfl, awakeP k (by omega)]
    rfl
  | succ d ih =>
    intro i k m hi hm hk
    obtain ⟨k, rfl⟩ : ∃ q, k = q + 1 := ⟨k - 1, by omega⟩
    rw [samphirelaw05_SipParts.l0, if_pos (by omega), if_pos (by omega), if_pos (by omega)]
    generalize rdOf ByteArray.empty ps (i : Int) = s
    by_cases hs : (s.size : Int) > 60
    · rw [if_pos hs, awakeP k (by omega)]
      rfl
    rw [if_neg hs]
    have hsl := size_list s
    rw [mkB_eq s]
    generalize s.data.toList = l at hsl
    have c1 : m.length + l.length ≤ 9223372036854775807 := le63 (by omega)
    have ha : (m ++ l).length = m.length + l.length := List.length_append
    have ht : (((wt (init a b) [] m).2.length : Nat) : Int) = (m.length : Int) % 8 := by rw [wt_left]; simp only [List.length_nil]; omega
    rw [write_wt (wt (init a b) [] m).1 (wt (init a b) [] m).2 l m.length (by omega) ht (by omega) (by omega) k (by omega), Option.bind_some, wt_wt]
    simp only [mkB_append, mkB_size]
    have e1 : wrap64 (((m ++ l).length : Int) / 8) = (((m ++ l).length / 8 : Nat) : Int) := by rw [wrap64_id (by omega) (by omega)]; omega
    have e2 : wrap64 (8 * (((m ++ l).length / 8 : Nat) : Int)) = ((8 * ((m ++ l).length / 8) : Nat) : Int) := by rw [wrap64_id (by omega) (by omega)]; omega
    have e3 : ((8 * ((m ++ l).length / 8) : Nat) : Int).toNat = 8 * ((m ++ l).length / 8) := by omega
    have e4 : wrap64 ((i : Int) + 1) = ((i + 1 : Nat) : Int) := by rw [wrap64_id (by omega) (by omega)]; omega
    have e5 : (m.length : Int) + (l.length : Int) = ((m ++ l).length : Int) := by omega
    have hwt : (wt (init a b) [] (m ++ l)).2 = (m ++ l).drop (8 * ((m ++ l).length / 8)) := rfl
    have hw1 : (wt (init a b) [] (m ++ l)).1 = absorb ((m ++ l).length / 8) (init a b) (m ++ l) := rfl
    simp only [e1, e2, e3, e4, e5]
    clear e1 e2 e3 e4 e5
    have c2 : (0 : Int) ≤ ((8 * ((m ++ l).length / 8) : Nat) : Int) := by omega
    have c3 : ((8 * ((m ++ l).length / 8) : Nat) : Int) ≤ ((m ++ l).length : Int) := by omega
    rw [if_pos c1]
    rw [if_pos trivial]
    rw [if_pos c2]
    rw [if_pos c3]
    rw [mkB_extract, List.take_of_length_le (by rw [List.length_drop]; omega), ← hwt]
    rw [if_pos (rfl : (mkB (wt (init a b) [] (m ++ l)).2).toList = (mkB (wt (init a b) [] (m ++ l)).2).toList)]
    rw [behind_eq a b (m ++ l) (by omega) ((m ++ l).length / 8) (by omega) k (by omega), Option.bind_some, ← hw1]
    simp only [BEq.rfl, Bool.not_true, Bool.or_self, Bool.false_eq_true, if_false]
    rw [done_wt _ _ _ _ (by omega) (by simp only [List.length_nil]; omega) k (by omega), Option.bind_some, ref_sum_eq a b (mkB (m ++ l)) (by rw [mkB_size]; omega) k (by rw [mkB_size]; omega), Option.bind_some, mkB_list, sum_wt, if_pos rfl]
    exact ih (i + 1) k (m ++ l) (by omega) (by omega) (by omega)
theorem SipParts : H.samphirelaw05_SipParts.Pure := by
  intro x ps hx hps
  refine ⟨3000, ?_⟩
  unfold H.samphirelaw05_SipParts.f
  by_cases h : (ps.length : Int) > 20
  · rw [if_pos h, awakeP 3000 (by omega)]
    rfl
  · rw [if_neg h, new_eq, Option.bind_some]
    exact parts_loop x.f0 x.f1 ps (by omega) ps.length 0 3000 [] (by omega) (by simp) (by omega)
end Go.Proofs.Ytibdfimhhagjdaa.Pure
