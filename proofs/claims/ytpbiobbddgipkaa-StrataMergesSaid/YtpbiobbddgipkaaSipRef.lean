import Derived.Test.YtpbiobbddgipkaaSip
set_option linter.unusedVariables false
namespace Go.Proofs.Ytpbiobbddgipkaa.Sip
open Go.RowKit Go.Proofs.Ytpbiobbddgipkaa.H Go.Proofs.YtpbiobbddgipkaaW.PrintWords Go.Proofs.YtpbiobbddgipkaaW.PrintMore
theorem left13 (x : Int) : r05_left.f x 13 = some (rotl x 13) := left_eq x 13 (by decide) (by decide)
theorem left16 (x : Int) : r05_left.f x 16 = some (rotl x 16) := left_eq x 16 (by decide) (by decide)
theorem left17 (x : Int) : r05_left.f x 17 = some (rotl x 17) := left_eq x 17 (by decide) (by decide)
theorem left21 (x : Int) : r05_left.f x 21 = some (rotl x 21) := left_eq x 21 (by decide) (by decide)
theorem left32 (x : Int) : r05_left.f x 32 = some (rotl x 32) := left_eq x 32 (by decide) (by decide)
theorem turns_step (k : Nat) (n i a b c d : Int) (h : i < n) : r05_turns.l0 (k + 1) n i a b c d = r05_turns.l0 k n (wrap64 (i + 1)) (turn (a, b, c, d)).1 (turn (a, b, c, d)).2.1 (turn (a, b, c, d)).2.2.1 (turn (a, b, c, d)).2.2.2 := by
 rw [r05_turns.l0, if_pos h]
 simp only [left13, left16, left17, left21, left32, Option.bind_some]
 rfl
theorem turns_end (k : Nat) (n i a b c d : Int) (h : ¬ i < n) : r05_turns.l0 (k + 1) n i a b c d = some (a, b, c, d) := by
 rw [r05_turns.l0, if_neg h]
theorem turns2 (k : Nat) (a b c d : Int) : r05_turns.f (k + 3) a b c d 2 = some (turn (turn (a, b, c, d))) := by
 unfold r05_turns.f
 rw [turns_step _ _ _ _ _ _ _ (by decide)]
 generalize turn (a, b, c, d) = u
 obtain ⟨a1, b1, c1, d1⟩ := u
 rw [turns_step _ _ _ _ _ _ _ (by rw [wrap64_id (by omega) (by omega)]; decide)]
 show _ = some (turn (a1, b1, c1, d1))
 generalize turn (a1, b1, c1, d1) = u
 obtain ⟨a2, b2, c2, d2⟩ := u
 exact turns_end _ _ _ _ _ _ _ (by rw [wrap64_id (x := 0 + 1) (by omega) (by omega), wrap64_id (by omega) (by omega)]; decide)
theorem turns4 (k : Nat) (a b c d : Int) : r05_turns.f (k + 5) a b c d 4 = some (turn (turn (turn (turn (a, b, c, d))))) := by
 have e1 : wrap64 (0 + 1) = 1 := wrap64_id (by omega) (by omega)
 have e2 : wrap64 (1 + 1) = 2 := wrap64_id (by omega) (by omega)
 have e3 : wrap64 (2 + 1) = 3 := wrap64_id (by omega) (by omega)
 have e4 : wrap64 (3 + 1) = 4 := wrap64_id (by omega) (by omega)
 unfold r05_turns.f
 rw [turns_step _ _ _ _ _ _ _ (by decide), e1]
 generalize turn (a, b, c, d) = u
 obtain ⟨a1, b1, c1, d1⟩ := u
 rw [turns_step _ _ _ _ _ _ _ (by decide), e2]
 show _ = some (turn (turn (turn (a1, b1, c1, d1))))
 generalize turn (a1, b1, c1, d1) = u
 obtain ⟨a2, b2, c2, d2⟩ := u
 rw [turns_step _ _ _ _ _ _ _ (by decide), e3]
 show _ = some (turn (turn (a2, b2, c2, d2)))
 generalize turn (a2, b2, c2, d2) = u
 obtain ⟨a3, b3, c3, d3⟩ := u
 rw [turns_step _ _ _ _ _ _ _ (by decide), e4]
 show _ = some (turn (a3, b3, c3, d3))
 generalize turn (a3, b3, c3, d3) = u
 obtain ⟨a4, b4, c4, d4⟩ := u
 exact turns_end _ _ _ _ _ _ _ (by decide)
def blk (l : List UInt8) (a : Nat) : List UInt8 := if a + 8 ≤ l.length then (l.drop a).take 8 else l.drop a ++ (List.replicate (7 - (l.length - a)) 0 ++ [UInt8.ofNat (l.length % 256)])
theorem blk_length (l : List UInt8) (a : Nat) (h : a ≤ l.length) : (blk l a).length = 8 := by
 unfold blk
 split
 ·rw [List.length_take, List.length_drop]; omega
 ·simp only [List.length_append, List.length_drop, List.length_replicate, List.length_singleton]; omega
theorem blk_get (l : List UInt8) (a i : Nat) (ha : a ≤ l.length) (hi : i < 8) (h : i < (blk l a).length) :
  (blk l a)[i] = if h2 : a + i < l.length then l[a + i] else if i = 7 then UInt8.ofNat (l.length % 256) else 0 := by
 unfold blk at h ⊢
 split
 ·rename_i h8
  rw [dif_pos (by omega)]
  simp [List.getElem_take, List.getElem_drop]
 ·rename_i h8
  by_cases h2 : a + i < l.length
  ·rw [dif_pos h2, List.getElem_append_left (by rw [List.length_drop]; omega), List.getElem_drop]
  ·rw [dif_neg h2, List.getElem_append_right (by rw [List.length_drop]; omega)]
   by_cases h7 : i = 7
   ·rw [if_pos h7, List.getElem_append_right (by rw [List.length_replicate, List.length_drop]; omega)]
    simp
   ·rw [if_neg h7, List.getElem_append_left (by rw [List.length_replicate, List.length_drop]; omega)]
    simp
theorem num_zeros (n : Nat) (m : List UInt8) : num (List.replicate n 0 ++ m) = 256 ^ n * num m := by
 rw [num_append, List.length_replicate]
 have : num (List.replicate n 0) = 0 := by
  induction n with
  | zero => rfl
  | succ n ih => rw [List.replicate_succ, num, ih]; rfl
 rw [this, Int.zero_add]
theorem num_blk_last (l : List UInt8) (a : Nat) (ha : a ≤ l.length) (h : l.length < a + 8) : num (blk l a) = num (l.drop a) + ((l.length : Int) % 256) * 72057594037927936 := by
 unfold blk
 rw [if_neg (by omega), num_append, num_zeros, List.length_drop, num, num, Int.mul_zero, Int.add_zero, ← Int.mul_assoc, ← Int.pow_add, show l.length - a + (7 - (l.length - a)) = 7 from by omega, show (256 : Int) ^ 7 = 72057594037927936 from by decide, Int.mul_comm]
 congr 2
 have : (UInt8.ofNat (l.length % 256)).toNat = l.length % 256 := by simp
 rw [this]
 omega
theorem sum_l1 (l : List UInt8) (hl : l.length ≤ 1000000) (a : Nat) (ha : a ≤ l.length) (k : Nat) (v : W4) : ∀ (d i : Nat), i + d = 8 →
  r05_Sum.l1 (k + d + 1) (mkB l) a (num ((blk l a).take i)) i v.1 v.2.1 v.2.2.1 v.2.2.2 =
   (r05_turns.f k v.1 v.2.1 v.2.2.1 (xr v.2.2.2 (num (blk l a))) 2).bind fun t => r05_Sum.l0 k (mkB l) ((a + 8 : Nat) : Int) (xr t.1 (num (blk l a))) t.2.1 t.2.2.1 t.2.2.2 := by
 have hB := blk_length l a ha
 intro d
 induction d with
 | zero =>
  intro i hi
  obtain rfl : i = 8 := by omega
  rw [r05_Sum.l1, if_neg (by decide), List.take_of_length_le (by omega), wrap64_id (by omega) (by omega), show (a : Int) + 8 = ((a + 8 : Nat) : Int) from by omega]
  rfl
 | succ d ih =>
  intro i hi
  have hi8 : i < 8 := by omega
  have e0 : wrap64 ((a : Int) + (i : Int)) = ((a + i : Nat) : Int) := by rw [wrap64_id (by omega) (by omega)]; omega
  have e1 : wrap64 (8 * (i : Int)) = ((8 * i : Nat) : Int) := by rw [wrap64_id (by omega) (by omega)]; omega
  have e2 : IntKind.u64.wrap ((8 * i : Nat) : Int) = ((8 * i : Nat) : Int) := by rw [IntKind.wrap_u64]; omega
  have e3 : wrap64 ((i : Int) + 1) = ((i + 1 : Nat) : Int) := by rw [wrap64_id (by omega) (by omega)]; omega
  have e4 : wrap64 ((a : Int) + 8) = ((a + 8 : Nat) : Int) := by rw [wrap64_id (by omega) (by omega)]; omega
  have hg := blk_get l a i ha hi8 (by omega)
  have ho := or_byte (blk l a) i (by omega) hi8
  have ih' := ih (i + 1) (by omega)
  have c8 : (i : Int) < 8 := by omega
  have cp : (0 : Int) ≤ ((8 * i : Nat) : Int) := by omega
  rw [show k + (d + 1) + 1 = (k + d + 1) + 1 from by omega, r05_Sum.l1, if_pos c8]
  simp only [e0, e1, e2, e3, e4, mkB_size]
  by_cases h2 : a + i < l.length
  ·rw [if_pos (by omega), if_pos (by omega), if_pos cp]
   rw [dif_pos h2] at hg
   have hb : bt (mkB l) ((a + i : Nat) : Int) = ((blk l a)[i].toNat : Int) := by rw [mkB_bt l (a + i) h2, hg]
   rw [hb, wr_byte, ho]
   by_cases h7 : (i : Int) = 7
   ·rw [if_pos h7, if_neg (by omega), if_pos cp]
    exact ih'
   ·rw [if_neg h7]
    exact ih'
  ·rw [if_neg (by omega)]
   rw [dif_neg h2] at hg
   by_cases h7 : i = 7
   ·rw [if_pos h7] at hg
    rw [if_pos (by omega), if_pos (by omega), if_pos cp]
    have hb : ((l.length : Int) % 256) = ((blk l a)[i].toNat : Int) := by
     rw [hg]
     have : (UInt8.ofNat (l.length % 256)).toNat = l.length % 256 := by simp
     rw [this]
     omega
    rw [hb, ho]
    exact ih'
   ·rw [if_neg h7] at hg
    rw [if_neg (by omega), if_pos cp]
    have hb : (0 : Int) = ((blk l a)[i].toNat : Int) := by rw [hg]; rfl
    have h0 : shl .u64 0 ((8 * i : Nat) : Int) = shl .u64 ((blk l a)[i].toNat : Int) ((8 * i : Nat) : Int) := by rw [← hb]
    rw [h0, ho]
    exact ih'
theorem sum_l0 (l : List UInt8) (hl : l.length ≤ 1000000) : ∀ (e a k : Nat) (v : W4), a ≤ l.length → (l.length - a) / 8 = e → 10 * e + 30 < k →
  r05_Sum.l0 k (mkB l) a v.1 v.2.1 v.2.2.1 v.2.2.2 = some (fin (absorb e v (l.drop a)) ((l.drop a).drop (8 * e)) l.length) := by
 intro e
 induction e with
 | zero =>
  intro a k v ha he hk
  obtain ⟨k, rfl⟩ : ∃ m, k = m + 20 := ⟨k - 20, by omega⟩
  have h1 := sum_l1 l hl a ha (k + 10) v 8 0 (by omega)
  rw [r05_Sum.l0, if_pos (by rw [mkB_size]; omega)]
  refine h1.trans ?_
  rw [turns2, Option.bind_some, num_blk_last l a ha (by omega)]
  show _ = some (fin v (l.drop a) l.length)
  unfold fin take
  generalize (l.length : Int) % 256 * 72057594037927936 = q
  obtain ⟨v0, v1, v2, v3⟩ := v
  simp only
  generalize turn (turn (v0, v1, v2, xr v3 (num (l.drop a) + q))) = u
  obtain ⟨u0, u1, u2, u3⟩ := u
  rw [r05_Sum.l0, if_neg (by rw [mkB_size]; omega)]
  simp only
  rw [turns4, Option.bind_some]
  rfl
 | succ e ih =>
  intro a k v ha he hk
  obtain ⟨k, rfl⟩ : ∃ m, k = m + 20 := ⟨k - 20, by omega⟩
  have h1 := sum_l1 l hl a ha (k + 10) v 8 0 (by omega)
  have hb : blk l a = (l.drop a).take 8 := by unfold blk; rw [if_pos (by omega)]
  have h2 := ih (a + 8) (k + 10) (take v (num (blk l a))) (by omega) (by omega) (by omega)
  rw [r05_Sum.l0, if_pos (by rw [mkB_size]; omega)]
  refine h1.trans ?_
  rw [turns2, Option.bind_some, absorb, ← hb, List.drop_drop, List.drop_drop]
  rw [List.drop_drop] at h2
  rw [show a + 8 * (e + 1) = a + 8 + 8 * e from by omega]
  exact h2
theorem ref_sum_eq (a b : Int) (s : ByteArray) (hs : s.size ≤ 1000000) (k : Nat) (hk : 10 * (s.size / 8) + 30 < k) : r05_Sum.f k a b s = some (sum a b s.data.toList) := by
 have hl := size_list s
 unfold r05_Sum.f
 rw [mkB_eq s]
 have h := sum_l0 s.data.toList (by omega) (s.data.toList.length / 8) 0 k (init a b) (by omega) (by omega) (by omega)
 exact h
end Go.Proofs.Ytpbiobbddgipkaa.Sip
