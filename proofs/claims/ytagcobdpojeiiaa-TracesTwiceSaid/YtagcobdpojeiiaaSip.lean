import Derived.Test.YtagcobdpojeiiaaHx5
import Derived.Laws.BitsLemmas
import Derived.Laws.Bits64
import Derived.Lib.Strings
set_option linter.unusedVariables false
namespace Go.Proofs.Ytagcobdpojeiiaa.Sip
open Go.RowKit Go.Proofs.Ytagcobdpojeiiaa.H Go.Proofs.YtagcobdpojeiiaaW.PrintWords Go.Proofs.YtagcobdpojeiiaaW.PrintMore
abbrev W4 := Int × Int × Int × Int
def xr (x y : Int) : Int := bits .xor .u64 x y
def wr (x : Int) : Int := IntKind.u64.wrap x
def rotl (x n : Int) : Int := bits .or .u64 (shl .u64 x n) (shr .u64 x (64 - n))
def turn (v : W4) : W4 :=
 let a := wr (v.1 + v.2.1)
 let b := xr (rotl v.2.1 13) a
 let a2 := rotl a 32
 let c := wr (v.2.2.1 + v.2.2.2)
 let d := xr (rotl v.2.2.2 16) c
 let a3 := wr (a2 + d)
 let d2 := xr (rotl d 21) a3
 let c2 := wr (c + b)
 (a3, xr (rotl b 17) c2, rotl c2 32, d2)
def take (v : W4) (n : Int) : W4 :=
 let u := turn (turn (v.1, v.2.1, v.2.2.1, xr v.2.2.2 n))
 (xr u.1 n, u.2.1, u.2.2.1, u.2.2.2)
def num : List UInt8 → Int
 | [] => 0
 | b :: l => (b.toNat : Int) + 256 * num l
def absorb : Nat → W4 → List UInt8 → W4
 | 0, v, _ => v
 | n + 1, v, l => absorb n (take v (num (l.take 8))) (l.drop 8)
def init (a b : Int) : W4 := (xr a 8317987319222330741, xr b 7237128888997146477, xr a 7816392313619706465, xr b 8387220255154660723)
def out4 (v : W4) : Int := xr (xr (xr v.1 v.2.1) v.2.2.1) v.2.2.2
def fin (v : W4) (tail : List UInt8) (n : Int) : Int :=
 let u := take v (num tail + (n % 256) * 72057594037927936)
 out4 (turn (turn (turn (turn (u.1, u.2.1, xr u.2.2.1 255, u.2.2.2)))))
def sum (a b : Int) (l : List UInt8) : Int := fin (absorb (l.length / 8) (init a b) l) (l.drop (8 * (l.length / 8))) l.length
def mkB (l : List UInt8) : ByteArray := ⟨l.toArray⟩
theorem mkB_eq (s : ByteArray) : s = mkB s.data.toList := by
 obtain ⟨⟨l⟩⟩ := s
 rfl
theorem mkB_list (l : List UInt8) : (mkB l).data.toList = l := rfl
theorem mkB_size (l : List UInt8) : (mkB l).size = l.length := List.size_toArray
theorem size_list (s : ByteArray) : s.data.toList.length = s.size := Array.length_toList
theorem ext_list {s t : ByteArray} (h : s.data.toList = t.data.toList) : s = t := by rw [mkB_eq s, mkB_eq t, h]
theorem mkB_extract (l : List UInt8) (a b : Nat) : (mkB l).extract a b = mkB ((l.drop a).take (b - a)) := ext_list (by rw [Lib.extract_data]; rfl)
theorem mkB_append (l m : List UInt8) : mkB l ++ mkB m = mkB (l ++ m) := ext_list (by simp [mkB])
theorem mkB_bt (l : List UInt8) (i : Nat) (h : i < l.length) : bt (mkB l) (i : Int) = ((l[i]).toNat : Int) := by
 unfold bt
 rw [dif_pos (by rw [mkB_size]; simpa using h)]
 simp [mkB, ByteArray.getElem_eq_getElem_data]
theorem wr_eq (n : Int) : wr n = n % 18446744073709551616 := IntKind.wrap_u64 n
theorem wr_range (n : Int) : 0 ≤ wr n ∧ wr n < 18446744073709551616 := by rw [wr_eq]; omega
theorem bits_range (op : BinOp) (x y : Int) : 0 ≤ bits op .u64 x y ∧ bits op .u64 x y < 18446744073709551616 := by
 have h : ∃ n, bits op .u64 x y = IntKind.u64.wrap n := ⟨_, rfl⟩
 obtain ⟨n, h⟩ := h
 rw [h]
 exact wr_range n
theorem or_comm (x y : Int) : bits .or .u64 x y = bits .or .u64 y x := by simp only [bits]; rw [BitVec.or_comm]
theorem num_range : ∀ l : List UInt8, 0 ≤ num l ∧ num l < 256 ^ l.length
 | [] => by simp [num]
 | b :: l => by
  have ih := num_range l
  have hb := b.toNat_lt
  rw [num, List.length_cons, Int.pow_succ]
  omega
theorem num_append : ∀ (l m : List UInt8), num (l ++ m) = num l + 256 ^ l.length * num m
 | [], m => by simp [num]
 | b :: l, m => by
  rw [List.cons_append, num, num, num_append l m, List.length_cons, Int.pow_succ, Int.mul_add, ← Int.mul_assoc, Int.mul_comm 256 (256 ^ l.length), Int.add_assoc]
theorem pow256_le {i j : Nat} (h : i ≤ j) : (256 : Int) ^ i ≤ 256 ^ j := by
 obtain ⟨d, rfl⟩ := Nat.exists_eq_add_of_le h
 clear h
 induction d with
 | zero => exact Int.le_refl _
 | succ d ih =>
  have : (0 : Int) ≤ 256 ^ (i + d) := Int.pow_nonneg (by omega)
  rw [← Nat.add_assoc, Int.pow_succ]
  omega
theorem pow8 (n : Nat) : (256 : Int) ^ n = 2 ^ (8 * n) := by
 rw [show (256 : Int) = 2 ^ 8 from by decide, Int.pow_mul]
theorem shl8 (y : Int) (i : Nat) (hy : 0 ≤ y) (hy2 : y < 256) (hi : i < 8) : shl .u64 y (8 * i : Nat) = y * 256 ^ i := by
 unfold shl
 have e : min ((8 * i : Nat) : Int).toNat IntKind.u64.bits = 8 * i := by
  have : IntKind.u64.bits = 64 := rfl
  rw [this]
  omega
 rw [e, ← pow8, IntKind.wrap_u64]
 have h7 : (256 : Int) ^ i ≤ 256 ^ 7 := pow256_le (by omega)
 have h0 : (0 : Int) ≤ 256 ^ i := Int.pow_nonneg (by omega)
 have h1 : y * 256 ^ i ≤ 255 * 256 ^ 7 := Int.mul_le_mul (by omega) h7 h0 (by omega)
 have h2 : 0 ≤ y * 256 ^ i := Int.mul_nonneg hy h0
 have e7 : (255 : Int) * 256 ^ 7 = 18374686479671623680 := by decide
 omega
theorem or_add (x y : Int) (i : Nat) (hi : i ≤ 8) (hx : 0 ≤ x) (hx2 : x < 256 ^ i) (hy : 0 ≤ y) (hy2 : y < 256 ^ (8 - i)) : bits .or .u64 x (y * 256 ^ i) = x + y * 256 ^ i := by
 have h64 : (256 : Int) ^ i * 256 ^ (8 - i) = 18446744073709551616 := by
  rw [← Int.pow_add, show i + (8 - i) = 8 from by omega]
  decide
 have h0 : (0 : Int) < 256 ^ i := Int.pow_pos (by omega)
 have hl : y * 256 ^ i < 18446744073709551616 := by
  rw [← h64, Int.mul_comm]
  exact Int.mul_lt_mul_of_pos_left hy2 h0
 have hs : x < 18446744073709551616 := by
  have h1 : (1 : Int) ≤ 256 ^ (8 - i) := Int.pow_pos (by omega)
  have h2 : (256 : Int) ^ i * 1 ≤ 256 ^ i * 256 ^ (8 - i) := Int.mul_le_mul_of_nonneg_left h1 (by omega)
  omega
 rw [or_comm, bits_join .u64 64 (Nat.le_refl _) (fun n a b => by rw [IntKind.wrap_u64]; omega) (8 * i) (y * 256 ^ i) x (Int.mul_nonneg hy (by omega)) (by rw [← pow8]; exact Int.mul_emod_left _ _) (by simpa using hl) hx (by rw [← pow8]; exact hx2) (by simpa using hs), Int.add_comm]
theorem wrap64_id {x : Int} (h0 : -9223372036854775808 ≤ x) (h1 : x ≤ 9223372036854775807) : wrap64 x = x := by unfold wrap64; omega
theorem wr_byte (b : UInt8) : IntKind.u64.wrap (b.toNat : Int) = b.toNat := by
 have := b.toNat_lt
 rw [IntKind.wrap_u64]
 omega
theorem num_snoc (l : List UInt8) (i : Nat) (h : i < l.length) : num (l.take (i + 1)) = num (l.take i) + (l[i].toNat : Int) * 256 ^ i := by
 rw [List.take_succ_eq_append_getElem h, num_append, List.length_take, Nat.min_eq_left (by omega), num, num, Int.mul_zero, Int.add_zero, Int.mul_comm]
theorem or_byte (l : List UInt8) (i : Nat) (h : i < l.length) (hi : i < 8) : bits .or .u64 (num (l.take i)) (shl .u64 (l[i].toNat : Int) (8 * i : Nat)) = num (l.take (i + 1)) := by
 have hb := l[i].toNat_lt
 have hr := num_range (l.take i)
 rw [List.length_take, Nat.min_eq_left (by omega)] at hr
 have hp : (256 : Int) ^ 1 ≤ 256 ^ (8 - i) := pow256_le (by omega)
 rw [shl8 _ i (by omega) (by omega) hi, or_add _ _ i (by omega) hr.1 hr.2 (by omega) (by omega), ← num_snoc l i h]
theorem rot13 (x : Int) : bits_RotateLeft64.f x 13 = some (rotl x 13) := by
 unfold bits_RotateLeft64.f
 rw [show bits .and .u64 (IntKind.u64.wrap 13) 63 = 13 from by decide, if_pos (by decide), if_pos (by decide), show IntKind.u64.wrap (64 - 13) = 64 - 13 from by decide]
 rfl
theorem rot16 (x : Int) : bits_RotateLeft64.f x 16 = some (rotl x 16) := by
 unfold bits_RotateLeft64.f
 rw [show bits .and .u64 (IntKind.u64.wrap 16) 63 = 16 from by decide, if_pos (by decide), if_pos (by decide), show IntKind.u64.wrap (64 - 16) = 64 - 16 from by decide]
 rfl
theorem rot17 (x : Int) : bits_RotateLeft64.f x 17 = some (rotl x 17) := by
 unfold bits_RotateLeft64.f
 rw [show bits .and .u64 (IntKind.u64.wrap 17) 63 = 17 from by decide, if_pos (by decide), if_pos (by decide), show IntKind.u64.wrap (64 - 17) = 64 - 17 from by decide]
 rfl
theorem rot21 (x : Int) : bits_RotateLeft64.f x 21 = some (rotl x 21) := by
 unfold bits_RotateLeft64.f
 rw [show bits .and .u64 (IntKind.u64.wrap 21) 63 = 21 from by decide, if_pos (by decide), if_pos (by decide), show IntKind.u64.wrap (64 - 21) = 64 - 21 from by decide]
 rfl
theorem rot32 (x : Int) : bits_RotateLeft64.f x 32 = some (rotl x 32) := by
 unfold bits_RotateLeft64.f
 rw [show bits .and .u64 (IntKind.u64.wrap 32) 63 = 32 from by decide, if_pos (by decide), if_pos (by decide), show IntKind.u64.wrap (64 - 32) = 64 - 32 from by decide]
 rfl
theorem turn_eq (a b c d : Int) : sip_turn.f a b c d = some (turn (a, b, c, d)) := by
 unfold sip_turn.f
 simp only [rot13, rot16, rot17, rot21, rot32, Option.bind_some]
 rfl
theorem take_eq (a b c d n : Int) : sip_take.f a b c d n = some (take (a, b, c, d) n) := by
 unfold sip_take.f
 rw [turn_eq, Option.bind_some, turn_eq]
 rfl
theorem number_loop (l : List UInt8) (hl : l.length ≤ 8) : ∀ (d k i : Nat), l.length - i = d → i ≤ l.length → d < k → sip_number.l0 k (mkB l) (num (l.take i)) (l.length : Int) (i : Int) = some (num l) := by
 intro d
 induction d with
 | zero =>
  intro k i hd hi hk
  obtain ⟨k, rfl⟩ : ∃ m, k = m + 1 := ⟨k - 1, by omega⟩
  obtain rfl : i = l.length := by omega
  simp only [sip_number.l0]
  rw [if_neg (by omega), List.take_length]
 | succ d ih =>
  intro k i hd hi hk
  obtain ⟨k, rfl⟩ : ∃ m, k = m + 1 := ⟨k - 1, by omega⟩
  have h : i < l.length := by omega
  have e1 : wrap64 (8 * (i : Int)) = ((8 * i : Nat) : Int) := by rw [wrap64_id (by omega) (by omega)]; omega
  have e2 : wrap64 ((i : Int) + 1) = ((i + 1 : Nat) : Int) := by rw [wrap64_id (by omega) (by omega)]; omega
  simp only [sip_number.l0]
  rw [if_pos (by omega), if_pos (by omega), if_pos (by rw [mkB_size]; omega), e1, e2, if_pos (by omega), mkB_bt l i h, wr_byte, or_byte l i h (by omega)]
  exact ih k (i + 1) (by omega) (by omega) (by omega)
theorem number_eq (l : List UInt8) (hl : l.length ≤ 8) (k : Nat) (hk : 9 ≤ k) : sip_number.f k (mkB l) = some (num l) := by
 unfold sip_number.f
 rw [mkB_size]
 exact number_loop l hl l.length k 0 (by omega) (by omega) (by omega)
theorem right_eq (a b c d n : Int) (t : ByteArray) : sip_right.f a b c d t n = some (decide (n ≥ 0 ∧ (t.size : Int) = Int.tmod n 8)) := by
 unfold sip_right.f
 by_cases h : n ≥ 0
 ·rw [if_pos h]
  congr 1
  rw [Bool.eq_iff_iff]
  simp [h]
 ·rw [if_neg h]
  congr 1
  rw [Bool.eq_iff_iff]
  simp [h]
theorem write_loop (N : Int) : ∀ (e k : Nat) (v : W4) (l : List UInt8), l.length / 8 = e → e + 9 < k →
  sip_Write.l0 k v.1 v.2.1 v.2.2.1 v.2.2.2 (mkB l) N = some ((absorb e v l).1, (absorb e v l).2.1, (absorb e v l).2.2.1, (absorb e v l).2.2.2, mkB (l.drop (8 * e)), N) := by
 intro e
 induction e with
 | zero =>
  intro k v l he hk
  obtain ⟨k, rfl⟩ : ∃ m, k = m + 1 := ⟨k - 1, by omega⟩
  simp only [sip_Write.l0]
  rw [if_neg (by rw [mkB_size]; omega)]
  rfl
 | succ e ih =>
  intro k v l he hk
  obtain ⟨k, rfl⟩ : ∃ m, k = m + 1 := ⟨k - 1, by omega⟩
  have h8 : 8 ≤ l.length := by omega
  simp only [sip_Write.l0]
  rw [if_pos (by rw [mkB_size]; omega), if_pos (by decide), if_pos (by rw [mkB_size]; omega), mkB_extract, mkB_extract, mkB_size, List.take_of_length_le (l := l.drop 8) (by rw [List.length_drop]; omega), List.drop_zero,
   number_eq (l.take 8) (by rw [List.length_take]; omega) k (by omega), Option.bind_some, take_eq, Option.bind_some]
  have := ih k (take v (num (l.take 8))) (l.drop 8) (by rw [List.length_drop]; omega) (by omega)
  rw [List.drop_drop] at this
  rw [show 8 * (e + 1) = 8 + 8 * e from by omega]
  exact this
theorem write_eq (v : W4) (t s : List UInt8) (N : Int) (h0 : 0 ≤ N) (ht : (t.length : Int) = N % 8) (hN : N + s.length ≤ 9223372036854775807) (hs : (t.length + s.length : Int) ≤ 9223372036854775807) (k : Nat) (hk : (t.length + s.length) / 8 + 9 < k) :
  sip_Write.f k v.1 v.2.1 v.2.2.1 v.2.2.2 (mkB t) N (mkB s) = some ((absorb ((t ++ s).length / 8) v (t ++ s)).1, (absorb ((t ++ s).length / 8) v (t ++ s)).2.1, (absorb ((t ++ s).length / 8) v (t ++ s)).2.2.1, (absorb ((t ++ s).length / 8) v (t ++ s)).2.2.2, mkB ((t ++ s).drop (8 * ((t ++ s).length / 8))), N + s.length) := by
 unfold sip_Write.f
 rw [right_eq, Option.bind_some, if_pos (by rw [mkB_size, Int.tmod_eq_emod_of_nonneg h0]; exact decide_eq_true ⟨h0, ht⟩), if_pos (by rw [mkB_size, mkB_size]; omega), mkB_append, mkB_size, wrap64_id (by omega) (by omega)]
 exact write_loop _ _ k v (t ++ s) rfl (by rw [List.length_append]; omega)
theorem done_loop (k : Nat) (hk : 5 ≤ k) (a b c d : Int) : sip_Done.l0 k 0 a b c d = some (out4 (turn (turn (turn (turn (a, b, c, d)))))) := by
 obtain ⟨k, rfl⟩ : ∃ m, k = m + 5 := ⟨k - 5, by omega⟩
 have e1 : wrap64 (0 + 1) = 1 := wrap64_id (by omega) (by omega)
 have e2 : wrap64 (1 + 1) = 2 := wrap64_id (by omega) (by omega)
 have e3 : wrap64 (2 + 1) = 3 := wrap64_id (by omega) (by omega)
 have e4 : wrap64 (3 + 1) = 4 := wrap64_id (by omega) (by omega)
 have p0 : (0 : Int) < 4 := by decide
 have p1 : (1 : Int) < 4 := by decide
 have p2 : (2 : Int) < 4 := by decide
 have p3 : (3 : Int) < 4 := by decide
 have p4 : ¬ (4 : Int) < 4 := by decide
 rw [sip_Done.l0, if_pos p0, turn_eq, Option.bind_some, e1]
 generalize turn (a, b, c, d) = u
 obtain ⟨a1, b1, c1, d1⟩ := u
 show sip_Done.l0 _ 1 a1 b1 c1 d1 = _
 rw [sip_Done.l0, if_pos p1, turn_eq, Option.bind_some, e2]
 generalize turn (a1, b1, c1, d1) = u
 obtain ⟨a2, b2, c2, d2⟩ := u
 show sip_Done.l0 _ 2 a2 b2 c2 d2 = _
 rw [sip_Done.l0, if_pos p2, turn_eq, Option.bind_some, e3]
 generalize turn (a2, b2, c2, d2) = u
 obtain ⟨a3, b3, c3, d3⟩ := u
 show sip_Done.l0 _ 3 a3 b3 c3 d3 = _
 rw [sip_Done.l0, if_pos p3, turn_eq, Option.bind_some, e4]
 generalize turn (a3, b3, c3, d3) = u
 obtain ⟨a4, b4, c4, d4⟩ := u
 show sip_Done.l0 _ 4 a4 b4 c4 d4 = _
 rw [sip_Done.l0, if_neg p4]
 rfl
theorem fin_num (t : List UInt8) (N : Int) (ht : t.length < 8) : bits .or .u64 (num t) (IntKind.u64.wrap (IntKind.u64.wrap N * 72057594037927936)) = num t + (N % 256) * 72057594037927936 := by
 have hr := num_range t
 have h7 : (256 : Int) ^ t.length ≤ 256 ^ 7 := pow256_le (by omega)
 have e : IntKind.u64.wrap (IntKind.u64.wrap N * 72057594037927936) = (N % 256) * 256 ^ 7 := by
  rw [IntKind.wrap_u64, IntKind.wrap_u64, show (256 : Int) ^ 7 = 72057594037927936 from by decide]
  omega
 rw [e, or_add (num t) (N % 256) 7 (by omega) hr.1 (by omega) (by omega) (by rw [show (256 : Int) ^ (8 - 7) = 256 from by decide]; omega)]
 rfl
theorem done_eq (v : W4) (t : List UInt8) (N : Int) (h0 : 0 ≤ N) (ht : (t.length : Int) = N % 8) (k : Nat) (hk : 9 ≤ k) : sip_Done.f k v.1 v.2.1 v.2.2.1 v.2.2.2 (mkB t) N = some (fin v t N) := by
 obtain ⟨a, b, c, d⟩ := v
 unfold sip_Done.f
 rw [right_eq, Option.bind_some, if_pos (by rw [mkB_size, Int.tmod_eq_emod_of_nonneg h0]; exact decide_eq_true ⟨h0, ht⟩), number_eq t (by omega) k hk, Option.bind_some, fin_num t N (by omega)]
 unfold fin
 simp only [take_eq, Option.bind_some]
 generalize take (a, b, c, d) (num t + (N % 256) * 72057594037927936) = u
 obtain ⟨a', b', c', d'⟩ := u
 exact done_loop k (by omega) a' b' (xr c' 255) d'
theorem new_eq (a b : Int) : sip_New.f a b = some ((init a b).1, (init a b).2.1, (init a b).2.2.1, (init a b).2.2.2, mkB [], 0) := rfl
theorem sum_eq (a b : Int) (s : ByteArray) (hs : s.size ≤ 9223372036854775807) (k : Nat) (hk : s.size / 8 + 9 < k) : sip_Sum.f k a b s = some (sum a b s.data.toList) := by
 unfold sip_Sum.f
 rw [new_eq, Option.bind_some, mkB_eq s]
 have hl := size_list s
 rw [write_eq (init a b) [] s.data.toList 0 (by omega) rfl (by omega) (by simp only [List.length_nil]; omega) k (by simp only [List.length_nil]; omega), Option.bind_some]
 simp only [List.nil_append, mkB_list]
 rw [done_eq (absorb (s.data.toList.length / 8) (init a b) s.data.toList) _ _ (by omega) (by rw [List.length_drop]; omega) k (by omega), Option.bind_some, Int.zero_add]
 rfl
end Go.Proofs.Ytagcobdpojeiiaa.Sip
