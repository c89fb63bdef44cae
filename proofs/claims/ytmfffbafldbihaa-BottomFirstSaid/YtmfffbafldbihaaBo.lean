import Derived.Test.YtmfffbafldbihaaHx4
import Derived.Test.YtmfffbafldbihaaHx6
import Derived.Test.YtmfffbafldbihaaHx14
import Derived.Test.YtmfffbafldbihaaHx9
import Derived.Test.YtmfffbafldbihaaHx12
import Derived.Test.YtmfffbafldbihaaHx13
import Derived.Test.YtmfffbafldbihaaHx16
import Derived.Test.YtmfffbafldbihaaHx18
import Derived.Test.YtmfffbafldbihaaHx11
import Derived.Test.YtmfffbafldbihaaHx10
import Derived.Test.YtmfffbafldbihaaSip
import Derived.Test.YtmfffbafldbihaaSipRef
set_option linter.unusedVariables false
set_option linter.unusedSimpArgs false
namespace Go.Proofs.Ytmfffbafldbihaa.Bo
open Go.RowKit Go.Proofs.Ytmfffbafldbihaa.H Go.Proofs.YtmfffbafldbihaaW.PrintWords Go.Proofs.YtmfffbafldbihaaW.PrintMore
noncomputable def yes (P : Prop) : Bool := @decide P (Classical.propDecidable P)
theorem yes_iff {P : Prop} : yes P = true ↔ P := @decide_eq_true_iff P (Classical.propDecidable P)
theorem yes_true {P : Prop} (h : P) : yes P = true := yes_iff.2 h
theorem yes_false {P : Prop} (h : ¬ P) : yes P = false := by
 cases hb : yes P with
 | false => rfl
 | true => exact absurd (yes_iff.1 hb) h
theorem yes_congr {P Q : Prop} (h : P ↔ Q) : yes P = yes Q := by rw [propext h]
theorem w64 {x : Int} (h0 : -1000000 ≤ x) (h1 : x ≤ 1000000) : wrap64 x = x := by unfold wrap64; omega
theorem inc {i n : Nat} (h : i < n) (hn : n ≤ 10000) : wrap64 ((i : Int) + 1) = ((i + 1 : Nat) : Int) := by rw [w64 (by omega) (by omega)]; omega
theorem list_inj {a b : ByteArray} (h : a.toList = b.toList) : a = b := by
 rw [Lib.toList_data, Lib.toList_data] at h
 exact ByteArray.ext (Array.toList_inj.1 h)
theorem cb_eq : ∀ a b : List UInt8, Lib.compareBytes a b = 0 ↔ a = b
 | [], [] => by simp [Lib.compareBytes]
 | [], _ :: _ => by simp [Lib.compareBytes]
 | _ :: _, [] => by simp [Lib.compareBytes]
 | a :: x, b :: y => by
  unfold Lib.compareBytes
  have ih := cb_eq x y
  split
  ·rename_i h
   constructor
   ·intro h2; omega
   ·intro h2; injection h2 with e _; subst e; exact absurd h (UInt8.lt_irrefl a)
  ·split
   ·rename_i h
    constructor
    ·intro h2; omega
    ·intro h2; injection h2 with e _; subst e; exact absurd h (UInt8.lt_irrefl a)
   ·rename_i h1 h2
    have e : a = b := by
     apply UInt8.toNat_inj.1
     rw [UInt8.lt_iff_toNat_lt] at h1 h2
     omega
    subst e
    rw [ih]
    simp
theorem cb_anti : ∀ a b : List UInt8, Lib.compareBytes b a = - Lib.compareBytes a b
 | [], [] => by simp [Lib.compareBytes]
 | [], _ :: _ => by simp [Lib.compareBytes]
 | _ :: _, [] => by simp [Lib.compareBytes]
 | a :: x, b :: y => by
  unfold Lib.compareBytes
  have ih := cb_anti x y
  by_cases h1 : a < b
  ·have h2 : ¬ b < a := fun h => by rw [UInt8.lt_iff_toNat_lt] at h h1; omega
   rw [if_neg h2, if_pos h1, if_pos h1]; rfl
  ·by_cases h2 : b < a
   ·rw [if_pos h2, if_neg h1, if_pos h2]
   ·rw [if_neg h2, if_neg h1, if_neg h1, if_neg h2, ih]
theorem cb_less : ∀ a b : List UInt8, Op.bytesLess a b = decide (Lib.compareBytes a b < 0)
 | [], [] => by simp [Lib.compareBytes, Op.bytesLess]
 | [], _ :: _ => by simp [Lib.compareBytes, Op.bytesLess]
 | _ :: _, [] => by simp [Lib.compareBytes, Op.bytesLess]
 | a :: x, b :: y => by
  unfold Lib.compareBytes Op.bytesLess
  have ih := cb_less x y
  by_cases h1 : a < b
  ·rw [if_pos h1]; simp [h1]
  ·by_cases h2 : b < a
   ·have h3 : (a == b) = false := by rw [beq_eq_false_iff_ne]; rintro rfl; exact absurd h2 h1
    rw [if_neg h1, if_pos h2]; simp [h1, h3]
   ·have h3 : a = b := by
     apply UInt8.toNat_inj.1
     rw [UInt8.lt_iff_toNat_lt] at h1 h2
     omega
    subst h3
    rw [if_neg h1, if_neg h1, ih]; simp [h1]
theorem cb_trans : ∀ a b c : List UInt8, Lib.compareBytes a b < 0 → Lib.compareBytes b c < 0 → Lib.compareBytes a c < 0
 | [], [], _ => by simp [Lib.compareBytes]
 | [], _ :: _, [] => by simp [Lib.compareBytes]
 | [], _ :: _, _ :: _ => by simp [Lib.compareBytes]
 | _ :: _, [], _ => by simp [Lib.compareBytes]
 | _ :: _, _ :: _, [] => by simp [Lib.compareBytes]
 | a :: x, b :: y, c :: z => by
  have ih := cb_trans x y z
  unfold Lib.compareBytes
  simp only [UInt8.lt_iff_toNat_lt]
  intro h1 h2
  split at h1
  ·split at h2
   ·rw [if_pos (by omega)]; decide
   ·split at h2
    ·omega
    ·rw [if_pos (by omega)]; decide
  ·split at h1
   ·omega
   ·split at h2
    ·rw [if_pos (by omega)]; decide
    ·split at h2
     ·omega
     ·rw [if_neg (by omega), if_neg (by omega)]
      exact ih h1 h2
def cp (y x : S62) : Int := if y.f1 < x.f1 then -1 else if y.f1 > x.f1 then 1 else Lib.compareBytes y.f0.data.toList x.f0.data.toList
theorem cp_zero (y x : S62) : cp y x = 0 ↔ y.f1 = x.f1 ∧ y.f0 = x.f0 := by
 unfold cp
 split
 ·exact ⟨fun h => by omega, fun h => by omega⟩
 ·split
  ·exact ⟨fun h => by omega, fun h => by omega⟩
  ·rw [cb_eq]
   exact ⟨fun h => ⟨by omega, ByteArray.ext (Array.toList_inj.1 h)⟩, fun h => by rw [h.2]⟩
theorem cp_anti (y x : S62) : cp x y = - cp y x := by
 unfold cp
 by_cases h1 : y.f1 < x.f1
 ·rw [if_neg (by omega), if_pos h1, if_pos h1]; rfl
 ·by_cases h2 : y.f1 > x.f1
  ·rw [if_pos h2, if_neg h1, if_pos h2]
  ·rw [if_neg h2, if_neg (by omega), if_neg h1, if_neg h2, cb_anti]
theorem cp_trans {x y z : S62} (h1 : cp x y < 0) (h2 : cp y z < 0) : cp x z < 0 := by
 unfold cp at *
 split at h1
 ·split at h2
  ·rw [if_pos (by omega)]; decide
  ·split at h2
   ·omega
   ·rw [if_pos (by omega)]; decide
 ·split at h1
  ·omega
  ·split at h2
   ·rw [if_pos (by omega)]; decide
   ·split at h2
    ·omega
    ·rw [if_neg (by omega), if_neg (by omega)]
     exact cb_trans _ _ _ h1 h2
theorem cp_like {x x' : S62} (h1 : x.f1 = x'.f1) (h0 : x.f0 = x'.f0) (y : S62) : cp y x = cp y x' ∧ cp x y = cp x' y := by
 unfold cp
 rw [h1, h0]
 exact ⟨rfl, rfl⟩
theorem or_eq (k : Nat) (a b : Int) : cmp_Or_int.f (k + 3) [a, b] = some (if a = 0 then b else a) := by
 have e1 : wrap64 (0 + 1) = 1 := by unfold wrap64; omega
 have e2 : wrap64 (1 + 1) = 2 := by unfold wrap64; omega
 show cmp_Or_int.l0 (k + 3) 0 [a, b] 2 0 = _
 unfold cmp_Or_int.l0
 rw [if_pos (by decide), if_pos (by decide), if_pos (show (0 : Int) < (([a, b] : List Int).length : Int) by simp), show rd [a, b] 0 = a from rfl, e1]
 by_cases h : a = 0
 ·rw [if_pos h, if_pos h]
  unfold cmp_Or_int.l0
  rw [if_pos (by decide), if_pos (by decide), if_pos (show (1 : Int) < (([a, b] : List Int).length : Int) by simp), show rd [a, b] 1 = b from rfl, e2]
  by_cases h2 : b = 0
  ·rw [if_pos h2]
   unfold cmp_Or_int.l0
   rw [if_neg (by decide), h2]
  ·rw [if_neg h2]
 ·rw [if_neg h, if_neg h]
theorem compare_eq (y x : S62) (k : Nat) (hk : 3 ≤ k) : bottom_compare.f k y.f0 y.f1 y.f2.f0 y.f2.f1 x.f0 x.f1 x.f2.f0 x.f2.f1 = some (cp y x) := by
 obtain ⟨k, rfl⟩ : ∃ k', k = k' + 3 := ⟨k - 3, by omega⟩
 have hc : cmp_Compare_uint64.f y.f1 x.f1 = some (if y.f1 < x.f1 then -1 else if y.f1 > x.f1 then 1 else 0) := by
  unfold cmp_Compare_uint64.f cmp_isNaN_uint64.f
  simp only [bne_self_eq_false, Option.bind_some]
  rw [if_neg (by decide), if_neg (by decide)]
  split
  ·rfl
  ·split <;> rfl
 unfold bottom_compare.f
 rw [hc, Option.bind_some]
 unfold strings_Compare.f bytealg_CompareString.f
 rw [Option.bind_some, Option.bind_some, or_eq, Option.bind_some]
 unfold cp
 split
 ·rw [if_neg (by decide)]
 ·split
  ·rw [if_neg (by decide)]
  ·rw [if_pos rfl]
def Srt (l : List S62) : Prop := l.Pairwise fun y x => cp y x < 0
def pos (x : S62) : List S62 → Nat
 | [] => 0
 | y :: l => if cp y x < 0 then pos x l + 1 else 0
theorem pos_le (x : S62) : ∀ l, pos x l ≤ l.length
 | [] => Nat.le_refl _
 | y :: l => by
  have := pos_le x l
  unfold pos
  split
  ·simp only [List.length_cons]; omega
  ·omega
theorem pos_lo (x : S62) : ∀ (l : List S62) (m : Nat), m < pos x l → cp (l.getD m z62) x < 0
 | [], m, h => absurd h (Nat.not_lt_zero _)
 | y :: l, m, h => by
  unfold pos at h
  split at h
  ·rename_i hy
   cases m with
   | zero => exact hy
   | succ m => exact pos_lo x l m (by omega)
  ·exact absurd h (Nat.not_lt_zero _)
theorem srt_ge {x y : S62} {l : List S62} (hs : Srt (y :: l)) (h : ¬ cp y x < 0) : ∀ z ∈ l, ¬ cp z x < 0 := fun z hz hzx => by
 have := (List.pairwise_cons.1 hs).1 z hz
 exact h (cp_trans this hzx)
theorem pos_hi (x : S62) : ∀ (l : List S62), Srt l → ∀ m, pos x l ≤ m → m < l.length → ¬ cp (l.getD m z62) x < 0
 | [], _, m, _, h => absurd h (Nat.not_lt_zero _)
 | y :: l, hs, m, h, hm => by
  unfold pos at h
  split at h
  ·obtain ⟨m, rfl⟩ : ∃ m', m = m' + 1 := ⟨m - 1, by omega⟩
   exact pos_hi x l (List.pairwise_cons.1 hs).2 m (by omega) (by simpa using hm)
  ·rename_i hy
   cases m with
   | zero => exact hy
   | succ m =>
    have hm' : m < l.length := by simpa using hm
    refine srt_ge hs hy _ ?_
    show l.getD m z62 ∈ l
    rw [List.getD_eq_getElem?_getD, List.getElem?_eq_getElem hm']
    exact List.getElem_mem hm'
theorem bsF_eq {α : Type} (p : α → Option Int) (l : List α) (d : α) (c : Nat → Int) (hp : ∀ m, m < l.length → p (l.getD m d) = some (c m)) (b : Nat) (hlo : ∀ m, m < b → c m < 0) (hhi : ∀ m, b ≤ m → m < l.length → ¬ c m < 0) :
  ∀ (n i j : Nat), i ≤ b → b ≤ j → j ≤ l.length → j - i ≤ n → bsF p l d n (i : Int) (j : Int) = some (b : Int)
 | 0, i, j, h1, h2, h3, h4 => by
  rw [bsF, if_neg (by omega)]
  congr 1; omega
 | n + 1, i, j, h1, h2, h3, h4 => by
  rw [bsF]
  by_cases h : i < j
  ·rw [if_pos (by omega)]
   have e : ((i : Int) + j) / 2 = ((i + j) / 2 : Nat) := by omega
   rw [e, Int.toNat_natCast, hp _ (by omega), Option.bind_some]
   by_cases hc : c ((i + j) / 2) < 0
   ·rw [if_pos hc]
    have hb : (i + j) / 2 < b := by
     rcases Nat.lt_or_ge ((i + j) / 2) b with h5 | h5
     ·exact h5
     ·exact absurd hc (hhi _ h5 (by omega))
    have := bsF_eq p l d c hp b hlo hhi n ((i + j) / 2 + 1) j (by omega) h2 h3 (by omega)
    simpa using this
   ·rw [if_neg hc]
    have hb : b ≤ (i + j) / 2 := by
     rcases Nat.lt_or_ge ((i + j) / 2) b with h5 | h5
     ·exact absurd (hlo _ h5) hc
     ·exact h5
    exact bsF_eq p l d c hp b hlo hhi n i ((i + j) / 2) h1 hb (by omega) (by omega)
  ·rw [if_neg (by omega)]
   congr 1; omega
def hit (x : S62) (l : List S62) : Bool := decide (pos x l < l.length) && decide (cp (l.getD (pos x l) z62) x = 0)
theorem bsT_eq (x : S62) (l : List S62) (hs : Srt l) (k : Nat) (hk : 3 ≤ k) :
  bsT (fun y => bottom_compare.f k y.f0 y.f1 y.f2.f0 y.f2.f1 x.f0 x.f1 x.f2.f0 x.f2.f1) l z62 = some ((pos x l : Int), hit x l) := by
 unfold bsT
 have h := bsF_eq (fun y => bottom_compare.f k y.f0 y.f1 y.f2.f0 y.f2.f1 x.f0 x.f1 x.f2.f0 x.f2.f1) l z62 (fun m => cp (l.getD m z62) x) (fun m _ => compare_eq _ x k hk) (pos x l) (pos_lo x l) (pos_hi x l hs) l.length 0 l.length (Nat.zero_le _) (pos_le x l) (Nat.le_refl _) (by omega)
 rw [show ((0 : Nat) : Int) = 0 from rfl] at h
 rw [h, Option.bind_some]
 unfold hit
 by_cases hp : pos x l < l.length
 ·rw [if_pos (by omega), Int.toNat_natCast]
  simp only
  rw [compare_eq _ x k hk, Option.bind_some]
  simp [hp]
 ·rw [if_neg (by omega)]
  simp [hp]
def num (c : S50) : Int := c.f0 * 18446744073709551616 + c.f1
def Rng (c : S50) : Prop := (0 ≤ c.f0 ∧ c.f0 < 18446744073709551616) ∧ (0 ≤ c.f1 ∧ c.f1 < 18446744073709551616)
def mkU (n : Int) : S50 := ⟨n / 18446744073709551616, n % 18446744073709551616⟩
def top : Int := 340282366920938463463374607431768211456
theorem num_mkU (n : Int) : num (mkU n) = n := by unfold num mkU; simp only; omega
theorem rng_mkU {n : Int} (h0 : 0 ≤ n) (h1 : n < top) : Rng (mkU n) := by unfold Rng mkU; unfold top at h1; simp only; omega
theorem num_nonneg {c : S50} (h : Rng c) : 0 ≤ num c := by obtain ⟨⟨h1, h2⟩, h3, h4⟩ := h; unfold num; omega
theorem num_zero {c : S50} (h : Rng c) : num c = 0 ↔ c.f0 = 0 ∧ c.f1 = 0 := by
 obtain ⟨⟨h1, h2⟩, h3, h4⟩ := h
 unfold num
 constructor
 ·intro h; omega
 ·rintro ⟨h5, h6⟩; rw [h5, h6]; rfl
theorem add_rng {a b c d : Int} (h1 : Rng ⟨a, b⟩) (h2 : Rng ⟨c, d⟩) : wide_Add.f a b c d = some (if num ⟨a, b⟩ + num ⟨c, d⟩ < top then ((mkU (num ⟨a, b⟩ + num ⟨c, d⟩)).f0, (mkU (num ⟨a, b⟩ + num ⟨c, d⟩)).f1, true) else (0, 0, false)) := by
 obtain ⟨⟨p1, p2⟩, p3, p4⟩ := h1
 obtain ⟨⟨q1, q2⟩, q3, q4⟩ := h2
 simp only at p1 p2 p3 p4 q1 q2 q3 q4
 unfold wide_Add.f
 rw [if_pos ⟨p1, p2, p3, p4, q1, q2, q3, q4⟩]
 unfold num mkU top
 simp only
 by_cases h : a + c + (b + d) / 18446744073709551616 < 18446744073709551616
 ·rw [if_pos h, if_pos (by omega)]
  congr 2
  ·omega
  ·congr 1
   omega
 ·rw [if_neg h, if_neg (by omega)]
def un (y x : S62) : Option S62 := if num y.f2 + num x.f2 < top then some ⟨y.f0, y.f1, mkU (num y.f2 + num x.f2)⟩ else none
def ins (x : S62) : List S62 → Option (List S62)
 | [] => some [x]
 | y :: l => if cp y x < 0 then (ins x l).map (y :: ·) else if cp y x = 0 then (un y x).map (· :: l) else some (x :: y :: l)
theorem ins_new (x : S62) : ∀ l : List S62, hit x l = false → ins x l = some (l.take (pos x l) ++ [x] ++ l.drop (pos x l))
 | [], _ => rfl
 | y :: l, h => by
  unfold ins
  unfold hit pos at h
  unfold pos
  split
  ·rename_i hy
   rw [if_pos hy] at h
   have ih := ins_new x l (by unfold hit; simpa using h)
   rw [ih]
   rfl
  ·rename_i hy
   rw [if_neg hy] at h
   have h0 : ¬ cp y x = 0 := by intro h0; simp [h0] at h
   rw [if_neg h0]
   rfl
theorem ins_old (x : S62) : ∀ l : List S62, hit x l = true → ins x l = (un (l.getD (pos x l) z62) x).map fun z => l.set (pos x l) z
 | [], h => by unfold hit at h; simp at h
 | y :: l, h => by
  unfold ins
  unfold hit pos at h
  unfold pos
  split
  ·rename_i hy
   rw [if_pos hy] at h
   have ih := ins_old x l (by unfold hit; simpa using h)
   rw [ih, Option.map_map]
   rfl
  ·rename_i hy
   rw [if_neg hy] at h
   have h0 : cp y x = 0 := by simpa using h
   rw [if_pos h0]
   rfl
def Rl (l : List S62) : Prop := ∀ y ∈ l, Rng y.f2
theorem rl_get {l : List S62} (h : Rl l) {m : Nat} (hm : m < l.length) : Rng (l.getD m z62).f2 := by
 rw [List.getD_eq_getElem?_getD, List.getElem?_eq_getElem hm]
 exact h _ (List.getElem_mem hm)
theorem cut_eq (a b : Int) (K : Nat) (hK : K ≤ 1024) (m : List S62) : bottom_add.cut a b (K : Int) m = some (a, b, (K : Int), m.take (K + 1), 0) := by
 unfold bottom_add.cut
 rw [w64 (by omega) (by omega), if_pos (by omega)]
 congr 4
 congr 1
 rcases Nat.le_total m.length (K + 1) with h | h
 ·rw [show (min (m.length : Int) ((K : Int) + 1)).toNat = m.length by omega, List.take_of_length_le (Nat.le_refl _), List.take_of_length_le h]
 ·rw [show (min (m.length : Int) ((K : Int) + 1)).toNat = K + 1 by omega]
def res (a b : Int) (K : Nat) (l : List S62) : Option (List S62) → Int × Int × Int × List S62 × Int
 | some m => (a, b, (K : Int), m.take (K + 1), 0)
 | none => (a, b, (K : Int), l, 12)
theorem add_eq (a b : Int) (K : Nat) (hK : K ≤ 1024) (l : List S62) (hl : l.length < 1000000) (hs : Srt l) (hr : Rl l) (x : S62) (hx : Rng x.f2) (k : Nat) (hk : 3 ≤ k) :
  bottom_add.f k a b (K : Int) l x.f0 x.f1 x.f2.f0 x.f2.f1 = some (res a b K l (ins x l)) := by
 unfold bottom_add.f
 rw [if_pos hl, bsT_eq x l hs k hk, Option.bind_some]
 have hle := pos_le x l
 cases hh : hit x l with
 | false =>
  simp only
  rw [if_neg (by decide), if_pos (by omega), Int.toNat_natCast, cut_eq a b K hK, ins_new x l hh]
  rfl
 | true =>
  have hp : pos x l < l.length := by unfold hit at hh; simp at hh; exact hh.1
  simp only
  rw [if_pos trivial, if_pos (by omega)]
  have e : rd_T62 l (pos x l : Int) = l.getD (pos x l) z62 := by show l.getD (pos x l : Int).toNat z62 = _; rw [Int.toNat_natCast]
  rw [e, add_rng (rl_get hr hp) hx, Option.bind_some, ins_old x l hh]
  unfold un
  by_cases hc : num (l.getD (pos x l) z62).f2 + num x.f2 < top
  ·rw [if_pos hc, if_pos hc]
   simp only
   rw [if_pos trivial, Int.toNat_natCast, cut_eq a b K hK]
   rfl
  ·rw [if_neg hc, if_neg hc]
   simp only
   rw [if_neg (by decide)]
   rfl
theorem awake_eq (k : Nat) (hk : 60 ≤ k) : l14_awake.f k = some true := by
 have h := l14_awake.up (k - 60) 60 l14_awake.atK
 rwa [show 60 + (k - 60) = k by omega] at h
theorem awake_bind (k : Nat) (hk : 60 ≤ k) : ((l14_awake.f k).bind fun t => some t) = some true := by rw [awake_eq k hk]; rfl
def cv (x : S62) : S60 := ⟨x.f0, x.f1, ⟨x.f2.f0, x.f2.f1⟩⟩
def G (l : List S62) (i : Nat) : S62 := l.getD i z62
def D (l : List S60) (i : Nat) : S60 := l.getD i z60
theorem G_rd (l : List S62) (i : Nat) : rd_T62 l (i : Int) = G l i := by show l.getD (i : Int).toNat z62 = _; rw [Int.toNat_natCast]; rfl
theorem D_rd (l : List S60) (i : Nat) : rd_T60 l (i : Int) = D l i := by show l.getD (i : Int).toNat z60 = _; rw [Int.toNat_natCast]; rfl
theorem G_get {l : List S62} {i : Nat} (h : i < l.length) : G l i = l[i] := by unfold G; rw [List.getD_eq_getElem?_getD, List.getElem?_eq_getElem h]; rfl
theorem D_get {l : List S60} {i : Nat} (h : i < l.length) : D l i = l[i] := by unfold D; rw [List.getD_eq_getElem?_getD, List.getElem?_eq_getElem h]; rfl
theorem D_map {l : List S62} {i : Nat} (h : i < l.length) : D (l.map cv) i = cv (G l i) := by rw [D_get (by simpa using h), G_get h, List.getElem_map]
theorem refs_l0 (l : List S62) (hn : l.length < 3518437208883) : ∀ m k i, l.length = i + m → m < k → l14_Refs.l0 k ((l.take i).map cv) l (l.length : Int) (i : Int) = some (l.map cv)
 | 0, k, i, hi, hk => by
  obtain ⟨k, rfl⟩ : ∃ k', k = k' + 1 := ⟨k - 1, by omega⟩
  unfold l14_Refs.l0
  rw [if_neg (by omega), List.take_of_length_le (by omega)]
 | m + 1, k, i, hi, hk => by
  obtain ⟨k, rfl⟩ : ∃ k', k = k' + 1 := ⟨k - 1, by omega⟩
  have ih := refs_l0 l hn m k (i + 1) (by omega) (by omega)
  have hw : wrap64 ((i : Int) + 1) = ((i + 1 : Nat) : Int) := by unfold wrap64; omega
  unfold l14_Refs.l0
  rw [if_pos (by omega), if_pos (by omega), if_pos (by omega), if_pos (by rw [List.length_map, List.length_take]; omega), G_rd, hw]
  have e : (l.take i).map cv ++ [cv (G l i)] = (l.take (i + 1)).map cv := by
   rw [List.take_add_one, List.map_append, List.getElem?_eq_getElem (by omega), G_get (by omega)]
   rfl
  rw [← e] at ih
  exact ih
theorem refs_eq (l : List S62) (hn : l.length < 3518437208883) (k : Nat) (hk : l.length < k) : l14_Refs.f k l = some (l.map cv) := by
 unfold l14_Refs.f
 exact refs_l0 l hn l.length k 0 (by omega) (by omega)
theorem same_l0 (l m : List S60) (hlm : l.length = m.length) (hn : l.length ≤ 9000) : ∀ n k i, l.length = i + n → n < k → r14_Same.l0 k l m (i : Int) = some (yes (∀ j, i ≤ j → j < l.length → D l j = D m j))
 | 0, k, i, hi, hk => by
  obtain ⟨k, rfl⟩ : ∃ k', k = k' + 1 := ⟨k - 1, by omega⟩
  unfold r14_Same.l0
  rw [if_neg (by omega), yes_true (fun j h1 h2 => by omega)]
 | n + 1, k, i, hi, hk => by
  obtain ⟨k, rfl⟩ : ∃ k', k = k' + 1 := ⟨k - 1, by omega⟩
  have ih := same_l0 l m hlm hn n k (i + 1) (by omega) (by omega)
  unfold r14_Same.l0
  rw [if_pos (by omega), if_pos (by omega), if_pos (by omega), D_rd, D_rd, inc (show i < l.length by omega) (by omega), ih]
  by_cases h : D l i = D m i
  ·rw [h, if_neg (by simp)]
   congr 1
   apply yes_congr
   exact ⟨fun hh j h1 h2 => by rcases Nat.eq_or_lt_of_le h1 with e | e; exact e ▸ h; exact hh j e h2, fun hh j h1 h2 => hh j (by omega) h2⟩
  ·rw [if_pos ?_, yes_false (fun hh => h (hh i (Nat.le_refl _) (by omega)))]
   apply Classical.byContradiction
   intro hc
   apply h
   simp only [Bool.or_eq_true, Bool.not_eq_true', beq_eq_false_iff_ne, ne_eq, not_or, Decidable.not_not] at hc
   obtain ⟨h1, h2, h3, h4⟩ := hc
   revert h1 h2 h3 h4
   generalize D l i = x
   generalize D m i = y
   obtain ⟨p, q, r, s⟩ := x
   obtain ⟨p', q', r', s'⟩ := y
   intro h1 h2 h3 h4
   have h0 := list_inj h1
   simp only at h0 h2 h3 h4
   rw [h0, h2, h3, h4]
theorem rsame_eq (l m : List S60) (hn : l.length ≤ 9000) (k : Nat) (hk : 9001 ≤ k) : r14_Same.f k l m = some (yes (l = m)) := by
 unfold r14_Same.f
 by_cases h : l.length = m.length
 ·rw [if_pos (by omega), show (0 : Int) = ((0 : Nat) : Int) from rfl, same_l0 l m h hn l.length k 0 (by omega) (by omega)]
  congr 1
  apply yes_congr
  constructor
  ·intro hh
   apply List.ext_getElem h
   intro i h1 h2
   rw [← D_get h1, ← D_get h2]
   exact hh i (Nat.zero_le _) h1
  ·rintro rfl j _ _
   rfl
 ·rw [if_neg (by omega), yes_false (fun e => h (by rw [e]))]
theorem same_eq (a b K a' b' K' : Int) (l : List S62) (m : List S60) (hn : l.length ≤ 9000) (k : Nat) (hk : 9001 ≤ k) : l14_same.f k a b K l a' b' K' m = some (yes ((a = a' ∧ b = b') ∧ K = K' ∧ l.map cv = m)) := by
 unfold l14_same.f
 by_cases h : a = a' ∧ b = b'
 ·rw [if_pos (by simp [h.1, h.2])]
  by_cases h2 : K = K'
  ·rw [if_pos h2, refs_eq l (by omega) k (by omega), Option.bind_some, rsame_eq _ _ (by rw [List.length_map]; exact hn) k hk, Option.bind_some]
   congr 1
   apply yes_congr
   exact ⟨fun hh => ⟨h, h2, hh⟩, fun hh => hh.2.2⟩
  ·rw [if_neg h2, yes_false (fun hh => h2 hh.2.1)]
 ·rw [if_neg (by simpa using h), yes_false (fun hh => h hh.1)]
def H (a b : Int) (key : ByteArray) : Int := Sip.sum a b key.data.toList
def Ge (a b : Int) (x : S62) : Prop := x.f0.size ≤ 64 ∧ x.f1 = H a b x.f0 ∧ ¬ (x.f2.f0 = 0 ∧ x.f2.f1 = 0)
def Adj (a b : Int) (l : List S62) (i : Nat) : Prop := ∀ j, i ≤ j → j < l.length → Ge a b (G l j) ∧ (0 < j → cp (G l (j - 1)) (G l j) < 0)
theorem right_l0 (a b K : Int) (l : List S62) (hn : l.length ≤ 1025) : ∀ m k i, l.length = i + m → m + 30 < k → bottom_Right.l0 k l (l.length : Int) (i : Int) a b K l = some (yes (Adj a b l i))
 | 0, k, i, hi, hk => by
  obtain ⟨k, rfl⟩ : ∃ k', k = k' + 1 := ⟨k - 1, by omega⟩
  unfold bottom_Right.l0
  rw [if_neg (by omega), yes_true (P := Adj a b l i) (fun j h1 h2 => by omega)]
 | m + 1, k, i, hi, hk => by
  obtain ⟨k, rfl⟩ : ∃ k', k = k' + 1 := ⟨k - 1, by omega⟩
  have ih := right_l0 a b K l hn m k (i + 1) (by omega) (by omega)
  have hi' : i < l.length := by omega
  unfold bottom_Right.l0
  rw [if_pos (by omega), if_pos (by omega), if_pos (by omega), G_rd]
  have no : ∀ {P : Prop}, ¬ P → (Adj a b l i → P) → (some false : Option Bool) = some (yes (Adj a b l i)) := fun h1 h2 => by rw [yes_false (fun h => h1 (h2 h))]
  by_cases h1 : ((G l i).f0.size : Int) > 64
  ·rw [if_pos h1]
   exact no (P := (G l i).f0.size ≤ 64) (by omega) (fun h => (h i (Nat.le_refl _) hi').1.1)
  ·rw [if_neg h1, Sip.sum_eq a b (G l i).f0 (by omega) k (by omega), Option.bind_some]
   by_cases h2 : (G l i).f1 = Sip.sum a b (G l i).f0.data.toList
   ·rw [if_pos h2]
    by_cases h3 : (G l i).f2.f0 = 0 ∧ (G l i).f2.f1 = 0
    ·rw [if_pos (by simp [h3.1, h3.2])]
     exact no (P := ¬ ((G l i).f2.f0 = 0 ∧ (G l i).f2.f1 = 0)) (fun h => h h3) (fun h => (h i (Nat.le_refl _) hi').1.2.2)
    ·rw [if_neg (by simpa using h3)]
     have hg : Ge a b (G l i) := ⟨by omega, h2, h3⟩
     have step : (0 < i → cp (G l (i - 1)) (G l i) < 0) → some (yes (Adj a b l (i + 1))) = some (yes (Adj a b l i)) := fun hc => by
      congr 1
      apply yes_congr
      exact ⟨fun hh j h1 h2 => by rcases Nat.eq_or_lt_of_le h1 with e | e; exact e ▸ ⟨hg, hc⟩; exact hh j e h2, fun hh j h1 h2 => hh j (by omega) h2⟩
     rw [inc hi' (by omega), ih]
     by_cases h4 : i = 0
     ·rw [if_neg (by omega)]
      exact step (fun h => by omega)
     ·have e : wrap64 ((i : Int) - 1) = ((i - 1 : Nat) : Int) := by rw [w64 (by omega) (by omega)]; omega
      rw [if_pos (by omega), e, if_pos (by omega), if_pos (by omega), G_rd, compare_eq _ _ k (by omega), Option.bind_some]
      by_cases h5 : cp (G l (i - 1)) (G l i) ≥ 0
      ·rw [if_pos h5]
       exact no (P := cp (G l (i - 1)) (G l i) < 0) (by omega) (fun h => (h i (Nat.le_refl _) hi').2 (by omega))
      ·rw [if_neg h5]
       exact step (fun _ => by omega)
   ·rw [if_neg h2]
    exact no (P := (G l i).f1 = H a b (G l i).f0) h2 (fun h => (h i (Nat.le_refl _) hi').1.2.1)
def Rt (a b K : Int) (l : List S62) : Prop := (1 ≤ K ∧ K ≤ 1024) ∧ (l.length : Int) ≤ K + 1 ∧ (∀ x ∈ l, Ge a b x) ∧ Srt l
theorem adj_srt : ∀ (l : List S62), (∀ j, 0 < j → j < l.length → cp (G l (j - 1)) (G l j) < 0) → Srt l
 | [], _ => List.Pairwise.nil
 | y :: l, h => by
  have ih := adj_srt l (fun j h1 h2 => by
   have := h (j + 1) (by omega) (by simpa using h2)
   rw [Nat.add_sub_cancel] at this
   obtain ⟨j, rfl⟩ : ∃ j', j = j' + 1 := ⟨j - 1, by omega⟩
   exact this)
  refine List.pairwise_cons.2 ⟨fun z hz => ?_, ih⟩
  cases l with
  | nil => cases hz
  | cons u l =>
   have h1 : cp y u < 0 := h 1 (by omega) (by simp)
   rcases List.mem_cons.1 hz with rfl | hz
   ·exact h1
   ·exact cp_trans h1 ((List.pairwise_cons.1 ih).1 z hz)
theorem rt_adj (a b : Int) (l : List S62) : Adj a b l 0 ↔ (∀ x ∈ l, Ge a b x) ∧ Srt l := by
 constructor
 ·intro h
  refine ⟨fun x hx => ?_, adj_srt l (fun j h1 h2 => (h j (Nat.zero_le _) h2).2 h1)⟩
  obtain ⟨j, hj, rfl⟩ := List.getElem_of_mem hx
  rw [← G_get hj]
  exact (h j (Nat.zero_le _) hj).1
 ·rintro ⟨h1, h2⟩ j _ hj
  refine ⟨by rw [G_get hj]; exact h1 _ (List.getElem_mem hj), fun h0 => ?_⟩
  rw [G_get hj, G_get (by omega)]
  exact List.pairwise_iff_getElem.1 h2 (j - 1) j (by omega) hj (by omega)
theorem right_eq (a b K : Int) (l : List S62) (k : Nat) (hk : 1100 ≤ k) : bottom_Right.f k a b K l = some (yes (Rt a b K l)) := by
 obtain ⟨k, rfl⟩ : ∃ k', k = k' + 1 := ⟨k - 1, by omega⟩
 have no : ¬ Rt a b K l → bottom_Right.j0 (k + 1) true a b K l = some (yes (Rt a b K l)) := fun h => by rw [bottom_Right.j0, if_pos rfl, yes_false h]
 unfold bottom_Right.f
 by_cases h1 : K < 1
 ·rw [if_pos h1]
  exact no (fun h => by have := h.1.1; omega)
 ·rw [if_neg h1]
  by_cases h2 : K > 1024
  ·rw [if_pos h2]
   exact no (fun h => by have := h.1.2; omega)
  ·rw [if_neg h2, w64 (by omega) (by omega)]
   by_cases h3 : (l.length : Int) > K + 1
   ·rw [decide_eq_true h3]
    exact no (fun h => by have := h.2.1; omega)
   ·rw [decide_eq_false h3, bottom_Right.j0, if_neg (by decide), show (0 : Int) = ((0 : Nat) : Int) from rfl, right_l0 a b K l (by omega) l.length k 0 (by omega) (by omega)]
    congr 1
    apply yes_congr
    rw [rt_adj]
    exact ⟨fun h => ⟨⟨by omega, by omega⟩, by omega, h⟩, fun h => h.2.2⟩
def en (a b : Int) (key : ByteArray) (n : Int) : S62 := ⟨key, H a b key, ⟨0, n⟩⟩
theorem en_rng {a b : Int} {key : ByteArray} {n : Int} (h0 : 0 ≤ n) (h1 : n ≤ 18446744073709551615) : Rng (en a b key n).f2 := ⟨⟨by show (0 : Int) ≤ 0; omega, by show (0 : Int) < _; omega⟩, h0, by show n < _; omega⟩
theorem Add_eq (a b : Int) (K : Nat) (l : List S62) (h : Rt a b K l) (hr : Rl l) (key : ByteArray) (n : Int) (hs : key.size ≤ 64) (h0 : 0 < n) (h1 : n ≤ 18446744073709551615) (k : Nat) (hk : 1100 ≤ k) :
  bottom_Add.f k a b (K : Int) l key n = some (res a b K l (ins (en a b key n) l)) := by
 have hl : l.length ≤ 1025 := by have := h.1; have := h.2.1; omega
 unfold bottom_Add.f
 rw [right_eq a b K l k hk, Option.bind_some, if_pos (yes_true h), if_neg (by omega), if_neg (by omega), Sip.sum_eq a b key (by omega) k (by omega), Option.bind_some]
 unfold wide_Of.f
 rw [Option.bind_some]
 have := add_eq a b K (by have := h.1.2; omega) l (by omega) h.2.2.2 hr (en a b key n) (en_rng (by omega) h1) k (by omega)
 simp only
 rw [show bottom_add.f k a b (K : Int) l key (Sip.sum a b key.data.toList) 0 n = _ from this, Option.bind_some]
theorem Ahead_eq (y x : S62) (p q r s : Int) : r14_Ahead.f y.f0 y.f1 p q x.f0 x.f1 r s = some (decide (cp y x < 0)) := by
 unfold r14_Ahead.f cp
 by_cases h : y.f1 = x.f1
 ·rw [if_pos h, if_neg (by omega), if_neg (by omega), Lib.toList_data, Lib.toList_data, cb_less]
 ·rw [if_neg h]
  by_cases h2 : y.f1 < x.f1
  ·rw [if_pos h2, decide_eq_true h2]; rfl
  ·rw [if_neg h2, if_pos (by omega), decide_eq_false h2]; rfl
theorem un_like {y x z : S62} (h : un y x = some z) : z.f0 = y.f0 ∧ z.f1 = y.f1 ∧ num z.f2 = num y.f2 + num x.f2 := by
 unfold un at h
 split at h
 ·injection h with h
  subst h
  exact ⟨rfl, rfl, num_mkU _⟩
 ·cases h
theorem un_rng {y x z : S62} (hy : Rng y.f2) (hx : Rng x.f2) (h : un y x = some z) : Rng z.f2 := by
 unfold un at h
 split at h
 ·rename_i ht
  injection h with h
  subst h
  have := num_nonneg hy
  have := num_nonneg hx
  exact rng_mkU (by omega) ht
 ·cases h
theorem ins_mem {x : S62} : ∀ {l m : List S62}, ins x l = some m → ∀ z ∈ m, z ∈ l ∨ z = x ∨ ∃ y ∈ l, un y x = some z
 | [], m, h, z, hz => by
  injection h with h
  subst h
  exact .inr (.inl (List.mem_singleton.1 hz))
 | y :: l, m, h, z, hz => by
  unfold ins at h
  split at h
  ·obtain ⟨m', h1, rfl⟩ := Option.map_eq_some_iff.1 h
   rcases List.mem_cons.1 hz with rfl | hz
   ·exact .inl (List.mem_cons_self ..)
   ·rcases ins_mem h1 z hz with h2 | h2 | ⟨u, h2, h3⟩
    ·exact .inl (List.mem_cons_of_mem _ h2)
    ·exact .inr (.inl h2)
    ·exact .inr (.inr ⟨u, List.mem_cons_of_mem _ h2, h3⟩)
  ·split at h
   ·obtain ⟨u, h1, rfl⟩ := Option.map_eq_some_iff.1 h
    rcases List.mem_cons.1 hz with rfl | hz
    ·exact .inr (.inr ⟨y, List.mem_cons_self .., h1⟩)
    ·exact .inl (List.mem_cons_of_mem _ hz)
   ·injection h with h
    subst h
    rcases List.mem_cons.1 hz with rfl | hz
    ·exact .inr (.inl rfl)
    ·exact .inl hz
theorem ins_srt {x : S62} : ∀ {l m : List S62}, Srt l → ins x l = some m → Srt m
 | [], m, _, h => by
  injection h with h
  subst h
  exact List.pairwise_singleton _ _
 | y :: l, m, hs, h => by
  obtain ⟨h1, h2⟩ := List.pairwise_cons.1 hs
  unfold ins at h
  split at h
  ·rename_i hy
   obtain ⟨m', h3, rfl⟩ := Option.map_eq_some_iff.1 h
   refine List.pairwise_cons.2 ⟨fun z hz => ?_, ins_srt h2 h3⟩
   rcases ins_mem h3 z hz with h4 | h4 | ⟨u, h4, h5⟩
   ·exact h1 z h4
   ·rw [h4]; exact hy
   ·have := un_like h5
    rw [(cp_like this.2.1 this.1 y).1]
    exact h1 u h4
  ·rename_i hy
   split at h
   ·obtain ⟨u, h3, rfl⟩ := Option.map_eq_some_iff.1 h
    have := un_like h3
    exact List.pairwise_cons.2 ⟨fun z hz => by rw [(cp_like this.2.1 this.1 z).2]; exact h1 z hz, h2⟩
   ·rename_i hy0
    injection h with h
    subst h
    have hxy : cp x y < 0 := by rw [cp_anti]; omega
    refine List.pairwise_cons.2 ⟨fun z hz => ?_, hs⟩
    rcases List.mem_cons.1 hz with rfl | hz
    ·exact hxy
    ·exact cp_trans hxy (h1 z hz)
theorem ins_length {x : S62} : ∀ {l m : List S62}, ins x l = some m → m.length ≤ l.length + 1
 | [], m, h => by
  injection h with h
  subst h
  exact Nat.le_refl _
 | y :: l, m, h => by
  unfold ins at h
  split at h
  ·obtain ⟨m', h3, rfl⟩ := Option.map_eq_some_iff.1 h
   have := ins_length h3
   simp only [List.length_cons]; omega
  ·split at h
   ·obtain ⟨u, h3, rfl⟩ := Option.map_eq_some_iff.1 h
    simp only [List.length_cons]; omega
   ·injection h with h
    subst h
    simp only [List.length_cons]; omega
theorem ins_ge {a b : Int} {x : S62} {l m : List S62} (hg : ∀ y ∈ l, Ge a b y) (hr : Rl l) (hx : Ge a b x) (hxr : Rng x.f2) (h : ins x l = some m) : (∀ z ∈ m, Ge a b z) ∧ Rl m := by
 constructor
 ·intro z hz
  rcases ins_mem h z hz with h1 | h1 | ⟨y, h1, h2⟩
  ·exact hg z h1
  ·rw [h1]; exact hx
  ·obtain ⟨e0, e1, e2⟩ := un_like h2
   have gy := hg y h1
   refine ⟨by rw [e0]; exact gy.1, by rw [e1, e0]; exact gy.2.1, fun hh => ?_⟩
   have hz0 := (num_zero (un_rng (hr y h1) hxr h2)).2 hh
   have n1 := num_nonneg (hr y h1)
   have n2 := num_nonneg hxr
   have : num y.f2 = 0 := by omega
   exact gy.2.2 ((num_zero (hr y h1)).1 this)
 ·intro z hz
  rcases ins_mem h z hz with h1 | h1 | ⟨y, h1, h2⟩
  ·exact hr z h1
  ·rw [h1]; exact hxr
  ·exact un_rng (hr y h1) hxr h2
theorem en_f2 (a b : Int) (key : ByteArray) (n : Int) : (en a b key n).f2 = ⟨0, n⟩ := rfl
theorem en_f0 (a b : Int) (key : ByteArray) (n : Int) : (en a b key n).f0 = key := rfl
theorem en_f1 (a b : Int) (key : ByteArray) (n : Int) : (en a b key n).f1 = H a b key := rfl
theorem en_ge {a b : Int} {key : ByteArray} {n : Int} (hs : key.size ≤ 64) (h0 : 0 < n) : Ge a b (en a b key n) := by
 unfold Ge
 rw [en_f2, en_f0, en_f1]
 exact ⟨hs, Eq.refl _, fun h => by have := h.2; simp only at this; omega⟩
theorem num_en {a b : Int} {key : ByteArray} {n : Int} : num (en a b key n).f2 = n := by unfold num en; simp
theorem ins_cons (x y : S62) (l : List S62) : ins x (y :: l) = if cp y x < 0 then (ins x l).map (y :: ·) else if cp y x = 0 then (un y x).map (· :: l) else some (x :: y :: l) := rfl
def mdl : List S62 → List S62 → Option (List S62)
 | out, [] => some out
 | out, x :: es => (ins x out).bind fun m => mdl m es
theorem rl_ins {x : S62} {l m : List S62} (hr : Rl l) (hx : Rng x.f2) (hi : ins x l = some m) : Rl m := by
 intro z hz
 rcases ins_mem hi z hz with h1 | h1 | ⟨y, h1, h2⟩
 ·exact hr z h1
 ·rw [h1]; exact hx
 ·exact un_rng (hr y h1) hx h2
theorem mdl_append : ∀ (es fs out : List S62), mdl out (es ++ fs) = (mdl out es).bind fun m => mdl m fs
 | [], _, _ => rfl
 | x :: es, fs, out => by
  rw [List.cons_append, mdl, mdl]
  cases ins x out with
  | none => rfl
  | some m => exact mdl_append es fs m
def Hd (a b : Int) (l : List S62) : Prop := ∀ y ∈ l, y.f1 = H a b y.f0
theorem hd_ins {a b : Int} {x : S62} {l m : List S62} (h : Hd a b l) (hx : x.f1 = H a b x.f0) (hi : ins x l = some m) : Hd a b m := by
 intro z hz
 rcases ins_mem hi z hz with h1 | h1 | ⟨y, h1, h2⟩
 ·exact h z h1
 ·rw [h1]; exact hx
 ·have := un_like h2
  rw [this.2.1, this.1]
  exact h y h1
theorem radd_rng {a b c d : Int} (h1 : Rng ⟨a, b⟩) (h2 : Rng ⟨c, d⟩) : r01_Add.f a b c d = some (if num ⟨a, b⟩ + num ⟨c, d⟩ < top then ((mkU (num ⟨a, b⟩ + num ⟨c, d⟩)).f0, (mkU (num ⟨a, b⟩ + num ⟨c, d⟩)).f1, true) else (0, 0, false)) := add_rng h1 h2
theorem model_l1 (a b : Int) (ks : List ByteArray) (cs : List S50) (n : Int) (out : List S62) (i : Int) (x : S62) (hout : out.length ≤ 5000) : ∀ m k j, pos x out = j + m → m < k →
  r14_Model.l1 k ks cs n (out.map cv) i (j : Int) a b x.f0 x.f1 x.f2.f0 x.f2.f1 = r14_Model.j2 (k - m - 1) ks cs n (out.map cv) i (pos x out : Int) a b x.f0 x.f1 x.f2.f0 x.f2.f1
 | 0, k, j, hj, hk => by
  obtain ⟨k, rfl⟩ : ∃ k', k = k' + 1 := ⟨k - 1, by omega⟩
  obtain rfl : pos x out = j := by omega
  have hle := pos_le x out
  unfold r14_Model.l1
  by_cases h : pos x out < out.length
  ·rw [List.length_map, if_pos (by omega), if_pos (by omega), D_rd, D_map h]
   have hc : ¬ cp (G out (pos x out)) x < 0 := by
    have : ∀ l : List S62, pos x l < l.length → ¬ cp (l.getD (pos x l) z62) x < 0 := by
     intro l
     induction l with
     | nil => intro h; exact absurd h (Nat.not_lt_zero _)
     | cons y l ih =>
      unfold pos
      split
      ·intro h
       exact ih (by simpa using h)
      ·rename_i hy
       intro _
       exact hy
    exact this out h
   rw [show r14_Ahead.f (cv (G out (pos x out))).f0 (cv (G out (pos x out))).f1 (cv (G out (pos x out))).f2.f0 (cv (G out (pos x out))).f2.f1 x.f0 x.f1 x.f2.f0 x.f2.f1 = _ from Ahead_eq (G out (pos x out)) x _ _ _ _, Option.bind_some, decide_eq_false hc, if_neg (by decide)]
   rfl
  ·rw [List.length_map, if_neg (by omega)]
   rfl
 | m + 1, k, j, hj, hk => by
  obtain ⟨k, rfl⟩ : ∃ k', k = k' + 1 := ⟨k - 1, by omega⟩
  have hle := pos_le x out
  have ih := model_l1 a b ks cs n out i x hout m k (j + 1) (by omega) (by omega)
  unfold r14_Model.l1
  rw [List.length_map, if_pos (by omega), if_pos (by omega), D_rd, D_map (by omega)]
  rw [show r14_Ahead.f (cv (G out j)).f0 (cv (G out j)).f1 (cv (G out j)).f2.f0 (cv (G out j)).f2.f1 x.f0 x.f1 x.f2.f0 x.f2.f1 = _ from Ahead_eq (G out j) x _ _ _ _, Option.bind_some, decide_eq_true (show cp (G out j) x < 0 from pos_lo x out j (by omega)), if_pos rfl, inc (show j < out.length by omega) (by omega), ih]
  congr 1
  omega
theorem hit_key {a b : Int} {x : S62} {out : List S62} (hd : Hd a b out) (hx : x.f1 = H a b x.f0) (h : pos x out < out.length) : (((cv (G out (pos x out))).f0.toList) == x.f0.toList) = hit x out := by
 unfold hit
 rw [decide_eq_true h, Bool.true_and]
 change _ = decide (cp (G out (pos x out)) x = 0)
 have hm : G out (pos x out) ∈ out := by rw [G_get h]; exact List.getElem_mem h
 by_cases hk : (G out (pos x out)).f0 = x.f0
 ·rw [show (cv (G out (pos x out))).f0 = x.f0 from hk, beq_self_eq_true]
  exact (decide_eq_true ((cp_zero _ _).2 ⟨by show (G out (pos x out)).f1 = _; rw [hd _ hm, hx, hk], hk⟩)).symm
 ·rw [decide_eq_false (fun h0 => hk ((cp_zero _ _).1 h0).2), beq_eq_false_iff_ne]
  exact fun e => hk (list_inj e)
theorem model_j2 (a b : Int) (ks : List ByteArray) (cs : List S50) (n : Int) (out : List S62) (i : Nat) (hi : i < 5000) (x : S62) (hout : out.length ≤ 5000) (hd : Hd a b out) (hr : Rl out) (hx : x.f1 = H a b x.f0) (hxr : Rng x.f2) (k : Nat) :
  r14_Model.j2 (k + 2) ks cs n (out.map cv) (i : Int) (pos x out : Int) a b x.f0 x.f1 x.f2.f0 x.f2.f1 = match ins x out with | some m => r14_Model.l0 k ks cs n (m.map cv) ((i + 1 : Nat) : Int) a b | none => some ([], false) := by
 have hle := pos_le x out
 have e3 : ∀ c, c = hit x out → r14_Model.j3 (k + 1) ks cs n (out.map cv) (i : Int) (pos x out : Int) c a b x.f0 x.f1 x.f2.f0 x.f2.f1 = match ins x out with | some m => r14_Model.l0 k ks cs n (m.map cv) ((i + 1 : Nat) : Int) a b | none => some ([], false) := by
  rintro c rfl
  unfold r14_Model.j3
  rw [inc (show i < 5000 by exact hi) (by omega)]
  cases hh : hit x out with
  | true =>
   have hp : pos x out < out.length := by unfold hit at hh; simp at hh; exact hh.1
   rw [if_pos rfl, if_pos (by omega), if_pos (by rw [List.length_map]; omega), D_rd, D_map hp, ins_old x out hh]
   rw [show r01_Add.f (cv (G out (pos x out))).f2.f0 (cv (G out (pos x out))).f2.f1 x.f2.f0 x.f2.f1 = _ from radd_rng (rl_get hr hp) hxr, Option.bind_some]
   unfold un
   by_cases hc : num (out.getD (pos x out) z62).f2 + num x.f2 < top
   ·have hc' : num ⟨(cv (G out (pos x out))).f2.f0, (cv (G out (pos x out))).f2.f1⟩ + num ⟨x.f2.f0, x.f2.f1⟩ < top := hc
    rw [if_pos hc', if_pos hc]
    simp only
    rw [if_pos trivial, Int.toNat_natCast]
    simp only [Option.map_some]
    rw [List.map_set]
    rfl
   ·have hc' : ¬ num ⟨(cv (G out (pos x out))).f2.f0, (cv (G out (pos x out))).f2.f1⟩ + num ⟨x.f2.f0, x.f2.f1⟩ < top := hc
    rw [if_neg hc', if_neg hc]
    simp only
    rw [if_neg (by decide)]
    rfl
  | false =>
   rw [if_neg (by decide), if_pos (by omega), if_pos (by rw [List.length_map]; omega), Option.bind_some, Int.toNat_natCast, if_pos (by simp only [List.length_nil, List.length_take, List.length_map]; omega), Option.bind_some, List.nil_append, if_pos (by simp only [List.length_take, List.length_map]; omega), Option.bind_some, Option.bind_some, if_pos (by simp only [List.length_append, List.length_take, List.length_drop, List.length_map, List.length_singleton]; omega), ins_new x out hh]
   simp only [List.map_append, List.map_take, List.map_drop, List.map_cons, List.map_nil]
   rfl
 unfold r14_Model.j2
 by_cases h : pos x out < out.length
 ·rw [List.length_map, if_pos (by omega), if_pos (by omega), D_rd, D_map h]
  exact e3 _ (hit_key hd hx h)
 ·rw [List.length_map, if_neg (by omega)]
  exact e3 _ (by unfold hit; rw [decide_eq_false h]; rfl)
def ent (a b : Int) (y : S60) : S62 := ⟨y.f0, H a b y.f0, ⟨y.f2.f0, y.f2.f1⟩⟩
theorem ent_f1 (a b : Int) (y : S60) : (ent a b y).f1 = H a b (ent a b y).f0 := by
 simp only [ent]
theorem T50_rd (es : List S60) (i : Nat) (h : i < es.length) : rd_T50 (es.map (·.f2)) (i : Int) = es[i].f2 := by
 show (es.map (·.f2)).getD (i : Int).toNat z50 = _
 rw [Int.toNat_natCast, List.getD_eq_getElem?_getD, List.getElem?_map, List.getElem?_eq_getElem h]
 rfl
theorem K_rd (es : List S60) (i : Nat) (h : i < es.length) : rdOf ByteArray.empty (es.map (·.f0)) (i : Int) = es[i].f0 := by
 show (es.map (·.f0)).getD (i : Int).toNat _ = _
 rw [Int.toNat_natCast, List.getD_eq_getElem?_getD, List.getElem?_map, List.getElem?_eq_getElem h]
 rfl
set_option maxRecDepth 100000 in
theorem model_l0 (a b : Int) (es : List S60) (n : Nat) (hes : es.length ≤ 1000) (hsz : ∀ y ∈ es, y.f0.size ≤ 100 ∧ Rng y.f2) : ∀ m k i (out : List S62), es.length = i + m → out.length ≤ i → Hd a b out → Rl out → 1100 * m + 400 ≤ k →
  r14_Model.l0 k (es.map (·.f0)) (es.map (·.f2)) (n : Int) (out.map cv) (i : Int) a b = match mdl out ((es.drop i).map (ent a b)) with | some r => some ((r.take n).map cv, true) | none => some ([], false)
 | 0, k, i, out, hi, ho, hd, hr, hk => by
  obtain ⟨k, rfl⟩ : ∃ k', k = k' + 1 := ⟨k - 1, by omega⟩
  unfold r14_Model.l0
  rw [List.length_map, if_neg (by omega), List.drop_of_length_le (by omega), List.length_map]
  simp only [List.map_nil, mdl]
  by_cases h : (out.length : Int) > (n : Int)
  ·rw [if_pos h, if_pos (by omega), if_pos (by omega), Int.toNat_natCast, List.map_take]
  ·rw [if_neg h, List.take_of_length_le (by omega)]
 | m + 1, k, i, out, hi, ho, hd, hr, hk => by
  obtain ⟨k, rfl⟩ : ∃ k', k = k' + 1 := ⟨k - 1, by omega⟩
  have hi' : i < es.length := by omega
  have hy := hsz es[i] (List.getElem_mem hi')
  have hle := pos_le (ent a b es[i]) out
  unfold r14_Model.l0
  rw [List.length_map, if_pos (by omega), if_pos (by omega), K_rd es i hi', Sip.ref_sum_eq a b es[i].f0 (by omega) k (by omega), Option.bind_some, List.length_map, if_pos (by omega), T50_rd es i hi', show (0 : Int) = ((0 : Nat) : Int) from rfl]
  rw [show r14_Model.l1 k (es.map (·.f0)) (es.map (·.f2)) (n : Int) (out.map cv) (i : Int) ((0 : Nat) : Int) a b es[i].f0 (Sip.sum a b es[i].f0.data.toList) es[i].f2.f0 es[i].f2.f1 = _ from model_l1 a b (es.map (·.f0)) (es.map (·.f2)) n out i (ent a b es[i]) (by omega) (pos (ent a b es[i]) out) k 0 (by omega) (by omega)]
  obtain ⟨k2, hk2⟩ : ∃ k2, k - pos (ent a b es[i]) out - 1 = k2 + 2 := ⟨k - pos (ent a b es[i]) out - 3, by omega⟩
  rw [hk2, model_j2 a b _ _ n out i (by omega) (ent a b es[i]) (by omega) hd hr (ent_f1 a b es[i]) hy.2 k2, List.drop_eq_getElem_cons hi', List.map_cons, mdl]
  cases hc : ins (ent a b es[i]) out with
  | none => rfl
  | some r =>
   have := ins_length hc
   rw [Option.bind_some]
   exact model_l0 a b es n hes hsz m k2 (i + 1) r (by omega) (by omega) (hd_ins hd (ent_f1 a b es[i]) hc) (rl_ins hr hy.2 hc) (by omega)
theorem model_eq (a b : Int) (es : List S60) (n : Nat) (hes : es.length ≤ 1000) (hsz : ∀ y ∈ es, y.f0.size ≤ 100 ∧ Rng y.f2) (k : Nat) (hk : 1100 * es.length + 400 ≤ k) :
  r14_Model.f k a b (es.map (·.f0)) (es.map (·.f2)) (n : Int) = match mdl [] (es.map (ent a b)) with | some r => some ((r.take n).map cv, true) | none => some ([], false) := by
 unfold r14_Model.f
 exact model_l0 a b es n hes hsz es.length k 0 [] (by omega) (Nat.le_refl _) (fun _ h => by cases h) (fun _ h => by cases h) hk
def mrg (N : Nat) : List S62 → List S62 → Option (List S62)
 | l, [] => some l
 | l, x :: es => (ins x l).bind fun m => mrg N (m.take N) es
theorem ins_take {x : S62} : ∀ {l m : List S62} (N : Nat), ins x l = some m → ∃ m', ins x (l.take N) = some m' ∧ m'.take N = m.take N
 | l, m, 0, _ => by
  rw [List.take_zero]
  exact ⟨[x], rfl, by simp⟩
 | [], m, N + 1, h => by
  rw [List.take_nil]
  exact ⟨m, h, rfl⟩
 | y :: l, m, N + 1, h => by
  rw [ins_cons] at h
  rw [List.take_succ_cons, ins_cons]
  split at h
  ·rename_i hy
   rw [if_pos hy]
   obtain ⟨m1, h1, rfl⟩ := Option.map_eq_some_iff.1 h
   obtain ⟨m', h2, h3⟩ := ins_take N h1
   rw [h2]
   exact ⟨y :: m', rfl, by rw [List.take_succ_cons, List.take_succ_cons, h3]⟩
  ·rename_i hy
   rw [if_neg hy]
   split at h
   ·rename_i h0
    rw [if_pos h0]
    obtain ⟨u, h1, rfl⟩ := Option.map_eq_some_iff.1 h
    rw [h1]
    exact ⟨u :: l.take N, rfl, by rw [List.take_succ_cons, List.take_succ_cons, List.take_take, Nat.min_self]⟩
   ·rename_i h0
    rw [if_neg h0]
    injection h with h
    subst h
    refine ⟨_, rfl, ?_⟩
    rw [List.take_succ_cons, List.take_succ_cons]
    cases N with
    | zero => rfl
    | succ N => rw [List.take_succ_cons, List.take_succ_cons, List.take_take, Nat.min_eq_left (by omega)]
theorem mrg_mdl (N : Nat) : ∀ (es l m : List S62), mdl l es = some m → mrg N (l.take N) es = some (m.take N)
 | [], l, m, h => by
  rw [mdl] at h
  injection h with h
  subst h
  rfl
 | x :: es, l, m, h => by
  rw [mdl] at h
  obtain ⟨m1, h1, h2⟩ := Option.bind_eq_some_iff.1 h
  obtain ⟨m', h3, h4⟩ := ins_take N h1
  rw [mrg, h3, Option.bind_some, h4]
  exact mrg_mdl N es m1 m h2
theorem ins_mem2 {x : S62} : ∀ {l m : List S62}, ins x l = some m → ∀ z ∈ m, z ∈ l ∨ cp z x = 0
 | [], m, h, z, hz => by
  injection h with h
  subst h
  rw [List.mem_singleton.1 hz]
  exact .inr ((cp_zero x x).2 ⟨rfl, rfl⟩)
 | y :: l, m, h, z, hz => by
  rw [ins_cons] at h
  split at h
  ·obtain ⟨m', h1, rfl⟩ := Option.map_eq_some_iff.1 h
   rcases List.mem_cons.1 hz with rfl | hz
   ·exact .inl (List.mem_cons_self ..)
   ·rcases ins_mem2 h1 z hz with h2 | h2
    ·exact .inl (List.mem_cons_of_mem _ h2)
    ·exact .inr h2
  ·split at h
   ·rename_i h0
    obtain ⟨u, h1, rfl⟩ := Option.map_eq_some_iff.1 h
    rcases List.mem_cons.1 hz with rfl | hz
    ·have := un_like h1
     exact .inr (by rw [(cp_like this.2.1 this.1 x).2]; exact h0)
    ·exact .inl (List.mem_cons_of_mem _ hz)
   ·injection h with h
    subst h
    rcases List.mem_cons.1 hz with rfl | hz
    ·exact .inr ((cp_zero z z).2 ⟨rfl, rfl⟩)
    ·exact .inl hz
theorem mem_ins {x y : S62} (hc : cp y x ≠ 0) : ∀ {l m : List S62}, ins x l = some m → y ∈ l → y ∈ m
 | [], m, _, hy => by cases hy
 | u :: l, m, h, hy => by
  rw [ins_cons] at h
  split at h
  ·obtain ⟨m', h1, rfl⟩ := Option.map_eq_some_iff.1 h
   rcases List.mem_cons.1 hy with rfl | hy
   ·exact List.mem_cons_self ..
   ·exact List.mem_cons_of_mem _ (mem_ins hc h1 hy)
  ·split at h
   ·rename_i h0
    obtain ⟨v, h1, rfl⟩ := Option.map_eq_some_iff.1 h
    rcases List.mem_cons.1 hy with rfl | hy
    ·exact absurd h0 hc
    ·exact List.mem_cons_of_mem _ hy
   ·injection h with h
    subst h
    exact List.mem_cons_of_mem _ hy
theorem ins_none {z : S62} : ∀ {l : List S62}, Srt l → (ins z l = none ↔ ∃ y ∈ l, cp y z = 0 ∧ un y z = none)
 | [], _ => ⟨fun h => (by cases h), fun ⟨y, hy, _⟩ => (by cases hy)⟩
 | u :: l, hs => by
  obtain ⟨h1, h2⟩ := List.pairwise_cons.1 hs
  rw [ins_cons]
  by_cases hu : cp u z < 0
  ·rw [if_pos hu, Option.map_eq_none_iff, ins_none h2]
   constructor
   ·rintro ⟨y, hy, h⟩
    exact ⟨y, List.mem_cons_of_mem _ hy, h⟩
   ·rintro ⟨y, hy, h⟩
    rcases List.mem_cons.1 hy with rfl | hy
    ·have := h.1; omega
    ·exact ⟨y, hy, h⟩
  ·rw [if_neg hu]
   have hrest : cp u z ≥ 0 → ∀ y ∈ l, cp y z ≠ 0 := fun _ y hy h0 => by
    have h3 := h1 y hy
    have h4 := (cp_zero y z).1 h0
    rw [(cp_like h4.1 h4.2 u).1] at h3
    omega
   by_cases h0 : cp u z = 0
   ·rw [if_pos h0, Option.map_eq_none_iff]
    constructor
    ·intro h
     exact ⟨u, List.mem_cons_self .., h0, h⟩
    ·rintro ⟨y, hy, h⟩
     rcases List.mem_cons.1 hy with rfl | hy
     ·exact h.2
     ·exact absurd h.1 (hrest (by omega) y hy)
   ·rw [if_neg h0]
    constructor
    ·intro h; cases h
    ·rintro ⟨y, hy, h⟩
     rcases List.mem_cons.1 hy with rfl | hy
     ·exact absurd h.1 h0
     ·exact absurd h.1 (hrest (by omega) y hy)
theorem ins_other {x z : S62} {l m : List S62} (hs : Srt l) (h : ins x l = some m) (hc : cp x z ≠ 0) : ins z m = none ↔ ins z l = none := by
 rw [ins_none hs, ins_none (ins_srt hs h)]
 have sw : ∀ y, cp y z = 0 → cp y x ≠ 0 := fun y h0 h1 => by
  have h2 := (cp_zero y z).1 h0
  have h3 := (cp_zero y x).1 h1
  exact hc ((cp_zero x z).2 ⟨by rw [← h3.1, h2.1], by rw [← h3.2, h2.2]⟩)
 constructor
 ·rintro ⟨y, hy, h0, h1⟩
  rcases ins_mem2 h y hy with h2 | h2
  ·exact ⟨y, h2, h0, h1⟩
  ·exact absurd h2 (sw y h0)
 ·rintro ⟨y, hy, h0, h1⟩
  exact ⟨y, mem_ins (sw y h0) h hy, h0, h1⟩
theorem mdl_some : ∀ (lb la : List S62), Srt la → Srt lb → (∀ x ∈ lb, ins x la ≠ none) → ∃ m, mdl la lb = some m
 | [], la, _, _, _ => ⟨la, rfl⟩
 | x :: lb, la, hs, hb, h => by
  obtain ⟨h1, h2⟩ := List.pairwise_cons.1 hb
  cases hm : ins x la with
  | none => exact absurd hm (h x (List.mem_cons_self ..))
  | some m =>
   obtain ⟨r, hr⟩ := mdl_some lb m (ins_srt hs hm) h2 (fun z hz hn => h z (List.mem_cons_of_mem _ hz) ((ins_other hs hm (by have := h1 z hz; omega)).1 hn))
   exact ⟨r, by rw [mdl, hm, Option.bind_some, hr]⟩
theorem mdl_none : ∀ (lb la : List S62), Srt la → Srt lb → (∃ x ∈ lb, ins x la = none) → mdl la lb = none
 | [], la, _, _, ⟨x, hx, _⟩ => by cases hx
 | x :: lb, la, hs, hb, ⟨z, hz, hn⟩ => by
  obtain ⟨h1, h2⟩ := List.pairwise_cons.1 hb
  rw [mdl]
  cases hm : ins x la with
  | none => rfl
  | some m =>
   rw [Option.bind_some]
   rcases List.mem_cons.1 hz with rfl | hz
   ·rw [hn] at hm; cases hm
   ·exact mdl_none lb m (ins_srt hs hm) h2 ⟨z, hz, (ins_other hs hm (by have := h1 z hz; omega)).2 hn⟩
theorem anyF_eq {α : Type} (p : α → Option Bool) (c : α → Bool) : ∀ (l : List α) (i : Int), 0 ≤ i → (∀ x ∈ l, p x = some (c x)) → ∃ r, idxF p l i = some r ∧ decide (r ≥ 0) = l.any c
 | [], i, _, _ => ⟨-1, rfl, rfl⟩
 | x :: l, i, hi, h => by
  rw [idxF, h x (List.mem_cons_self ..), Option.bind_some, List.any_cons]
  cases hc : c x with
  | true => exact ⟨i, by rw [if_pos rfl], by simpa using hi⟩
  | false =>
   obtain ⟨r, h1, h2⟩ := anyF_eq p c l (i + 1) (by omega) (fun z hz => h z (List.mem_cons_of_mem _ hz))
   exact ⟨r, by rw [if_neg (by decide), h1], by rw [h2, Bool.false_or]⟩
theorem wrapsOne_eq (la : List S62) (hl : la.length < 1000000) (hs : Srt la) (hr : Rl la) (x : S62) (hx : Rng x.f2) (k : Nat) (hk : 3 ≤ k) : wrapsOne k la x = some (ins x la).isNone := by
 unfold wrapsOne
 rw [if_pos hl, bsT_eq x la hs k hk, Option.bind_some]
 have hle := pos_le x la
 cases hh : hit x la with
 | false =>
  simp only
  rw [if_neg (by decide), ins_new x la hh]
  rfl
 | true =>
  have hp : pos x la < la.length := by unfold hit at hh; simp at hh; exact hh.1
  simp only
  rw [if_pos trivial, if_pos (by omega)]
  have e : rd_T62 la (pos x la : Int) = la.getD (pos x la) z62 := by show la.getD (pos x la : Int).toNat z62 = _; rw [Int.toNat_natCast]
  rw [e, add_rng (rl_get hr hp) hx, Option.bind_some, ins_old x la hh]
  unfold un
  by_cases hc : num (la.getD (pos x la) z62).f2 + num x.f2 < top
  ·rw [if_pos hc, if_pos hc]; rfl
  ·rw [if_neg hc, if_neg hc]; rfl
theorem wraps_eq (a b : Int) (K : Int) (la lb : List S62) (hl : la.length < 1000000) (hs : Srt la) (hr : Rl la) (hb : Rl lb) (k : Nat) (hk : 3 ≤ k) : bottom_wraps.f k a b K la a b K lb = some (lb.any fun x => (ins x la).isNone) := by
 unfold bottom_wraps.f anyF
 obtain ⟨r, h1, h2⟩ := anyF_eq (wrapsOne k la) (fun x => (ins x la).isNone) lb 0 (Int.le_refl 0) (fun x hx => wrapsOne_eq la hl hs hr x (hb x hx) k hk)
 rw [h1, Option.bind_some, h2]
theorem merge_l0 (a b : Int) (K : Nat) (hK : K ≤ 1024) (lb : List S62) (hb : Rl lb) (hlb : lb.length ≤ 5000) (r : List S62) : ∀ m k i (l : List S62), lb.length = i + m → m + 10 < k → Srt l → Rl l → l.length ≤ K + 1 → mrg (K + 1) l (lb.drop i) = some r →
  bottom_Merge.l0 k lb (lb.length : Int) (i : Int) a b (K : Int) l = some (a, b, (K : Int), r, 0)
 | 0, k, i, l, hi, hk, hs, hr, hl, h => by
  obtain ⟨k, rfl⟩ : ∃ k', k = k' + 1 := ⟨k - 1, by omega⟩
  rw [List.drop_of_length_le (by omega), mrg] at h
  injection h with h
  subst h
  unfold bottom_Merge.l0
  rw [if_neg (by omega)]
 | m + 1, k, i, l, hi, hk, hs, hr, hl, h => by
  obtain ⟨k, rfl⟩ : ∃ k', k = k' + 1 := ⟨k - 1, by omega⟩
  have hi' : i < lb.length := by omega
  rw [List.drop_eq_getElem_cons hi', mrg, ← G_get hi'] at h
  obtain ⟨m1, h1, h2⟩ := Option.bind_eq_some_iff.1 h
  have hx : Rng (G lb i).f2 := by rw [G_get hi']; exact hb _ (List.getElem_mem hi')
  have ih := merge_l0 a b K hK lb hb hlb r m k (i + 1) (m1.take (K + 1)) (by omega) (by omega) (List.Pairwise.sublist (List.take_sublist _ _) (ins_srt hs h1)) (fun z hz => rl_ins hr hx h1 z (List.mem_of_mem_take hz)) (by rw [List.length_take]; omega) h2
  unfold bottom_Merge.l0
  rw [if_pos (by omega), if_pos (by omega), if_pos (by omega), G_rd, add_eq a b K hK l (by omega) hs hr (G lb i) hx k (by omega), h1, Option.bind_some, inc hi' (by omega)]
  exact ih
theorem merge_eq (a b : Int) (K : Nat) (la lb : List S62) (ha : Rt a b K la) (hb : Rt a b K lb) (hra : Rl la) (hrb : Rl lb) (k : Nat) (hk : 3000 ≤ k) :
  bottom_Merge.f k a b (K : Int) la a b (K : Int) lb = match mdl la lb with | some m => some (a, b, (K : Int), m.take (K + 1), 0) | none => some (0, 0, 0, [], 12) := by
 obtain ⟨k, rfl⟩ : ∃ k', k = k' + 1 := ⟨k - 1, by omega⟩
 have hK := ha.1.2
 have hla := ha.2.1
 have hlb := hb.2.1
 unfold bottom_Merge.f
 rw [right_eq a b K la (k + 1) (by omega), Option.bind_some, if_pos (yes_true ha), right_eq a b K lb (k + 1) (by omega), Option.bind_some, yes_true hb, bottom_Merge.j0, if_neg (by decide), if_neg (by simp), if_pos rfl, wraps_eq a b K la lb (by omega) ha.2.2.2 hra hrb k (by omega), Option.bind_some]
 cases hw : lb.any fun x => (ins x la).isNone with
 | true =>
  obtain ⟨x, hx, hn⟩ := List.any_eq_true.1 hw
  rw [if_pos rfl, mdl_none lb la ha.2.2.2 hb.2.2.2 ⟨x, hx, Option.isNone_iff_eq_none.1 hn⟩]
 | false =>
  obtain ⟨m, hm⟩ := mdl_some lb la ha.2.2.2 hb.2.2.2 (fun x hx hn => by
   have := List.any_eq_false.1 hw x hx
   rw [hn] at this
   exact this rfl)
  have h := mrg_mdl (K + 1) lb la m hm
  rw [List.take_of_length_le (by omega)] at h
  rw [if_neg (by decide), hm, show (0 : Int) = ((0 : Nat) : Int) from rfl, merge_l0 a b K (by omega) lb hrb (by omega) (m.take (K + 1)) lb.length k 0 la (by omega) (by omega) ha.2.2.2 hra (by omega) h]
  rfl
def Fine (a b : Int) (l : List S62) : Prop := (∀ x ∈ l, Ge a b x) ∧ Srt l ∧ Rl l
theorem fine_take {a b : Int} {l : List S62} (h : Fine a b l) (N : Nat) : Fine a b (l.take N) :=
 ⟨fun x hx => h.1 x (List.mem_of_mem_take hx), List.Pairwise.sublist (List.take_sublist _ _) h.2.1, fun x hx => h.2.2 x (List.mem_of_mem_take hx)⟩
theorem fine_rt {a b : Int} {l : List S62} (h : Fine a b l) (K : Nat) (h1 : 1 ≤ K) (h2 : K ≤ 1024) : Rt a b K (l.take (K + 1)) :=
 ⟨⟨by omega, by omega⟩, by rw [List.length_take]; omega, (fine_take h _).1, (fine_take h _).2.1⟩
theorem fine_ins {a b : Int} {x : S62} {l m : List S62} (h : Fine a b l) (hx : Ge a b x) (hxr : Rng x.f2) (hi : ins x l = some m) : Fine a b m :=
 ⟨(ins_ge h.1 h.2.2 hx hxr hi).1, ins_srt h.2.1 hi, (ins_ge h.1 h.2.2 hx hxr hi).2⟩
theorem fine_mdl {a b : Int} : ∀ (E l r : List S62), Fine a b l → (∀ x ∈ E, Ge a b x ∧ Rng x.f2) → mdl l E = some r → Fine a b r
 | [], l, r, h, _, hi => by
  rw [mdl] at hi
  injection hi with hi
  exact hi ▸ h
 | x :: E, l, r, h, he, hi => by
  rw [mdl] at hi
  obtain ⟨m, h1, h2⟩ := Option.bind_eq_some_iff.1 hi
  have hx := he x (List.mem_cons_self ..)
  exact fine_mdl E m r (fine_ins h hx.1 hx.2 h1) (fun z hz => he z (List.mem_cons_of_mem _ hz)) h2
def Bnd (B : Int) (l : List S62) : Prop := ∀ y ∈ l, num y.f2 ≤ B
theorem ins_bnd {B C : Int} {x : S62} (hB : 0 ≤ B) (hx0 : 0 ≤ num x.f2) (hx : num x.f2 ≤ C) (ht : B + C < top) : ∀ {l : List S62}, Bnd B l → ∃ m, ins x l = some m ∧ Bnd (B + C) m
 | [], _ => ⟨[x], rfl, fun y hy => by rw [List.mem_singleton.1 hy]; omega⟩
 | y :: l, h => by
  have hy := h y (List.mem_cons_self ..)
  have hl : Bnd B l := fun z hz => h z (List.mem_cons_of_mem _ hz)
  have hl2 : ∀ z ∈ l, num z.f2 ≤ B + C := fun z hz => by have := hl z hz; omega
  rw [ins_cons]
  by_cases h1 : cp y x < 0
  ·obtain ⟨m, h2, h3⟩ := ins_bnd hB hx0 hx ht hl
   rw [if_pos h1, h2]
   refine ⟨y :: m, rfl, fun z hz => ?_⟩
   rcases List.mem_cons.1 hz with rfl | hz
   ·omega
   ·exact h3 z hz
  ·rw [if_neg h1]
   by_cases h0 : cp y x = 0
   ·rw [if_pos h0]
    unfold un
    rw [if_pos (by omega)]
    refine ⟨_, rfl, fun z hz => ?_⟩
    rcases List.mem_cons.1 hz with rfl | hz
    ·rw [num_mkU]; omega
    ·exact hl2 z hz
   ·rw [if_neg h0]
    refine ⟨_, rfl, fun z hz => ?_⟩
    rcases List.mem_cons.1 hz with rfl | hz
    ·omega
    ·rcases List.mem_cons.1 hz with rfl | hz
     ·omega
     ·exact hl2 z hz
theorem ins_rel {x : S62} {l l' m m' : List S62} {N : Nat} (h : ins x l = some m) (h' : ins x l' = some m') (e : l.take N = l'.take N) : m.take N = m'.take N := by
 obtain ⟨p, h1, h2⟩ := ins_take N h
 obtain ⟨p', h3, h4⟩ := ins_take N h'
 rw [e, h3] at h1
 injection h1 with h1
 rw [← h2, ← h4, h1]
theorem mdl_rel {N : Nat} : ∀ (E l l' r r' : List S62), mdl l E = some r → mdl l' E = some r' → l.take N = l'.take N → r.take N = r'.take N
 | [], l, l', r, r', h, h', e => by
  rw [mdl] at h h'
  injection h with h
  injection h' with h'
  rw [← h, ← h', e]
 | x :: E, l, l', r, r', h, h', e => by
  rw [mdl] at h h'
  obtain ⟨m, h1, h2⟩ := Option.bind_eq_some_iff.1 h
  obtain ⟨m', h3, h4⟩ := Option.bind_eq_some_iff.1 h'
  exact mdl_rel E m m' r r' h2 h4 (ins_rel h1 h3 e)
theorem ins_far {x : S62} : ∀ {l m : List S62} {N : Nat}, N ≤ pos x l → ins x l = some m → m.take N = l.take N
 | _, _, 0, _, _ => by rw [List.take_zero, List.take_zero]
 | [], _, N + 1, h, _ => absurd h (Nat.not_succ_le_zero N)
 | y :: l, m, N + 1, h, hi => by
  rw [ins_cons] at hi
  unfold pos at h
  split at h
  ·rename_i hy
   rw [if_pos hy] at hi
   obtain ⟨m', h1, rfl⟩ := Option.map_eq_some_iff.1 hi
   rw [List.take_succ_cons, List.take_succ_cons, ins_far (by omega) h1]
  ·exact absurd h (Nat.not_succ_le_zero N)
theorem pos_next {e x : S62} (hc : cp e x < 0) : ∀ {l m : List S62}, ins e l = some m → pos e l + 1 ≤ pos x m
 | [], m, h => by
  injection h with h
  subst h
  unfold pos
  rw [if_pos hc]
  unfold pos
  omega
 | y :: l, m, h => by
  rw [ins_cons] at h
  split at h
  ·rename_i hy
   obtain ⟨m', h1, rfl⟩ := Option.map_eq_some_iff.1 h
   have := pos_next hc h1
   rw [pos, if_pos hy, pos, if_pos (cp_trans hy hc)]
   omega
  ·rename_i hy
   rw [pos, if_neg hy]
   split at h
   ·rename_i h0
    obtain ⟨u, h1, rfl⟩ := Option.map_eq_some_iff.1 h
    have hu := un_like h1
    have h2 := (cp_zero y e).1 h0
    rw [pos, if_pos (by rw [(cp_like (hu.2.1.trans h2.1) (hu.1.trans h2.2) x).2]; exact hc)]
    omega
   ·injection h with h
    subst h
    rw [pos, if_pos hc]
    omega
theorem pos_mdl {x : S62} : ∀ (E l r : List S62) (p : Nat), p ≤ pos (E.headD x) l → Srt E → (∀ e ∈ E, cp e x < 0) → mdl l E = some r → p + E.length ≤ pos x r
 | [], l, r, p, hp, _, _, h => by
  rw [mdl] at h
  injection h with h
  subst h
  simpa using hp
 | e :: E, l, r, p, hp, hs, hx, h => by
  rw [mdl] at h
  obtain ⟨m, h1, h2⟩ := Option.bind_eq_some_iff.1 h
  obtain ⟨s1, s2⟩ := List.pairwise_cons.1 hs
  have hp' : p ≤ pos e l := hp
  have hn : p + 1 ≤ pos (E.headD x) m := by
   cases E with
   | nil => have := pos_next (hx e (List.mem_cons_self ..)) h1; simpa using (by omega : p + 1 ≤ pos x m)
   | cons f E => have := pos_next (s1 f (List.mem_cons_self ..)) h1; show p + 1 ≤ pos f m; omega
  have := pos_mdl E m r (p + 1) hn s2 (fun z hz => hx z (List.mem_cons_of_mem _ hz)) h2
  simp only [List.length_cons]
  omega
theorem mdl_far {N : Nat} : ∀ (E l r : List S62), Srt E → (∀ x ∈ E, N ≤ pos x l) → mdl l E = some r → r.take N = l.take N
 | [], l, r, _, _, h => by
  rw [mdl] at h
  injection h with h
  rw [h]
 | x :: E, l, r, hs, hp, h => by
  rw [mdl] at h
  obtain ⟨m, h1, h2⟩ := Option.bind_eq_some_iff.1 h
  obtain ⟨s1, s2⟩ := List.pairwise_cons.1 hs
  have hx := hp x (List.mem_cons_self ..)
  rw [mdl_far E m r s2 (fun z hz => by have := pos_next (s1 z hz) h1; omega) h2, ins_far hx h1]
theorem mdl_first {N : Nat} {l E r q : List S62} (hs : Srt E) (h : mdl l E = some r) (h' : mdl l (E.take N) = some q) : r.take N = q.take N := by
 rw [← List.take_append_drop N E, mdl_append, h', Option.bind_some] at h
 rw [← List.take_append_drop N E] at hs
 obtain ⟨s1, s2, s3⟩ := List.pairwise_append.1 hs
 refine mdl_far (E.drop N) q r s2 (fun x hx => ?_) h
 have := pos_mdl (x := x) (E.take N) l q 0 (Nat.zero_le _) s1 (fun e he => s3 e he x hx) h'
 have hlen : N ≤ E.length := by
  rcases Nat.lt_or_ge E.length N with h1 | h1
  ·rw [List.drop_of_length_le (by omega)] at hx; cases hx
  ·exact h1
 rw [List.length_take] at this
 omega
theorem un_swap {x y : S62} (h : cp x y = 0) : un x y = un y x := by
 obtain ⟨e1, e0⟩ := (cp_zero x y).1 h
 unfold un
 rw [e1, e0, Int.add_comm]
theorem un_three {z x y : S62} (hz : Rng z.f2) (hx : Rng x.f2) (hy : Rng y.f2) : (un z x).bind (fun w => un w y) = (un z y).bind (fun w => un w x) := by
 have n0 := num_nonneg hz
 have n1 := num_nonneg hx
 have n2 := num_nonneg hy
 unfold un
 by_cases h1 : num z.f2 + num x.f2 < top
 ·rw [if_pos h1, Option.bind_some]
  simp only [num_mkU]
  by_cases h2 : num z.f2 + num y.f2 < top
  ·rw [if_pos h2, Option.bind_some]
   simp only [num_mkU]
   rw [show num z.f2 + num x.f2 + num y.f2 = num z.f2 + num y.f2 + num x.f2 by omega]
  ·rw [if_neg h2, Option.bind_none, if_neg (by omega)]
 ·rw [if_neg h1, Option.bind_none]
  by_cases h2 : num z.f2 + num y.f2 < top
  ·rw [if_pos h2, Option.bind_some]
   simp only [num_mkU]
   rw [if_neg (by omega)]
  ·rw [if_neg h2, Option.bind_none]
theorem un_key {z x w : S62} (h : un z x = some w) (y : S62) : cp w y = cp z y ∧ cp y w = cp y z := by
 have := un_like h
 exact ⟨(cp_like this.2.1 this.1 y).2, (cp_like this.2.1 this.1 y).1⟩
theorem ins_c {x y : S62} {l : List S62} : ins x (y :: l) = if cp y x < 0 then (ins x l).map (y :: ·) else if cp y x = 0 then (un y x).map (· :: l) else some (x :: y :: l) := rfl
theorem ins_comm {x y : S62} (hx : Rng x.f2) (hy : Rng y.f2) : ∀ l, Rl l → (ins x l).bind (ins y) = (ins y l).bind (ins x)
 | [], _ => by
  show ins y [x] = ins x [y]
  rw [ins_c, ins_c]
  have ha := cp_anti x y
  by_cases h1 : cp x y < 0
  ·rw [if_pos h1, if_neg (by omega), if_neg (by omega)]; rfl
  ·by_cases h2 : cp x y = 0
   ·rw [if_neg h1, if_pos h2, if_neg (by omega), if_pos (by omega), un_swap h2]
   ·rw [if_neg h1, if_neg h2, if_pos (by omega)]; rfl
 | z :: l, hr => by
  have ih := ins_comm hx hy l (fun w hw => hr w (List.mem_cons_of_mem _ hw))
  have hz := hr z (List.mem_cons_self ..)
  have hxy := cp_anti x y
  have hzx := cp_anti z x
  have hzy := cp_anti z y
  have like : ∀ {u v : S62}, cp u v = 0 → ∀ w, cp w u = cp w v ∧ cp u w = cp v w := fun h w => by
   obtain ⟨e1, e0⟩ := (cp_zero _ _).1 h
   exact cp_like e1 e0 w
  rw [ins_c, ins_c]
  by_cases a1 : cp z x < 0
  ·rw [if_pos a1]
   by_cases b1 : cp z y < 0
   ·rw [if_pos b1]
    have e1 : ∀ o : Option (List S62), (o.map (z :: ·)).bind (ins y) = (o.bind (ins y)).map (z :: ·) := fun o => by
     cases o with
     | none => rfl
     | some m => show ins y (z :: m) = _; rw [ins_c, if_pos b1]; rfl
    have e2 : ∀ o : Option (List S62), (o.map (z :: ·)).bind (ins x) = (o.bind (ins x)).map (z :: ·) := fun o => by
     cases o with
     | none => rfl
     | some m => show ins x (z :: m) = _; rw [ins_c, if_pos a1]; rfl
    rw [e1, e2, ih]
   ·rw [if_neg b1]
    by_cases b2 : cp z y = 0
    ·rw [if_pos b2]
     cases hu : un z y with
     | none =>
      cases ins x l with
      | none => rfl
      | some m => show ins y (z :: m) = none; rw [ins_c, if_neg b1, if_pos b2, hu]; rfl
     | some w =>
      have hw := (un_key hu x).1
      show _ = ins x (w :: l)
      rw [ins_c, if_pos (by omega)]
      cases ins x l with
      | none => rfl
      | some m => show ins y (z :: m) = _; rw [ins_c, if_neg b1, if_pos b2, hu]; rfl
    ·rw [if_neg b2]
     show _ = ins x (y :: z :: l)
     have : cp y x < 0 := cp_trans (show cp y z < 0 by omega) a1
     rw [ins_c, if_pos this, ins_c, if_pos a1]
     cases ins x l with
     | none => rfl
     | some m => show ins y (z :: m) = _; rw [ins_c, if_neg b1, if_neg b2]; rfl
  ·rw [if_neg a1]
   by_cases a2 : cp z x = 0
   ·rw [if_pos a2]
    by_cases b1 : cp z y < 0
    ·rw [if_pos b1]
     cases hu : un z x with
     | none =>
      cases ins y l with
      | none => rfl
      | some m => show none = ins x (z :: m); rw [ins_c, if_neg a1, if_pos a2, hu]; rfl
     | some w =>
      have hw := (un_key hu y).1
      show ins y (w :: l) = _
      rw [ins_c, if_pos (by omega)]
      cases ins y l with
      | none => rfl
      | some m => show _ = ins x (z :: m); rw [ins_c, if_neg a1, if_pos a2, hu]; rfl
    ·rw [if_neg b1]
     by_cases b2 : cp z y = 0
     ·rw [if_pos b2]
      have e := un_three hz hx hy
      have e1 : ((un z x).map (· :: l)).bind (ins y) = ((un z x).bind fun w => un w y).map (· :: l) := by
       cases hu : un z x with
       | none => rfl
       | some w =>
        have hw := (un_key hu y).1
        show ins y (w :: l) = _
        rw [ins_c, if_neg (by omega), if_pos (by omega)]; rfl
      have e2 : ((un z y).map (· :: l)).bind (ins x) = ((un z y).bind fun w => un w x).map (· :: l) := by
       cases hu : un z y with
       | none => rfl
       | some w =>
        have hw := (un_key hu x).1
        show ins x (w :: l) = _
        rw [ins_c, if_neg (by omega), if_pos (by omega)]; rfl
      rw [e1, e2, e]
     ·rw [if_neg b2]
      have : cp y x < 0 := by rw [(like a2 y).1.symm]; omega
      show _ = ins x (y :: z :: l)
      rw [ins_c, if_pos this, ins_c, if_neg a1, if_pos a2]
      cases hu : un z x with
      | none => rfl
      | some w =>
       have hw := (un_key hu y).1
       show ins y (w :: l) = _
       rw [ins_c, if_neg (by omega), if_neg (by omega)]; rfl
   ·rw [if_neg a2]
    by_cases b1 : cp z y < 0
    ·rw [if_pos b1]
     have : cp x y < 0 := cp_trans (show cp x z < 0 by omega) b1
     show ins y (x :: z :: l) = _
     rw [ins_c, if_pos this, ins_c, if_pos b1]
     cases ins y l with
     | none => rfl
     | some m => show _ = ins x (z :: m); rw [ins_c, if_neg a1, if_neg a2]; rfl
    ·rw [if_neg b1]
     by_cases b2 : cp z y = 0
     ·rw [if_pos b2]
      have : cp x y < 0 := by rw [(like b2 x).1.symm]; omega
      show ins y (x :: z :: l) = _
      rw [ins_c, if_pos this, ins_c, if_neg b1, if_pos b2]
      cases hu : un z y with
      | none => rfl
      | some w =>
       have hw := (un_key hu x).1
       show _ = ins x (w :: l)
       rw [ins_c, if_neg (by omega), if_neg (by omega)]; rfl
     ·rw [if_neg b2]
      show ins y (x :: z :: l) = ins x (y :: z :: l)
      have e1 : ins y (z :: l) = some (y :: z :: l) := by rw [ins_c, if_neg b1, if_neg b2]
      have e2 : ins x (z :: l) = some (x :: z :: l) := by rw [ins_c, if_neg a1, if_neg a2]
      rw [ins_c (x := y) (y := x), ins_c (x := x) (y := y), e1, e2]
      by_cases c1 : cp x y < 0
      ·rw [if_pos c1, if_neg (by omega), if_neg (by omega)]; rfl
      ·by_cases c2 : cp x y = 0
       ·rw [if_neg c1, if_pos c2, if_neg (by omega), if_pos (by omega), un_swap c2]
       ·rw [if_neg c1, if_neg c2, if_pos (by omega)]; rfl
theorem mdl_ins {x : S62} (hx : Rng x.f2) : ∀ (es out : List S62), Rl es → Rl out → (mdl out es).bind (ins x) = (ins x out).bind fun o => mdl o es
 | [], out, _, _ => by
  show ins x out = _
  cases ins x out <;> rfl
 | y :: es, out, he, ho => by
  have hy := he y (List.mem_cons_self ..)
  have he' : Rl es := fun w hw => he w (List.mem_cons_of_mem _ hw)
  have e1 : (mdl out (y :: es)).bind (ins x) = (ins y out).bind fun o => (mdl o es).bind (ins x) := by
   rw [mdl]
   cases ins y out <;> rfl
  have e2 : ((ins x out).bind fun o => mdl o (y :: es)) = ((ins x out).bind (ins y)).bind fun o => mdl o es := by
   cases ins x out with
   | none => rfl
   | some o => show mdl o (y :: es) = _; rw [mdl]; rfl
  rw [e1, e2, ins_comm hx hy out ho]
  cases hi : ins y out with
  | none => rfl
  | some o => exact mdl_ins hx es o he' (rl_ins ho hy hi)
theorem mdl_perm {es fs : List S62} (h : es.Perm fs) : ∀ out, Rl es → Rl out → mdl out es = mdl out fs := by
 induction h with
 | nil => intro _ _ _; rfl
 | cons x h ih =>
  intro out he ho
  rw [mdl, mdl]
  cases hi : ins x out with
  | none => rfl
  | some o => exact ih o (fun w hw => he w (List.mem_cons_of_mem _ hw)) (rl_ins ho (he x (List.mem_cons_self ..)) hi)
 | swap x y l =>
  intro out he ho
  have hx := he x (List.mem_cons_of_mem _ (List.mem_cons_self ..))
  have hy := he y (List.mem_cons_self ..)
  have e : ∀ u v : S62, mdl out (u :: v :: l) = ((ins u out).bind (ins v)).bind fun o => mdl o l := fun u v => by
   rw [mdl]
   cases ins u out with
   | none => rfl
   | some o => show mdl o (v :: l) = _; rw [mdl]; rfl
  rw [e, e, ins_comm hy hx out ho]
 | trans h1 h2 ih1 ih2 =>
  intro out he ho
  rw [ih1 out he ho, ih2 out (fun w hw => he w (h1.mem_iff.2 hw)) ho]
theorem ins_un {z x w : S62} (hz : Rng z.f2) (hx : Rng x.f2) (hc : cp z x = 0) (hu : un z x = some w) : ∀ l, Rl l → ins w l = (ins z l).bind (ins x)
 | [], _ => by
  show some [w] = ins x [z]
  rw [ins_c, if_neg (by omega), if_pos hc, hu]; rfl
 | y :: l, hr => by
  have hy := hr y (List.mem_cons_self ..)
  have ih := ins_un hz hx hc hu l (fun v hv => hr v (List.mem_cons_of_mem _ hv))
  have k1 := (un_key hu y).2
  obtain ⟨e1, e0⟩ := (cp_zero z x).1 hc
  have k2 := (cp_like e1 e0 y).1
  have nz := num_nonneg hz
  have nx := num_nonneg hx
  have ny := num_nonneg hy
  have hw := (un_like hu).2.2
  rw [ins_c, ins_c]
  by_cases h1 : cp y z < 0
  ·rw [if_pos (by omega), if_pos h1, ih]
   cases ins z l with
   | none => rfl
   | some m => show _ = ins x (y :: m); rw [ins_c, if_pos (by omega)]; rfl
  ·by_cases h2 : cp y z = 0
   ·rw [if_neg (by omega), if_pos (by omega), if_neg h1, if_pos h2]
    have e : un y w = (un y z).bind fun v => un v x := by
     unfold un
     rw [hw]
     by_cases h3 : num y.f2 + num z.f2 < top
     ·rw [if_pos h3, Option.bind_some]
      simp only [num_mkU]
      rw [show num y.f2 + (num z.f2 + num x.f2) = num y.f2 + num z.f2 + num x.f2 by omega]
     ·rw [if_neg h3, Option.bind_none, if_neg (by omega)]
    rw [e]
    cases hv : un y z with
    | none => rfl
    | some v =>
     have k3 := (un_key hv x).1
     show _ = ins x (v :: l)
     rw [ins_c, if_neg (by omega), if_pos (by omega)]; rfl
   ·rw [if_neg (by omega), if_neg (by omega), if_neg h1, if_neg h2]
    show _ = ins x (z :: y :: l)
    rw [ins_c, if_neg (by omega), if_pos hc, hu]; rfl
theorem mdl_laid {x : S62} (hx : Rng x.f2) : ∀ (r m out : List S62), Rl r → Rl out → ins x r = some m → mdl out m = (mdl out r).bind (ins x)
 | [], m, out, _, _, h => by
  injection h with h
  subst h
  rw [mdl]
  show ((ins x out).bind fun m => mdl m []) = ins x out
  cases ins x out <;> rfl
 | z :: r, m, out, hr, ho, h => by
  have hz := hr z (List.mem_cons_self ..)
  have hr' : Rl r := fun v hv => hr v (List.mem_cons_of_mem _ hv)
  rw [ins_c] at h
  by_cases h1 : cp z x < 0
  ·rw [if_pos h1] at h
   obtain ⟨m', h2, rfl⟩ := Option.map_eq_some_iff.1 h
   rw [mdl, mdl]
   cases hi : ins z out with
   | none => rfl
   | some o => exact mdl_laid hx r m' o hr' (rl_ins ho hz hi) h2
  ·rw [if_neg h1] at h
   by_cases h2 : cp z x = 0
   ·rw [if_pos h2] at h
    obtain ⟨w, h3, rfl⟩ := Option.map_eq_some_iff.1 h
    rw [mdl_ins hx (z :: r) out hr ho, mdl, ins_un hz hx h2 h3 out ho, ins_comm hz hx out ho]
    cases ins x out with
    | none => rfl
    | some o => rfl
   ·rw [if_neg h2] at h
    injection h with h
    subst h
    rw [mdl_ins hx (z :: r) out hr ho, mdl]
theorem mdl_agg : ∀ (es acc r out : List S62), Rl es → Rl acc → Rl out → mdl acc es = some r → mdl out r = (mdl out acc).bind fun o => mdl o es
 | [], acc, r, out, _, _, _, h => by
  injection h with h
  subst h
  cases mdl out acc <;> rfl
 | x :: es, acc, r, out, he, ha, ho, h => by
  have hx := he x (List.mem_cons_self ..)
  have he' : Rl es := fun w hw => he w (List.mem_cons_of_mem _ hw)
  rw [mdl] at h
  obtain ⟨o, h1, h2⟩ := Option.bind_eq_some_iff.1 h
  rw [mdl_agg es o r out he' (rl_ins ha hx h1) ho h2, mdl_laid hx acc o out ha ho h1]
  cases mdl out acc with
  | none => rfl
  | some q => rfl
end Go.Proofs.Ytmfffbafldbihaa.Bo
