import Derived.Test.YtojpmjkphgjmgaaIx1
import Derived.Test.YtojpmjkphgjmgaaHx7
import Derived.Test.YtojpmjkphgjmgaaHx14
import Derived.Test.YtojpmjkphgjmgaaHx15
import Derived.Test.YtojpmjkphgjmgaaHx4
import Derived.Test.YtojpmjkphgjmgaaHx6
import Derived.KernelRfl
set_option linter.unusedVariables false
set_option linter.unusedSimpArgs false
namespace Go.Proofs.Ytojpmjkphgjmgaa.Ix
open Go.RowKit Go.Proofs.Ytojpmjkphgjmgaa.H Go.Proofs.YtojpmjkphgjmgaaW.PrintWords Go.Proofs.YtojpmjkphgjmgaaW.PrintMore
def cnt (l : List S60) : Nat := l.countP (·.f0)
theorem cnt_le (l : List S60) : cnt l ≤ l.length := List.countP_le_length
theorem cnt_take {l : List S60} {i : Nat} (h : i < l.length) : cnt (l.take (i + 1)) = cnt (l.take i) + if (G l i).f0 = true then 1 else 0 := by
 unfold cnt G
 rw [List.take_add_one, List.countP_append, List.getD_eq_getElem?_getD, List.getElem?_eq_getElem h]
 simp [List.countP_cons]
theorem cnt_set {l : List S60} {i : Nat} (h : i < l.length) (s : S60) : cnt (l.set i s) + (if (G l i).f0 = true then 1 else 0) = cnt l + (if s.f0 = true then 1 else 0) := by
 have e1 : l.set i s = l.take i ++ s :: l.drop (i + 1) := List.set_eq_take_append_cons_drop.trans (if_pos h)
 have e2 : l = l.take i ++ l[i] :: l.drop (i + 1) := by rw [← List.drop_eq_getElem_cons h, List.take_append_drop]
 have e3 : G l i = l[i] := by unfold G; rw [List.getD_eq_getElem?_getD, List.getElem?_eq_getElem h]; rfl
 have c1 : cnt (l.set i s) = (l.take i).countP (·.f0) + ((l.drop (i + 1)).countP (·.f0) + if s.f0 = true then 1 else 0) := by
  unfold cnt
  rw [e1, List.countP_append, List.countP_cons]
 have c2 : cnt l = (l.take i).countP (·.f0) + ((l.drop (i + 1)).countP (·.f0) + if l[i].f0 = true then 1 else 0) := by
  unfold cnt
  conv => lhs; rw [e2, List.countP_append, List.countP_cons]
 rw [c1, c2, e3]
 omega
theorem free_ex {l : List S60} (h : cnt l < l.length) : ∃ p, p < l.length ∧ ¬ us l p := by
 by_cases hex : ∃ p, p < l.length ∧ ¬ us l p
 ·exact hex
 ·have : cnt l = l.length := by
   unfold cnt
   rw [List.countP_eq_length]
   intro s hs
   obtain ⟨i, hi, rfl⟩ := List.mem_iff_getElem.1 hs
   by_cases hu : us l i
   ·unfold us G at hu
    rw [List.getD_eq_getElem?_getD, List.getElem?_eq_getElem hi] at hu
    exact hu
   ·exact absurd ⟨i, hi, hu⟩ hex
  omega
theorem many_l0 (l : List S60) (hn : l.length ≤ 10000) : ∀ m k i, l.length = i + m → m < k → index_many.l0 k (cnt (l.take i) : Int) l (l.length : Int) (i : Int) = some (cnt l : Int)
 | 0, k, i, hi, hk => by
  obtain ⟨k, rfl⟩ : ∃ k', k = k' + 1 := ⟨k - 1, by omega⟩
  unfold index_many.l0
  rw [if_neg (by omega), List.take_of_length_le (by omega)]
 | m + 1, k, i, hi, hk => by
  obtain ⟨k, rfl⟩ : ∃ k', k = k' + 1 := ⟨k - 1, by omega⟩
  have ih := many_l0 l hn m k (i + 1) (by omega) (by omega)
  have hc := cnt_take (l := l) (i := i) (by omega)
  have hle := cnt_le (l.take i)
  rw [List.length_take] at hle
  unfold index_many.l0
  rw [if_pos (by omega), if_pos (by omega), if_pos (by omega), G_rd, inc (i := i) (n := l.length) (by omega) hn]
  by_cases hu : us l i
  ·rw [if_pos hu, inc (i := cnt (l.take i)) (n := i + 1) (by omega) (by omega)]
   rw [if_pos hu] at hc
   rw [← hc]
   exact ih
  ·rw [if_neg hu]
   rw [if_neg hu] at hc
   rw [hc, Nat.add_zero] at ih
   exact ih
theorem many_eq (a b : Int) (l : List S60) (hn : l.length ≤ 9000) (k : Nat) (hk : 10000 < k) : index_many.f k a b l = some (cnt l : Int) := by
 unfold index_many.f
 have := many_l0 l (by omega) l.length k 0 (by omega) (by omega)
 rw [List.take_zero] at this
 exact this
theorem rmany_l0 (a b : Int) (l : List S60) (hn : l.length ≤ 9000) : ∀ m k i, l.length = i + m → m < k → r12_Many.l0 k (cnt (l.take i) : Int) (i : Int) a b (l.map cv) = some (cnt l : Int)
 | 0, k, i, hi, hk => by
  obtain ⟨k, rfl⟩ : ∃ k', k = k' + 1 := ⟨k - 1, by omega⟩
  unfold r12_Many.l0
  rw [List.length_map, if_neg (by omega), List.take_of_length_le (by omega)]
 | m + 1, k, i, hi, hk => by
  obtain ⟨k, rfl⟩ : ∃ k', k = k' + 1 := ⟨k - 1, by omega⟩
  have ih := rmany_l0 a b l hn m k (i + 1) (by omega) (by omega)
  have hc := cnt_take (l := l) (i := i) (by omega)
  have hle := cnt_le (l.take i)
  rw [List.length_take] at hle
  unfold r12_Many.l0
  rw [List.length_map, if_pos (by omega), if_pos (by omega), cv_rd, cv_f0, inc (i := i) (n := l.length) (by omega) (by omega)]
  by_cases hu : us l i
  ·rw [if_pos hu, inc (i := cnt (l.take i)) (n := i + 1) (by omega) (by omega)]
   rw [if_pos hu] at hc
   rw [← hc]
   exact ih
  ·rw [if_neg hu]
   rw [if_neg hu] at hc
   rw [hc, Nat.add_zero] at ih
   exact ih
theorem rmany_eq (a b : Int) (l : List S60) (hn : l.length ≤ 9000) (k : Nat) (hk : 10000 < k) : r12_Many.f k a b (l.map cv) = some (cnt l : Int) := by
 unfold r12_Many.f
 have := rmany_l0 a b l hn l.length k 0 (by omega) (by omega)
 rw [List.take_zero] at this
 exact this
def Small (l : List S60) : Prop := l.length ≤ 70 ∧ ∀ j, j < l.length → (ky l j).size ≤ 100
theorem upto {P : Nat → Prop} {i n : Nat} (h : i < n) : (∀ j, i ≤ j → j < n → P j) ↔ P i ∧ ∀ j, i + 1 ≤ j → j < n → P j := by
 constructor
 ·exact fun h' => ⟨h' i (Nat.le_refl _) h, fun j hj => h' j (by omega)⟩
 ·rintro ⟨h0, h1⟩ j hj hn
  rcases Nat.eq_or_lt_of_le hj with h2 | h2
  ·rw [← h2]; exact h0
  ·exact h1 j h2 hn
theorem small_l0 (a b : Int) (l : List S60) (hn : l.length ≤ 1000) : ∀ m k i, l.length = i + m → m < k → r12_Small.l0 k (i : Int) a b (l.map cv) = some (yes (∀ j, i ≤ j → j < l.length → (ky l j).size ≤ 100))
 | 0, k, i, hi, hk => by
  obtain ⟨k, rfl⟩ : ∃ k', k = k' + 1 := ⟨k - 1, by omega⟩
  unfold r12_Small.l0
  rw [List.length_map, if_neg (by omega), yes_true (fun j h1 h2 => by omega)]
 | m + 1, k, i, hi, hk => by
  obtain ⟨k, rfl⟩ : ∃ k', k = k' + 1 := ⟨k - 1, by omega⟩
  have ih := small_l0 a b l hn m k (i + 1) (by omega) (by omega)
  unfold r12_Small.l0
  rw [List.length_map, if_pos (by omega), if_pos (by omega), cv_rd, cv_f1, inc (n := l.length) (by omega) (by omega), upto (P := fun j => (ky l j).size ≤ 100) (show i < l.length by omega)]
  by_cases h : (G l i).f1.size ≤ 100
  ·rw [if_neg (by omega), ih]
   congr 1
   exact yes_congr ⟨fun h' => ⟨h, h'⟩, fun h' => h'.2⟩
  ·rw [if_pos (by omega), yes_false (fun h' => h h'.1)]
theorem small_eq (a b : Int) (l : List S60) (k : Nat) (hk : 1000 < k) : r12_Small.f k a b (l.map cv) = some (yes (Small l)) := by
 unfold r12_Small.f
 rw [List.length_map]
 by_cases h : l.length ≤ 70
 ·rw [if_neg (by omega)]
  have := small_l0 a b l (by omega) l.length k 0 (by omega) (by omega)
  rw [show (0 : Int) = ((0 : Nat) : Int) from rfl, this]
  congr 1
  exact yes_congr ⟨fun h' => ⟨h, fun j hj => h' j (by omega) hj⟩, fun h' j _ hj => h'.2 j hj⟩
 ·rw [if_pos (by omega), yes_false (fun h' => h h'.1)]
theorem s60_ext {s t : S60} (h0 : s.f0 = t.f0) (h1 : s.f1 = t.f1) (h2 : s.f2 = t.f2) : s = t := by
 cases s; cases t; simp only at h0 h1 h2; rw [h0, h1, h2]
theorem same_l0 (a b c d : Int) (l m : List S60) (hn : l.length ≤ 9000) (hm : l.length = m.length) : ∀ x k i, l.length = i + x → x < k → r12_Same.l0 k (i : Int) a b (l.map cv) c d (m.map cv) = some (yes (∀ j, i ≤ j → j < l.length → G l j = G m j))
 | 0, k, i, hi, hk => by
  obtain ⟨k, rfl⟩ : ∃ k', k = k' + 1 := ⟨k - 1, by omega⟩
  unfold r12_Same.l0
  rw [List.length_map, if_neg (by omega), yes_true (fun j h1 h2 => by omega)]
 | x + 1, k, i, hi, hk => by
  obtain ⟨k, rfl⟩ : ∃ k', k = k' + 1 := ⟨k - 1, by omega⟩
  have ih := same_l0 a b c d l m hn hm x k (i + 1) (by omega) (by omega)
  unfold r12_Same.l0
  rw [List.length_map, List.length_map, if_pos (by omega), if_pos (by omega), if_pos (by omega), cv_rd, cv_rd, cv_f0, cv_f1, cv_f2, cv_f0, cv_f1, cv_f2, inc (n := l.length) (by omega) (by omega), upto (P := fun j => G l j = G m j) (show i < l.length by omega)]
  by_cases h : G l i = G m i
  ·rw [if_neg (by rw [h]; simp), ih]
   congr 1
   exact yes_congr ⟨fun h' => ⟨h, h'⟩, fun h' => h'.2⟩
  ·rw [if_pos, yes_false (fun h' => h h'.1)]
   by_cases h0 : (G l i).f0 = (G m i).f0
   ·by_cases h1 : (G l i).f1 = (G m i).f1
    ·have h2 : (G l i).f2 ≠ (G m i).f2 := fun h2 => h (s60_ext h0 h1 h2)
     simp [h2]
    ·have h1' : (G l i).f1.toList ≠ (G m i).f1.toList := fun e => h1 (list_inj e)
     simp [h1']
   ·simp [h0]
theorem same_eq (a b c d : Int) (l m : List S60) (hn : l.length ≤ 9000) (k : Nat) (hk : 9002 ≤ k) : r12_Same.f k a b (l.map cv) c d (m.map cv) = some (yes (a = c ∧ b = d ∧ l = m)) := by
 obtain ⟨k, rfl⟩ : ∃ k', k = k' + 1 := ⟨k - 1, by omega⟩
 unfold r12_Same.f
 by_cases h : a = c ∧ b = d
 ·obtain ⟨rfl, rfl⟩ := h
  rw [if_neg (by simp), r12_Same.j0, List.length_map, List.length_map]
  by_cases hl : l.length = m.length
  ·rw [if_neg (by simp [hl])]
   have := same_l0 a b a b l m hn hl l.length k 0 (by omega) (by omega)
   rw [show (0 : Int) = ((0 : Nat) : Int) from rfl, this]
   congr 1
   exact yes_congr ⟨fun h' => ⟨rfl, rfl, G_ext hl (fun i hi => h' i (by omega) hi)⟩, fun h' j _ _ => by rw [h'.2.2]⟩
  ·rw [if_pos (by simp; omega), yes_false (fun h' => hl (by rw [h'.2.2]))]
 ·rw [if_pos, r12_Same.j0, if_pos rfl, yes_false (fun h' => h ⟨h'.1, h'.2.1⟩)]
  by_cases h0 : a = c
  ·have h1 : b ≠ d := fun h1 => h ⟨h0, h1⟩
   simp [h1]
  ·simp [h0]
theorem find_l0 (a b : Int) (l : List S60) (key : ByteArray) (hn : l.length ≤ 9000) : ∀ m k i, l.length = i + m → m < k → (∀ j, j < i → ¬ (us l j ∧ ky l j = key)) →
  (∃ j, j < l.length ∧ us l j ∧ ky l j = key ∧ r12_Find.l0 k key (i : Int) a b (l.map cv) = some (j : Int)) ∨ ((∀ j, j < l.length → ¬ (us l j ∧ ky l j = key)) ∧ r12_Find.l0 k key (i : Int) a b (l.map cv) = some (-1))
 | 0, k, i, hi, hk, hj => by
  obtain ⟨k, rfl⟩ : ∃ k', k = k' + 1 := ⟨k - 1, by omega⟩
  refine .inr ⟨fun j h => hj j (by omega), ?_⟩
  unfold r12_Find.l0
  rw [List.length_map, if_neg (by omega)]
 | m + 1, k, i, hi, hk, hj => by
  obtain ⟨k, rfl⟩ : ∃ k', k = k' + 1 := ⟨k - 1, by omega⟩
  unfold r12_Find.l0
  rw [List.length_map, if_pos (by omega), if_pos (by omega), cv_rd, cv_f0, cv_f1, inc (n := l.length) (by omega) (by omega)]
  by_cases hu : us l i ∧ ky l i = key
  ·refine .inl ⟨i, by omega, hu.1, hu.2, ?_⟩
   rw [if_pos hu.1, if_pos ((list_iff _ _).2 hu.2)]
  ·have ih := find_l0 a b l key hn m k (i + 1) (by omega) (by omega) (fun j h => by
    rcases Nat.lt_or_ge j i with h' | h'
    ·exact hj j h'
    ·obtain rfl : j = i := by omega
     exact hu)
   by_cases h0 : us l i
   ·rw [if_pos h0, if_neg (fun e => hu ⟨h0, (list_iff _ _).1 e⟩)]
    exact ih
   ·rw [if_neg h0]
    exact ih
theorem find_eq (a b : Int) (l : List S60) (key : ByteArray) (hn : l.length ≤ 9000) (k : Nat) (hk : 9002 ≤ k) :
  (∃ j, j < l.length ∧ us l j ∧ ky l j = key ∧ r12_Find.f k a b (l.map cv) key = some (j : Int)) ∨ ((∀ j, j < l.length → ¬ (us l j ∧ ky l j = key)) ∧ r12_Find.f k a b (l.map cv) key = some (-1)) :=
 find_l0 a b l key hn l.length k 0 (by omega) (by omega) (fun j h => by omega)
def Sound (s : S60) : Prop := (s.f0 = true → s.f1.size ≤ 64 ∧ 0 ≤ s.f2 ∧ s.f2 ≤ 2147483647) ∧ (s.f0 = false → s.f1.toList = [] ∧ s.f2 = 0)
def pw (n : Nat) : Bool := [8, 16, 32, 64, 128, 256, 512, 1024, 2048, 4096].contains n
def Good (a b : Int) (l : List S60) : Prop := ∀ j, j < l.length → us l j → Pos (hm a b l.length (ky l j)) l (ky l j) j
def Rt (a b : Int) (l : List S60) : Prop := pw l.length = true ∧ 2 * cnt l ≤ l.length ∧ (∀ j, j < l.length → Sound (G l j)) ∧ Good a b l
theorem pw_le {n : Nat} (h : pw n = true) : 8 ≤ n ∧ n ≤ 4096 := by
 unfold pw at h
 simp at h
 omega
theorem pw_even {n : Nat} (h : pw n = true) : n % 2 = 0 := by
 unfold pw at h
 simp at h
 omega
theorem pw_twice {n : Nat} (h : pw n = true) (h2 : n ≠ 4096) : pw (2 * n) = true := by
 unfold pw at *
 simp at h ⊢
 omega
theorem ones (n : Nat) (h : n ≤ 4096) (h8 : 8 ≤ n) : ∃ r, bits_OnesCount.f (n : Int) = some r ∧ (r = 1 ↔ pw n = true) := by
 have key : ∀ i : Fin 65, ∀ j : Fin 64, 8 ≤ 64 * i.1 + j.1 → (bits_OnesCount.f ((64 * i.1 + j.1 : Nat) : Int)).map (fun r => decide (r = 1)) = some (pw (64 * i.1 + j.1)) ∨ 4096 < 64 * i.1 + j.1 := by decide +kernel
 have e : 64 * (n / 64) + n % 64 = n := by omega
 have := key ⟨n / 64, by omega⟩ ⟨n % 64, by omega⟩ (by simp only; omega)
 simp only [e] at this
 replace this := this.resolve_right (by omega)
 obtain ⟨r, hr, h1⟩ := Option.map_eq_some_iff.1 this
 refine ⟨r, hr, ?_⟩
 rw [← h1, decide_eq_true_iff]
theorem sound_eq (s : S60) : index_sound.f s.f0 s.f1 s.f2 = some (yes (Sound s)) := by
 unfold index_sound.f Sound
 cases h : s.f0 with
 | true =>
  rw [if_pos rfl]
  by_cases h1 : s.f1.size ≤ 64
  ·rw [if_pos (by omega)]
   by_cases h2 : 0 ≤ s.f2
   ·rw [if_pos (by omega)]
    congr 1
    by_cases h3 : s.f2 ≤ 2147483647
    ·rw [yes_true ⟨fun _ => ⟨h1, h2, h3⟩, fun h => by cases h⟩, decide_eq_true h3]
    ·rw [yes_false (fun h' => h3 (h'.1 rfl).2.2), decide_eq_false h3]
   ·rw [if_neg (by omega), yes_false (fun h' => h2 (h'.1 rfl).2.1)]
  ·rw [if_neg (by omega), yes_false (fun h' => h1 (h'.1 rfl).1)]
 | false =>
  rw [if_neg (by decide)]
  congr 1
  by_cases h1 : s.f1.toList = []
  ·by_cases h2 : s.f2 = 0
   ·rw [yes_true ⟨fun h => (by cases h), fun _ => ⟨h1, h2⟩⟩]; simp [h1, h2]
   ·rw [yes_false (fun h' => h2 (h'.2 rfl).2)]; simp [h2]
  ·rw [yes_false (fun h' => h1 (h'.2 rfl).1)]; simp [h1]
theorem idx_any {α : Type} (p : α → Option Bool) (f : α → Bool) : ∀ (l : List α) (i : Int), 0 ≤ i → (∀ x ∈ l, p x = some (f x)) → ∃ r, idxF p l i = some r ∧ decide (r ≥ 0) = l.any f
 | [], i, _, _ => ⟨-1, rfl, by simp⟩
 | x :: l, i, h0, h => by
  obtain ⟨r, hr, hd⟩ := idx_any p f l (i + 1) (by omega) (fun y hy => h y (List.mem_cons_of_mem _ hy))
  rw [idxF, h x List.mem_cons_self, Option.bind_some, List.any_cons]
  cases hb : f x with
  | true => exact ⟨i, by simp, by simp [h0]⟩
  | false => exact ⟨r, by simpa using hr, by simpa using hd⟩
theorem any_eq {α : Type} (p : α → Option Bool) (f : α → Bool) (l : List α) (h : ∀ x ∈ l, p x = some (f x)) : anyF p l = some (l.any f) := by
 obtain ⟨r, hr, hd⟩ := idx_any p f l 0 (by omega) h
 rw [anyF, hr, Option.bind_some, hd]
theorem mem_G {l : List S60} {s : S60} : s ∈ l ↔ ∃ j, j < l.length ∧ G l j = s := by
 constructor
 ·intro h
  obtain ⟨i, hi, rfl⟩ := List.mem_iff_getElem.1 h
  exact ⟨i, hi, by unfold G; rw [List.getD_eq_getElem?_getD, List.getElem?_eq_getElem hi]; rfl⟩
 ·rintro ⟨i, hi, rfl⟩
  unfold G
  rw [List.getD_eq_getElem?_getD, List.getElem?_eq_getElem hi]
  exact List.getElem_mem hi
theorem unsound_eq (l : List S60) : index_Slot_31.f l = some (yes (¬ ∀ j, j < l.length → Sound (G l j))) := by
 unfold index_Slot_31.f
 rw [any_eq notSound (fun s => !yes (Sound s)) l (fun s _ => by unfold notSound; rw [sound_eq, Option.bind_some])]
 congr 1
 by_cases h : ∀ j, j < l.length → Sound (G l j)
 ·rw [yes_false (fun h' => h' h), List.any_eq_false]
  intro s hs
  obtain ⟨j, hj, rfl⟩ := mem_G.1 hs
  rw [yes_true (h j hj)]
  decide
 ·rw [yes_true h, List.any_eq_true]
  obtain ⟨j, hj, hs⟩ : ∃ j, j < l.length ∧ ¬ Sound (G l j) := by
   by_cases hex : ∃ j, j < l.length ∧ ¬ Sound (G l j)
   ·exact hex
   ·exact absurd (fun j hj => Classical.byContradiction fun hs => hex ⟨j, hj, hs⟩) h
  exact ⟨G l j, mem_G.2 ⟨j, hj, rfl⟩, by rw [yes_false hs]; rfl⟩
theorem right_l0 (a b : Int) (l : List S60) (h0 : 0 < l.length) (hn : l.length ≤ 4096) (hf : cnt l < l.length) (hs : ∀ j, j < l.length → us l j → (ky l j).size ≤ 100) : ∀ m k i, l.length = i + m → m + 10300 < k →
  index_Right.l0 k l (l.length : Int) (i : Int) a b l = some (yes (∀ j, i ≤ j → j < l.length → us l j → Pos (hm a b l.length (ky l j)) l (ky l j) j))
 | 0, k, i, hi, hk => by
  obtain ⟨k, rfl⟩ : ∃ k', k = k' + 1 := ⟨k - 1, by omega⟩
  unfold index_Right.l0
  rw [if_neg (by omega), yes_true (fun j h1 h2 => by omega)]
 | m + 1, k, i, hi, hk => by
  obtain ⟨k, rfl⟩ : ∃ k', k = k' + 1 := ⟨k - 1, by omega⟩
  have ih := right_l0 a b l h0 hn hf hs m k (i + 1) (by omega) (by omega)
  unfold index_Right.l0
  rw [if_pos (by omega), if_pos (by omega), if_pos (by omega), G_rd, inc (n := l.length) (by omega) (by omega), upto (P := fun j => us l j → Pos (hm a b l.length (ky l j)) l (ky l j) j) (show i < l.length by omega)]
  by_cases hu : us l i
  ·rw [if_pos hu]
   obtain ⟨p, hp, hpu⟩ := free_ex hf
   obtain ⟨q, hq⟩ := pos_ex (H := hm a b l.length (ky l i)) (key := ky l i) (hm_lt h0 _) ⟨p, hp, fun h => absurd h hpu⟩
   rw [walk_eq a b l (ky l i) q h0 (by omega) (hs i (by omega) hu) hq k (by omega), Option.bind_some]
   by_cases hqu : us l q
   ·rw [if_pos hqu]
    by_cases e : q = i
    ·subst e
     rw [if_pos rfl, ih]
     congr 1
     exact yes_congr ⟨fun h' => ⟨fun _ => hq, h'⟩, fun h' => h'.2⟩
    ·rw [if_neg (by simp only; omega), yes_false]
     rintro ⟨h1, _⟩
     exact e (pos_inj (hm_lt h0 _) hq (h1 hu))
   ·rw [if_neg hqu, yes_false]
    rintro ⟨h1, _⟩
    have := pos_inj (hm_lt h0 _) hq (h1 hu)
    subst this
    exact hqu hu
  ·rw [if_neg hu, ih]
   congr 1
   exact yes_congr ⟨fun h' => ⟨fun h => absurd h hu, h'⟩, fun h' => h'.2⟩
theorem right_eq (a b : Int) (l : List S60) (k : Nat) (hk : 20000 ≤ k) : index_Right.f k a b l = some (yes (Rt a b l)) := by
 obtain ⟨k, rfl⟩ : ∃ k', k = k' + 1 := ⟨k - 1, by omega⟩
 unfold index_Right.f
 have jt : ∀ k, 0 < k → index_Right.j0 k true a b l = some false := fun k hk => by
  obtain ⟨k, rfl⟩ : ∃ k', k = k' + 1 := ⟨k - 1, by omega⟩
  rw [index_Right.j0, if_pos rfl]
 by_cases h8 : l.length < 8
 ·rw [if_pos (by omega), jt _ (by omega), yes_false (fun h => by have := pw_le h.1; omega)]
 rw [if_neg (by omega)]
 by_cases h4 : l.length > 4096
 ·rw [if_pos (by omega), jt _ (by omega), yes_false (fun h => by have := pw_le h.1; omega)]
 rw [if_neg (by omega), IntKind.wrap_u64, Int.emod_eq_of_lt (by omega) (by omega)]
 obtain ⟨r, hr, hp⟩ := ones l.length (by omega) (by omega)
 rw [hr, Option.bind_some]
 by_cases h1 : r = 1
 ·rw [if_pos h1, many_eq a b l (by omega) (k + 1) (by omega), Option.bind_some]
  have hc := cnt_le l
  rw [w64 (by omega) (by omega)]
  by_cases h2 : 2 * cnt l ≤ l.length
  ·rw [if_neg (by omega), unsound_eq, Option.bind_some, index_Right.j0]
   by_cases h3 : ∀ j, j < l.length → Sound (G l j)
   ·rw [yes_false (fun h => h h3), if_neg (by exact Bool.noConfusion)]
    have := right_l0 a b l (by omega) (by omega) (by omega) (fun j hj hu => by have := ((h3 j hj).1 hu).1; show (G l j).f1.size ≤ 100; omega) l.length k 0 (by omega) (by omega)
    rw [show (0 : Int) = ((0 : Nat) : Int) from rfl, this]
    congr 1
    exact yes_congr ⟨fun h => ⟨hp.1 h1, h2, h3, fun j hj hu => h j (Nat.zero_le _) hj hu⟩, fun h j _ hj hu => h.2.2.2 j hj hu⟩
   ·rw [yes_true h3, if_pos rfl, yes_false (fun h => h3 h.2.2.1)]
  ·rw [if_pos (by omega), jt _ (by omega), yes_false (fun h => h2 h.2.1)]
 ·rw [if_neg h1, jt _ (by omega), yes_false (fun h => h1 (hp.2 h.1))]
end Go.Proofs.Ytojpmjkphgjmgaa.Ix
