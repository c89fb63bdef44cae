import Derived.Test.YtojpmjkphgjmgaaHx6
import Derived.Test.YtojpmjkphgjmgaaHx15
import Derived.Test.YtojpmjkphgjmgaaHx4
import Derived.Test.YtojpmjkphgjmgaaSipRef
set_option linter.unusedVariables false
set_option linter.unusedSimpArgs false
namespace Go.Proofs.Ytojpmjkphgjmgaa.Ix
open Go.RowKit Go.Proofs.Ytojpmjkphgjmgaa.H Go.Proofs.YtojpmjkphgjmgaaW.PrintWords Go.Proofs.YtojpmjkphgjmgaaW.PrintMore
noncomputable def yes (P : Prop) : Bool := @decide P (Classical.propDecidable P)
theorem yes_iff {P : Prop} : yes P = true ↔ P := @decide_eq_true_iff P (Classical.propDecidable P)
theorem yes_true {P : Prop} (h : P) : yes P = true := yes_iff.2 h
theorem yes_false {P : Prop} (h : ¬ P) : yes P = false := by
 cases hb : yes P with
 | false => rfl
 | true => exact absurd (yes_iff.1 hb) h
theorem yes_congr {P Q : Prop} (h : P ↔ Q) : yes P = yes Q := by rw [propext h]
theorem w64 {x : Int} (h0 : -1000000 ≤ x) (h1 : x ≤ 1000000) : wrap64 x = x := by unfold wrap64; omega
theorem inc {i n : Nat} (h : i < n) (hn : n ≤ 10000) : wrap64 ((i : Int) + 1) = ((i + 1 : Nat) : Int) := by rw [w64 (by omega) (by omega)]; omega
def nx (n i : Nat) : Nat := if i + 1 = n then 0 else i + 1
def ds (n a b : Nat) : Nat := if a ≤ b then b - a else b + n - a
theorem nx_lt {n i : Nat} (h : i < n) : nx n i < n := by unfold nx; split <;> omega
theorem ds_lt {n a b : Nat} (ha : a < n) (hb : b < n) : ds n a b < n := by unfold ds; split <;> omega
theorem ds_self (n a : Nat) : ds n a a = 0 := by unfold ds; rw [if_pos (Nat.le_refl _)]; omega
theorem ds_inj {n a b c : Nat} (ha : a < n) (hb : b < n) (hc : c < n) (h : ds n a b = ds n a c) : b = c := by
 unfold ds at h
 split at h <;> split at h <;> omega
theorem ds_zero {n a b : Nat} (ha : a < n) (hb : b < n) (h : ds n a b = 0) : b = a := by
 unfold ds at h
 split at h <;> omega
theorem ds_nx {n a b : Nat} (ha : a < n) (hb : b < n) (h : ds n a b + 1 < n) : ds n a (nx n b) = ds n a b + 1 := by
 unfold ds nx at *
 repeat' split
 all_goals (repeat' split at h)
 all_goals omega
theorem ds_nx' {n a b : Nat} (ha : a < n) (hb : b < n) (h : b ≠ a) : ds n (nx n b) a + 1 = ds n b a := by
 unfold ds nx
 repeat' split
 all_goals omega
theorem nx_int {n i : Nat} (h : i < n) (hn : n ≤ 10000) : Int.tmod (wrap64 ((i : Int) + 1)) (n : Int) = ((nx n i : Nat) : Int) := by
 rw [inc h hn]
 unfold nx
 split
 ·rename_i e
  rw [e, show ((n : Nat) : Int) = (n : Int) from rfl, Int.tmod_self]
  rfl
 ·rw [Int.tmod_eq_emod_of_nonneg (by omega), Int.emod_eq_of_lt (by omega) (by omega)]
def G (l : List S60) (i : Nat) : S60 := l.getD i z60
abbrev us (l : List S60) (i : Nat) : Prop := (G l i).f0 = true
abbrev ky (l : List S60) (i : Nat) : ByteArray := (G l i).f1
def cv (s : S60) : S46 := ⟨s.f0, s.f1, s.f2⟩
theorem cv_f0 (s : S60) : (cv s).f0 = s.f0 := rfl
theorem cv_f1 (s : S60) : (cv s).f1 = s.f1 := rfl
theorem cv_f2 (s : S60) : (cv s).f2 = s.f2 := rfl
theorem G_rd (l : List S60) (i : Nat) : rd_T60 l (i : Int) = G l i := rfl
theorem cv_rd (l : List S60) (i : Nat) : rd_T46 (l.map cv) (i : Int) = cv (G l i) := by
 unfold rd_T46 G
 simp only [Int.toNat_natCast, List.getD_eq_getElem?_getD, List.getElem?_map]
 cases l[i]? <;> rfl
theorem G_ge {l : List S60} {i : Nat} (h : l.length ≤ i) : G l i = z60 := by unfold G; rw [List.getD_eq_getElem?_getD, List.getElem?_eq_none h]; rfl
theorem G_set {l : List S60} {i j : Nat} {s : S60} (h : i < l.length) : G (l.set i s) j = if i = j then s else G l j := by
 unfold G
 rw [List.getD_eq_getElem?_getD, List.getD_eq_getElem?_getD, List.getElem?_set]
 by_cases e : i = j
 ·subst e
  rw [if_pos rfl, if_pos h, if_pos rfl]
  rfl
 ·rw [if_neg e, if_neg e]
theorem G_set_self {l : List S60} {i : Nat} {s : S60} (h : i < l.length) : G (l.set i s) i = s := by rw [G_set h, if_pos rfl]
theorem G_set_ne {l : List S60} {i j : Nat} {s : S60} (h : i < l.length) (e : i ≠ j) : G (l.set i s) j = G l j := by rw [G_set h, if_neg e]
theorem G_ext {l m : List S60} (hl : l.length = m.length) (h : ∀ i, i < l.length → G l i = G m i) : l = m := by
 apply List.ext_getElem hl
 intro i h1 h2
 have := h i h1
 unfold G at this
 rw [List.getD_eq_getElem?_getD, List.getD_eq_getElem?_getD, List.getElem?_eq_getElem h1, List.getElem?_eq_getElem h2] at this
 exact this
theorem list_inj {a b : ByteArray} (h : a.toList = b.toList) : a = b := by
 rw [Lib.toList_data, Lib.toList_data] at h
 exact ByteArray.ext (Array.toList_inj.1 h)
theorem list_iff (a b : ByteArray) : a.toList = b.toList ↔ a = b := ⟨list_inj, fun h => by rw [h]⟩
theorem us_not {l : List S60} {i : Nat} (h : ¬ us l i) : (G l i).f0 = false := by
 unfold us at h
 cases hb : (G l i).f0 with
 | false => rfl
 | true => exact absurd hb h
def hm (a b : Int) (n : Nat) (key : ByteArray) : Nat := (Sip.sum a b key.data.toList % n).toNat
theorem hm_lt {a b : Int} {n : Nat} (h : 0 < n) (key : ByteArray) : hm a b n key < n := by
 unfold hm
 have h1 := Int.emod_nonneg (Sip.sum a b key.data.toList) (show (n : Int) ≠ 0 by omega)
 have h2 := Int.emod_lt_of_pos (Sip.sum a b key.data.toList) (show (0 : Int) < n by omega)
 omega
theorem sum_range (a b : Int) (l : List UInt8) : 0 ≤ Sip.sum a b l ∧ Sip.sum a b l < 18446744073709551616 := by
 unfold Sip.sum Sip.fin Sip.out4 Sip.xr
 exact Sip.bits_range _ _ _
theorem home_int (a b : Int) (n : Nat) (hn : 0 < n) (hn2 : n ≤ 10000) (key : ByteArray) : wrap64 (Int.tmod (Sip.sum a b key.data.toList) (IntKind.u64.wrap (n : Int))) = ((hm a b n key : Nat) : Int) := by
 rw [IntKind.wrap_u64, Int.emod_eq_of_lt (by omega) (by omega), Int.tmod_eq_emod_of_nonneg (sum_range a b _).1]
 have h1 := Int.emod_nonneg (Sip.sum a b key.data.toList) (show (n : Int) ≠ 0 by omega)
 have h2 := Int.emod_lt_of_pos (Sip.sum a b key.data.toList) (show (0 : Int) < n by omega)
 rw [w64 (by omega) (by omega)]
 unfold hm
 omega
theorem wn_ne {n : Nat} (hn : 0 < n) (hn2 : n ≤ 10000) : ¬ IntKind.u64.wrap (n : Int) = 0 := by rw [IntKind.wrap_u64, Int.emod_eq_of_lt (by omega) (by omega)]; omega
theorem home_eq (a b : Int) (l : List S60) (hn : 0 < l.length) (hn2 : l.length ≤ 10000) (key : ByteArray) (hs : key.size ≤ 100) (k : Nat) (hk : 300 ≤ k) : index_home.f k a b l key = some ((hm a b l.length key : Nat) : Int) := by
 unfold index_home.f
 rw [Sip.sum_eq a b key (by omega) k (by omega), Option.bind_some, if_neg (wn_ne hn hn2), home_int a b _ hn hn2]
theorem rhome_eq (a b : Int) (l : List S46) (hn : 0 < l.length) (hn2 : l.length ≤ 10000) (key : ByteArray) (hs : key.size ≤ 100) (k : Nat) (hk : 300 ≤ k) : r12_Home.f k a b l key = some ((hm a b l.length key : Nat) : Int) := by
 unfold r12_Home.f
 rw [Sip.ref_sum_eq a b key (by omega) k (by omega), Option.bind_some, if_neg (wn_ne hn hn2), home_int a b _ hn hn2]
def Pos (H : Nat) (l : List S60) (key : ByteArray) (q : Nat) : Prop :=
 q < l.length ∧ (∀ p, p < l.length → ds l.length H p < ds l.length H q → us l p ∧ ky l p ≠ key) ∧ (us l q → ky l q = key)
theorem pos_inj {H : Nat} {l : List S60} {key : ByteArray} {q r : Nat} (hH : H < l.length) (h : Pos H l key q) (h' : Pos H l key r) : q = r := by
 obtain ⟨hq, h1, h2⟩ := h
 obtain ⟨hr, h3, h4⟩ := h'
 rcases Nat.lt_trichotomy (ds l.length H q) (ds l.length H r) with e | e | e
 ·have := h3 q hq e
  exact absurd (h2 this.1) this.2
 ·exact ds_inj hH hq hr e
 ·have := h1 r hr e
  exact absurd (h4 this.1) this.2
theorem pos_ex {H : Nat} {l : List S60} {key : ByteArray} (hH : H < l.length) (h : ∃ p, p < l.length ∧ (us l p → ky l p = key)) : ∃ q, Pos H l key q := by
 obtain ⟨p, hp, hs⟩ := h
 have : ∀ d p, p < l.length → ds l.length H p = d → (us l p → ky l p = key) → ∃ q, Pos H l key q := by
  intro d
  induction d using Nat.strongRecOn with
  | ind d ih =>
   intro p hp hd hs
   by_cases hex : ∃ p', p' < l.length ∧ ds l.length H p' < d ∧ (us l p' → ky l p' = key)
   ·obtain ⟨p', h1, h2, h3⟩ := hex
    exact ih _ h2 p' h1 rfl h3
   ·refine ⟨p, hp, fun p' h1 h2 => ?_, hs⟩
    rw [hd] at h2
    by_cases hu : us l p'
    ·exact ⟨hu, fun e => hex ⟨p', h1, h2, fun _ => e⟩⟩
    ·exact absurd ⟨p', h1, h2, fun h => absurd h hu⟩ hex
 exact this _ p hp rfl hs
theorem walk_l0 (a b : Int) (H : Nat) (l : List S60) (key : ByteArray) (q : Nat) (hH : H < l.length) (hn : l.length ≤ 10000) (hp : Pos H l key q) : ∀ d i k, i < l.length → ds l.length H i + d = ds l.length H q → d < k →
  index_walk.l0 k key (i : Int) a b l = some ((q : Int), (G l q).f0)
 | 0, i, k, hi, hd, hk => by
  obtain ⟨k, rfl⟩ : ∃ k', k = k' + 1 := ⟨k - 1, by omega⟩
  have e : i = q := ds_inj hH hi hp.1 (by omega)
  subst e
  unfold index_walk.l0
  rw [if_pos (by omega), if_pos (by omega), G_rd]
  by_cases hu : us l i
  ·rw [if_pos hu, if_pos ((list_iff _ _).2 (hp.2.2 hu))]
  ·rw [if_neg hu]
 | d + 1, i, k, hi, hd, hk => by
  obtain ⟨k, rfl⟩ : ∃ k', k = k' + 1 := ⟨k - 1, by omega⟩
  obtain ⟨hu, hne⟩ := hp.2.1 i hi (by omega)
  have hq := ds_lt hH hp.1
  unfold index_walk.l0
  rw [if_pos (by omega), if_pos (by omega), G_rd, if_pos hu, if_neg (fun e => hne ((list_iff _ _).1 e)), if_neg (by omega), nx_int hi hn]
  exact walk_l0 a b H l key q hH hn hp d (nx l.length i) k (nx_lt hi) (by rw [ds_nx hH hi (by omega)]; omega) (by omega)
theorem walk_eq (a b : Int) (l : List S60) (key : ByteArray) (q : Nat) (h0 : 0 < l.length) (hn : l.length ≤ 10000) (hs : key.size ≤ 100) (hp : Pos (hm a b l.length key) l key q) (k : Nat) (hk : 10300 ≤ k) :
  index_walk.f k a b l key = some ((q : Int), (G l q).f0) := by
 have hH := hm_lt (a := a) (b := b) h0 key
 unfold index_walk.f
 rw [home_eq a b l h0 hn key hs k (by omega), Option.bind_some]
 have := ds_lt hH hp.1
 exact walk_l0 a b _ l key q hH hn hp (ds l.length (hm a b l.length key) q) _ k hH (by rw [ds_self]; omega) (by omega)
def Free (H : Nat) (l : List S60) (q : Nat) : Prop := q < l.length ∧ (∀ p, p < l.length → ds l.length H p < ds l.length H q → us l p) ∧ ¬ us l q
theorem free_of_pos {H : Nat} {l : List S60} {key : ByteArray} {q : Nat} (h : Pos H l key q) (hu : ¬ us l q) : Free H l q := ⟨h.1, fun p hp hd => (h.2.1 p hp hd).1, hu⟩
theorem set_eq (a b : Int) (l : List S60) (i : Nat) (s : S60) (hi : i < l.length) (hn : l.length ≤ 10000) : r12_set.f a b (l.map cv) (i : Int) s.f0 s.f1 s.f2 = some (a, b, (l.set i s).map cv) := by
 unfold r12_set.f
 rw [if_pos (by simp only [List.length_nil, List.length_map]; omega), Option.bind_some, if_pos (by omega), if_pos (by simp only [List.nil_append, List.length_map]; omega), List.nil_append, Int.toNat_natCast, List.map_set]
 rfl
theorem lay_l0 (a b : Int) (H : Nat) (l : List S60) (s : S60) (q : Nat) (hH : H < l.length) (hn : l.length ≤ 10000) (hp : Free H l q) : ∀ d i k, i < l.length → ds l.length H i + d = ds l.length H q → d < k →
  r12_lay.l0 k (i : Int) a b (l.map cv) s.f0 s.f1 s.f2 = some (a, b, (l.set q s).map cv)
 | 0, i, k, hi, hd, hk => by
  obtain ⟨k, rfl⟩ : ∃ k', k = k' + 1 := ⟨k - 1, by omega⟩
  have e : i = q := ds_inj hH hi hp.1 (by omega)
  subst e
  unfold r12_lay.l0
  rw [if_pos (by omega), if_pos (by rw [List.length_map]; omega), cv_rd, cv_f0, if_neg hp.2.2, set_eq a b l i s hi hn, Option.bind_some]
 | d + 1, i, k, hi, hd, hk => by
  obtain ⟨k, rfl⟩ : ∃ k', k = k' + 1 := ⟨k - 1, by omega⟩
  have hu := hp.2.1 i hi (by omega)
  have hq := ds_lt hH hp.1
  unfold r12_lay.l0
  rw [if_pos (by omega), if_pos (by rw [List.length_map]; omega), cv_rd, cv_f0, if_pos hu, List.length_map, if_neg (by omega), nx_int hi hn]
  exact lay_l0 a b H l s q hH hn hp d (nx l.length i) k (nx_lt hi) (by rw [ds_nx hH hi (by omega)]; omega) (by omega)
theorem lay_eq (a b : Int) (l : List S60) (s : S60) (q : Nat) (h0 : 0 < l.length) (hn : l.length ≤ 10000) (hs : s.f1.size ≤ 100) (hp : Free (hm a b l.length s.f1) l q) (k : Nat) (hk : 10300 ≤ k) :
  r12_lay.f k a b (l.map cv) s.f0 s.f1 s.f2 = some (a, b, (l.set q s).map cv) := by
 have hH := hm_lt (a := a) (b := b) h0 s.f1
 unfold r12_lay.f
 rw [rhome_eq a b (l.map cv) (by rw [List.length_map]; exact h0) (by rw [List.length_map]; exact hn) s.f1 hs k (by omega), Option.bind_some, List.length_map]
 have := ds_lt hH hp.1
 exact lay_l0 a b _ l s q hH hn hp (ds l.length (hm a b l.length s.f1) q) _ k hH (by rw [ds_self]; omega) (by omega)
theorem ref_l0 (a b : Int) (l : List S60) (hn : l.length < 4398046511104) : ∀ m k i, l.length = i + m → m < k → l12_Ref.l0 k ((l.take i).map cv) l (l.length : Int) (i : Int) a b l = some (a, b, l.map cv)
 | 0, k, i, hi, hk => by
  obtain ⟨k, rfl⟩ : ∃ k', k = k' + 1 := ⟨k - 1, by omega⟩
  unfold l12_Ref.l0
  rw [if_neg (by omega), List.take_of_length_le (by omega)]
 | m + 1, k, i, hi, hk => by
  obtain ⟨k, rfl⟩ : ∃ k', k = k' + 1 := ⟨k - 1, by omega⟩
  have ih := ref_l0 a b l hn m k (i + 1) (by omega) (by omega)
  have hw : wrap64 ((i : Int) + 1) = ((i + 1 : Nat) : Int) := by unfold wrap64; omega
  unfold l12_Ref.l0
  rw [if_pos (by omega), if_pos (by omega), if_pos (by omega), if_pos (by rw [List.length_map, List.length_take]; omega), G_rd, hw]
  have e : (l.take i).map cv ++ [cv (G l i)] = (l.take (i + 1)).map cv := by
   rw [List.take_add_one, List.map_append, List.getElem?_eq_getElem (by omega)]
   unfold G
   rw [List.getD_eq_getElem?_getD, List.getElem?_eq_getElem (by omega)]
   rfl
  rw [← e] at ih
  exact ih
theorem ref_eq (a b : Int) (l : List S60) (hn : l.length < 4398046511104) (k : Nat) (hk : l.length < k) : l12_Ref.f k a b l = some (a, b, l.map cv) := by
 unfold l12_Ref.f
 exact ref_l0 a b l hn l.length k 0 (by omega) (by omega)
end Go.Proofs.Ytojpmjkphgjmgaa.Ix
