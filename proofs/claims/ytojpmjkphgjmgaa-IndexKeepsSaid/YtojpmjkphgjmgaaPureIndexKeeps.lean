import Derived.Test.YtojpmjkphgjmgaaHx19
import Derived.Test.YtojpmjkphgjmgaaHqIndexKeeps
import Derived.Test.YtojpmjkphgjmgaaIx4
import Derived.Test.YtojpmjkphgjmgaaIx6
import Derived.Test.YtojpmjkphgjmgaaIxAwake
set_option linter.unusedVariables false
set_option linter.unusedSimpArgs false
namespace Go.Proofs.Ytojpmjkphgjmgaa.Pure
open Go.RowKit Go.Proofs.Ytojpmjkphgjmgaa.H Go.Proofs.YtojpmjkphgjmgaaW.PrintWords Go.Proofs.YtojpmjkphgjmgaaW.PrintMore Go.Proofs.Ytojpmjkphgjmgaa.Ix
def E : ByteArray := ByteArray.empty
def K (ks : List ByteArray) (j : Nat) : ByteArray := ks.getD j E
def A (vs : List Int) (j : Nat) : Int := vs.getD j 0
theorem K_rd (ks : List ByteArray) (j : Nat) : rdOf ByteArray.empty ks (j : Int) = K ks j := rfl
theorem A_rd (vs : List Int) (j : Nat) : rd vs (j : Int) = A vs j := rfl
theorem getD_set {α : Type} (l : List α) (i j : Nat) (s d : α) (h : i < l.length) : (l.set i s).getD j d = if i = j then s else l.getD j d := by
 rw [List.getD_eq_getElem?_getD, List.getD_eq_getElem?_getD, List.getElem?_set]
 by_cases e : i = j
 ·subst e
  rw [if_pos rfl, if_pos h, if_pos rfl]
  rfl
 ·rw [if_neg e, if_neg e]
theorem getD_take {α : Type} (l : List α) (n j : Nat) (d : α) (h : j < n) : (l.take n).getD j d = l.getD j d := by
 rw [List.getD_eq_getElem?_getD, List.getD_eq_getElem?_getD, List.getElem?_take, if_pos h]
theorem getD_app {α : Type} (l : List α) (x d : α) (j : Nat) : (l ++ [x]).getD j d = if j = l.length then x else l.getD j d := by
 rw [List.getD_eq_getElem?_getD, List.getD_eq_getElem?_getD, List.getElem?_append]
 by_cases h : j < l.length
 ·rw [if_pos h, if_neg (by omega)]
 ·rw [if_neg h]
  by_cases e : j = l.length
  ·rw [if_pos e, e, Nat.sub_self]
   rfl
  ·rw [if_neg e, List.getElem?_eq_none (by simp only [List.length_singleton]; omega), List.getElem?_eq_none (by omega)]
def Has (l : List S60) (s : S60) : Prop := ∃ j, j < l.length ∧ G l j = s
structure Inv (a b : Int) (l : List S60) (ks : List ByteArray) (vs : List Int) : Prop where
 rt : Rt a b l
 len : vs.length = ks.length
 many : cnt l = ks.length
 one : ∀ i j, i < ks.length → j < ks.length → K ks i = K ks j → i = j
 small : ∀ i, i < ks.length → (K ks i).size ≤ 64
 has : ∀ key v, Has l ⟨true, key, v⟩ ↔ ∃ i, i < ks.length ∧ K ks i = key ∧ A vs i = v
theorem inv_in {a b : Int} {l : List S60} {ks : List ByteArray} {vs : List Int} (h : Inv a b l ks vs) (key : ByteArray) : In l key ↔ ∃ i, i < ks.length ∧ K ks i = key := by
 constructor
 ·rintro ⟨j, hj, hu, hk⟩
  obtain ⟨i, h1, h2, _⟩ := (h.has key (G l j).f2).1 ⟨j, hj, s60_ext hu hk rfl⟩
  exact ⟨i, h1, h2⟩
 ·rintro ⟨i, h1, h2⟩
  obtain ⟨j, hj, hG⟩ := (h.has key (A vs i)).2 ⟨i, h1, h2, rfl⟩
  exact ⟨j, hj, by show (G l j).f0 = true; rw [hG], by show (G l j).f1 = key; rw [hG]⟩
theorem inv_new (a b : Int) : Inv a b (List.replicate 8 z60) [] [] where
 rt := by
  refine ⟨by rw [List.length_replicate]; rfl, by rw [cnt_zero]; omega, fun j _ => ?_, fun j _ hu => ?_⟩
  ·rw [G_zero]
   exact ⟨fun h => absurd h (by decide), fun _ => ⟨nil_list, rfl⟩⟩
  ·rw [show us (List.replicate 8 z60) j = ((G (List.replicate 8 z60) j).f0 = true) from rfl, G_zero] at hu
   exact absurd hu (by decide)
 len := rfl
 many := cnt_zero 8
 one := fun i j hi _ _ => absurd hi (Nat.not_lt_zero _)
 small := fun i hi => absurd hi (Nat.not_lt_zero _)
 has := fun key v => ⟨fun ⟨j, _, hG⟩ => by rw [G_zero] at hG; exact Bool.noConfusion (show false = true from congrArg S60.f0 hG), fun ⟨i, hi, _⟩ => absurd hi (Nat.not_lt_zero _)⟩
theorem put_has {a b : Int} {l : List S60} (h : Rt a b l) (hc : cnt l ≤ 100) (key : ByteArray) (v : Int) (hm : May key v) :
  ∃ m, (∀ k, 30000 ≤ k → index_Put.f k a b l key v = some (a, b, m, 0)) ∧ Rt a b m ∧ (∀ s : S60, s.f0 = true → (Has m s ↔ s = ⟨true, key, v⟩ ∨ (Has l s ∧ s.f1 ≠ key))) ∧ ((In l key ∧ cnt m = cnt l) ∨ (¬ In l key ∧ cnt m = cnt l + 1)) := by
 obtain ⟨m, e, h1, _, h3⟩ := put_sum h key (by have := hm.1; omega) v
 rcases h3 with ⟨_, _, h4 | ⟨_, h5, h6⟩⟩ | ⟨rfl, _, l', q, hin, rfl⟩
 ·exact absurd hm h4
 ·omega
 ·have hq := hin.pos.1
  have hr' := hin.rt
  have h8 := pw_le hr'.1
  have hG : ∀ p, G (l'.set q ⟨true, key, v⟩) p = if q = p then ⟨true, key, v⟩ else G l' p := fun p => G_set hq
  have hasl : ∀ s : S60, s.f0 = true → (Has l' s ↔ Has l s) := fun s hs => by
   rcases hin.how with rfl | ⟨hf, _⟩
   ·exact Iff.rfl
   ·constructor
    ·rintro ⟨j, hj, rfl⟩
     obtain ⟨i', _, h2, h3⟩ := hf.back j hj hs
     exact ⟨i', h2, h3⟩
    ·rintro ⟨i, hi, rfl⟩
     obtain ⟨j, hj, hG⟩ := hf.there i hi hi hs
     exact ⟨j, hj, hG⟩
  have cl : cnt l' = cnt l := by
   rcases hin.how with rfl | ⟨hf, _⟩
   ·rfl
   ·have := hf.many
    rwa [List.take_of_length_le (Nat.le_refl _)] at this
  have inl : In l' key ↔ In l key := by
   rcases hin.how with rfl | ⟨hf, _⟩
   ·exact Iff.rfl
   ·exact half_in hf key
  have hpi := pos_in (by omega) hr'.2.2.2 hin.pos
  refine ⟨l'.set q ⟨true, key, v⟩, h1, rt_set hr' hin.pos hm hin.room, fun s hs => ?_, ?_⟩
  ·constructor
   ·rintro ⟨j, hj, hGj⟩
    rw [List.length_set] at hj
    rw [hG] at hGj
    split at hGj
    ·exact .inl hGj.symm
    ·rename_i hne
     refine .inr ⟨(hasl s hs).1 ⟨j, hj, hGj⟩, fun hk => ?_⟩
     have hus : us l' j := by show (G l' j).f0 = true; rw [hGj]; exact hs
     have hkj : ky l' j = key := by show (G l' j).f1 = key; rw [hGj]; exact hk
     have huq := hpi.1 ⟨j, hj, hus, hkj⟩
     exact hne (good_inj (by omega) hr'.2.2.2 hq hj huq hus (by rw [hin.pos.2.2 huq, hkj]))
   ·rintro (rfl | ⟨h4, h5⟩)
    ·exact ⟨q, by rw [List.length_set]; exact hq, by rw [hG, if_pos rfl]⟩
    ·obtain ⟨j, hj, hGj⟩ := (hasl s hs).2 h4
     refine ⟨j, by rw [List.length_set]; exact hj, ?_⟩
     rw [hG, if_neg ?_, hGj]
     rintro rfl
     have hus : us l' q := by show (G l' q).f0 = true; rw [hGj]; exact hs
     have := hin.pos.2.2 hus
     exact h5 (by rw [← hGj]; exact this)
  ·have hcs := cnt_set hq ⟨true, key, v⟩
   rw [if_pos rfl] at hcs
   by_cases hu : us l' q
   ·rw [if_pos hu] at hcs
    exact .inl ⟨inl.1 (hpi.2 hu), by omega⟩
   ·rw [if_neg hu] at hcs
    exact .inr ⟨fun hin' => hu (hpi.1 (inl.2 hin')), by omega⟩
theorem inv_put_old {a b : Int} {l m : List S60} {ks : List ByteArray} {vs : List Int} (h : Inv a b l ks vs) {i : Nat} (hi : i < ks.length) {v : Int} (hr : Rt a b m) (hh : ∀ s : S60, s.f0 = true → (Has m s ↔ s = ⟨true, K ks i, v⟩ ∨ (Has l s ∧ s.f1 ≠ K ks i))) (hc : cnt m = cnt l) : Inv a b m ks (vs.set i v) where
 rt := hr
 len := by rw [List.length_set]; exact h.len
 many := by rw [hc]; exact h.many
 one := h.one
 small := h.small
 has := fun key w => by
  have hA : ∀ j, A (vs.set i v) j = if i = j then v else A vs j := fun j => getD_set vs i j v 0 (by rw [h.len]; exact hi)
  rw [hh _ rfl]
  constructor
  ·rintro (he | ⟨h1, h2⟩)
   ·injection he with _ e1 e2
    exact ⟨i, hi, e1.symm, by rw [hA, if_pos rfl, e2]⟩
   ·obtain ⟨j, hj, h3, h4⟩ := (h.has key w).1 h1
    refine ⟨j, hj, h3, ?_⟩
    rw [hA, if_neg ?_, h4]
    rintro rfl
    exact h2 h3.symm
  ·rintro ⟨j, hj, h3, h4⟩
   rw [hA] at h4
   split at h4
   ·rename_i e
    subst e
    exact .inl (by rw [h3, h4])
   ·rename_i e
    exact .inr ⟨(h.has key w).2 ⟨j, hj, h3, h4⟩, fun hk => e (h.one i j hi hj (by rw [h3]; exact hk.symm))⟩
theorem inv_put_new {a b : Int} {l m : List S60} {ks : List ByteArray} {vs : List Int} (h : Inv a b l ks vs) {key : ByteArray} (hno : ¬ In l key) (hs : key.size ≤ 64) {v : Int} (hr : Rt a b m) (hh : ∀ s : S60, s.f0 = true → (Has m s ↔ s = ⟨true, key, v⟩ ∨ (Has l s ∧ s.f1 ≠ key))) (hc : cnt m = cnt l + 1) : Inv a b m (ks ++ [key]) (vs ++ [v]) := by
 have hK : ∀ j, K (ks ++ [key]) j = if j = ks.length then key else K ks j := fun j => getD_app ks key E j
 have hA : ∀ j, A (vs ++ [v]) j = if j = ks.length then v else A vs j := fun j => by rw [← h.len]; exact getD_app vs v 0 j
 have hk : ∀ j, j < ks.length → K ks j ≠ key := fun j hj e => hno ((inv_in h key).2 ⟨j, hj, e⟩)
 have hl : (ks ++ [key]).length = ks.length + 1 := by rw [List.length_append, List.length_singleton]
 refine ⟨hr, by rw [hl, List.length_append, List.length_singleton, h.len], by rw [hl, hc, h.many], fun i j hi hj e => ?_, fun i hi => ?_, fun k2 w => ?_⟩
 ·rw [hl] at hi hj
  rw [hK, hK] at e
  split at e
  ·split at e
   ·omega
   ·exact absurd e.symm (hk j (by omega))
  ·split at e
   ·exact absurd e (hk i (by omega))
   ·exact h.one i j (by omega) (by omega) e
 ·rw [hl] at hi
  rw [hK]
  split
  ·exact hs
  ·exact h.small i (by omega)
 ·rw [hh _ rfl]
  constructor
  ·rintro (he | ⟨h1, h2⟩)
   ·injection he with _ e1 e2
    exact ⟨ks.length, by omega, by rw [hK, if_pos rfl, e1], by rw [hA, if_pos rfl, e2]⟩
   ·obtain ⟨j, hj, h3, h4⟩ := (h.has k2 w).1 h1
    exact ⟨j, by omega, by rw [hK, if_neg (by omega), h3], by rw [hA, if_neg (by omega), h4]⟩
  ·rintro ⟨j, hj, h3, h4⟩
   rw [hl] at hj
   rw [hK] at h3
   rw [hA] at h4
   split at h3
   ·rename_i e
    rw [if_pos e] at h4
    exact .inl (by rw [h3, h4])
   ·rename_i e
    rw [if_neg e] at h4
    exact .inr ⟨(h.has k2 w).2 ⟨j, by omega, h3, h4⟩, fun hk2 => hk j (by omega) (by rw [h3]; exact hk2)⟩
theorem inv_del {a b : Int} {l m : List S60} {ks : List ByteArray} {vs : List Int} (h : Inv a b l ks vs) {i n : Nat} (hn : ks.length = n + 1) (hi : i < ks.length) (hr : Rt a b m) (hh : ∀ s : S60, s.f0 = true → (Has m s ↔ (Has l s ∧ s.f1 ≠ K ks i))) (hc : cnt m + 1 = cnt l) :
  Inv a b m ((ks.set i (K ks n)).take n) ((vs.set i (A vs n)).take n) := by
 have la : vs.length = n + 1 := by rw [h.len, hn]
 have hK : ∀ j, j < n → K ((ks.set i (K ks n)).take n) j = if i = j then K ks n else K ks j := fun j hj => by
  show ((ks.set i (K ks n)).take n).getD j E = _
  rw [getD_take _ _ _ _ hj]
  exact getD_set ks i j (K ks n) E hi
 have hA : ∀ j, j < n → A ((vs.set i (A vs n)).take n) j = if i = j then A vs n else A vs j := fun j hj => by
  show ((vs.set i (A vs n)).take n).getD j 0 = _
  rw [getD_take _ _ _ _ hj]
  exact getD_set vs i j (A vs n) 0 (by omega)
 have hl : ((ks.set i (K ks n)).take n).length = n := by rw [List.length_take, List.length_set]; omega
 refine ⟨hr, by rw [hl, List.length_take, List.length_set]; omega, by rw [hl]; have := h.many; omega, fun x y hx hy e => ?_, fun x hx => ?_, fun key w => ?_⟩
 ·rw [hl] at hx hy
  rw [hK x hx, hK y hy] at e
  split at e
  ·split at e
   ·omega
   ·have := h.one n y (by omega) (by omega) e; omega
  ·split at e
   ·have := h.one x n (by omega) (by omega) e; omega
   ·exact h.one x y (by omega) (by omega) e
 ·rw [hl] at hx
  rw [hK x hx]
  split
  ·exact h.small n (by omega)
  ·exact h.small x (by omega)
 ·rw [hh _ rfl, h.has key w, hl]
  constructor
  ·rintro ⟨⟨j, hj, h3, h4⟩, h5⟩
   have hji : j ≠ i := fun e => h5 (by rw [← e]; exact h3.symm)
   by_cases hjn : j = n
   ·refine ⟨i, by omega, ?_, ?_⟩
    ·rw [hK i (by omega), if_pos rfl, ← hjn, h3]
    ·rw [hA i (by omega), if_pos rfl, ← hjn, h4]
   ·refine ⟨j, by omega, ?_, ?_⟩
    ·rw [hK j (by omega), if_neg (fun e => hji e.symm), h3]
    ·rw [hA j (by omega), if_neg (fun e => hji e.symm), h4]
  ·rintro ⟨j, hj, h3, h4⟩
   rw [hK j hj] at h3
   rw [hA j hj] at h4
   split at h3
   ·rename_i e
    rw [if_pos e] at h4
    refine ⟨⟨n, by omega, h3, h4⟩, fun hk => ?_⟩
    have hk' : key = K ks i := hk
    rw [← h3] at hk'
    have := h.one n i (by omega) hi hk'
    omega
   ·rename_i e
    rw [if_neg e] at h4
    refine ⟨⟨j, by omega, h3, h4⟩, fun hk => ?_⟩
    have hk' : key = K ks i := hk
    rw [← h3] at hk'
    exact e (h.one j i (by omega) hi hk').symm
theorem keeps_j4 (acts : List S56) (ks : List ByteArray) (vs : List Int) (i : Nat) (hi : i < 100) (a b : Int) (l : List S60) (h : Inv a b l ks vs) (k : Nat) (hk : 20000 ≤ k) :
  l12_IndexKeeps.j4 (k + 1) acts ks vs (i : Int) a b l = l12_IndexKeeps.l0 k acts ks vs ((i + 1 : Nat) : Int) a b l := by
 rw [l12_IndexKeeps.j4, right_eq a b l k hk, Option.bind_some, if_pos (yes_true h.rt), many_good h.rt k hk, Option.bind_some, if_pos (by have := h.many; omega), inc (show i < 100 by exact hi) (by omega)]
theorem keeps_l2 (ks : List ByteArray) (vs : List Int) (a b : Int) (l : List S60) (h : Inv a b l ks vs) (hn : ks.length ≤ 100) (F : Nat) (hF : 20001 ≤ F) : ∀ d k j, ks.length = j + d → d + F < k → l12_IndexKeeps.l2 k vs ks (ks.length : Int) (j : Int) a b l = some true
 | 0, k, j, hj, hk => by
  obtain ⟨k, rfl⟩ : ∃ k', k = k' + 1 := ⟨k - 1, by omega⟩
  rw [l12_IndexKeeps.l2, if_neg (by omega), awake_bind k (by omega)]
 | d + 1, k, j, hj, hk => by
  obtain ⟨k, rfl⟩ : ∃ k', k = k' + 1 := ⟨k - 1, by omega⟩
  have hlt : j < ks.length := by omega
  have hlen := h.len
  have h8 := pw_le h.rt.1
  obtain ⟨q, hq⟩ := rt_pos h.rt (K ks j)
  have hu : us l q := (pos_in (by omega) h.rt.2.2.2 hq).1 ((inv_in h _).2 ⟨j, hlt, rfl⟩)
  have hky := hq.2.2 hu
  obtain ⟨i', h1, h2, h3⟩ := (h.has (K ks j) (G l q).f2).1 ⟨q, hq.1, s60_ext hu hky rfl⟩
  have e : i' = j := h.one i' j h1 hlt h2
  subst e
  rw [l12_IndexKeeps.l2, if_pos (by omega), if_pos (by omega), if_pos (by omega), K_rd, get_eq h.rt hq (by have := h.small i' hlt; omega) k (by omega), Option.bind_some]
  simp only
  rw [if_pos hu, if_pos (by omega), A_rd, if_pos h3.symm, inc (show i' < 100 by omega) (by omega)]
  exact keeps_l2 ks vs a b l h hn F hF d k (i' + 1) (by omega) (by omega)
def At (ks : List ByteArray) (key : ByteArray) (n : Nat) (t : Int) : Prop := (t = -1 ∧ ∀ q, q < n → K ks q ≠ key) ∨ ∃ q, q < n ∧ K ks q = key ∧ t = (q : Int)
theorem keeps_l1 (acts : List S56) (ks : List ByteArray) (vs : List Int) (i : Int) (a b : Int) (l : List S60) (del : Bool) (key : ByteArray) (v : Int) (hn : ks.length ≤ 100) : ∀ d k j t, ks.length = j + d → d < k → At ks key j t →
  ∃ t', l12_IndexKeeps.l1 k acts ks vs i t ks (ks.length : Int) (j : Int) a b l del key v = l12_IndexKeeps.l1 (k - d) acts ks vs i t' ks (ks.length : Int) (ks.length : Int) a b l del key v ∧ At ks key ks.length t'
 | 0, k, j, t, hj, hk, ht => by
  have e : j = ks.length := by omega
  subst e
  exact ⟨t, rfl, ht⟩
 | d + 1, k, j, t, hj, hk, ht => by
  obtain ⟨k, rfl⟩ : ∃ k', k = k' + 1 := ⟨k - 1, by omega⟩
  rw [l12_IndexKeeps.l1, if_pos (by omega), if_pos (by omega), if_pos (by omega), K_rd, inc (show j < 100 by omega) (by omega), show k + 1 - (d + 1) = k - d by omega]
  by_cases hk2 : K ks j = key
  ·rw [if_pos ((list_iff _ _).2 hk2)]
   exact keeps_l1 acts ks vs i a b l del key v hn d k (j + 1) _ (by omega) (by omega) (.inr ⟨j, by omega, hk2, rfl⟩)
  ·rw [if_neg (fun e => hk2 ((list_iff _ _).1 e))]
   refine keeps_l1 acts ks vs i a b l del key v hn d k (j + 1) t (by omega) (by omega) ?_
   rcases ht with ⟨e, h1⟩ | ⟨q, h1, h2, h3⟩
   ·refine .inl ⟨e, fun q hq => ?_⟩
    rcases Nat.lt_or_ge q j with h2 | h2
    ·exact h1 q h2
    ·have : q = j := by omega
     subst this
     exact hk2
   ·exact .inr ⟨q, by omega, h2, h3⟩
theorem keeps_act (acts : List S56) (ks : List ByteArray) (vs : List Int) (i : Nat) (hi : i < 100) (a b : Int) (l : List S60) (h : Inv a b l ks vs) (hn : ks.length ≤ i) (del : Bool) (key : ByteArray) (v : Int) (hm : May key v) (k : Nat) (hk : 40000 ≤ k)
  (go : ∀ (k' : Nat) (m : List S60) (ks' : List ByteArray) (vs' : List Int), k ≤ k' + 200 → Inv a b m ks' vs' → ks'.length ≤ i + 1 → l12_IndexKeeps.l0 k' acts ks' vs' ((i + 1 : Nat) : Int) a b m = some true) :
  l12_IndexKeeps.l1 k acts ks vs (i : Int) (-1) ks (ks.length : Int) 0 a b l del key v = some true := by
 obtain ⟨t, e, ht⟩ := keeps_l1 acts ks vs (i : Int) a b l del key v (by omega) ks.length k 0 (-1) (by omega) (by omega) (.inl ⟨rfl, fun q hq => absurd hq (Nat.not_lt_zero _)⟩)
 rw [show (0 : Int) = ((0 : Nat) : Int) from rfl, e]
 obtain ⟨k1, hk1⟩ : ∃ k1, k - ks.length = k1 + 2 := ⟨k - ks.length - 2, by omega⟩
 have hlen := h.len
 have hmany := h.many
 rw [hk1, l12_IndexKeeps.l1, if_neg (by omega)]
 cases del with
 | true =>
  rw [if_pos rfl]
  obtain ⟨m, e', d1, _, d3⟩ := del_sum h.rt key (by have := hm.1; omega)
  rw [d1 (k1 + 1) (by omega), Option.bind_some]
  simp only
  rcases d3 with ⟨rfl, rfl, hno⟩ | ⟨rfl, dr, _, dc, din, dh, _⟩
  ·rcases ht with ⟨rfl, _⟩ | ⟨q, h1, h2, rfl⟩
   ·rw [if_neg (by decide), if_neg (by omega), keeps_j4 acts ks vs i hi a b m h k1 (by omega)]
    exact go k1 m ks vs (by omega) h (by omega)
   ·exact absurd ((inv_in h key).2 ⟨q, h1, h2⟩) hno
  ·obtain ⟨q, h1, h2⟩ := (inv_in h key).1 din
   rcases ht with ⟨_, h3⟩ | ⟨q', h3, h4, rfl⟩
   ·exact absurd h2 (h3 q h1)
   ·have eq : q' = q := h.one q' q h3 h1 (by rw [h4, h2])
    subst eq
    obtain ⟨n, hn1⟩ : ∃ n, ks.length = n + 1 := ⟨ks.length - 1, by omega⟩
    have w1 : wrap64 ((ks.length : Int) - 1) = (n : Int) := by rw [w64 (by omega) (by omega)]; omega
    have w2 : wrap64 ((vs.length : Int) - 1) = (n : Int) := by rw [w64 (by omega) (by omega)]; omega
    rw [if_neg (by rw [decide_eq_true (by omega)]; decide), if_pos (by omega), w1, w2, if_pos (by omega), if_pos (by omega), if_pos (by omega), if_pos (by omega), if_pos (by omega), if_pos (by omega), if_pos (by omega), if_pos (by omega), if_pos (by omega), K_rd, A_rd, Int.toNat_natCast, Int.toNat_natCast]
    have hinv := inv_del h hn1 h3 dr (fun s hs => by rw [h4]; exact dh s hs) dc
    rw [keeps_j4 acts _ _ i hi a b m hinv k1 (by omega)]
    exact go k1 m _ _ (by omega) hinv (by rw [List.length_take, List.length_set]; omega)
 | false =>
  rw [if_neg (by decide)]
  obtain ⟨m, p1, pr, ph, pc⟩ := put_has h.rt (by omega) key v hm
  rw [p1 (k1 + 1) (by omega), Option.bind_some]
  simp only
  rw [if_pos trivial]
  rcases ht with ⟨rfl, h3⟩ | ⟨q, h1, h2, rfl⟩
  ·have hno : ¬ In l key := fun hin => by
    obtain ⟨q, h4, h5⟩ := (inv_in h key).1 hin
    exact h3 q h4 h5
   have pc' := (pc.resolve_left (fun hh => hno hh.1)).2
   have hinv := inv_put_new h hno hm.1 pr ph pc'
   rw [if_neg (by omega), Option.bind_some, if_pos (by rw [List.length_singleton]; omega), Option.bind_some, if_pos (by rw [List.length_singleton]; omega), keeps_j4 acts _ _ i hi a b m hinv k1 (by omega)]
   exact go k1 m _ _ (by omega) hinv (by rw [List.length_append, List.length_singleton]; omega)
  ·have hin : In l key := (inv_in h key).2 ⟨q, h1, h2⟩
   have pc' := (pc.resolve_right (fun hh => hh.1 hin)).2
   have hinv := inv_put_old (v := v) h h1 pr (fun s hs => by rw [h2]; exact ph s hs) pc'
   rw [if_pos (by omega), if_pos (by omega), if_pos (by omega), Int.toNat_natCast, keeps_j4 acts _ _ i hi a b m hinv k1 (by omega)]
   exact go k1 m _ _ (by omega) hinv (by omega)
theorem T56_rd (acts : List S56) (i : Nat) : rd_T56 acts (i : Int) = acts.getD i z56 := rfl
theorem keeps_l0 (acts : List S56) (a b : Int) (F : Nat) (hF : 50000 ≤ F) : ∀ d k i (l : List S60) (ks : List ByteArray) (vs : List Int), 100 = i + d → 300 * d + F ≤ k → Inv a b l ks vs → ks.length ≤ i →
  l12_IndexKeeps.l0 k acts ks vs (i : Int) a b l = some true
 | 0, k, i, l, ks, vs, hi, hk, h, hn => by
  obtain ⟨k, rfl⟩ : ∃ k', k = k' + 1 + 1 := ⟨k - 2, by omega⟩
  have last : l12_IndexKeeps.j1 (k + 1) acts ks vs (i : Int) false a b l = some true := by
   rw [l12_IndexKeeps.j1, if_neg (by decide), show (0 : Int) = ((0 : Nat) : Int) from rfl]
   exact keeps_l2 ks vs a b l h (by omega) 20001 (Nat.le_refl _) ks.length k 0 (by omega) (by omega)
  rw [l12_IndexKeeps.l0, decide_eq_false (by omega)]
  split
  ·exact last
  ·exact last
 | d + 1, k, i, l, ks, vs, hi, hk, h, hn => by
  obtain ⟨k, rfl⟩ : ∃ k', k = k' + 1 + 1 + 1 := ⟨k - 3, by omega⟩
  rw [l12_IndexKeeps.l0]
  by_cases hlt : (i : Int) < (acts.length : Int)
  ·rw [if_pos hlt, decide_eq_true (by omega), l12_IndexKeeps.j1, if_pos rfl, if_pos (by omega), if_pos hlt, T56_rd]
   have aw : ∀ (c : Bool), c = true → ∀ x y z, l12_IndexKeeps.j2 (k + 1) acts ks vs (i : Int) c a b l x y z = some true := fun c hc x y z => by
    rw [hc, l12_IndexKeeps.j2, if_pos rfl, awake_bind k (by omega)]
   by_cases h1 : ((acts.getD i z56).f1.size : Int) > 64
   ·rw [if_pos h1, aw true rfl]
   ·rw [if_neg h1]
    by_cases h2 : (acts.getD i z56).f2 < 0
    ·rw [if_pos h2, aw true rfl]
    ·rw [if_neg h2]
     by_cases h3 : (acts.getD i z56).f2 > 2147483647
     ·exact aw _ (decide_eq_true h3) _ _ _
     ·rw [decide_eq_false h3, l12_IndexKeeps.j2, if_neg (by decide)]
      exact keeps_act acts ks vs i (by omega) a b l h hn _ _ _ ⟨by omega, by omega, by omega⟩ k (by omega) (fun k' m ks' vs' hk' h' hn' => keeps_l0 acts a b F hF d k' (i + 1) m ks' vs' (by omega) (by omega) h' hn')
  ·rw [if_neg hlt, l12_IndexKeeps.j1, if_neg (by decide), show (0 : Int) = ((0 : Nat) : Int) from rfl]
   exact keeps_l2 ks vs a b l h (by omega) 20001 (Nat.le_refl _) ks.length (k + 1) 0 (by omega) (by omega)
theorem IndexKeeps : l12_IndexKeeps.Pure := by
 intro x acts _ _
 obtain ⟨a, b⟩ := x
 refine ⟨100000, ?_⟩
 simp only
 unfold l12_IndexKeeps.f index_New.f
 rw [if_pos (by decide), Option.bind_some]
 exact keeps_l0 acts a b 50000 (Nat.le_refl _) 100 100000 0 (List.replicate 8 z60) [] [] (by omega) (by omega) (inv_new a b) (Nat.le_refl _)
end Go.Proofs.Ytojpmjkphgjmgaa.Pure
