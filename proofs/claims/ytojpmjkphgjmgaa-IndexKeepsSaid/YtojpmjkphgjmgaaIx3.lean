import Derived.Test.YtojpmjkphgjmgaaIx2
import Derived.Test.YtojpmjkphgjmgaaHx9
import Derived.Test.YtojpmjkphgjmgaaHx7
import Derived.Test.YtojpmjkphgjmgaaHx11
import Derived.Test.YtojpmjkphgjmgaaHx16
set_option linter.unusedVariables false
set_option linter.unusedSimpArgs false
namespace Go.Proofs.Ytojpmjkphgjmgaa.Ix
open Go.RowKit Go.Proofs.Ytojpmjkphgjmgaa.H Go.Proofs.YtojpmjkphgjmgaaW.PrintWords Go.Proofs.YtojpmjkphgjmgaaW.PrintMore
theorem good_set {a b : Int} {l : List S60} {key : ByteArray} {q : Nat} {s : S60} (hg : Good a b l) (hp : Pos (hm a b l.length key) l key q) (h0 : s.f0 = true) (h1 : s.f1 = key) : Good a b (l.set q s) := by
 intro j hj hu
 rw [List.length_set] at hj ⊢
 by_cases e : q = j
 ·subst e
  have hk : ky (l.set q s) q = key := by show (G (l.set q s) q).f1 = key; rw [G_set_self hj, h1]
  rw [hk]
  refine ⟨by rw [List.length_set]; exact hj, fun p hp' hd => ?_, fun _ => hk⟩
  rw [List.length_set] at hp' hd
  have hne : q ≠ p := fun e => by subst e; omega
  have h := hp.2.1 p hp' hd
  show (G (l.set q s) p).f0 = true ∧ (G (l.set q s) p).f1 ≠ key
  rw [G_set_ne hj hne]
  exact h
 ·have eG : G (l.set q s) j = G l j := G_set_ne hp.1 e
  have hu' : us l j := by show (G l j).f0 = true; rw [← eG]; exact hu
  have hk : ky (l.set q s) j = ky l j := by show (G (l.set q s) j).f1 = (G l j).f1; rw [eG]
  rw [hk]
  have hj' := hg j hj hu'
  refine ⟨by rw [List.length_set]; exact hj, fun p hp' hd => ?_, fun _ => hk⟩
  rw [List.length_set] at hp' hd
  have h := hj'.2.1 p hp' hd
  show (G (l.set q s) p).f0 = true ∧ (G (l.set q s) p).f1 ≠ ky l j
  by_cases e2 : q = p
  ·subst e2
   rw [G_set_self hp']
   refine ⟨h0, ?_⟩
   rw [h1, ← hp.2.2 h.1]
   exact h.2
  ·rw [G_set_ne hp.1 e2]
   exact h
theorem good_inj {a b : Int} {l : List S60} (h0 : 0 < l.length) (hg : Good a b l) {i j : Nat} (hi : i < l.length) (hj : j < l.length) (hu : us l i) (hv : us l j) (hk : ky l i = ky l j) : i = j := by
 have h1 := hg i hi hu
 have h2 := hg j hj hv
 rw [hk] at h1
 exact pos_inj (hm_lt h0 _) h1 h2
def In (l : List S60) (key : ByteArray) : Prop := ∃ j, j < l.length ∧ us l j ∧ ky l j = key
theorem pos_in {a b : Int} {l : List S60} {key : ByteArray} {q : Nat} (h0 : 0 < l.length) (hg : Good a b l) (hp : Pos (hm a b l.length key) l key q) : In l key ↔ us l q := by
 constructor
 ·rintro ⟨j, hj, hu, hk⟩
  have h1 := hg j hj hu
  rw [hk] at h1
  rw [pos_inj (hm_lt h0 _) hp h1]
  exact hu
 ·exact fun hu => ⟨q, hp.1, hu, hp.2.2 hu⟩
theorem rt_pos {a b : Int} {l : List S60} (h : Rt a b l) (key : ByteArray) : ∃ q, Pos (hm a b l.length key) l key q := by
 have h1 := pw_le h.1
 have h2 := h.2.1
 obtain ⟨p, hp, hpu⟩ := free_ex (l := l) (by omega)
 exact pos_ex (hm_lt (by omega) _) ⟨p, hp, fun h => absurd h hpu⟩
theorem nil_list : z60.f1.toList = [] := by rw [Lib.toList_data]; rfl
theorem sound_free {s : S60} (h : Sound s) (hu : ¬ s.f0 = true) : s = z60 := by
 cases hb : s.f0 with
 | true => exact absurd hb hu
 | false =>
  obtain ⟨h1, h2⟩ := h.2 hb
  exact s60_ext hb (list_inj (h1.trans nil_list.symm)) h2
def May (key : ByteArray) (at' : Int) : Prop := key.size ≤ 64 ∧ 0 ≤ at' ∧ at' ≤ 2147483647
theorem rt_set {a b : Int} {l : List S60} {key : ByteArray} {q : Nat} {v : Int} (h : Rt a b l) (hp : Pos (hm a b l.length key) l key q) (hm' : May key v) (hc : us l q ∨ 2 * (cnt l + 1) ≤ l.length) : Rt a b (l.set q ⟨true, key, v⟩) := by
 refine ⟨by rw [List.length_set]; exact h.1, ?_, fun j hj => ?_, good_set h.2.2.2 hp rfl rfl⟩
 ·have h1 := cnt_set hp.1 ⟨true, key, v⟩
  have h2 := h.2.1
  rw [List.length_set]
  rw [if_pos rfl] at h1
  rcases hc with hc | hc
  ·rw [if_pos hc] at h1
   omega
  ·omega
 ·rw [List.length_set] at hj
  by_cases e : q = j
  ·subst e
   rw [G_set_self hj]
   exact ⟨fun _ => hm', fun h => by cases h⟩
  ·rw [G_set_ne hp.1 e]
   exact h.2.2.1 j hj
theorem clone_eq (l : List S60) (hn : l.length ≤ 10000) : index_Slot_28.f l = some l := by unfold index_Slot_28.f; rw [if_pos (by omega)]
theorem get_eq {a b : Int} {l : List S60} {key : ByteArray} {q : Nat} (h : Rt a b l) (hp : Pos (hm a b l.length key) l key q) (hs : key.size ≤ 100) (k : Nat) (hk : 20000 ≤ k) : index_Get.f k a b l key = some ((G l q).f2, (G l q).f0) := by
 have h1 := pw_le h.1
 unfold index_Get.f
 have := hp.1
 rw [right_eq a b l k hk, Option.bind_some, if_pos (yes_true h), walk_eq a b l key q (by omega) (by omega) hs hp k (by omega), Option.bind_some, if_pos (by simp only; omega), if_pos (by simp only; omega), G_rd]
theorem get_bad {a b : Int} {l : List S60} {key : ByteArray} (h : ¬ Rt a b l) (k : Nat) (hk : 20000 ≤ k) : index_Get.f k a b l key = some (0, false) := by
 unfold index_Get.f
 rw [right_eq a b l k hk, Option.bind_some, yes_false h, if_neg (by exact Bool.noConfusion)]
theorem many_good {a b : Int} {l : List S60} (h : Rt a b l) (k : Nat) (hk : 20000 ≤ k) : index_Many.f k a b l = some (cnt l : Int) := by
 have h1 := pw_le h.1
 unfold index_Many.f
 rw [right_eq a b l k hk, Option.bind_some, if_pos (yes_true h), many_eq a b l (by omega) k (by omega), Option.bind_some]
theorem many_bad {a b : Int} {l : List S60} (h : ¬ Rt a b l) (k : Nat) (hk : 20000 ≤ k) : index_Many.f k a b l = some 0 := by
 unfold index_Many.f
 rw [right_eq a b l k hk, Option.bind_some, yes_false h, if_neg (by exact Bool.noConfusion)]
theorem put_bad {a b : Int} {l : List S60} (h : ¬ Rt a b l) (key : ByteArray) (v : Int) (k : Nat) (hk : 20000 ≤ k) : index_Put.f k a b l key v = some (a, b, l, 1) := by
 unfold index_Put.f
 rw [right_eq a b l k hk, Option.bind_some, yes_false h, if_neg (by exact Bool.noConfusion)]
theorem put_long {a b : Int} {l : List S60} (h : Rt a b l) (key : ByteArray) (hs : 64 < key.size) (v : Int) (k : Nat) (hk : 20000 ≤ k) : index_Put.f k a b l key v = some (a, b, l, 5) := by
 unfold index_Put.f
 rw [right_eq a b l k hk, Option.bind_some, if_pos (yes_true h), if_pos (by omega)]
theorem put_arg {a b : Int} {l : List S60} (h : Rt a b l) (key : ByteArray) (hs : key.size ≤ 64) (v : Int) (hv : v < 0 ∨ 2147483647 < v) (k : Nat) (hk : 20000 ≤ k) : index_Put.f k a b l key v = some (a, b, l, 1) := by
 unfold index_Put.f
 rw [right_eq a b l k hk, Option.bind_some, if_pos (yes_true h), if_neg (by omega)]
 by_cases h0 : v < 0
 ·rw [if_pos h0]
 ·rw [if_neg h0, if_pos (by omega)]
theorem put_room {a b : Int} {l : List S60} {key : ByteArray} {q : Nat} (h : Rt a b l) (hp : Pos (hm a b l.length key) l key q) (v : Int) (hm' : May key v) (hc : us l q ∨ 2 * (cnt l + 1) ≤ l.length) (k : Nat) (hk : 20001 ≤ k) :
  index_Put.f k a b l key v = some (a, b, l.set q ⟨true, key, v⟩, 0) := by
 obtain ⟨k, rfl⟩ : ∃ k', k = k' + 1 := ⟨k - 1, by omega⟩
 have h1 := pw_le h.1
 have hq := hp.1
 obtain ⟨m1, m2, m3⟩ := hm'
 have hj : index_Put.j0 (k + 1) key v (q : Int) false a b l = some (a, b, l.set q ⟨true, key, v⟩, 0) := by
  rw [index_Put.j0, if_neg (by exact Bool.noConfusion), clone_eq l (by omega), Option.bind_some, if_pos (by omega), if_pos (by omega), Int.toNat_natCast]
 unfold index_Put.f
 rw [right_eq a b l (k + 1) (by omega), Option.bind_some, if_pos (yes_true h), if_neg (by omega), if_neg (by omega), if_neg (by omega), walk_eq a b l key q (by omega) (by omega) (by omega) hp (k + 1) (by omega), Option.bind_some]
 by_cases hu : us l q
 ·rw [if_pos hu, hj]
 ·have hc' := hc.resolve_left hu
  rw [if_neg hu, many_eq a b l (by omega) (k + 1) (by omega), Option.bind_some, w64 (x := (cnt l : Int) + 1) (by omega) (by omega), w64 (by omega) (by omega), decide_eq_false (by omega), hj]
structure Half (a b : Int) (l g : List S60) (i : Nat) : Prop where
 len : g.length = 2 * l.length
 good : Good a b g
 many : cnt g = cnt (l.take i)
 back : ∀ j, j < g.length → us g j → ∃ i', i' < i ∧ i' < l.length ∧ G l i' = G g j
 there : ∀ i', i' < i → i' < l.length → us l i' → ∃ j, j < g.length ∧ G g j = G l i'
 zero : ∀ j, j < g.length → ¬ us g j → G g j = z60
theorem G_zero (n j : Nat) : G (List.replicate n z60) j = z60 := by
 unfold G
 rw [List.getD_eq_getElem?_getD, List.getElem?_replicate]
 split <;> rfl
theorem cnt_zero (n : Nat) : cnt (List.replicate n z60) = 0 := by
 unfold cnt
 rw [List.countP_replicate]
 exact if_neg (by decide)
theorem half_zero (a b : Int) (l : List S60) : Half a b l (List.replicate (2 * l.length) z60) 0 where
 len := List.length_replicate
 good := fun j hj hu => by unfold us at hu; rw [G_zero] at hu; cases hu
 many := by rw [cnt_zero, List.take_zero]; rfl
 back := fun j hj hu => by unfold us at hu; rw [G_zero] at hu; cases hu
 there := fun i' h => by omega
 zero := fun j _ _ => G_zero _ _
theorem half_skip {a b : Int} {l g : List S60} {i : Nat} (h : Half a b l g i) (hi : i < l.length) (hu : ¬ us l i) : Half a b l g (i + 1) where
 len := h.len
 good := h.good
 many := by rw [cnt_take hi, if_neg hu, h.many]; rfl
 back := fun j hj hu => by obtain ⟨i', h1, h2, h3⟩ := h.back j hj hu; exact ⟨i', by omega, h2, h3⟩
 there := fun i' h1 h2 hu' => by
  rcases Nat.lt_or_ge i' i with h3 | h3
  ·exact h.there i' h3 h2 hu'
  ·obtain rfl : i' = i := by omega
   exact absurd hu' hu
 zero := h.zero
theorem half_put {a b : Int} {l g : List S60} {i : Nat} (hr : Rt a b l) (h : Half a b l g i) (hi : i < l.length) (hu : us l i) : ∃ q, Pos (hm a b g.length (ky l i)) g (ky l i) q ∧ ¬ us g q ∧ Half a b l (g.set q (G l i)) (i + 1) := by
 have h1 := pw_le hr.1
 have hc := cnt_le (l.take i)
 rw [List.length_take] at hc
 have hlen := h.len
 have hmany := h.many
 obtain ⟨p, hp, hpu⟩ := free_ex (l := g) (by omega)
 obtain ⟨q, hq⟩ := pos_ex (H := hm a b g.length (ky l i)) (key := ky l i) (hm_lt (by omega) _) ⟨p, hp, fun h => absurd h hpu⟩
 have hqu : ¬ us g q := by
  intro hqu
  obtain ⟨i', h2, h3, h4⟩ := h.back q hq.1 hqu
  have hk : ky l i' = ky l i := by show (G l i').f1 = _; rw [h4]; exact hq.2.2 hqu
  have hu' : us l i' := by show (G l i').f0 = true; rw [h4]; exact hqu
  have := good_inj (by omega) hr.2.2.2 h3 hi hu' hu hk
  omega
 refine ⟨q, hq, hqu, ?_⟩
 exact {
  len := by rw [List.length_set]; exact hlen
  good := good_set h.good hq hu rfl
  many := by
   have := cnt_set hq.1 (G l i)
   rw [if_neg hqu, if_pos hu] at this
   rw [cnt_take hi, if_pos hu]
   omega
  back := fun j hj hju => by
   rw [List.length_set] at hj
   by_cases e : q = j
   ·subst e
    exact ⟨i, by omega, hi, (G_set_self hj).symm⟩
   ·have eG := G_set_ne (s := G l i) hq.1 e
    obtain ⟨i', h2, h3, h4⟩ := h.back j hj (by show (G g j).f0 = true; rw [← eG]; exact hju)
    exact ⟨i', by omega, h3, by rw [eG]; exact h4⟩
  there := fun i' h2 h3 hu' => by
   rcases Nat.lt_or_ge i' i with h4 | h4
   ·obtain ⟨j, hj, hG⟩ := h.there i' h4 h3 hu'
    have hne : q ≠ j := by
     rintro rfl
     exact hqu (by show (G g q).f0 = true; rw [hG]; exact hu')
    exact ⟨j, by rw [List.length_set]; exact hj, by rw [G_set_ne hq.1 hne]; exact hG⟩
   ·obtain rfl : i' = i := by omega
    exact ⟨q, by rw [List.length_set]; exact hq.1, G_set_self hq.1⟩
  zero := fun j hj hju => by
   rw [List.length_set] at hj
   by_cases e : q = j
   ·subst e
    exact absurd (by show (G (g.set q (G l i)) q).f0 = true; rw [G_set_self hj]; exact hu) hju
   ·have eG := G_set_ne (s := G l i) hq.1 e
    rw [eG]
    exact h.zero j hj (by intro h'; apply hju; show (G (g.set q (G l i)) j).f0 = true; rw [eG]; exact h') }
theorem grown_l0 (a b : Int) (l : List S60) (hr : Rt a b l) : ∀ m i g k, l.length = i + m → Half a b l g i → m + 10400 ≤ k →
  ∃ g', Half a b l g' l.length ∧ index_grown.l0 k l (l.length : Int) (i : Int) a b g = some (a, b, g') ∧
   ∀ (s : S60) (K : Nat), m + 10400 ≤ K → ∃ K', K = K' + m ∧ r12_Put.l0 K (i : Int) a b (l.map cv) s.f0 s.f1 s.f2 a b (g.map cv) = r12_Put.l0 K' (l.length : Int) a b (l.map cv) s.f0 s.f1 s.f2 a b (g'.map cv)
 | 0, i, g, k, hi, h, hk => by
  obtain ⟨k, rfl⟩ : ∃ k', k = k' + 1 := ⟨k - 1, by omega⟩
  obtain rfl : i = l.length := by omega
  refine ⟨g, h, ?_, fun s K hK => ⟨K, rfl, rfl⟩⟩
  unfold index_grown.l0
  rw [if_neg (by omega)]
 | m + 1, i, g, k, hi, h, hk => by
  obtain ⟨k, rfl⟩ : ∃ k', k = k' + 1 := ⟨k - 1, by omega⟩
  have h1 := pw_le hr.1
  by_cases hu : us l i
  ·obtain ⟨q, hq, hqu, h2⟩ := half_put hr h (by omega) hu
   obtain ⟨g', h3, h4, h5⟩ := grown_l0 a b l hr m (i + 1) (g.set q (G l i)) k (by omega) h2 (by omega)
   have hs : (ky l i).size ≤ 100 := by have := ((hr.2.2.1 i (by omega)).1 hu).1; show (G l i).f1.size ≤ 100; omega
   have hlen := h.len
   have hq1 := hq.1
   refine ⟨g', h3, ?_, fun s K hK => ?_⟩
   ·unfold index_grown.l0
    rw [if_pos (by omega), if_pos (by omega), if_pos (by omega), G_rd, if_pos hu, walk_eq a b g (ky l i) q (by omega) (by omega) hs hq k (by omega), Option.bind_some, if_pos (by simp only; omega), if_pos (by simp only; omega), inc (n := l.length) (by omega) (by omega)]
    exact h4
   ·obtain ⟨K, rfl⟩ : ∃ k', K = k' + 1 := ⟨K - 1, by omega⟩
    obtain ⟨K', e, h6⟩ := h5 s K (by omega)
    refine ⟨K', by omega, ?_⟩
    rw [← h6]
    conv => lhs; unfold r12_Put.l0
    rw [List.length_map, if_pos (by omega), if_pos (by omega), cv_rd, cv_f0, cv_f1, cv_f2, if_pos hu, lay_eq a b g (G l i) q (by omega) (by omega) hs (free_of_pos hq hqu) K (by omega), Option.bind_some, inc (n := l.length) (by omega) (by omega)]
  ·obtain ⟨g', h3, h4, h5⟩ := grown_l0 a b l hr m (i + 1) g k (by omega) (half_skip h (by omega) hu) (by omega)
   refine ⟨g', h3, ?_, fun s K hK => ?_⟩
   ·unfold index_grown.l0
    rw [if_pos (by omega), if_pos (by omega), if_pos (by omega), G_rd, if_neg hu, inc (n := l.length) (by omega) (by omega)]
    exact h4
   ·obtain ⟨K, rfl⟩ : ∃ k', K = k' + 1 := ⟨K - 1, by omega⟩
    obtain ⟨K', e, h6⟩ := h5 s K (by omega)
    refine ⟨K', by omega, ?_⟩
    rw [← h6]
    conv => lhs; unfold r12_Put.l0
    rw [List.length_map, if_pos (by omega), if_pos (by omega), cv_rd, cv_f0, if_neg hu, inc (n := l.length) (by omega) (by omega)]
theorem half_rt {a b : Int} {l g : List S60} (hr : Rt a b l) (hn : l.length ≠ 4096) (h : Half a b l g l.length) : Rt a b g := by
 have hlen := h.len
 have hmany := h.many
 rw [List.take_of_length_le (Nat.le_refl _)] at hmany
 have hc := hr.2.1
 refine ⟨by rw [hlen]; exact pw_twice hr.1 hn, by omega, fun j hj => ?_, h.good⟩
 by_cases hu : us g j
 ·obtain ⟨i', h1, h2, h3⟩ := h.back j hj hu
  rw [← h3]
  exact hr.2.2.1 i' h2
 ·rw [h.zero j hj hu]
  exact ⟨fun h => (by cases h), fun _ => ⟨nil_list, rfl⟩⟩
theorem half_in {a b : Int} {l g : List S60} (h : Half a b l g l.length) (key : ByteArray) : In g key ↔ In l key := by
 constructor
 ·rintro ⟨j, hj, hu, hk⟩
  obtain ⟨i', _, h2, h3⟩ := h.back j hj hu
  exact ⟨i', h2, by show (G l i').f0 = true; rw [h3]; exact hu, by show (G l i').f1 = key; rw [h3]; exact hk⟩
 ·rintro ⟨i, hi, hu, hk⟩
  obtain ⟨j, hj, hG⟩ := h.there i hi hi hu
  exact ⟨j, hj, by show (G g j).f0 = true; rw [hG]; exact hu, by show (G g j).f1 = key; rw [hG]; exact hk⟩
end Go.Proofs.Ytojpmjkphgjmgaa.Ix
