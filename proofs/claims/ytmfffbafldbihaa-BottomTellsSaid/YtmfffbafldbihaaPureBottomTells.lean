import Derived.Test.YtmfffbafldbihaaHx29
import Derived.Test.YtmfffbafldbihaaHx13
import Derived.Test.YtmfffbafldbihaaHx28
import Derived.Test.YtmfffbafldbihaaHqBottomTells
import Derived.Test.YtmfffbafldbihaaBo
set_option linter.unusedVariables false
set_option linter.unusedSimpArgs false
namespace Go.Proofs.Ytmfffbafldbihaa.Pure
open Go.RowKit Go.Proofs.Ytmfffbafldbihaa.H Go.Proofs.YtmfffbafldbihaaW.PrintWords Go.Proofs.YtmfffbafldbihaaW.PrintMore Go.Proofs.Ytmfffbafldbihaa.Bo
theorem mn_eq (a b : Int) : mn a b = min a b := by unfold mn; split <;> omega
theorem take_min (l : List S62) (n : Nat) : l.take (min (l.length : Int) (n : Int)).toNat = l.take n := by
 rcases Nat.le_total l.length n with h | h
 ·rw [show (min (l.length : Int) (n : Int)).toNat = l.length by omega, List.take_of_length_le (Nat.le_refl _), List.take_of_length_le h]
 ·rw [show (min (l.length : Int) (n : Int)).toNat = n by omega]
theorem Cut_eq (a b : Int) (K : Nat) (l : List S62) (h : Rt a b K l) (c : Nat) (h1 : 1 ≤ c) (h2 : c ≤ K) (k : Nat) (hk : 1100 ≤ k) : bottom_Cut.f k a b (K : Int) l (c : Int) = some (a, b, (c : Int), l.take (c + 1), 0) := by
 have hK := h.1.2
 have hl := h.2.1
 unfold bottom_Cut.f
 rw [right_eq a b K l k hk, Option.bind_some, if_pos (yes_true h), if_neg (by omega), if_neg (by omega), w64 (by omega) (by omega), mn_eq, if_pos (by omega), if_pos (by omega)]
 unfold bottom_Entry_32.f
 have e := take_min l (c + 1)
 rw [show ((c : Int) + 1) = ((c + 1 : Nat) : Int) from rfl, e, if_pos (by rw [List.length_take]; omega), Option.bind_some]
theorem Cut_no (a b K : Int) (l : List S62) (c : Int) (h : ¬ (Rt a b K l ∧ 1 ≤ c ∧ c ≤ K)) (k : Nat) (hk : 1100 ≤ k) : bottom_Cut.f k a b K l c = some (0, 0, 0, [], 1) := by
 unfold bottom_Cut.f
 rw [right_eq a b K l k hk, Option.bind_some]
 by_cases hr : Rt a b K l
 ·rw [if_pos (yes_true hr)]
  by_cases h1 : c < 1
  ·rw [if_pos h1]
  ·rw [if_neg h1, if_pos]
   apply Classical.byContradiction
   intro h2
   exact h ⟨hr, by omega, by omega⟩
 ·rw [if_neg (by rw [yes_false hr]; decide)]
theorem Add_bad (a b K : Int) (l : List S62) (h : ¬ Rt a b K l) (key : ByteArray) (n : Int) (k : Nat) (hk : 1100 ≤ k) : bottom_Add.f k a b K l key n = some (a, b, K, l, 1) := by
 unfold bottom_Add.f
 rw [right_eq a b K l k hk, Option.bind_some, if_neg (by rw [yes_false h]; decide)]
theorem Add_long (a b K : Int) (l : List S62) (h : Rt a b K l) (key : ByteArray) (n : Int) (hs : (key.size : Int) > 64) (k : Nat) (hk : 1100 ≤ k) : bottom_Add.f k a b K l key n = some (a, b, K, l, 5) := by
 unfold bottom_Add.f
 rw [right_eq a b K l k hk, Option.bind_some, if_pos (yes_true h), if_pos hs]
theorem Add_zero (a b K : Int) (l : List S62) (h : Rt a b K l) (key : ByteArray) (hs : ¬ (key.size : Int) > 64) (k : Nat) (hk : 1100 ≤ k) : bottom_Add.f k a b K l key 0 = some (a, b, K, l, 7) := by
 unfold bottom_Add.f
 rw [right_eq a b K l k hk, Option.bind_some, if_pos (yes_true h), if_neg hs, if_pos rfl]
theorem Thr_bad (a b K : Int) (l : List S62) (h : ¬ Rt a b K l) (k : Nat) (hk : 1100 ≤ k) : bottom_Threshold.f k a b K l = some (0, false) := by
 unfold bottom_Threshold.f
 rw [right_eq a b K l k hk, Option.bind_some, if_neg (by rw [yes_false h]; decide)]
theorem Thr_eq (a b : Int) (K : Nat) (l : List S62) (h : Rt a b K l) (k : Nat) (hk : 1100 ≤ k) : bottom_Threshold.f k a b (K : Int) l = some (if l.length = K + 1 then ((G l K).f1, true) else (0, false)) := by
 have hl := h.2.1
 unfold bottom_Threshold.f
 rw [right_eq a b K l k hk, Option.bind_some, if_pos (yes_true h)]
 by_cases h1 : l.length = K + 1
 ·rw [if_neg (by omega), if_pos (by omega), if_pos (by omega), if_pos h1, G_rd]
 ·rw [if_pos (by omega), if_neg h1]
def gst : Option S62 → Int × Int × Bool
 | some y => (y.f2.f0, y.f2.f1, true)
 | none => (0, 0, false)
noncomputable def look (key : ByteArray) (l : List S62) : Option S62 := l.find? fun y => yes (y.f0 = key)
theorem get_l0 (key : ByteArray) (l : List S62) (hn : l.length ≤ 5000) : ∀ m k i, l.length = i + m → m < k → bottom_Get.l0 k key l (l.length : Int) (i : Int) = some (gst (look key (l.drop i)))
 | 0, k, i, hi, hk => by
  obtain ⟨k, rfl⟩ : ∃ k', k = k' + 1 := ⟨k - 1, by omega⟩
  unfold bottom_Get.l0
  rw [if_neg (by omega), List.drop_eq_nil_of_le (by omega)]
  rfl
 | m + 1, k, i, hi, hk => by
  obtain ⟨k, rfl⟩ : ∃ k', k = k' + 1 := ⟨k - 1, by omega⟩
  have hi' : i < l.length := by omega
  unfold bottom_Get.l0
  rw [if_pos (by omega), if_pos (by omega), if_pos (by omega), G_rd, G_get hi', List.drop_eq_getElem_cons hi']
  unfold look
  rw [List.find?_cons]
  by_cases h : l[i].f0 = key
  ·rw [if_pos ((list_iff _ _).2 h), yes_true h]
   rfl
  ·rw [if_neg (fun hh => h ((list_iff _ _).1 hh)), yes_false h, inc (show i < 5000 by omega) (by omega)]
   exact get_l0 key l hn m k (i + 1) (by omega) (by omega)
theorem Get_bad (a b K : Int) (l : List S62) (h : ¬ Rt a b K l) (key : ByteArray) (k : Nat) (hk : 1100 ≤ k) : bottom_Get.f k a b K l key = some (0, 0, false) := by
 unfold bottom_Get.f
 rw [right_eq a b K l k hk, Option.bind_some, if_neg (by rw [yes_false h]; decide)]
theorem Get_eq (a b : Int) (K : Nat) (l : List S62) (h : Rt a b K l) (key : ByteArray) (k : Nat) (hk : 6000 ≤ k) : bottom_Get.f k a b (K : Int) l key = some (gst (look key (l.take K))) := by
 have hl := h.2.1
 have hK := h.1.2
 unfold bottom_Get.f
 rw [right_eq a b K l k (by omega), Option.bind_some, if_pos (yes_true h), mn_eq, if_pos (by omega), if_pos (by omega), Option.bind_some, take_min]
 have := get_l0 key (l.take K) (by rw [List.length_take]; omega) (l.take K).length k 0 (by omega) (by rw [List.length_take]; omega)
 exact this
theorem look_step {a b : Int} {K : Nat} {l : List S62} (h : Rt a b K l) (key : ByteArray) {i : Nat} (hi : i < l.length) (hK : i < K) : look key (l.take (min (i + 1) K)) = if l[i].f0 = key then some l[i] else look key (l.take (min i K)) := by
 rw [show min (i + 1) K = i + 1 by omega, show min i K = i by omega]
 unfold look
 rw [List.take_add_one, List.getElem?_eq_getElem hi, List.find?_append]
 by_cases hk : l[i].f0 = key
 ·rw [if_pos hk]
  have e : (l.take i).find? (fun y => yes (y.f0 = key)) = none := by
   rw [List.find?_eq_none]
   intro y hy hyk
   have hyk' := yes_iff.1 hyk
   obtain ⟨j, hj, rfl⟩ := List.getElem_of_mem hy
   rw [List.length_take] at hj
   rw [List.getElem_take] at hyk'
   have hc := List.pairwise_iff_getElem.1 h.2.2.2 j i (by omega) hi (by omega)
   have g1 := (h.2.2.1 _ (List.getElem_mem (show j < l.length by omega))).2.1
   have g2 := (h.2.2.1 _ (List.getElem_mem hi)).2.1
   have : cp l[j] l[i] = 0 := (cp_zero _ _).2 ⟨by rw [g1, g2, hyk', hk], by rw [hyk', hk]⟩
   omega
  rw [e]
  simp [List.find?_cons, yes_true hk]
 ·rw [if_neg hk]
  simp [List.find?_cons, yes_false hk]
theorem look_stay (key : ByteArray) (l : List S62) {i K : Nat} (hK : ¬ i < K) : look key (l.take (min (i + 1) K)) = look key (l.take (min i K)) := by
 rw [show min (i + 1) K = K by omega, show min i K = K by omega]
theorem ok_len {l : List S62} (h : Ok25 l) : l.length < 3518437208883 := by have := h.1; omega
theorem ok_rl {l : List S62} (h : Ok25 l) : Rl l := fun y hy => by
 obtain ⟨⟨p1, p2⟩, p3, p4⟩ := (h.2 y hy).2.2
 exact ⟨⟨p1, by omega⟩, p3, by omega⟩
theorem self_same (a b K : Int) (l : List S62) (hl : l.length ≤ 9000) (k : Nat) (hk : 9001 ≤ k) : l14_same.f k a b K l a b K (l.map cv) = some true := by
 rw [same_eq a b K a b K l _ hl k hk, yes_true ⟨⟨rfl, rfl⟩, rfl, rfl⟩]
theorem none_same (k : Nat) (hk : 9001 ≤ k) : l14_same.f k 0 0 0 [] 0 0 0 ([] : List S60) = some true := by
 rw [same_eq 0 0 0 0 0 0 [] [] (Nat.zero_le _) k hk, yes_true ⟨⟨rfl, rfl⟩, rfl, rfl⟩]
theorem j4_eq (a b : Int) (K : Nat) (l : List S62) (h : Rt a b K l) (hr : Rl l) (hsm : Small l) (key : ByteArray) (n : Int) (h0 : 0 ≤ n) (h1 : n ≤ 18446744073709551615) (k : Nat) (hk : 200000 ≤ k) (p q r : Int) (L : List S62) (e : Int) (k2 : Nat) (hk2 : 1100 ≤ k2) (hA : bottom_Add.f k2 a b (K : Int) l key n = some (p, q, r, L, e)) :
  l14_BottomTells.j4 (k + 1) key n e false a b (K : Int) l a b (K : Int) (l.map cv) p q r L = some true := by
 have aw := awake_bind k (by omega)
 have hl : l.length ≤ 9000 := by have := hsm.1; omega
 have hK := h.1.2
 rw [l14_BottomTells.j4]
 rw [if_neg (by decide)]
 by_cases hs : (key.size : Int) > 64
 ·rw [Add_long a b K l h key n hs k2 hk2] at hA
  injection hA with hA
  simp only [Prod.mk.injEq] at hA
  obtain ⟨rfl, rfl, rfl, rfl, rfl⟩ := hA
  rw [if_pos hs, if_pos rfl, self_same a b K l hl k (by omega), Option.bind_some, if_pos rfl, aw]
 ·rw [if_neg hs]
  by_cases hn : n = 0
  ·subst hn
   rw [Add_zero a b K l h key hs k2 hk2] at hA
   injection hA with hA
   simp only [Prod.mk.injEq] at hA
   obtain ⟨rfl, rfl, rfl, rfl, rfl⟩ := hA
   rw [if_pos rfl, if_pos rfl, self_same a b K l hl k (by omega), Option.bind_some, if_pos rfl, aw]
  ·rw [if_neg hn]
   unfold wide_Of.f
   rw [Option.bind_some]
   rw [Add_eq a b K l h hr key n (by omega) (by omega) h1 k2 hk2] at hA
   have ew : wrap64 ((K : Int) + 1) = ((K + 1 : Nat) : Int) := by rw [w64 (by omega) (by omega)]; rfl
   have hj : r14_Joined.f k a b (l.map cv) [⟨key, 0, ⟨0, n⟩⟩] ((K + 1 : Nat) : Int) = match ins (en a b key n) l with | some r => some ((r.take (K + 1)).map cv, true) | none => some ([], false) := by
    rw [joined_eq a b (l.map cv) [⟨key, 0, ⟨0, n⟩⟩] (K + 1) (by rw [List.length_map]; have := hsm.1; simp only [List.length_singleton]; omega) (fun y hy => by
     rcases List.mem_append.1 hy with hy | hy
     ·obtain ⟨z, hz, rfl⟩ := List.mem_map.1 hy
      exact ⟨hsm.2 z hz, hr z hz⟩
     ·rw [List.mem_singleton.1 hy]
      exact ⟨by show key.size ≤ 100; omega, ⟨by show (0 : Int) ≤ 0; omega, by show (0 : Int) < _; omega⟩, h0, by show n < _; omega⟩) k (by rw [List.length_map]; have := hsm.1; simp only [List.length_singleton]; omega)]
    rw [List.map_append, ent_cv (fun y hy => (h.2.2.1 y hy).2.1), mdl_append, mdl_srt l [] (by rw [List.nil_append]; exact h.2.2.2), Option.bind_some, List.nil_append]
    show (match mdl l [en a b key n] with | some r => some ((r.take (K + 1)).map cv, true) | none => some ([], false)) = _
    rw [mdl]
    cases ins (en a b key n) l with
    | none => rfl
    | some m => rfl
   simp only
   rw [ew, hj]
   cases hi : ins (en a b key n) l with
   | none =>
    rw [hi] at hA
    simp only [res] at hA
    injection hA with hA
    simp only [Prod.mk.injEq] at hA
    obtain ⟨rfl, rfl, rfl, rfl, rfl⟩ := hA
    rw [Option.bind_some, if_neg (by decide), if_pos rfl, self_same a b K l hl k (by omega), Option.bind_some, if_pos rfl, aw]
   | some m =>
    rw [hi] at hA
    simp only [res] at hA
    injection hA with hA
    simp only [Prod.mk.injEq] at hA
    obtain ⟨rfl, rfl, rfl, rfl, rfl⟩ := hA
    simp only [Option.bind_some]
    rw [if_pos trivial, if_pos trivial, self_same a b K _ (by rw [List.length_take]; omega) k (by omega), Option.bind_some, if_pos rfl, aw]
theorem l0_eq (a b : Int) (K : Nat) (l : List S62) (h : Rt a b K l) (hr : Rl l) (hsm : Small l) (key : ByteArray) (n : Int) (h0 : 0 ≤ n) (h1 : n ≤ 18446744073709551615) (p q r : Int) (L : List S62) (e : Int) (k2 : Nat) (hk2 : 1100 ≤ k2) (hA : bottom_Add.f k2 a b (K : Int) l key n = some (p, q, r, L, e)) (t : Int) (is : Bool) (hT : (t, is) = if l.length = K + 1 then ((G l K).f1, true) else (0, false)) :
  ∀ m k i, l.length = i + m → 200010 + m ≤ k → l14_BottomTells.l0 k key n e (gst (look key (l.take K))).2.2 t is (gst (look key (l.take (min i K)))).2.2 (l.map cv) ((l.map cv).length : Int) (i : Int) a b (K : Int) l a b (K : Int) (l.map cv) p q r L (gst (look key (l.take K))).1 (gst (look key (l.take K))).2.1 (gst (look key (l.take (min i K)))).1 (gst (look key (l.take (min i K)))).2.1 = some true
 | 0, k, i, hi, hk => by
  obtain ⟨k, rfl⟩ : ∃ k', k = k' + 1 + 1 := ⟨k - 2, by omega⟩
  have hl := h.2.1
  have hK := h.1.2
  have et : l.take (min i K) = l.take K := by
   rcases Nat.le_total i K with h3 | h3
   ·rw [show min i K = i by omega, List.take_of_length_le (by omega), List.take_of_length_le (by omega)]
   ·rw [show min i K = K by omega]
  have fin : l14_BottomTells.j4 (k + 1) key n e false a b (K : Int) l a b (K : Int) (l.map cv) p q r L = some true := j4_eq a b K l h hr hsm key n h0 h1 k (by omega) p q r L e k2 hk2 hA
  have ew : wrap64 ((K : Int) + 1) = ((K : Int) + 1) := w64 (by omega) (by omega)
  unfold l14_BottomTells.l0
  rw [et, List.length_map, if_neg (by omega), if_neg (by simp), if_neg (by simp), ew]
  by_cases hc : l.length = K + 1
  ·rw [if_pos hc] at hT
   injection hT with t1 t2
   subst t1 t2
   rw [if_neg (by rw [show ((l.length : Int) == (K : Int) + 1) = true from beq_iff_eq.2 (by omega)]; decide), if_pos rfl, if_pos (by omega), if_pos (by omega), D_rd, D_map (by omega), if_pos (show (G l K).f1 = (cv (G l K)).f1 from rfl), right_eq a b K l (k + 1) (by omega), Option.bind_some, yes_true h]
   exact fin
  ·rw [if_neg hc] at hT
   injection hT with t1 t2
   subst t1 t2
   rw [if_neg (by rw [show ((l.length : Int) == (K : Int) + 1) = false from beq_eq_false_iff_ne.2 (by omega)]; decide), if_neg (by decide), if_pos rfl, right_eq a b K l (k + 1) (by omega), Option.bind_some, yes_true h]
   exact fin
 | m + 1, k, i, hi, hk => by
  obtain ⟨k, rfl⟩ : ∃ k', k = k' + 1 := ⟨k - 1, by omega⟩
  have hi' : i < l.length := by omega
  have hl := h.2.1
  have hK := h.1.2
  have ih := l0_eq a b K l h hr hsm key n h0 h1 p q r L e k2 hk2 hA t is hT m k (i + 1) (by omega) (by omega)
  have hlm : (l.map cv).length = l.length := List.length_map ..
  unfold l14_BottomTells.l0
  rw [if_pos (by omega), if_pos (by omega), if_pos (by omega), D_rd, D_map hi', G_get hi', inc (show i < 1026 by omega) (by omega)]
  by_cases hk' : l[i].f0 = key
  ·rw [if_pos (show (cv l[i]).f0.toList = key.toList from (list_iff _ _).2 hk')]
   by_cases hiK : i < K
   ·rw [if_pos (by omega)]
    rw [look_step h key hi' hiK, if_pos hk'] at ih
    exact ih
   ·rw [if_neg (by omega)]
    rw [look_stay key l hiK] at ih
    exact ih
  ·rw [if_neg (show ¬ (cv l[i]).f0.toList = key.toList from fun hh => hk' ((list_iff _ _).1 hh))]
   by_cases hiK : i < K
   ·rw [look_step h key hi' hiK, if_neg hk'] at ih
    exact ih
   ·rw [look_stay key l hiK] at ih
    exact ih
theorem tells_main (a b K : Int) (l : List S62) (hr : Rl l) (hsm : Small l) (key : ByteArray) (n : Int) (h0 : 0 ≤ n) (h1 : n ≤ 18446744073709551615) (c : Int) (hc0 : -9223372036854775808 ≤ c) (hc1 : c ≤ 9223372036854775807) (k : Nat) (hk : 300000 ≤ k) :
  l14_BottomTells.j0 (k + 3) key n c false a b K l a b K (l.map cv) = some true := by
 have hl : l.length ≤ 9000 := by have := hsm.1; omega
 rw [l14_BottomTells.j0]
 rw [if_neg (by decide)]
 by_cases h : Rt a b K l
 ·obtain ⟨K, rfl⟩ := Int.eq_ofNat_of_zero_le (show 0 ≤ K by have := h.1.1; omega)
  have hK := h.1.2
  have hA : ∃ p q r L e, bottom_Add.f (k + 2) a b (K : Int) l key n = some (p, q, r, L, e) := by
   by_cases hs : (key.size : Int) > 64
   ·exact ⟨_, _, _, _, _, Add_long a b K l h key n hs (k + 2) (by omega)⟩
   ·by_cases hn : n = 0
    ·exact ⟨_, _, _, _, _, by rw [hn]; exact Add_zero a b K l h key hs (k + 2) (by omega)⟩
    ·exact ⟨_, _, _, _, _, Add_eq a b K l h hr key n (by omega) (by omega) h1 (k + 2) (by omega)⟩
  obtain ⟨p, q, r, L, e, hA⟩ := hA
  have j2 : l14_BottomTells.j2 (k + 1) key n e (gst (look key (l.take K))).2.2 (if l.length = K + 1 then ((G l K).f1, true) else (0, false)).1 (if l.length = K + 1 then ((G l K).f1, true) else (0, false)).2 a b (K : Int) l a b (K : Int) (l.map cv) p q r L (gst (look key (l.take K))).1 (gst (look key (l.take K))).2.1 = some true := by
   rw [l14_BottomTells.j2]
   have := l0_eq a b K l h hr hsm key n h0 h1 p q r L e (k + 2) (by omega) hA _ _ rfl l.length k 0 (by omega) (by have := hsm.1; omega)
   rw [Nat.zero_min, List.take_zero] at this
   exact this
  rw [hA, Option.bind_some]
  simp only
  by_cases hc : 1 ≤ c ∧ c ≤ K
  ·obtain ⟨c, rfl⟩ := Int.eq_ofNat_of_zero_le (show 0 ≤ c by omega)
   rw [Cut_eq a b K l h c (by omega) (by omega) (k + 2) (by omega), Option.bind_some, Get_eq a b K l h key (k + 2) (by omega), Option.bind_some, Thr_eq a b K l h (k + 2) (by omega), Option.bind_some, rright_eq a b K l (k + 2) (by omega), Option.bind_some, if_pos (yes_true h), if_neg (by omega), decide_eq_false (by omega)]
   rw [l14_BottomTells.j1]
   have ew : wrap64 ((c : Int) + 1) = ((c + 1 : Nat) : Int) := by rw [w64 (by omega) (by omega)]; rfl
   have em : (l.map cv).take (min ((l.map cv).length : Int) ((c + 1 : Nat) : Int)).toNat = (l.take (c + 1)).map cv := by
    rw [List.length_map, ← List.map_take, take_min]
   have hml : ((l.map cv).length : Int) = l.length := by rw [List.length_map]
   simp only
   rw [if_neg (by decide), if_pos trivial, ew, mn_eq, if_pos (by omega), if_pos (by omega), em, self_same a b c (l.take (c + 1)) (by rw [List.length_take]; omega) (k + 1) (by omega), Option.bind_some, if_pos rfl]
   exact j2
  ·rw [Cut_no a b K l c (fun hh => hc hh.2) (k + 2) (by omega), Option.bind_some, Get_eq a b K l h key (k + 2) (by omega), Option.bind_some, Thr_eq a b K l h (k + 2) (by omega), Option.bind_some, rright_eq a b K l (k + 2) (by omega), Option.bind_some, if_pos (yes_true h)]
   have j1 : l14_BottomTells.j1 (k + 2) key n c e 1 (gst (look key (l.take K))).2.2 (if l.length = K + 1 then ((G l K).f1, true) else (0, false)).1 (if l.length = K + 1 then ((G l K).f1, true) else (0, false)).2 true a b (K : Int) l a b (K : Int) (l.map cv) p q r L 0 0 0 [] (gst (look key (l.take K))).1 (gst (look key (l.take K))).2.1 = some true := by
    rw [l14_BottomTells.j1]
    rw [if_pos rfl, if_pos rfl, none_same (k + 1) (by omega), Option.bind_some, if_pos rfl]
    exact j2
   by_cases h2 : c < 1
   ·rw [if_pos h2]
    exact j1
   ·rw [if_neg h2, decide_eq_true (by omega)]
    exact j1
 ·rw [Add_bad a b K l h key n (k + 2) (by omega), Option.bind_some, Cut_no a b K l c (fun hh => h hh.1) (k + 2) (by omega), Option.bind_some, Get_bad a b K l h key (k + 2) (by omega), Option.bind_some, Thr_bad a b K l h (k + 2) (by omega), Option.bind_some, rright_eq a b K l (k + 2) (by omega), Option.bind_some, if_neg (by rw [yes_false h]; decide), right_eq a b K l (k + 2) (by omega), Option.bind_some, if_neg (by rw [yes_false h]; decide)]
  simp only
  rw [if_pos trivial, self_same a b K l hl (k + 2) (by omega), Option.bind_some, if_pos rfl, if_pos trivial, none_same (k + 2) (by omega), Option.bind_some, if_pos rfl, if_pos (by decide), if_neg (by decide), if_pos trivial, if_neg (by decide), awake_bind _ (by omega)]
theorem BottomTells : l14_BottomTells.Pure := by
 intro x key n c hx hk hn hc
 obtain ⟨⟨a, b⟩, K, l⟩ := x
 have hlen := ok_len hx.2.2
 have hr := ok_rl hx.2.2
 simp only at hlen hr
 refine ⟨l.length + 300003, ?_⟩
 simp only
 obtain ⟨k, hk'⟩ : ∃ k, k = l.length + 300000 := ⟨_, rfl⟩
 rw [show l.length + 300003 = k + 3 by omega]
 unfold l14_BottomTells.f
 rw [ref_eq a b K l hlen (k + 3) (by omega), Option.bind_some]
 simp only
 rw [small_eq a b K l (k + 3) (by omega), Option.bind_some]
 have aw : ∀ d, d = true → l14_BottomTells.j0 (k + 3) key n c d a b K l a b K (l.map cv) = some true := fun d hd => by
  rw [l14_BottomTells.j0]
  rw [if_pos hd, awake_bind _ (by omega)]
 by_cases hsm : Small l
 ·rw [if_pos (yes_true hsm)]
  by_cases hs : (key.size : Int) > 100
  ·exact aw _ (decide_eq_true hs)
  ·rw [decide_eq_false hs]
   exact tells_main a b K l hr hsm key n hn.1 hn.2 c hc.1 hc.2 k (by omega)
 ·rw [if_neg (by rw [yes_false hsm]; decide)]
  exact aw true rfl
end Go.Proofs.Ytmfffbafldbihaa.Pure
