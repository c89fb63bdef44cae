/- Chapter 21 in plain Lean, part 2: labels in order, strata, and adding to them. -/
import Derived.Test.YtpbiobbddgipkaaHx4
import Derived.Test.YtpbiobbddgipkaaHx9
import Derived.Test.YtpbiobbddgipkaaHx10
import Derived.Test.YtpbiobbddgipkaaHx11
import Derived.Test.YtpbiobbddgipkaaHx13
import Derived.Test.YtpbiobbddgipkaaHx14
import Derived.Test.YtpbiobbddgipkaaHx12
import Derived.Test.YtpbiobbddgipkaaHx18
import Derived.Test.YtpbiobbddgipkaaSt1
set_option linter.unusedVariables false
set_option linter.unusedSimpArgs false
namespace Go.Proofs.Ytpbiobbddgipkaa.Bo
open Go.RowKit Go.Proofs.Ytpbiobbddgipkaa.H Go.Proofs.YtpbiobbddgipkaaW.PrintWords Go.Proofs.YtpbiobbddgipkaaW.PrintMore

theorem awake_eq (k : Nat) (hk : 60 ≤ k) : samphirelaw21_awake.f k = some true := by
  have h := samphirelaw21_awake.up (k - 60) 60 samphirelaw21_awake.atK
  rwa [show 60 + (k - 60) = k by omega] at h
theorem awake_bind (k : Nat) (hk : 60 ≤ k) : ((samphirelaw21_awake.f k).bind fun t => some t) = some true := by rw [awake_eq k hk]; rfl

/-! ### A label's place -/
def kk (n : ByteArray) (u : Int) : S87 := ⟨n, u, ⟨0, 0⟩⟩
def ky (x : S42) : S87 := kk x.f0 x.f1
/-- The list with x's place in it. -/
def insK (x : S87) : List S87 → List S87
  | [] => [x]
  | y :: l => if cp y x < 0 then y :: insK x l else if cp y x = 0 then x :: l else x :: y :: l
def insS (x : S42) : List S42 → List S42
  | [] => [x]
  | y :: l => if cp (ky y) (ky x) < 0 then y :: insS x l else if cp (ky y) (ky x) = 0 then x :: l else x :: y :: l
theorem insS_map (x : S42) : ∀ l, (insS x l).map ky = insK (ky x) (l.map ky)
  | [] => rfl
  | y :: l => by
    unfold insS
    rw [List.map_cons]
    unfold insK
    split
    · rw [List.map_cons, insS_map x l]
    · split <;> rfl
theorem insK_mem {x : S87} : ∀ {l : List S87} {z}, z ∈ insK x l → z ∈ l ∨ z = x
  | [], z, h => .inr (List.mem_singleton.1 h)
  | y :: l, z, h => by
    unfold insK at h
    split at h
    · rcases List.mem_cons.1 h with rfl | h
      · exact .inl (List.mem_cons_self ..)
      · exact (insK_mem h).imp (List.mem_cons_of_mem _) id
    · split at h
      · rcases List.mem_cons.1 h with h | h
        · exact .inr h
        · exact .inl (List.mem_cons_of_mem _ h)
      · rcases List.mem_cons.1 h with h | h
        · exact .inr h
        · exact .inl h
theorem insS_mem {x : S42} : ∀ {l : List S42} {z}, z ∈ insS x l → z ∈ l ∨ z = x
  | [], z, h => .inr (List.mem_singleton.1 h)
  | y :: l, z, h => by
    unfold insS at h
    split at h
    · rcases List.mem_cons.1 h with rfl | h
      · exact .inl (List.mem_cons_self ..)
      · exact (insS_mem h).imp (List.mem_cons_of_mem _) id
    · split at h
      · rcases List.mem_cons.1 h with h | h
        · exact .inr h
        · exact .inl (List.mem_cons_of_mem _ h)
      · rcases List.mem_cons.1 h with h | h
        · exact .inr h
        · exact .inl h
theorem insK_srt {x : S87} : ∀ {l : List S87}, Srt l → Srt (insK x l)
  | [], _ => List.pairwise_singleton _ _
  | y :: l, hs => by
    obtain ⟨h1, h2⟩ := List.pairwise_cons.1 hs
    unfold insK
    split
    · rename_i hy
      refine List.pairwise_cons.2 ⟨fun z hz => ?_, insK_srt h2⟩
      rcases insK_mem hz with h | h
      · exact h1 z h
      · rw [h]; exact hy
    · rename_i hy
      split
      · rename_i h0
        obtain ⟨e1, e0⟩ := (cp_zero y x).1 h0
        exact List.pairwise_cons.2 ⟨fun z hz => by rw [← (cp_like e1 e0 z).2]; exact h1 z hz, h2⟩
      · rename_i hy0
        have hxy : cp x y < 0 := by rw [cp_anti]; omega
        refine List.pairwise_cons.2 ⟨fun z hz => ?_, hs⟩
        rcases List.mem_cons.1 hz with rfl | hz
        · exact hxy
        · exact cp_trans hxy (h1 z hz)
theorem insK_take (x : S87) : ∀ (l : List S87) (n : Nat), (insK x (l.take n)).take n = (insK x l).take n
  | [], n => by rw [List.take_nil]
  | y :: l, 0 => by simp
  | y :: l, n + 1 => by
    rw [List.take_succ_cons]
    unfold insK
    split
    · rw [List.take_succ_cons, List.take_succ_cons, insK_take x l n]
    · split
      · rw [List.take_succ_cons, List.take_succ_cons, List.take_take, Nat.min_self]
      · rw [List.take_succ_cons, List.take_succ_cons]
        cases n with
        | zero => simp
        | succ n => rw [List.take_succ_cons, List.take_succ_cons, List.take_take, Nat.min_eq_left (Nat.le_succ n)]
theorem insS_new (x : S42) : ∀ l : List S42, hit (ky x) (l.map ky) = false → insS x l = l.take (pos (ky x) (l.map ky)) ++ [x] ++ l.drop (pos (ky x) (l.map ky))
  | [], _ => rfl
  | y :: l, h => by
    unfold insS
    rw [List.map_cons] at h ⊢
    unfold hit pos at h
    unfold pos
    split
    · rename_i hy
      rw [if_pos hy] at h
      rw [insS_new x l (by unfold hit; simpa using h)]
      rfl
    · rename_i hy
      rw [if_neg hy] at h
      have h0 : ¬ cp (ky y) (ky x) = 0 := by intro h0; simp [h0] at h
      rw [if_neg h0]
      rfl
theorem insS_old (x : S42) : ∀ l : List S42, hit (ky x) (l.map ky) = true → insS x l = l.set (pos (ky x) (l.map ky)) x
  | [], h => by unfold hit at h; simp at h
  | y :: l, h => by
    unfold insS
    rw [List.map_cons] at h ⊢
    unfold hit pos at h
    unfold pos
    split
    · rename_i hy
      rw [if_pos hy] at h
      rw [insS_old x l (by unfold hit; simpa using h)]
      rfl
    · rename_i hy
      rw [if_neg hy] at h
      have h0 : cp (ky y) (ky x) = 0 := by simpa using h
      rw [if_pos h0]
      rfl
theorem ky_get {l : List S42} {m : Nat} (h : m < l.length) : (l.map ky).getD m z87 = ky (l.getD m z42) := by
  rw [List.getD_eq_getElem?_getD, List.getD_eq_getElem?_getD, List.getElem?_map, List.getElem?_eq_getElem h]; rfl
theorem scompare_eq (k : Nat) (hk : 3 ≤ k) (n m : ByteArray) (u v p q r p' q' r' : Int) (l l' : List S87) : strata_compare.f k n u p q r l m v p' q' r' l' = some (cp (kk n u) (kk m v)) :=
  compare_eq (kk n u) (kk m v) k hk
theorem bsL_eq (l : List S42) (hl : l.length < 1000000) (hs : Srt (l.map ky)) (k : Nat) (hk : 3 ≤ k) (n : ByteArray) (u p q r : Int) (l1 : List S87) :
    strata_Label_42.f k l n u p q r l1 = some ((pos (kk n u) (l.map ky) : Int), hit (kk n u) (l.map ky)) := by
  unfold strata_Label_42.f
  rw [if_pos hl]
  unfold bsT
  have hp : ∀ y : S42, strataP k n u p q r l1 y = some (cp (ky y) (kk n u)) := fun y => scompare_eq k hk _ _ _ _ _ _ _ _ _ _ _ _
  have hle := pos_le (kk n u) (l.map ky)
  have hlm : (l.map ky).length = l.length := List.length_map ..
  have h := bsF_eq (strataP k n u p q r l1) l z42 (fun m => cp ((l.map ky).getD m z87) (kk n u)) (fun m hm => by rw [hp, ky_get hm]) (pos (kk n u) (l.map ky)) (pos_lo _ _) (fun m h1 h2 => pos_hi _ _ hs m h1 (by omega)) l.length 0 l.length (Nat.zero_le _) (by omega) (Nat.le_refl _) (by omega)
  rw [show ((0 : Nat) : Int) = 0 from rfl] at h
  rw [h, Option.bind_some]
  unfold hit
  by_cases hq : pos (kk n u) (l.map ky) < l.length
  · rw [if_pos (by omega), Int.toNat_natCast, hp, Option.bind_some, ← ky_get hq]
    simp [hq]
  · rw [if_neg (by omega)]
    simp [hq]

/-! ### Strata -/
def Lb (a b K : Int) (x : S42) : Prop := x.f0.size ≤ 64 ∧ x.f1 = H a b x.f0 ∧ Rt x.f2.f0.f0 x.f2.f0.f1 x.f2.f1 x.f2.f2 ∧ (x.f2.f0.f0 = a ∧ x.f2.f0.f1 = b) ∧ x.f2.f1 = K ∧ 0 < x.f2.f2.length
def St (a b L K : Int) (l : List S42) : Prop := (1 ≤ L ∧ L ≤ 64) ∧ (1 ≤ K ∧ K ≤ 1024) ∧ (l.length : Int) ≤ L ∧ (∀ x ∈ l, Lb a b K x) ∧ Srt (l.map ky)
theorem sound_eq (a b L K : Int) (l : List S42) (x : S42) (k : Nat) (hk : 1100 ≤ k) : strata_sound.f k a b L K l x.f0 x.f1 x.f2.f0.f0 x.f2.f0.f1 x.f2.f1 x.f2.f2 = some (yes (Lb a b K x)) := by
  have no : ∀ {P : Prop}, ¬ P → (Lb a b K x → P) → (some false : Option Bool) = some (yes (Lb a b K x)) := fun h1 h2 => by rw [yes_false (fun h => h1 (h2 h))]
  unfold strata_sound.f
  by_cases h1 : (x.f0.size : Int) ≤ 64
  · rw [if_pos h1, Sip.sum_eq a b x.f0 (by omega) k (by omega), Option.bind_some]
    by_cases h2 : x.f1 = Sip.sum a b x.f0.data.toList
    · rw [if_pos h2, right_eq _ _ _ _ k hk, Option.bind_some]
      by_cases h3 : Rt x.f2.f0.f0 x.f2.f0.f1 x.f2.f1 x.f2.f2
      · rw [if_pos (yes_true h3)]
        by_cases h4 : x.f2.f0.f0 = a ∧ x.f2.f0.f1 = b
        · rw [if_pos (by simp [h4.1, h4.2])]
          by_cases h5 : x.f2.f1 = K
          · rw [if_pos h5]
            by_cases h6 : 0 < x.f2.f2.length
            · rw [decide_eq_true (by omega), yes_true ⟨by omega, h2, h3, h4, h5, h6⟩]
            · rw [decide_eq_false (by omega), yes_false (fun h => h6 h.2.2.2.2.2)]
          · rw [if_neg h5]; exact no h5 (fun h => h.2.2.2.2.1)
        · rw [if_neg (by simpa using h4)]; exact no h4 (fun h => h.2.2.2.1)
      · rw [if_neg (by rw [yes_false h3]; decide)]; exact no h3 (fun h => h.2.2.1)
    · rw [if_neg h2]; exact no h2 (fun h => h.2.1)
  · rw [if_neg h1]; exact no (P := x.f0.size ≤ 64) (by omega) (fun h => h.1)
def GL (l : List S42) (i : Nat) : S42 := l.getD i z42
theorem GL_rd (l : List S42) (i : Nat) : rd_T42 l (i : Int) = GL l i := by show l.getD (i : Int).toNat z42 = _; rw [Int.toNat_natCast]; rfl
theorem GL_get {l : List S42} {i : Nat} (h : i < l.length) : GL l i = l[i] := by unfold GL; rw [List.getD_eq_getElem?_getD, List.getElem?_eq_getElem h]; rfl
theorem GL_ky {l : List S42} {i : Nat} (h : i < l.length) : ky (GL l i) = G (l.map ky) i := (ky_get h).symm
def SAdj (a b K : Int) (l : List S42) (i : Nat) : Prop := ∀ j, i ≤ j → j < l.length → Lb a b K (GL l j) ∧ (0 < j → cp (ky (GL l (j - 1))) (ky (GL l j)) < 0)
theorem sright_l0 (a b L K : Int) (l : List S42) (hn : l.length ≤ 64) : ∀ m k i, l.length = i + m → m + 1101 < k → strata_Right.l0 k l (l.length : Int) (i : Int) a b L K l = some (yes (SAdj a b K l i))
  | 0, k, i, hi, hk => by
    obtain ⟨k, rfl⟩ : ∃ k', k = k' + 1 := ⟨k - 1, by omega⟩
    unfold strata_Right.l0
    rw [if_neg (by omega), yes_true (P := SAdj a b K l i) (fun j h1 h2 => by omega)]
  | m + 1, k, i, hi, hk => by
    obtain ⟨k, rfl⟩ : ∃ k', k = k' + 1 := ⟨k - 1, by omega⟩
    have ih := sright_l0 a b L K l hn m k (i + 1) (by omega) (by omega)
    have hi' : i < l.length := by omega
    have no : ∀ {P : Prop}, ¬ P → (SAdj a b K l i → P) → (some false : Option Bool) = some (yes (SAdj a b K l i)) := fun h1 h2 => by rw [yes_false (fun h => h1 (h2 h))]
    unfold strata_Right.l0
    rw [if_pos (by omega), if_pos (by omega), if_pos (by omega), GL_rd, sound_eq a b L K l (GL l i) k (by omega), Option.bind_some]
    by_cases h1 : Lb a b K (GL l i)
    · rw [if_pos (yes_true h1)]
      have step : (0 < i → cp (ky (GL l (i - 1))) (ky (GL l i)) < 0) → some (yes (SAdj a b K l (i + 1))) = some (yes (SAdj a b K l i)) := fun hc => by
        congr 1
        apply yes_congr
        exact ⟨fun hh j h1' h2 => by rcases Nat.eq_or_lt_of_le h1' with e | e; exact e ▸ ⟨h1, hc⟩; exact hh j e h2, fun hh j h1 h2 => hh j (by omega) h2⟩
      rw [inc hi' (by omega), ih]
      by_cases h4 : i = 0
      · rw [if_neg (by omega)]
        exact step (fun h => by omega)
      · have e : wrap64 ((i : Int) - 1) = ((i - 1 : Nat) : Int) := by rw [w64 (by omega) (by omega)]; omega
        rw [if_pos (by omega), e, if_pos (by omega), if_pos (by omega), GL_rd, scompare_eq k (by omega), Option.bind_some]
        by_cases h5 : cp (ky (GL l (i - 1))) (ky (GL l i)) ≥ 0
        · exact (if_pos h5).trans (no (P := cp (ky (GL l (i - 1))) (ky (GL l i)) < 0) (by omega) (fun h => (h i (Nat.le_refl _) hi').2 (by omega)))
        · exact (if_neg h5).trans (step (fun _ => by omega))
    · rw [if_neg (by rw [yes_false h1]; decide)]
      exact no h1 (fun h => (h i (Nat.le_refl _) hi').1)
theorem st_adj (a b K : Int) (l : List S42) : SAdj a b K l 0 ↔ (∀ x ∈ l, Lb a b K x) ∧ Srt (l.map ky) := by
  constructor
  · intro h
    refine ⟨fun x hx => ?_, adj_srt _ (fun j h1 h2 => ?_)⟩
    · obtain ⟨j, hj, rfl⟩ := List.getElem_of_mem hx
      rw [← GL_get hj]
      exact (h j (Nat.zero_le _) hj).1
    · rw [List.length_map] at h2
      rw [← GL_ky h2, ← GL_ky (by omega)]
      exact (h j (Nat.zero_le _) h2).2 h1
  · rintro ⟨h1, h2⟩ j _ hj
    refine ⟨by rw [GL_get hj]; exact h1 _ (List.getElem_mem hj), fun h0 => ?_⟩
    have hm : (l.map ky).length = l.length := List.length_map ..
    rw [GL_ky hj, GL_ky (by omega), G_get (by omega), G_get (by omega)]
    exact List.pairwise_iff_getElem.1 h2 (j - 1) j (by omega) (by omega) (by omega)
theorem sNew_eq (a b L K : Int) (h : (1 ≤ L ∧ L ≤ 64) ∧ (1 ≤ K ∧ K ≤ 1024)) : strata_New.f a b L K = some (a, b, L, K, [], 0) := by
  unfold strata_New.f
  rw [if_neg (by omega), if_neg (by omega), if_neg (by omega), if_neg (by omega)]
theorem sNew_no (a b L K : Int) (h : ¬ ((1 ≤ L ∧ L ≤ 64) ∧ (1 ≤ K ∧ K ≤ 1024))) : strata_New.f a b L K = some (0, 0, 0, 0, [], 1) := by
  unfold strata_New.f
  split
  · rfl
  · split
    · rfl
    · split
      · rfl
      · split
        · rfl
        · exact absurd ⟨⟨by omega, by omega⟩, by omega, by omega⟩ h
theorem sRight_eq (a b L K : Int) (l : List S42) (k : Nat) (hk : 1200 ≤ k) : strata_Right.f k a b L K l = some (yes (St a b L K l)) := by
  obtain ⟨k, rfl⟩ : ∃ k', k = k' + 1 := ⟨k - 1, by omega⟩
  have no : ¬ St a b L K l → strata_Right.j0 (k + 1) true a b L K l = some (yes (St a b L K l)) := fun h => by rw [strata_Right.j0, if_pos rfl, yes_false h]
  unfold strata_Right.f
  by_cases h1 : (1 ≤ L ∧ L ≤ 64) ∧ (1 ≤ K ∧ K ≤ 1024)
  · rw [sNew_eq a b L K h1, Option.bind_some, if_pos rfl]
    by_cases h3 : (l.length : Int) > L
    · rw [decide_eq_true h3]
      exact no (fun h => by have := h.2.2.1; omega)
    · rw [decide_eq_false h3, strata_Right.j0, if_neg (by decide), show (0 : Int) = ((0 : Nat) : Int) from rfl, sright_l0 a b L K l (by omega) l.length k 0 (by omega) (by omega)]
      congr 1
      apply yes_congr
      rw [st_adj]
      exact ⟨fun h => ⟨h1.1, h1.2, by omega, h⟩, fun h => h.2.2.2⟩
  · rw [sNew_no a b L K h1, Option.bind_some, if_neg (by decide)]
    exact no (fun h => h1 ⟨h.1, h.2.1⟩)

/-! ### Finding, putting, adding -/
/-- The sample of a label, or none. -/
def fnd (x : S87) (l : List S42) : List S87 := if hit x (l.map ky) = true then (l.getD (pos x (l.map ky)) z42).f2.f2 else []
theorem hit_at {x : S87} {l : List S42} (h : hit x (l.map ky) = true) : pos x (l.map ky) < l.length ∧ (l.getD (pos x (l.map ky)) z42) ∈ l ∧ (l.getD (pos x (l.map ky)) z42).f0 = x.f0 ∧ (l.getD (pos x (l.map ky)) z42).f1 = x.f1 := by
  unfold hit at h
  simp only [Bool.and_eq_true, decide_eq_true_eq, List.length_map] at h
  obtain ⟨h1, h2⟩ := h
  rw [ky_get h1] at h2
  obtain ⟨e1, e0⟩ := (cp_zero _ _).1 h2
  refine ⟨h1, ?_, e0, e1⟩
  rw [List.getD_eq_getElem?_getD, List.getElem?_eq_getElem h1]
  exact List.getElem_mem h1
theorem fnd_like {a b K : Int} {x : S87} {l : List S42} (h : ∀ y ∈ l, Lb a b K y) (hK : 1 ≤ K ∧ K ≤ 1024) : Rt a b K (fnd x l) := by
  unfold fnd
  split
  · rename_i hh
    obtain ⟨h1, h2, h3, h4⟩ := hit_at hh
    have g := h _ h2
    have := g.2.2.1
    rwa [g.2.2.2.1.1, g.2.2.2.1.2, g.2.2.2.2.1] at this
  · exact ⟨hK, by simp only [List.length_nil]; omega, fun y hy => (by cases hy), List.Pairwise.nil⟩
def Rs (l : List S42) : Prop := ∀ x ∈ l, Rl x.f2.f2
theorem fnd_rl {x : S87} {l : List S42} (h : Rs l) : Rl (fnd x l) := by
  unfold fnd
  split
  · rename_i hh
    exact h _ (hit_at hh).2.1
  · intro y hy; cases hy
theorem sfind_eq {a b L K : Int} {l : List S42} (h : St a b L K l) (n : ByteArray) (hs : n.size ≤ 64) (k : Nat) (hk : 30 ≤ k) :
    strata_find.f k a b L K l n = some (n, H a b n, a, b, K, fnd (kk n (H a b n)) l, hit (kk n (H a b n)) (l.map ky)) := by
  have hl := h.2.2.1
  have hL := h.1.2
  unfold strata_find.f
  rw [Sip.sum_eq a b n (by omega) k (by omega), Option.bind_some, bsL_eq l (by omega) h.2.2.2.2 k (by omega), Option.bind_some]
  show (if hit (kk n (H a b n)) (l.map ky) = true then _ else _) = _
  unfold fnd
  by_cases hh : hit (kk n (H a b n)) (l.map ky) = true
  · obtain ⟨h1, h2, h3, h4⟩ := hit_at hh
    have g := h.2.2.2.1 _ h2
    rw [if_pos hh, if_pos hh, hh]
    show (if (0 : Int) ≤ (pos (kk n (H a b n)) (l.map ky) : Int) then (if (pos (kk n (H a b n)) (l.map ky) : Int) < (l.length : Int) then _ else _) else _) = _
    rw [if_pos (by omega), if_pos (by omega)]
    have e : rd_T42 l ((pos (kk n (Sip.sum a b n.data.toList)) (l.map ky) : Nat) : Int) = l.getD (pos (kk n (H a b n)) (l.map ky)) z42 := by show l.getD (_ : Int).toNat z42 = _; rw [Int.toNat_natCast]; rfl
    simp only [e]
    rw [h3, h4, g.2.2.2.1.1, g.2.2.2.1.2, g.2.2.2.2.1]
    rfl
  · rw [if_neg hh, if_neg hh, Bool.eq_false_iff.2 hh]
    rfl
theorem sput_eq (a b K : Int) (L : Nat) (l : List S42) (hl : l.length < 1000000) (hs : Srt (l.map ky)) (x : S42) (k : Nat) (hk : 3 ≤ k) :
    strata_put.f k a b (L : Int) K l x.f0 x.f1 x.f2.f0.f0 x.f2.f0.f1 x.f2.f1 x.f2.f2 = some (a, b, (L : Int), K, (insS x l).take L) := by
  have hle := pos_le (ky x) (l.map ky)
  rw [List.length_map] at hle
  have cut : ∀ m : List S42, strata_put.cut a b (L : Int) K m = some (a, b, (L : Int), K, m.take L) := fun m => by
    unfold strata_put.cut
    rw [if_pos (by omega)]
    congr 5
    rcases Nat.le_total m.length L with h | h
    · rw [show (min (m.length : Int) (L : Int)).toNat = m.length by omega, List.take_of_length_le (Nat.le_refl _), List.take_of_length_le h]
    · rw [show (min (m.length : Int) (L : Int)).toNat = L by omega]
  unfold strata_put.f
  rw [bsL_eq l hl hs k hk, Option.bind_some]
  show (if hit (ky x) (l.map ky) = true then (if 0 ≤ (pos (ky x) (l.map ky) : Int) ∧ (pos (ky x) (l.map ky) : Int) < (l.length : Int) then strata_put.cut a b (L : Int) K (l.set (pos (ky x) (l.map ky) : Int).toNat x) else none)
    else (if 0 ≤ (pos (ky x) (l.map ky) : Int) ∧ (pos (ky x) (l.map ky) : Int) ≤ (l.length : Int) then strata_put.cut a b (L : Int) K (l.take (pos (ky x) (l.map ky) : Int).toNat ++ [x] ++ l.drop (pos (ky x) (l.map ky) : Int).toNat) else none)) = _
  rw [Int.toNat_natCast]
  by_cases hh : hit (ky x) (l.map ky) = true
  · have h1 := (hit_at hh).1
    rw [if_pos hh, if_pos ⟨by omega, by omega⟩, cut, insS_old x l hh]
  · rw [if_neg hh, if_pos ⟨by omega, by omega⟩, cut, insS_new x l (Bool.eq_false_iff.2 hh)]
/-- A label with what it has. -/
def lab (a b K : Int) (n : ByteArray) (m : List S87) : S42 := ⟨n, H a b n, ⟨⟨a, b⟩, K, m⟩⟩
/-- What adding to strata answers. -/
def sres (a b : Int) (L K : Nat) (l : List S42) (n : ByteArray) : Option (List S87) → Int × Int × Int × Int × List S42 × Int
  | some m => (a, b, (L : Int), (K : Int), (insS (lab a b K n (m.take (K + 1))) l).take L, 0)
  | none => (a, b, (L : Int), (K : Int), l, 12)
theorem sAdd_eq {a b : Int} {L K : Nat} {l : List S42} (h : St a b L K l) (hr : Rs l) (n key : ByteArray) (c : Int) (hn : n.size ≤ 64) (hs : key.size ≤ 64) (h0 : 0 < c) (h1 : c ≤ 18446744073709551615) (k : Nat) (hk : 1200 ≤ k) :
    strata_Add.f k a b (L : Int) (K : Int) l n key c = some (sres a b L K l n (ins (en a b key c) (fnd (kk n (H a b n)) l))) := by
  have hl := h.2.2.1
  have hL := h.1.2
  unfold strata_Add.f
  rw [sRight_eq a b L K l k hk, Option.bind_some, if_pos (yes_true h), if_neg (by omega), sfind_eq h n hn k (by omega), Option.bind_some]
  simp only
  rw [Add_eq a b K _ (fnd_like h.2.2.2.1 h.2.1) (fnd_rl hr) key c hs h0 h1 k (by omega), Option.bind_some]
  cases ins (en a b key c) (fnd (kk n (H a b n)) l) with
  | none => rfl
  | some m =>
    simp only [res, sres]
    rw [if_pos trivial]
    have := sput_eq a b K L l (by omega) h.2.2.2.2 (lab a b K n (m.take (K + 1))) k (by omega)
    rw [show strata_put.f k a b (L : Int) (K : Int) l n (H a b n) a b (K : Int) (m.take (K + 1)) = _ from this, Option.bind_some]
theorem ins_some {x : S87} : ∀ {l m : List S87}, ins x l = some m → 0 < m.length
  | [], m, h => by injection h with h; subst h; exact Nat.zero_lt_one
  | y :: l, m, h => by
    unfold ins at h
    split at h
    · obtain ⟨m', h3, rfl⟩ := Option.map_eq_some_iff.1 h
      exact Nat.succ_pos _
    · split at h
      · obtain ⟨u, h3, rfl⟩ := Option.map_eq_some_iff.1 h
        exact Nat.succ_pos _
      · injection h with h
        subst h
        exact Nat.succ_pos _
theorem st_put {a b : Int} {L K : Nat} {l : List S42} (h : St a b L K l) (hr : Rs l) {x : S42} (hx : Lb a b K x) (hxr : Rl x.f2.f2) : St a b L K ((insS x l).take L) ∧ Rs ((insS x l).take L) := by
  refine ⟨⟨h.1, h.2.1, by rw [List.length_take]; omega, fun z hz => ?_, ?_⟩, fun z hz => ?_⟩
  · rcases insS_mem (List.mem_of_mem_take hz) with h1 | h1
    · exact h.2.2.2.1 z h1
    · rw [h1]; exact hx
  · rw [List.map_take, insS_map]
    exact List.Pairwise.sublist (List.take_sublist _ _) (insK_srt h.2.2.2.2)
  · rcases insS_mem (List.mem_of_mem_take hz) with h1 | h1
    · exact hr z h1
    · rw [h1]; exact hxr
theorem lab_f0 (a b K : Int) (n : ByteArray) (m : List S87) : (lab a b K n m).f0 = n := rfl
theorem lab_f1 (a b K : Int) (n : ByteArray) (m : List S87) : (lab a b K n m).f1 = H a b n := rfl
theorem lab_f2 (a b K : Int) (n : ByteArray) (m : List S87) : (lab a b K n m).f2 = ⟨⟨a, b⟩, K, m⟩ := rfl
theorem lab_ok {a b : Int} {L K : Nat} {l : List S42} (h : St a b L K l) (hr : Rs l) {n key : ByteArray} {c : Int} (hn : n.size ≤ 64) (hs : key.size ≤ 64) (h0 : 0 < c) (h1 : c ≤ 18446744073709551615) {m : List S87} (hm : ins (en a b key c) (fnd (kk n (H a b n)) l) = some m) :
    Lb a b K (lab a b K n (m.take (K + 1))) ∧ Rl (lab a b K n (m.take (K + 1))).f2.f2 := by
  obtain ⟨g1, g2⟩ := rt_ins (fnd_like h.2.2.2.1 h.2.1) (fnd_rl hr) (en_ge hs h0) (en_rng (by omega) h1) hm
  have := ins_some hm
  unfold Lb
  rw [lab_f0, lab_f1, lab_f2]
  exact ⟨⟨hn, Eq.refl _, g1, ⟨Eq.refl _, Eq.refl _⟩, Eq.refl _, by simp only [List.length_take]; omega⟩, g2⟩
end Go.Proofs.Ytpbiobbddgipkaa.Bo
