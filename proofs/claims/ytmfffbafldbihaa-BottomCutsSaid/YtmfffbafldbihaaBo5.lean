/- Chapter 14 in plain Lean, part 5: merging. -/
import Derived.Test.YtmfffbafldbihaaHx12
import Derived.Test.YtmfffbafldbihaaHx11
import Derived.Test.YtmfffbafldbihaaBm
set_option linter.unusedVariables false
set_option linter.unusedSimpArgs false
namespace Go.Proofs.Ytmfffbafldbihaa.Bo
open Go.RowKit Go.Proofs.Ytmfffbafldbihaa.H Go.Proofs.YtmfffbafldbihaaW.PrintWords Go.Proofs.YtmfffbafldbihaaW.PrintMore

/-- Laid in one behind the other, with a cut behind each. -/
def mrg (N : Nat) : List S62 → List S62 → Option (List S62)
  | l, [] => some l
  | l, x :: es => (ins x l).bind fun m => mrg N (m.take N) es
theorem ins_take {x : S62} : ∀ {l m : List S62} (N : Nat), ins x l = some m → ∃ m', ins x (l.take N) = some m' ∧ m'.take N = m.take N
  | l, m, 0, _ => by
    rw [List.take_zero]
    exact ⟨[x], rfl, by simp⟩
  | [], m, N + 1, h => by
    rw [List.take_nil]
    exact ⟨m, h, rfl⟩
  | y :: l, m, N + 1, h => by
    rw [ins_cons] at h
    rw [List.take_succ_cons, ins_cons]
    split at h
    · rename_i hy
      rw [if_pos hy]
      obtain ⟨m1, h1, rfl⟩ := Option.map_eq_some_iff.1 h
      obtain ⟨m', h2, h3⟩ := ins_take N h1
      rw [h2]
      exact ⟨y :: m', rfl, by rw [List.take_succ_cons, List.take_succ_cons, h3]⟩
    · rename_i hy
      rw [if_neg hy]
      split at h
      · rename_i h0
        rw [if_pos h0]
        obtain ⟨u, h1, rfl⟩ := Option.map_eq_some_iff.1 h
        rw [h1]
        exact ⟨u :: l.take N, rfl, by rw [List.take_succ_cons, List.take_succ_cons, List.take_take, Nat.min_self]⟩
      · rename_i h0
        rw [if_neg h0]
        injection h with h
        subst h
        refine ⟨_, rfl, ?_⟩
        rw [List.take_succ_cons, List.take_succ_cons]
        cases N with
        | zero => rfl
        | succ N => rw [List.take_succ_cons, List.take_succ_cons, List.take_take, Nat.min_eq_left (by omega)]
theorem mrg_mdl (N : Nat) : ∀ (es l m : List S62), mdl l es = some m → mrg N (l.take N) es = some (m.take N)
  | [], l, m, h => by
    rw [mdl] at h
    injection h with h
    subst h
    rfl
  | x :: es, l, m, h => by
    rw [mdl] at h
    obtain ⟨m1, h1, h2⟩ := Option.bind_eq_some_iff.1 h
    obtain ⟨m', h3, h4⟩ := ins_take N h1
    rw [mrg, h3, Option.bind_some, h4]
    exact mrg_mdl N es m1 m h2
theorem ins_mem2 {x : S62} : ∀ {l m : List S62}, ins x l = some m → ∀ z ∈ m, z ∈ l ∨ cp z x = 0
  | [], m, h, z, hz => by
    injection h with h
    subst h
    rw [List.mem_singleton.1 hz]
    exact .inr ((cp_zero x x).2 ⟨rfl, rfl⟩)
  | y :: l, m, h, z, hz => by
    rw [ins_cons] at h
    split at h
    · obtain ⟨m', h1, rfl⟩ := Option.map_eq_some_iff.1 h
      rcases List.mem_cons.1 hz with rfl | hz
      · exact .inl (List.mem_cons_self ..)
      · rcases ins_mem2 h1 z hz with h2 | h2
        · exact .inl (List.mem_cons_of_mem _ h2)
        · exact .inr h2
    · split at h
      · rename_i h0
        obtain ⟨u, h1, rfl⟩ := Option.map_eq_some_iff.1 h
        rcases List.mem_cons.1 hz with rfl | hz
        · have := un_like h1
          exact .inr (by rw [(cp_like this.2.1 this.1 x).2]; exact h0)
        · exact .inl (List.mem_cons_of_mem _ hz)
      · injection h with h
        subst h
        rcases List.mem_cons.1 hz with rfl | hz
        · exact .inr ((cp_zero z z).2 ⟨rfl, rfl⟩)
        · exact .inl hz
theorem mem_ins {x y : S62} (hc : cp y x ≠ 0) : ∀ {l m : List S62}, ins x l = some m → y ∈ l → y ∈ m
  | [], m, _, hy => by cases hy
  | u :: l, m, h, hy => by
    rw [ins_cons] at h
    split at h
    · obtain ⟨m', h1, rfl⟩ := Option.map_eq_some_iff.1 h
      rcases List.mem_cons.1 hy with rfl | hy
      · exact List.mem_cons_self ..
      · exact List.mem_cons_of_mem _ (mem_ins hc h1 hy)
    · split at h
      · rename_i h0
        obtain ⟨v, h1, rfl⟩ := Option.map_eq_some_iff.1 h
        rcases List.mem_cons.1 hy with rfl | hy
        · exact absurd h0 hc
        · exact List.mem_cons_of_mem _ hy
      · injection h with h
        subst h
        exact List.mem_cons_of_mem _ hy
theorem ins_none {z : S62} : ∀ {l : List S62}, Srt l → (ins z l = none ↔ ∃ y ∈ l, cp y z = 0 ∧ un y z = none)
  | [], _ => ⟨fun h => (by cases h), fun ⟨y, hy, _⟩ => (by cases hy)⟩
  | u :: l, hs => by
    obtain ⟨h1, h2⟩ := List.pairwise_cons.1 hs
    rw [ins_cons]
    by_cases hu : cp u z < 0
    · rw [if_pos hu, Option.map_eq_none_iff, ins_none h2]
      constructor
      · rintro ⟨y, hy, h⟩
        exact ⟨y, List.mem_cons_of_mem _ hy, h⟩
      · rintro ⟨y, hy, h⟩
        rcases List.mem_cons.1 hy with rfl | hy
        · have := h.1; omega
        · exact ⟨y, hy, h⟩
    · rw [if_neg hu]
      have hrest : cp u z ≥ 0 → ∀ y ∈ l, cp y z ≠ 0 := fun _ y hy h0 => by
        have h3 := h1 y hy
        have h4 := (cp_zero y z).1 h0
        rw [(cp_like h4.1 h4.2 u).1] at h3
        omega
      by_cases h0 : cp u z = 0
      · rw [if_pos h0, Option.map_eq_none_iff]
        constructor
        · intro h
          exact ⟨u, List.mem_cons_self .., h0, h⟩
        · rintro ⟨y, hy, h⟩
          rcases List.mem_cons.1 hy with rfl | hy
          · exact h.2
          · exact absurd h.1 (hrest (by omega) y hy)
      · rw [if_neg h0]
        constructor
        · intro h; cases h
        · rintro ⟨y, hy, h⟩
          rcases List.mem_cons.1 hy with rfl | hy
          · exact absurd h.1 h0
          · exact absurd h.1 (hrest (by omega) y hy)
theorem ins_other {x z : S62} {l m : List S62} (hs : Srt l) (h : ins x l = some m) (hc : cp x z ≠ 0) : ins z m = none ↔ ins z l = none := by
  rw [ins_none hs, ins_none (ins_srt hs h)]
  have sw : ∀ y, cp y z = 0 → cp y x ≠ 0 := fun y h0 h1 => by
    have h2 := (cp_zero y z).1 h0
    have h3 := (cp_zero y x).1 h1
    exact hc ((cp_zero x z).2 ⟨by rw [← h3.1, h2.1], by rw [← h3.2, h2.2]⟩)
  constructor
  · rintro ⟨y, hy, h0, h1⟩
    rcases ins_mem2 h y hy with h2 | h2
    · exact ⟨y, h2, h0, h1⟩
    · exact absurd h2 (sw y h0)
  · rintro ⟨y, hy, h0, h1⟩
    exact ⟨y, mem_ins (sw y h0) h hy, h0, h1⟩
theorem mdl_some : ∀ (lb la : List S62), Srt la → Srt lb → (∀ x ∈ lb, ins x la ≠ none) → ∃ m, mdl la lb = some m
  | [], la, _, _, _ => ⟨la, rfl⟩
  | x :: lb, la, hs, hb, h => by
    obtain ⟨h1, h2⟩ := List.pairwise_cons.1 hb
    cases hm : ins x la with
    | none => exact absurd hm (h x (List.mem_cons_self ..))
    | some m =>
      obtain ⟨r, hr⟩ := mdl_some lb m (ins_srt hs hm) h2 (fun z hz hn => h z (List.mem_cons_of_mem _ hz) ((ins_other hs hm (by have := h1 z hz; omega)).1 hn))
      exact ⟨r, by rw [mdl, hm, Option.bind_some, hr]⟩
theorem mdl_none : ∀ (lb la : List S62), Srt la → Srt lb → (∃ x ∈ lb, ins x la = none) → mdl la lb = none
  | [], la, _, _, ⟨x, hx, _⟩ => by cases hx
  | x :: lb, la, hs, hb, ⟨z, hz, hn⟩ => by
    obtain ⟨h1, h2⟩ := List.pairwise_cons.1 hb
    rw [mdl]
    cases hm : ins x la with
    | none => rfl
    | some m =>
      rw [Option.bind_some]
      rcases List.mem_cons.1 hz with rfl | hz
      · rw [hn] at hm; cases hm
      · exact mdl_none lb m (ins_srt hs hm) h2 ⟨z, hz, (ins_other hs hm (by have := h1 z hz; omega)).2 hn⟩
/-! ### Does anything wrap? -/
theorem anyF_eq {α : Type} (p : α → Option Bool) (c : α → Bool) : ∀ (l : List α) (i : Int), 0 ≤ i → (∀ x ∈ l, p x = some (c x)) → ∃ r, idxF p l i = some r ∧ decide (r ≥ 0) = l.any c
  | [], i, _, _ => ⟨-1, rfl, rfl⟩
  | x :: l, i, hi, h => by
    rw [idxF, h x (List.mem_cons_self ..), Option.bind_some, List.any_cons]
    cases hc : c x with
    | true => exact ⟨i, by rw [if_pos rfl], by simpa using hi⟩
    | false =>
      obtain ⟨r, h1, h2⟩ := anyF_eq p c l (i + 1) (by omega) (fun z hz => h z (List.mem_cons_of_mem _ hz))
      exact ⟨r, by rw [if_neg (by decide), h1], by rw [h2, Bool.false_or]⟩
theorem wrapsOne_eq (la : List S62) (hl : la.length < 1000000) (hs : Srt la) (hr : Rl la) (x : S62) (hx : Rng x.f2) (k : Nat) (hk : 3 ≤ k) : wrapsOne k la x = some (ins x la).isNone := by
  unfold wrapsOne
  rw [if_pos hl, bsT_eq x la hs k hk, Option.bind_some]
  have hle := pos_le x la
  cases hh : hit x la with
  | false =>
    simp only
    rw [if_neg (by decide), ins_new x la hh]
    rfl
  | true =>
    have hp : pos x la < la.length := by unfold hit at hh; simp at hh; exact hh.1
    simp only
    rw [if_pos trivial, if_pos (by omega)]
    have e : rd_T62 la (pos x la : Int) = la.getD (pos x la) z62 := by show la.getD (pos x la : Int).toNat z62 = _; rw [Int.toNat_natCast]
    rw [e, add_rng (rl_get hr hp) hx, Option.bind_some, ins_old x la hh]
    unfold un
    by_cases hc : num (la.getD (pos x la) z62).f2 + num x.f2 < top
    · rw [if_pos hc, if_pos hc]; rfl
    · rw [if_neg hc, if_neg hc]; rfl
theorem wraps_eq (a b : Int) (K : Int) (la lb : List S62) (hl : la.length < 1000000) (hs : Srt la) (hr : Rl la) (hb : Rl lb) (k : Nat) (hk : 3 ≤ k) : bottom_wraps.f k a b K la a b K lb = some (lb.any fun x => (ins x la).isNone) := by
  unfold bottom_wraps.f anyF
  obtain ⟨r, h1, h2⟩ := anyF_eq (wrapsOne k la) (fun x => (ins x la).isNone) lb 0 (Int.le_refl 0) (fun x hx => wrapsOne_eq la hl hs hr x (hb x hx) k hk)
  rw [h1, Option.bind_some, h2]
/-! ### Merging -/
theorem merge_l0 (a b : Int) (K : Nat) (hK : K ≤ 1024) (lb : List S62) (hb : Rl lb) (hlb : lb.length ≤ 5000) (r : List S62) : ∀ m k i (l : List S62), lb.length = i + m → m + 10 < k → Srt l → Rl l → l.length ≤ K + 1 → mrg (K + 1) l (lb.drop i) = some r →
    bottom_Merge.l0 k lb (lb.length : Int) (i : Int) a b (K : Int) l = some (a, b, (K : Int), r, 0)
  | 0, k, i, l, hi, hk, hs, hr, hl, h => by
    obtain ⟨k, rfl⟩ : ∃ k', k = k' + 1 := ⟨k - 1, by omega⟩
    rw [List.drop_of_length_le (by omega), mrg] at h
    injection h with h
    subst h
    unfold bottom_Merge.l0
    rw [if_neg (by omega)]
  | m + 1, k, i, l, hi, hk, hs, hr, hl, h => by
    obtain ⟨k, rfl⟩ : ∃ k', k = k' + 1 := ⟨k - 1, by omega⟩
    have hi' : i < lb.length := by omega
    rw [List.drop_eq_getElem_cons hi', mrg, ← G_get hi'] at h
    obtain ⟨m1, h1, h2⟩ := Option.bind_eq_some_iff.1 h
    have hx : Rng (G lb i).f2 := by rw [G_get hi']; exact hb _ (List.getElem_mem hi')
    have ih := merge_l0 a b K hK lb hb hlb r m k (i + 1) (m1.take (K + 1)) (by omega) (by omega) (List.Pairwise.sublist (List.take_sublist _ _) (ins_srt hs h1)) (fun z hz => rl_ins hr hx h1 z (List.mem_of_mem_take hz)) (by rw [List.length_take]; omega) h2
    unfold bottom_Merge.l0
    rw [if_pos (by omega), if_pos (by omega), if_pos (by omega), G_rd, add_eq a b K hK l (by omega) hs hr (G lb i) hx k (by omega), h1, Option.bind_some, inc hi' (by omega)]
    exact ih
theorem merge_eq (a b : Int) (K : Nat) (la lb : List S62) (ha : Rt a b K la) (hb : Rt a b K lb) (hra : Rl la) (hrb : Rl lb) (k : Nat) (hk : 3000 ≤ k) :
    bottom_Merge.f k a b (K : Int) la a b (K : Int) lb = match mdl la lb with | some m => some (a, b, (K : Int), m.take (K + 1), 0) | none => some (0, 0, 0, [], 12) := by
  obtain ⟨k, rfl⟩ : ∃ k', k = k' + 1 := ⟨k - 1, by omega⟩
  have hK := ha.1.2
  have hla := ha.2.1
  have hlb := hb.2.1
  unfold bottom_Merge.f
  rw [right_eq a b K la (k + 1) (by omega), Option.bind_some, if_pos (yes_true ha), right_eq a b K lb (k + 1) (by omega), Option.bind_some, yes_true hb, bottom_Merge.j0, if_neg (by decide), if_neg (by simp), if_pos rfl, wraps_eq a b K la lb (by omega) ha.2.2.2 hra hrb k (by omega), Option.bind_some]
  cases hw : lb.any fun x => (ins x la).isNone with
  | true =>
    obtain ⟨x, hx, hn⟩ := List.any_eq_true.1 hw
    rw [if_pos rfl, mdl_none lb la ha.2.2.2 hb.2.2.2 ⟨x, hx, Option.isNone_iff_eq_none.1 hn⟩]
  | false =>
    obtain ⟨m, hm⟩ := mdl_some lb la ha.2.2.2 hb.2.2.2 (fun x hx hn => by
      have := List.any_eq_false.1 hw x hx
      rw [hn] at this
      exact this rfl)
    have h := mrg_mdl (K + 1) lb la m hm
    rw [List.take_of_length_le (by omega)] at h
    rw [if_neg (by decide), hm, show (0 : Int) = ((0 : Nat) : Int) from rfl, merge_l0 a b K (by omega) lb hrb (by omega) (m.take (K + 1)) lb.length k 0 la (by omega) (by omega) ha.2.2.2 hra (by omega) h]
    rfl
theorem merge_bad (a b a' b' K K' : Int) (la lb : List S62) (h : ¬ (Rt a b K la ∧ Rt a' b' K' lb)) (k : Nat) (hk : 3000 ≤ k) : bottom_Merge.f k a b K la a' b' K' lb = some (0, 0, 0, [], 1) := by
  obtain ⟨k, rfl⟩ : ∃ k', k = k' + 1 := ⟨k - 1, by omega⟩
  unfold bottom_Merge.f
  rw [right_eq a b K la (k + 1) (by omega), Option.bind_some]
  by_cases ha : Rt a b K la
  · rw [if_pos (yes_true ha), right_eq a' b' K' lb (k + 1) (by omega), Option.bind_some, yes_false (fun hb => h ⟨ha, hb⟩), bottom_Merge.j0, if_pos (show (!false) = true from rfl)]
  · rw [if_neg (by rw [yes_false ha]; decide), bottom_Merge.j0, if_pos rfl]
theorem merge_seed (a b a' b' K K' : Int) (la lb : List S62) (ha : Rt a b K la) (hb : Rt a' b' K' lb) (h : ¬ (a = a' ∧ b = b')) (k : Nat) (hk : 3000 ≤ k) : bottom_Merge.f k a b K la a' b' K' lb = some (0, 0, 0, [], 9) := by
  obtain ⟨k, rfl⟩ : ∃ k', k = k' + 1 := ⟨k - 1, by omega⟩
  unfold bottom_Merge.f
  rw [right_eq a b K la (k + 1) (by omega), Option.bind_some, if_pos (yes_true ha), right_eq a' b' K' lb (k + 1) (by omega), Option.bind_some, yes_true hb, bottom_Merge.j0, if_neg (by decide), if_pos]
  rw [← Bool.not_and, Bool.not_eq_true', ← Bool.not_eq_true]
  simpa using h
theorem merge_kind (a b K K' : Int) (la lb : List S62) (ha : Rt a b K la) (hb : Rt a b K' lb) (h : ¬ K = K') (k : Nat) (hk : 3000 ≤ k) : bottom_Merge.f k a b K la a b K' lb = some (0, 0, 0, [], 10) := by
  obtain ⟨k, rfl⟩ : ∃ k', k = k' + 1 := ⟨k - 1, by omega⟩
  unfold bottom_Merge.f
  rw [right_eq a b K la (k + 1) (by omega), Option.bind_some, if_pos (yes_true ha), right_eq a b K' lb (k + 1) (by omega), Option.bind_some, yes_true hb, bottom_Merge.j0, if_neg (by decide), if_neg (by simp), if_neg h]
end Go.Proofs.Ytmfffbafldbihaa.Bo
