/- Chapter 14 in plain Lean, part 3: what is laid in keeps a sample right; late ones, and those that come twice. -/
import Derived.Test.YtmfffbafldbihaaBo2
set_option linter.unusedVariables false
set_option linter.unusedSimpArgs false
namespace Go.Proofs.Ytmfffbafldbihaa.Bo
open Go.RowKit Go.Proofs.Ytmfffbafldbihaa.H Go.Proofs.YtmfffbafldbihaaW.PrintWords Go.Proofs.YtmfffbafldbihaaW.PrintMore

theorem Ahead_eq (y x : S62) (p q r s : Int) : samphireref14_Ahead.f y.f0 y.f1 p q x.f0 x.f1 r s = some (decide (cp y x < 0)) := by
  unfold samphireref14_Ahead.f cp
  by_cases h : y.f1 = x.f1
  · rw [if_pos h, if_neg (by omega), if_neg (by omega), Lib.toList_data, Lib.toList_data, cb_less]
  · rw [if_neg h]
    by_cases h2 : y.f1 < x.f1
    · rw [if_pos h2, decide_eq_true h2]; rfl
    · rw [if_neg h2, if_pos (by omega), decide_eq_false h2]; rfl
theorem un_like {y x z : S62} (h : un y x = some z) : z.f0 = y.f0 ∧ z.f1 = y.f1 ∧ num z.f2 = num y.f2 + num x.f2 := by
  unfold un at h
  split at h
  · injection h with h
    subst h
    exact ⟨rfl, rfl, num_mkU _⟩
  · cases h
theorem un_rng {y x z : S62} (hy : Rng y.f2) (hx : Rng x.f2) (h : un y x = some z) : Rng z.f2 := by
  unfold un at h
  split at h
  · rename_i ht
    injection h with h
    subst h
    have := num_nonneg hy
    have := num_nonneg hx
    exact rng_mkU (by omega) ht
  · cases h
theorem ins_mem {x : S62} : ∀ {l m : List S62}, ins x l = some m → ∀ z ∈ m, z ∈ l ∨ z = x ∨ ∃ y ∈ l, un y x = some z
  | [], m, h, z, hz => by
    injection h with h
    subst h
    exact .inr (.inl (List.mem_singleton.1 hz))
  | y :: l, m, h, z, hz => by
    unfold ins at h
    split at h
    · obtain ⟨m', h1, rfl⟩ := Option.map_eq_some_iff.1 h
      rcases List.mem_cons.1 hz with rfl | hz
      · exact .inl (List.mem_cons_self ..)
      · rcases ins_mem h1 z hz with h2 | h2 | ⟨u, h2, h3⟩
        · exact .inl (List.mem_cons_of_mem _ h2)
        · exact .inr (.inl h2)
        · exact .inr (.inr ⟨u, List.mem_cons_of_mem _ h2, h3⟩)
    · split at h
      · obtain ⟨u, h1, rfl⟩ := Option.map_eq_some_iff.1 h
        rcases List.mem_cons.1 hz with rfl | hz
        · exact .inr (.inr ⟨y, List.mem_cons_self .., h1⟩)
        · exact .inl (List.mem_cons_of_mem _ hz)
      · injection h with h
        subst h
        rcases List.mem_cons.1 hz with rfl | hz
        · exact .inr (.inl rfl)
        · exact .inl hz
theorem ins_srt {x : S62} : ∀ {l m : List S62}, Srt l → ins x l = some m → Srt m
  | [], m, _, h => by
    injection h with h
    subst h
    exact List.pairwise_singleton _ _
  | y :: l, m, hs, h => by
    obtain ⟨h1, h2⟩ := List.pairwise_cons.1 hs
    unfold ins at h
    split at h
    · rename_i hy
      obtain ⟨m', h3, rfl⟩ := Option.map_eq_some_iff.1 h
      refine List.pairwise_cons.2 ⟨fun z hz => ?_, ins_srt h2 h3⟩
      rcases ins_mem h3 z hz with h4 | h4 | ⟨u, h4, h5⟩
      · exact h1 z h4
      · rw [h4]; exact hy
      · have := un_like h5
        rw [(cp_like this.2.1 this.1 y).1]
        exact h1 u h4
    · rename_i hy
      split at h
      · obtain ⟨u, h3, rfl⟩ := Option.map_eq_some_iff.1 h
        have := un_like h3
        exact List.pairwise_cons.2 ⟨fun z hz => by rw [(cp_like this.2.1 this.1 z).2]; exact h1 z hz, h2⟩
      · rename_i hy0
        injection h with h
        subst h
        have hxy : cp x y < 0 := by rw [cp_anti]; omega
        refine List.pairwise_cons.2 ⟨fun z hz => ?_, hs⟩
        rcases List.mem_cons.1 hz with rfl | hz
        · exact hxy
        · exact cp_trans hxy (h1 z hz)
theorem ins_length {x : S62} : ∀ {l m : List S62}, ins x l = some m → m.length ≤ l.length + 1
  | [], m, h => by
    injection h with h
    subst h
    exact Nat.le_refl _
  | y :: l, m, h => by
    unfold ins at h
    split at h
    · obtain ⟨m', h3, rfl⟩ := Option.map_eq_some_iff.1 h
      have := ins_length h3
      simp only [List.length_cons]; omega
    · split at h
      · obtain ⟨u, h3, rfl⟩ := Option.map_eq_some_iff.1 h
        simp only [List.length_cons]; omega
      · injection h with h
        subst h
        simp only [List.length_cons]; omega
theorem ins_ge {a b : Int} {x : S62} {l m : List S62} (hg : ∀ y ∈ l, Ge a b y) (hr : Rl l) (hx : Ge a b x) (hxr : Rng x.f2) (h : ins x l = some m) : (∀ z ∈ m, Ge a b z) ∧ Rl m := by
  constructor
  · intro z hz
    rcases ins_mem h z hz with h1 | h1 | ⟨y, h1, h2⟩
    · exact hg z h1
    · rw [h1]; exact hx
    · obtain ⟨e0, e1, e2⟩ := un_like h2
      have gy := hg y h1
      refine ⟨by rw [e0]; exact gy.1, by rw [e1, e0]; exact gy.2.1, fun hh => ?_⟩
      have hz0 := (num_zero (un_rng (hr y h1) hxr h2)).2 hh
      have n1 := num_nonneg (hr y h1)
      have n2 := num_nonneg hxr
      have : num y.f2 = 0 := by omega
      exact gy.2.2 ((num_zero (hr y h1)).1 this)
  · intro z hz
    rcases ins_mem h z hz with h1 | h1 | ⟨y, h1, h2⟩
    · exact hr z h1
    · rw [h1]; exact hxr
    · exact un_rng (hr y h1) hxr h2
theorem rt_ins {a b : Int} {K : Nat} {x : S62} {l m : List S62} (h : Rt a b K l) (hr : Rl l) (hx : Ge a b x) (hxr : Rng x.f2) (hi : ins x l = some m) : Rt a b K (m.take (K + 1)) ∧ Rl (m.take (K + 1)) := by
  obtain ⟨h1, h2⟩ := ins_ge h.2.2.1 hr hx hxr hi
  refine ⟨⟨h.1, by rw [List.length_take]; omega, fun z hz => h1 z (List.mem_of_mem_take hz), ?_⟩, fun z hz => h2 z (List.mem_of_mem_take hz)⟩
  exact List.Pairwise.sublist (List.take_sublist _ _) (ins_srt h.2.2.2 hi)
theorem en_f2 (a b : Int) (key : ByteArray) (n : Int) : (en a b key n).f2 = ⟨0, n⟩ := rfl
theorem en_f0 (a b : Int) (key : ByteArray) (n : Int) : (en a b key n).f0 = key := rfl
theorem en_f1 (a b : Int) (key : ByteArray) (n : Int) : (en a b key n).f1 = H a b key := rfl
theorem en_ge {a b : Int} {key : ByteArray} {n : Int} (hs : key.size ≤ 64) (h0 : 0 < n) : Ge a b (en a b key n) := by
  unfold Ge
  rw [en_f2, en_f0, en_f1]
  exact ⟨hs, Eq.refl _, fun h => by have := h.2; simp only at this; omega⟩
theorem num_en {a b : Int} {key : ByteArray} {n : Int} : num (en a b key n).f2 = n := by unfold num en; simp
theorem en_cp (a b : Int) (key : ByteArray) (n m : Int) (y : S62) : cp y (en a b key n) = cp y (en a b key m) := (cp_like rfl rfl y).1

/-! ### Late ones -/
theorem ins_all {x : S62} : ∀ {l : List S62}, (∀ z ∈ l, cp z x < 0) → ins x l = some (l ++ [x])
  | [], _ => rfl
  | y :: l, h => by
    unfold ins
    rw [if_pos (h y (List.mem_cons_self ..)), ins_all (fun z hz => h z (List.mem_cons_of_mem _ hz))]
    rfl
theorem all_late {x : S62} {l : List S62} {K : Nat} (hs : Srt l) (hl : l.length = K + 1) (h : cp (G l K) x < 0) : ∀ z ∈ l, cp z x < 0 := by
  intro z hz
  obtain ⟨j, hj, rfl⟩ := List.getElem_of_mem hz
  rw [G_get (by omega)] at h
  rcases Nat.lt_or_ge j K with hjk | hjk
  · exact cp_trans (List.pairwise_iff_getElem.1 hs j K hj (by omega) hjk) h
  · have : j = K := by omega
    subst this
    exact h
theorem ins_ne {x : S62} (hx : 0 < num x.f2) : ∀ {l m : List S62} {K : Nat}, Rl l → l.length = K + 1 → ¬ cp (G l K) x < 0 → ins x l = some m → m.take (K + 1) ≠ l
  | [], m, K, _, hl, _, _ => by simp at hl
  | y :: l, m, K, hr, hl, hc, h => by
    simp only [List.length_cons, Nat.add_right_cancel_iff] at hl
    unfold ins at h
    split at h
    · rename_i hy
      obtain ⟨m', h3, rfl⟩ := Option.map_eq_some_iff.1 h
      cases K with
      | zero => exact absurd hy hc
      | succ K =>
        have ih := ins_ne hx (fun z hz => hr z (List.mem_cons_of_mem _ hz)) hl hc h3
        intro e
        simp only [List.take_succ_cons, List.cons.injEq, true_and] at e
        exact ih e
    · split at h
      · obtain ⟨u, h3, rfl⟩ := Option.map_eq_some_iff.1 h
        intro e
        simp only [List.take_succ_cons, List.cons.injEq] at e
        have := (un_like h3).2.2
        rw [e.1] at this
        omega
      · rename_i hy0
        injection h with h
        subst h
        intro e
        simp only [List.take_succ_cons, List.cons.injEq] at e
        exact hy0 ((cp_zero y x).2 (by rw [e.1]; exact ⟨rfl, rfl⟩))
/-! ### Twice -/
theorem un_twice {y x1 x2 x3 : S62} (hy : Rng y.f2) (h1 : Rng x1.f2) (h2 : Rng x2.f2) (h3 : num x3.f2 = num x1.f2 + num x2.f2) :
    (∃ y1 y3, un y x1 = some y1 ∧ un y1 x2 = some y3 ∧ un y x3 = some y3) ∨ (un y x3 = none ∧ (un y x1 = none ∨ ∃ y1, un y x1 = some y1 ∧ un y1 x2 = none)) := by
  have n1 := num_nonneg h1
  have n2 := num_nonneg h2
  unfold un
  rw [h3]
  by_cases t3 : num y.f2 + (num x1.f2 + num x2.f2) < top
  · left
    rw [if_pos (show num y.f2 + num x1.f2 < top by omega), if_pos t3]
    refine ⟨_, _, rfl, ?_, rfl⟩
    simp only [num_mkU]
    rw [if_pos (by omega), show num y.f2 + num x1.f2 + num x2.f2 = num y.f2 + (num x1.f2 + num x2.f2) by omega]
  · right
    refine ⟨by rw [if_neg t3], ?_⟩
    by_cases t1 : num y.f2 + num x1.f2 < top
    · right
      rw [if_pos t1]
      refine ⟨_, rfl, ?_⟩
      simp only [num_mkU]
      rw [if_neg (by omega)]
    · left
      rw [if_neg t1]
theorem mkU_small {t : Int} (h0 : 0 ≤ t) (h1 : t ≤ 18446744073709551615) : mkU t = ⟨0, t⟩ := by
  unfold mkU
  congr 1 <;> omega
theorem ins_cons (x y : S62) (l : List S62) : ins x (y :: l) = if cp y x < 0 then (ins x l).map (y :: ·) else if cp y x = 0 then (un y x).map (· :: l) else some (x :: y :: l) := rfl
theorem un_en {a b : Int} {key : ByteArray} {n m : Int} (h1 : 0 ≤ n) (h2 : 0 ≤ m) (h3 : n + m ≤ 18446744073709551615) : un (en a b key n) (en a b key m) = some (en a b key (n + m)) := by
  unfold un
  rw [num_en, num_en, if_pos (show n + m < top by unfold top; omega), mkU_small (by omega) h3]
  rfl
theorem twice {a b : Int} {key : ByteArray} {n m : Int} (h1 : 0 ≤ n) (h2 : 0 ≤ m) (h3 : n + m ≤ 18446744073709551615) : ∀ (l : List S62), Rl l → ∀ N, l.length ≤ N →
    (∃ m3 m1 m2, ins (en a b key (n + m)) l = some m3 ∧ ins (en a b key n) l = some m1 ∧ ins (en a b key m) (m1.take N) = some m2 ∧ m2.take N = m3.take N) ∨
    (ins (en a b key (n + m)) l = none ∧ (ins (en a b key n) l = none ∨ ∃ m1, ins (en a b key n) l = some m1 ∧ ins (en a b key m) (m1.take N) = none))
  | [], _, N, _ => by
    left
    have e0 : cp (en a b key n) (en a b key m) = 0 := (cp_zero _ _).2 ⟨rfl, rfl⟩
    have eu := un_en (a := a) (b := b) (key := key) h1 h2 h3
    refine ⟨[en a b key (n + m)], [en a b key n], ?_⟩
    cases N with
    | zero => exact ⟨[en a b key m], rfl, rfl, rfl, rfl⟩
    | succ N =>
      refine ⟨[en a b key (n + m)], rfl, rfl, ?_, rfl⟩
      simp only [List.take_succ_cons, List.take_nil]
      unfold ins
      rw [if_neg (by rw [e0]; decide), if_pos e0, eu]
      rfl
  | y :: l, hr, N, hN => by
    obtain ⟨N, rfl⟩ : ∃ N', N = N' + 1 := ⟨N - 1, by simp only [List.length_cons] at hN; omega⟩
    have hN' : l.length ≤ N := by simpa using hN
    have c1 := en_cp a b key (n + m) n y
    have c2 := en_cp a b key m n y
    unfold ins
    rw [c1]
    by_cases hy : cp y (en a b key n) < 0
    · rw [if_pos hy, if_pos hy]
      rcases twice h1 h2 h3 l (fun z hz => hr z (List.mem_cons_of_mem _ hz)) N hN' with ⟨m3, m1, m2, e3, e1, e2, et⟩ | ⟨e3, e1 | ⟨m1, e1, e2⟩⟩
      · left
        refine ⟨y :: m3, y :: m1, y :: m2, by rw [e3]; rfl, by rw [e1]; rfl, ?_, by simp [et]⟩
        simp only [List.take_succ_cons]
        try rw [ins_cons]
        rw [c2, if_pos hy, e2]
        rfl
      · right
        exact ⟨by rw [e3]; rfl, .inl (by rw [e1]; rfl)⟩
      · right
        refine ⟨by rw [e3]; rfl, .inr ⟨y :: m1, by rw [e1]; rfl, ?_⟩⟩
        simp only [List.take_succ_cons]
        try rw [ins_cons]
        rw [c2, if_pos hy, e2]
        rfl
    · rw [if_neg hy, if_neg hy]
      by_cases h0 : cp y (en a b key n) = 0
      · rw [if_pos h0, if_pos h0]
        rcases un_twice (x3 := en a b key (n + m)) (hr y (List.mem_cons_self ..)) (en_rng (a := a) (b := b) (key := key) h1 (by omega)) (en_rng (a := a) (b := b) (key := key) h2 (by omega)) (by rw [num_en, num_en, num_en]) with ⟨y1, y3, e1, e2, e3⟩ | ⟨e3, e1 | ⟨y1, e1, e2⟩⟩
        · left
          refine ⟨y3 :: l, y1 :: l, y3 :: l, by rw [e3]; rfl, by rw [e1]; rfl, ?_, rfl⟩
          simp only [List.take_succ_cons]
          rw [List.take_of_length_le hN']
          have hc := un_like e1
          have c3 : cp y1 (en a b key m) = 0 := by rw [(cp_like hc.2.1 hc.1 _).2, c2, h0]
          try rw [ins_cons]
          rw [if_neg (by rw [c3]; decide), if_pos c3, e2]
          rfl
        · right
          exact ⟨by rw [e3]; rfl, .inl (by rw [e1]; rfl)⟩
        · right
          refine ⟨by rw [e3]; rfl, .inr ⟨y1 :: l, by rw [e1]; rfl, ?_⟩⟩
          simp only [List.take_succ_cons]
          have hc := un_like e1
          have c3 : cp y1 (en a b key m) = 0 := by rw [(cp_like hc.2.1 hc.1 _).2, c2, h0]
          try rw [ins_cons]
          rw [if_neg (by rw [c3]; decide), if_pos c3, e2]
          rfl
      · rw [if_neg h0, if_neg h0]
        left
        have e0 : cp (en a b key n) (en a b key m) = 0 := (cp_zero _ _).2 ⟨rfl, rfl⟩
        have eu := un_en (a := a) (b := b) (key := key) h1 h2 h3
        refine ⟨en a b key (n + m) :: y :: l, en a b key n :: y :: l, en a b key (n + m) :: (y :: l).take N, rfl, rfl, ?_, ?_⟩
        · simp only [List.take_succ_cons]
          try rw [ins_cons]
          rw [if_neg (by rw [e0]; decide), if_pos e0, eu]
          rfl
        · simp only [List.take_succ_cons, List.take_take, Nat.min_self]
end Go.Proofs.Ytmfffbafldbihaa.Bo
