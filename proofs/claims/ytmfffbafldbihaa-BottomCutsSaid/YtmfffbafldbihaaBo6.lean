/- Chapter 14 in plain Lean, part 6: what is cut, and what stands far behind. -/
import Derived.Test.YtmfffbafldbihaaHx13
import Derived.Test.YtmfffbafldbihaaHx12
import Derived.Test.YtmfffbafldbihaaBo5
set_option linter.unusedVariables false
set_option linter.unusedSimpArgs false
namespace Go.Proofs.Ytmfffbafldbihaa.Bo
open Go.RowKit Go.Proofs.Ytmfffbafldbihaa.H Go.Proofs.YtmfffbafldbihaaW.PrintWords Go.Proofs.YtmfffbafldbihaaW.PrintMore

theorem mn_eq (a b : Int) : mn a b = min a b := by unfold mn; split <;> omega
theorem Cut_eq (a b : Int) (K : Nat) (l : List S62) (h : Rt a b K l) (c : Nat) (h1 : 1 ≤ c) (h2 : c ≤ K) (k : Nat) (hk : 1100 ≤ k) : bottom_Cut.f k a b (K : Int) l (c : Int) = some (a, b, (c : Int), l.take (c + 1), 0) := by
  have hK := h.1.2
  have hl := h.2.1
  unfold bottom_Cut.f
  rw [right_eq a b K l k hk, Option.bind_some, if_pos (yes_true h), if_neg (by omega), if_neg (by omega), w64 (by omega) (by omega), mn_eq, if_pos (by omega), if_pos (by omega)]
  unfold bottom_Entry_32.f
  have e : l.take (min (l.length : Int) ((c : Int) + 1)).toNat = l.take (c + 1) := by
    rcases Nat.le_total l.length (c + 1) with h3 | h3
    · rw [show (min (l.length : Int) ((c : Int) + 1)).toNat = l.length by omega, List.take_of_length_le (Nat.le_refl _), List.take_of_length_le h3]
    · rw [show (min (l.length : Int) ((c : Int) + 1)).toNat = c + 1 by omega]
  rw [e, if_pos (by rw [List.length_take]; omega), Option.bind_some]
/-- All that a full list is. -/
def Fine (a b : Int) (l : List S62) : Prop := (∀ x ∈ l, Ge a b x) ∧ Srt l ∧ Rl l
theorem fine_take {a b : Int} {l : List S62} (h : Fine a b l) (N : Nat) : Fine a b (l.take N) :=
  ⟨fun x hx => h.1 x (List.mem_of_mem_take hx), List.Pairwise.sublist (List.take_sublist _ _) h.2.1, fun x hx => h.2.2 x (List.mem_of_mem_take hx)⟩
theorem fine_rt {a b : Int} {l : List S62} (h : Fine a b l) (K : Nat) (h1 : 1 ≤ K) (h2 : K ≤ 1024) : Rt a b K (l.take (K + 1)) :=
  ⟨⟨by omega, by omega⟩, by rw [List.length_take]; omega, (fine_take h _).1, (fine_take h _).2.1⟩
theorem fine_ins {a b : Int} {x : S62} {l m : List S62} (h : Fine a b l) (hx : Ge a b x) (hxr : Rng x.f2) (hi : ins x l = some m) : Fine a b m :=
  ⟨(ins_ge h.1 h.2.2 hx hxr hi).1, ins_srt h.2.1 hi, (ins_ge h.1 h.2.2 hx hxr hi).2⟩
theorem fine_mdl {a b : Int} : ∀ (E l r : List S62), Fine a b l → (∀ x ∈ E, Ge a b x ∧ Rng x.f2) → mdl l E = some r → Fine a b r
  | [], l, r, h, _, hi => by
    rw [mdl] at hi
    injection hi with hi
    exact hi ▸ h
  | x :: E, l, r, h, he, hi => by
    rw [mdl] at hi
    obtain ⟨m, h1, h2⟩ := Option.bind_eq_some_iff.1 hi
    have hx := he x (List.mem_cons_self ..)
    exact fine_mdl E m r (fine_ins h hx.1 hx.2 h1) (fun z hz => he z (List.mem_cons_of_mem _ hz)) h2
/-! ### No number is too great -/
def Bnd (B : Int) (l : List S62) : Prop := ∀ y ∈ l, num y.f2 ≤ B
theorem ins_bnd {B C : Int} {x : S62} (hB : 0 ≤ B) (hx0 : 0 ≤ num x.f2) (hx : num x.f2 ≤ C) (ht : B + C < top) : ∀ {l : List S62}, Bnd B l → ∃ m, ins x l = some m ∧ Bnd (B + C) m
  | [], _ => ⟨[x], rfl, fun y hy => by rw [List.mem_singleton.1 hy]; omega⟩
  | y :: l, h => by
    have hy := h y (List.mem_cons_self ..)
    have hl : Bnd B l := fun z hz => h z (List.mem_cons_of_mem _ hz)
    have hl2 : ∀ z ∈ l, num z.f2 ≤ B + C := fun z hz => by have := hl z hz; omega
    rw [ins_cons]
    by_cases h1 : cp y x < 0
    · obtain ⟨m, h2, h3⟩ := ins_bnd hB hx0 hx ht hl
      rw [if_pos h1, h2]
      refine ⟨y :: m, rfl, fun z hz => ?_⟩
      rcases List.mem_cons.1 hz with rfl | hz
      · omega
      · exact h3 z hz
    · rw [if_neg h1]
      by_cases h0 : cp y x = 0
      · rw [if_pos h0]
        unfold un
        rw [if_pos (by omega)]
        refine ⟨_, rfl, fun z hz => ?_⟩
        rcases List.mem_cons.1 hz with rfl | hz
        · rw [num_mkU]; omega
        · exact hl2 z hz
      · rw [if_neg h0]
        refine ⟨_, rfl, fun z hz => ?_⟩
        rcases List.mem_cons.1 hz with rfl | hz
        · omega
        · rcases List.mem_cons.1 hz with rfl | hz
          · omega
          · exact hl2 z hz
theorem mdl_bnd {C : Int} (hC : 0 ≤ C) : ∀ (E l : List S62) (B : Int), 0 ≤ B → Bnd B l → (∀ x ∈ E, 0 ≤ num x.f2 ∧ num x.f2 ≤ C) → B + E.length * C < top → ∃ r, mdl l E = some r
  | [], l, B, _, _, _, _ => ⟨l, rfl⟩
  | x :: E, l, B, hB, hl, he, ht => by
    have e1 : B + ((x :: E).length : Int) * C = (B + C) + (E.length : Int) * C := by
      rw [List.length_cons, show ((E.length + 1 : Nat) : Int) = (E.length : Int) + 1 by omega, Int.add_mul, Int.one_mul]; omega
    have e2 : 0 ≤ (E.length : Int) * C := Int.mul_nonneg (by omega) hC
    obtain ⟨m, h1, h2⟩ := ins_bnd hB (he x (List.mem_cons_self ..)).1 (he x (List.mem_cons_self ..)).2 (by omega) hl
    obtain ⟨r, h3⟩ := mdl_bnd hC E m (B + C) (by omega) h2 (fun z hz => he z (List.mem_cons_of_mem _ hz)) (by omega)
    exact ⟨r, by rw [mdl, h1, Option.bind_some, h3]⟩
/-! ### The first N alone -/
theorem ins_rel {x : S62} {l l' m m' : List S62} {N : Nat} (h : ins x l = some m) (h' : ins x l' = some m') (e : l.take N = l'.take N) : m.take N = m'.take N := by
  obtain ⟨p, h1, h2⟩ := ins_take N h
  obtain ⟨p', h3, h4⟩ := ins_take N h'
  rw [e, h3] at h1
  injection h1 with h1
  rw [← h2, ← h4, h1]
theorem mdl_rel {N : Nat} : ∀ (E l l' r r' : List S62), mdl l E = some r → mdl l' E = some r' → l.take N = l'.take N → r.take N = r'.take N
  | [], l, l', r, r', h, h', e => by
    rw [mdl] at h h'
    injection h with h
    injection h' with h'
    rw [← h, ← h', e]
  | x :: E, l, l', r, r', h, h', e => by
    rw [mdl] at h h'
    obtain ⟨m, h1, h2⟩ := Option.bind_eq_some_iff.1 h
    obtain ⟨m', h3, h4⟩ := Option.bind_eq_some_iff.1 h'
    exact mdl_rel E m m' r r' h2 h4 (ins_rel h1 h3 e)
theorem ins_far {x : S62} : ∀ {l m : List S62} {N : Nat}, N ≤ pos x l → ins x l = some m → m.take N = l.take N
  | _, _, 0, _, _ => by rw [List.take_zero, List.take_zero]
  | [], _, N + 1, h, _ => absurd h (Nat.not_succ_le_zero N)
  | y :: l, m, N + 1, h, hi => by
    rw [ins_cons] at hi
    unfold pos at h
    split at h
    · rename_i hy
      rw [if_pos hy] at hi
      obtain ⟨m', h1, rfl⟩ := Option.map_eq_some_iff.1 hi
      rw [List.take_succ_cons, List.take_succ_cons, ins_far (by omega) h1]
    · exact absurd h (Nat.not_succ_le_zero N)
theorem pos_next {e x : S62} (hc : cp e x < 0) : ∀ {l m : List S62}, ins e l = some m → pos e l + 1 ≤ pos x m
  | [], m, h => by
    injection h with h
    subst h
    unfold pos
    rw [if_pos hc]
    unfold pos
    omega
  | y :: l, m, h => by
    rw [ins_cons] at h
    split at h
    · rename_i hy
      obtain ⟨m', h1, rfl⟩ := Option.map_eq_some_iff.1 h
      have := pos_next hc h1
      rw [pos, if_pos hy, pos, if_pos (cp_trans hy hc)]
      omega
    · rename_i hy
      rw [pos, if_neg hy]
      split at h
      · rename_i h0
        obtain ⟨u, h1, rfl⟩ := Option.map_eq_some_iff.1 h
        have hu := un_like h1
        have h2 := (cp_zero y e).1 h0
        rw [pos, if_pos (by rw [(cp_like (hu.2.1.trans h2.1) (hu.1.trans h2.2) x).2]; exact hc)]
        omega
      · injection h with h
        subst h
        rw [pos, if_pos hc]
        omega
theorem pos_mdl {x : S62} : ∀ (E l r : List S62) (p : Nat), p ≤ pos (E.headD x) l → Srt E → (∀ e ∈ E, cp e x < 0) → mdl l E = some r → p + E.length ≤ pos x r
  | [], l, r, p, hp, _, _, h => by
    rw [mdl] at h
    injection h with h
    subst h
    simpa using hp
  | e :: E, l, r, p, hp, hs, hx, h => by
    rw [mdl] at h
    obtain ⟨m, h1, h2⟩ := Option.bind_eq_some_iff.1 h
    obtain ⟨s1, s2⟩ := List.pairwise_cons.1 hs
    have hp' : p ≤ pos e l := hp
    have hn : p + 1 ≤ pos (E.headD x) m := by
      cases E with
      | nil => have := pos_next (hx e (List.mem_cons_self ..)) h1; simpa using (by omega : p + 1 ≤ pos x m)
      | cons f E => have := pos_next (s1 f (List.mem_cons_self ..)) h1; show p + 1 ≤ pos f m; omega
    have := pos_mdl E m r (p + 1) hn s2 (fun z hz => hx z (List.mem_cons_of_mem _ hz)) h2
    simp only [List.length_cons]
    omega
theorem mdl_far {N : Nat} : ∀ (E l r : List S62), Srt E → (∀ x ∈ E, N ≤ pos x l) → mdl l E = some r → r.take N = l.take N
  | [], l, r, _, _, h => by
    rw [mdl] at h
    injection h with h
    rw [h]
  | x :: E, l, r, hs, hp, h => by
    rw [mdl] at h
    obtain ⟨m, h1, h2⟩ := Option.bind_eq_some_iff.1 h
    obtain ⟨s1, s2⟩ := List.pairwise_cons.1 hs
    have hx := hp x (List.mem_cons_self ..)
    rw [mdl_far E m r s2 (fun z hz => by have := pos_next (s1 z hz) h1; omega) h2, ins_far hx h1]
theorem mdl_first {N : Nat} {l E r q : List S62} (hs : Srt E) (h : mdl l E = some r) (h' : mdl l (E.take N) = some q) : r.take N = q.take N := by
  rw [← List.take_append_drop N E, mdl_append, h', Option.bind_some] at h
  rw [← List.take_append_drop N E] at hs
  obtain ⟨s1, s2, s3⟩ := List.pairwise_append.1 hs
  refine mdl_far (E.drop N) q r s2 (fun x hx => ?_) h
  have := pos_mdl (x := x) (E.take N) l q 0 (Nat.zero_le _) s1 (fun e he => s3 e he x hx) h'
  have hlen : N ≤ E.length := by
    rcases Nat.lt_or_ge E.length N with h1 | h1
    · rw [List.drop_of_length_le (by omega)] at hx; cases hx
    · exact h1
  rw [List.length_take] at this
  omega
end Go.Proofs.Ytmfffbafldbihaa.Bo
