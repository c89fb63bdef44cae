import Derived.Test.YtmfffbafldbihaaHx23
import Derived.Test.YtmfffbafldbihaaHqBottomMerges
import Derived.Test.YtmfffbafldbihaaBo
set_option linter.unusedVariables false
namespace Go.Proofs.Ytmfffbafldbihaa.Pure
open Go.RowKit Go.Proofs.Ytmfffbafldbihaa.H Go.Proofs.YtmfffbafldbihaaW.PrintWords Go.Proofs.Ytmfffbafldbihaa.Bo
theorem merges_awake (a b K a' b' K' : Int) (la lb : List S62) (p q r : Int) (m : List S60) (s t u : Int) (n : List S60) (k : Nat) (hk : 61 ≤ k) : l14_BottomMerges.j0 k true a b K la a' b' K' lb p q r m s t u n = some true := by
 obtain ⟨k, rfl⟩ : ∃ k', k = k' + 1 := ⟨k - 1, by omega⟩
 rw [l14_BottomMerges.j0, if_pos rfl, awake_bind k (by omega)]
theorem none_same (k : Nat) (hk : 9001 ≤ k) : l14_same.f k 0 0 0 [] 0 0 0 ([] : List S60) = some true := by
 rw [same_eq 0 0 0 0 0 0 [] [] (Nat.zero_le _) k hk, yes_true ⟨⟨rfl, rfl⟩, rfl, rfl⟩]
theorem merges_main (a b K a' b' K' : Int) (la lb : List S62) (hra : Rl la) (hrb : Rl lb) (hsa : Small la) (hsb : Small lb) (k : Nat) (hk : 200000 ≤ k) :
  l14_BottomMerges.j0 (k + 2) false a b K la a' b' K' lb a b K (la.map cv) a' b' K' (lb.map cv) = some true := by
 have aw : ((l14_awake.f k).bind fun t => some t) = some true := awake_bind k (by omega)
 rw [l14_BottomMerges.j0, if_neg (by exact Bool.noConfusion)]
 by_cases hR : Rt a b K la ∧ Rt a' b' K' lb
 ·obtain ⟨ha, hb⟩ := hR
  have j0 : ∀ (e : Int) (c : Bool) (x y z : Int) (l : List S62), (r14_Right.f (k + 1) a b K (la.map cv)).bind (fun t415 => if t415 = true then (r14_Right.f (k + 1) a' b' K' (lb.map cv)).bind fun t416 => l14_BottomMerges.j1 (k + 1) e c (!t416) a b K la a' b' K' lb a b K (la.map cv) a' b' K' (lb.map cv) x y z l else l14_BottomMerges.j1 (k + 1) e c true a b K la a' b' K' lb a b K (la.map cv) a' b' K' (lb.map cv) x y z l) = l14_BottomMerges.j1 (k + 1) e c false a b K la a' b' K' lb a b K (la.map cv) a' b' K' (lb.map cv) x y z l := fun e c x y z l => by
   rw [rright_eq a b K la (k + 1) (by omega), Option.bind_some, if_pos (yes_true ha), rright_eq a' b' K' lb (k + 1) (by omega), Option.bind_some, yes_true hb]
   rfl
  by_cases hs : a = a' ∧ b = b'
  ·obtain ⟨rfl, rfl⟩ := hs
   by_cases hK : K = K'
   ·subst hK
    obtain ⟨K, rfl⟩ := Int.eq_ofNat_of_zero_le (show 0 ≤ K by have := ha.1.1; omega)
    have h1 := ha.1.2
    have hjo : r14_Joined.f k a b (la.map cv) (lb.map cv) ((K + 1 : Nat) : Int) = match mdl la lb with | some r => some ((r.take (K + 1)).map cv, true) | none => some ([], false) := by
     rw [joined_eq a b (la.map cv) (lb.map cv) (K + 1) (by rw [List.length_map, List.length_map]; have := hsa.1; have := hsb.1; omega) (fun y hy => by
      rcases List.mem_append.1 hy with hy | hy
      ·obtain ⟨z, hz, rfl⟩ := List.mem_map.1 hy
       exact ⟨hsa.2 z hz, hra z hz⟩
      ·obtain ⟨z, hz, rfl⟩ := List.mem_map.1 hy
       exact ⟨hsb.2 z hz, hrb z hz⟩) k (by rw [List.length_map, List.length_map]; have := hsa.1; have := hsb.1; omega)]
     rw [List.map_append, ent_cv (fun y hy => (ha.2.2.1 y hy).2.1), ent_cv (fun y hy => (hb.2.2.1 y hy).2.1), mdl_append, mdl_srt la [] (by rw [List.nil_append]; exact ha.2.2.2), Option.bind_some, List.nil_append]
     cases mdl la lb <;> rfl
    have ew : wrap64 ((K : Int) + 1) = ((K + 1 : Nat) : Int) := by rw [w64 (by omega) (by omega)]; rfl
    rw [merge_eq a b K la lb ha hb hra hrb (k + 1) (by omega)]
    cases hm : mdl la lb with
    | none =>
     rw [hm] at hjo
     simp only [Option.bind_some]
     rw [none_same (k + 1) (by omega), Option.bind_some, j0, l14_BottomMerges.j1, if_neg (by decide), if_neg (by simp), if_pos rfl, ew, hjo, Option.bind_some, if_neg (by decide), if_pos rfl, if_pos rfl, aw]
    | some m =>
     rw [hm] at hjo
     simp only [Option.bind_some]
     have hl : (m.take (K + 1)).length ≤ 9000 := by rw [List.length_take]; omega
     rw [same_eq a b K 0 0 0 _ [] hl (k + 1) (by omega), Option.bind_some, j0, l14_BottomMerges.j1, if_neg (by decide), if_neg (by simp), if_pos rfl, ew, hjo, Option.bind_some]
     simp only
     rw [if_pos trivial, if_pos trivial, same_eq a b K a b K _ _ hl k (by omega), Option.bind_some, if_pos (yes_true ⟨⟨rfl, rfl⟩, rfl, rfl⟩), aw]
   ·rw [merge_kind a b K K' la lb ha hb hK (k + 1) (by omega), Option.bind_some]
    simp only
    rw [none_same (k + 1) (by omega), Option.bind_some, j0, l14_BottomMerges.j1, if_neg (by decide), if_neg (by simp), if_neg hK, if_pos rfl, if_pos rfl, aw]
  ·rw [merge_seed a b a' b' K K' la lb ha hb hs (k + 1) (by omega), Option.bind_some]
   simp only
   rw [none_same (k + 1) (by omega), Option.bind_some, j0, l14_BottomMerges.j1, if_neg (by decide), if_pos (by rw [← Bool.not_and, Bool.not_eq_true', ← Bool.not_eq_true]; simpa using hs), if_pos rfl, if_pos rfl, aw]
 ·rw [merge_bad a b a' b' K K' la lb hR (k + 1) (by omega), Option.bind_some]
  simp only
  rw [none_same (k + 1) (by omega), Option.bind_some, rright_eq a b K la (k + 1) (by omega), Option.bind_some]
  have e : l14_BottomMerges.j1 (k + 1) 1 true true a b K la a' b' K' lb a b K (la.map cv) a' b' K' (lb.map cv) 0 0 0 [] = some true := by
   rw [l14_BottomMerges.j1, if_pos rfl, if_pos rfl, if_pos rfl, aw]
  by_cases ha : Rt a b K la
  ·rw [if_pos (yes_true ha), rright_eq a' b' K' lb (k + 1) (by omega), Option.bind_some, yes_false (fun hb => hR ⟨ha, hb⟩)]
   exact e
  ·rw [if_neg (by rw [yes_false ha]; decide)]
   exact e
theorem ok_len {l : List S62} (h : Ok25 l) : l.length < 3518437208883 := by have := h.1; omega
theorem ok_rl {l : List S62} (h : Ok25 l) : Rl l := fun y hy => by
 obtain ⟨⟨p1, p2⟩, p3, p4⟩ := (h.2 y hy).2.2
 exact ⟨⟨p1, by omega⟩, p3, by omega⟩
theorem BottomMerges : l14_BottomMerges.Pure := by
 intro x y hx hy
 obtain ⟨⟨a, b⟩, K, la⟩ := x
 obtain ⟨⟨a', b'⟩, K', lb⟩ := y
 have ha := ok_len hx.2.2
 have hb := ok_len hy.2.2
 have hra := ok_rl hx.2.2
 have hrb := ok_rl hy.2.2
 simp only at ha hb hra hrb
 refine ⟨la.length + lb.length + 200002, ?_⟩
 simp only
 obtain ⟨k, hk'⟩ : ∃ k, k = la.length + lb.length + 200000 := ⟨_, rfl⟩
 rw [show la.length + lb.length + 200002 = k + 2 by omega]
 unfold l14_BottomMerges.f
 rw [ref_eq a b K la ha (k + 2) (by omega), Option.bind_some, ref_eq a' b' K' lb hb (k + 2) (by omega), Option.bind_some]
 simp only
 rw [small_eq a b K la (k + 2) (by omega), Option.bind_some]
 by_cases hsa : Small la
 ·rw [if_pos (yes_true hsa), small_eq a' b' K' lb (k + 2) (by omega), Option.bind_some]
  by_cases hsb : Small lb
  ·rw [yes_true hsb]
   exact merges_main a b K a' b' K' la lb hra hrb hsa hsb k (by omega)
  ·rw [yes_false hsb]
   exact merges_awake a b K a' b' K' la lb a b K (la.map cv) a' b' K' (lb.map cv) (k + 2) (by omega)
 ·rw [if_neg (by rw [yes_false hsa]; decide)]
  exact merges_awake a b K a' b' K' la lb a b K (la.map cv) a' b' K' (lb.map cv) (k + 2) (by omega)
end Go.Proofs.Ytmfffbafldbihaa.Pure
