import Derived.Test.YtpbiobbddgipkaaHqStrataMerges
import Derived.Test.YtpbiobbddgipkaaSt
set_option linter.unusedVariables false
set_option linter.unusedSimpArgs false
namespace Go.Proofs.Ytpbiobbddgipkaa.Pure
open Go.RowKit Go.Proofs.Ytpbiobbddgipkaa.H Go.Proofs.YtpbiobbddgipkaaW.PrintWords Go.Proofs.YtpbiobbddgipkaaW.PrintMore Go.Proofs.Ytpbiobbddgipkaa.Bo
theorem merges_awake (a b L K a' b' L' K' : Int) (la lb : List S42) (p q r s : Int) (m : List S77) (p' q' r' s' : Int) (n : List S77) (k : Nat) (hk : 61 ≤ k) : l21_StrataMerges.j0 k true a b L K la a' b' L' K' lb p q r s m p' q' r' s' n = some true := by
 obtain ⟨k, rfl⟩ : ∃ k', k = k' + 1 := ⟨k - 1, by omega⟩
 rw [l21_StrataMerges.j0, if_pos rfl, awake_bind k (by omega)]
theorem none_ref (k : Nat) (hk : 9200 ≤ k) : l21_Ref.f k 0 0 0 0 [] = some (0, 0, 0, 0, []) :=
 sref_eq [] (by simp) 1 (fun x hx => by cases hx) 0 0 0 0 k (by simp; omega)
theorem none_same (k : Nat) (hk : 9200 ≤ k) : r21_Same.f k 0 0 0 0 [] 0 0 0 0 [] = some true :=
 ssame_eq 0 0 0 0 [] (by simp) (fun x hx => by cases hx) k (by omega)
theorem res_len {a b : Int} {L K : Nat} {l : List S42} (hL : L ≤ 64) (hK : K ≤ 1024) (h : ∀ x ∈ l, Lb a b (K : Int) x) : (l.take L).length ≤ 100 ∧ ∀ x ∈ l.take L, x.f2.f2.length ≤ 1025 := by
 refine ⟨by rw [List.length_take]; omega, fun x hx => ?_⟩
 have h1 := h x (List.mem_of_mem_take hx)
 have h2 := h1.2.2.1.2.1
 rw [h1.2.2.2.2.1] at h2
 omega
theorem merges_main (a b L K a' b' L' K' : Int) (la lb : List S42) (hra : Rs la) (hrb : Rs lb) (hsa : la.length ≤ 12 ∧ ∀ x ∈ la, Sm x) (hsb : lb.length ≤ 12 ∧ ∀ x ∈ lb, Sm x) (k : Nat) (hk : 400000 ≤ k) :
  l21_StrataMerges.j0 (k + 2) false a b L K la a' b' L' K' lb a b L K (la.map cl) a' b' L' K' (lb.map cl) = some true := by
 have aw : ((l21_awake.f k).bind fun t => some t) = some true := awake_bind k (by omega)
 have za : ∀ x ∈ la, x.f0.size ≤ 100 := fun x hx => (hsa.2 x hx).1
 have zb : ∀ x ∈ lb, x.f0.size ≤ 100 := fun x hx => (hsb.2 x hx).1
 rw [l21_StrataMerges.j0, if_neg (by exact Bool.noConfusion)]
 by_cases hR : St a b L K la ∧ St a' b' L' K' lb
 ·obtain ⟨hA, hB⟩ := hR
  have jr : ∀ (e : Int) (d : Bool) (m1 m2 m3 m4 : Int) (ml : List S42), ((r21_Right.f (k + 1) a b L K (la.map cl)).bind fun e1 => (if e1 = true then ((r21_Right.f (k + 1) a' b' L' K' (lb.map cl)).bind fun g => (l21_StrataMerges.j1 (k + 1) e d (!g) a b L K la a' b' L' K' lb a b L K (la.map cl) a' b' L' K' (lb.map cl) m1 m2 m3 m4 ml)) else (l21_StrataMerges.j1 (k + 1) e d true a b L K la a' b' L' K' lb a b L K (la.map cl) a' b' L' K' (lb.map cl) m1 m2 m3 m4 ml)))
    = l21_StrataMerges.j1 (k + 1) e d false a b L K la a' b' L' K' lb a b L K (la.map cl) a' b' L' K' (lb.map cl) m1 m2 m3 m4 ml := fun e d m1 m2 m3 m4 ml => by
   rw [srr_eq a b L K la hsa.1 za (k + 1) (by omega), Option.bind_some, if_pos (yes_true hA), srr_eq a' b' L' K' lb hsb.1 zb (k + 1) (by omega), Option.bind_some, yes_true hB]
   rfl
  by_cases hs : a = a' ∧ b = b'
  ·obtain ⟨rfl, rfl⟩ := hs
   by_cases hk2 : L = L' ∧ K = K'
   ·obtain ⟨rfl, rfl⟩ := hk2
    obtain ⟨L, rfl⟩ := Int.eq_ofNat_of_zero_le (show 0 ≤ L by have := hA.1.1; omega)
    obtain ⟨K, rfl⟩ := Int.eq_ofNat_of_zero_le (show 0 ≤ K by have := hA.2.1.1; omega)
    have hL1 := hA.1.2
    have hK1 := hA.2.1
    have rm := rmerge_eq hA hB hra hrb hsa.1 hsb.1 (fun x hx => by have := (hsa.2 x hx).2.1; omega) (fun x hx => by have := (hsb.2 x hx).2.1; omega) k (by omega)
    rw [smerge_eq hA hB hra hrb (k + 1) (by omega)]
    cases hm : fr a b K la la lb with
    | none =>
     rw [hm] at rm
     simp only [Option.map_none, mres, Option.bind_some]
     rw [none_ref (k + 1) (by omega), Option.bind_some]
     simp only
     rw [none_same (k + 1) (by omega), Option.bind_some, jr, l21_StrataMerges.j1, if_neg (by decide), if_neg (by simp), if_pos rfl, if_pos rfl, rm]
     simp only [dres, Option.bind_some]
     rw [if_pos trivial, none_ref k (by omega), Option.bind_some]
     simp only
     rw [none_same k (by omega), Option.bind_some, if_pos rfl, aw]
    | some r =>
     rw [hm] at rm
     have ok := fr_ok hA.2.2.2.1 hra hK1 lb la r (fun y hy => ⟨hB.2.2.2.1 y hy, hrb y hy⟩) hA.2.2.2.1 hm
     obtain ⟨l1, l2⟩ := res_len (L := L) (by omega) (by omega) ok
     have rf : ∀ j, 2000 ≤ j → l21_Ref.f j a b (L : Int) (K : Int) (r.take L) = some (a, b, (L : Int), (K : Int), (r.take L).map cl) := fun j hj =>
      sref_eq _ (by omega) 1026 (fun x hx => by have := l2 x hx; omega) a b L K j (by omega)
     obtain ⟨s, hs⟩ := ssame_none a b (L : Int) (K : Int) ((r.take L).map cl) (k + 1) (by omega)
     simp only [Option.map_some, mres, Option.bind_some]
     rw [rf (k + 1) (by omega), Option.bind_some]
     simp only
     rw [hs, Option.bind_some, jr, l21_StrataMerges.j1, if_neg (by decide), if_neg (by simp), if_pos rfl, if_pos rfl, rm]
     simp only [dres, Option.bind_some]
     rw [if_pos trivial, rf k (by omega), Option.bind_some]
     simp only
     rw [ssame_eq a b L K _ l1 (fun x hx => by have := l2 x hx; omega) k (by omega), Option.bind_some, if_pos rfl, aw]
   ·rw [smerge_kind a b L K L' K' la lb hA hB hk2 (k + 1) (by omega), Option.bind_some]
    simp only
    rw [none_ref (k + 1) (by omega), Option.bind_some]
    simp only
    rw [none_same (k + 1) (by omega), Option.bind_some, jr, l21_StrataMerges.j1, if_neg (by decide), if_neg (by simp)]
    by_cases h1 : L = L'
    ·rw [if_pos h1, if_neg (fun h2 => hk2 ⟨h1, h2⟩), if_pos rfl, if_pos rfl, aw]
    ·rw [if_neg h1, if_pos rfl, if_pos rfl, aw]
  ·rw [smerge_seed a b L K a' b' L' K' la lb hA hB hs (k + 1) (by omega), Option.bind_some]
   simp only
   rw [none_ref (k + 1) (by omega), Option.bind_some]
   simp only
   rw [none_same (k + 1) (by omega), Option.bind_some, jr, l21_StrataMerges.j1, if_neg (by decide), if_pos (by rw [← Bool.not_and, Bool.not_eq_true', ← Bool.not_eq_true]; simpa using hs), if_pos rfl, if_pos rfl, aw]
 ·rw [smerge_bad a b L K a' b' L' K' la lb hR (k + 1) (by omega), Option.bind_some]
  simp only
  rw [none_ref (k + 1) (by omega), Option.bind_some]
  simp only
  rw [none_same (k + 1) (by omega), Option.bind_some, srr_eq a b L K la hsa.1 za (k + 1) (by omega), Option.bind_some]
  have e : l21_StrataMerges.j1 (k + 1) 1 true true a b L K la a' b' L' K' lb a b L K (la.map cl) a' b' L' K' (lb.map cl) 0 0 0 0 [] = some true := by
   rw [l21_StrataMerges.j1, if_pos rfl, if_pos rfl, if_pos rfl, aw]
  by_cases hA : St a b L K la
  ·rw [if_pos (yes_true hA), srr_eq a' b' L' K' lb hsb.1 zb (k + 1) (by omega), Option.bind_some, yes_false (fun hB => hR ⟨hA, hB⟩)]
   exact e
  ·rw [if_neg (by rw [yes_false hA]; decide)]
   exact e
theorem lens (l : List S42) : ∃ B, ∀ x ∈ l, x.f2.f2.length < B := by
 induction l with
 | nil => exact ⟨0, fun x hx => by cases hx⟩
 | cons y l ih =>
  obtain ⟨B, h⟩ := ih
  refine ⟨B + y.f2.f2.length + 1, fun x hx => ?_⟩
  rcases List.mem_cons.1 hx with e | e
  ·rw [e]; omega
  ·have := h x e; omega
theorem ok_len {l : List S42} (h : Ok26 l) : l.length < 1954687338268 := by have := h.1; omega
theorem ok_lens {l : List S42} (h : Ok26 l) : ∀ x ∈ l, x.f2.f2.length < 3518437208883 := fun x hx => by have := (h.2 x hx).2.2.2.2.1; omega
theorem ok_rs {l : List S42} (h : Ok26 l) : Rs l := fun x hx y hy => by
 obtain ⟨⟨p1, p2⟩, p3, p4⟩ := ((h.2 x hx).2.2.2.2.2 y hy).2.2
 exact ⟨⟨p1, by omega⟩, p3, by omega⟩
theorem StrataMerges : l21_StrataMerges.Pure := by
 intro x y hx hy
 obtain ⟨⟨a, b⟩, L, K, la⟩ := x
 obtain ⟨⟨a', b'⟩, L', K', lb⟩ := y
 have ha := hx.2.2.2
 have hb := hy.2.2.2
 simp only at ha hb
 obtain ⟨A, hA⟩ := lens la
 obtain ⟨B, hB⟩ := lens lb
 refine ⟨la.length + lb.length + A + B + 400002, ?_⟩
 simp only
 obtain ⟨k, hk'⟩ : ∃ k, k = la.length + lb.length + A + B + 400000 := ⟨_, rfl⟩
 rw [show la.length + lb.length + A + B + 400002 = k + 2 by omega]
 unfold l21_StrataMerges.f
 rw [sref_eq la (ok_len ha) A (fun x hx => ⟨ok_lens ha x hx, hA x hx⟩) a b L K (k + 2) (by omega), Option.bind_some, sref_eq lb (ok_len hb) B (fun x hx => ⟨ok_lens hb x hx, hB x hx⟩) a' b' L' K' (k + 2) (by omega), Option.bind_some]
 simp only
 rw [ssmall_eq a b L K la (k + 2) (by omega), Option.bind_some]
 by_cases hsa : la.length ≤ 12 ∧ ∀ x ∈ la, Sm x
 ·rw [if_pos (yes_true hsa), ssmall_eq a' b' L' K' lb (k + 2) (by omega), Option.bind_some]
  by_cases hsb : lb.length ≤ 12 ∧ ∀ x ∈ lb, Sm x
  ·rw [yes_true hsb]
   exact merges_main a b L K a' b' L' K' la lb (ok_rs ha) (ok_rs hb) hsa hsb k (by omega)
  ·rw [yes_false hsb]
   exact merges_awake a b L K a' b' L' K' la lb a b L K (la.map cl) a' b' L' K' (lb.map cl) (k + 2) (by omega)
 ·rw [if_neg (by rw [yes_false hsa]; decide)]
  exact merges_awake a b L K a' b' L' K' la lb a b L K (la.map cl) a' b' L' K' (lb.map cl) (k + 2) (by omega)
end Go.Proofs.Ytpbiobbddgipkaa.Pure
