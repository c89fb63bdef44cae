/- The law BottomCuts, in plain Lean: a sample that is cut to fewer is what would have been kept by that number from the beginning on; cut, and merged, is merged, and cut. -/
import Derived.Test.YtmfffbafldbihaaHx25
import Derived.Test.YtmfffbafldbihaaHqBottomCuts
import Derived.Test.YtmfffbafldbihaaBo6
set_option linter.unusedVariables false
namespace Go.Proofs.Ytmfffbafldbihaa.Pure
open Go.RowKit Go.Proofs.Ytmfffbafldbihaa.H Go.Proofs.YtmfffbafldbihaaW.PrintWords Go.Proofs.Ytmfffbafldbihaa.Bo

theorem add_full (a b : Int) (K : Nat) (hK1 : 1 ≤ K) (hK2 : K ≤ 1024) (L L' : List S62) (hL : Fine a b L) (key : ByteArray) (n : Int) (hs : key.size ≤ 64) (h0 : 0 < n) (h1 : n ≤ 18446744073709551615) (hi : ins (en a b key n) L = some L') (k : Nat) (hk : 1100 ≤ k) :
    bottom_Add.f k a b (K : Int) (L.take (K + 1)) key n = some (a, b, (K : Int), L'.take (K + 1), 0) := by
  obtain ⟨m', h2, h3⟩ := ins_take (K + 1) hi
  rw [Add_eq a b K (L.take (K + 1)) (fine_rt hL K hK1 hK2) (fine_take hL _).2.2 key n hs h0 h1 k hk, h2]
  simp only [res]
  rw [h3]
theorem New_eq (a b : Int) (n : Nat) (h1 : 1 ≤ n) (h2 : n ≤ 1024) : bottom_New.f a b (n : Int) = some (a, b, (n : Int), [], 0) := by
  unfold bottom_New.f
  rw [if_neg (by omega), if_neg (by omega)]
theorem merge_full (a b : Int) (K : Nat) (hK1 : 1 ≤ K) (hK2 : K ≤ 1024) (L C : List S62) (hL : Fine a b L) (hC : Fine a b C) {B : Int} (hB : 0 ≤ B) (bL : Bnd B L) (bC : Bnd B C) (ht : B + 1025 * B < top) {r : List S62} (hr : mdl L C = some r) (k : Nat) (hk : 3000 ≤ k) :
    ∃ r', bottom_Merge.f k a b (K : Int) (L.take (K + 1)) a b (K : Int) (C.take (K + 1)) = some (a, b, (K : Int), r'.take (K + 1), 0) ∧ r'.take (K + 1) = r.take (K + 1) ∧ Fine a b r' := by
  have fL := fine_take hL (K + 1)
  have fC := fine_take hC (K + 1)
  have bL' : Bnd B (L.take (K + 1)) := fun y hy => bL y (List.mem_of_mem_take hy)
  have hlen : ((C.take (K + 1)).length : Int) ≤ 1025 := by rw [List.length_take]; omega
  have hmul : ((C.take (K + 1)).length : Int) * B ≤ 1025 * B := Int.mul_le_mul_of_nonneg_right hlen hB
  have nC : ∀ x ∈ C.take (K + 1), 0 ≤ num x.f2 ∧ num x.f2 ≤ B := fun x hx => ⟨num_nonneg (fC.2.2 x hx), bC x (List.mem_of_mem_take hx)⟩
  obtain ⟨r', h1⟩ := mdl_bnd hB (C.take (K + 1)) (L.take (K + 1)) B hB bL' nC (by omega)
  obtain ⟨q, h2⟩ := mdl_bnd hB (C.take (K + 1)) L B hB bL nC (by omega)
  refine ⟨r', ?_, ?_, ?_⟩
  · rw [merge_eq a b K _ _ (fine_rt hL K hK1 hK2) (fine_rt hC K hK1 hK2) fL.2.2 fC.2.2 k hk, h1]
  · rw [mdl_rel (C.take (K + 1)) _ _ r' q h1 h2 (by rw [List.take_take, Nat.min_self]), mdl_first hC.2.1 hr h2]
  · exact fine_mdl _ _ _ fL (fun x hx => ⟨fC.1 x hx, fC.2.2 x hx⟩) h1
theorem cuts_end (a b : Int) (n m : Nat) (hm1 : 1 ≤ m) (hmn : m ≤ n) (hn : n ≤ 20) (L C : List S62) (hL : Fine a b L) (hC : Fine a b C) {B : Int} (hB : 0 ≤ B) (bL : Bnd B L) (bC : Bnd B C) (ht : B * 2000 < top) (hCl : (C.length : Int) ≤ 100) (P : List S47) (i len : Int) (hi : ¬ i < len) (k : Nat) (hk : 20000 ≤ k) :
    samphirelaw14_BottomCuts.l0 (k + 1) (m : Int) 0 P len i a b (n : Int) (L.take (n + 1)) a b (m : Int) (L.take (m + 1)) a b (n : Int) (C.take (n + 1)) = some true := by
  have nC : ∀ x ∈ C, 0 ≤ num x.f2 ∧ num x.f2 ≤ B := fun x hx => ⟨num_nonneg (hC.2.2 x hx), bC x hx⟩
  have hmul : (C.length : Int) * B ≤ 100 * B := Int.mul_le_mul_of_nonneg_right hCl hB
  obtain ⟨r, hr⟩ := mdl_bnd hB C L B hB bL nC (by omega)
  obtain ⟨r1, m1, e1, f1⟩ := merge_full a b m hm1 (by omega) L C hL hC hB bL bC (by omega) hr k (by omega)
  obtain ⟨r2, m2, e2, f2⟩ := merge_full a b n (by omega) (by omega) L C hL hC hB bL bC (by omega) hr k (by omega)
  have cut : ∀ X : List S62, Fine a b X → bottom_Cut.f k a b (n : Int) (X.take (n + 1)) (m : Int) = some (a, b, (m : Int), X.take (m + 1), 0) := fun X hX => by
    rw [Cut_eq a b n _ (fine_rt hX n (by omega) (by omega)) m hm1 hmn k (by omega), List.take_take, Nat.min_eq_left (by omega)]
  have e3 : r2.take (m + 1) = r1.take (m + 1) := by
    rw [e1]
    have := congrArg (List.take (m + 1)) e2
    rwa [List.take_take, List.take_take, Nat.min_eq_left (by omega)] at this
  have l9 : ∀ X : List S62, (X.take (m + 1)).length ≤ 9000 := fun X => by rw [List.length_take]; omega
  have aw := awake_bind k (by omega)
  rw [samphirelaw14_BottomCuts.l0, if_neg hi, cut L hL, Option.bind_some, cut C hC, Option.bind_some]
  simp only
  rw [m1, Option.bind_some, m2, Option.bind_some]
  simp only
  rw [cut r2 f2, Option.bind_some]
  simp only
  rw [if_pos trivial, if_pos trivial, if_pos trivial, if_pos trivial, ref_eq a b m _ (by have := l9 L; omega) k (by have := l9 L; omega), Option.bind_some]
  simp only
  rw [same_eq a b m a b m _ _ (l9 L) k (by omega), Option.bind_some, if_pos (yes_true ⟨⟨rfl, rfl⟩, rfl, rfl⟩), ref_eq a b m _ (by have := l9 r2; omega) k (by have := l9 r2; omega), Option.bind_some]
  simp only
  rw [same_eq a b m a b m _ _ (l9 r1) k (by omega), Option.bind_some, if_pos (yes_true ⟨⟨rfl, rfl⟩, rfl, by rw [e3]⟩)]
  exact aw
theorem P_rd (P : List S47) (i : Nat) (h : i < P.length) : rd_T47 P (i : Int) = P[i] := by
  show P.getD (i : Int).toNat z47 = _
  rw [Int.toNat_natCast, List.getD_eq_getElem?_getD, List.getElem?_eq_getElem h]
  rfl
theorem cuts_l0 (C64 : Int) (hC64 : C64 = 18446744073709551615) (a b : Int) (n m : Nat) (hm1 : 1 ≤ m) (hmn : m ≤ n) (hn : n ≤ 20) (P : List S47) (hP : P.length ≤ 60) (hok : ∀ p ∈ P, 0 ≤ p.f1 ∧ p.f1 ≤ C64) (F : Nat) (hF : 20001 ≤ F) : ∀ d k i (L C : List S62), P.length = i + d → 2 * d + F < k → Fine a b L → Fine a b C → Bnd (i * C64) L → Bnd (i * C64) C → C.length ≤ i →
    samphirelaw14_BottomCuts.l0 k (m : Int) 0 P (P.length : Int) (i : Int) a b (n : Int) (L.take (n + 1)) a b (m : Int) (L.take (m + 1)) a b (n : Int) (C.take (n + 1)) = some true
  | 0, k, i, L, C, hi, hk, hL, hC, bL, bC, hl => by
    obtain ⟨k, rfl⟩ : ∃ k', k = k' + 1 := ⟨k - 1, by omega⟩
    have h60 : (i : Int) * C64 ≤ 60 * C64 := Int.mul_le_mul_of_nonneg_right (by omega) (by omega)
    have h0 : 0 ≤ (i : Int) * C64 := Int.mul_nonneg (by omega) (by omega)
    exact cuts_end a b n m hm1 hmn hn L C hL hC h0 bL bC (by unfold top; omega) (by omega) P _ _ (by omega) k (by omega)
  | d + 1, k, i, L, C, hi, hk, hL, hC, bL, bC, hl => by
    obtain ⟨k, rfl⟩ : ∃ k', k = k' + 1 + 1 := ⟨k - 2, by omega⟩
    have hi' : i < P.length := by omega
    have hp := hok _ (List.getElem_mem hi')
    have h60 : (i : Int) * C64 ≤ 60 * C64 := Int.mul_le_mul_of_nonneg_right (by omega) (by omega)
    have h0 : 0 ≤ (i : Int) * C64 := Int.mul_nonneg (by omega) (by omega)
    have hnext : ((i + 1 : Nat) : Int) * C64 = (i : Int) * C64 + C64 := by rw [show ((i + 1 : Nat) : Int) = (i : Int) + 1 by omega, Int.add_mul, Int.one_mul]
    have no : ∀ (x17 p q : Int) (key : ByteArray) (s t : Int), samphirelaw14_BottomCuts.j1 (k + 1) (m : Int) 0 x17 P p q true a b (n : Int) (L.take (n + 1)) a b (m : Int) (L.take (m + 1)) a b (n : Int) (C.take (n + 1)) key s t = some true := fun x17 p q key s t => by
      rw [samphirelaw14_BottomCuts.j1, if_pos rfl, awake_bind k (by omega)]
    rw [samphirelaw14_BottomCuts.l0, if_pos (by omega), if_pos (by omega), if_pos (by omega), P_rd P i hi']
    by_cases hs : ((P[i]).f0.size : Int) > 64
    · rw [if_pos hs, no]
    · rw [if_neg hs]
      by_cases hz : P[i].f1 = 0
      · rw [show (P[i].f1 == 0) = true by rw [hz]; rfl, no]
      · rw [show (P[i].f1 == 0) = false by rw [beq_eq_false_iff_ne]; exact hz, samphirelaw14_BottomCuts.j1, if_neg (by decide)]
        have hpos : 0 < P[i].f1 := by omega
        have ge := en_ge (a := a) (b := b) (key := P[i].f0) (n := P[i].f1) (by omega) hpos
        have rg := en_rng (a := a) (b := b) (key := P[i].f0) (n := P[i].f1) (by omega) (by omega)
        obtain ⟨L', h1, b1⟩ := ins_bnd (x := en a b P[i].f0 P[i].f1) (C := C64) h0 (by rw [num_en]; omega) (by rw [num_en]; omega) (by unfold top; omega) bL
        obtain ⟨C', h2, b2⟩ := ins_bnd (x := en a b P[i].f0 P[i].f1) (C := C64) h0 (by rw [num_en]; omega) (by rw [num_en]; omega) (by unfold top; omega) bC
        have fL := fine_ins hL ge rg h1
        have fC := fine_ins hC ge rg h2
        have hlen := ins_length h2
        rw [add_full a b n (by omega) (by omega) L L' hL P[i].f0 P[i].f1 (by omega) hpos (by omega) h1 k (by omega), Option.bind_some, add_full a b m hm1 (by omega) L L' hL P[i].f0 P[i].f1 (by omega) hpos (by omega) h1 k (by omega), Option.bind_some, inc (show i < P.length by omega) (by omega)]
        simp only
        by_cases he : Int.tmod (i : Int) 2 = 0
        · rw [if_pos he, add_full a b n (by omega) (by omega) C C' hC P[i].f0 P[i].f1 (by omega) hpos (by omega) h2 k (by omega), Option.bind_some]
          exact cuts_l0 C64 hC64 a b n m hm1 hmn hn P hP hok F hF d k (i + 1) L' C' (by omega) (by omega) fL fC (by rw [hnext]; exact b1) (by rw [hnext]; exact b2) (by omega)
        · rw [if_neg he]
          exact cuts_l0 C64 hC64 a b n m hm1 hmn hn P hP hok F hF d k (i + 1) L' C (by omega) (by omega) fL hC (by rw [hnext]; exact b1) (fun y hy => by have := bC y hy; rw [hnext]; omega) (by omega)
theorem BottomCuts : samphirelaw14_BottomCuts.Pure := by
  intro x p q P hx hp hq hP
  obtain ⟨a, b⟩ := x
  obtain ⟨p, rfl⟩ := Int.eq_ofNat_of_zero_le hp.1
  obtain ⟨q, rfl⟩ := Int.eq_ofNat_of_zero_le hq.1
  have hp2 := hp.2
  have hq2 := hq.2
  have en1 : wrap64 (1 + wrap64 (Int.tmod (p : Int) 20)) = ((1 + p % 20 : Nat) : Int) := by
    rw [Int.tmod_eq_emod_of_nonneg (by omega), w64 (x := (p : Int) % 20) (by omega) (by omega), w64 (by omega) (by omega)]
    omega
  have em1 : wrap64 (1 + Int.tmod (wrap64 (q : Int)) ((1 + p % 20 : Nat) : Int)) = ((1 + q % (1 + p % 20) : Nat) : Int) := by
    have h1 : (q : Int) % ((1 + p % 20 : Nat) : Int) = ((q % (1 + p % 20) : Nat) : Int) := rfl
    have h2 : q % (1 + p % 20) < 1 + p % 20 := Nat.mod_lt _ (by omega)
    rw [w64 (x := (q : Int)) (by omega) (by omega), Int.tmod_eq_emod_of_nonneg (by omega), h1, w64 (by omega) (by omega)]
    omega
  have h2 : q % (1 + p % 20) < 1 + p % 20 := Nat.mod_lt _ (by omega)
  refine ⟨50000, ?_⟩
  simp only
  unfold samphirelaw14_BottomCuts.f
  rw [en1, em1, if_neg (by omega)]
  by_cases hl : (P.length : Int) > 60
  · rw [if_pos hl, awake_bind _ (by decide)]
  · rw [if_neg hl, New_eq a b _ (by omega) (by omega), Option.bind_some, New_eq a b _ (by omega) (by omega), Option.bind_some, Option.bind_some]
    have f0 : Fine a b [] := ⟨fun _ h => (by cases h), List.Pairwise.nil, fun _ h => (by cases h)⟩
    have b0 : Bnd ((0 : Nat) * 18446744073709551615) [] := fun _ h => (by cases h)
    have h := cuts_l0 18446744073709551615 rfl a b (1 + p % 20) (1 + q % (1 + p % 20)) (by omega) (by omega) (by omega) P (by omega) (fun y hy => by
      have := (hP.2 y hy).2.1
      exact ⟨this.1, this.2⟩) 20001 (Nat.le_refl _) P.length 50000 0 [] [] (by omega) (by omega) f0 f0 b0 b0 (Nat.le_refl _)
    rw [List.take_nil, List.take_nil] at h
    exact h
end Go.Proofs.Ytmfffbafldbihaa.Pure
