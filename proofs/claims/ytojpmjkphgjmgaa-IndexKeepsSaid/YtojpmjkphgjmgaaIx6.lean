import Derived.Test.YtojpmjkphgjmgaaIx3
import Derived.Test.YtojpmjkphgjmgaaHx10
import Derived.Test.YtojpmjkphgjmgaaHx17
set_option linter.unusedVariables false
set_option linter.unusedSimpArgs false
namespace Go.Proofs.Ytojpmjkphgjmgaa.Ix
open Go.RowKit Go.Proofs.Ytojpmjkphgjmgaa.H Go.Proofs.YtojpmjkphgjmgaaW.PrintWords Go.Proofs.YtojpmjkphgjmgaaW.PrintMore
theorem ds_mid {n h f i : Nat} (hh : h < n) (hf : f < n) (hi : i < n) : ds n f i ≤ ds n h i ↔ ds n h f ≤ ds n h i := by
 unfold ds
 repeat' split
 all_goals omega
theorem ds_add {n h f i : Nat} (hh : h < n) (hf : f < n) (hi : i < n) (hle : ds n h f ≤ ds n h i) : ds n h f + ds n f i = ds n h i := by
 unfold ds at *
 repeat' split at hle
 all_goals repeat' split
 all_goals omega
theorem ds_pass {n h f i j : Nat} (hh : h < n) (hf : f < n) (hi : i < n) (hj : j < n) (h1 : ds n h f < ds n h j) (h2 : ds n f i < ds n f j) : ds n h i < ds n h j := by
 have h3 := ds_add hh hf hj (Nat.le_of_lt h1)
 have h4 := ds_lt hh hj
 unfold ds at *
 repeat' split at h1
 all_goals repeat' split at h2
 all_goals repeat' split
 all_goals omega
theorem ds_pos {n a b : Nat} (ha : a < n) (hb : b < n) (h : a ≠ b) : 0 < ds n a b := by
 unfold ds
 split <;> omega
theorem ds_int {n h i : Nat} (hh : h < n) (hi : i < n) (hn : n ≤ 10000) : Int.tmod (wrap64 (wrap64 ((i : Int) - (h : Int)) + (n : Int))) (n : Int) = ((ds n h i : Nat) : Int) := by
 rw [w64 (x := (i : Int) - (h : Int)) (by omega) (by omega), w64 (by omega) (by omega), Int.tmod_eq_emod_of_nonneg (by omega)]
 unfold ds
 split
 ·rw [show (i : Int) - (h : Int) + (n : Int) = ((i - h : Nat) : Int) + (n : Int) by omega, Int.add_emod_right, Int.emod_eq_of_lt (by omega) (by omega)]
 ·rw [Int.emod_eq_of_lt (by omega) (by omega)]
  omega
def Cl (l : List S60) : Prop := (∀ j, j < l.length → ¬ us l j → G l j = z60) ∧ ∀ j, j < l.length → us l j → (ky l j).size ≤ 64
def Uni (l : List S60) : Prop := ∀ i j, i < l.length → j < l.length → us l i → us l j → ky l i = ky l j → i = j
structure Hole (a b : Int) (g : List S60) (f i : Nat) : Prop where
 free : ¬ us g f
 uni : Uni g
 way : ∀ j, j < g.length → us g j → ∀ p, p < g.length → ds g.length (hm a b g.length (ky g j)) p < ds g.length (hm a b g.length (ky g j)) j → p = f ∨ us g p
 late : ∀ j, j < g.length → us g j → ds g.length (hm a b g.length (ky g j)) f < ds g.length (hm a b g.length (ky g j)) j → ds g.length f i ≤ ds g.length f j
def mv (g : List S60) (f i : Nat) : List S60 := (g.set f (G g i)).set i z60
theorem z_free : ¬ (z60.f0 = true) := by decide
section
variable {a b : Int} {g : List S60} {f i : Nat}
theorem mv_len : (mv g f i).length = g.length := by unfold mv; rw [List.length_set, List.length_set]
theorem mv_G (hf : f < g.length) (hi : i < g.length) (p : Nat) : G (mv g f i) p = if i = p then z60 else if f = p then G g i else G g p := by
 unfold mv
 rw [G_set (by rw [List.length_set]; exact hi), G_set hf]
theorem hole_mv (h : Hole a b g f i) (hf : f < g.length) (hi : i < g.length) (hn : 2 ≤ g.length) (hne : i ≠ f) (hu : us g i) (hd : ds g.length f i ≤ ds g.length (hm a b g.length (ky g i)) i) : Hole a b (mv g f i) i (nx g.length i) := by
 have hH : ∀ k, hm a b g.length k < g.length := fun k => hm_lt (by omega) k
 have us_iff : ∀ p, us (mv g f i) p ↔ (p ≠ i ∧ (p = f ∨ us g p)) := by
  intro p
  unfold us
  rw [mv_G hf hi]
  by_cases e : i = p
  ·rw [if_pos e]
   exact ⟨fun h => absurd h z_free, fun h => absurd e.symm h.1⟩
  ·rw [if_neg e]
   by_cases e2 : f = p
   ·rw [if_pos e2]
    exact ⟨fun _ => ⟨fun h => e h.symm, .inl e2.symm⟩, fun _ => hu⟩
   ·rw [if_neg e2]
    exact ⟨fun h => ⟨fun h => e h.symm, .inr h⟩, fun h => h.2.resolve_left (fun h => e2 h.symm)⟩
 have ky_f : ky (mv g f i) f = ky g i := by unfold ky; rw [mv_G hf hi, if_neg hne, if_pos rfl]
 have ky_o : ∀ p, p ≠ i → p ≠ f → ky (mv g f i) p = ky g p := fun p h1 h2 => by unfold ky; rw [mv_G hf hi, if_neg (fun e => h1 e.symm), if_neg (fun e => h2 e.symm)]
 have hne2 : ∀ j, j ≠ i → j < g.length → 1 ≤ ds g.length i j := fun j h1 h2 => ds_pos hi h2 (fun e => h1 e.symm)
 have h1 : ds g.length i (nx g.length i) = 1 := by rw [ds_nx hi hi (by rw [ds_self]; omega), ds_self]
 refine ⟨fun h => ((us_iff i).1 h).1 rfl, ?_, ?_, ?_⟩
 ·intro x y hx hy hux huy hk
  rw [mv_len] at hx hy
  obtain ⟨x1, x2⟩ := (us_iff x).1 hux
  obtain ⟨y1, y2⟩ := (us_iff y).1 huy
  by_cases ex : x = f
  ·by_cases ey : y = f
   ·rw [ex, ey]
   ·subst ex
    rw [ky_f, ky_o y y1 ey] at hk
    exact absurd (h.uni i y hi hy hu (y2.resolve_left ey) hk).symm y1
  ·by_cases ey : y = f
   ·subst ey
    rw [ky_f, ky_o x x1 ex] at hk
    exact absurd (h.uni x i hx hi (x2.resolve_left ex) hu hk) x1
   ·rw [ky_o x x1 ex, ky_o y y1 ey] at hk
    exact h.uni x y hx hy (x2.resolve_left ex) (y2.resolve_left ey) hk
 ·intro j hj huj p hp hdp
  rw [mv_len] at hj hp hdp
  obtain ⟨j1, j2⟩ := (us_iff j).1 huj
  by_cases ej : j = f
  ·subst ej
   rw [ky_f] at hdp
   have hle := (ds_mid (hH (ky g i)) hf hi).1 hd
   have hpi : ds g.length (hm a b g.length (ky g i)) p < ds g.length (hm a b g.length (ky g i)) i := Nat.lt_of_lt_of_le hdp hle
   rcases h.way i hi hu p hp hpi with e | e
   ·subst e; omega
   ·exact .inr ((us_iff p).2 ⟨fun e2 => by subst e2; omega, .inr e⟩)
  ·rw [ky_o j j1 ej] at hdp
   by_cases ep : p = i
   ·exact .inl ep
   ·exact .inr ((us_iff p).2 ⟨ep, h.way j hj (j2.resolve_left ej) p hp hdp⟩)
 ·intro j hj huj _
  rw [mv_len] at hj ⊢
  rw [h1]
  exact hne2 j ((us_iff j).1 huj).1 hj
theorem hole_go (h : Hole a b g f i) (hf : f < g.length) (hi : i < g.length) (hu : us g i) (hd : ¬ ds g.length f i ≤ ds g.length (hm a b g.length (ky g i)) i) (hnx : ds g.length f i + 1 < g.length) : Hole a b g f (nx g.length i) := by
 have hH : ∀ k, hm a b g.length k < g.length := fun k => hm_lt (by omega) k
 refine ⟨h.free, h.uni, h.way, fun j hj huj hdj => ?_⟩
 have h1 := h.late j hj huj hdj
 rw [ds_nx hf hi hnx]
 rcases Nat.lt_or_ge (ds g.length f i) (ds g.length f j) with h2 | h2
 ·exact h2
 ·have e := ds_inj hf hi hj (Nat.le_antisymm h1 h2)
  subst e
  exact absurd ((ds_mid (hH (ky g i)) hf hi).2 (Nat.le_of_lt hdj)) hd
theorem hole_end (h : Hole a b g f i) (hf : f < g.length) (hi : i < g.length) (hne : i ≠ f) (hu : ¬ us g i) : Good a b g := by
 have hH : ∀ k, hm a b g.length k < g.length := fun k => hm_lt (by omega) k
 intro j hj huj
 refine ⟨hj, fun p hp hdp => ?_, fun _ => rfl⟩
 have hup : us g p := by
  rcases h.way j hj huj p hp hdp with e | e
  ·subst e
   have h1 := h.late j hj huj hdp
   have h2 : ds g.length p i < ds g.length p j := by
    rcases Nat.lt_or_ge (ds g.length p i) (ds g.length p j) with h2 | h2
    ·exact h2
    ·have e := ds_inj hf hi hj (Nat.le_antisymm h1 h2)
     subst e
     exact absurd huj hu
   have h3 := ds_pass (hH (ky g j)) hf hi hj hdp h2
   rcases h.way j hj huj i hi h3 with e | e
   ·exact absurd e hne
   ·exact absurd e hu
  ·exact e
 refine ⟨hup, fun hk => ?_⟩
 have := h.uni p j hp hj hup huj hk
 subst this
 omega
theorem cl_mv (h : Cl g) (hf : f < g.length) (hi : i < g.length) (hu : us g i) : Cl (mv g f i) := by
 refine ⟨fun j hj hju => ?_, fun j hj hju => ?_⟩
 ·rw [mv_len] at hj
  unfold us at hju
  rw [mv_G hf hi] at hju ⊢
  by_cases e : i = j
  ·rw [if_pos e]
  ·rw [if_neg e] at hju ⊢
   by_cases e2 : f = j
   ·rw [if_pos e2] at hju
    exact absurd hu hju
   ·rw [if_neg e2] at hju ⊢
    exact h.1 j hj hju
 ·rw [mv_len] at hj
  unfold us at hju
  unfold ky
  rw [mv_G hf hi] at hju ⊢
  by_cases e : i = j
  ·rw [if_pos e] at hju
   exact absurd hju z_free
  ·rw [if_neg e] at hju ⊢
   by_cases e2 : f = j
   ·rw [if_pos e2]
    exact h.2 i hi hu
   ·rw [if_neg e2] at hju ⊢
    exact h.2 j hj hju
theorem cnt_mv (hf : f < g.length) (hi : i < g.length) (hne : i ≠ f) (hu : us g i) (hfree : ¬ us g f) : cnt (mv g f i) = cnt g := by
 have h1 := cnt_set hf (G g i)
 have h2 := cnt_set (l := g.set f (G g i)) (i := i) (by rw [List.length_set]; exact hi) z60
 rw [if_neg hfree, if_pos hu] at h1
 rw [G_set_ne hf (fun e => hne e.symm), if_pos hu, if_neg z_free] at h2
 unfold mv
 omega
theorem has_mv (hf : f < g.length) (hi : i < g.length) (hne : i ≠ f) (hfree : ¬ us g f) (s : S60) (hs : s.f0 = true) : (∃ j, j < (mv g f i).length ∧ G (mv g f i) j = s) ↔ ∃ j, j < g.length ∧ G g j = s := by
 rw [mv_len]
 constructor
 ·rintro ⟨j, hj, rfl⟩
  rw [mv_G hf hi] at hs ⊢
  by_cases e : i = j
  ·rw [if_pos e] at hs
   exact absurd hs z_free
  ·rw [if_neg e] at hs ⊢
   by_cases e2 : f = j
   ·rw [if_pos e2]
    exact ⟨i, hi, rfl⟩
   ·rw [if_neg e2]
    exact ⟨j, hj, rfl⟩
 ·rintro ⟨j, hj, rfl⟩
  by_cases e : j = i
  ·subst e
   exact ⟨f, hf, by rw [mv_G hf hi, if_neg hne, if_pos rfl]⟩
  ·have e2 : j ≠ f := by
    rintro rfl
    exact hfree hs
   exact ⟨j, hj, by rw [mv_G hf hi, if_neg (fun e' => e e'.symm), if_neg (fun e' => e2 e'.symm)]⟩
end
theorem between (a b : Int) (g : List S60) (f i : Nat) (H : Nat) (hH : H < g.length) (hf : f < g.length) (hi : i < g.length) (hn : g.length ≤ 10000) (r1 r2 : Option (Int × Int × List S46 × Int)) (K : Nat)
  (h1 : ds g.length H f ≤ ds g.length H i → ∀ k, K ≤ k → r12_Delete.j2 k (f : Int) (g.length : Int) (i : Int) true a b (g.map cv) = r1) (h2 : ¬ ds g.length H f ≤ ds g.length H i → ∀ k, K ≤ k → r12_Delete.j2 k (f : Int) (g.length : Int) (i : Int) false a b (g.map cv) = r2) :
  ∀ d p k, p < g.length → ds g.length H p + d = ds g.length H i → d + K < k → ∀ c : Bool, (c = true ↔ ds g.length H f < ds g.length H p) →
   r12_Delete.l1 k (f : Int) (g.length : Int) (i : Int) c (p : Int) a b (g.map cv) = if ds g.length H f ≤ ds g.length H i then r1 else r2
 | 0, p, k, hp, hd, hk, c, hc => by
  obtain ⟨k, rfl⟩ : ∃ k', k = k' + 1 := ⟨k - 1, by omega⟩
  have e : p = i := ds_inj hH hp hi (by omega)
  subst e
  unfold r12_Delete.l1
  cases c with
  | true =>
   have := hc.1 rfl
   rw [if_pos rfl, if_pos rfl, if_pos (by omega), h1 (by omega) k (by omega)]
  | false =>
   have hnot : ¬ ds g.length H f < ds g.length H p := fun h => by have := hc.2 h; cases this
   rw [if_neg (by decide), if_pos rfl]
   by_cases e : p = f
   ·subst e
    rw [if_pos (Nat.le_refl _), show (((p : Nat) : Int) == ((p : Nat) : Int)) = true from by simp, h1 (Nat.le_refl _) k (by omega)]
   ·have hne : ds g.length H f ≠ ds g.length H p := fun h => e (ds_inj hH hp hf h.symm)
    rw [if_neg (by omega), show (((p : Nat) : Int) == ((f : Nat) : Int)) = false from by simp; omega, h2 (by omega) k (by omega)]
 | d + 1, p, k, hp, hd, hk, c, hc => by
  obtain ⟨k, rfl⟩ : ∃ k', k = k' + 1 := ⟨k - 1, by omega⟩
  have hlt := ds_lt hH hi
  have hnx := ds_nx hH hp (by omega)
  have ih := between a b g f i H hH hf hi hn r1 r2 K h1 h2 d (nx g.length p) k (nx_lt hp) (by omega) (by omega)
  have hne : ¬ (p : Int) = (i : Int) := by
   intro e
   have : p = i := by omega
   subst this
   omega
  unfold r12_Delete.l1
  cases c with
  | true =>
   have := hc.1 rfl
   rw [if_pos rfl, if_neg hne, if_neg (by omega), nx_int hp hn]
   exact ih true ⟨fun _ => by omega, fun _ => rfl⟩
  | false =>
   have hnot : ¬ ds g.length H f < ds g.length H p := fun h => by have := hc.2 h; cases this
   rw [if_neg (by decide), if_neg hne, if_neg (by omega), nx_int hp hn]
   refine ih _ ⟨fun h => ?_, fun h => ?_⟩
   ·have e : p = f := by simp at h; omega
    subst e
    omega
   ·have e : p = f := ds_inj hH hp hf (by omega)
    subst e
    simp
def Told (a b : Int) (g l : List S60) (f i e : Nat) : Prop :=
 ∃ m, (∀ k, e + 400 ≤ k → index_Delete.l0 k (f : Int) (l.length : Int) (i : Int) a b l = some (a, b, m, 0)) ∧ (∀ k, (e + 1) * 5000 ≤ k → r12_Delete.l0 k (f : Int) (g.length : Int) (i : Int) a b (g.map cv) = some (a, b, m.map cv, 0)) ∧
  m.length = g.length ∧ Good a b m ∧ Cl m ∧ cnt m = cnt g ∧ (∀ s : S60, s.f0 = true → ((∃ j, j < m.length ∧ G m j = s) ↔ ∃ j, j < g.length ∧ G g j = s)) ∧
  ((∀ j, j < g.length → us g j → ¬ ds g.length (hm a b g.length (ky g j)) f < ds g.length (hm a b g.length (ky g j)) j) → m = g)
theorem del_end (a b : Int) (e : Nat) (g l : List S60) (f i : Nat) (hl : l.length = g.length) (hlg : l.set f z60 = g) (hf : f < g.length) (hi : i < g.length) (hu : ¬ us g i) (hne : i ≠ f) (hole : Hole a b g f i) (hcl : Cl g) : Told a b g l f i e := by
 have hli : G l i = G g i := by rw [← hlg, G_set_ne (by omega) (fun e => hne e.symm)]
 refine ⟨g, fun k hk => ?_, fun k hk => ?_, rfl, hole_end hole hf hi hne hu, hcl, rfl, fun s _ => Iff.rfl, fun _ => rfl⟩
 ·obtain ⟨k, rfl⟩ : ∃ k', k = k' + 1 := ⟨k - 1, by omega⟩
  unfold index_Delete.l0
  rw [if_pos (by omega), if_pos (by omega), G_rd, hli, if_neg hu, if_pos (by omega), if_pos (by omega), Int.toNat_natCast]
  have : l.set f (⟨false, (⟨#[]⟩ : ByteArray), 0⟩ : S60) = g := hlg
  rw [this]
 ·obtain ⟨k, rfl⟩ : ∃ k', k = k' + 1 := ⟨k - 1, by omega⟩
  unfold r12_Delete.l0
  rw [if_pos (by omega), if_pos (by rw [List.length_map]; omega), cv_rd, cv_f0, if_neg hu]
theorem del_run (a b : Int) : ∀ e (g l : List S60) (f i u : Nat), 2 ≤ g.length → g.length ≤ 4096 → l.length = g.length → l.set f z60 = g → f < g.length → i < g.length → u < g.length → ¬ us g u → u ≠ f → ds g.length i u = e → ds g.length i u < ds g.length i f → Hole a b g f i → Cl g → Told a b g l f i e := by
 intro e
 induction e with
 | zero =>
  intro g l f i u hn hn2 hl hlg hf hi hu hfu huf hd hlt hole hcl
  obtain rfl : u = i := ds_zero hi hu hd
  exact del_end a b 0 g l f u hl hlg hf hi hfu huf hole hcl
 | succ e ih =>
  intro g l f i u hn hn2 hl hlg hf hi hu hfu huf hd hlt hole hcl
  have hne : i ≠ f := by
   rintro rfl
   rw [ds_self] at hlt
   omega
  by_cases hui : us g i
  case neg => exact del_end a b (e + 1) g l f i hl hlg hf hi hui hne hole hcl
  have hiu : i ≠ u := by
   rintro rfl
   rw [ds_self] at hd
   omega
  have hH : ∀ k, hm a b g.length k < g.length := fun k => hm_lt (by omega) k
  have hli : G l i = G g i := by rw [← hlg, G_set_ne (by omega) (fun e => hne e.symm)]
  have hs : (ky g i).size ≤ 64 := hcl.2 i hi hui
  have hnxu := ds_nx' (a := u) (b := i) hu hi hiu
  have hnxf := ds_nx' (a := f) (b := i) hf hi hne
  have hnxl := nx_lt hi
  have hdfi : ds g.length f i + 1 < g.length := by
   have h3 : ds g.length f i + ds g.length i f = g.length := by
    unfold ds
    repeat' split
    all_goals omega
   omega
  have hdl := ds_lt (hH (ky g i)) hi
  obtain ⟨B, hB⟩ : ∃ B, (e + 1) * 5000 = B := ⟨_, rfl⟩
  have hB2 : (e + 1 + 1) * 5000 = B + 5000 := by rw [Nat.add_mul (e + 1) 1 5000, Nat.one_mul, hB]
  have hbt := fun (r1 r2 : Option (Int × Int × List S46 × Int)) (K : Nat) h1 h2 k hk => between a b g f i (hm a b g.length (ky g i)) (hH _) hf hi (by omega) r1 r2 K h1 h2 (ds g.length (hm a b g.length (ky g i)) i) (hm a b g.length (ky g i)) k (hH _) (by rw [ds_self]; omega) hk false ⟨fun h => (by cases h), fun h => (by rw [ds_self] at h; omega)⟩
  by_cases hd2 : ds g.length f i ≤ ds g.length (hm a b g.length (ky g i)) i
  ·have hlen := mv_len (g := g) (f := f) (i := i)
   have hle := (ds_mid (hH (ky g i)) hf hi).1 hd2
   have hset : (l.set f (G g i)).set i z60 = mv g f i := by
    unfold mv
    rw [← hlg, List.set_set]
   have hu' : ¬ us (mv g f i) u := by
    unfold us
    rw [mv_G hf hi, if_neg hiu, if_neg (fun e => huf e.symm)]
    exact hfu
   have h9 : ds g.length (nx g.length i) i + 1 = g.length := by
    unfold ds nx
    repeat' split
    all_goals omega
   have h10 := ds_lt hi hu
   obtain ⟨m, h1, h2, h3, h4, h5, h6, h7, h8⟩ := ih (mv g f i) (l.set f (G g i)) i (nx g.length i) u (by rw [hlen]; exact hn) (by rw [hlen]; exact hn2) (by rw [hlen, List.length_set]; exact hl) hset (by rw [hlen]; exact hi) (by rw [hlen]; exact hnxl) (by rw [hlen]; exact hu) hu' (fun e => hiu e.symm) (by rw [hlen]; omega) (by rw [hlen]; omega) (hole_mv hole hf hi hn hne hui hd2) (cl_mv hcl hf hi hui)
   refine ⟨m, fun k hk => ?_, fun k hk => ?_, h3.trans hlen, h4, h5, h6.trans (cnt_mv hf hi hne hui hole.free), fun s hs => (h7 s hs).trans (has_mv hf hi hne hole.free s hs), fun hno => ?_⟩
   ·obtain ⟨k, rfl⟩ : ∃ k', k = k' + 1 := ⟨k - 1, by omega⟩
    unfold index_Delete.l0
    rw [if_pos (by omega), if_pos (by omega), G_rd, hli, if_pos hui, home_eq a b l (by omega) (by omega) (G g i).f1 (by have : (G g i).f1.size ≤ 64 := hs; omega) k (by omega), Option.bind_some, if_neg (by omega), hl, ds_int (hH _) hi (by omega), ds_int hf hi (by omega), if_pos (by show ((ds g.length (hm a b g.length (ky g i)) i : Nat) : Int) ≥ _; omega), if_pos (by omega), if_pos (by omega), Int.toNat_natCast, nx_int hi (by omega)]
    have h11 := h1 k (by omega)
    rw [List.length_set, hl] at h11
    exact h11
   ·obtain ⟨k, rfl⟩ : ∃ k', k = k' + 1 := ⟨k - 1, by omega⟩
    unfold r12_Delete.l0
    rw [if_pos (by omega), if_pos (by rw [List.length_map]; omega), cv_rd, cv_f0, cv_f1, if_pos hui, rhome_eq a b (g.map cv) (by rw [List.length_map]; omega) (by rw [List.length_map]; omega) (G g i).f1 (by have : (G g i).f1.size ≤ 64 := hs; omega) k (by omega), Option.bind_some, List.length_map]
    refine (hbt (some (a, b, m.map cv, 0)) none (B + 2) (fun _ k hk => ?_) (fun h => absurd hle h) k (by omega)).trans (by rw [if_pos hle])
    obtain ⟨k, rfl⟩ : ∃ k', k = k' + 1 := ⟨k - 1, by omega⟩
    rw [r12_Delete.j2, if_pos rfl, if_pos (by omega), if_pos (by rw [List.length_map]; omega), cv_rd, cv_f0, cv_f1, cv_f2]
    have e1 := set_eq a b g f (G g i) hf (by omega)
    have e2 := set_eq a b (g.set f (G g i)) i z60 (by rw [List.length_set]; exact hi) (by rw [List.length_set]; omega)
    have e2' : r12_set.f a b ((g.set f (G g i)).map cv) (i : Int) false (⟨#[]⟩ : ByteArray) 0 = some (a, b, (mv g f i).map cv) := e2
    rw [e1, Option.bind_some, e2', Option.bind_some, if_neg (by omega), nx_int hi (by omega)]
    have h11 := h2 k (by rw [hB]; omega)
    rw [hlen] at h11
    exact h11
   ·have h12 : ds g.length (hm a b g.length (ky g i)) f ≠ ds g.length (hm a b g.length (ky g i)) i := fun e => hne (ds_inj (hH _) hf hi e).symm
    exact absurd (show ds g.length (hm a b g.length (ky g i)) f < _ by omega) (hno i hi hui)
  ·have hle : ¬ ds g.length (hm a b g.length (ky g i)) f ≤ ds g.length (hm a b g.length (ky g i)) i := fun h => hd2 ((ds_mid (hH (ky g i)) hf hi).2 h)
   obtain ⟨m, h1, h2, h3, h4, h5, h6, h7, h8⟩ := ih g l f (nx g.length i) u hn hn2 hl hlg hf hnxl hu hfu huf (by omega) (by omega) (hole_go hole hf hi hui hd2 hdfi) hcl
   refine ⟨m, fun k hk => ?_, fun k hk => ?_, h3, h4, h5, h6, h7, h8⟩
   ·obtain ⟨k, rfl⟩ : ∃ k', k = k' + 1 := ⟨k - 1, by omega⟩
    unfold index_Delete.l0
    rw [if_pos (by omega), if_pos (by omega), G_rd, hli, if_pos hui, home_eq a b l (by omega) (by omega) (G g i).f1 (by have : (G g i).f1.size ≤ 64 := hs; omega) k (by omega), Option.bind_some, if_neg (by omega), hl, ds_int (hH _) hi (by omega), ds_int hf hi (by omega), if_neg (by show ¬ ((ds g.length (hm a b g.length (ky g i)) i : Nat) : Int) ≥ _; omega), nx_int hi (by omega)]
    have h11 := h1 k (by omega)
    rw [hl] at h11
    exact h11
   ·obtain ⟨k, rfl⟩ : ∃ k', k = k' + 1 := ⟨k - 1, by omega⟩
    unfold r12_Delete.l0
    rw [if_pos (by omega), if_pos (by rw [List.length_map]; omega), cv_rd, cv_f0, cv_f1, if_pos hui, rhome_eq a b (g.map cv) (by rw [List.length_map]; omega) (by rw [List.length_map]; omega) (G g i).f1 (by have : (G g i).f1.size ≤ 64 := hs; omega) k (by omega), Option.bind_some, List.length_map]
    refine (hbt none (some (a, b, m.map cv, 0)) (B + 2) (fun h => absurd h hle) (fun _ k hk => ?_) k (by omega)).trans (by rw [if_neg hle])
    obtain ⟨k, rfl⟩ : ∃ k', k = k' + 1 := ⟨k - 1, by omega⟩
    rw [r12_Delete.j2, if_neg (by decide), if_neg (by omega), nx_int hi (by omega)]
    exact h2 k (by rw [hB]; omega)
theorem del_bad {a b : Int} {l : List S60} (h : ¬ Rt a b l) (key : ByteArray) (k : Nat) (hk : 20000 ≤ k) : index_Delete.f k a b l key = some (a, b, l, 1) := by
 unfold index_Delete.f
 rw [right_eq a b l k hk, Option.bind_some, yes_false h, if_neg (by exact Bool.noConfusion)]
theorem del_sum {a b : Int} {l : List S60} (h : Rt a b l) (key : ByteArray) (hs : key.size ≤ 100) :
  ∃ m e, (∀ k, 30000 ≤ k → index_Delete.f k a b l key = some (a, b, m, e)) ∧ (∀ k, 30000000 ≤ k → r12_Delete.f k a b (l.map cv) key = some (a, b, m.map cv, e)) ∧
   ((e = 3 ∧ m = l ∧ ¬ In l key) ∨ (e = 0 ∧ Rt a b m ∧ m.length = l.length ∧ cnt m + 1 = cnt l ∧ In l key ∧ (∀ s : S60, s.f0 = true → ((∃ j, j < m.length ∧ G m j = s) ↔ ((∃ j, j < l.length ∧ G l j = s) ∧ s.f1 ≠ key))) ∧
    ∀ q, Pos (hm a b l.length key) l key q → (∀ j, j < l.length → j ≠ q → us l j → ¬ ds l.length (hm a b l.length (ky l j)) q < ds l.length (hm a b l.length (ky l j)) j) → m = l.set q z60)) := by
 have h1 := pw_le h.1
 have h2 := h.2.1
 obtain ⟨q, hq⟩ := rt_pos h key
 have hql := hq.1
 by_cases hu : us l q
 ·have hqk := hq.2.2 hu
  have hlen : (l.set q z60).length = l.length := List.length_set
  have hG : ∀ p, G (l.set q z60) p = if q = p then z60 else G l p := fun p => G_set hql
  have us_iff : ∀ p, us (l.set q z60) p ↔ p ≠ q ∧ us l p := by
   intro p
   unfold us
   rw [hG]
   by_cases e : q = p
   ·rw [if_pos e]; exact ⟨fun h => absurd h z_free, fun h => absurd e.symm h.1⟩
   ·rw [if_neg e]; exact ⟨fun h => ⟨fun e' => e e'.symm, h⟩, fun h => h.2⟩
  have ky_o : ∀ p, p ≠ q → ky (l.set q z60) p = ky l p := fun p e => by unfold ky; rw [hG, if_neg (fun e' => e e'.symm)]
  have hnx := nx_lt hql
  have hcl : Cl (l.set q z60) := by
   refine ⟨fun j hj hju => ?_, fun j hj hju => ?_⟩
   ·rw [hlen] at hj
    by_cases e : q = j
    ·rw [hG, if_pos e]
    ·rw [hG, if_neg e]
     exact sound_free (h.2.2.1 j hj) (fun h' => hju ((us_iff j).2 ⟨fun e' => e e'.symm, h'⟩))
   ·rw [hlen] at hj
    obtain ⟨j1, j2⟩ := (us_iff j).1 hju
    rw [ky_o j j1]
    exact ((h.2.2.1 j hj).1 j2).1
  have hole : Hole a b (l.set q z60) q (nx l.length q) := by
   have hlt : (l.set q z60).length = l.length := hlen
   refine ⟨fun h' => ((us_iff q).1 h').1 rfl, fun x y hx hy hux huy hk => ?_, fun j hj hju p hp hd => ?_, fun j hj hju _ => ?_⟩
   ·rw [hlen] at hx hy
    obtain ⟨x1, x2⟩ := (us_iff x).1 hux
    obtain ⟨y1, y2⟩ := (us_iff y).1 huy
    rw [ky_o x x1, ky_o y y1] at hk
    exact good_inj (by omega) h.2.2.2 hx hy x2 y2 hk
   ·rw [hlen] at hj hp hd
    obtain ⟨j1, j2⟩ := (us_iff j).1 hju
    rw [ky_o j j1] at hd
    by_cases e : p = q
    ·exact .inl e
    ·exact .inr ((us_iff p).2 ⟨e, ((h.2.2.2 j hj j2).2.1 p hp hd).1⟩)
   ·rw [hlen] at hj ⊢
    rw [ds_nx hql hql (by rw [ds_self]; omega), ds_self]
    exact ds_pos hql hj (fun e => ((us_iff j).1 hju).1 e.symm)
  have hcs := cnt_set hql z60
  rw [if_pos hu, if_neg z_free] at hcs
  obtain ⟨u, hu1, hu2, hu3⟩ : ∃ u, u < l.length ∧ ¬ us l u ∧ u ≠ q := by
   obtain ⟨p, hp, hpu⟩ := free_ex (l := l) (by omega)
   exact ⟨p, hp, hpu, fun e => hpu (e ▸ hu)⟩
  have hu4 : ¬ us (l.set q z60) u := fun h' => hu2 ((us_iff u).1 h').2
  have hdl := ds_lt hnx hu1
  have hdq : ds l.length (nx l.length q) q + 1 = l.length := by
   unfold ds nx
   repeat' split
   all_goals omega
  have hdne : ds l.length (nx l.length q) u ≠ ds l.length (nx l.length q) q := fun e => hu3 (ds_inj hnx hu1 hql e)
  obtain ⟨m, d1, d2, d3, d4, d5, d6, d7, d8⟩ := del_run a b (ds l.length (nx l.length q) u) (l.set q z60) l q (nx l.length q) u (by omega) (by omega) hlen.symm rfl (by omega) (by omega) (by omega) hu4 hu3 (by rw [hlen]) (by rw [hlen]; omega) hole hcl
  rw [hlen] at d3
  refine ⟨m, 0, fun k hk => ?_, fun k hk => ?_, .inr ⟨rfl, ⟨by rw [d3]; exact h.1, by omega, fun j hj => ?_, d4⟩, d3, by omega, ⟨q, hql, hu, hqk⟩, fun s hs' => ?_, fun q' hq' hno => ?_⟩⟩
  ·unfold index_Delete.f
   rw [right_eq a b l k (by omega), Option.bind_some, if_pos (yes_true h), walk_eq a b l key q (by omega) (by omega) hs hq k (by omega), Option.bind_some, if_pos hu, clone_eq l (by omega), Option.bind_some, if_neg (by omega), nx_int hql (by omega)]
   exact d1 k (by omega)
  ·unfold r12_Delete.f
   rcases find_eq a b l key (by omega) k (by omega) with ⟨j, hj, hju, hjk, e⟩ | ⟨hno, e⟩
   ·have hjq := good_inj (by omega) h.2.2.2 hj hql hju hu (hjk.trans hqk.symm)
    subst hjq
    have e2 := set_eq a b l j z60 hj (by omega)
    have e2' : r12_set.f a b (l.map cv) (j : Int) false (⟨#[]⟩ : ByteArray) 0 = some (a, b, (l.set j z60).map cv) := e2
    rw [e, Option.bind_some, if_neg (by omega), e2', Option.bind_some, List.length_map, if_neg (by omega), nx_int hj (by omega)]
    have := d2 k (by omega)
    rw [hlen] at this
    exact this
   ·exact absurd ⟨hu, hqk⟩ (hno q hql)
  ·by_cases hju : us m j
   ·obtain ⟨j', hj', hG'⟩ := (d7 (G m j) hju).1 ⟨j, hj, rfl⟩
    rw [hlen] at hj'
    rw [hG] at hG'
    by_cases e : q = j'
    ·rw [if_pos e] at hG'
     have hju' : (G m j).f0 = true := hju
     rw [← hG'] at hju'
     exact absurd hju' z_free
    ·rw [if_neg e] at hG'
     rw [← hG']
     exact h.2.2.1 j' hj'
   ·rw [d5.1 j hj hju]
    exact ⟨fun h => (by cases h), fun _ => ⟨nil_list, rfl⟩⟩
  ·rw [d7 s hs', hlen]
   constructor
   ·rintro ⟨j, hj, hG'⟩
    rw [hG] at hG'
    by_cases e : q = j
    ·rw [if_pos e] at hG'
     rw [← hG'] at hs'
     exact absurd hs' z_free
    ·rw [if_neg e] at hG'
     refine ⟨⟨j, hj, hG'⟩, fun hk => ?_⟩
     have hju : us l j := by show (G l j).f0 = true; rw [hG']; exact hs'
     exact e (good_inj (by omega) h.2.2.2 hql hj hu hju (hqk.trans (by show key = (G l j).f1; rw [hG', hk])))
   ·rintro ⟨⟨j, hj, hG'⟩, hk⟩
    refine ⟨j, hj, ?_⟩
    rw [hG, if_neg, hG']
    rintro rfl
    exact hk (by rw [← hG']; exact hqk)
  ·have := pos_inj (hm_lt (by omega) _) hq hq'
   subst this
   refine d8 (fun j hj hju hd => ?_)
   rw [hlen] at hj hd
   obtain ⟨j1, j2⟩ := (us_iff j).1 hju
   rw [ky_o j j1] at hd
   exact hno j hj j1 j2 hd
 ·have hno : ¬ In l key := fun hin => hu ((pos_in (by omega) h.2.2.2 hq).1 hin)
  refine ⟨l, 3, fun k hk => ?_, fun k hk => ?_, .inl ⟨rfl, rfl, hno⟩⟩
  ·unfold index_Delete.f
   rw [right_eq a b l k (by omega), Option.bind_some, if_pos (yes_true h), walk_eq a b l key q (by omega) (by omega) hs hq k (by omega), Option.bind_some, if_neg hu]
  ·unfold r12_Delete.f
   rcases find_eq a b l key (by omega) k (by omega) with ⟨j, hj, hju, hjk, e⟩ | ⟨_, e⟩
   ·exact absurd ⟨j, hj, hju, hjk⟩ hno
   ·rw [e, Option.bind_some, if_pos (by decide)]
end Go.Proofs.Ytojpmjkphgjmgaa.Ix
