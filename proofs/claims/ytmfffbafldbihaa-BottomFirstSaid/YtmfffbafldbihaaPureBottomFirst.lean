import Derived.Test.YtmfffbafldbihaaHx19
import Derived.Test.YtmfffbafldbihaaHx11
import Derived.Test.YtmfffbafldbihaaHqBottomFirst
import Derived.Test.YtmfffbafldbihaaBo
set_option linter.unusedVariables false
set_option linter.unusedSimpArgs false
namespace Go.Proofs.Ytmfffbafldbihaa.Pure
open Go.RowKit Go.Proofs.Ytmfffbafldbihaa.H Go.Proofs.YtmfffbafldbihaaW.PrintWords Go.Proofs.YtmfffbafldbihaaW.PrintMore Go.Proofs.Ytmfffbafldbihaa.Bo
def C64 : Int := 18446744073709551615
theorem mdl_bnd2 {C : Int} (hC : 0 ≤ C) : ∀ (E l : List S62) (B : Int), 0 ≤ B → Bnd B l → (∀ x ∈ E, 0 ≤ num x.f2 ∧ num x.f2 ≤ C) → B + E.length * C < top → ∃ r, mdl l E = some r ∧ Bnd (B + E.length * C) r
 | [], l, B, _, hl, _, _ => ⟨l, rfl, fun y hy => by have := hl y hy; simp only [List.length_nil]; omega⟩
 | x :: E, l, B, hB, hl, he, ht => by
  have e1 : B + ((x :: E).length : Int) * C = (B + C) + (E.length : Int) * C := by
   rw [List.length_cons, show ((E.length + 1 : Nat) : Int) = (E.length : Int) + 1 by omega, Int.add_mul, Int.one_mul]; omega
  have e2 : 0 ≤ (E.length : Int) * C := Int.mul_nonneg (by omega) hC
  obtain ⟨m, h1, h2⟩ := ins_bnd hB (he x (List.mem_cons_self ..)).1 (he x (List.mem_cons_self ..)).2 (by omega) hl
  obtain ⟨r, h3, h4⟩ := mdl_bnd2 hC E m (B + C) (by omega) h2 (fun z hz => he z (List.mem_cons_of_mem _ hz)) (by omega)
  exact ⟨r, by rw [mdl, h1, Option.bind_some, h3], by rw [e1]; exact h4⟩
def Ok (a b : Int) (E : List S62) : Prop := E.length ≤ 60 ∧ ∀ x ∈ E, Ge a b x ∧ Rng x.f2 ∧ num x.f2 ≤ C64
theorem ok_rl {a b : Int} {E : List S62} (h : Ok a b E) : Rl E := fun x hx => (h.2 x hx).2.1
theorem mdl_len : ∀ (E l r : List S62), mdl l E = some r → r.length ≤ l.length + E.length
 | [], l, r, h => by injection h with h; subst h; simp
 | x :: E, l, r, h => by
  rw [mdl] at h
  obtain ⟨m, h1, h2⟩ := Option.bind_eq_some_iff.1 h
  have := ins_length h1
  have := mdl_len E m r h2
  simp only [List.length_cons]; omega
theorem agg {a b : Int} {E : List S62} (h : Ok a b E) : ∃ r, mdl [] E = some r ∧ Bnd (60 * C64) r ∧ Fine a b r ∧ r.length ≤ 60 := by
 have h60 := h.1
 have hb : ∀ n : Nat, n ≤ 60 → (n : Int) * C64 ≤ 60 * C64 := fun n hn => Int.mul_le_mul_of_nonneg_right (by omega) (by decide)
 have hl := hb E.length h60
 obtain ⟨r, h1, h2⟩ := mdl_bnd2 (C := C64) (by decide) E [] 0 (by decide) (fun y hy => by cases hy) (fun x hx => ⟨num_nonneg (h.2 x hx).2.1, (h.2 x hx).2.2⟩) (by
  have : (60 * C64 : Int) < top := by decide
  omega)
 have h3 := mdl_len E [] r h1
 refine ⟨r, h1, fun y hy => by have := h2 y hy; omega, fine_mdl E [] r ⟨fun x hx => (by cases hx), List.Pairwise.nil, fun x hx => (by cases hx)⟩ (fun x hx => ⟨(h.2 x hx).1, (h.2 x hx).2.1⟩) h1, by simp only [List.length_nil] at h3; omega⟩
theorem merge_take {a b : Int} {E1 E2 : List S62} (h : Ok a b (E1 ++ E2)) {A B R : List S62} (hA : mdl [] E1 = some A) (hB : mdl [] E2 = some B) (hR : mdl [] (E1 ++ E2) = some R) (N : Nat) :
  ∃ q, mdl (A.take N) (B.take N) = some q ∧ q.take N = R.take N := by
 have h1 : Ok a b E1 := ⟨by have := h.1; rw [List.length_append] at this; omega, fun x hx => h.2 x (List.mem_append.2 (.inl hx))⟩
 have h2 : Ok a b E2 := ⟨by have := h.1; rw [List.length_append] at this; omega, fun x hx => h.2 x (List.mem_append.2 (.inr hx))⟩
 obtain ⟨A', a1, a2, a3, a4⟩ := agg h1
 obtain ⟨B', b1, b2, b3, b4⟩ := agg h2
 rw [hA] at a1; injection a1 with a1; subst a1
 rw [hB] at b1; injection b1 with b1; subst b1
 have big : ∀ (l m : List S62), (∀ y ∈ l, y ∈ A) → (∀ y ∈ m, y ∈ B) → m.length ≤ 60 → ∃ q, mdl l m = some q := fun l m hl hm hn => by
  have hb : (m.length : Int) * (60 * C64) ≤ 60 * (60 * C64) := Int.mul_le_mul_of_nonneg_right (by omega) (by decide)
  obtain ⟨q, h3, _⟩ := mdl_bnd2 (C := 60 * C64) (by decide) m l (60 * C64) (by decide) (fun y hy => a2 y (hl y hy)) (fun x hx => ⟨num_nonneg (b3.2.2 x (hm x hx)), b2 x (hm x hx)⟩) (by
   have : (60 * C64 + 60 * (60 * C64) : Int) < top := by decide
   omega)
  exact ⟨q, h3⟩
 obtain ⟨q, hq⟩ := big (A.take N) (B.take N) (fun y hy => List.mem_of_mem_take hy) (fun y hy => List.mem_of_mem_take hy) (by rw [List.length_take]; omega)
 obtain ⟨q1, hq1⟩ := big A (B.take N) (fun y hy => hy) (fun y hy => List.mem_of_mem_take hy) (by rw [List.length_take]; omega)
 obtain ⟨q2, hq2⟩ := big A B (fun y hy => hy) (fun y hy => hy) b4
 refine ⟨q, hq, ?_⟩
 rw [mdl_rel _ _ _ _ _ hq hq1 (by rw [List.take_take, Nat.min_self]), ← mdl_first b3.2.1 hq2 hq1]
 have e : mdl A B = mdl A E2 := by
  rw [mdl_agg E2 [] B A (ok_rl h2) (fun x hx => by cases hx) a3.2.2 hB]; rfl
 rw [mdl_append, hA, Option.bind_some, ← e, hq2] at hR
 injection hR with hR
 rw [hR]
theorem merged {a b : Int} {n : Nat} (h1 : 1 ≤ n) (h2 : n ≤ 1000) {E1 E2 : List S62} (h : Ok a b (E1 ++ E2)) {A B R : List S62} (hA : mdl [] E1 = some A) (hB : mdl [] E2 = some B) (hR : mdl [] (E1 ++ E2) = some R) (k : Nat) (hk : 3000 ≤ k) :
  bottom_Merge.f k a b (n : Int) (A.take (n + 1)) a b (n : Int) (B.take (n + 1)) = some (a, b, (n : Int), R.take (n + 1), 0) := by
 have g1 : Ok a b E1 := ⟨by have := h.1; rw [List.length_append] at this; omega, fun x hx => h.2 x (List.mem_append.2 (.inl hx))⟩
 have g2 : Ok a b E2 := ⟨by have := h.1; rw [List.length_append] at this; omega, fun x hx => h.2 x (List.mem_append.2 (.inr hx))⟩
 obtain ⟨A', a1, a2, a3, a4⟩ := agg g1
 obtain ⟨B', b1, b2, b3, b4⟩ := agg g2
 rw [hA] at a1; injection a1 with a1; subst a1
 rw [hB] at b1; injection b1 with b1; subst b1
 obtain ⟨q, hq, hq2⟩ := merge_take h hA hB hR (n + 1)
 rw [merge_eq a b n _ _ (fine_rt a3 n h1 (by omega)) (fine_rt b3 n h1 (by omega)) (fine_take a3 _).2.2 (fine_take b3 _).2.2 k hk, hq]
 simp only
 rw [hq2]
def pe (a b : Int) (p : S47) : S62 := en a b p.f0 p.f1
def Ej (a b : Int) (ps : List S47) (j : Int) : List S62 := (ps.filter fun p => decide (Int.tmod p.f2 3 = j)).map (pe a b)
def Vp (p : S47) : Prop := p.f0.size ≤ 64 ∧ 0 < p.f1 ∧ p.f1 ≤ 18446744073709551615 ∧ 0 ≤ p.f2
theorem pe_ok {a b : Int} {p : S47} (h : Vp p) : Ge a b (pe a b p) ∧ Rng (pe a b p).f2 ∧ num (pe a b p).f2 ≤ C64 :=
 ⟨en_ge h.1 h.2.1, en_rng (by have := h.2.1; omega) h.2.2.1, by unfold pe; rw [num_en]; exact h.2.2.1⟩
theorem Ej_ok {a b : Int} {ps : List S47} (hn : ps.length ≤ 60) (h : ∀ p ∈ ps, Vp p) (j : Int) : Ok a b (Ej a b ps j) :=
 ⟨by unfold Ej; rw [List.length_map]; exact Nat.le_trans (List.length_filter_le ..) hn, fun x hx => by
  obtain ⟨p, hp, rfl⟩ := List.mem_map.1 hx
  exact pe_ok (h p (List.mem_filter.1 hp).1)⟩
theorem Ej_step {a b : Int} {ps : List S47} {i : Nat} (hi : i < ps.length) (j : Int) : Ej a b (ps.take (i + 1)) j = if Int.tmod ps[i].f2 3 = j then Ej a b (ps.take i) j ++ [pe a b ps[i]] else Ej a b (ps.take i) j := by
 unfold Ej
 rw [List.take_add_one, List.getElem?_eq_getElem hi, List.filter_append, List.map_append]
 by_cases h : Int.tmod ps[i].f2 3 = j
 ·rw [if_pos h]; simp [h]
 ·rw [if_neg h]; simp [h]
theorem Ej_perm (a b : Int) : ∀ ps : List S47, (∀ p ∈ ps, 0 ≤ p.f2) → (Ej a b ps 0 ++ (Ej a b ps 1 ++ Ej a b ps 2)).Perm (ps.map (pe a b))
 | [], _ => List.Perm.refl _
 | p :: ps, h => by
  have ih := Ej_perm a b ps (fun q hq => h q (List.mem_cons_of_mem _ hq))
  have h0 := h p (List.mem_cons_self ..)
  have h3 : Int.tmod p.f2 3 = 0 ∨ Int.tmod p.f2 3 = 1 ∨ Int.tmod p.f2 3 = 2 := by rw [Int.tmod_eq_emod_of_nonneg h0]; omega
  have e : ∀ j, Ej a b (p :: ps) j = if Int.tmod p.f2 3 = j then pe a b p :: Ej a b ps j else Ej a b ps j := fun j => by
   unfold Ej
   rw [List.filter_cons]
   by_cases hj : Int.tmod p.f2 3 = j
   ·rw [if_pos hj, if_pos (decide_eq_true hj)]; rfl
   ·rw [if_neg hj, if_neg (by rw [decide_eq_false hj]; decide)]
  rw [e, e, e, List.map_cons]
  rcases h3 with h4 | h4 | h4
  ·rw [h4, if_pos rfl, if_neg (by decide), if_neg (by decide)]
   exact ih.cons _
  ·rw [h4, if_neg (by decide), if_pos rfl, if_neg (by decide)]
   exact (List.perm_middle (l₁ := Ej a b ps 0)).trans (ih.cons _)
  ·rw [h4, if_neg (by decide), if_neg (by decide), if_pos rfl]
   refine ((List.perm_middle (l₁ := Ej a b ps 1)).append_left _).trans ?_
   exact (List.perm_middle (l₁ := Ej a b ps 0)).trans (ih.cons _)
theorem P_rd (l : List S47) (i : Nat) (h : i < l.length) : rd_T47 l (i : Int) = l[i] := by show l.getD (i : Int).toNat z47 = _; rw [Int.toNat_natCast, List.getD_eq_getElem?_getD, List.getElem?_eq_getElem h]; rfl
theorem bNew_eq (a b : Int) (K : Int) (h : 1 ≤ K ∧ K ≤ 1024) : bottom_New.f a b K = some (a, b, K, [], 0) := by
 unfold bottom_New.f
 rw [if_neg (by omega), if_neg (by omega)]
def Has (a b : Int) (n : Nat) (ps : List S47) (j : Int) (l : List S62) : Prop := ∃ r, mdl [] (Ej a b ps j) = some r ∧ l = r.take (n + 1)
theorem add_has {a b : Int} {n : Nat} (h1 : 1 ≤ n) (h2 : n ≤ 1000) {ps : List S47} {i : Nat} (hi : i < ps.length) (hn : ps.length ≤ 60) (hv : ∀ p ∈ ps.take i, Vp p) (hp : Vp ps[i]) {j : Int} (hj : Int.tmod ps[i].f2 3 = j) {l : List S62} (h : Has a b n (ps.take i) j l) (k : Nat) (hk : 1100 ≤ k) :
  ∃ l', bottom_Add.f k a b (n : Int) l ps[i].f0 ps[i].f1 = some (a, b, (n : Int), l', 0) ∧ Has a b n (ps.take (i + 1)) j l' := by
 obtain ⟨r, e1, rfl⟩ := h
 have ho := Ej_ok (a := a) (b := b) (ps := ps.take i) (by rw [List.length_take]; omega) hv j
 have ho' := Ej_ok (a := a) (b := b) (ps := ps.take (i + 1)) (by rw [List.length_take]; omega) (fun p hq => by
  rw [List.take_add_one, List.getElem?_eq_getElem hi] at hq
  rcases List.mem_append.1 hq with hq | hq
  ·exact hv p hq
  ·rw [List.mem_singleton.1 hq]; exact hp) j
 obtain ⟨r', f1, f2, f3, f4⟩ := agg ho
 rw [e1] at f1; injection f1 with f1; subst f1
 obtain ⟨R, g1, g2, g3, g4⟩ := agg ho'
 have hR : mdl [] (Ej a b (ps.take (i + 1)) j) = some R := g1
 rw [Ej_step hi, if_pos hj, mdl_append, e1, Option.bind_some, mdl] at g1
 obtain ⟨m, hm, hm2⟩ := Option.bind_eq_some_iff.1 g1
 injection hm2 with hm2
 subst hm2
 obtain ⟨m', q1, q2⟩ := ins_take (n + 1) hm
 rw [Add_eq a b n _ (fine_rt f3 n h1 (by omega)) (fine_take f3 _).2.2 ps[i].f0 ps[i].f1 hp.1 hp.2.1 hp.2.2.1 k hk]
 rw [show ins (en a b ps[i].f0 ps[i].f1) (r.take (n + 1)) = some m' from q1]
 exact ⟨_, rfl, m, hR, q2⟩
theorem same_has {a b : Int} {n : Nat} {ps : List S47} {i : Nat} (hi : i < ps.length) {j : Int} (hj : ¬ Int.tmod ps[i].f2 3 = j) {l : List S62} (h : Has a b n (ps.take i) j l) : Has a b n (ps.take (i + 1)) j l := by
 obtain ⟨r, e1, e2⟩ := h
 exact ⟨r, by rw [Ej_step hi, if_neg hj]; exact e1, e2⟩
theorem ok_perm {a b : Int} {E F : List S62} (h : Ok a b F) (hp : E.Perm F) : Ok a b E := ⟨by rw [hp.length_eq]; exact h.1, fun x hx => h.2 x (hp.mem_iff.1 hx)⟩
theorem two {a b : Int} {n : Nat} (h1 : 1 ≤ n) (h2 : n ≤ 1000) {Ea Eb Ec F A B C R : List S62} (hp : (Ea ++ (Eb ++ Ec)).Perm F) (ho : Ok a b F) (hA : mdl [] Ea = some A) (hB : mdl [] Eb = some B) (hC : mdl [] Ec = some C) (hR : mdl [] F = some R) (k : Nat) (hk : 3000 ≤ k) :
  (∃ X, bottom_Merge.f k a b (n : Int) (A.take (n + 1)) a b (n : Int) (B.take (n + 1)) = some (a, b, (n : Int), X, 0) ∧ bottom_Merge.f k a b (n : Int) X a b (n : Int) (C.take (n + 1)) = some (a, b, (n : Int), R.take (n + 1), 0)) ∧
  (∃ Y, bottom_Merge.f k a b (n : Int) (B.take (n + 1)) a b (n : Int) (C.take (n + 1)) = some (a, b, (n : Int), Y, 0) ∧ bottom_Merge.f k a b (n : Int) (A.take (n + 1)) a b (n : Int) Y = some (a, b, (n : Int), R.take (n + 1), 0)) := by
 have hall := ok_perm ho hp
 have hlen := hall.1
 rw [List.length_append, List.length_append] at hlen
 have hab : Ok a b (Ea ++ Eb) := ⟨by rw [List.length_append]; omega, fun x hx => hall.2 x (by rcases List.mem_append.1 hx with h | h; exact List.mem_append.2 (.inl h); exact List.mem_append.2 (.inr (List.mem_append.2 (.inl h))))⟩
 have hbc : Ok a b (Eb ++ Ec) := ⟨by rw [List.length_append]; omega, fun x hx => hall.2 x (List.mem_append.2 (.inr hx))⟩
 rw [← mdl_perm hp [] (ok_rl hall) (fun x hx => by cases hx)] at hR
 obtain ⟨X, x1, _⟩ := agg hab
 obtain ⟨Y, y1, _⟩ := agg hbc
 have hR' : mdl [] ((Ea ++ Eb) ++ Ec) = some R := by rw [List.append_assoc]; exact hR
 have hall' : Ok a b ((Ea ++ Eb) ++ Ec) := by rw [List.append_assoc]; exact hall
 exact ⟨⟨_, merged h1 h2 hab hA hB x1 k hk, merged h1 h2 hall' x1 hC hR' k hk⟩, ⟨_, merged h1 h2 hbc hB hC y1 k hk, merged h1 h2 hall hA y1 hR k hk⟩⟩
def tl (k : Nat) (a b n x3 : Int) (ks : List ByteArray) (cs : List S50) (la lb lc : List S62) : Option Bool :=
 (bottom_Merge.f k a b n la a b n lb).bind fun bt397 => ((bottom_Merge.f k bt397.1 bt397.2.1 bt397.2.2.1 bt397.2.2.2.1 a b n lc).bind fun bt405 => (if x3 ≥ 128 then ((bottom_Merge.f k a b n lb a b n lc).bind fun bt413 => ((bottom_Merge.f k a b n la bt413.1 bt413.2.1 bt413.2.2.1 bt413.2.2.2.1).bind fun bt420 => ((r14_Model.f k a b ks cs (wrap64 (n + 1))).bind fun bt427 => (if bt413.2.2.2.2 = 0 then (if bt420.2.2.2.2 = 0 then (if bt427.2 = true then ((l14_same.f k bt420.1 bt420.2.1 bt420.2.2.1 bt420.2.2.2.1 a b n bt427.1).bind fun t431 => (if t431 = true then ((l14_awake.f k).bind fun t432 => (some t432)) else (some false))) else (some false)) else (some false)) else (some false))))) else ((r14_Model.f k a b ks cs (wrap64 (n + 1))).bind fun bt433 => (if bt397.2.2.2.2 = 0 then (if bt405.2.2.2.2 = 0 then (if bt433.2 = true then ((l14_same.f k bt405.1 bt405.2.1 bt405.2.2.1 bt405.2.2.2.1 a b n bt433.1).bind fun t437 => (if t437 = true then ((l14_awake.f k).bind fun t438 => (some t438)) else (some false))) else (some false)) else (some false)) else (some false)))))
theorem tl_eq {a b : Int} {n : Nat} (h1 : 1 ≤ n) (h2 : n ≤ 1000) (ps : List S47) (hn : ps.length ≤ 60) (hv : ∀ p ∈ ps, Vp p) {ja jb jc : Int} (hp : (Ej a b ps ja ++ (Ej a b ps jb ++ Ej a b ps jc)).Perm (ps.map (pe a b))) {la lb lc : List S62} (hA : Has a b n ps ja la) (hB : Has a b n ps jb lb) (hC : Has a b n ps jc lc) (x3 : Int) (k : Nat) (hk : 100000 ≤ k) :
  tl k a b (n : Int) x3 (ps.map (·.f0)) (ps.map fun p => (⟨0, p.f1⟩ : S50)) la lb lc = some true := by
 obtain ⟨A, a1, rfl⟩ := hA
 obtain ⟨B, b1, rfl⟩ := hB
 obtain ⟨C, c1, rfl⟩ := hC
 have ho : Ok a b (ps.map (pe a b)) := ⟨by rw [List.length_map]; exact hn, fun x hx => by
  obtain ⟨p, hq, rfl⟩ := List.mem_map.1 hx
  exact pe_ok (hv p hq)⟩
 obtain ⟨R, r1, r2, r3, r4⟩ := agg ho
 have ew : wrap64 ((n : Int) + 1) = ((n + 1 : Nat) : Int) := by rw [w64 (by omega) (by omega)]; rfl
 have hm : r14_Model.f k a b (ps.map (·.f0)) (ps.map fun p => (⟨0, p.f1⟩ : S50)) (wrap64 ((n : Int) + 1)) = some ((R.take (n + 1)).map cv, true) := by
  have e := model_eq a b (ps.map fun p => (⟨p.f0, 0, ⟨0, p.f1⟩⟩ : S60)) (n + 1) (by rw [List.length_map]; omega) (fun y hy => by
   obtain ⟨p, hq, rfl⟩ := List.mem_map.1 hy
   have := hv p hq
   exact ⟨by show p.f0.size ≤ 100; have := this.1; omega, ⟨by show (0 : Int) ≤ 0; omega, by show (0 : Int) < _; omega⟩, by show 0 ≤ p.f1; have := this.2.1; omega, by show p.f1 < _; have := this.2.2.1; omega⟩) k (by rw [List.length_map]; omega)
  rw [List.map_map, List.map_map, List.map_map] at e
  have e3 : (ps.map (ent a b ∘ fun p => (⟨p.f0, 0, ⟨0, p.f1⟩⟩ : S60))) = ps.map (pe a b) := rfl
  rw [e3, r1] at e
  rw [ew]
  exact e
 have aw := awake_bind k (by omega)
 have hs : l14_same.f k a b (n : Int) (R.take (n + 1)) a b (n : Int) ((R.take (n + 1)).map cv) = some true := by
  rw [same_eq a b n a b n _ _ (by rw [List.length_take]; omega) k (by omega), yes_true ⟨⟨rfl, rfl⟩, rfl, rfl⟩]
 obtain ⟨⟨X, m1, m2⟩, Y, m3, m4⟩ := two h1 h2 hp ho a1 b1 c1 r1 k (by omega)
 unfold tl
 rw [m1, Option.bind_some]
 simp only
 rw [m2, Option.bind_some]
 by_cases h : x3 ≥ 128
 ·rw [if_pos h, m3, Option.bind_some]
  simp only
  rw [m4, Option.bind_some, hm, Option.bind_some]
  simp only
  rw [if_pos trivial, if_pos trivial, if_pos trivial, hs, Option.bind_some, if_pos rfl, aw]
 ·rw [if_neg h, hm, Option.bind_some]
  simp only
  rw [if_pos trivial, if_pos trivial, if_pos trivial, hs, Option.bind_some, if_pos rfl, aw]
theorem z0 {α : Type} (x y z : α) : sel3 0 x y z = x := rfl
theorem z1 {α : Type} (x y z : α) : sel3 1 x y z = y := rfl
theorem z2 {α : Type} (x y z : α) : sel3 2 x y z = z := rfl
theorem l1_eq (a b : Int) (n : Nat) (h1 : 1 ≤ n) (h2 : n ≤ 1000) (x3 : Int) (hx0 : 0 ≤ x3) (hx1 : x3 ≤ 255) (ps : List S47) (hn : ps.length ≤ 60) (hq : ∀ p ∈ ps, (0 ≤ p.f1 ∧ p.f1 ≤ 18446744073709551615) ∧ 0 ≤ p.f2) :
  ∀ m k i (l0 l1 l2 : List S62), ps.length = i + m → 200000 + 2 * m ≤ k → (∀ p ∈ ps.take i, Vp p) → Has a b n (ps.take i) 0 l0 → Has a b n (ps.take i) 1 l1 → Has a b n (ps.take i) 2 l2 →
  l14_BottomFirst.l1 k x3 (n : Int) ((ps.take i).map (·.f0)) ((ps.take i).map fun p => (⟨0, p.f1⟩ : S50)) ps (ps.length : Int) (i : Int) a b a b (n : Int) l0 a b (n : Int) l1 a b (n : Int) l2 = some true
 | 0, k, i, l0, l1, l2, hi, hk, hv, g0, g1, g2 => by
  obtain ⟨k, rfl⟩ : ∃ k', k = k' + 1 := ⟨k - 1, by omega⟩
  rw [List.take_of_length_le (by omega)] at hv g0 g1 g2 ⊢
  have p0 := Ej_perm a b ps (fun p hp => (hv p hp).2.2.2)
  unfold l14_BottomFirst.l1
  rw [if_neg (by omega)]
  have h3 : Int.tmod x3 3 = 0 ∨ Int.tmod x3 3 = 1 ∨ Int.tmod x3 3 = 2 := by rw [Int.tmod_eq_emod_of_nonneg hx0]; omega
  have w0 : wrap64 0 = 0 := w64 (by omega) (by omega)
  have w1 : wrap64 1 = 1 := w64 (by omega) (by omega)
  have w2 : wrap64 2 = 2 := w64 (by omega) (by omega)
  have w3 : wrap64 3 = 3 := w64 (by omega) (by omega)
  have w4 : wrap64 4 = 4 := w64 (by omega) (by omega)
  rcases h3 with h4 | h4 | h4
  ·rw [h4, w0, show (0 : Int) + 1 = 1 from rfl, show (0 : Int) + 2 = 2 from rfl, w1, w2, show Int.tmod 1 3 = 1 from rfl, show Int.tmod 2 3 = 2 from rfl]
   simp only [z0, z1, z2]
   rw [if_pos (by decide), if_pos (by decide), if_pos (by decide), if_pos (by decide), if_pos (by decide), if_pos (by decide)]
   exact tl_eq h1 h2 ps hn hv p0 g0 g1 g2 x3 k (by omega)
  ·rw [h4, w1, show (1 : Int) + 1 = 2 from rfl, show (1 : Int) + 2 = 3 from rfl, w2, w3, show Int.tmod 2 3 = 2 from rfl, show Int.tmod 3 3 = 0 from rfl]
   simp only [z0, z1, z2]
   rw [if_pos (by decide), if_pos (by decide), if_pos (by decide), if_pos (by decide), if_pos (by decide), if_pos (by decide)]
   refine tl_eq h1 h2 ps hn hv (((List.append_assoc _ _ _ ▸ List.perm_append_comm) : (Ej a b ps 1 ++ (Ej a b ps 2 ++ Ej a b ps 0)).Perm (Ej a b ps 0 ++ (Ej a b ps 1 ++ Ej a b ps 2))).trans p0) g1 g2 g0 x3 k (by omega)
  ·rw [h4, w2, show (2 : Int) + 1 = 3 from rfl, show (2 : Int) + 2 = 4 from rfl, w3, w4, show Int.tmod 3 3 = 0 from rfl, show Int.tmod 4 3 = 1 from rfl]
   simp only [z0, z1, z2]
   rw [if_pos (by decide), if_pos (by decide), if_pos (by decide), if_pos (by decide), if_pos (by decide), if_pos (by decide)]
   refine tl_eq h1 h2 ps hn hv (((List.append_assoc (Ej a b ps 0) (Ej a b ps 1) (Ej a b ps 2)) ▸ List.perm_append_comm : (Ej a b ps 2 ++ (Ej a b ps 0 ++ Ej a b ps 1)).Perm (Ej a b ps 0 ++ (Ej a b ps 1 ++ Ej a b ps 2))).trans p0) g2 g0 g1 x3 k (by omega)
 | m + 1, k, i, l0, l1, l2, hi, hk, hv, g0, g1, g2 => by
  obtain ⟨k, rfl⟩ : ∃ k', k = k' + 1 + 1 := ⟨k - 2, by omega⟩
  have hi' : i < ps.length := by omega
  have hc := hq _ (List.getElem_mem hi')
  unfold l14_BottomFirst.l1
  rw [if_pos (by omega), if_pos (by omega), if_pos (by omega), P_rd ps i hi']
  have aw : ∀ d, d = true → l14_BottomFirst.j2 (k + 1) x3 (n : Int) ((ps.take i).map (·.f0)) ((ps.take i).map fun p => (⟨0, p.f1⟩ : S50)) ps (ps.length : Int) (i : Int) d a b a b (n : Int) l0 a b (n : Int) l1 a b (n : Int) l2 ps[i].f0 ps[i].f1 ps[i].f2 = some true := fun d hd => by
   rw [l14_BottomFirst.j2, if_pos hd, awake_bind _ (by omega)]
  by_cases c1 : (ps[i].f0.size : Int) > 64
  ·rw [if_pos c1]; exact aw true rfl
  ·rw [if_neg c1]
   by_cases c3 : ps[i].f1 = 0
   ·exact aw _ (by rw [c3]; rfl)
   ·rw [show (ps[i].f1 == 0) = false from beq_eq_false_iff_ne.2 c3, l14_BottomFirst.j2, if_neg (by decide)]
    have hvi : Vp ps[i] := ⟨by omega, by omega, hc.1.2, hc.2⟩
    have hv' : ∀ p ∈ ps.take (i + 1), Vp p := fun p hp => by
     rw [List.take_add_one, List.getElem?_eq_getElem hi'] at hp
     rcases List.mem_append.1 hp with hp | hp
     ·exact hv p hp
     ·rw [List.mem_singleton.1 hp]; exact hvi
    have ek : (ps.take i).map (·.f0) ++ [ps[i].f0] = (ps.take (i + 1)).map (·.f0) := by rw [List.take_add_one, List.getElem?_eq_getElem hi', List.map_append]; rfl
    have ec : ((ps.take i).map fun p => (⟨0, p.f1⟩ : S50)) ++ [⟨0, ps[i].f1⟩] = (ps.take (i + 1)).map fun p => (⟨0, p.f1⟩ : S50) := by rw [List.take_add_one, List.getElem?_eq_getElem hi', List.map_append]; rfl
    have lk : ((ps.take i).map (·.f0)).length < 8796093022208 := by rw [List.length_map, List.length_take]; omega
    have lc : ((ps.take i).map fun p => (⟨0, p.f1⟩ : S50)).length < 8796093022208 := by rw [List.length_map, List.length_take]; omega
    have h3 : Int.tmod ps[i].f2 3 = 0 ∨ Int.tmod ps[i].f2 3 = 1 ∨ Int.tmod ps[i].f2 3 = 2 := by rw [Int.tmod_eq_emod_of_nonneg hc.2]; omega
    have ei : wrap64 ((i : Int) + 1) = ((i + 1 : Nat) : Int) := inc (show i < 60 by omega) (by omega)
    rcases h3 with h4 | h4 | h4
    ·obtain ⟨l', e1, e2⟩ := add_has h1 h2 hi' hn hv hvi h4 g0 k (by omega)
     rw [h4]
     simp only [z0]
     rw [if_pos (by decide), if_pos (by decide), e1, Option.bind_some]
     simp only
     rw [if_pos trivial, if_pos trivial, if_pos lk]
     unfold wide_Of.f
     rw [Option.bind_some, if_pos lc, ek, ec, ei]
     exact l1_eq a b n h1 h2 x3 hx0 hx1 ps hn hq m k (i + 1) l' l1 l2 (by omega) (by omega) hv' e2 (same_has hi' (by omega) g1) (same_has hi' (by omega) g2)
    ·obtain ⟨l', e1, e2⟩ := add_has h1 h2 hi' hn hv hvi h4 g1 k (by omega)
     rw [h4]
     simp only [z1]
     rw [if_pos (by decide), if_pos (by decide), e1, Option.bind_some]
     simp only
     rw [if_pos trivial, if_neg (by decide), if_pos trivial, if_pos lk]
     unfold wide_Of.f
     rw [Option.bind_some, if_pos lc, ek, ec, ei]
     exact l1_eq a b n h1 h2 x3 hx0 hx1 ps hn hq m k (i + 1) l0 l' l2 (by omega) (by omega) hv' (same_has hi' (by omega) g0) e2 (same_has hi' (by omega) g2)
    ·obtain ⟨l', e1, e2⟩ := add_has h1 h2 hi' hn hv hvi h4 g2 k (by omega)
     rw [h4]
     simp only [z2]
     rw [if_pos (by decide), if_pos (by decide), e1, Option.bind_some]
     simp only
     rw [if_pos trivial, if_neg (by decide), if_neg (by decide), if_pos trivial, if_pos lk]
     unfold wide_Of.f
     rw [Option.bind_some, if_pos lc, ek, ec, ei]
     exact l1_eq a b n h1 h2 x3 hx0 hx1 ps hn hq m k (i + 1) l0 l1 l' (by omega) (by omega) hv' (same_has hi' (by omega) g0) (same_has hi' (by omega) g1) e2
theorem BottomFirst : l14_BottomFirst.Pure := by
 intro x c ps t hx hc hps ht
 obtain ⟨a, b⟩ := x
 have hq : ∀ p ∈ ps, (0 ≤ p.f1 ∧ p.f1 ≤ 18446744073709551615) ∧ 0 ≤ p.f2 := fun p hp => ⟨(hps.2 p hp).2.1, (hps.2 p hp).2.2.1⟩
 obtain ⟨k, hk⟩ : ∃ k, k = 300000 := ⟨_, rfl⟩
 refine ⟨k + 4, ?_⟩
 unfold l14_BottomFirst.f
 by_cases h : (ps.length : Int) > 60
 ·rw [if_pos h, awake_bind _ (by omega)]
 ·rw [if_neg h]
  have hc0 := hc.1
  obtain ⟨n, hn, hn1, hn2⟩ : ∃ n : Nat, wrap64 (1 + wrap64 (Int.tmod c 20)) = (n : Int) ∧ 1 ≤ n ∧ n ≤ 20 := by
   rw [Int.tmod_eq_emod_of_nonneg hc0]
   have h1 : wrap64 (c % 20) = c % 20 := w64 (by omega) (by omega)
   rw [h1, w64 (by omega) (by omega)]
   exact ⟨(1 + c % 20).toNat, by omega, by omega, by omega⟩
  have hb := bNew_eq a b (n : Int) ⟨by omega, by omega⟩
  have w1 : wrap64 (0 + 1) = 1 := w64 (by omega) (by omega)
  have w2 : wrap64 (1 + 1) = 2 := w64 (by omega) (by omega)
  have w3 : wrap64 (2 + 1) = 3 := w64 (by omega) (by omega)
  have g : ∀ j, Has a b n (ps.take 0) j [] := fun j => ⟨[], by simp [Ej, mdl], by simp⟩
  rw [hn]
  simp only
  rw [l14_BottomFirst.l0, if_pos (by decide), hb, Option.bind_some]
  simp only
  rw [if_pos trivial, if_pos trivial, w1, l14_BottomFirst.l0, if_pos (by decide), hb, Option.bind_some]
  simp only
  rw [if_pos trivial, if_neg (by decide), if_pos trivial, w2, l14_BottomFirst.l0, if_pos (by decide), hb, Option.bind_some]
  simp only
  rw [if_pos trivial, if_neg (by decide), if_neg (by decide), if_pos trivial, w3, l14_BottomFirst.l0, if_neg (by decide)]
  exact l1_eq a b n hn1 (by omega) t ht.1 ht.2 ps (by omega) hq ps.length k 0 [] [] [] (by omega) (by omega) (fun p hp => by simp at hp) (g 0) (g 1) (g 2)
end Go.Proofs.Ytmfffbafldbihaa.Pure
