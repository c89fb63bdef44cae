import Derived.Test.YtagcobdpojeiiaaHx0
import Derived.Test.YtagcobdpojeiiaaHx13
import Derived.Test.YtagcobdpojeiiaaHx6
import Derived.Test.YtagcobdpojeiiaaHx5
import Derived.Test.YtagcobdpojeiiaaHx11
import Derived.Test.YtagcobdpojeiiaaHx10
import Derived.Test.YtagcobdpojeiiaaHx12
import Derived.Test.YtagcobdpojeiiaaHx14
import Derived.Test.YtagcobdpojeiiaaHx15
import Derived.Test.YtagcobdpojeiiaaHx7
import Derived.Test.YtagcobdpojeiiaaHx8
import Derived.Test.YtagcobdpojeiiaaHx9
import Derived.Test.YtagcobdpojeiiaaHx18
import Derived.Test.YtagcobdpojeiiaaHx17
import Derived.Test.YtagcobdpojeiiaaHx16
import Derived.Test.YtagcobdpojeiiaaHx19
import Derived.Test.YtagcobdpojeiiaaSip
import Derived.Test.YtagcobdpojeiiaaHo
set_option linter.unusedVariables false
set_option linter.unusedSimpArgs false
namespace Go.Proofs.Ytagcobdpojeiiaa.H
abbrev S91.id (x : S91) : ByteArray := x.f0
abbrev S91.u (x : S91) : Int := x.f1
abbrev S84.v (x : S84) : Int := x.f0
abbrev S84.l (x : S84) : List S91 := x.f1
abbrev S67.n (x : S67) : ByteArray := x.f0
abbrev S67.u (x : S67) : Int := x.f1
abbrev S67.l (x : S67) : List S84 := x.f2
abbrev S63.t (x : S63) : Int := x.f0
abbrev S63.l (x : S63) : List S67 := x.f1
abbrev S29.t (x : S29) : Int := x.f0
abbrev S29.n (x : S29) : ByteArray := x.f1
abbrev S29.v (x : S29) : Int := x.f2
abbrev S29.id (x : S29) : ByteArray := x.f3
end Go.Proofs.Ytagcobdpojeiiaa.H
namespace Go.Proofs.Ytagcobdpojeiiaa.Tr
open Go.RowKit Go.Proofs.Ytagcobdpojeiiaa.H Go.Proofs.YtagcobdpojeiiaaW.PrintWords Go.Proofs.YtagcobdpojeiiaaW.PrintMore
abbrev Tc := S91
abbrev Bk := S84
abbrev Lb := S67
abbrev Ep := S63
abbrev Rc := S29
structure Lin {κ : Type} (lt : κ → κ → Bool) : Prop where
 irr : ∀ x, lt x x = false
 tr : ∀ {x y z}, lt x y = true → lt y z = true → lt x z = true
 tri : ∀ {x y}, lt x y = false → lt y x = false → x = y
section
variable {κ α ρ : Type} (lt : κ → κ → Bool)
def same (x y : κ) : Bool := !lt x y && !lt y x
def insK (x : κ) : List κ → List κ
 | [] => [x]
 | y :: l => if lt y x = true then y :: insK x l else if lt x y = true then x :: y :: l else y :: l
def Srt (l : List κ) : Prop := l.Pairwise (fun x y => lt x y = true)
def firsts (l : List κ) : List κ := l.foldl (fun a x => insK lt x a) []
variable {lt}
theorem same_iff (h : Lin lt) {x y : κ} : same lt x y = true ↔ x = y := by
 unfold same
 simp only [Bool.and_eq_true, Bool.not_eq_true']
 exact ⟨fun hh => h.tri hh.1 hh.2, fun hh => by subst hh; exact ⟨h.irr _, h.irr _⟩⟩
theorem mem_insK (h : Lin lt) {x z : κ} : ∀ {l : List κ}, z ∈ insK lt x l ↔ z = x ∨ z ∈ l
 | [] => by simp [insK]
 | y :: l => by
  unfold insK
  split
  ·rw [List.mem_cons, mem_insK h, List.mem_cons]
   exact ⟨fun hh => by rcases hh with hh | hh | hh <;> simp [hh], fun hh => by rcases hh with hh | hh | hh <;> simp [hh]⟩
  ·rename_i h1
   split
   ·rw [List.mem_cons]
   ·rename_i h2
    have e : x = y := h.tri (Bool.eq_false_iff.2 h2) (Bool.eq_false_iff.2 h1)
    subst e
    exact ⟨Or.inr, fun hh => hh.elim (fun e => e ▸ List.mem_cons_self ..) id⟩
theorem insK_srt (h : Lin lt) {x : κ} : ∀ {l : List κ}, Srt lt l → Srt lt (insK lt x l)
 | [], _ => List.pairwise_singleton _ _
 | y :: l, hs => by
  obtain ⟨h1, h2⟩ := List.pairwise_cons.1 hs
  unfold insK
  split
  ·rename_i hy
   refine List.pairwise_cons.2 ⟨fun z hz => ?_, insK_srt h h2⟩
   rcases (mem_insK h).1 hz with e | e
   ·rw [e]; exact hy
   ·exact h1 z e
  ·split
   ·rename_i hx
    refine List.pairwise_cons.2 ⟨fun z hz => ?_, hs⟩
    rcases List.mem_cons.1 hz with e | e
    ·rw [e]; exact hx
    ·exact h.tr hx (h1 z e)
   ·exact hs
theorem firsts_snoc (l : List κ) (x : κ) : firsts lt (l ++ [x]) = insK lt x (firsts lt l) := by
 unfold firsts
 rw [List.foldl_append]
 rfl
theorem fold_mem (h : Lin lt) {z : κ} : ∀ (l a : List κ), z ∈ l.foldl (fun a x => insK lt x a) a ↔ z ∈ a ∨ z ∈ l
 | [], a => by simp
 | x :: l, a => by
  rw [List.foldl_cons, fold_mem h l, mem_insK h, List.mem_cons]
  exact ⟨fun hh => by rcases hh with (hh | hh) | hh <;> simp [hh], fun hh => by rcases hh with hh | hh | hh <;> simp [hh]⟩
theorem fold_srt (h : Lin lt) : ∀ (l a : List κ), Srt lt a → Srt lt (l.foldl (fun a x => insK lt x a) a)
 | [], a, ha => ha
 | x :: l, a, ha => fold_srt h l _ (insK_srt h ha)
theorem mem_firsts (h : Lin lt) {z : κ} {l : List κ} : z ∈ firsts lt l ↔ z ∈ l := by
 unfold firsts
 rw [fold_mem h]
 simp
theorem firsts_srt (h : Lin lt) (l : List κ) : Srt lt (firsts lt l) := fold_srt h l [] List.Pairwise.nil
theorem srt_ext (h : Lin lt) : ∀ {l m : List κ}, Srt lt l → Srt lt m → (∀ x, x ∈ l ↔ x ∈ m) → l = m
 | [], [], _, _, _ => rfl
 | [], y :: m, _, _, hh => absurd ((hh y).2 (List.mem_cons_self ..)) (by simp)
 | x :: l, [], _, _, hh => absurd ((hh x).1 (List.mem_cons_self ..)) (by simp)
 | x :: l, y :: m, hl, hm, hh => by
  obtain ⟨l1, l2⟩ := List.pairwise_cons.1 hl
  obtain ⟨m1, m2⟩ := List.pairwise_cons.1 hm
  have e : x = y := by
   rcases List.mem_cons.1 ((hh x).1 (List.mem_cons_self ..)) with e | e
   ·exact e
   ·rcases List.mem_cons.1 ((hh y).2 (List.mem_cons_self ..)) with e' | e'
    ·exact e'.symm
    ·exact absurd (h.tr (l1 y e') (m1 x e)) (by rw [h.irr]; decide)
  subst e
  congr 1
  refine srt_ext h l2 m2 fun z => ⟨fun hz => ?_, fun hz => ?_⟩
  ·rcases List.mem_cons.1 ((hh z).1 (List.mem_cons_of_mem _ hz)) with e | e
   ·exact absurd (l1 z hz) (by rw [e, h.irr]; decide)
   ·exact e
  ·rcases List.mem_cons.1 ((hh z).2 (List.mem_cons_of_mem _ hz)) with e | e
   ·exact absurd (m1 z hz) (by rw [e, h.irr]; decide)
   ·exact e
theorem insK_old (h : Lin lt) {x : κ} : ∀ {l : List κ}, Srt lt l → x ∈ l → insK lt x l = l := fun hs hx =>
 srt_ext h (insK_srt h hs) hs fun z => by
  rw [mem_insK h]
  exact ⟨fun hh => hh.elim (fun e => e ▸ hx) id, Or.inr⟩
variable (lt) (key : α → κ) (kr : ρ → κ) (F : κ → List ρ → α)
def own (k : κ) (l : List ρ) : List ρ := l.filter fun r => same lt (kr r) k
def grp (l : List ρ) : List α := (firsts lt (l.map kr)).map fun k => F k (own lt kr k l)
def upd (into : α → α) (x : α) : List α → List α
 | [] => [into x]
 | y :: l => if lt (key y) (key x) = true then y :: upd into x l else if lt (key x) (key y) = true then into x :: y :: l else into y :: l
variable {lt key kr F}
theorem upd_take (into : α → α) (x : α) : ∀ (l : List α) (n : Nat), (upd lt key into x (l.take n)).take n = (upd lt key into x l).take n
 | [], n => by rw [List.take_nil]
 | y :: l, 0 => rfl
 | y :: l, n + 1 => by
  rw [List.take_succ_cons]
  unfold upd
  split
  ·rw [List.take_succ_cons, List.take_succ_cons, upd_take into x l n]
  ·split
   ·rw [List.take_succ_cons, List.take_succ_cons]
    cases n with
    | zero => rfl
    | succ n => rw [List.take_succ_cons, List.take_succ_cons, List.take_take, Nat.min_eq_left (Nat.le_succ n)]
   ·rw [List.take_succ_cons, List.take_succ_cons, List.take_take, Nat.min_self]
theorem own_nil {k : κ} {l : List ρ} (h : Lin lt) : own lt kr k l = [] ↔ k ∉ l.map kr := by
 unfold own
 rw [List.filter_eq_nil_iff, List.mem_map]
 constructor
 ·rintro hh ⟨r, h1, h2⟩
  exact hh r h1 ((same_iff h).2 h2)
 ·rintro hh r h1 h2
  exact hh ⟨r, h1, (same_iff h).1 h2⟩
theorem own_snoc_same (h : Lin lt) (l : List ρ) (r : ρ) : own lt kr (kr r) (l ++ [r]) = own lt kr (kr r) l ++ [r] := by
 unfold own
 rw [List.filter_append]
 congr 1
 rw [List.filter_cons, (same_iff h).2 rfl]
 rfl
theorem own_snoc_other (h : Lin lt) {k : κ} (l : List ρ) {r : ρ} (hk : k ≠ kr r) : own lt kr k (l ++ [r]) = own lt kr k l := by
 unfold own
 rw [List.filter_append]
 have : same lt (kr r) k = false := Bool.eq_false_iff.2 fun e => hk ((same_iff h).1 e).symm
 rw [List.filter_cons, this]
 simp
theorem upd_new (h : Lin lt) {into : α → α} {x : α} {f f' : κ → α} {k0 : κ} (hx : key x = k0) (h0 : into x = f' k0) : ∀ {ks : List κ}, k0 ∉ ks → (∀ k ∈ ks, f k = f' k) → (∀ k ∈ ks, key (f k) = k) → upd lt key into x (ks.map f) = (insK lt k0 ks).map f'
 | [], _, _, _ => by simp [upd, insK, h0]
 | y :: ks, hn, hf, hk => by
  rw [List.map_cons]
  unfold upd insK
  rw [hk y (List.mem_cons_self ..), hx]
  have hf2 : ks.map f = ks.map f' := List.map_congr_left fun k hk => hf k (List.mem_cons_of_mem _ hk)
  split
  ·rw [upd_new h hx h0 (fun hh => hn (List.mem_cons_of_mem _ hh)) (fun k hk => hf k (List.mem_cons_of_mem _ hk)) (fun k hh => hk k (List.mem_cons_of_mem _ hh)), List.map_cons, hf y (List.mem_cons_self ..)]
  ·rename_i h1
   split
   ·rw [h0, List.map_cons, List.map_cons, hf y (List.mem_cons_self ..), hf2]
   ·rename_i h2
    exact absurd (h.tri (Bool.eq_false_iff.2 h2) (Bool.eq_false_iff.2 h1)) (fun e => hn (e ▸ List.mem_cons_self ..))
theorem upd_old (h : Lin lt) {into : α → α} {x : α} {f f' : κ → α} {k0 : κ} (hx : key x = k0) (h0 : into (f k0) = f' k0) : ∀ {ks : List κ}, Srt lt ks → k0 ∈ ks → (∀ k ∈ ks, k ≠ k0 → f k = f' k) → (∀ k ∈ ks, key (f k) = k) → upd lt key into x (ks.map f) = ks.map f'
 | [], _, hn, _, _ => by cases hn
 | y :: ks, hs, hn, hf, hk => by
  obtain ⟨s1, s2⟩ := List.pairwise_cons.1 hs
  rw [List.map_cons]
  unfold upd
  rw [hk y (List.mem_cons_self ..), hx]
  split
  ·rename_i h1
   have hy : y ≠ k0 := fun e => by rw [e, h.irr] at h1; cases h1
   rw [upd_old h hx h0 s2 ((List.mem_cons.1 hn).resolve_left fun e => hy e.symm) (fun k hk => hf k (List.mem_cons_of_mem _ hk)) (fun k hh => hk k (List.mem_cons_of_mem _ hh)), List.map_cons, hf y (List.mem_cons_self ..) hy]
  ·rename_i h1
   split
   ·rename_i h2
    rcases List.mem_cons.1 hn with e | e
    ·rw [e, h.irr] at h2; cases h2
    ·exact absurd (s1 _ e) h1
   ·rename_i h2
    have e : k0 = y := h.tri (Bool.eq_false_iff.2 h2) (Bool.eq_false_iff.2 h1)
    subst e
    rw [h0, List.map_cons]
    congr 1
    exact List.map_congr_left fun k hk => hf k (List.mem_cons_of_mem _ hk) (fun e => by have := s1 k hk; rw [e, h.irr] at this; cases this)
theorem upd_grp (h : Lin lt) {into : α → α} {x : α} {r : ρ} (hk : ∀ k l, key (F k l) = k) (hx : key x = kr r) (h0 : into x = F (kr r) [r]) (h1 : ∀ l, into (F (kr r) l) = F (kr r) (l ++ [r])) (l : List ρ) : upd lt key into x (grp lt kr F l) = grp lt kr F (l ++ [r]) := by
 unfold grp
 rw [List.map_append, List.map_singleton, firsts_snoc]
 by_cases hm : kr r ∈ firsts lt (l.map kr)
 ·rw [insK_old h (firsts_srt h _) hm]
  exact upd_old h hx (by rw [h1, own_snoc_same h]) (firsts_srt h _) hm (fun k _ hne => by rw [own_snoc_other h l hne]) (fun k _ => hk k _)
 ·refine upd_new h hx ?_ hm (fun k hkm => ?_) (fun k _ => hk k _)
  ·rw [h0, own_snoc_same h, (own_nil h).2 (fun hh => hm ((mem_firsts h).2 hh)), List.nil_append]
  ·rw [own_snoc_other h l (fun e => hm (by rw [← e]; exact hkm))]
theorem upd_cut (h : Lin lt) {into : α → α} {x : α} {r : ρ} (hk : ∀ k l, key (F k l) = k) (hx : key x = kr r) (h0 : into x = F (kr r) [r]) (h1 : ∀ l, into (F (kr r) l) = F (kr r) (l ++ [r])) (l : List ρ) (n : Nat) : (upd lt key into x ((grp lt kr F l).take n)).take n = (grp lt kr F (l ++ [r])).take n := by
 rw [upd_take, upd_grp h hk hx h0 h1]
theorem grp_keys (hk : ∀ k l, key (F k l) = k) (l : List ρ) : (grp lt kr F l).map key = firsts lt (l.map kr) := by
 unfold grp
 rw [List.map_map]
 conv => rhs; rw [← List.map_id (firsts lt (l.map kr))]
 exact List.map_congr_left fun k _ => hk k _
theorem mem_grp (h : Lin lt) {y : α} {l : List ρ} (hy : y ∈ grp lt kr F l) : ∃ k, k ∈ l.map kr ∧ y = F k (own lt kr k l) ∧ own lt kr k l ≠ [] := by
 obtain ⟨k, h1, rfl⟩ := List.mem_map.1 hy
 have h2 := (mem_firsts h).1 h1
 exact ⟨k, h2, rfl, fun e => (own_nil h).1 e h2⟩
theorem grp_flat (h : Lin lt) {flat : α → List ρ} : ∀ {ys : List α}, Srt lt (ys.map key) → (∀ y ∈ ys, flat y ≠ [] ∧ (∀ r ∈ flat y, kr r = key y) ∧ F (key y) (flat y) = y) → grp lt kr F (ys.flatMap flat) = ys := by
 intro ys hs hy
 have e : firsts lt ((ys.flatMap flat).map kr) = ys.map key := srt_ext h (firsts_srt h _) hs fun k => by
  rw [mem_firsts h, List.mem_map, List.mem_map]
  constructor
  ·rintro ⟨r, h1, rfl⟩
   obtain ⟨y, h2, h3⟩ := List.mem_flatMap.1 h1
   exact ⟨y, h2, ((hy y h2).2.1 r h3).symm⟩
  ·rintro ⟨y, h1, rfl⟩
   obtain ⟨g1, g2, g3⟩ := hy y h1
   obtain ⟨r, l, e⟩ := List.exists_cons_of_ne_nil g1
   have hr : r ∈ flat y := by rw [e]; exact List.mem_cons_self ..
   exact ⟨r, List.mem_flatMap.2 ⟨y, h1, hr⟩, g2 r hr⟩
 have o : ∀ y ∈ ys, own lt kr (key y) (ys.flatMap flat) = flat y := by
  intro y hyy
  clear e
  induction ys with
  | nil => cases hyy
  | cons z ys ih =>
   rw [List.map_cons] at hs
   obtain ⟨s1, s2⟩ := List.pairwise_cons.1 hs
   have own_ne : ∀ w : α, (∀ r ∈ flat w, kr r = key w) → key w ≠ key y → own lt kr (key y) (flat w) = [] := fun w hw hne => by
    rw [own_nil h, List.mem_map]
    rintro ⟨r, h1, h2⟩
    exact hne ((hw r h1).symm.trans h2)
   have app : own lt kr (key y) ((z :: ys).flatMap flat) = own lt kr (key y) (flat z) ++ own lt kr (key y) (ys.flatMap flat) := by
    unfold own
    rw [List.flatMap_cons, List.filter_append]
   rw [app]
   rcases List.mem_cons.1 hyy with e | e
   ·subst e
    have e1 : own lt kr (key y) (flat y) = flat y := by
     unfold own
     rw [List.filter_eq_self]
     exact fun r hr => (same_iff h).2 ((hy y (List.mem_cons_self ..)).2.1 r hr)
    have e2 : own lt kr (key y) (ys.flatMap flat) = [] := by
     rw [own_nil h, List.mem_map]
     rintro ⟨r, h1, h2⟩
     obtain ⟨w, h3, h4⟩ := List.mem_flatMap.1 h1
     have h5 := (hy w (List.mem_cons_of_mem _ h3)).2.1 r h4
     have h6 := s1 (key w) (List.mem_map_of_mem h3)
     rw [← h5, h2, h.irr] at h6
     cases h6
    rw [e1, e2, List.append_nil]
   ·have hne : key z ≠ key y := fun hh => by
     have h6 := s1 (key y) (List.mem_map_of_mem e)
     rw [hh, h.irr] at h6
     cases h6
    rw [own_ne z (hy z (List.mem_cons_self ..)).2.1 hne, List.nil_append]
    exact ih s2 (fun w hw => hy w (List.mem_cons_of_mem _ hw)) e
 unfold grp
 rw [e, List.map_map]
 conv => rhs; rw [← List.map_id ys]
 refine List.map_congr_left fun y hyy => ?_
 show F (key y) (own lt kr (key y) (ys.flatMap flat)) = y
 rw [o y hyy]
 exact (hy y hyy).2.2
theorem grp_filter (h : Lin lt) (p : κ → Bool) (hk : ∀ k l, key (F k l) = k) (l : List ρ) : (grp lt kr F l).filter (fun y => p (key y)) = grp lt kr F (l.filter fun r => p (kr r)) := by
 have e : (firsts lt (l.map kr)).filter p = firsts lt ((l.filter fun r => p (kr r)).map kr) :=
  srt_ext h (List.Pairwise.sublist List.filter_sublist (firsts_srt h _)) (firsts_srt h _) fun k => by
   rw [List.mem_filter, mem_firsts h, mem_firsts h, List.mem_map, List.mem_map]
   constructor
   ·rintro ⟨⟨r, h1, rfl⟩, h2⟩
    exact ⟨r, List.mem_filter.2 ⟨h1, h2⟩, rfl⟩
   ·rintro ⟨r, h1, rfl⟩
    obtain ⟨h2, h3⟩ := List.mem_filter.1 h1
    exact ⟨⟨r, h2, rfl⟩, h3⟩
 unfold grp
 rw [← e, List.filter_map]
 have e2 : ((fun y => p (key y)) ∘ fun k => F k (own lt kr k l)) = p := by
  funext k
  show p (key (F k _)) = p k
  rw [hk]
 rw [e2]
 refine List.map_congr_left fun k hkm => ?_
 have hp := (List.mem_filter.1 hkm).2
 congr 1
 unfold own
 rw [List.filter_filter]
 refine List.filter_congr fun r _ => ?_
 cases hs : same lt (kr r) k with
 | false => rfl
 | true => rw [(same_iff h).1 hs, hp]; rfl
end
def ltI (x y : Int) : Bool := decide (x < y)
theorem linI : Lin ltI := ⟨fun x => by unfold ltI; simp, fun h1 h2 => by unfold ltI at *; simp at *; omega, fun h1 h2 => by unfold ltI at *; simp at *; omega⟩
section
variable (lt : Int × ByteArray → Int × ByteArray → Bool) (H : ByteArray → Int) (E L M : Nat)
def kT (t : Tc) : Int × ByteArray := (t.u, t.id)
def kL (l : Lb) : Int × ByteArray := (l.u, l.n)
def rT (r : Rc) : Int × ByteArray := (H r.id, r.id)
def rL (r : Rc) : Int × ByteArray := (H r.n, r.n)
def mkT (k : Int × ByteArray) (_ : List Rc) : Tc := ⟨k.2, k.1⟩
def gT (l : List Rc) : List Tc := (grp lt (rT H) mkT l).take M
def mkB (v : Int) (l : List Rc) : Bk := ⟨v, gT lt H M l⟩
def gB (l : List Rc) : List Bk := grp ltI (·.v) (mkB lt H M) l
def mkL (k : Int × ByteArray) (l : List Rc) : Lb := ⟨k.2, k.1, gB lt H M l⟩
def gL (l : List Rc) : List Lb := (grp lt (rL H) (mkL lt H M) l).take L
def mkE (t : Int) (l : List Rc) : Ep := ⟨t, gL lt H L M l⟩
def gE (l : List Rc) : List Ep := grp ltI (·.t) (mkE lt H L M) l
def wm (w : Int) (l : List Rc) : Int := l.foldl (fun w r => max w (r.t - E + 1)) w
def mk (w : Int) (l : List Rc) : Int × List Ep := (wm E w l, gE lt H L M (l.filter fun r => decide (wm E w l ≤ r.t)))
def putT (r : Rc) (l : List Tc) : List Tc := (upd lt kT id ⟨r.id, H r.id⟩ l).take M
def intoB (r : Rc) (b : Bk) : Bk := ⟨b.v, putT lt H M r b.l⟩
def putB (r : Rc) (l : List Bk) : List Bk := upd ltI (·.v) (intoB lt H M r) ⟨r.v, []⟩ l
def intoL (r : Rc) (l : Lb) : Lb := ⟨l.n, l.u, putB lt H M r l.l⟩
def putL (r : Rc) (l : List Lb) : List Lb := (upd lt kL (intoL lt H M r) ⟨r.n, H r.n, []⟩ l).take L
def intoE (r : Rc) (e : Ep) : Ep := ⟨e.t, putL lt H L M r e.l⟩
def putE (r : Rc) (l : List Ep) : List Ep := upd ltI (·.t) (intoE lt H L M r) ⟨r.t, []⟩ l
def raise (c : Int) (s : Int × List Ep) : Int × List Ep := (max s.1 c, s.2.filter fun e => decide (max s.1 c ≤ e.t))
def add (s : Int × List Ep) (r : Rc) : Int × List Ep :=
 let q := raise (r.t - E + 1) s
 if r.t < q.1 then q else (q.1, putE lt H L M r q.2)
variable {lt H E L M}
theorem grp_none {κ α ρ : Type} {lt : κ → κ → Bool} {kr : ρ → κ} {F : κ → List ρ → α} : grp lt kr F [] = [] := rfl
theorem putT_g (h : Lin lt) (r : Rc) (l : List Rc) : putT lt H M r (gT lt H M l) = gT lt H M (l ++ [r]) :=
 upd_cut (r := r) (kr := rT H) (F := mkT) (key := kT) (into := id) (x := (⟨r.id, H r.id⟩ : Tc)) h (fun _ _ => rfl) rfl rfl (fun _ => rfl) l M
theorem intoB_mk (h : Lin lt) (r : Rc) (v : Int) (l : List Rc) : intoB lt H M r (mkB lt H M v l) = mkB lt H M v (l ++ [r]) := by
 unfold intoB mkB
 rw [putT_g h]
theorem intoB_new (h : Lin lt) (r : Rc) : intoB lt H M r ⟨r.v, []⟩ = mkB lt H M r.v [r] := by
 have := intoB_mk (H := H) (M := M) h r r.v []
 rw [List.nil_append] at this
 rw [← this]
 unfold mkB gT
 rw [grp_none, List.take_nil]
theorem putB_g (h : Lin lt) (r : Rc) (l : List Rc) : putB lt H M r (gB lt H M l) = gB lt H M (l ++ [r]) :=
 upd_grp (r := r) (kr := fun r : Rc => r.v) (F := mkB lt H M) (key := fun b : Bk => b.v) (x := (⟨r.v, []⟩ : Bk)) linI (fun _ _ => rfl) rfl (intoB_new h r) (fun l => intoB_mk h r _ l) l
theorem intoL_mk (h : Lin lt) (r : Rc) (k : Int × ByteArray) (l : List Rc) : intoL lt H M r (mkL lt H M k l) = mkL lt H M k (l ++ [r]) := by
 unfold intoL mkL
 rw [putB_g h]
theorem intoL_new (h : Lin lt) (r : Rc) : intoL lt H M r ⟨r.n, H r.n, []⟩ = mkL lt H M (rL H r) [r] := by
 have := intoL_mk (H := H) (M := M) h r (rL H r) []
 rw [List.nil_append] at this
 rw [← this]
 unfold mkL gB
 rw [grp_none]
 rfl
theorem putL_g (h : Lin lt) (r : Rc) (l : List Rc) : putL lt H L M r (gL lt H L M l) = gL lt H L M (l ++ [r]) :=
 upd_cut (r := r) (kr := rL H) (F := mkL lt H M) (key := kL) (x := (⟨r.n, H r.n, []⟩ : Lb)) h (fun _ _ => rfl) rfl (intoL_new h r) (fun l => intoL_mk h r _ l) l L
theorem intoE_mk (h : Lin lt) (r : Rc) (t : Int) (l : List Rc) : intoE lt H L M r (mkE lt H L M t l) = mkE lt H L M t (l ++ [r]) := by
 unfold intoE mkE
 rw [putL_g h]
theorem intoE_new (h : Lin lt) (r : Rc) : intoE lt H L M r ⟨r.t, []⟩ = mkE lt H L M r.t [r] := by
 have := intoE_mk (H := H) (L := L) (M := M) h r r.t []
 rw [List.nil_append] at this
 rw [← this]
 unfold mkE gL
 rw [grp_none, List.take_nil]
theorem putE_g (h : Lin lt) (r : Rc) (l : List Rc) : putE lt H L M r (gE lt H L M l) = gE lt H L M (l ++ [r]) :=
 upd_grp (r := r) (kr := fun r : Rc => r.t) (F := mkE lt H L M) (key := fun e : Ep => e.t) (x := (⟨r.t, []⟩ : Ep)) linI (fun _ _ => rfl) rfl (intoE_new h r) (fun l => intoE_mk h r _ l) l
theorem gE_filter (c : Int) (l : List Rc) : (gE lt H L M l).filter (fun e => decide (c ≤ e.t)) = gE lt H L M (l.filter fun r => decide (c ≤ r.t)) :=
 grp_filter (F := mkE lt H L M) (kr := fun r : Rc => r.t) (key := fun e : Ep => e.t) linI (fun k => decide (c ≤ k)) (fun _ _ => rfl) l
theorem wm_snoc (w : Int) (l : List Rc) (r : Rc) : wm E w (l ++ [r]) = max (wm E w l) (r.t - E + 1) := by
 unfold wm
 rw [List.foldl_append]
 rfl
theorem wm_max (w c : Int) : ∀ l : List Rc, wm E (max w c) l = max (wm E w l) c
 | [] => rfl
 | r :: l => by
  unfold wm
  rw [List.foldl_cons, List.foldl_cons, show max (max w c) (r.t - E + 1) = max (max w (r.t - E + 1)) c by omega]
  exact wm_max _ c l
theorem filter_le (l : List Rc) {c d : Int} (h : c ≤ d) : (l.filter fun r => decide (c ≤ r.t)).filter (fun r => decide (d ≤ r.t)) = l.filter fun r => decide (d ≤ r.t) := by
 rw [List.filter_filter]
 refine List.filter_congr fun r _ => ?_
 by_cases h1 : d ≤ r.t
 ·rw [decide_eq_true h1, decide_eq_true (show c ≤ r.t by omega)]; rfl
 ·rw [decide_eq_false h1]; rfl
theorem raise_mk (w c : Int) (l : List Rc) : raise c (mk lt H E L M w l) = mk lt H E L M (max w c) l := by
 unfold raise mk
 simp only
 rw [wm_max, gE_filter, filter_le l (by omega)]
theorem add_mk (h : Lin lt) (w : Int) (l : List Rc) (r : Rc) : add lt H E L M (mk lt H E L M w l) r = mk lt H E L M w (l ++ [r]) := by
 unfold add
 simp only [raise_mk]
 have e : wm E (max w (r.t - E + 1)) l = wm E w (l ++ [r]) := by rw [wm_max, wm_snoc]
 unfold mk
 simp only
 rw [e, List.filter_append]
 by_cases h1 : r.t < wm E w (l ++ [r])
 ·rw [if_pos h1, List.filter_cons, if_neg (by simp; omega), List.filter_nil, List.append_nil]
 ·rw [if_neg h1, List.filter_cons, if_pos (by simp; omega), List.filter_nil, putE_g h]
end
def flB (t : Int) (n : ByteArray) (b : Bk) : List Rc := b.l.map fun x => ⟨t, n, b.v, x.id⟩
def flL (t : Int) (l : Lb) : List Rc := l.l.flatMap (flB t l.n)
def flE (e : Ep) : List Rc := e.l.flatMap (flL e.t)
def fl (s : List Ep) : List Rc := s.flatMap flE
section
variable (lt : Int × ByteArray → Int × ByteArray → Bool) (H : ByteArray → Int) (E L M : Nat)
def GT (l : List Tc) : Prop := l ≠ [] ∧ l.length ≤ M ∧ Srt lt (l.map kT) ∧ ∀ x ∈ l, x.u = H x.id
def GB (b : Bk) : Prop := GT lt H M b.l
def GL (l : Lb) : Prop := l.u = H l.n ∧ l.l ≠ [] ∧ Srt ltI (l.l.map (·.v)) ∧ ∀ b ∈ l.l, GB lt H M b
def GE (e : Ep) : Prop := e.l ≠ [] ∧ e.l.length ≤ L ∧ Srt lt (e.l.map kL) ∧ ∀ l ∈ e.l, GL lt H M l
def GS (w : Int) (s : List Ep) : Prop := Srt ltI (s.map (·.t)) ∧ ∀ e ∈ s, w ≤ e.t ∧ e.t ≤ w + E - 1 ∧ GE lt H L M e
variable {lt H E L M}
theorem gT_flat (h : Lin lt) {t : Int} {n : ByteArray} {b : Bk} (hb : GB lt H M b) : gT lt H M (flB t n b) = b.l := by
 obtain ⟨h1, h2, h3, h4⟩ := hb
 unfold gT
 have e : flB t n b = b.l.flatMap (fun x => [(⟨t, n, b.v, x.id⟩ : Rc)]) := by
  unfold flB
  rw [List.flatMap_def]
  induction b.l with
  | nil => rfl
  | cons x l ih => rw [List.map_cons, List.map_cons, List.flatten_cons, ih]; rfl
 rw [e, grp_flat (lt := lt) (key := kT) (kr := rT H) (F := mkT) h h3 (fun x hx => ⟨by simp, fun r hr => ?_, rfl⟩), List.take_of_length_le h2]
 rw [List.mem_singleton.1 hr]
 unfold rT kT
 rw [h4 x hx]
theorem flB_ne {t : Int} {n : ByteArray} {b : Bk} (hb : b.l ≠ []) : flB t n b ≠ [] := by
 unfold flB
 intro e
 exact hb (List.map_eq_nil_iff.1 e)
theorem mem_flB {t : Int} {n : ByteArray} {b : Bk} {r : Rc} (h : r ∈ flB t n b) : r.t = t ∧ r.n = n ∧ r.v = b.v := by
 obtain ⟨x, _, rfl⟩ := List.mem_map.1 h
 exact ⟨rfl, rfl, rfl⟩
theorem gB_flat (h : Lin lt) {t : Int} {l : Lb} (hl : GL lt H M l) : gB lt H M (flL t l) = l.l := by
 obtain ⟨h1, h2, h3, h4⟩ := hl
 unfold gB flL
 refine grp_flat (lt := ltI) (key := fun b : Bk => b.v) linI h3 fun b hb => ⟨flB_ne (h4 b hb).1, fun r hr => (mem_flB hr).2.2, ?_⟩
 unfold mkB
 rw [gT_flat h (h4 b hb)]
theorem flat_ne {α β : Type} {f : α → List β} : ∀ {l : List α}, l ≠ [] → (∀ x ∈ l, f x ≠ []) → l.flatMap f ≠ []
 | [], h, _ => absurd rfl h
 | x :: l, _, hh => by
  rw [List.flatMap_cons]
  intro e
  exact hh x (List.mem_cons_self ..) (List.append_eq_nil_iff.1 e).1
theorem flL_ne {t : Int} {l : Lb} (hl : GL lt H M l) : flL t l ≠ [] := flat_ne hl.2.1 fun b hb => flB_ne (hl.2.2.2 b hb).1
theorem mem_flL {t : Int} {l : Lb} {r : Rc} (h : r ∈ flL t l) : r.t = t ∧ r.n = l.n := by
 obtain ⟨b, _, h2⟩ := List.mem_flatMap.1 h
 exact ⟨(mem_flB h2).1, (mem_flB h2).2.1⟩
theorem gL_flat (h : Lin lt) {e : Ep} (he : GE lt H L M e) : gL lt H L M (flE e) = e.l := by
 obtain ⟨h1, h2, h3, h4⟩ := he
 unfold gL flE
 rw [grp_flat (lt := lt) (key := kL) (kr := rL H) (F := mkL lt H M) h h3 (fun l hl => ⟨flL_ne (h4 l hl), fun r hr => ?_, ?_⟩), List.take_of_length_le h2]
 ·unfold rL kL
  rw [(mem_flL hr).2, (h4 l hl).1]
 ·unfold mkL
  rw [gB_flat h (h4 l hl)]
  rfl
theorem flE_ne {e : Ep} (he : GE lt H L M e) : flE e ≠ [] := flat_ne he.1 fun l hl => flL_ne (he.2.2.2 l hl)
theorem mem_flE {e : Ep} {r : Rc} (h : r ∈ flE e) : r.t = e.t := by
 obtain ⟨l, _, h2⟩ := List.mem_flatMap.1 h
 exact (mem_flL h2).1
theorem gE_flat (h : Lin lt) {w : Int} {s : List Ep} (hs : GS lt H E L M w s) : gE lt H L M (fl s) = s := by
 obtain ⟨h1, h2⟩ := hs
 unfold gE fl
 refine grp_flat (lt := ltI) (key := fun e : Ep => e.t) linI h1 fun e he => ⟨flE_ne (h2 e he).2.2, fun r hr => mem_flE hr, ?_⟩
 unfold mkE
 rw [gL_flat h (h2 e he).2.2]
theorem mem_fl {w : Int} {s : List Ep} (hs : GS lt H E L M w s) {r : Rc} (hr : r ∈ fl s) : w ≤ r.t ∧ r.t ≤ w + E - 1 := by
 obtain ⟨e, h1, h2⟩ := List.mem_flatMap.1 hr
 rw [mem_flE h2]
 exact ⟨(hs.2 e h1).1, (hs.2 e h1).2.1⟩
theorem wm_same {w : Int} : ∀ {l : List Rc}, (∀ r ∈ l, r.t ≤ w + E - 1) → wm E w l = w
 | [], _ => rfl
 | r :: l, h => by
  have := h r (List.mem_cons_self ..)
  unfold wm
  rw [List.foldl_cons, show max w (r.t - E + 1) = w by omega]
  exact wm_same fun r hr => h r (List.mem_cons_of_mem _ hr)
theorem mk_flat (h : Lin lt) {w : Int} {s : List Ep} (hs : GS lt H E L M w s) : mk lt H E L M w (fl s) = (w, s) := by
 unfold mk
 have e := wm_same (E := E) (w := w) (l := fl s) fun r hr => (mem_fl hs hr).2
 rw [e, List.filter_eq_self.2 (fun r hr => by simpa using (mem_fl hs hr).1), gE_flat h hs]
theorem srt_take {κ : Type} {lt : κ → κ → Bool} {l : List κ} (h : Srt lt l) (n : Nat) : Srt lt (l.take n) := List.Pairwise.sublist (List.take_sublist _ _) h
theorem take_ne {α : Type} {l : List α} {n : Nat} (h : l ≠ []) (hn : 1 ≤ n) : l.take n ≠ [] := by
 obtain ⟨x, m, rfl⟩ := List.exists_cons_of_ne_nil h
 obtain ⟨k, rfl⟩ : ∃ k, n = k + 1 := ⟨n - 1, by omega⟩
 rw [List.take_succ_cons]
 simp
theorem grp_ne {κ α ρ : Type} {lt : κ → κ → Bool} {kr : ρ → κ} {F : κ → List ρ → α} (h : Lin lt) {l : List ρ} (hl : l ≠ []) : grp lt kr F l ≠ [] := by
 unfold grp
 intro e
 have e2 := List.map_eq_nil_iff.1 e
 obtain ⟨r, m, rfl⟩ := List.exists_cons_of_ne_nil hl
 have : kr r ∈ firsts lt ((r :: m).map kr) := (mem_firsts h).2 (List.mem_map_of_mem (List.mem_cons_self ..))
 rw [e2] at this
 cases this
theorem gT_good (h : Lin lt) (hM : 1 ≤ M) {l : List Rc} (hl : l ≠ []) : GT lt H M (gT lt H M l) := by
 unfold gT
 refine ⟨take_ne (grp_ne h hl) hM, by rw [List.length_take]; omega, ?_, fun x hx => ?_⟩
 ·rw [List.map_take, grp_keys (key := kT) (fun _ _ => rfl)]
  exact srt_take (firsts_srt h _) _
 ·obtain ⟨k, h1, rfl, _⟩ := mem_grp h (List.mem_of_mem_take hx)
  obtain ⟨r, _, rfl⟩ := List.mem_map.1 h1
  rfl
theorem gB_good (h : Lin lt) (hM : 1 ≤ M) {l : List Rc} : ∀ b ∈ gB lt H M l, GB lt H M b := fun b hb => by
 obtain ⟨k, h1, rfl, h2⟩ := mem_grp linI hb
 exact gT_good h hM h2
theorem mkL_good (h : Lin lt) (hM : 1 ≤ M) {l : List Rc} {r : Rc} (hl : l ≠ []) : GL lt H M (mkL lt H M (rL H r) l) := by
 refine ⟨rfl, grp_ne linI hl, ?_, gB_good h hM⟩
 show Srt ltI ((gB lt H M l).map _)
 unfold gB
 rw [grp_keys (key := fun b : Bk => b.v) (fun _ _ => rfl)]
 exact firsts_srt linI _
theorem mkE_good (h : Lin lt) (hL : 1 ≤ L) (hM : 1 ≤ M) {t : Int} {l : List Rc} (hl : l ≠ []) : GE lt H L M (mkE lt H L M t l) := by
 unfold mkE gL
 refine ⟨take_ne (grp_ne h hl) hL, by show (List.take L _).length ≤ L; rw [List.length_take]; omega, ?_, fun x hx => ?_⟩
 ·show Srt lt ((List.take L _).map kL)
  rw [List.map_take, grp_keys (key := kL) (fun _ _ => rfl)]
  exact srt_take (firsts_srt h _) _
 ·obtain ⟨k, h1, rfl, h2⟩ := mem_grp h (List.mem_of_mem_take hx)
  obtain ⟨r, _, rfl⟩ := List.mem_map.1 h1
  exact mkL_good h hM h2
theorem wm_ge (w : Int) : ∀ (l : List Rc), w ≤ wm E w l ∧ ∀ r ∈ l, r.t - E + 1 ≤ wm E w l
 | [] => ⟨Int.le_refl _, fun r hr => by cases hr⟩
 | r :: l => by
  have e : wm E w (r :: l) = wm E (max w (r.t - E + 1)) l := rfl
  obtain ⟨h1, h2⟩ := wm_ge (max w (r.t - E + 1)) l
  rw [e]
  refine ⟨by omega, fun x hx => ?_⟩
  rcases List.mem_cons.1 hx with h | h
  ·rw [h]; omega
  ·exact h2 x h
theorem mk_good (h : Lin lt) (hL : 1 ≤ L) (hM : 1 ≤ M) (w : Int) (l : List Rc) : GS lt H E L M (mk lt H E L M w l).1 (mk lt H E L M w l).2 := by
 unfold mk gE
 refine ⟨?_, fun e he => ?_⟩
 ·show Srt ltI (List.map _ _)
  rw [grp_keys (key := fun e : Ep => e.t) (fun _ _ => rfl)]
  exact firsts_srt linI _
 ·obtain ⟨k, h1, rfl, h2⟩ := mem_grp linI he
  obtain ⟨r, hr, rfl⟩ := List.mem_map.1 h1
  obtain ⟨g1, g2⟩ := List.mem_filter.1 hr
  have := (wm_ge (E := E) w l).2 r g1
  have g3 := of_decide_eq_true g2
  exact ⟨g3, by show r.t ≤ wm E w l + E - 1; omega, mkE_good h hL hM h2⟩
theorem wm_le (w c : Int) : ∀ (l : List Rc), w ≤ c → (∀ r ∈ l, r.t - E + 1 ≤ c) → wm E w l ≤ c
 | [], h, _ => h
 | r :: l, h, hh => wm_le _ c l (by have := hh r (List.mem_cons_self ..); show max w (r.t - E + 1) ≤ c; omega) fun r hr => hh r (List.mem_cons_of_mem _ hr)
end
noncomputable def yes (P : Prop) : Bool := @decide P (Classical.propDecidable P)
theorem yes_iff {P : Prop} : yes P = true ↔ P := @decide_eq_true_iff P (Classical.propDecidable P)
theorem yes_true {P : Prop} (h : P) : yes P = true := yes_iff.2 h
theorem yes_false {P : Prop} (h : ¬ P) : yes P = false := by
 cases hb : yes P with
 | false => rfl
 | true => exact absurd (yes_iff.1 hb) h
theorem yes_congr {P Q : Prop} (h : P ↔ Q) : yes P = yes Q := by rw [propext h]
theorem w64 {x : Int} (h0 : -1000000 ≤ x) (h1 : x ≤ 1000000) : wrap64 x = x := by unfold wrap64; omega
theorem cb_eq : ∀ a b : List UInt8, Lib.compareBytes a b = 0 ↔ a = b
 | [], [] => by simp [Lib.compareBytes]
 | [], _ :: _ => by simp [Lib.compareBytes]
 | _ :: _, [] => by simp [Lib.compareBytes]
 | a :: x, b :: y => by
  unfold Lib.compareBytes
  have ih := cb_eq x y
  split
  ·rename_i h
   constructor
   ·intro h2; omega
   ·intro h2; injection h2 with e _; subst e; exact absurd h (UInt8.lt_irrefl a)
  ·split
   ·rename_i h
    constructor
    ·intro h2; omega
    ·intro h2; injection h2 with e _; subst e; exact absurd h (UInt8.lt_irrefl a)
   ·rename_i h1 h2
    have e : a = b := by
     apply UInt8.toNat_inj.1
     rw [UInt8.lt_iff_toNat_lt] at h1 h2
     omega
    subst e
    rw [ih]
    simp
theorem cb_anti : ∀ a b : List UInt8, Lib.compareBytes b a = - Lib.compareBytes a b
 | [], [] => by simp [Lib.compareBytes]
 | [], _ :: _ => by simp [Lib.compareBytes]
 | _ :: _, [] => by simp [Lib.compareBytes]
 | a :: x, b :: y => by
  unfold Lib.compareBytes
  have ih := cb_anti x y
  by_cases h1 : a < b
  ·have h2 : ¬ b < a := fun h => by rw [UInt8.lt_iff_toNat_lt] at h h1; omega
   rw [if_neg h2, if_pos h1, if_pos h1]; rfl
  ·by_cases h2 : b < a
   ·rw [if_pos h2, if_neg h1, if_pos h2]
   ·rw [if_neg h2, if_neg h1, if_neg h1, if_neg h2, ih]
theorem cb_trans : ∀ a b c : List UInt8, Lib.compareBytes a b < 0 → Lib.compareBytes b c < 0 → Lib.compareBytes a c < 0
 | [], [], _ => by simp [Lib.compareBytes]
 | [], _ :: _, [] => by simp [Lib.compareBytes]
 | [], _ :: _, _ :: _ => by simp [Lib.compareBytes]
 | _ :: _, [], _ => by simp [Lib.compareBytes]
 | _ :: _, _ :: _, [] => by simp [Lib.compareBytes]
 | a :: x, b :: y, c :: z => by
  have ih := cb_trans x y z
  unfold Lib.compareBytes
  simp only [UInt8.lt_iff_toNat_lt]
  intro h1 h2
  split at h1
  ·split at h2
   ·rw [if_pos (by omega)]; decide
   ·split at h2
    ·omega
    ·rw [if_pos (by omega)]; decide
  ·split at h1
   ·omega
   ·split at h2
    ·rw [if_pos (by omega)]; decide
    ·split at h2
     ·omega
     ·rw [if_neg (by omega), if_neg (by omega)]
      exact ih h1 h2
theorem or_eq (k : Nat) (a b : Int) : cmp_Or_int.f (k + 3) [a, b] = some (if a = 0 then b else a) := by
 have e1 : wrap64 (0 + 1) = 1 := by unfold wrap64; omega
 have e2 : wrap64 (1 + 1) = 2 := by unfold wrap64; omega
 show cmp_Or_int.l0 (k + 3) 0 [a, b] 2 0 = _
 unfold cmp_Or_int.l0
 rw [if_pos (by decide), if_pos (by decide), if_pos (show (0 : Int) < (([a, b] : List Int).length : Int) by simp), show rd [a, b] 0 = a from rfl, e1]
 by_cases h : a = 0
 ·rw [if_pos h, if_pos h]
  unfold cmp_Or_int.l0
  rw [if_pos (by decide), if_pos (by decide), if_pos (show (1 : Int) < (([a, b] : List Int).length : Int) by simp), show rd [a, b] 1 = b from rfl, e2]
  by_cases h2 : b = 0
  ·rw [if_pos h2]
   unfold cmp_Or_int.l0
   rw [if_neg (by decide), h2]
  ·rw [if_neg h2]
 ·rw [if_neg h, if_neg h]
theorem bsF_eq {α : Type} (p : α → Option Int) (l : List α) (d : α) (c : Nat → Int) (hp : ∀ m, m < l.length → p (l.getD m d) = some (c m)) (b : Nat) (hlo : ∀ m, m < b → c m < 0) (hhi : ∀ m, b ≤ m → m < l.length → ¬ c m < 0) :
  ∀ (n i j : Nat), i ≤ b → b ≤ j → j ≤ l.length → j - i ≤ n → bsF p l d n (i : Int) (j : Int) = some (b : Int)
 | 0, i, j, h1, h2, h3, h4 => by
  rw [bsF, if_neg (by omega)]
  congr 1; omega
 | n + 1, i, j, h1, h2, h3, h4 => by
  rw [bsF]
  by_cases h : i < j
  ·rw [if_pos (by omega)]
   have e : ((i : Int) + j) / 2 = ((i + j) / 2 : Nat) := by omega
   rw [e, Int.toNat_natCast, hp _ (by omega), Option.bind_some]
   by_cases hc : c ((i + j) / 2) < 0
   ·rw [if_pos hc]
    have hb : (i + j) / 2 < b := by
     rcases Nat.lt_or_ge ((i + j) / 2) b with h5 | h5
     ·exact h5
     ·exact absurd hc (hhi _ h5 (by omega))
    have := bsF_eq p l d c hp b hlo hhi n ((i + j) / 2 + 1) j (by omega) h2 h3 (by omega)
    simpa using this
   ·rw [if_neg hc]
    have hb : b ≤ (i + j) / 2 := by
     rcases Nat.lt_or_ge ((i + j) / 2) b with h5 | h5
     ·exact absurd (hlo _ h5) hc
     ·exact h5
    exact bsF_eq p l d c hp b hlo hhi n i ((i + j) / 2) h1 hb (by omega) (by omega)
  ·rw [if_neg (by omega)]
   congr 1; omega
def ltK (x y : Int × ByteArray) : Bool := decide (x.1 < y.1) || (decide (x.1 = y.1) && decide (Lib.compareBytes x.2.data.toList y.2.data.toList < 0))
theorem ltK_iff (x y : Int × ByteArray) : ltK x y = true ↔ x.1 < y.1 ∨ (x.1 = y.1 ∧ Lib.compareBytes x.2.data.toList y.2.data.toList < 0) := by
 unfold ltK
 simp
theorem linK : Lin ltK := by
 refine ⟨fun x => ?_, fun {x y z} h1 h2 => ?_, fun {x y} h1 h2 => ?_⟩
 ·cases h : ltK x x with
  | false => rfl
  | true =>
   rcases (ltK_iff x x).1 h with h | h
   ·omega
   ·rw [(cb_eq _ _).2 rfl] at h; omega
 ·rw [ltK_iff] at h1 h2 ⊢
  rcases h1 with h1 | ⟨h1, h3⟩
  ·rcases h2 with h2 | ⟨h2, h4⟩
   ·exact .inl (by omega)
   ·exact .inl (by omega)
  ·rcases h2 with h2 | ⟨h2, h4⟩
   ·exact .inl (by omega)
   ·exact .inr ⟨by omega, cb_trans _ _ _ h3 h4⟩
 ·have h3 : ¬ ltK x y = true := by rw [h1]; decide
  have h4 : ¬ ltK y x = true := by rw [h2]; decide
  rw [ltK_iff] at h3 h4
  have e : x.1 = y.1 := by omega
  have h5 : ¬ Lib.compareBytes x.2.data.toList y.2.data.toList < 0 := fun h => h3 (.inr ⟨e, h⟩)
  have h6 : ¬ Lib.compareBytes y.2.data.toList x.2.data.toList < 0 := fun h => h4 (.inr ⟨e.symm, h⟩)
  rw [cb_anti] at h6
  have h7 : Lib.compareBytes x.2.data.toList y.2.data.toList = 0 := by omega
  exact Prod.ext e (ByteArray.ext (Array.toList_inj.1 ((cb_eq _ _).1 h7)))
structure Cmp {κ : Type} (lt : κ → κ → Bool) (x y : κ) (c : Int) : Prop where
 lo : c < 0 ↔ lt x y = true
 eq : c = 0 ↔ x = y
theorem cmpK (x y : Int × ByteArray) : Cmp ltK x y (if x.1 < y.1 then -1 else if x.1 > y.1 then 1 else Lib.compareBytes x.2.data.toList y.2.data.toList) := by
 constructor
 ·rw [ltK_iff]
  by_cases h1 : x.1 < y.1
  ·rw [if_pos h1]; exact ⟨fun _ => .inl h1, fun _ => by decide⟩
  ·rw [if_neg h1]
   by_cases h2 : x.1 > y.1
   ·rw [if_pos h2]; exact ⟨fun h => by omega, fun h => by omega⟩
   ·rw [if_neg h2]; exact ⟨fun h => .inr ⟨by omega, h⟩, fun h => by rcases h with h | h; omega; exact h.2⟩
 ·by_cases h1 : x.1 < y.1
  ·rw [if_pos h1]; exact ⟨fun h => by omega, fun h => by rw [h] at h1; omega⟩
  ·rw [if_neg h1]
   by_cases h2 : x.1 > y.1
   ·rw [if_pos h2]; exact ⟨fun h => by omega, fun h => by rw [h] at h2; omega⟩
   ·rw [if_neg h2, cb_eq]
    exact ⟨fun h => Prod.ext (by omega) (ByteArray.ext (Array.toList_inj.1 h)), fun h => by rw [h]⟩
theorem cmpI (x y : Int) : Cmp ltI x y (if x < y then -1 else if x > y then 1 else 0) := by
 constructor
 ·unfold ltI
  by_cases h1 : x < y
  ·rw [if_pos h1]; simp [h1]
  ·rw [if_neg h1]; split <;> simp [h1]
 ·split
  ·exact ⟨fun h => by omega, fun h => by omega⟩
  ·split
   ·exact ⟨fun h => by omega, fun h => by omega⟩
   ·exact ⟨fun h => by omega, fun h => rfl⟩
theorem c64_eq (a b : Int) : cmp_Compare_uint64.f a b = some (if a < b then -1 else if a > b then 1 else 0) := by
 unfold cmp_Compare_uint64.f cmp_isNaN_uint64.f
 simp only [bne_self_eq_false, Option.bind_some]
 rw [if_neg (by decide), if_neg (by decide)]
 split
 ·rfl
 ·split <;> rfl
theorem cint_eq (a b : Int) : cmp_Compare_int.f a b = some (if a < b then -1 else if a > b then 1 else 0) := by
 unfold cmp_Compare_int.f cmp_isNaN_int.f
 simp only [bne_self_eq_false, Option.bind_some]
 rw [if_neg (by decide), if_neg (by decide)]
 split
 ·rfl
 ·split <;> rfl
theorem key_cmp (k : Nat) (hk : 4 ≤ k) (a0 : ByteArray) (a1 : Int) (b0 : ByteArray) (b1 : Int) : ∃ c, ((cmp_Compare_uint64.f a1 b1).bind fun t => (strings_Compare.f a0 b0).bind fun u => (cmp_Or_int.f k [t, u]).bind fun v => some v) = some c ∧ Cmp ltK (a1, a0) (b1, b0) c := by
 obtain ⟨k, rfl⟩ : ∃ k', k = k' + 3 := ⟨k - 3, by omega⟩
 refine ⟨_, ?_, cmpK _ _⟩
 rw [c64_eq, Option.bind_some]
 unfold strings_Compare.f bytealg_CompareString.f
 rw [Option.bind_some, Option.bind_some, or_eq, Option.bind_some]
 split
 ·rw [if_neg (by decide)]
 ·split
  ·rw [if_neg (by decide)]
  ·rw [if_pos rfl]
theorem pTr_cmp (k : Nat) (hk : 4 ≤ k) (y x : S91) : ∃ c, pTr k y x = some c ∧ Cmp ltK (kT y) (kT x) c := key_cmp k hk _ _ _ _
theorem pLb_cmp (k : Nat) (hk : 4 ≤ k) (y x : S67) : ∃ c, pLb k y x = some c ∧ Cmp ltK (kL y) (kL x) c := key_cmp k hk _ _ _ _
theorem pBk_cmp (y x : S84) : ∃ c, pBk y x = some c ∧ Cmp ltI y.v x.v c := ⟨_, by unfold pBk t_byBucket.f; rw [cint_eq]; rfl, cmpI _ _⟩
theorem pEp_cmp (y x : S63) : ∃ c, pEp y x = some c ∧ Cmp ltI y.t x.t c := ⟨_, by unfold pEp t_byEpoch.f; rw [cint_eq]; rfl, cmpI _ _⟩
section
variable {κ α : Type} {lt : κ → κ → Bool} {key : α → κ}
def pos (lt : κ → κ → Bool) (key : α → κ) (k : κ) : List α → Nat
 | [] => 0
 | y :: l => if lt (key y) k = true then pos lt key k l + 1 else 0
theorem pos_le (k : κ) : ∀ l : List α, pos lt key k l ≤ l.length
 | [] => Nat.le_refl _
 | y :: l => by
  unfold pos
  split
  ·have := pos_le k l; simp only [List.length_cons]; omega
  ·exact Nat.zero_le _
theorem pos_lo (k : κ) (d : α) : ∀ (l : List α) (m : Nat), m < pos lt key k l → lt (key (l.getD m d)) k = true
 | [], m, h => by unfold pos at h; omega
 | y :: l, m, h => by
  unfold pos at h
  split at h
  ·rename_i hy
   cases m with
   | zero => exact hy
   | succ m => exact pos_lo k d l m (by omega)
  ·omega
theorem pos_hi (hL : Lin lt) (k : κ) (d : α) : ∀ (l : List α), Srt lt (l.map key) → ∀ m, pos lt key k l ≤ m → m < l.length → lt (key (l.getD m d)) k = false
 | [], _, m, _, h => by simp at h
 | y :: l, hs, m, h1, h2 => by
  rw [List.map_cons] at hs
  obtain ⟨s1, s2⟩ := List.pairwise_cons.1 hs
  unfold pos at h1
  split at h1
  ·cases m with
   | zero => omega
   | succ m => exact pos_hi hL k d l s2 m (by omega) (by simpa using h2)
  ·rename_i hy
   cases m with
   | zero => exact Bool.eq_false_iff.2 hy
   | succ m =>
    have h3 : m < l.length := by simpa using h2
    cases h : lt (key ((y :: l).getD (m + 1) d)) k with
    | false => rfl
    | true =>
     have e : (y :: l).getD (m + 1) d = l[m] := by simp [h3]
     rw [e] at h
     exact absurd (hL.tr (s1 _ (List.mem_map_of_mem (List.getElem_mem h3))) h) hy
theorem upd_miss (into : α → α) (x : α) : ∀ (l : List α), (∀ y, l[pos lt key (key x) l]? = some y → lt (key x) (key y) = true) → upd lt key into x l = l.take (pos lt key (key x) l) ++ [into x] ++ l.drop (pos lt key (key x) l)
 | [], _ => rfl
 | y :: l, h => by
  unfold upd
  by_cases hy : lt (key y) (key x) = true
  ·have e : pos lt key (key x) (y :: l) = pos lt key (key x) l + 1 := by rw [pos, if_pos hy]
   rw [e] at h ⊢
   rw [if_pos hy, upd_miss into x l (fun z hz => h z (by simpa using hz))]
   simp
  ·have e : pos lt key (key x) (y :: l) = 0 := by rw [pos, if_neg hy]
   rw [e] at h ⊢
   rw [if_neg hy, if_pos (h y rfl)]
   rfl
theorem upd_hit (hL : Lin lt) (into : α → α) (x d : α) : ∀ (l : List α), pos lt key (key x) l < l.length → key (l.getD (pos lt key (key x) l) d) = key x → upd lt key into x l = l.set (pos lt key (key x) l) (into (l.getD (pos lt key (key x) l) d))
 | [], h, _ => by simp at h
 | y :: l, h, hk => by
  unfold upd
  by_cases hy : lt (key y) (key x) = true
  ·have e : pos lt key (key x) (y :: l) = pos lt key (key x) l + 1 := by rw [pos, if_pos hy]
   rw [e] at h hk ⊢
   rw [if_pos hy, upd_hit hL into x d l (by simpa using h) (by simpa using hk)]
   simp
  ·have e : pos lt key (key x) (y :: l) = 0 := by rw [pos, if_neg hy]
   rw [e] at h hk ⊢
   have hk2 : key y = key x := by simpa using hk
   rw [if_neg hy, if_neg (by rw [hk2, hL.irr]; decide)]
   simp
theorem putF_upd (hL : Lin lt) {p : α → Option Int} {into : α → Option α} {into' : α → α} {d x : α} {l : List α} (hs : Srt lt (l.map key)) (hp : ∀ y ∈ l, ∃ c, p y = some c ∧ Cmp lt (key y) (key x) c) (hi : ∀ y ∈ l, key y = key x → into y = some (into' y)) (hx : into x = some (into' x)) (hlen : l.length < 1000000) {most : Int} (hm : 0 ≤ most) :
  putF p into most l d x = some ((upd lt key into' x l).take most.toNat) := by
 obtain ⟨b, hb⟩ : ∃ b, b = pos lt key (key x) l := ⟨_, rfl⟩
 have hbl : b ≤ l.length := by rw [hb]; exact pos_le _ _
 have hg : ∀ m, m < l.length → l.getD m d ∈ l := fun m hm => by rw [List.getD_eq_getElem?_getD, List.getElem?_eq_getElem hm]; exact List.getElem_mem hm
 have hpc : ∀ m, m < l.length → p (l.getD m d) = some ((p (l.getD m d)).getD 0) ∧ Cmp lt (key (l.getD m d)) (key x) ((p (l.getD m d)).getD 0) := fun m hm => by
  obtain ⟨c, h1, h2⟩ := hp _ (hg m hm)
  rw [h1]; exact ⟨rfl, h2⟩
 have hF := bsF_eq p l d (fun m => if m < b then -1 else (p (l.getD m d)).getD 0)
 have hF := bsF_eq p l d (fun m => if m < l.length then (p (l.getD m d)).getD 0 else -1) (fun m hm => by rw [if_pos hm]; exact (hpc m hm).1) b
  (fun m hm => by rw [if_pos (by omega)]; exact (hpc m (by omega)).2.lo.2 (pos_lo (key x) d l m (by rw [← hb]; exact hm)))
  (fun m h1 h2 => by rw [if_pos h2]; intro h3; have h4 := (hpc m h2).2.lo.1 h3; rw [pos_hi hL (key x) d l hs m (by rw [← hb]; exact h1) h2] at h4; cases h4) l.length 0 l.length (Nat.zero_le _) hbl (Nat.le_refl _) (by omega)
 unfold putF
 rw [if_pos hlen]
 unfold bsT
 rw [show ((0 : Nat) : Int) = 0 from rfl] at hF
 rw [hF, Option.bind_some]
 have cut : ∀ m : List α, cutF most m = some (m.take most.toNat) := fun m => by unfold cutF; rw [if_pos hm]
 by_cases hbn : b < l.length
 ·rw [if_pos (by omega), Int.toNat_natCast, (hpc b hbn).1, Option.bind_some, Option.bind_some]
  by_cases h0 : (p (l.getD b d)).getD 0 = 0
  ·have hk := (hpc b hbn).2.eq.1 h0
   simp only [h0, decide_true, if_true]
   rw [if_pos ⟨by omega, by omega⟩, Int.toNat_natCast, hi _ (hg b hbn) hk, Option.bind_some, cut, upd_hit hL into' x d l (by rw [← hb]; exact hbn) (by rw [← hb]; exact hk), ← hb]
  ·have hk : ¬ key (l.getD b d) = key x := fun e => h0 ((hpc b hbn).2.eq.2 e)
   have hd : decide ((p (l.getD b d)).getD 0 = 0) = false := decide_eq_false h0
   simp only [hd]
   rw [if_neg (by decide), if_pos ⟨by omega, by omega⟩, Int.toNat_natCast, hx, Option.bind_some, cut, upd_miss into' x l, ← hb]
   intro y hy
   rw [← hb] at hy
   have e : l.getD b d = y := by rw [List.getD_eq_getElem?_getD, hy]; rfl
   have h1 := pos_hi hL (key x) d l hs b (by rw [hb]; exact Nat.le_refl _) hbn
   rw [e] at h1 hk
   cases h2 : lt (key x) (key y) with
   | true => rfl
   | false => exact absurd (hL.tri h1 h2) hk
 ·have e : b = l.length := by omega
  rw [if_neg (by omega), Option.bind_some]
  simp only
  rw [if_neg (by decide), if_pos ⟨by omega, by omega⟩, Int.toNat_natCast, hx, Option.bind_some, cut, upd_miss into' x l, ← hb]
  intro y hy
  rw [← hb, e, List.getElem?_eq_none (Nat.le_refl _)] at hy
  cases hy
end
def Hs (a b : Int) (s : ByteArray) : Int := Sip.sum a b s.data.toList
theorem sum_k (a b : Int) (s : ByteArray) (h : s.size ≤ 100) (k : Nat) (hk : 30 ≤ k) : sip_Sum.f k a b s = some (Hs a b s) := Sip.sum_eq a b s (by omega) k (by omega)
theorem fits_eq (x lo hi : Int) : t_fits.f x lo hi = some (yes (lo ≤ x ∧ x ≤ hi)) := by
 unfold t_fits.f
 by_cases h : x ≥ lo
 ·rw [if_pos h]
  by_cases h2 : x ≤ hi
  ·rw [decide_eq_true h2, yes_true ⟨by omega, h2⟩]
  ·rw [decide_eq_false h2, yes_false (fun h3 => h2 h3.2)]
 ·rw [if_neg h, yes_false (fun h3 => h (by omega))]
theorem named_eq (a b E L M W : Int) (l : List S63) (s : ByteArray) (u : Int) (k : Nat) (hk : 30 ≤ k) : t_named.f k a b E L M W l s u = some (yes (s.size ≤ 64 ∧ u = Hs a b s)) := by
 unfold t_named.f
 by_cases h : (s.size : Int) ≤ 64
 ·rw [if_pos h, sum_k a b s (by omega) k hk, Option.bind_some]
  congr 1
  by_cases h2 : u = Hs a b s
  ·rw [yes_true ⟨by omega, h2⟩, h2]; simp
  ·rw [yes_false (fun h3 => h2 h3.2)]
   simpa using fun e => h2 e.symm
 ·rw [if_neg h, yes_false (fun h3 => h (by have := h3.1; omega))]
section
variable {κ α : Type} {lt : κ → κ → Bool} {key : α → κ}
def Chn (lt : κ → κ → Bool) : κ → List κ → Prop
 | _, [] => True
 | y, x :: l => lt y x = true ∧ Chn lt x l
theorem chn_srt (hL : Lin lt) : ∀ (l : List κ) (y : κ), Chn lt y l ↔ Srt lt (y :: l)
 | [], y => by unfold Chn Srt; simp
 | x :: l, y => by
  unfold Chn
  rw [chn_srt hL l x]
  unfold Srt
  constructor
  ·rintro ⟨h1, h2⟩
   refine List.pairwise_cons.2 ⟨fun z hz => ?_, h2⟩
   rcases List.mem_cons.1 hz with h | h
   ·rw [h]; exact h1
   ·exact hL.tr h1 ((List.pairwise_cons.1 h2).1 z h)
  ·intro h
   obtain ⟨h1, h2⟩ := List.pairwise_cons.1 h
   exact ⟨h1 x (List.mem_cons_self ..), h2⟩
theorem srtF_some {p : α → α → Option Int} {q : α → Option Bool} {Q : α → Prop} : ∀ (l : List α) (y : α), (∀ x ∈ l, q x = some (yes (Q x))) → (∀ y x, ∃ c, p y x = some c ∧ Cmp lt (key y) (key x) c) → srtF p q (some y) l = some (yes ((∀ x ∈ l, Q x) ∧ Chn lt (key y) (l.map key)))
 | [], y, _, _ => by rw [srtF, yes_true ⟨fun x hx => (by cases hx), trivial⟩]
 | x :: l, y, hq, hp => by
  rw [srtF, hq x (List.mem_cons_self ..), Option.bind_some]
  by_cases h : Q x
  ·rw [if_pos (yes_true h)]
   obtain ⟨c, h1, h2⟩ := hp y x
   rw [h1, Option.bind_some]
   by_cases hc : c < 0
   ·rw [if_pos hc, srtF_some l x (fun z hz => hq z (List.mem_cons_of_mem _ hz)) hp]
    congr 1
    apply yes_congr
    rw [List.map_cons]
    exact ⟨fun hh => ⟨fun z hz => by rcases List.mem_cons.1 hz with e | e; rw [e]; exact h; exact hh.1 z e, h2.lo.1 hc, hh.2⟩, fun hh => ⟨fun z hz => hh.1 z (List.mem_cons_of_mem _ hz), hh.2.2⟩⟩
   ·rw [if_neg hc, yes_false (fun hh => hc (h2.lo.2 hh.2.1))]
  ·rw [yes_false h, if_neg (by decide), yes_false (fun hh => h (hh.1 x (List.mem_cons_self ..)))]
theorem srtF_none (hL : Lin lt) {p : α → α → Option Int} {q : α → Option Bool} {Q : α → Prop} (l : List α) (hq : ∀ x ∈ l, q x = some (yes (Q x))) (hp : ∀ y x, ∃ c, p y x = some c ∧ Cmp lt (key y) (key x) c) : srtF p q none l = some (yes ((∀ x ∈ l, Q x) ∧ Srt lt (l.map key))) := by
 cases l with
 | nil => rw [srtF, yes_true ⟨fun x hx => (by cases hx), List.Pairwise.nil⟩]
 | cons x l =>
  rw [srtF, hq x (List.mem_cons_self ..), Option.bind_some]
  by_cases h : Q x
  ·rw [if_pos (yes_true h), srtF_some l x (fun z hz => hq z (List.mem_cons_of_mem _ hz)) hp]
   congr 1
   apply yes_congr
   rw [chn_srt hL, List.map_cons]
   exact ⟨fun hh => ⟨fun z hz => by rcases List.mem_cons.1 hz with e | e; rw [e]; exact h; exact hh.1 z e, hh.2⟩, fun hh => ⟨fun z hz => hh.1 z (List.mem_cons_of_mem _ hz), hh.2⟩⟩
  ·rw [yes_false h, if_neg (by decide), yes_false (fun hh => h (hh.1 x (List.mem_cons_self ..)))]
theorem sortedF_eq (hL : Lin lt) {p : α → α → Option Int} {q : α → Option Bool} {Q : α → Prop} (most : Int) (l : List α) (hq : ∀ x ∈ l, q x = some (yes (Q x))) (hp : ∀ y x, ∃ c, p y x = some c ∧ Cmp lt (key y) (key x) c) : sortedF p q most l = some (yes ((∀ x ∈ l, Q x) ∧ Srt lt (l.map key) ∧ l ≠ [] ∧ (l.length : Int) ≤ most)) := by
 unfold sortedF
 rw [srtF_none hL l hq hp, Option.bind_some]
 by_cases h : (∀ x ∈ l, Q x) ∧ Srt lt (l.map key)
 ·rw [if_pos (yes_true h)]
  congr 1
  by_cases h2 : l = []
  ·rw [yes_false (fun hh => hh.2.2.1 h2), h2]; rfl
  ·have h3 : 0 < l.length := List.length_pos_iff.2 h2
   rw [decide_eq_true (show (0 : Int) < (l.length : Int) by omega), Bool.true_and]
   by_cases h4 : (l.length : Int) ≤ most
   ·rw [decide_eq_true h4, yes_true ⟨h.1, h.2, h2, h4⟩]
   ·rw [decide_eq_false h4, yes_false (fun hh => h4 hh.2.2.2)]
 ·rw [yes_false h, if_neg (by decide), yes_false (fun hh => h ⟨hh.1, hh.2.1⟩)]
end
def MX : Int := 2147483647
def QT (a b : Int) (x : S91) : Prop := x.f0.size ≤ 64 ∧ x.f1 = Hs a b x.f0
def QB (a b M : Int) (x : S84) : Prop := (0 ≤ x.f0 ∧ x.f0 ≤ 63) ∧ (∀ t ∈ x.f1, QT a b t) ∧ Srt ltK (x.f1.map kT) ∧ x.f1 ≠ [] ∧ (x.f1.length : Int) ≤ M
def QL (a b M : Int) (x : S67) : Prop := (x.f0.size ≤ 64 ∧ x.f1 = Hs a b x.f0) ∧ (∀ t ∈ x.f2, QB a b M t) ∧ Srt ltI (x.f2.map fun t => t.v) ∧ x.f2 ≠ [] ∧ (x.f2.length : Int) ≤ 64
def QE (a b E L M W : Int) (x : S63) : Prop := (W ≤ x.f0 ∧ x.f0 ≤ min (W + E - 1) MX) ∧ (∀ t ∈ x.f1, QL a b M t) ∧ Srt ltK (x.f1.map kL) ∧ x.f1 ≠ [] ∧ (x.f1.length : Int) ≤ L
def Nm (E L M W : Int) : Prop := (1 ≤ E ∧ E ≤ 64) ∧ (1 ≤ L ∧ L ≤ 64) ∧ (1 ≤ M ∧ M ≤ 64) ∧ 0 ≤ W ∧ W ≤ MX
def RR (a b E L M W : Int) (l : List S63) : Prop := Nm E L M W ∧ (l = [] ∨ ((∀ x ∈ l, QE a b E L M W x) ∧ Srt ltI (l.map fun t => t.t) ∧ l ≠ [] ∧ (l.length : Int) ≤ E))
theorem qTr_eq (a b E L M W : Int) (l : List S63) (x : S91) (k : Nat) (hk : 30 ≤ k) : qTr k a b E L M W l x = some (yes (QT a b x)) := named_eq a b E L M W l x.f0 x.f1 k hk
theorem qBk_eq (a b E L M W : Int) (l : List S63) (x : S84) (k : Nat) (hk : 30 ≤ k) : qBk k a b E L M W l x = some (yes (QB a b M x)) := by
 unfold qBk
 rw [fits_eq, Option.bind_some]
 by_cases h : 0 ≤ x.f0 ∧ x.f0 ≤ 63
 ·rw [if_pos (yes_true h), sortedF_eq linK M x.f1 (fun t _ => qTr_eq a b E L M W l t k hk) (fun y z => pTr_cmp k (by omega) y z)]
  congr 1
  exact yes_congr ⟨fun hh => ⟨h, hh⟩, fun hh => hh.2⟩
 ·rw [yes_false h, if_neg (by decide), yes_false (fun hh => h hh.1)]
theorem qLb_eq (a b E L M W : Int) (l : List S63) (x : S67) (k : Nat) (hk : 30 ≤ k) : qLb k a b E L M W l x = some (yes (QL a b M x)) := by
 unfold qLb
 rw [named_eq a b E L M W l x.f0 x.f1 k hk, Option.bind_some]
 by_cases h : x.f0.size ≤ 64 ∧ x.f1 = Hs a b x.f0
 ·rw [if_pos (yes_true h), sortedF_eq linI 64 x.f2 (fun t _ => qBk_eq a b E L M W l t k hk) (fun y z => pBk_cmp y z)]
  congr 1
  exact yes_congr ⟨fun hh => ⟨h, hh⟩, fun hh => hh.2⟩
 ·rw [yes_false h, if_neg (by decide), yes_false (fun hh => h hh.1)]
theorem qEp_eq (a b E L M W : Int) (hn : Nm E L M W) (l : List S63) (x : S63) (k : Nat) (hk : 30 ≤ k) : qEp k a b E L M W l x = some (yes (QE a b E L M W x)) := by
 obtain ⟨h1, h2, h3, h4, h5⟩ := hn
 unfold MX at h5
 unfold qEp
 have e : wrap64 (wrap64 (W + E) - 1) = W + E - 1 := by unfold wrap64; omega
 rw [e, fits_eq, Option.bind_some]
 by_cases h : W ≤ x.f0 ∧ x.f0 ≤ min (W + E - 1) 2147483647
 ·rw [if_pos (yes_true h), sortedF_eq linK L x.f1 (fun t _ => qLb_eq a b E L M W l t k hk) (fun y z => pLb_cmp k (by omega) y z)]
  congr 1
  exact yes_congr ⟨fun hh => ⟨h, hh⟩, fun hh => hh.2⟩
 ·rw [yes_false h, if_neg (by decide), yes_false (fun hh => h hh.1)]
theorem new_eq (a b E L M : Int) : t_New.f a b E L M = if (1 ≤ E ∧ E ≤ 64) ∧ (1 ≤ L ∧ L ≤ 64) ∧ (1 ≤ M ∧ M ≤ 64) then some (a, b, E, L, M, 0, [], 0) else some (0, 0, 0, 0, 0, 0, [], 1) := by
 unfold t_New.f
 rw [fits_eq, Option.bind_some]
 by_cases h1 : 1 ≤ E ∧ E ≤ 64
 ·rw [if_pos (yes_true h1), fits_eq, Option.bind_some]
  by_cases h2 : 1 ≤ L ∧ L ≤ 64
  ·rw [if_pos (yes_true h2), fits_eq, Option.bind_some]
   by_cases h3 : 1 ≤ M ∧ M ≤ 64
   ·rw [if_pos (yes_true h3), if_pos ⟨h1, h2, h3⟩]
   ·rw [yes_false h3, if_neg (by decide), if_neg (fun h => h3 h.2.2)]
  ·rw [yes_false h2, if_neg (by decide), if_neg (fun h => h2 h.2.1)]
 ·rw [yes_false h1, if_neg (by decide), if_neg (fun h => h1 h.1)]
theorem right_eq (a b E L M W : Int) (l : List S63) (k : Nat) (hk : 30 ≤ k) : t_Right.f k a b E L M W l = some (yes (RR a b E L M W l)) := by
 unfold t_Right.f
 rw [new_eq]
 by_cases h1 : (1 ≤ E ∧ E ≤ 64) ∧ (1 ≤ L ∧ L ≤ 64) ∧ (1 ≤ M ∧ M ≤ 64)
 ·rw [if_pos h1, Option.bind_some, if_pos rfl, fits_eq, Option.bind_some]
  by_cases h2 : 0 ≤ W ∧ W ≤ 2147483647
  ·rw [if_pos (yes_true h2)]
   have hn : Nm E L M W := ⟨h1.1, h1.2.1, h1.2.2, h2⟩
   by_cases h3 : l = []
   ·rw [if_pos (by rw [h3]; rfl), yes_true ⟨hn, .inl h3⟩]
   ·have h4 := List.length_pos_iff.2 h3
    rw [if_neg (by omega), sortedF_eq linI E l (fun t _ => qEp_eq a b E L M W hn l t k hk) (fun y z => pEp_cmp y z)]
    congr 1
    exact yes_congr ⟨fun hh => ⟨hn, .inr hh⟩, fun hh => hh.2.resolve_left h3⟩
  ·rw [yes_false h2, if_neg (by decide), yes_false (fun hh => h2 hh.1.2.2.2)]
 ·rw [if_neg h1, Option.bind_some, if_neg (by decide), yes_false (fun hh => h1 ⟨hh.1.1, hh.1.2.1, hh.1.2.2.1⟩)]
theorem len_le : ∀ (ks : List Int) (lo : Int) (n : Nat), Srt ltI ks → (∀ k ∈ ks, lo ≤ k ∧ k < lo + n) → ks.length ≤ n
 | [], _, _, _, _ => Nat.zero_le _
 | k :: ks, lo, n, hs, h => by
  obtain ⟨s1, s2⟩ := List.pairwise_cons.1 hs
  have hk := h k (List.mem_cons_self ..)
  have ih := len_le ks (k + 1) (lo + n - (k + 1)).toNat s2 (fun z hz => by
   have h1 : k < z := by have := s1 z hz; unfold ltI at this; exact of_decide_eq_true this
   have h2 := h z (List.mem_cons_of_mem _ hz)
   omega)
  simp only [List.length_cons]
  omega
section
variable {κ α : Type} {lt : κ → κ → Bool} {key : α → κ}
theorem upd_keys (into : α → α) (x : α) : ∀ (l : List α), (∀ y ∈ l, key (into y) = key y) → key (into x) = key x → (upd lt key into x l).map key = insK lt (key x) (l.map key)
 | [], _, hx => by simp [upd, insK, hx]
 | y :: l, h, hx => by
  rw [List.map_cons]
  unfold upd insK
  split
  ·rw [List.map_cons, upd_keys into x l (fun z hz => h z (List.mem_cons_of_mem _ hz)) hx]
  ·split
   ·rw [List.map_cons, List.map_cons, hx]
   ·rw [List.map_cons, h y (List.mem_cons_self ..)]
end
def SB (y : S84) : Prop := Srt ltK (y.f1.map kT) ∧ y.f1.length < 1000000
def SL (y : S67) : Prop := Srt ltI (y.f2.map fun b => b.v) ∧ (∀ b ∈ y.f2, SB b ∧ 0 ≤ b.v ∧ b.v ≤ 63) ∧ y.f2.length < 1000000
def SE (y : S63) : Prop := Srt ltK (y.f1.map kL) ∧ (∀ b ∈ y.f1, SL b) ∧ y.f1.length < 1000000
theorem inBk_eq (a b : Int) (M : Nat) (r : S29) (y : S84) (h : SB y) (k : Nat) (hk : 30 ≤ k) : inBk k M ⟨r.id, Hs a b r.id⟩ y = some (intoB ltK (Hs a b) M r y) := by
 unfold inBk
 rw [putF_upd (key := kT) (into := some) (into' := id) (x := (⟨r.id, Hs a b r.id⟩ : S91)) linK h.1 (fun t _ => pTr_cmp k (by omega) t _) (fun _ _ _ => rfl) rfl h.2 (by omega), Option.bind_some]
 rfl
theorem inLb_eq (a b : Int) (M : Nat) (r : S29) (hv : 0 ≤ r.v ∧ r.v ≤ 63) (y : S67) (h : SL y) (k : Nat) (hk : 30 ≤ k) : inLb k M r.v ⟨r.id, Hs a b r.id⟩ y = some (intoL ltK (Hs a b) M r y) := by
 obtain ⟨h1, h2, h3⟩ := h
 unfold inLb
 rw [putF_upd (key := fun t : S84 => t.v) (into' := intoB ltK (Hs a b) M r) linI h1 (fun t _ => pBk_cmp t _) (fun t ht _ => inBk_eq a b M r t (h2 t ht).1 k hk) (inBk_eq a b M r ⟨r.v, []⟩ ⟨List.Pairwise.nil, by simp⟩ k hk) h3 (by omega), Option.bind_some]
 unfold intoL putB
 congr 2
 refine List.take_of_length_le ?_
 have hk2 : ((upd ltI (fun t : S84 => t.v) (intoB ltK (Hs a b) M r) ⟨r.v, []⟩ y.f2).map fun t => t.v) = insK ltI r.v (y.f2.map fun t => t.v) := upd_keys (key := fun t : S84 => t.v) _ ⟨r.v, []⟩ y.f2 (fun _ _ => rfl) rfl
 have := len_le ((upd ltI (fun t : S84 => t.v) (intoB ltK (Hs a b) M r) ⟨r.v, []⟩ y.f2).map fun t => t.v) 0 64 (by rw [hk2]; exact insK_srt linI h1) (fun z hz => by
  rw [hk2] at hz
  rcases (mem_insK linI).1 hz with e | e
  ·rw [e]; omega
  ·obtain ⟨t, ht, rfl⟩ := List.mem_map.1 e
   have := (h2 t ht).2
   omega)
 rw [List.length_map] at this
 exact this
theorem inEp_eq (a b : Int) (L M : Nat) (r : S29) (hv : 0 ≤ r.v ∧ r.v ≤ 63) (hn : r.n.size ≤ 100) (y : S63) (h : SE y) (k : Nat) (hk : 30 ≤ k) : inEp k a b L M r.v r.n ⟨r.id, Hs a b r.id⟩ y = some (intoE ltK (Hs a b) L M r y) := by
 obtain ⟨h1, h2, h3⟩ := h
 unfold inEp
 rw [sum_k a b r.n hn k hk, Option.bind_some, putF_upd (key := kL) (into' := intoL ltK (Hs a b) M r) linK h1 (fun t _ => pLb_cmp k (by omega) t _) (fun t ht _ => inLb_eq a b M r hv t (h2 t ht) k hk) (inLb_eq a b M r hv ⟨r.n, Hs a b r.n, []⟩ ⟨List.Pairwise.nil, fun _ hh => (by cases hh), by simp⟩ k hk) h3 (by omega), Option.bind_some]
 rfl
theorem keep_eq (c : Int) : keepF c = fun e : S63 => decide (c ≤ e.t) := by
 funext x
 unfold keepF
 by_cases h : x.f0 < c
 ·rw [decide_eq_true h, decide_eq_false (show ¬ c ≤ x.t by show ¬ c ≤ x.f0; omega)]; rfl
 ·rw [decide_eq_false h, decide_eq_true (show c ≤ x.t by show c ≤ x.f0; omega)]; rfl
theorem raised_eq (a b E L M W : Int) (l : List S63) (hl : l.length < 1000000) (c : Int) : t_raised.f a b E L M W l c = some (a, b, E, L, M, (raise c (W, l)).1, (raise c (W, l)).2) := by
 unfold t_raised.f raise
 rw [if_pos hl, keep_eq]
theorem qb_sb {a b : Int} {M : Nat} {x : S84} (hM : M ≤ 64) (h : QB a b M x) : SB x ∧ 0 ≤ x.v ∧ x.v ≤ 63 := ⟨⟨h.2.2.1, by have := h.2.2.2.2; omega⟩, h.1⟩
theorem ql_sl {a b : Int} {M : Nat} {x : S67} (hM : M ≤ 64) (h : QL a b M x) : SL x := ⟨h.2.2.1, fun t ht => qb_sb hM (h.2.1 t ht), by have := h.2.2.2.2; omega⟩
theorem qe_se {a b E W : Int} {L M : Nat} {x : S63} (hL : L ≤ 64) (hM : M ≤ 64) (h : QE a b E L M W x) : SE x := ⟨h.2.2.1, fun t ht => ql_sl hM (h.2.1 t ht), by have := h.2.2.2.2; omega⟩
def Mr (r : S29) : Prop := (0 ≤ r.t ∧ r.t ≤ MX) ∧ (0 ≤ r.v ∧ r.v ≤ 63) ∧ r.n.size ≤ 64 ∧ r.id.size ≤ 64
section
variable {a b : Int} {E L M : Nat}
theorem rr_list {W : Int} {l : List S63} (h : RR a b E L M W l) : (∀ x ∈ l, QE a b E L M W x) ∧ Srt ltI (l.map fun t => t.t) ∧ l.length ≤ 64 := by
 have hE := h.1.1.2
 rcases h.2 with h2 | h2
 ·subst h2; exact ⟨fun x hx => (by cases hx), List.Pairwise.nil, Nat.zero_le _⟩
 ·exact ⟨h2.1, h2.2.1, by have := h2.2.2.2; omega⟩
theorem add_eq {W : Int} {l : List S63} (h : RR a b E L M W l) {r : S29} (hr : Mr r) (k : Nat) (hk : 30 ≤ k) :
  t_add.f k a b E L M W l r.t r.n r.v r.id = some (a, b, (E : Int), (L : Int), (M : Int), (add ltK (Hs a b) E L M (W, l) r).1, (add ltK (Hs a b) E L M (W, l) r).2) := by
 obtain ⟨⟨h1, h2, h3, h4, h5⟩, -⟩ := h.1, h.2
 obtain ⟨g1, g2, g3⟩ := rr_list h
 obtain ⟨r1, r2, r3, r4⟩ := hr
 unfold MX at h5 r1
 have ew : wrap64 (wrap64 (r.t - E) + 1) = r.t - E + 1 := by unfold wrap64; omega
 unfold t_add.f
 rw [ew, raised_eq a b E L M W l (by omega), Option.bind_some]
 unfold add
 simp only
 by_cases hc : r.t < (raise (r.t - E + 1) (W, l)).1
 ·rw [if_pos hc, if_pos hc]
 ·rw [if_neg hc, if_neg hc, sum_k a b r.id (by omega) k hk, Option.bind_some]
  have hW : (raise (r.t - E + 1) (W, l)).1 = max W (r.t - E + 1) := rfl
  have hmem : ∀ e ∈ (raise (r.t - E + 1) (W, l)).2, e ∈ l ∧ max W (r.t - E + 1) ≤ e.t := fun e he => by
   obtain ⟨x1, x2⟩ := List.mem_filter.1 he
   exact ⟨x1, of_decide_eq_true x2⟩
  have hsrt : Srt ltI ((raise (r.t - E + 1) (W, l)).2.map fun t => t.t) := List.Pairwise.sublist (List.Sublist.map _ List.filter_sublist) g2
  have hlen : (raise (r.t - E + 1) (W, l)).2.length < 1000000 := Nat.lt_of_le_of_lt (List.length_filter_le ..) (show l.length < 1000000 by omega)
  rw [putF_upd (key := fun t : S63 => t.t) (into' := intoE ltK (Hs a b) L M r) linI hsrt (fun t _ => pEp_cmp t _) (fun t ht _ => inEp_eq a b L M r r2 (by omega) t (qe_se (by omega) (by omega) (g1 t (hmem t ht).1)) k hk)
   (inEp_eq a b L M r r2 (by omega) ⟨r.t, []⟩ ⟨List.Pairwise.nil, fun _ hh => (by cases hh), by simp⟩ k hk) hlen (by omega), Option.bind_some]
  unfold putE
  congr 8
  refine List.take_of_length_le ?_
  have hk2 : ((upd ltI (fun t : S63 => t.t) (intoE ltK (Hs a b) L M r) ⟨r.t, []⟩ (raise (r.t - E + 1) (W, l)).2).map fun t => t.t) = insK ltI r.t ((raise (r.t - E + 1) (W, l)).2.map fun t => t.t) := upd_keys (key := fun t : S63 => t.t) _ ⟨r.t, []⟩ _ (fun _ _ => rfl) rfl
  have := len_le ((upd ltI (fun t : S63 => t.t) (intoE ltK (Hs a b) L M r) ⟨r.t, []⟩ (raise (r.t - E + 1) (W, l)).2).map fun t => t.t) (max W (r.t - E + 1)) E (by rw [hk2]; exact insK_srt linI hsrt) (fun z hz => by
   rw [hk2] at hz
   rcases (mem_insK linI).1 hz with e | e
   ·rw [hW] at hc; rw [e]; omega
   ·obtain ⟨t, ht, rfl⟩ := List.mem_map.1 e
    have y1 := hmem t ht
    have y2 := (g1 t y1.1).1.2
    show max W (r.t - E + 1) ≤ t.t ∧ t.t < max W (r.t - E + 1) + E
    have y3 : t.t ≤ min (W + E - 1) MX := y2
    omega)
  rw [List.length_map] at this
  omega
theorem rr_gs {W : Int} {l : List S63} (h : RR a b E L M W l) : GS ltK (Hs a b) E L M W l := by
 obtain ⟨g1, g2, g3⟩ := rr_list h
 refine ⟨g2, fun e he => ?_⟩
 have q := g1 e he
 have q1 : W ≤ e.t ∧ e.t ≤ min (W + E - 1) MX := q.1
 refine ⟨q1.1, by omega, q.2.2.2.1, by have := q.2.2.2.2; show e.f1.length ≤ L; omega, q.2.2.1, fun lb hb => ?_⟩
 have p := q.2.1 lb hb
 refine ⟨p.1.2, p.2.2.2.1, p.2.2.1, fun c hc => ?_⟩
 have o := p.2.1 c hc
 exact ⟨o.2.2.2.1, by have := o.2.2.2.2; show c.f1.length ≤ M; omega, o.2.2.1, fun t ht => (o.2.1 t ht).2⟩
theorem rr_mr {W : Int} {l : List S63} (h : RR a b E L M W l) : ∀ r ∈ fl l, Mr r := by
 obtain ⟨g1, g2, g3⟩ := rr_list h
 have hW := h.1.2.2.2.1
 intro r hr
 obtain ⟨e, he, hr⟩ := List.mem_flatMap.1 hr
 obtain ⟨lb, hlb, hr⟩ := List.mem_flatMap.1 hr
 obtain ⟨c, hc, hr⟩ := List.mem_flatMap.1 hr
 obtain ⟨t, ht, rfl⟩ := List.mem_map.1 hr
 have q := g1 e he
 have p := q.2.1 lb hlb
 have o := p.2.1 c hc
 have q1 : W ≤ e.t ∧ e.t ≤ min (W + E - 1) MX := q.1
 exact ⟨⟨show 0 ≤ e.t by omega, show e.t ≤ MX by omega⟩, o.1, p.1.1, (o.2.1 t ht).1⟩
theorem rr_mk {W : Int} {l : List S63} (h : RR a b E L M W l) : mk ltK (Hs a b) E L M W (fl l) = (W, l) := mk_flat linK (rr_gs h)
end
section
variable {a b : Int} {E L M : Nat}
theorem own_sub {κ ρ : Type} {lt : κ → κ → Bool} {kr : ρ → κ} {k : κ} {l : List ρ} {r : ρ} (h : r ∈ own lt kr k l) : r ∈ l := (List.mem_filter.1 h).1
theorem qt_mk {l : List S29} (hl : ∀ r ∈ l, Mr r) {x : S91} (hx : x ∈ gT ltK (Hs a b) M l) : QT a b x := by
 obtain ⟨k, h1, rfl, _⟩ := mem_grp linK (List.mem_of_mem_take hx)
 obtain ⟨r, hr, rfl⟩ := List.mem_map.1 h1
 show QT a b ⟨r.id, Hs a b r.id⟩
 exact ⟨(hl r hr).2.2.2, Eq.refl (Hs a b r.id)⟩
theorem qb_mk (hM : 1 ≤ M) {l : List S29} (hl : ∀ r ∈ l, Mr r) {x : S84} (hx : x ∈ gB ltK (Hs a b) M l) : QB a b M x := by
 obtain ⟨k, h1, rfl, h2⟩ := mem_grp linI hx
 obtain ⟨r, hr, rfl⟩ := List.mem_map.1 h1
 obtain ⟨g1, g2, g3, g4⟩ := gT_good (H := Hs a b) (M := M) linK hM h2
 exact ⟨(hl r hr).2.1, fun t ht => qt_mk (fun r hr => hl r (own_sub hr)) ht, g3, g1, by show ((gT ltK (Hs a b) M _).length : Int) ≤ M; omega⟩
theorem ql_mk (hM : 1 ≤ M) {l : List S29} (hl : ∀ r ∈ l, Mr r) {r : S29} (hr : r ∈ l) {l' : List S29} (hs : ∀ r ∈ l', r ∈ l) (hne : l' ≠ []) : QL a b M (mkL ltK (Hs a b) M (rL (Hs a b) r) l') := by
 obtain ⟨g1, g2, g3, g4⟩ := mkL_good (H := Hs a b) (M := M) (r := r) linK hM hne
 have q : ∀ t ∈ gB ltK (Hs a b) M l', QB a b M t := fun t ht => qb_mk hM (fun r hr => hl r (hs r hr)) ht
 refine ⟨⟨(hl r hr).2.2.1, g1⟩, q, g3, g2, ?_⟩
 have := len_le _ 0 64 g3 (fun z hz => by
  obtain ⟨t, ht, rfl⟩ := List.mem_map.1 hz
  have h9 : 0 ≤ t.v ∧ t.v ≤ 63 := (q t ht).1
  show 0 ≤ t.v ∧ t.v < 0 + 64
  omega)
 rw [List.length_map] at this
 show (((mkL ltK (Hs a b) M (rL (Hs a b) r) l').l.length : Nat) : Int) ≤ 64
 omega
theorem wm_top (h : 1 ≤ E) {w : Int} (hw : w ≤ MX) {l : List S29} (hl : ∀ r ∈ l, Mr r) : wm E w l ≤ MX := wm_le w MX l hw fun r hr => by have := (hl r hr).1.2; omega
theorem mk_rr (hE : 1 ≤ E ∧ E ≤ 64) (hL : 1 ≤ L ∧ L ≤ 64) (hM : 1 ≤ M ∧ M ≤ 64) {w : Int} (h0 : 0 ≤ w) (h1 : w ≤ MX) {l : List S29} (hl : ∀ r ∈ l, Mr r) :
  RR a b E L M (mk ltK (Hs a b) E L M w l).1 (mk ltK (Hs a b) E L M w l).2 := by
 have hg := mk_good (H := Hs a b) (E := E) (L := L) (M := M) linK hL.1 hM.1 w l
 have hw1 : 0 ≤ (mk ltK (Hs a b) E L M w l).1 := by have := (wm_ge (E := E) w l).1; show 0 ≤ wm E w l; omega
 have hw2 : (mk ltK (Hs a b) E L M w l).1 ≤ MX := wm_top hE.1 h1 hl
 obtain ⟨s, hs⟩ : ∃ s, s = mk ltK (Hs a b) E L M w l := ⟨_, rfl⟩
 refine ⟨⟨by omega, by omega, by omega, hw1, hw2⟩, ?_⟩
 by_cases hn : (mk ltK (Hs a b) E L M w l).2 = []
 ·exact .inl hn
 ·refine .inr ⟨fun e he => ?_, hg.1, hn, ?_⟩
  ·obtain ⟨q1, q2, q3⟩ := hg.2 e he
   have he2 : e ∈ gE ltK (Hs a b) L M (l.filter fun r => decide (wm E w l ≤ r.t)) := he
   obtain ⟨k, k1, rfl, k2⟩ := mem_grp linI he2
   obtain ⟨r, hr, rfl⟩ := List.mem_map.1 k1
   have hr2 := (List.mem_filter.1 hr).1
   refine ⟨⟨q1, ?_⟩, fun lb hb => ?_, q3.2.2.1, q3.1, ?_⟩
   ·have := (hl r hr2).1.2
    have q2' : r.t ≤ (mk ltK (Hs a b) E L M w l).1 + E - 1 := q2
    show r.t ≤ min ((mk ltK (Hs a b) E L M w l).1 + E - 1) MX
    omega
   ·obtain ⟨k, k3, rfl, k4⟩ := mem_grp linK (List.mem_of_mem_take hb)
    obtain ⟨r', hr', rfl⟩ := List.mem_map.1 k3
    exact ql_mk hM.1 (fun r hr => hl r (List.mem_filter.1 (own_sub hr)).1) hr' (fun r hr => own_sub hr) k4
   ·have := q3.2.1
    exact Int.ofNat_le.2 this
  ·have := len_le _ (mk ltK (Hs a b) E L M w l).1 E hg.1 (fun z hz => by
    obtain ⟨t, ht, rfl⟩ := List.mem_map.1 hz
    have := hg.2 t ht
    omega)
   rw [List.length_map] at this
   omega
end
section
variable {a b : Int} {E L M : Nat}
theorem Expire_k {W : Int} {l : List S63} (h : RR a b E L M W l) {c : Int} (hc : 0 ≤ c ∧ c ≤ MX) (k : Nat) (hk : 30 ≤ k) :
  t_Expire.f k a b E L M W l c = some (a, b, (E : Int), (L : Int), (M : Int), (raise c (W, l)).1, (raise c (W, l)).2, 0) := by
 unfold t_Expire.f
 rw [right_eq a b E L M W l _ hk, yes_true h, Option.bind_some, if_pos rfl, fits_eq, yes_true (show 0 ≤ c ∧ c ≤ 2147483647 from hc), Option.bind_some, if_pos rfl, raised_eq a b E L M W l (by have := (rr_list h).2.2; omega), Option.bind_some]
theorem Expire_ev {W : Int} {l : List S63} (h : RR a b E L M W l) {c : Int} (hc : 0 ≤ c ∧ c ≤ MX) :
  Ev (fun k => t_Expire.f k a b E L M W l c) (a, b, (E : Int), (L : Int), (M : Int), (raise c (W, l)).1, (raise c (W, l)).2, 0) := ⟨30, fun k hk => Expire_k h hc k hk⟩
end
theorem succ64 {i n : Nat} (h : i < n) (hn : n < 9223372036854775807) : wrap64 ((i : Int) + 1) = ((i + 1 : Nat) : Int) := by unfold wrap64; omega
theorem rdN {α : Type} {l : List α} {z : α} {i : Nat} (h : i < l.length) : l.getD (i : Int).toNat z = l[i] := by rw [Int.toNat_natCast, List.getD_eq_getElem?_getD, List.getElem?_eq_getElem h]; rfl
theorem rdTr {l : List S91} {i : Nat} (h : i < l.length) : rd_T91 l (i : Int) = l[i] := rdN h
theorem rdBk {l : List S84} {i : Nat} (h : i < l.length) : rd_T84 l (i : Int) = l[i] := rdN h
theorem rdLb {l : List S67} {i : Nat} (h : i < l.length) : rd_T67 l (i : Int) = l[i] := rdN h
theorem rdEp {l : List S63} {i : Nat} (h : i < l.length) : rd_T63 l (i : Int) = l[i] := rdN h
theorem rdRc {l : List S29} {i : Nat} (h : i < l.length) : rd_T29 l (i : Int) = l[i] := rdN h
theorem drop_at {α : Type} {l : List α} {i : Nat} (h : i < l.length) : l.drop i = l[i] :: l.drop (i + 1) := List.drop_eq_getElem_cons h
theorem drop_end {α : Type} {l : List α} {i : Nat} (h : ¬ i < l.length) : l.drop i = [] := List.drop_of_length_le (by omega)
def B3 : Nat := 2932031007402
def BN : Nat := 9223372036854775807
section
variable {r : List S29} {x13 : List S63} {x14 x15 : Int} {x20 : List S67} {x21 x22 : Int} {x27 : List S84} {x28 x29 : Int} {x34 : List S91} {a0 : Int} {a1 : List S67} {b0 : ByteArray} {b1 : Int} {b2 : List S84} {c0 : Int} {c1 : List S91}
theorem list_l3 : ∀ (d i : Nat) (x3 : List S29), x34.length = i + d → x34.length < BN → x3.length + d < B3 →
  Ev (fun k => t_list.l2 k (x3 ++ (x34.drop i).map fun t => (⟨a0, b0, c0, t.f0⟩ : S29)) x13 x14 x15 x20 x21 x22 x27 x28 (wrap64 (x29 + 1)) a0 a1 b0 b1 b2) r →
  Ev (fun k => t_list.l3 k x3 x13 x14 x15 x20 x21 x22 x27 x28 x29 x34 (x34.length : Int) (i : Int) a0 a1 b0 b1 b2 c0 c1) r
 | 0, i, x3, h, hn, hb, he => by
  refine Ev.step (fun k => ?_) he
  rw [t_list.l3, if_neg (by omega), drop_end (by omega)]
  simp
 | d + 1, i, x3, h, hn, hb, he => by
  unfold B3 at hb
  have hi : i < x34.length := by omega
  refine Ev.step (fun k => ?_) (list_l3 d (i + 1) (x3 ++ [(⟨a0, b0, c0, x34[i].f0⟩ : S29)]) (by omega) hn (by unfold B3; simp; omega) (by rw [drop_at hi, List.map_cons] at he; rw [List.append_assoc]; exact he))
  rw [t_list.l3, if_pos (by omega), if_pos (by omega), if_pos (by omega), if_pos (by omega), rdTr hi, succ64 hi hn]
theorem list_l2 (hB : ∀ b ∈ x27, b.f1.length < BN) : ∀ (d i : Nat) (x3 : List S29), x27.length = i + d → x27.length < BN → x3.length + ((x27.drop i).flatMap (flB a0 b0)).length < B3 →
  Ev (fun k => t_list.l1 k (x3 ++ (x27.drop i).flatMap (flB a0 b0)) x13 x14 x15 x20 x21 (wrap64 (x22 + 1)) a0 a1) r →
  Ev (fun k => t_list.l2 k x3 x13 x14 x15 x20 x21 x22 x27 (x27.length : Int) (i : Int) a0 a1 b0 b1 b2) r
 | 0, i, x3, h, hn, hb, he => by
  refine Ev.step (fun k => ?_) he
  rw [t_list.l2, if_neg (by omega), drop_end (by omega)]
  simp
 | d + 1, i, x3, h, hn, hb, he => by
  have hi : i < x27.length := by omega
  rw [drop_at hi, List.flatMap_cons] at hb he
  rw [List.length_append] at hb
  have hl : (flB a0 b0 x27[i]).length = x27[i].f1.length := by unfold flB; rw [List.length_map]
  refine Ev.step (fun k => ?_) (list_l3 (x34 := x27[i].f1) (c0 := x27[i].f0) (c1 := x27[i].f1) x27[i].f1.length 0 x3 (by omega) (hB _ (List.getElem_mem hi)) (by omega)
   (by
    have e : wrap64 ((i : Int) + 1) = ((i + 1 : Nat) : Int) := succ64 hi hn
    rw [e]
    refine list_l2 hB d (i + 1) _ (by omega) hn ?_ ?_
    ·rw [List.drop_zero, List.length_append]
     have : (List.map (fun t : S91 => (⟨a0, b0, x27[i].f0, t.f0⟩ : S29)) x27[i].f1).length = x27[i].f1.length := List.length_map ..
     omega
    ·rw [List.append_assoc]; exact he))
  rw [t_list.l2, if_pos (by omega), if_pos (by omega), if_pos (by omega), rdBk hi]
  rfl
theorem list_l1 (hB : ∀ b ∈ x20, b.f2.length < BN ∧ ∀ c ∈ b.f2, c.f1.length < BN) : ∀ (d i : Nat) (x3 : List S29), x20.length = i + d → x20.length < BN → x3.length + ((x20.drop i).flatMap (flL a0)).length < B3 →
  Ev (fun k => t_list.l0 k (x3 ++ (x20.drop i).flatMap (flL a0)) x13 x14 (wrap64 (x15 + 1))) r →
  Ev (fun k => t_list.l1 k x3 x13 x14 x15 x20 (x20.length : Int) (i : Int) a0 a1) r
 | 0, i, x3, h, hn, hb, he => by
  refine Ev.step (fun k => ?_) he
  rw [t_list.l1, if_neg (by omega), drop_end (by omega)]
  simp
 | d + 1, i, x3, h, hn, hb, he => by
  have hi : i < x20.length := by omega
  rw [drop_at hi, List.flatMap_cons] at hb he
  rw [List.length_append] at hb
  refine Ev.step (fun k => ?_) (list_l2 (x27 := x20[i].f2) (a0 := a0) (a1 := a1) (b0 := x20[i].f0) (b1 := x20[i].f1) (b2 := x20[i].f2) (hB _ (List.getElem_mem hi)).2 x20[i].f2.length 0 x3 (by omega) (hB _ (List.getElem_mem hi)).1 (by rw [List.drop_zero]; have : (flL a0 x20[i]).length = (x20[i].f2.flatMap (flB a0 x20[i].f0)).length := rfl; omega)
   (by
    have e : wrap64 ((i : Int) + 1) = ((i + 1 : Nat) : Int) := succ64 hi hn
    rw [e, List.drop_zero]
    refine list_l1 hB d (i + 1) _ (by omega) hn ?_ ?_
    ·rw [List.length_append]; have : (flL a0 x20[i]).length = (x20[i].f2.flatMap (flB a0 x20[i].f0)).length := rfl; omega
    ·rw [List.append_assoc]; exact he))
  rw [t_list.l1, if_pos (by omega), if_pos (by omega), if_pos (by omega), rdLb hi]
  rfl
theorem list_l0 (hB : ∀ e ∈ x13, e.f1.length < BN ∧ ∀ b ∈ e.f1, b.f2.length < BN ∧ ∀ c ∈ b.f2, c.f1.length < BN) : ∀ (d i : Nat) (x3 : List S29), x13.length = i + d → x13.length < BN → x3.length + ((x13.drop i).flatMap flE).length < B3 →
  Ev (fun k => t_list.l0 k x3 x13 (x13.length : Int) (i : Int)) (x3 ++ (x13.drop i).flatMap flE)
 | 0, i, x3, h, hn, hb => by
  refine Ev.step (fun k => ?_) (Ev.now _)
  rw [t_list.l0, if_neg (by omega), drop_end (by omega)]
  simp
 | d + 1, i, x3, h, hn, hb => by
  have hi : i < x13.length := by omega
  rw [drop_at hi, List.flatMap_cons] at hb ⊢
  rw [List.length_append] at hb
  refine Ev.step (fun k => ?_) (list_l1 (x20 := x13[i].f1) (a0 := x13[i].f0) (a1 := x13[i].f1) (hB _ (List.getElem_mem hi)).2 x13[i].f1.length 0 x3 (by omega) (hB _ (List.getElem_mem hi)).1 (by rw [List.drop_zero]; have : (flE x13[i]).length = (x13[i].f1.flatMap (flL x13[i].f0)).length := rfl; omega)
   (by
    have e : wrap64 ((i : Int) + 1) = ((i + 1 : Nat) : Int) := succ64 hi hn
    rw [e, List.drop_zero, ← List.append_assoc]
    exact list_l0 hB d (i + 1) _ (by omega) hn (by rw [List.length_append]; have : (flE x13[i]).length = (x13[i].f1.flatMap (flL x13[i].f0)).length := rfl; omega)))
  rw [t_list.l0, if_pos (by omega), if_pos (by omega), if_pos (by omega), rdEp hi]
  rfl
end
def cT (x : S91) : S78 := ⟨x.f0, x.f1⟩
def cB (x : S84) : S76 := ⟨x.f0, x.f1.map cT⟩
def cL (x : S67) : S71 := ⟨x.f0, x.f1, x.f2.map cB⟩
def cE (x : S63) : S73 := ⟨x.f0, x.f1.map cL⟩
def cR (x : S29) : S46 := ⟨x.f0, x.f1, x.f2, x.f3⟩
def LB (l : List S84) : Prop := l.length < 4398046511104 ∧ ∀ c ∈ l, c.f1.length < 5864062014805
def LL (l : List S67) : Prop := l.length < 2932031007402 ∧ ∀ b ∈ l, LB b.f2
def LO (l : List S63) : Prop := l.length < 4398046511104 ∧ ∀ e ∈ l, LL e.f1
theorem gtE {α : Type} {l : List α} {i : Nat} (h : i < l.length) : l[i] ∈ l := List.getElem_mem h
section
variable {r : List S76} {x3 : List S76} {x10 : List S84} {x11 x12 : Int} {x20 : List S91} {v : Int}
theorem bk_l1 (h3 : x3.length < 4398046511104) : ∀ (d i : Nat) (x7 : List S78), x20.length = i + d → x7.length + d ≤ 5864062014805 → x20.length < 5864062014806 →
  Ev (fun k => l22_buckets.l0 k (x3 ++ [(⟨v, x7 ++ (x20.drop i).map cT⟩ : S76)]) x10 x11 (wrap64 (x12 + 1))) r →
  Ev (fun k => l22_buckets.l1 k x3 x7 x10 x11 x12 x20 (x20.length : Int) (i : Int) v) r
 | 0, i, x7, h, hb, hn, he => by
  refine Ev.step (fun k => ?_) he
  rw [l22_buckets.l1, if_neg (by omega), if_pos h3, drop_end (by omega)]
  simp
 | d + 1, i, x7, h, hb, hn, he => by
  have hi : i < x20.length := by omega
  refine Ev.step (fun k => ?_) (bk_l1 h3 d (i + 1) (x7 ++ [cT x20[i]]) (by omega) (by simp; omega) hn (by rw [drop_at hi, List.map_cons] at he; rw [List.append_assoc]; exact he))
  rw [l22_buckets.l1, if_pos (by omega), if_pos (by omega), if_pos (by omega), if_pos (by omega), rdTr hi, succ64 hi (by omega)]
  rfl
theorem bk_l0 (hB : ∀ c ∈ x10, c.f1.length < 5864062014805) (hn : x10.length < 4398046511104) : ∀ (d i : Nat) (x3 : List S76), x10.length = i + d → x3.length + d ≤ 4398046511104 →
  Ev (fun k => l22_buckets.l0 k x3 x10 (x10.length : Int) (i : Int)) (x3 ++ (x10.drop i).map cB)
 | 0, i, x3, h, hb => by
  refine Ev.step (fun k => ?_) (Ev.now _)
  rw [l22_buckets.l0, if_neg (by omega), drop_end (by omega)]
  simp
 | d + 1, i, x3, h, hb => by
  have hi : i < x10.length := by omega
  refine Ev.step (fun k => ?_) (bk_l1 (x3 := x3) (x10 := x10) (x20 := x10[i].f1) (v := x10[i].f0) (by omega) x10[i].f1.length 0 [] (by omega) (by have := hB _ (gtE hi); simp; omega) (by have := hB _ (gtE hi); omega) (by
   rw [succ64 hi (by omega), drop_at hi, List.map_cons, List.drop_zero, List.nil_append]
   have := bk_l0 hB hn d (i + 1) (x3 ++ [cB x10[i]]) (by omega) (by simp; omega)
   rw [List.append_assoc] at this
   exact this))
  rw [l22_buckets.l0, if_pos (by omega), if_pos (by omega), if_pos (by omega), rdBk hi]
  rfl
end
theorem bk_ev {l : List S84} (h : LB l) : Ev (fun k => l22_buckets.f k l) (l.map cB) := by
 have := bk_l0 h.2 h.1 l.length 0 [] (by omega) (by simp; have := h.1; omega)
 rw [List.nil_append, List.drop_zero] at this
 exact this
section
variable {x3 : List S73} {x10 : List S63} {x11 x12 : Int} {x17 : List S67} {s0 s1 s2 s3 s4 s5 : Int} {s6 : List S63} {e0 : Int} {e1 : List S67} {R : Int × Int × Int × Int × Int × Int × (List S73)}
theorem ref_l1 (h3 : x3.length < 4398046511104) (hB : ∀ b ∈ x17, LB b.f2) (hn : x17.length < 2932031007402) : ∀ (d i : Nat) (x6 : List S71), x17.length = i + d → x6.length + d ≤ 2932031007402 →
  Ev (fun k => l22_Ref.l0 k (x3 ++ [(⟨e0, x6 ++ (x17.drop i).map cL⟩ : S73)]) x10 x11 (wrap64 (x12 + 1)) s0 s1 s2 s3 s4 s5 s6) R →
  Ev (fun k => l22_Ref.l1 k x3 x6 x10 x11 x12 x17 (x17.length : Int) (i : Int) s0 s1 s2 s3 s4 s5 s6 e0 e1) R
 | 0, i, x6, h, hb, he => by
  refine Ev.step (fun k => ?_) he
  rw [l22_Ref.l1, if_neg (by omega), if_pos h3, drop_end (by omega)]
  simp
 | d + 1, i, x6, h, hb, he => by
  have hi : i < x17.length := by omega
  refine Ev.step (fun k => ?_) (Ev.bind (bk_ev (hB _ (gtE hi))) (f := fun k t => if x6.length < 2932031007402 then l22_Ref.l1 k x3 (x6 ++ [(⟨x17[i].f0, x17[i].f1, t⟩ : S71)]) x10 x11 x12 x17 (x17.length : Int) ((i + 1 : Nat) : Int) s0 s1 s2 s3 s4 s5 s6 e0 e1 else none) (by
   rw [show (fun k => if x6.length < 2932031007402 then l22_Ref.l1 k x3 (x6 ++ [(⟨x17[i].f0, x17[i].f1, x17[i].f2.map cB⟩ : S71)]) x10 x11 x12 x17 (x17.length : Int) ((i + 1 : Nat) : Int) s0 s1 s2 s3 s4 s5 s6 e0 e1 else none) = fun k => l22_Ref.l1 k x3 (x6 ++ [cL x17[i]]) x10 x11 x12 x17 (x17.length : Int) ((i + 1 : Nat) : Int) s0 s1 s2 s3 s4 s5 s6 e0 e1 from funext fun k => if_pos (by omega)]
   exact ref_l1 h3 hB hn d (i + 1) (x6 ++ [cL x17[i]]) (by omega) (by simp; omega) (by rw [drop_at hi, List.map_cons] at he; rw [List.append_assoc]; exact he)))
  rw [l22_Ref.l1, if_pos (by omega), if_pos (by omega), if_pos (by omega), rdLb hi, succ64 hi (by omega)]
theorem ref_l0 (hB : ∀ e ∈ x10, LL e.f1) (hn : x10.length < 4398046511104) : ∀ (d i : Nat) (x3 : List S73), x10.length = i + d → x3.length + d ≤ 4398046511104 →
  Ev (fun k => l22_Ref.l0 k x3 x10 (x10.length : Int) (i : Int) s0 s1 s2 s3 s4 s5 s6) (s0, s1, s2, s3, s4, s5, x3 ++ (x10.drop i).map cE)
 | 0, i, x3, h, hb => by
  refine Ev.step (fun k => ?_) (Ev.now _)
  rw [l22_Ref.l0, if_neg (by omega), drop_end (by omega)]
  simp
 | d + 1, i, x3, h, hb => by
  have hi : i < x10.length := by omega
  have hL := hB _ (gtE hi)
  refine Ev.step (fun k => ?_) (ref_l1 (x3 := x3) (x10 := x10) (x17 := x10[i].f1) (e0 := x10[i].f0) (e1 := x10[i].f1) (by omega) hL.2 hL.1 x10[i].f1.length 0 [] (by omega) (by have := hL.1; simp; omega) (by
   rw [succ64 hi (by omega), drop_at hi, List.map_cons, List.drop_zero, List.nil_append]
   have := ref_l0 hB hn d (i + 1) (x3 ++ [cE x10[i]]) (by omega) (by simp; omega)
   rw [List.append_assoc] at this
   exact this))
  rw [l22_Ref.l0, if_pos (by omega), if_pos (by omega), if_pos (by omega), rdEp hi]
  rfl
end
theorem ref_ev (a b E L M W : Int) {l : List S63} (h : LO l) : Ev (fun k => l22_Ref.f k a b E L M W l) (a, b, E, L, M, W, l.map cE) := by
 have := ref_l0 (s0 := a) (s1 := b) (s2 := E) (s3 := L) (s4 := M) (s5 := W) (s6 := l) h.2 h.1 l.length 0 [] (by omega) (by simp; have := h.1; omega)
 rw [List.nil_append, List.drop_zero] at this
 exact this
theorem rdmap {α β : Type} {l : List α} {f : α → β} {z : β} {i : Nat} (h : i < l.length) : (l.map f).getD (i : Int).toNat z = f l[i] := by rw [rdN (by simpa using h), List.getElem_map]
theorem rd78 {l : List S91} {i : Nat} (h : i < l.length) : rd_T78 (l.map cT) (i : Int) = cT l[i] := rdmap h
theorem rd76 {l : List S84} {i : Nat} (h : i < l.length) : rd_T76 (l.map cB) (i : Int) = cB l[i] := rdmap h
theorem rd71 {l : List S67} {i : Nat} (h : i < l.length) : rd_T71 (l.map cL) (i : Int) = cL l[i] := rdmap h
theorem rd73 {l : List S63} {i : Nat} (h : i < l.length) : rd_T73 (l.map cE) (i : Int) = cE l[i] := rdmap h
section
variable {R : List S46} {x4 x6 x8 : Int} {s0 s1 s2 s3 s4 s5 : Int} {s6 : List S73} {e0 : Int} {e1 : List S71} {g0 : ByteArray} {g1 : Int} {g2 : List S76} {c0 : Int}
theorem dl_l3 {x : List S91} : ∀ (d i : Nat) (x3 : List S46), x.length = i + d → x.length < BN → x3.length + d < B3 →
  Ev (fun k => r22_List.l2 k (x3 ++ (x.drop i).map fun t => (⟨e0, g0, c0, t.f0⟩ : S46)) x4 x6 (wrap64 (x8 + 1)) s0 s1 s2 s3 s4 s5 s6 e0 e1 g0 g1 g2) R →
  Ev (fun k => r22_List.l3 k x3 x4 x6 x8 (i : Int) s0 s1 s2 s3 s4 s5 s6 e0 e1 g0 g1 g2 c0 (x.map cT)) R
 | 0, i, x3, h, hn, hb, he => by
  refine Ev.step (fun k => ?_) he
  rw [r22_List.l3, List.length_map, if_neg (by omega), drop_end (by omega)]
  simp
 | d + 1, i, x3, h, hn, hb, he => by
  unfold B3 at hb
  have hi : i < x.length := by omega
  refine Ev.step (fun k => ?_) (dl_l3 d (i + 1) (x3 ++ [(⟨e0, g0, c0, x[i].f0⟩ : S46)]) (by omega) hn (by unfold B3; simp; omega) (by rw [drop_at hi, List.map_cons] at he; rw [List.append_assoc]; exact he))
  rw [r22_List.l3, List.length_map, if_pos (by omega), if_pos (by omega), if_pos (by omega), rd78 hi, succ64 hi hn]
  rfl
theorem dl_l2 {x : List S84} (hB : ∀ b ∈ x, b.f1.length < BN) : ∀ (d i : Nat) (x3 : List S46), x.length = i + d → x.length < BN → x3.length + ((x.drop i).flatMap (flB e0 g0)).length < B3 →
  Ev (fun k => r22_List.l1 k (x3 ++ ((x.drop i).flatMap (flB e0 g0)).map cR) x4 (wrap64 (x6 + 1)) s0 s1 s2 s3 s4 s5 s6 e0 e1) R →
  Ev (fun k => r22_List.l2 k x3 x4 x6 (i : Int) s0 s1 s2 s3 s4 s5 s6 e0 e1 g0 g1 (x.map cB)) R
 | 0, i, x3, h, hn, hb, he => by
  refine Ev.step (fun k => ?_) he
  rw [r22_List.l2, List.length_map, if_neg (by omega), drop_end (by omega)]
  simp
 | d + 1, i, x3, h, hn, hb, he => by
  have hi : i < x.length := by omega
  rw [drop_at hi, List.flatMap_cons] at hb he
  rw [List.length_append] at hb
  rw [List.map_append, ← List.append_assoc] at he
  have hl : (flB e0 g0 x[i]).length = x[i].f1.length := by unfold flB; rw [List.length_map]
  have hm : (flB e0 g0 x[i]).map cR = x[i].f1.map fun t => (⟨e0, g0, x[i].f0, t.f0⟩ : S46) := by unfold flB; rw [List.map_map]; rfl
  refine Ev.step (fun k => ?_) (dl_l3 (x := x[i].f1) (c0 := x[i].f0) (e0 := e0) (e1 := e1) (g0 := g0) (g1 := g1) (g2 := x.map cB) x[i].f1.length 0 x3 (by omega) (hB _ (gtE hi)) (by omega)
   (by
    rw [succ64 hi hn, List.drop_zero, ← hm]
    exact dl_l2 hB d (i + 1) _ (by omega) hn (by rw [List.length_append, List.length_map]; omega) he))
  rw [r22_List.l2, List.length_map, if_pos (by omega), if_pos (by omega), rd76 hi]
  rfl
theorem dl_l1 {x : List S67} (hB : ∀ b ∈ x, b.f2.length < BN ∧ ∀ c ∈ b.f2, c.f1.length < BN) : ∀ (d i : Nat) (x3 : List S46), x.length = i + d → x.length < BN → x3.length + ((x.drop i).flatMap (flL e0)).length < B3 →
  Ev (fun k => r22_List.l0 k (x3 ++ ((x.drop i).flatMap (flL e0)).map cR) (wrap64 (x4 + 1)) s0 s1 s2 s3 s4 s5 s6) R →
  Ev (fun k => r22_List.l1 k x3 x4 (i : Int) s0 s1 s2 s3 s4 s5 s6 e0 (x.map cL)) R
 | 0, i, x3, h, hn, hb, he => by
  refine Ev.step (fun k => ?_) he
  rw [r22_List.l1, List.length_map, if_neg (by omega), drop_end (by omega)]
  simp
 | d + 1, i, x3, h, hn, hb, he => by
  have hi : i < x.length := by omega
  rw [drop_at hi, List.flatMap_cons] at hb he
  rw [List.length_append] at hb
  rw [List.map_append, ← List.append_assoc] at he
  have hl : (flL e0 x[i]).length = (x[i].f2.flatMap (flB e0 x[i].f0)).length := rfl
  refine Ev.step (fun k => ?_) (dl_l2 (x := x[i].f2) (e0 := e0) (e1 := x.map cL) (g0 := x[i].f0) (g1 := x[i].f1) (hB _ (gtE hi)).2 x[i].f2.length 0 x3 (by omega) (hB _ (gtE hi)).1 (by rw [List.drop_zero]; omega)
   (by
    rw [succ64 hi hn, List.drop_zero]
    exact dl_l1 hB d (i + 1) _ (by omega) hn (by rw [List.length_append, List.length_map]; omega) he))
  rw [r22_List.l1, List.length_map, if_pos (by omega), if_pos (by omega), rd71 hi]
  rfl
theorem dl_l0 {x : List S63} (hB : ∀ e ∈ x, e.f1.length < BN ∧ ∀ b ∈ e.f1, b.f2.length < BN ∧ ∀ c ∈ b.f2, c.f1.length < BN) : ∀ (d i : Nat) (x3 : List S46), x.length = i + d → x.length < BN → x3.length + ((x.drop i).flatMap flE).length < B3 →
  Ev (fun k => r22_List.l0 k x3 (i : Int) s0 s1 s2 s3 s4 s5 (x.map cE)) (x3 ++ ((x.drop i).flatMap flE).map cR)
 | 0, i, x3, h, hn, hb => by
  refine Ev.step (fun k => ?_) (Ev.now _)
  rw [r22_List.l0, List.length_map, if_neg (by omega), drop_end (by omega)]
  simp
 | d + 1, i, x3, h, hn, hb => by
  have hi : i < x.length := by omega
  rw [drop_at hi, List.flatMap_cons] at hb ⊢
  rw [List.length_append] at hb
  have hl : (flE x[i]).length = (x[i].f1.flatMap (flL x[i].f0)).length := rfl
  refine Ev.step (fun k => ?_) (dl_l1 (x := x[i].f1) (e0 := x[i].f0) (s6 := x.map cE) (hB _ (gtE hi)).2 x[i].f1.length 0 x3 (by omega) (hB _ (gtE hi)).1 (by rw [List.drop_zero]; omega)
   (by
    rw [succ64 hi hn, List.drop_zero, List.map_append, ← List.append_assoc]
    exact dl_l0 hB d (i + 1) _ (by omega) hn (by rw [List.length_append, List.length_map]; show _ + (x[i].f1.flatMap (flL x[i].f0)).length + _ < B3; omega)))
  rw [r22_List.l0, List.length_map, if_pos (by omega), if_pos (by omega), rd73 hi]
  rfl
end
theorem lo_bn {l : List S63} (h : LO l) : l.length < BN ∧ ∀ e ∈ l, e.f1.length < BN ∧ ∀ b ∈ e.f1, b.f2.length < BN ∧ ∀ c ∈ b.f2, c.f1.length < BN := by
 unfold BN
 refine ⟨by have := h.1; omega, fun e he => ⟨by have := (h.2 e he).1; omega, fun b hb => ⟨by have := ((h.2 e he).2 b hb).1; omega, fun c hc => by have := ((h.2 e he).2 b hb).2 c hc; omega⟩⟩⟩
theorem dlist_ev (a b E L M W : Int) {l : List S63} (h : LO l) (hf : (fl l).length < B3) : Ev (fun k => r22_List.f k a b E L M W (l.map cE)) ((fl l).map cR) := by
 have hb := lo_bn h
 have := dl_l0 (s0 := a) (s1 := b) (s2 := E) (s3 := L) (s4 := M) (s5 := W) hb.2 l.length 0 [] (by omega) hb.1 (by rw [List.drop_zero]; simpa [fl] using hf)
 rw [List.nil_append, List.drop_zero] at this
 exact this
theorem list_ev (a b E L M W : Int) {l : List S63} (h : LO l) (hf : (fl l).length < B3) : Ev (fun k => t_list.f k a b E L M W l) (fl l) := by
 have hb := lo_bn h
 have := list_l0 hb.2 l.length 0 [] (by omega) hb.1 (by rw [List.drop_zero]; simpa [fl] using hf)
 rw [List.nil_append, List.drop_zero] at this
 exact this
def FL (x : S67) : Prop := x.f2.length ≤ 10 ∧ ∀ b ∈ x.f2, b.f1.length ≤ 10
def FE (x : S63) : Prop := x.f1.length ≤ 10 ∧ ∀ b ∈ x.f1, FL b
theorem flat_len {α β : Type} (f : α → List β) (n : Nat) : ∀ l : List α, (∀ x ∈ l, (f x).length ≤ n) → (l.flatMap f).length ≤ l.length * n
 | [], _ => by simp
 | x :: l, h => by
  rw [List.flatMap_cons, List.length_append, List.length_cons, Nat.succ_mul]
  have h1 := h x (List.mem_cons_self ..)
  have h2 := flat_len f n l (fun y hy => h y (List.mem_cons_of_mem _ hy))
  omega
theorem fl_len (N : Nat) {l : List S63} (h1 : l.length ≤ N) (h : ∀ e ∈ l, e.f1.length ≤ N ∧ ∀ b ∈ e.f1, b.f2.length ≤ N ∧ ∀ c ∈ b.f2, c.f1.length ≤ N) : (fl l).length ≤ N * (N * (N * N)) := by
 refine Nat.le_trans (flat_len flE (N * (N * N)) l (fun e he => ?_)) (Nat.mul_le_mul_right _ h1)
 refine Nat.le_trans (flat_len (flL e.t) (N * N) e.l (fun b hb => ?_)) (Nat.mul_le_mul_right _ (h e he).1)
 refine Nat.le_trans (flat_len (flB e.t b.n) N b.l (fun c hc => ?_)) (Nat.mul_le_mul_right _ ((h e he).2 b hb).1)
 unfold flB
 rw [List.length_map]
 exact ((h e he).2 b hb).2 c hc
section
variable {l : List S63} {s0 s1 s2 s3 s4 s5 : Int}
theorem sm_l3 {x : List S91} {y : List S84} {g0 : ByteArray} {g1 : Int} {i j m : Int} (hm : 0 ≤ m ∧ m < y.length) (hr : (rd_T76 (y.map cB) m).f1 = x.map cT) (hn : x.length < BN) (hc : ∃ s, Ev (fun k => r22_Small.l2 k i j (wrap64 (m + 1)) s0 s1 s2 s3 s4 s5 (l.map cE) g0 g1 (y.map cB)) s) :
  ∀ (d n : Nat), x.length = n + d → ∃ s, Ev (fun k => r22_Small.l3 k i j m (n : Int) s0 s1 s2 s3 s4 s5 (l.map cE) g0 g1 (y.map cB)) s
 | 0, n, h => by
  obtain ⟨s, hs⟩ := hc
  refine ⟨s, Ev.step (fun k => ?_) hs⟩
  rw [r22_Small.l3, if_pos hm.1, if_pos (by rw [List.length_map]; exact hm.2), hr, List.length_map, if_neg (by omega)]
 | d + 1, n, h => by
  have hi : n < x.length := by omega
  by_cases hz : ((cT x[n]).f0.size : Int) > 100
  ·refine ⟨false, Ev.step (f := fun _ => some false) (fun k => ?_) (Ev.now _)⟩
   rw [r22_Small.l3, if_pos hm.1, if_pos (by rw [List.length_map]; exact hm.2), hr, List.length_map, if_pos (by omega), if_pos (by omega), rd78 hi, if_pos hz]
  ·obtain ⟨s, hs⟩ := sm_l3 hm hr hn hc d (n + 1) (by omega)
   refine ⟨s, Ev.step (fun k => ?_) hs⟩
   rw [r22_Small.l3, if_pos hm.1, if_pos (by rw [List.length_map]; exact hm.2), hr, List.length_map, if_pos (by omega), if_pos (by omega), rd78 hi, if_neg hz, succ64 hi hn]
theorem sm_l2 {y : List S84} (hy : ∀ b ∈ y, b.f1.length < BN) (hn : y.length < BN) {g0 : ByteArray} {g1 : Int} {i j : Int} (hc : (∀ b ∈ y, b.f1.length ≤ 10) → ∃ s, Ev (fun k => r22_Small.l1 k i (wrap64 (j + 1)) s0 s1 s2 s3 s4 s5 (l.map cE)) s) :
  ∀ (d m : Nat), y.length = m + d → (∀ b ∈ y.take m, b.f1.length ≤ 10) → ∃ s, Ev (fun k => r22_Small.l2 k i j (m : Int) s0 s1 s2 s3 s4 s5 (l.map cE) g0 g1 (y.map cB)) s
 | 0, m, h, hp => by
  obtain ⟨s, hs⟩ := hc (by rwa [List.take_of_length_le (by omega)] at hp)
  refine ⟨s, Ev.step (fun k => ?_) hs⟩
  rw [r22_Small.l2, List.length_map, if_neg (by omega)]
 | d + 1, m, h, hp => by
  have hi : m < y.length := by omega
  by_cases hz : (y[m].f1.length : Int) > 10
  ·refine ⟨false, Ev.step (f := fun _ => some false) (fun k => ?_) (Ev.now _)⟩
   rw [r22_Small.l2, List.length_map, if_pos (by omega), if_pos (by omega), rd76 hi, show (cB y[m]).f1 = y[m].f1.map cT from rfl, List.length_map, if_pos hz]
  ·have ih := sm_l2 (g0 := g0) (g1 := g1) hy hn hc d (m + 1) (by omega) (fun b hb => by
    rw [List.take_add_one, List.getElem?_eq_getElem hi] at hb
    rcases List.mem_append.1 hb with hb | hb
    ·exact hp b hb
    ·rw [List.mem_singleton.1 hb]; omega)
   obtain ⟨s, hs⟩ := sm_l3 (x := y[m].f1) (y := y) (l := l) (s0 := s0) (s1 := s1) (s2 := s2) (s3 := s3) (s4 := s4) (s5 := s5) (g0 := g0) (g1 := g1) (i := i) (j := j) (m := (m : Int)) ⟨by omega, by omega⟩ (by rw [rd76 hi]; rfl) (hy _ (gtE hi)) (by rw [succ64 hi hn]; exact ih) y[m].f1.length 0 (by omega)
   refine ⟨s, Ev.step (fun k => ?_) hs⟩
   rw [r22_Small.l2, List.length_map, if_pos (by omega), if_pos (by omega), rd76 hi, show (cB y[m]).f1 = y[m].f1.map cT from rfl, List.length_map, if_neg hz]
   rfl
theorem sm_l1 (hl : LO l) {i : Nat} (hi : i < l.length) (hc : FE l[i] → ∃ s, Ev (fun k => r22_Small.l0 k ((i + 1 : Nat) : Int) s0 s1 s2 s3 s4 s5 (l.map cE)) s) (h10 : l[i].f1.length ≤ 10) :
  ∀ (d j : Nat), l[i].f1.length = j + d → (∀ b ∈ l[i].f1.take j, FL b) → ∃ s, Ev (fun k => r22_Small.l1 k (i : Int) (j : Int) s0 s1 s2 s3 s4 s5 (l.map cE)) s
 | 0, j, h, hp => by
  obtain ⟨s, hs⟩ := hc ⟨h10, by rwa [List.take_of_length_le (by omega)] at hp⟩
  refine ⟨s, Ev.step (fun k => ?_) hs⟩
  rw [r22_Small.l1, if_pos (by omega), List.length_map, if_pos (by omega), rd73 hi, show (cE l[i]).f1 = l[i].f1.map cL from rfl, List.length_map, if_neg (by omega), succ64 hi (lo_bn hl).1]
 | d + 1, j, h, hp => by
  have hj : j < l[i].f1.length := by omega
  have hb := (lo_bn hl).2 _ (gtE hi)
  have e0 : (cE l[i]).f1 = l[i].f1.map cL := rfl
  have ih := sm_l1 hl hi hc h10 d (j + 1) (by omega)
  have st : ∀ z, (z = true ∨ ((l[i].f1[j].f2.length : Int) ≤ 10 ∧ z = false)) → ∃ s, Ev (fun k => r22_Small.j2 k (i : Int) (j : Int) z s0 s1 s2 s3 s4 s5 (l.map cE) l[i].f1[j].f0 l[i].f1[j].f1 (l[i].f1[j].f2.map cB)) s := fun z hz => by
   rcases hz with rfl | ⟨hz, rfl⟩
   ·exact ⟨false, Ev.step (f := fun _ => some false) (fun k => by rw [r22_Small.j2, if_pos rfl]) (Ev.now _)⟩
   ·obtain ⟨s, hs⟩ := sm_l2 (l := l) (y := l[i].f1[j].f2) (s0 := s0) (s1 := s1) (s2 := s2) (s3 := s3) (s4 := s4) (s5 := s5) (g0 := l[i].f1[j].f0) (g1 := l[i].f1[j].f1) (i := (i : Int)) (j := (j : Int)) (hb.2 _ (gtE hj)).2 (hb.2 _ (gtE hj)).1 (fun hq => by
     rw [succ64 hj hb.1]
     exact ih (fun b hb => by
      rw [List.take_add_one, List.getElem?_eq_getElem hj] at hb
      rcases List.mem_append.1 hb with hb | hb
      ·exact hp b hb
      ·rw [List.mem_singleton.1 hb]; exact ⟨by omega, hq⟩)) l[i].f1[j].f2.length 0 (by omega) (fun b hb => by simp at hb)
    exact ⟨s, Ev.step (fun k => by rw [r22_Small.j2, if_neg (by decide)]; rfl) hs⟩
  by_cases hz : ((cL l[i].f1[j]).f0.size : Int) > 100
  ·obtain ⟨s, hs⟩ := st true (.inl rfl)
   refine ⟨s, Ev.step (fun k => ?_) hs⟩
   rw [r22_Small.l1, if_pos (by omega), List.length_map, if_pos (by omega), rd73 hi, e0, List.length_map, if_pos (by omega), if_pos (by omega), rd71 hj, if_pos hz]
   rfl
  ·obtain ⟨s, hs⟩ := st (decide ((l[i].f1[j].f2.length : Int) > 10)) (by
    by_cases h2 : (l[i].f1[j].f2.length : Int) > 10
    ·exact .inl (decide_eq_true h2)
    ·exact .inr ⟨by omega, decide_eq_false h2⟩)
   refine ⟨s, Ev.step (fun k => ?_) hs⟩
   rw [r22_Small.l1, if_pos (by omega), List.length_map, if_pos (by omega), rd73 hi, e0, List.length_map, if_pos (by omega), if_pos (by omega), rd71 hj, if_neg hz, show (cL l[i].f1[j]).f2 = l[i].f1[j].f2.map cB from rfl, List.length_map]
   rfl
theorem sm_l0 (hl : LO l) (h10 : l.length ≤ 10) : ∀ (d i : Nat), l.length = i + d → (∀ e ∈ l.take i, FE e) → ∃ s, Ev (fun k => r22_Small.l0 k (i : Int) s0 s1 s2 s3 s4 s5 (l.map cE)) s
 | 0, i, h, hp => by
  rw [List.take_of_length_le (by omega)] at hp
  have hf := fl_len 10 h10 (fun e he => ⟨(hp e he).1, fun b hb => ⟨((hp e he).2 b hb).1, ((hp e he).2 b hb).2⟩⟩)
  refine ⟨_, Ev.step (fun k => ?_) (Ev.bind (dlist_ev s0 s1 s2 s3 s4 s5 hl (by unfold B3; omega)) (f := fun k t => some (decide ((t.length : Int) ≤ 60))) (Ev.now _))⟩
  rw [r22_Small.l0, List.length_map, if_neg (by omega)]
 | d + 1, i, h, hp => by
  have hi : i < l.length := by omega
  by_cases hz : (l[i].f1.length : Int) > 10
  ·refine ⟨false, Ev.step (f := fun _ => some false) (fun k => ?_) (Ev.now _)⟩
   rw [r22_Small.l0, List.length_map, if_pos (by omega), if_pos (by omega), rd73 hi, show (cE l[i]).f1 = l[i].f1.map cL from rfl, List.length_map, if_pos hz]
  ·obtain ⟨s, hs⟩ := sm_l1 (s0 := s0) (s1 := s1) (s2 := s2) (s3 := s3) (s4 := s4) (s5 := s5) hl hi (fun hq => sm_l0 hl h10 d (i + 1) (by omega) (fun b hb => by
    rw [List.take_add_one, List.getElem?_eq_getElem hi] at hb
    rcases List.mem_append.1 hb with hb | hb
    ·exact hp b hb
    ·rw [List.mem_singleton.1 hb]; exact hq)) (by omega) l[i].f1.length 0 (by omega) (fun b hb => by simp at hb)
   refine ⟨s, Ev.step (fun k => ?_) hs⟩
   rw [r22_Small.l0, List.length_map, if_pos (by omega), if_pos (by omega), rd73 hi, show (cE l[i]).f1 = l[i].f1.map cL from rfl, List.length_map, if_neg hz]
   rfl
theorem small_ev (a b E L M W : Int) (hl : LO l) : ∃ s, Ev (fun k => r22_Small.f k a b E L M W (l.map cE)) s := by
 by_cases h : (l.length : Int) > 10
 ·exact ⟨false, 0, fun k _ => by show r22_Small.f k a b E L M W (l.map cE) = _; unfold r22_Small.f; rw [List.length_map, if_pos h]⟩
 ·obtain ⟨s, hs⟩ := sm_l0 (s0 := a) (s1 := b) (s2 := E) (s3 := L) (s4 := M) (s5 := W) hl (by omega) l.length 0 (by omega) (fun b hb => by simp at hb)
  exact ⟨s, Ev.congr (fun k => by unfold r22_Small.f; rw [List.length_map, if_neg h]; rfl) hs⟩
end
theorem sb_l0 {x : List S84} (hn : x.length < BN) (hx : ∀ c ∈ x, c.f1.length < BN) : ∀ (d i : Nat), x.length = i + d → Ev (fun k => r22_buckets.l0 k (x.map cB) (x.map cB) (i : Int)) true
 | 0, i, h => Ev.step (f := fun _ => some true) (fun k => by rw [r22_buckets.l0, List.length_map, if_neg (by omega)]) (Ev.now _)
 | d + 1, i, h => by
  have hi : i < x.length := by omega
  have ih := sb_l0 hn hx d (i + 1) (by omega)
  have hin : ∀ (d j : Nat), x[i].f1.length = j + d → Ev (fun k => r22_buckets.l1 k (x.map cB) (x.map cB) (i : Int) (j : Int)) true := by
   intro d
   induction d with
   | zero =>
    intro j hj
    refine Ev.step (fun k => ?_) ih
    rw [r22_buckets.l1, if_pos (by omega), List.length_map, if_pos (by omega), rd76 hi, show (cB x[i]).f1 = x[i].f1.map cT from rfl, List.length_map, if_neg (by omega), succ64 hi hn]
   | succ d ihd =>
    intro j hj
    have hjl : j < x[i].f1.length := by omega
    refine Ev.step (fun k => ?_) (ihd (j + 1) (by omega))
    rw [r22_buckets.l1, if_pos (by omega), List.length_map, if_pos (by omega), rd76 hi, show (cB x[i]).f1 = x[i].f1.map cT from rfl, List.length_map, if_pos (by omega), if_pos (by omega), if_pos (by omega), if_pos (by omega), if_neg (by simp), succ64 hjl (hx _ (gtE hi))]
  refine Ev.step (fun k => ?_) (Ev.step (g := fun k => r22_buckets.j1 k (x.map cB) (x.map cB) (i : Int) false) (fun k => by rw [r22_buckets.j1, if_neg (by decide)]; rfl) (hin x[i].f1.length 0 (by omega)))
  rw [r22_buckets.l0, List.length_map, if_pos (by omega), if_pos (by omega), if_pos (by omega), if_pos rfl, bne_self_eq_false]
theorem sb_ev {x : List S84} (h : x.length < BN ∧ ∀ c ∈ x, c.f1.length < BN) : Ev (fun k => r22_buckets.f k (x.map cB) (x.map cB)) true :=
 Ev.congr (fun k => by unfold r22_buckets.f; rw [if_pos rfl]; rfl) (sb_l0 h.1 h.2 x.length 0 (by omega))
theorem same_refl (a b E L M W : Int) {l : List S63} (hl : LO l) : Ev (fun k => r22_Same.f k a b E L M W (l.map cE) a b E L M W (l.map cE)) true := by
 have hb := lo_bn hl
 have h0 : ∀ (d i : Nat), l.length = i + d → Ev (fun k => r22_Same.l0 k (i : Int) a b E L M W (l.map cE) a b E L M W (l.map cE)) true := by
  intro d
  induction d with
  | zero => exact fun i h => Ev.step (f := fun _ => some true) (fun k => by rw [r22_Same.l0, List.length_map, if_neg (by omega)]) (Ev.now _)
  | succ d ihd =>
   intro i h
   have hi : i < l.length := by omega
   have ih := ihd (i + 1) (by omega)
   have he := hb.2 _ (gtE hi)
   have hin : ∀ (d j : Nat), l[i].f1.length = j + d → Ev (fun k => r22_Same.l1 k (i : Int) (j : Int) a b E L M W (l.map cE) a b E L M W (l.map cE) (cE l[i]).f0 (cE l[i]).f1 (cE l[i]).f0 (cE l[i]).f1) true := by
    intro d
    induction d with
    | zero =>
     intro j hj
     refine Ev.step (fun k => ?_) ih
     rw [r22_Same.l1, show (cE l[i]).f1 = l[i].f1.map cL from rfl, List.length_map, if_neg (by omega), succ64 hi hb.1]
    | succ d ihd2 =>
     intro j hj
     have hjl : j < l[i].f1.length := by omega
     refine Ev.step (fun k => ?_) (Ev.bind (sb_ev (he.2 _ (gtE hjl))) (f := fun k t => if t = true then r22_Same.l1 k (i : Int) ((j + 1 : Nat) : Int) a b E L M W (l.map cE) a b E L M W (l.map cE) (cE l[i]).f0 (cE l[i]).f1 (cE l[i]).f0 (cE l[i]).f1 else some false) (ihd2 (j + 1) (by omega)))
     rw [r22_Same.l1, show (cE l[i]).f1 = l[i].f1.map cL from rfl, List.length_map, if_pos (by omega), if_pos (by omega), if_pos (by omega), if_pos rfl, if_pos rfl, rd71 hjl, succ64 hjl he.1]
     rfl
   refine Ev.step (fun k => ?_) (Ev.step (g := fun k => r22_Same.j2 k (i : Int) false a b E L M W (l.map cE) a b E L M W (l.map cE) (cE l[i]).f0 (cE l[i]).f1 (cE l[i]).f0 (cE l[i]).f1) (fun k => by rw [r22_Same.j2, if_neg (by decide)]; rfl) (hin l[i].f1.length 0 (by omega)))
   rw [r22_Same.l0, List.length_map, if_pos (by omega), if_pos (by omega), if_pos (by omega), if_pos rfl, bne_self_eq_false, rd73 hi]
 refine Ev.congr (fun k => ?_) (Ev.step (g := fun k => r22_Same.j0 k false a b E L M W (l.map cE) a b E L M W (l.map cE)) (fun k => by rw [r22_Same.j0, if_neg (by decide)]; rfl) (h0 l.length 0 (by omega)))
 unfold r22_Same.f
 rw [if_neg (by simp), if_pos rfl, if_pos rfl, if_pos rfl, if_pos rfl, bne_self_eq_false]
theorem rr_lo {a b : Int} {E L M : Nat} {W : Int} {l : List S63} (h : RR a b E L M W l) : LO l ∧ (fl l).length < B3 := by
 obtain ⟨g1, g2, g3⟩ := rr_list h
 have hL := h.1.2.1.2
 have hM := h.1.2.2.1.2
 have q : ∀ e ∈ l, e.f1.length ≤ 64 ∧ ∀ b ∈ e.f1, b.f2.length ≤ 64 ∧ ∀ c ∈ b.f2, c.f1.length ≤ 64 := fun e he => by
  have p := g1 e he
  refine ⟨by have := p.2.2.2.2; omega, fun b hb => ?_⟩
  have o := p.2.1 b hb
  refine ⟨by have := o.2.2.2.2; omega, fun c hc => ?_⟩
  have := (o.2.1 c hc).2.2.2.2
  omega
 refine ⟨⟨by omega, fun e he => ⟨by have := (q e he).1; omega, fun b hb => ⟨by have := ((q e he).2 b hb).1; omega, fun c hc => by have := ((q e he).2 b hb).2 c hc; omega⟩⟩⟩, ?_⟩
 have := fl_len 64 g3 q
 unfold B3
 omega
theorem awake_ev : Ev (fun k => l22_awake.f k) true := Ev.of (fun k => l22_awake.mono k) l22_awake.atK
theorem ok_lo {x : S27} (h : Ok27 x) : LO x.f5 := by
 have h5 := h.2.2.2.2.2
 have h6 := h5.1
 refine ⟨by omega, fun e he => ?_⟩
 have he := (h5.2 e he).2
 have h7 := he.1
 refine ⟨by omega, fun b hb => ?_⟩
 have hb := (he.2 b hb).2.2
 have h8 := hb.1
 refine ⟨by omega, fun c hc => ?_⟩
 have h9 := (hb.2 c hc).2.1
 omega
theorem Ev.cong {α : Type} {g f : Nat → Option α} {r : α} (h : ∀ k, g k = f k) (k : Ev f r) : Ev g r := Ev.congr h k
theorem awake_id : Ev (fun k => (l22_awake.f k).bind fun t => some t) true := Ev.bind awake_ev (Ev.now true)
theorem nat_of {x : Int} (h : 1 ≤ x) : ∃ n : Nat, x = (n : Int) := ⟨x.toNat, by omega⟩
section
variable {a b : Int} {E L M : Nat}
theorem nums {W : Int} {l : List S63} (h : RR a b E L M W l) : (1 ≤ E ∧ E ≤ 64) ∧ (1 ≤ L ∧ L ≤ 64) ∧ (1 ≤ M ∧ M ≤ 64) ∧ 0 ≤ W ∧ W ≤ MX := by
 obtain ⟨h1, h2, h3, h4⟩ := h.1
 exact ⟨by omega, by omega, by omega, h4⟩
theorem raise_is {W : Int} {l : List S63} (h : RR a b E L M W l) (c : Int) : raise c (W, l) = mk ltK (Hs a b) E L M (max W c) (fl l) := by
 rw [← raise_mk, rr_mk h]
end
section
variable {a b : Int} {E L M : Nat}
def S (a b : Int) (E L M : Nat) (w : Int) (l : List S29) : Int × List S63 := mk ltK (Hs a b) E L M w l
theorem take_step {α : Type} {x : List α} {i : Nat} (h : i < x.length) : x.take (i + 1) = x.take i ++ [x[i]] := by rw [List.take_add_one, List.getElem?_eq_getElem h]; rfl
theorem S_rr (hE : 1 ≤ E ∧ E ≤ 64) (hL : 1 ≤ L ∧ L ≤ 64) (hM : 1 ≤ M ∧ M ≤ 64) {w : Int} (h0 : 0 ≤ w ∧ w ≤ MX) {l : List S29} (hl : ∀ r ∈ l, Mr r) : RR a b E L M (S a b E L M w l).1 (S a b E L M w l).2 := mk_rr hE hL hM h0.1 h0.2 hl
theorem S_add (w : Int) (l : List S29) (r : S29) : add ltK (Hs a b) E L M ((S a b E L M w l).1, (S a b E L M w l).2) r = S a b E L M w (l ++ [r]) := add_mk linK w l r
theorem S_raise (w c : Int) (l : List S29) : raise c ((S a b E L M w l).1, (S a b E L M w l).2) = S a b E L M (max w c) l := raise_mk w c l
theorem S_id {W : Int} {l : List S63} (h : RR a b E L M W l) : S a b E L M W (fl l) = (W, l) := rr_mk h
theorem mem_take {α : Type} {x : List α} {i : Nat} {y : α} (h : y ∈ x.take i) : y ∈ x := List.mem_of_mem_take h
theorem merge_l0 (hE : 1 ≤ E ∧ E ≤ 64) (hL : 1 ≤ L ∧ L ≤ 64) (hM : 1 ≤ M ∧ M ≤ 64) {w : Int} (h0 : 0 ≤ w ∧ w ≤ MX) {p x : List S29} (hp : ∀ r ∈ p, Mr r) (hx : ∀ r ∈ x, Mr r) (hn : x.length < BN) :
  ∀ (d i : Nat), x.length = i + d → Ev (fun k => t_Merge.l0 k x (x.length : Int) (i : Int) a b E L M (S a b E L M w (p ++ x.take i)).1 (S a b E L M w (p ++ x.take i)).2) (a, b, (E : Int), (L : Int), (M : Int), (S a b E L M w (p ++ x)).1, (S a b E L M w (p ++ x)).2, 0)
 | 0, i, h => by
  rw [List.take_of_length_le (show x.length ≤ i by omega)]
  refine Ev.step (fun k => ?_) (Ev.now _)
  rw [t_Merge.l0, if_neg (by omega)]
 | d + 1, i, h => by
  have hi : i < x.length := by omega
  have hq : RR a b E L M (S a b E L M w (p ++ x.take i)).1 (S a b E L M w (p ++ x.take i)).2 := S_rr hE hL hM h0 (fun r hr => by rcases List.mem_append.1 hr with hr | hr; exact hp r hr; exact hx r (mem_take hr))
  have ih := merge_l0 hE hL hM h0 hp hx hn d (i + 1) (by omega)
  have hA : Ev (fun k => t_add.f k a b E L M (S a b E L M w (p ++ x.take i)).1 (S a b E L M w (p ++ x.take i)).2 x[i].f0 x[i].f1 x[i].f2 x[i].f3) (a, b, (E : Int), (L : Int), (M : Int), (S a b E L M w (p ++ x.take (i + 1))).1, (S a b E L M w (p ++ x.take (i + 1))).2) :=
   ⟨30, fun k hk => by
    have h1 := add_eq hq (hx _ (gtE hi)) k hk
    rw [S_add, List.append_assoc, ← take_step hi] at h1
    exact h1⟩
  refine Ev.step (fun k => ?_) (Ev.bind hA (f := fun k bt => t_Merge.l0 k x (x.length : Int) ((i + 1 : Nat) : Int) bt.1 bt.2.1 bt.2.2.1 bt.2.2.2.1 bt.2.2.2.2.1 bt.2.2.2.2.2.1 bt.2.2.2.2.2.2) ih)
  rw [t_Merge.l0, if_pos (by omega), if_pos (by omega), if_pos (by omega), rdRc hi, succ64 hi hn]
theorem Merge_ev {W W2 : Int} {l l2 : List S63} (h : RR a b E L M W l) (h2 : RR a b E L M W2 l2) :
  Ev (fun k => t_Merge.f k a b E L M W l a b E L M W2 l2) (a, b, (E : Int), (L : Int), (M : Int), (S a b E L M (max W W2) (fl l ++ fl l2)).1, (S a b E L M (max W W2) (fl l ++ fl l2)).2, 0) := by
 obtain ⟨n1, n2, n3, n4, n5⟩ := nums h
 obtain ⟨-, -, -, m4, m5⟩ := nums h2
 obtain ⟨g1, g2⟩ := rr_lo h2
 refine Ev.congr (f := fun k => (t_Right.f k a b E L M W l).bind fun t => if t = true then (t_Right.f k a b E L M W2 l2).bind fun u => t_Merge.j0 k (!u) a b E L M W l a b E L M W2 l2 else t_Merge.j0 k true a b E L M W l a b E L M W2 l2) (fun k => rfl) ?_
 refine Ev.bind (a := true) ⟨30, fun k hk => by show t_Right.f k a b E L M W l = _; rw [right_eq a b E L M W l k hk, yes_true h]⟩ ?_
 refine Ev.cong (fun k => if_pos rfl) ?_
 refine Ev.bind (a := true) ⟨30, fun k hk => by show t_Right.f k a b E L M W2 l2 = _; rw [right_eq a b E L M W2 l2 k hk, yes_true h2]⟩ ?_
 have hr : Ev (fun k => t_raised.f a b E L M W l W2) (a, b, (E : Int), (L : Int), (M : Int), (S a b E L M (max W W2) (fl l)).1, (S a b E L M (max W W2) (fl l)).2) := ⟨0, fun k _ => by
  show t_raised.f a b E L M W l W2 = _
  rw [raised_eq a b E L M W l (by have := (rr_list h).2.2; omega), raise_is h]
  rfl⟩
 have hl0 := merge_l0 (a := a) (b := b) n1 n2 n3 (w := max W W2) ⟨by omega, by omega⟩ (rr_mr h) (rr_mr h2) (by unfold B3 at g2; unfold BN; omega) (fl l2).length 0 (by omega)
 rw [List.take_zero, List.append_nil] at hl0
 refine Ev.step (fun k => ?_) (Ev.bind hr (f := fun k bt => (t_list.f k a b E L M W2 l2).bind fun t => t_Merge.l0 k t (t.length : Int) 0 bt.1 bt.2.1 bt.2.2.1 bt.2.2.2.1 bt.2.2.2.2.1 bt.2.2.2.2.2.1 bt.2.2.2.2.2.2) (Ev.bind (list_ev a b E L M W2 g1 g2) hl0))
 rw [t_Merge.j0, if_neg (by decide), if_neg (by simp), if_pos rfl, if_pos rfl, if_pos rfl]
theorem rr_empty (hE : 1 ≤ E ∧ E ≤ 64) (hL : 1 ≤ L ∧ L ≤ 64) (hM : 1 ≤ M ∧ M ≤ 64) : RR a b E L M 0 [] := ⟨⟨by omega, by omega, by omega, by decide, by decide⟩, .inl rfl⟩
theorem New_ev (hE : 1 ≤ E ∧ E ≤ 64) (hL : 1 ≤ L ∧ L ≤ 64) (hM : 1 ≤ M ∧ M ≤ 64) : Ev (fun k => t_New.f a b E L M) (a, b, (E : Int), (L : Int), (M : Int), 0, [], 0) := ⟨0, fun k _ => by
 show t_New.f a b E L M = _
 rw [new_eq, if_pos ⟨by omega, by omega, by omega⟩]⟩
end
end Go.Proofs.Ytagcobdpojeiiaa.Tr
