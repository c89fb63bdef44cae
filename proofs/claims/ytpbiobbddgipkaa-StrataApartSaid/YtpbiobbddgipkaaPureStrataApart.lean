/- The law StrataApart, in plain Lean: a label's sample is the bottom sample of what came to it alone. -/
import Derived.Test.YtpbiobbddgipkaaHx20
import Derived.Test.YtpbiobbddgipkaaHx19
import Derived.Test.YtpbiobbddgipkaaHx14
import Derived.Test.YtpbiobbddgipkaaHqStrataApart
import Derived.Test.YtpbiobbddgipkaaSt3
set_option linter.unusedVariables false
set_option linter.unusedSimpArgs false
namespace Go.Proofs.Ytpbiobbddgipkaa.Pure
open Go.RowKit Go.Proofs.Ytpbiobbddgipkaa.H Go.Proofs.YtpbiobbddgipkaaW.PrintWords Go.Proofs.YtpbiobbddgipkaaW.PrintMore Go.Proofs.Ytpbiobbddgipkaa.Bo

/-! ### Names and their places -/
def key (a b : Int) (x : ByteArray) : S87 := kk x (H a b x)
theorem key_inj {a b : Int} {x y : ByteArray} (h : key a b x = key a b y) : x = y := by
  unfold key kk at h
  simp only [S87.mk.injEq] at h
  exact h.1
theorem key_cp {a b : Int} {x y : ByteArray} : cp (key a b y) (key a b x) = 0 ↔ y = x := by
  rw [cp_zero]
  exact ⟨fun h => h.2, fun h => by rw [h]; exact ⟨rfl, rfl⟩⟩
theorem insK_perm {x : S87} : ∀ {l : List S87}, (∀ y ∈ l, cp y x ≠ 0) → (insK x l).Perm (x :: l)
  | [], _ => List.Perm.refl _
  | y :: l, h => by
    unfold insK
    split
    · exact ((insK_perm (fun z hz => h z (List.mem_cons_of_mem _ hz))).cons y).trans (List.Perm.swap x y l)
    · rw [if_neg (h y (List.mem_cons_self ..))]
theorem insK_same {x : S87} : ∀ {l : List S87}, Srt l → x ∈ l → insK x l = l
  | [], _, h => by cases h
  | y :: l, hs, h => by
    obtain ⟨h1, h2⟩ := List.pairwise_cons.1 hs
    unfold insK
    rcases List.mem_cons.1 h with rfl | h
    · rw [if_neg (cp_irrefl x), if_pos ((cp_zero x x).2 ⟨rfl, rfl⟩)]
    · rw [if_pos (h1 x h), insK_same h2 h]
def Inv (a b : Int) (n : Nat) (ls : List S42) (ns : List ByteArray) : Prop := ∃ ks, Srt ks ∧ ks.Perm (ns.map (key a b)) ∧ ls.map ky = ks.take n
noncomputable def nx (x : ByteArray) (ns : List ByteArray) : List ByteArray := if yes (x ∈ ns) = true then ns else ns ++ [x]
theorem inv_step {a b : Int} {n : Nat} {ls ls' : List S42} {ns : List ByteArray} {x : ByteArray} (h : Inv a b n ls ns) (h' : ls'.map ky = (insK (key a b x) (ls.map ky)).take n) : Inv a b n ls' (nx x ns) := by
  obtain ⟨ks, h1, h2, h3⟩ := h
  rw [h3, insK_take] at h'
  refine ⟨insK (key a b x) ks, insK_srt h1, ?_, h'⟩
  unfold nx
  by_cases hx : x ∈ ns
  · rw [if_pos (yes_true hx), insK_same h1 (h2.mem_iff.2 (List.mem_map_of_mem hx))]
    exact h2
  · rw [if_neg (by rw [yes_false hx]; decide), List.map_append]
    refine (insK_perm fun y hy => ?_).trans ?_
    · obtain ⟨z, hz, rfl⟩ := List.mem_map.1 (h2.mem_iff.1 hy)
      rw [ne_eq, key_cp]
      rintro rfl
      exact hx hz
    · exact (h2.cons _).trans (List.perm_append_comm (l₁ := [key a b x]))
theorem take_mem {α : Type} {l : List α} {i : Nat} (h : i < l.length) (x : α) : x ∈ l.take (i + 1) ↔ x ∈ l.take i ∨ l[i] = x := by
  rw [List.take_add_one, List.getElem?_eq_getElem h, List.mem_append]
  simp only [Option.toList_some, List.mem_singleton]
  exact ⟨fun hh => hh.imp id Eq.symm, fun hh => hh.imp id Eq.symm⟩
theorem P_rd (l : List S35) (i : Nat) (h : i < l.length) : rd_T35 l (i : Int) = l[i] := by show l.getD (i : Int).toNat z35 = _; rw [Int.toNat_natCast, List.getD_eq_getElem?_getD, List.getElem?_eq_getElem h]; rfl

theorem mem_hit {x : S87} : ∀ {l : List S87}, Srt l → x ∈ l → hit x l = true
  | [], _, h => by cases h
  | y :: l, hs, h => by
    obtain ⟨h1, h2⟩ := List.pairwise_cons.1 hs
    have e : pos x (y :: l) = if cp y x < 0 then pos x l + 1 else 0 := rfl
    unfold hit
    rw [e]
    rcases List.mem_cons.1 h with rfl | h
    · rw [if_neg (cp_irrefl x)]
      simp [(cp_zero x x).2 ⟨rfl, rfl⟩]
    · rw [if_pos (h1 x h)]
      have ih := mem_hit h2 h
      unfold hit at ih
      simpa using ih
theorem ky_eq {x y : S42} (h : cp (ky y) (ky x) = 0) : ky y = ky x := by
  obtain ⟨e1, e0⟩ := (cp_zero _ _).1 h
  show kk y.f0 y.f1 = kk x.f0 x.f1
  exact congr (congrArg kk e0) e1
theorem insS_mem' {x : S42} : ∀ {l : List S42}, Srt (l.map ky) → ∀ z ∈ insS x l, z = x ∨ (z ∈ l ∧ ky z ≠ ky x)
  | [], _, z, h => .inl (List.mem_singleton.1 h)
  | y :: l, hs, z, h => by
    rw [List.map_cons] at hs
    obtain ⟨h1, h2⟩ := List.pairwise_cons.1 hs
    have far : ∀ w ∈ l, ∀ u : S87, (cp (ky y) u = 0 ∨ 0 < cp (ky y) u) → ky w ≠ u := fun w hw u hu he => by
      have := h1 _ (List.mem_map_of_mem hw)
      rw [he] at this
      omega
    unfold insS at h
    split at h
    · rename_i hy
      rcases List.mem_cons.1 h with rfl | h
      · exact .inr ⟨List.mem_cons_self .., fun he => cp_irrefl (ky x) (by rw [he] at hy; exact hy)⟩
      · exact (insS_mem' h2 z h).imp id (fun hh => ⟨List.mem_cons_of_mem _ hh.1, hh.2⟩)
    · rename_i hy
      split at h
      · rename_i h0
        rcases List.mem_cons.1 h with h | h
        · exact .inl h
        · exact .inr ⟨List.mem_cons_of_mem _ h, far z h _ (.inl h0)⟩
      · rename_i h0
        rcases List.mem_cons.1 h with h | h
        · exact .inl h
        · refine .inr ⟨h, ?_⟩
          rcases List.mem_cons.1 h with rfl | h
          · exact fun he => h0 ((cp_zero _ _).2 (by rw [he]; exact ⟨rfl, rfl⟩))
          · exact far z h _ (.inr (by omega))

/-! ### What came to a label -/
def sm (a b : Int) (K : Nat) (nm : ByteArray) (l : List S87) (p : S35) : List S87 := if p.f0 = nm then (match ins (en a b p.f1 p.f2) l with | some m => m.take (K + 1) | none => l) else l
def smp (a b : Int) (K : Nat) (nm : ByteArray) (ps : List S35) : List S87 := ps.foldl (sm a b K nm) []
theorem smp_step {a b : Int} {K : Nat} {nm : ByteArray} {ps : List S35} {i : Nat} (h : i < ps.length) : smp a b K nm (ps.take (i + 1)) = sm a b K nm (smp a b K nm (ps.take i)) ps[i] := by
  unfold smp
  rw [List.take_add_one, List.getElem?_eq_getElem h, List.foldl_append]
  rfl
theorem smp_nil {a b : Int} {K : Nat} {nm : ByteArray} : ∀ (ps : List S35) (l : List S87), (∀ p ∈ ps, p.f0 ≠ nm) → ps.foldl (sm a b K nm) l = l
  | [], _, _ => rfl
  | p :: ps, l, h => by
    rw [List.foldl_cons, show sm a b K nm l p = l from if_neg (h p (List.mem_cons_self ..))]
    exact smp_nil ps l (fun q hq => h q (List.mem_cons_of_mem _ hq))
def Vp (p : S35) : Prop := p.f0.size ≤ 64 ∧ p.f1.size ≤ 64 ∧ 0 < p.f2 ∧ p.f2 ≤ 18446744073709551615
theorem sm_rt {a b : Int} {K : Nat} {nm : ByteArray} {l : List S87} {p : S35} (h : Rt a b K l) (hr : Rl l) (hp : Vp p) : Rt a b K (sm a b K nm l p) ∧ Rl (sm a b K nm l p) := by
  unfold sm
  split
  · cases hi : ins (en a b p.f1 p.f2) l with
    | none => exact ⟨h, hr⟩
    | some m => exact rt_ins h hr (en_ge hp.2.1 hp.2.2.1) (en_rng (by have := hp.2.2.1; omega) hp.2.2.2) hi
  · exact ⟨h, hr⟩
theorem fold_rt {a b : Int} {K : Nat} {nm : ByteArray} : ∀ (ps : List S35) (l : List S87), (∀ p ∈ ps, Vp p) → Rt a b K l → Rl l → Rt a b K (ps.foldl (sm a b K nm) l) ∧ Rl (ps.foldl (sm a b K nm) l)
  | [], _, _, h, hr => ⟨h, hr⟩
  | p :: ps, l, hp, h, hr => by
    obtain ⟨h1, h2⟩ := sm_rt (nm := nm) h hr (hp p (List.mem_cons_self ..))
    rw [List.foldl_cons]
    exact fold_rt ps _ (fun q hq => hp q (List.mem_cons_of_mem _ hq)) h1 h2
theorem smp_rt {a b : Int} {K : Nat} (hK : 1 ≤ K ∧ K ≤ 1024) {nm : ByteArray} {ps : List S35} (hp : ∀ p ∈ ps, Vp p) : Rt a b K (smp a b K nm ps) ∧ Rl (smp a b K nm ps) :=
  fold_rt ps [] hp ⟨⟨by omega, by omega⟩, by simp only [List.length_nil]; omega, fun y hy => (by cases hy), List.Pairwise.nil⟩ (fun y hy => by cases hy)
theorem nx_self (x : ByteArray) (ns : List ByteArray) : x ∈ nx x ns := by
  unfold nx
  split
  · rename_i h; exact yes_iff.1 h
  · exact List.mem_append.2 (.inr (List.mem_singleton.2 rfl))
theorem nx_sub {x y : ByteArray} {ns : List ByteArray} (h : y ∈ ns) : y ∈ nx x ns := by
  unfold nx
  split
  · exact h
  · exact List.mem_append.2 (.inl h)
theorem apart_step {a b : Int} {n K : Nat} {ps : List S35} {i : Nat} (hi : i < ps.length) {ls : List S42} {ns : List ByteArray} (hs : St a b n K ls) (hr : Rs ls) (hI : Inv a b n ls ns) (hsp : ∀ x ∈ ls, x.f2.f2 = smp a b K x.f0 (ps.take i)) (hns : ∀ p ∈ ps.take i, p.f0 ∈ ns) (hv : Vp ps[i]) (k : Nat) (hk : 1200 ≤ k) :
    ∃ ls' e, strata_Add.f k a b (n : Int) (K : Int) ls ps[i].f0 ps[i].f1 ps[i].f2 = some (a, b, (n : Int), (K : Int), ls', e) ∧ St a b n K ls' ∧ Rs ls' ∧ Inv a b n ls' (nx ps[i].f0 ns) ∧ (∀ x ∈ ls', x.f2.f2 = smp a b K x.f0 (ps.take (i + 1))) ∧ (∀ p ∈ ps.take (i + 1), p.f0 ∈ nx ps[i].f0 ns) := by
  have hst : ∀ nm, smp a b K nm (ps.take (i + 1)) = sm a b K nm (smp a b K nm (ps.take i)) ps[i] := fun nm => smp_step hi
  have hnx : ∀ p ∈ ps.take (i + 1), p.f0 ∈ nx ps[i].f0 ns := fun p hp => by
    rcases (take_mem hi p).1 hp with h | h
    · exact nx_sub (hns p h)
    · rw [← h]; exact nx_self _ _
  revert hst hnx hv
  generalize ps[i] = p
  intro hv hst hnx
  obtain ⟨v1, v2, v3, v4⟩ := hv
  have hfnd : hit (kk p.f0 (H a b p.f0)) (ls.map ky) = true → fnd (kk p.f0 (H a b p.f0)) ls = smp a b K p.f0 (ps.take i) := fun hh => by
    obtain ⟨q1, q2, q3, q4⟩ := hit_at hh
    unfold fnd
    rw [if_pos hh, hsp _ q2, q3]
    rfl
  rw [sAdd_eq hs hr p.f0 p.f1 p.f2 v1 v2 v3 v4 k hk]
  cases hm : ins (en a b p.f1 p.f2) (fnd (kk p.f0 (H a b p.f0)) ls) with
  | none =>
    have hh : hit (kk p.f0 (H a b p.f0)) (ls.map ky) = true := by
      apply Classical.byContradiction
      intro hc
      unfold fnd at hm
      rw [if_neg hc] at hm
      cases hm
    obtain ⟨q1, q2, q3, q4⟩ := hit_at hh
    have hx : Pure.key a b p.f0 ∈ ls.map ky := List.mem_map.2 ⟨_, q2, congr (congrArg kk q3) q4⟩
    have hl := hs.2.2.1
    refine ⟨ls, 12, rfl, hs, hr, inv_step hI ?_, fun z hz => ?_, hnx⟩
    · rw [insK_same hs.2.2.2.2 hx, List.take_of_length_le (by rw [List.length_map]; omega)]
    · rw [hst]
      unfold sm
      by_cases he : p.f0 = z.f0
      · rw [if_pos he, ← he, ← hfnd hh, hm]
        simp only
        rw [hsp z hz, ← he, hfnd hh]
      · rw [if_neg he]
        exact hsp z hz
  | some m =>
    obtain ⟨g1, g2⟩ := lab_ok hs hr v1 v2 v3 v4 hm
    obtain ⟨g3, g4⟩ := st_put hs hr g1 g2
    have hmap : ((insS (lab a b K p.f0 (m.take (K + 1))) ls).take n).map ky = (insK (Pure.key a b p.f0) (ls.map ky)).take n := by rw [List.map_take, insS_map]; rfl
    refine ⟨_, 0, rfl, g3, g4, inv_step hI hmap, fun z hz => ?_, hnx⟩
    rw [hst]
    unfold sm
    rcases insS_mem' hs.2.2.2.2 z (List.mem_of_mem_take hz) with h1 | ⟨h1, h2⟩
    · have e0 : z.f0 = p.f0 := by rw [h1]; rfl
      have ez : z.f2.f2 = m.take (K + 1) := by rw [h1]; rfl
      rw [e0, if_pos rfl, ez]
      have es : smp a b K p.f0 (ps.take i) = fnd (kk p.f0 (H a b p.f0)) ls := by
        by_cases hh : hit (kk p.f0 (H a b p.f0)) (ls.map ky) = true
        · exact (hfnd hh).symm
        · have e1 : fnd (kk p.f0 (H a b p.f0)) ls = [] := by unfold fnd; rw [if_neg hh]
          rw [e1]
          refine smp_nil _ _ (fun q hq he => hh ?_)
          have hin : p.f0 ∈ ns := he ▸ hns q hq
          have hz2 : Pure.key a b p.f0 ∈ ((insS (lab a b K p.f0 (m.take (K + 1))) ls).take n).map ky := List.mem_map.2 ⟨z, hz, by rw [h1]; rfl⟩
          obtain ⟨ks, p1, p2, p3⟩ := hI
          rw [hmap, p3, insK_take, insK_same p1 (p2.mem_iff.2 (List.mem_map_of_mem hin)), ← p3] at hz2
          exact mem_hit hs.2.2.2.2 hz2
      rw [es, hm]
    · have hne : ¬ p.f0 = z.f0 := fun he => h2 (by
        have := (hs.2.2.2.1 z h1).2.1
        show kk z.f0 z.f1 = kk p.f0 (H a b p.f0)
        rw [this, he])
      rw [if_neg hne]
      exact hsp z h1

/-! ### The loops -/
theorem sGet_eq {a b L K : Int} {l : List S42} (h : St a b L K l) (n : ByteArray) (hs : n.size ≤ 64) (hh : hit (kk n (H a b n)) (l.map ky) = true) (k : Nat) (hk : 1200 ≤ k) :
    strata_Get.f k a b L K l n = some (a, b, K, fnd (kk n (H a b n)) l, 0) := by
  unfold strata_Get.f
  rw [sRight_eq a b L K l k hk, Option.bind_some, if_pos (yes_true h), sfind_eq h n hs k (by omega), Option.bind_some, hh]
  rfl
theorem l2_eq (a b : Int) (n K : Nat) (x2 : Int) (ps : List S35) (hps : ps.length ≤ 60) (hp : ∀ p ∈ ps, Vp p) (ls : List S42) (hst : St a b n K ls) (hsp : ∀ x ∈ ls, x.f2.f2 = smp a b K x.f0 ps) (x : S42) (hx : x ∈ ls) (x82 x83 : Int) (k : Nat) (hk : 20000 ≤ k) :
    ∀ m i, ps.length = i + m → samphirelaw21_StrataApart.l2 (k + m + 1) x2 ps ls x82 x83 ps (ps.length : Int) (i : Int) a b a b (n : Int) (K : Int) ls x.f0 x.f1 x.f2.f0.f0 x.f2.f0.f1 x.f2.f1 x.f2.f2 a b (K : Int) (smp a b K x.f0 (ps.take i)) = samphirelaw21_StrataApart.l1 k x2 ps ls x82 (wrap64 (x83 + 1)) a b a b (n : Int) (K : Int) ls
  | 0, i, hi => by
    have hl := hst.2.2.2.1 x hx
    have hK := hst.2.1
    have hxin : Pure.key a b x.f0 ∈ ls.map ky := List.mem_map.2 ⟨x, hx, by show kk x.f0 x.f1 = kk x.f0 _; rw [hl.2.1]⟩
    have hh : hit (kk x.f0 (H a b x.f0)) (ls.map ky) = true := mem_hit hst.2.2.2.2 hxin
    have hf : fnd (kk x.f0 (H a b x.f0)) ls = x.f2.f2 := by
      obtain ⟨q1, q2, q3, q4⟩ := hit_at (x := kk x.f0 (H a b x.f0)) hh
      unfold fnd
      rw [if_pos hh, hsp _ q2, hsp x hx, q3]
      rfl
    have hlen : x.f2.f2.length ≤ 9000 := by have := hl.2.2.1.2.1; have := hl.2.2.2.2.1; omega
    unfold samphirelaw21_StrataApart.l2
    rw [if_neg (by omega), List.take_of_length_le (by omega), ← hsp x hx, sGet_eq hst x.f0 hl.1 hh _ (by omega), Option.bind_some, hf]
    simp only
    rw [if_pos trivial, refs_eq _ (by omega) _ (by omega), Option.bind_some, Option.bind_some, rsame_eq _ _ (by rw [List.length_map]; exact hlen) _ (by omega), Option.bind_some, if_pos (yes_true rfl), Option.bind_some, Option.bind_some, rsame_eq _ _ (by rw [List.length_map]; exact hlen) _ (by omega), Option.bind_some, if_pos (yes_true rfl)]
  | m + 1, i, hi => by
    have hi' : i < ps.length := by omega
    have ih := l2_eq a b n K x2 ps hps hp ls hst hsp x hx x82 x83 k hk m (i + 1) (by omega)
    have hK := hst.2.1
    have hv := hp _ (List.getElem_mem hi')
    obtain ⟨r1, r2⟩ := smp_rt (a := a) (b := b) (K := K) (nm := x.f0) (by omega) (fun p hq => hp p (List.mem_of_mem_take hq)) (ps := ps.take i)
    rw [smp_step hi'] at ih
    unfold samphirelaw21_StrataApart.l2
    rw [if_pos (by omega), if_pos (by omega), if_pos (by omega), P_rd ps i hi', inc (show i < 60 by omega) (by omega)]
    by_cases he : ps[i].f0 = x.f0
    · rw [if_pos ((list_iff _ _).2 he), Add_eq a b K _ r1 r2 ps[i].f1 ps[i].f2 hv.2.1 hv.2.2.1 hv.2.2.2 _ (by omega), Option.bind_some]
      unfold sm at ih
      rw [if_pos he] at ih
      cases hin : ins (en a b ps[i].f1 ps[i].f2) (smp a b K x.f0 (ps.take i)) with
      | none => rw [hin] at ih; exact ih
      | some q => rw [hin] at ih; exact ih
    · rw [if_neg (fun h => he ((list_iff _ _).1 h))]
      unfold sm at ih
      rw [if_neg he] at ih
      exact ih
theorem bNew_eq (a b : Int) (K : Int) (h : 1 ≤ K ∧ K ≤ 1024) : bottom_New.f a b K = some (a, b, K, [], 0) := by
  unfold bottom_New.f
  rw [if_neg (by omega), if_neg (by omega)]
theorem l1_eq (a b : Int) (n K : Nat) (x2 : Int) (hx2 : wrap64 (1 + wrap64 (Int.tmod x2 8)) = (K : Int)) (ps : List S35) (hps : ps.length ≤ 60) (hp : ∀ p ∈ ps, Vp p) (ls : List S42) (hst : St a b n K ls) (hsp : ∀ x ∈ ls, x.f2.f2 = smp a b K x.f0 ps) :
    ∀ m k i, ls.length = i + m → m * 100 + 20100 ≤ k → samphirelaw21_StrataApart.l1 k x2 ps ls (ls.length : Int) (i : Int) a b a b (n : Int) (K : Int) ls = some true
  | 0, k, i, hi, hk => by
    obtain ⟨k, rfl⟩ : ∃ k', k = k' + 1 := ⟨k - 1, by omega⟩
    unfold samphirelaw21_StrataApart.l1
    rw [if_neg (by omega), awake_bind k (by omega)]
  | m + 1, k, i, hi, hk => by
    obtain ⟨k, rfl⟩ : ∃ k', k = k' + ps.length + 1 + 1 := ⟨k - ps.length - 2, by omega⟩
    have hi' : i < ls.length := by omega
    have hL := hst.2.2.1
    have hL2 := hst.1.2
    unfold samphirelaw21_StrataApart.l1
    rw [if_pos (by omega), if_pos (by omega), if_pos (by omega), GL_rd, GL_get hi', hx2, bNew_eq a b K hst.2.1, Option.bind_some]
    have := l2_eq a b n K x2 ps hps hp ls hst hsp ls[i] (List.getElem_mem hi') (ls.length : Int) (i : Int) k (by omega) ps.length 0 (by omega)
    refine Eq.trans this ?_
    rw [inc (show i < 64 by omega) (by omega)]
    exact l1_eq a b n K x2 hx2 ps hps hp ls hst hsp m k (i + 1) (by omega) (by omega)
theorem l0_eq (a b : Int) (n K : Nat) (x2 : Int) (hx2 : wrap64 (1 + wrap64 (Int.tmod x2 8)) = (K : Int)) (ps : List S35) (hps : ps.length ≤ 60) (hq : ∀ y ∈ ps, 0 ≤ y.f2 ∧ y.f2 ≤ 18446744073709551615) :
    ∀ m k i ns ls, ps.length = i + m → m * 10 + 30000 ≤ k → (∀ p ∈ ps.take i, Vp p) → (∀ p ∈ ps.take i, p.f0 ∈ ns) → Inv a b n ls ns → St a b n K ls → Rs ls → (∀ x ∈ ls, x.f2.f2 = smp a b K x.f0 (ps.take i)) → samphirelaw21_StrataApart.l0 k x2 ps ps (ps.length : Int) (i : Int) a b a b (n : Int) (K : Int) ls = some true
  | 0, k, i, ns, ls, hi, hk, hv, hns, h, hst, hr, hsp => by
    obtain ⟨k, rfl⟩ : ∃ k', k = k' + 1 := ⟨k - 1, by omega⟩
    have hll := hst.2.2.1
    have hL := hst.1.2
    rw [List.take_of_length_le (by omega)] at hv hsp
    unfold samphirelaw21_StrataApart.l0
    rw [if_neg (by omega)]
    exact l1_eq a b n K x2 hx2 ps hps hv ls hst hsp ls.length k 0 (by omega) (by omega)
  | m + 1, k, i, ns, ls, hi, hk, hv, hns, h, hst, hr, hsp => by
    obtain ⟨k, rfl⟩ : ∃ k', k = k' + 1 + 1 := ⟨k - 2, by omega⟩
    have hi' : i < ps.length := by omega
    have hc := hq _ (List.getElem_mem hi')
    have aw : ∀ d, d = true → samphirelaw21_StrataApart.j2 (k + 1) x2 ps ps (ps.length : Int) (i : Int) d a b a b (n : Int) (K : Int) ls ps[i].f0 ps[i].f1 ps[i].f2 ps[i].f3 = some true := fun d hd => by
      unfold samphirelaw21_StrataApart.j2
      rw [if_pos hd, awake_bind _ (by omega)]
    unfold samphirelaw21_StrataApart.l0
    rw [if_pos (by omega), if_pos (by omega), if_pos (by omega), P_rd ps i hi']
    by_cases h1 : (ps[i].f0.size : Int) > 64
    · rw [if_pos h1]; exact aw true rfl
    · rw [if_neg h1]
      by_cases h2 : (ps[i].f1.size : Int) > 64
      · rw [if_pos h2]; exact aw true rfl
      · rw [if_neg h2]
        by_cases h3 : ps[i].f2 = 0
        · exact aw _ (by rw [h3]; rfl)
        · rw [show (ps[i].f2 == 0) = false from beq_eq_false_iff_ne.2 h3]
          unfold samphirelaw21_StrataApart.j2
          have hvi : Vp ps[i] := ⟨by omega, by omega, by omega, hc.2⟩
          obtain ⟨l', e, he, g1, g2, g3, g4, g5⟩ := apart_step hi' hst hr h hsp hns hvi k (by omega)
          rw [if_neg (by decide), he, Option.bind_some]
          simp only
          rw [inc (show i < 60 by omega) (by omega)]
          exact l0_eq a b n K x2 hx2 ps hps hq m k (i + 1) _ l' (by omega) (by omega) (fun p hp => by rcases (take_mem hi' p).1 hp with h4 | h4; exact hv p h4; exact h4 ▸ hvi) g5 g3 g1 g2 g4
theorem StrataApart : samphirelaw21_StrataApart.Pure := by
  intro x l k0 ps hx hl hk0 hps
  obtain ⟨a, b⟩ := x
  have hq : ∀ y ∈ ps, 0 ≤ y.f2 ∧ y.f2 ≤ 18446744073709551615 := fun y hy => (hps.2 y hy).2.2.1
  have small : ∀ z : Int, 0 ≤ z → ∃ n : Nat, wrap64 (1 + wrap64 (Int.tmod z 8)) = (n : Int) ∧ 1 ≤ n ∧ n ≤ 8 := fun z hz => by
    rw [Int.tmod_eq_emod_of_nonneg hz]
    have h1 : wrap64 (z % 8) = z % 8 := w64 (by omega) (by omega)
    rw [h1, w64 (by omega) (by omega)]
    exact ⟨(1 + z % 8).toNat, by omega, by omega, by omega⟩
  obtain ⟨k, hk⟩ : ∃ k, k = 31999 := ⟨_, rfl⟩
  refine ⟨k + 1, ?_⟩
  unfold samphirelaw21_StrataApart.f
  obtain ⟨n, hn, hn1, hn2⟩ := small l hl.1
  obtain ⟨K, hK, hK1, hK2⟩ := small k0 hk0.1
  rw [hn, hK, sNew_eq a b n K ⟨⟨by omega, by omega⟩, by omega, by omega⟩, Option.bind_some, if_pos rfl]
  simp only
  rw [samphirelaw21_StrataApart.j0]
  by_cases h : (ps.length : Int) > 60
  · rw [if_pos (decide_eq_true h), if_pos rfl, awake_bind _ (by omega)]
  · rw [if_neg (by rw [decide_eq_false h]; decide)]
    exact l0_eq a b n K k0 hK ps (by omega) hq ps.length k 0 [] [] (by omega) (by omega) (fun y hy => by simp at hy) (fun y hy => by simp at hy) ⟨[], List.Pairwise.nil, List.Perm.refl _, by simp⟩
      ⟨⟨by omega, by omega⟩, ⟨by omega, by omega⟩, by simp, fun y hy => (by cases hy), List.Pairwise.nil⟩ (fun y hy => by cases hy) (fun y hy => by cases hy)
end Go.Proofs.Ytpbiobbddgipkaa.Pure
