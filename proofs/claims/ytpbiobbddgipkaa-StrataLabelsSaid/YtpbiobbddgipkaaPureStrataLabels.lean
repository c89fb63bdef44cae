/- The law StrataLabels, in plain Lean: the labels that are there are those of least hash of all that came. -/
import Derived.Test.YtpbiobbddgipkaaHx21
import Derived.Test.YtpbiobbddgipkaaHqStrataLabels
import Derived.Test.YtpbiobbddgipkaaSt2
import Derived.Test.YtpbiobbddgipkaaSipRef
set_option linter.unusedVariables false
set_option linter.unusedSimpArgs false
namespace Go.Proofs.Ytpbiobbddgipkaa.Pure
open Go.RowKit Go.Proofs.Ytpbiobbddgipkaa.H Go.Proofs.YtpbiobbddgipkaaW.PrintWords Go.Proofs.YtpbiobbddgipkaaW.PrintMore Go.Proofs.Ytpbiobbddgipkaa.Bo

/-! ### Names and their places -/
def key (a b : Int) (x : ByteArray) : S87 := kk x (H a b x)
theorem key_inj {a b : Int} {x y : ByteArray} (h : key a b x = key a b y) : x = y := by
  unfold key kk at h
  simp only [S87.mk.injEq] at h
  exact h.1
theorem key_cp {a b : Int} {x y : ByteArray} : cp (key a b y) (key a b x) = 0 ↔ y = x := by
  rw [cp_zero]
  exact ⟨fun h => h.2, fun h => by rw [h]; exact ⟨rfl, rfl⟩⟩
theorem insK_perm {x : S87} : ∀ {l : List S87}, (∀ y ∈ l, cp y x ≠ 0) → (insK x l).Perm (x :: l)
  | [], _ => List.Perm.refl _
  | y :: l, h => by
    unfold insK
    split
    · exact ((insK_perm (fun z hz => h z (List.mem_cons_of_mem _ hz))).cons y).trans (List.Perm.swap x y l)
    · rw [if_neg (h y (List.mem_cons_self ..))]
theorem insK_same {x : S87} : ∀ {l : List S87}, Srt l → x ∈ l → insK x l = l
  | [], _, h => by cases h
  | y :: l, hs, h => by
    obtain ⟨h1, h2⟩ := List.pairwise_cons.1 hs
    unfold insK
    rcases List.mem_cons.1 h with rfl | h
    · rw [if_neg (cp_irrefl x), if_pos ((cp_zero x x).2 ⟨rfl, rfl⟩)]
    · rw [if_pos (h1 x h), insK_same h2 h]
theorem pos_take {x : S87} : ∀ {l : List S87}, Srt l → x ∈ l → ∀ n, x ∈ l.take n ↔ pos x l < n
  | [], _, h, _ => by cases h
  | y :: l, hs, h, 0 => by simp
  | y :: l, hs, h, n + 1 => by
    obtain ⟨h1, h2⟩ := List.pairwise_cons.1 hs
    rw [List.take_succ_cons]
    unfold pos
    rcases List.mem_cons.1 h with rfl | h
    · rw [if_neg (cp_irrefl x)]
      exact ⟨fun _ => Nat.succ_pos n, fun _ => List.mem_cons_self ..⟩
    · have hy := h1 x h
      have ih := pos_take h2 h n
      rw [if_pos hy, List.mem_cons, ih]
      constructor
      · rintro (rfl | h3)
        · exact absurd hy (cp_irrefl x)
        · omega
      · intro h3; exact .inr (by omega)
theorem pos_count {x : S87} : ∀ {l : List S87}, Srt l → l.countP (fun y => decide (cp y x < 0)) = pos x l
  | [], _ => rfl
  | y :: l, hs => by
    obtain ⟨h1, h2⟩ := List.pairwise_cons.1 hs
    rw [List.countP_cons, pos_count h2, show pos x (y :: l) = if cp y x < 0 then pos x l + 1 else 0 from rfl]
    by_cases hy : cp y x < 0
    · rw [if_pos hy, if_pos (decide_eq_true hy)]
    · rw [if_neg hy, if_neg (by rw [decide_eq_false hy]; decide)]
      have hg := srt_ge hs hy
      rw [← pos_count h2]
      exact List.countP_eq_zero.2 (fun z hz => by rw [decide_eq_true_eq]; exact hg z hz)
def Inv (a b : Int) (n : Nat) (ls : List S42) (ns : List ByteArray) : Prop := ∃ ks, Srt ks ∧ ks.Perm (ns.map (key a b)) ∧ ls.map ky = ks.take n
noncomputable def nx (x : ByteArray) (ns : List ByteArray) : List ByteArray := if yes (x ∈ ns) = true then ns else ns ++ [x]
theorem inv_step {a b : Int} {n : Nat} {ls ls' : List S42} {ns : List ByteArray} {x : ByteArray} (h : Inv a b n ls ns) (h' : ls'.map ky = (insK (key a b x) (ls.map ky)).take n) : Inv a b n ls' (nx x ns) := by
  obtain ⟨ks, h1, h2, h3⟩ := h
  rw [h3, insK_take] at h'
  refine ⟨insK (key a b x) ks, insK_srt h1, ?_, h'⟩
  unfold nx
  by_cases hx : x ∈ ns
  · rw [if_pos (yes_true hx), insK_same h1 (h2.mem_iff.2 (List.mem_map_of_mem hx))]
    exact h2
  · rw [if_neg (by rw [yes_false hx]; decide), List.map_append]
    refine (insK_perm fun y hy => ?_).trans ?_
    · obtain ⟨z, hz, rfl⟩ := List.mem_map.1 (h2.mem_iff.1 hy)
      rw [ne_eq, key_cp]
      rintro rfl
      exact hx hz
    · exact (h2.cons _).trans (List.perm_append_comm (l₁ := [key a b x]))
theorem inv_len {a b : Int} {n : Nat} {ls : List S42} {ns : List ByteArray} (h : Inv a b n ls ns) : ls.length = min n ns.length := by
  obtain ⟨ks, h1, h2, h3⟩ := h
  have e1 : (ls.map ky).length = ls.length := List.length_map ..
  have e2 := h2.length_eq
  rw [List.length_map] at e2
  rw [h3, List.length_take] at e1
  omega
noncomputable def cnt (a b : Int) (x : ByteArray) (ns : List ByteArray) : Nat := ns.countP (fun y => decide (cp (key a b y) (key a b x) < 0))
theorem inv_in {a b K : Int} {n : Nat} {ls : List S42} {ns : List ByteArray} (h : Inv a b n ls ns) (hl : ∀ y ∈ ls, Lb a b K y) {x : ByteArray} (hx : x ∈ ns) : (∃ y ∈ ls, y.f0 = x) ↔ cnt a b x ns < n := by
  obtain ⟨ks, h1, h2, h3⟩ := h
  have e : cnt a b x ns = pos (key a b x) ks := by
    rw [← pos_count h1, h2.countP_eq, List.countP_map]
    rfl
  rw [e, ← pos_take h1 (h2.mem_iff.2 (List.mem_map_of_mem hx)), ← h3, List.mem_map]
  constructor
  · rintro ⟨y, hy, rfl⟩
    refine ⟨y, hy, ?_⟩
    show kk y.f0 y.f1 = kk y.f0 _
    rw [(hl y hy).2.1]
  · rintro ⟨y, hy, he⟩
    unfold ky key kk at he
    simp only [S87.mk.injEq] at he
    exact ⟨y, hy, he.1⟩

/-! ### The loops -/
theorem RB {l : List ByteArray} {i : Nat} (h : i < l.length) : rdOf ByteArray.empty l (i : Int) = l[i] := by
  show l.getD (i : Int).toNat _ = _
  rw [Int.toNat_natCast, List.getD_eq_getElem?_getD, List.getElem?_eq_getElem h]
  rfl
theorem beq_yes (x y : ByteArray) : (x.toList == y.toList) = yes (x = y) := by
  rw [Bool.eq_iff_iff, beq_iff_eq, list_iff, yes_iff]
theorem yes_or_left {P Q : Prop} (h : yes P = true) : true = yes (P ∨ Q) := (yes_true (.inl (yes_iff.1 h))).symm
theorem yes_or_right {P Q : Prop} (h : ¬ yes P = true) : yes Q = yes (P ∨ Q) := yes_congr ⟨.inr, fun hh => hh.resolve_left (fun hp => h (yes_true hp))⟩
theorem take_mem {α : Type} {l : List α} {i : Nat} (h : i < l.length) (x : α) : x ∈ l.take (i + 1) ↔ x ∈ l.take i ∨ l[i] = x := by
  rw [List.take_add_one, List.getElem?_eq_getElem h, List.mem_append]
  simp only [Option.toList_some, List.mem_singleton]
  exact ⟨fun hh => hh.imp id Eq.symm, fun hh => hh.imp id Eq.symm⟩
theorem take_ex {α : Type} {l : List α} {i : Nat} (h : i < l.length) (P : α → Prop) : (∃ x ∈ l.take (i + 1), P x) ↔ (∃ x ∈ l.take i, P x) ∨ P l[i] := by
  constructor
  · rintro ⟨x, hx, hp⟩
    rcases (take_mem h x).1 hx with h1 | rfl
    · exact .inl ⟨x, h1, hp⟩
    · exact .inr hp
  · rintro (⟨x, hx, hp⟩ | hp)
    · exact ⟨x, (take_mem h x).2 (.inl hx), hp⟩
    · exact ⟨_, (take_mem h _).2 (.inr rfl), hp⟩
theorem l1_eq (n : Int) (ns : List ByteArray) (hn : ns.length ≤ 60) (ps : List S35) (x49 x50 A B a b L K : Int) (ls : List S42) (x key : ByteArray) (c : Int) (q : Int) :
    ∀ m k d i, ns.length = i + m → d = yes (x ∈ ns.take i) → samphirelaw21_StrataLabels.l1 (k + m + 1) n ns d ps x49 x50 ns (ns.length : Int) (i : Int) A B a b L K ls x key c q = samphirelaw21_StrataLabels.l0 k n (nx x ns) ps x49 (wrap64 (x50 + 1)) A B a b L K ls
  | 0, k, d, i, hi, hd => by
    unfold samphirelaw21_StrataLabels.l1
    rw [if_neg (by omega), hd, List.take_of_length_le (by omega)]
    unfold nx
    by_cases h : yes (x ∈ ns) = true
    · rw [if_pos h, if_pos h]
    · rw [if_neg h, if_neg h, if_pos (by omega)]
  | m + 1, k, d, i, hi, hd => by
    have hi' : i < ns.length := by omega
    unfold samphirelaw21_StrataLabels.l1
    rw [if_pos (by omega), if_pos (by omega), if_pos (by omega), RB hi', inc (show i < 60 by omega) (by omega), beq_yes]
    have e : yes (x ∈ ns.take (i + 1)) = yes (x ∈ ns.take i ∨ ns[i] = x) := yes_congr (take_mem hi' x)
    by_cases h : d = true
    · rw [if_pos h]
      exact l1_eq n ns hn ps x49 x50 A B a b L K ls x key c q m k true (i + 1) (by omega) (by rw [e]; exact yes_or_left (hd ▸ h))
    · rw [if_neg h]
      exact l1_eq n ns hn ps x49 x50 A B a b L K ls x key c q m k _ (i + 1) (by omega) (by rw [e]; exact yes_or_right (hd ▸ h))
theorem l3_eq (n : Int) (ns : List ByteArray) (x : ByteArray) (u : Int) (ns2 : List ByteArray) (x112 x113 A B a b L K : Int) (ls : List S42) (hn : ls.length ≤ 64) :
    ∀ m k d i, ls.length = i + m → d = yes (∃ y ∈ ls.take i, y.f0 = x) → samphirelaw21_StrataLabels.l3 (k + m + 1) n ns x d 0 u ns2 x112 x113 ls (ls.length : Int) (i : Int) A B a b L K ls = samphirelaw21_StrataLabels.l4 k n ns x (yes (∃ y ∈ ls, y.f0 = x)) 0 u ns2 x112 x113 ns (ns.length : Int) 0 A B a b L K ls
  | 0, k, d, i, hi, hd => by
    unfold samphirelaw21_StrataLabels.l3
    rw [if_neg (by omega), hd, List.take_of_length_le (by omega)]
  | m + 1, k, d, i, hi, hd => by
    have hi' : i < ls.length := by omega
    unfold samphirelaw21_StrataLabels.l3
    rw [if_pos (by omega), if_pos (by omega), if_pos (by omega), GL_rd, GL_get hi', inc (show i < 64 by omega) (by omega), beq_yes]
    have e : yes (∃ y ∈ ls.take (i + 1), y.f0 = x) = yes ((∃ y ∈ ls.take i, y.f0 = x) ∨ ls[i].f0 = x) := yes_congr (take_ex hi' _)
    by_cases h : d = true
    · rw [if_pos h]
      exact l3_eq n ns x u ns2 x112 x113 A B a b L K ls hn m k true (i + 1) (by omega) (by rw [e]; exact yes_or_left (hd ▸ h))
    · rw [if_neg h]
      exact l3_eq n ns x u ns2 x112 x113 A B a b L K ls hn m k _ (i + 1) (by omega) (by rw [e]; exact yes_or_right (hd ▸ h))
theorem less_cp (a b : Int) (x y : ByteArray) : cp (key a b y) (key a b x) = if H a b y < H a b x then -1 else if H a b y > H a b x then 1 else Lib.compareBytes y.data.toList x.data.toList := rfl
theorem l4_eq (n : Int) (ns : List ByteArray) (hn : ns.length ≤ 60) (hz : ∀ y ∈ ns, y.size ≤ 64) (x : ByteArray) (d : Bool) (ns2 : List ByteArray) (x112 x113 A B a b L K : Int) (ls : List S42) :
    ∀ m k i, ns.length = i + m → 120 ≤ k → samphirelaw21_StrataLabels.l4 (k + m + 1) n ns x d ((cnt A B x (ns.take i) : Nat) : Int) (H A B x) ns2 x112 x113 ns (ns.length : Int) (i : Int) A B a b L K ls = if (d != decide (((cnt A B x ns : Nat) : Int) < n)) = true then some false else samphirelaw21_StrataLabels.l2 k n ns ns2 x112 (wrap64 (x113 + 1)) A B a b L K ls
  | 0, k, i, hi, hk => by
    unfold samphirelaw21_StrataLabels.l4
    rw [if_neg (by omega), List.take_of_length_le (by omega)]
  | m + 1, k, i, hi, hk => by
    have hi' : i < ns.length := by omega
    have ih := l4_eq n ns hn hz x d ns2 x112 x113 A B a b L K ls m k (i + 1) (by omega) hk
    have hs := hz _ (List.getElem_mem hi')
    have hc : cnt A B x (ns.take i) ≤ 60 := Nat.le_trans List.countP_le_length (by rw [List.length_take]; omega)
    have e : cnt A B x (ns.take (i + 1)) = cnt A B x (ns.take i) + if cp (key A B ns[i]) (key A B x) < 0 then 1 else 0 := by
      unfold cnt
      rw [List.take_add_one, List.getElem?_eq_getElem hi', List.countP_append]
      simp only [Option.toList_some, List.countP_cons, List.countP_nil, decide_eq_true_eq, Nat.zero_add]
    unfold samphirelaw21_StrataLabels.l4
    rw [if_pos (by omega), if_pos (by omega), if_pos (by omega), RB hi', inc (show i < 60 by omega) (by omega), inc (show cnt A B x (ns.take i) < 61 by omega) (by omega)]
    rw [show k + (m + 1) = k + m + 1 by omega, Sip.ref_sum_eq A B ns[i] (by omega) _ (by omega), Option.bind_some]
    revert ih
    generalize (if (d != decide (((cnt A B x ns : Nat) : Int) < n)) = true then some false else samphirelaw21_StrataLabels.l2 k n ns ns2 x112 (wrap64 (x113 + 1)) A B a b L K ls) = R
    intro ih
    show (if H A B ns[i] < H A B x then _ else if H A B ns[i] = H A B x then _ else _) = R
    have one : cp (key A B ns[i]) (key A B x) < 0 → samphirelaw21_StrataLabels.l4 (k + m + 1) n ns x d ((cnt A B x (ns.take i) + 1 : Nat) : Int) (H A B x) ns2 x112 x113 ns (ns.length : Int) ((i + 1 : Nat) : Int) A B a b L K ls = R := fun h => by
      rw [e, if_pos h] at ih
      exact ih
    have nil : ¬ cp (key A B ns[i]) (key A B x) < 0 → samphirelaw21_StrataLabels.l4 (k + m + 1) n ns x d ((cnt A B x (ns.take i) : Nat) : Int) (H A B x) ns2 x112 x113 ns (ns.length : Int) ((i + 1 : Nat) : Int) A B a b L K ls = R := fun h => by
      rw [e, if_neg h] at ih
      exact ih
    by_cases h1 : H A B ns[i] < H A B x
    · rw [if_pos h1]
      exact one (by rw [less_cp, if_pos h1]; decide)
    · rw [if_neg h1]
      by_cases h2 : H A B ns[i] = H A B x
      · rw [if_pos h2, Lib.toList_data, Lib.toList_data, cb_less]
        have e2 : cp (key A B ns[i]) (key A B x) = Lib.compareBytes ns[i].data.toList x.data.toList := by rw [less_cp, if_neg h1, if_neg (by omega)]
        by_cases h3 : Lib.compareBytes ns[i].data.toList x.data.toList < 0
        · rw [decide_eq_true h3, if_pos rfl]
          exact one (by rw [e2]; exact h3)
        · rw [decide_eq_false h3, if_neg (by decide)]
          exact nil (by rw [e2]; exact h3)
      · rw [if_neg h2]
        exact nil (by rw [less_cp, if_neg h1, if_pos (by omega)]; decide)
theorem l2_eq (a b K : Int) (n : Nat) (ns : List ByteArray) (hn : ns.length ≤ 60) (hz : ∀ y ∈ ns, y.size ≤ 64) (ls : List S42) (h : Inv a b n ls ns) (hl : ∀ y ∈ ls, Lb a b K y) (hls : ls.length ≤ 64) (L : Int) :
    ∀ m k i, ns.length = i + m → m * 200 + 500 ≤ k → samphirelaw21_StrataLabels.l2 k (n : Int) ns ns (ns.length : Int) (i : Int) a b a b L K ls = some true
  | 0, k, i, hi, hk => by
    obtain ⟨k, rfl⟩ : ∃ k', k = k' + 1 := ⟨k - 1, by omega⟩
    unfold samphirelaw21_StrataLabels.l2
    rw [if_neg (by omega), awake_bind k (by omega)]
  | m + 1, k, i, hi, hk => by
    obtain ⟨k, rfl⟩ : ∃ k', k = k' + ns.length + 1 + ls.length + 1 + 1 := ⟨k - 1 - ls.length - 1 - ns.length - 1, by omega⟩
    have hi' : i < ns.length := by omega
    have hs := hz _ (List.getElem_mem hi')
    unfold samphirelaw21_StrataLabels.l2
    rw [if_pos (by omega), if_pos (by omega), if_pos (by omega), RB hi', Sip.ref_sum_eq a b ns[i] (by omega) _ (by omega), Option.bind_some]
    rw [show (0 : Int) = ((0 : Nat) : Int) from rfl]
    have e3 := l3_eq (n : Int) ns ns[i] (H a b ns[i]) ns (ns.length : Int) (i : Int) a b a b L K ls hls ls.length (k + ns.length + 1) false 0 (by omega) (by rw [yes_false]; rintro ⟨y, hy, _⟩; simp at hy)
    have e4 := l4_eq (n : Int) ns hn hz ns[i] (yes (∃ y ∈ ls, y.f0 = ns[i])) ns (ns.length : Int) (i : Int) a b a b L K ls ns.length k 0 (by omega) (by omega)
    refine e3.trans (e4.trans ?_)
    have hin := inv_in h hl (List.getElem_mem hi')
    have e5 : yes (∃ y ∈ ls, y.f0 = ns[i]) = decide (((cnt a b ns[i] ns : Nat) : Int) < (n : Int)) := by
      rw [Bool.eq_iff_iff, yes_iff, decide_eq_true_eq, hin]
      omega
    rw [e5, bne_self_eq_false, if_neg (by decide), inc (show i < 60 by omega) (by omega)]
    exact l2_eq a b K n ns hn hz ls h hl hls L m k (i + 1) (by omega) (by omega)
theorem nx_length (x : ByteArray) (ns : List ByteArray) : (nx x ns).length ≤ ns.length + 1 := by
  unfold nx
  split
  · omega
  · rw [List.length_append]; exact Nat.le_refl _
theorem nx_mem {x : ByteArray} {ns : List ByteArray} {y : ByteArray} (h : y ∈ nx x ns) : y ∈ ns ∨ y = x := by
  unfold nx at h
  split at h
  · exact .inl h
  · rcases List.mem_append.1 h with h | h
    · exact .inl h
    · exact .inr (List.mem_singleton.1 h)
theorem P_rd (l : List S35) (i : Nat) (h : i < l.length) : rd_T35 l (i : Int) = l[i] := by show l.getD (i : Int).toNat z35 = _; rw [Int.toNat_natCast, List.getD_eq_getElem?_getD, List.getElem?_eq_getElem h]; rfl
theorem add_inv {a b : Int} {L K : Nat} {l : List S42} (h : St a b L K l) (hr : Rs l) (n key : ByteArray) (c : Int) (hn : n.size ≤ 64) (hs : key.size ≤ 64) (h0 : 0 < c) (h1 : c ≤ 18446744073709551615) (k : Nat) (hk : 1200 ≤ k) :
    ∃ l' e, strata_Add.f k a b (L : Int) (K : Int) l n key c = some (a, b, (L : Int), (K : Int), l', e) ∧ St a b L K l' ∧ Rs l' ∧ l'.map ky = (insK (Pure.key a b n) (l.map ky)).take L := by
  rw [sAdd_eq h hr n key c hn hs h0 h1 k hk]
  cases hm : ins (en a b key c) (fnd (kk n (H a b n)) l) with
  | some m =>
    obtain ⟨g1, g2⟩ := lab_ok h hr hn hs h0 h1 hm
    obtain ⟨g3, g4⟩ := st_put h hr g1 g2
    exact ⟨_, _, rfl, g3, g4, by rw [List.map_take, insS_map]; rfl⟩
  | none =>
    refine ⟨l, _, rfl, h, hr, ?_⟩
    have hh : hit (kk n (H a b n)) (l.map ky) = true := by
      apply Classical.byContradiction
      intro hc
      unfold fnd at hm
      rw [if_neg hc] at hm
      cases hm
    obtain ⟨p1, p2, p3, p4⟩ := hit_at hh
    have hx : Pure.key a b n ∈ l.map ky := List.mem_map.2 ⟨_, p2, congr (congrArg kk p3) p4⟩
    have hl := h.2.2.1
    rw [insK_same h.2.2.2.2 hx, List.take_of_length_le (by rw [List.length_map]; omega)]
theorem l0_eq (a b : Int) (n K : Nat) (ps : List S35) (hp : ps.length ≤ 60) (hq : ∀ y ∈ ps, 0 ≤ y.f2 ∧ y.f2 ≤ 18446744073709551615) :
    ∀ m k i ns ls, ps.length = i + m → m * 70 + 20000 ≤ k → ns.length ≤ i → (∀ y ∈ ns, y.size ≤ 64) → Inv a b n ls ns → St a b n K ls → Rs ls → samphirelaw21_StrataLabels.l0 k (n : Int) ns ps (ps.length : Int) (i : Int) a b a b (n : Int) (K : Int) ls = some true
  | 0, k, i, ns, ls, hi, hk, hns, hz, h, hst, hr => by
    obtain ⟨k, rfl⟩ : ∃ k', k = k' + 1 := ⟨k - 1, by omega⟩
    have hl := inv_len h
    have hll := hst.2.2.1
    have hL := hst.1.2
    unfold samphirelaw21_StrataLabels.l0
    rw [if_neg (by omega)]
    have e : mn (n : Int) (ns.length : Int) = (ls.length : Int) := by unfold mn; split <;> omega
    rw [if_pos e.symm]
    exact l2_eq a b K n ns (by omega) hz ls h hst.2.2.2.1 (by omega) n ns.length k 0 (by omega) (by omega)
  | m + 1, k, i, ns, ls, hi, hk, hns, hz, h, hst, hr => by
    obtain ⟨k, rfl⟩ : ∃ k', k = k' + ns.length + 1 + 1 + 1 := ⟨k - ns.length - 3, by omega⟩
    have hi' : i < ps.length := by omega
    have hc := hq _ (List.getElem_mem hi')
    have aw : ∀ d, d = true → samphirelaw21_StrataLabels.j2 (k + ns.length + 1 + 1) (n : Int) ns ps (ps.length : Int) (i : Int) d a b a b (n : Int) (K : Int) ls ps[i].f0 ps[i].f1 ps[i].f2 ps[i].f3 = some true := fun d hd => by
      unfold samphirelaw21_StrataLabels.j2
      rw [if_pos hd, awake_bind _ (by omega)]
    unfold samphirelaw21_StrataLabels.l0
    rw [if_pos (by omega), if_pos (by omega), if_pos (by omega), P_rd ps i hi']
    by_cases h1 : (ps[i].f0.size : Int) > 64
    · rw [if_pos h1]; exact aw true rfl
    · rw [if_neg h1]
      by_cases h2 : (ps[i].f1.size : Int) > 64
      · rw [if_pos h2]; exact aw true rfl
      · rw [if_neg h2]
        by_cases h3 : ps[i].f2 = 0
        · exact aw _ (by rw [h3]; rfl)
        · rw [show (ps[i].f2 == 0) = false from beq_eq_false_iff_ne.2 h3]
          unfold samphirelaw21_StrataLabels.j2
          obtain ⟨l', e, he, g1, g2, g3⟩ := add_inv hst hr ps[i].f0 ps[i].f1 ps[i].f2 (by omega) (by omega) (by omega) hc.2 (k + ns.length + 1) (by omega)
          rw [if_neg (by decide), he, Option.bind_some]
          have := nx_length ps[i].f0 ns
          rw [show (0 : Int) = ((0 : Nat) : Int) from rfl]
          refine (l1_eq (n : Int) ns (by omega) ps (ps.length : Int) (i : Int) a b a b (n : Int) (K : Int) l' ps[i].f0 ps[i].f1 ps[i].f2 ps[i].f3 ns.length k false 0 (by omega) (by rw [yes_false]; simp)).trans ?_
          rw [inc (show i < 60 by omega) (by omega)]
          exact l0_eq a b n K ps hp hq m k (i + 1) (nx ps[i].f0 ns) l' (by omega) (by omega) (by omega) (fun y hy => by rcases nx_mem hy with h4 | h4; exact hz y h4; rw [h4]; omega) (inv_step h g3) g1 g2
theorem StrataLabels : samphirelaw21_StrataLabels.Pure := by
  intro x l ps hx hl hps
  obtain ⟨a, b⟩ := x
  have hq : ∀ y ∈ ps, 0 ≤ y.f2 ∧ y.f2 ≤ 18446744073709551615 := fun y hy => (hps.2 y hy).2.2.1
  have hl0 := hl.1
  obtain ⟨k, hk⟩ : ∃ k, k = 29999 := ⟨_, rfl⟩
  refine ⟨k + 1, ?_⟩
  unfold samphirelaw21_StrataLabels.f
  obtain ⟨n, hn, hn1, hn2⟩ : ∃ n : Nat, wrap64 (1 + wrap64 (Int.tmod l 8)) = (n : Int) ∧ 1 ≤ n ∧ n ≤ 8 := by
    rw [Int.tmod_eq_emod_of_nonneg hl0]
    have h1 : wrap64 (l % 8) = l % 8 := w64 (by omega) (by omega)
    rw [h1, w64 (by omega) (by omega)]
    exact ⟨(1 + l % 8).toNat, by omega, by omega, by omega⟩
  rw [hn, sNew_eq a b n 2 ⟨⟨by omega, by omega⟩, by omega, by omega⟩, Option.bind_some, if_pos rfl]
  simp only
  rw [samphirelaw21_StrataLabels.j0]
  by_cases h : (ps.length : Int) > 60
  · rw [if_pos (decide_eq_true h), if_pos rfl, awake_bind _ (by omega)]
  · rw [if_neg (by rw [decide_eq_false h]; decide)]
    exact l0_eq a b n 2 ps (by omega) hq ps.length _ 0 [] [] (by omega) (by omega) (Nat.le_refl _) (fun y hy => by cases hy) ⟨[], List.Pairwise.nil, List.Perm.refl _, by simp⟩
      ⟨⟨by omega, by omega⟩, ⟨by omega, by omega⟩, by simp, fun y hy => (by cases hy), List.Pairwise.nil⟩ (fun y hy => by cases hy)
end Go.Proofs.Ytpbiobbddgipkaa.Pure
