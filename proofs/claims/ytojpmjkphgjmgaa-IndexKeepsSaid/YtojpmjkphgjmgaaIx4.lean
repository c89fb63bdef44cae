import Derived.Test.YtojpmjkphgjmgaaIx3
set_option linter.unusedVariables false
set_option linter.unusedSimpArgs false
namespace Go.Proofs.Ytojpmjkphgjmgaa.Ix
open Go.RowKit Go.Proofs.Ytojpmjkphgjmgaa.H Go.Proofs.YtojpmjkphgjmgaaW.PrintWords Go.Proofs.YtojpmjkphgjmgaaW.PrintMore
structure Into (a b : Int) (l : List S60) (key : ByteArray) (l' : List S60) (q : Nat) : Prop where
 rt : Rt a b l'
 pos : Pos (hm a b l'.length key) l' key q
 room : us l' q ∨ 2 * (cnt l' + 1) ≤ l'.length
 how : l' = l ∨ (Half a b l l' l.length ∧ ¬ In l key ∧ l.length < 2 * (cnt l + 1) ∧ l.length ≠ 4096)
theorem rput_long (a b : Int) (l : List S46) (key : ByteArray) (hs : 64 < key.size) (v : Int) (k : Nat) : r12_Put.f k a b l key v = some (a, b, l, 5) := by
 unfold r12_Put.f
 rw [if_pos (by omega)]
theorem rput_arg (a b : Int) (l : List S46) (key : ByteArray) (hs : key.size ≤ 64) (v : Int) (hv : v < 0 ∨ 2147483647 < v) (k : Nat) (hk : 0 < k) : r12_Put.f k a b l key v = some (a, b, l, 1) := by
 obtain ⟨k, rfl⟩ : ∃ k', k = k' + 1 := ⟨k - 1, by omega⟩
 unfold r12_Put.f
 rw [if_neg (by omega)]
 by_cases h0 : v < 0
 ·rw [if_pos h0, r12_Put.j0, if_pos rfl]
 ·rw [if_neg h0, decide_eq_true (by omega), r12_Put.j0, if_pos rfl]
theorem rput_j0 (a b : Int) (l : List S46) (key : ByteArray) (v : Int) (hm' : May key v) (k : Nat) : r12_Put.f k a b l key v = r12_Put.j0 k key v false a b l := by
 obtain ⟨m1, m2, m3⟩ := hm'
 unfold r12_Put.f
 rw [if_neg (by omega), if_neg (by omega), decide_eq_false (by omega)]
theorem rput_there {a b : Int} {l : List S60} {key : ByteArray} {q : Nat} (h : Rt a b l) (hp : Pos (hm a b l.length key) l key q) (hu : us l q) (v : Int) (hm' : May key v) (k : Nat) (hk : 20001 ≤ k) :
  r12_Put.f k a b (l.map cv) key v = some (a, b, (l.set q ⟨true, key, v⟩).map cv, 0) := by
 obtain ⟨k, rfl⟩ : ∃ k', k = k' + 1 := ⟨k - 1, by omega⟩
 have h1 := pw_le h.1
 rw [rput_j0 a b _ key v hm', r12_Put.j0, if_neg (by exact Bool.noConfusion)]
 rcases find_eq a b l key (by omega) k (by omega) with ⟨j, hj, hju, hjk, e⟩ | ⟨hno, e⟩
 ·have hjq := good_inj (by omega) h.2.2.2 hj hp.1 hju hu (hjk.trans (hp.2.2 hu).symm)
  subst hjq
  rw [e, Option.bind_some, if_pos (by omega), set_eq a b l j ⟨true, key, v⟩ hj (by omega), Option.bind_some]
 ·exact absurd ⟨hu, hp.2.2 hu⟩ (hno q hp.1)
theorem rput_not {a b : Int} {l : List S60} {key : ByteArray} (h : Rt a b l) (hno : ¬ In l key) (v : Int) (hm' : May key v) (k : Nat) (hk : 20000 ≤ k) :
  ∃ q, Free (hm a b l.length key) l q ∧ r12_Put.f (k + 1) a b (l.map cv) key v = if (wrap64 ((cnt l : Int) + 1)) > (wrap64 ((l.length : Int) / 2)) then (if (l.length : Int) = 4096 then some (a, b, l.map cv, 1) else r12_Put.l0 k 0 a b (l.map cv) true key v a b ((List.replicate (2 * l.length) z60).map cv)) else some (a, b, (l.set q ⟨true, key, v⟩).map cv, 0) := by
 have h1 := pw_le h.1
 obtain ⟨q, hq⟩ := rt_pos h key
 have hqu : ¬ us l q := fun hu => hno ((pos_in (by omega) h.2.2.2 hq).2 hu)
 refine ⟨q, free_of_pos hq hqu, ?_⟩
 rw [rput_j0 a b _ key v hm', r12_Put.j0, if_neg (by exact Bool.noConfusion)]
 rcases find_eq a b l key (by omega) k (by omega) with ⟨j, hj, hju, hjk, e⟩ | ⟨_, e⟩
 ·exact absurd ⟨j, hj, hju, hjk⟩ hno
 ·rw [e, Option.bind_some, if_neg (by decide), rmany_eq a b l (by omega) k (by omega), Option.bind_some, List.length_map]
  by_cases hc : wrap64 ((cnt l : Int) + 1) > wrap64 ((l.length : Int) / 2)
  ·rw [if_pos hc, if_pos hc]
   by_cases h4 : (l.length : Int) = 4096
   ·rw [if_pos h4, if_pos h4]
   ·rw [if_neg h4, if_neg h4, w64 (x := 2 * (l.length : Int)) (by omega) (by omega), if_pos (by omega), if_pos (by omega), List.map_replicate]
    have e2 : (2 * (l.length : Int)).toNat = 2 * l.length := by omega
    rw [e2]
    rfl
  ·rw [if_neg hc, if_neg hc]
   have := lay_eq a b l ⟨true, key, v⟩ q (by omega) (by omega) (by have := hm'.1; simp only; omega) (free_of_pos hq hqu) k (by omega)
   simp only at this
   rw [this, Option.bind_some]
theorem put_sum {a b : Int} {l : List S60} (h : Rt a b l) (key : ByteArray) (hs : key.size ≤ 100) (v : Int) :
  ∃ m e, (∀ k, 30000 ≤ k → index_Put.f k a b l key v = some (a, b, m, e)) ∧ (∀ k, 30000 ≤ k → r12_Put.f k a b (l.map cv) key v = some (a, b, m.map cv, e)) ∧
   ((e ≠ 0 ∧ m = l ∧ (¬ May key v ∨ (¬ In l key ∧ l.length < 2 * (cnt l + 1) ∧ l.length = 4096))) ∨ (e = 0 ∧ May key v ∧ ∃ l' q, Into a b l key l' q ∧ m = l'.set q ⟨true, key, v⟩)) := by
 have h1 := pw_le h.1
 have h2 := pw_even h.1
 have hc0 := cnt_le l
 by_cases hl : 64 < key.size
 ·exact ⟨l, 5, fun k hk => put_long h key hl v k (by omega), fun k hk => rput_long a b _ key hl v k, .inl ⟨by decide, rfl, .inl fun hm => by have := hm.1; omega⟩⟩
 by_cases hv : v < 0 ∨ 2147483647 < v
 ·exact ⟨l, 1, fun k hk => put_arg h key (by omega) v hv k (by omega), fun k hk => rput_arg a b _ key (by omega) v hv k (by omega), .inl ⟨by decide, rfl, .inl fun hm => by have := hm.2; omega⟩⟩
 have hm' : May key v := ⟨by omega, by omega, by omega⟩
 obtain ⟨q, hq⟩ := rt_pos h key
 by_cases hu : us l q
 ·exact ⟨_, 0, fun k hk => put_room h hq v hm' (.inl hu) k (by omega), fun k hk => rput_there h hq hu v hm' k (by omega), .inr ⟨rfl, hm', l, q, ⟨h, hq, .inl hu, .inl rfl⟩, rfl⟩⟩
 have hno : ¬ In l key := fun hin => hu ((pos_in (by omega) h.2.2.2 hq).1 hin)
 have hfree := free_of_pos hq hu
 have w1 : wrap64 ((cnt l : Int) + 1) = (cnt l : Int) + 1 := w64 (by omega) (by omega)
 have w2 : wrap64 ((l.length : Int) / 2) = (l.length : Int) / 2 := w64 (by omega) (by omega)
 by_cases hc : 2 * (cnt l + 1) ≤ l.length
 ·refine ⟨_, 0, fun k hk => put_room h hq v hm' (.inr hc) k (by omega), fun k hk => ?_, .inr ⟨rfl, hm', l, q, ⟨h, hq, .inr hc, .inl rfl⟩, rfl⟩⟩
  obtain ⟨k, rfl⟩ : ∃ k', k = k' + 1 := ⟨k - 1, by omega⟩
  obtain ⟨q', hf, hr⟩ := rput_not h hno v hm' k (by omega)
  ·rw [hr, w1, w2, if_neg (by omega)]
   have e : q' = q := by
    have hH := hm_lt (a := a) (b := b) (n := l.length) (by omega) key
    rcases Nat.lt_trichotomy (ds l.length (hm a b l.length key) q') (ds l.length (hm a b l.length key) q) with e | e | e
    ·exact absurd (hfree.2.1 q' hf.1 e) hf.2.2
    ·exact ds_inj hH hf.1 hq.1 e
    ·exact absurd (hf.2.1 q hq.1 e) hu
   rw [e]
 by_cases h4 : l.length = 4096
 ·refine ⟨l, 1, fun k hk => ?_, fun k hk => ?_, .inl ⟨by decide, rfl, .inr ⟨hno, by omega, h4⟩⟩⟩
  ·obtain ⟨k, rfl⟩ : ∃ k', k = k' + 1 := ⟨k - 1, by omega⟩
   unfold index_Put.f
   rw [right_eq a b l (k + 1) (by omega), Option.bind_some, if_pos (yes_true h), if_neg (by omega), if_neg (by omega), if_neg (by omega), walk_eq a b l key q (by omega) (by omega) (by omega) hq (k + 1) (by omega), Option.bind_some, if_neg hu, many_eq a b l (by omega) (k + 1) (by omega), Option.bind_some, w1, w64 (by omega) (by omega), decide_eq_true (by omega), index_Put.j0, if_pos rfl, if_pos (by omega)]
  ·obtain ⟨k, rfl⟩ : ∃ k', k = k' + 1 := ⟨k - 1, by omega⟩
   obtain ⟨q', hf, hr⟩ := rput_not h hno v hm' k (by omega)
   ·rw [hr, w1, w2, if_pos (by omega), if_pos (by omega)]
 obtain ⟨g, hg, hg1, hg2⟩ := grown_l0 a b l h l.length 0 (List.replicate (2 * l.length) z60) (l.length + 10400) (by omega) (half_zero a b l) (by omega)
 have hgr := half_rt h h4 hg
 have hgn : ¬ In g key := fun hin => hno ((half_in hg key).1 hin)
 obtain ⟨q', hq'⟩ := rt_pos hgr key
 have hqu' : ¬ us g q' := fun hin => hgn ((pos_in (by have := hg.len; omega) hgr.2.2.2 hq').2 hin)
 have hglen := hg.len
 have hgm := hg.many
 rw [List.take_of_length_le (Nat.le_refl _)] at hgm
 have hle := h.2.1
 have hq1 := hq'.1
 refine ⟨g.set q' ⟨true, key, v⟩, 0, fun k hk => ?_, fun k hk => ?_, .inr ⟨rfl, hm', g, q', ⟨hgr, hq', .inr (by omega), .inr ⟨hg, hno, by omega, h4⟩⟩, rfl⟩⟩
 ·obtain ⟨k, rfl⟩ : ∃ k', k = k' + 1 := ⟨k - 1, by omega⟩
  have e0 : index_grown.f k a b l = some (a, b, g) := by
   obtain ⟨d, rfl⟩ : ∃ d, k = l.length + 10400 + d := ⟨k - (l.length + 10400), by omega⟩
   have e1 : index_grown.f (l.length + 10400) a b l = some (a, b, g) := by
    unfold index_grown.f
    rw [w64 (x := 2 * (l.length : Int)) (by omega) (by omega), if_pos (by omega), if_pos (by omega)]
    have e2 : (2 * (l.length : Int)).toNat = 2 * l.length := by omega
    rw [e2]
    exact hg1
   have : ∀ d, index_grown.f (l.length + 10400 + d) a b l = some (a, b, g) := by
    intro d
    induction d with
    | zero => exact e1
    | succ d ih => exact index_grown.mono _ _ _ (l.length + 10400 + d) _ ih
   exact this d
  unfold index_Put.f
  rw [right_eq a b l (k + 1) (by omega), Option.bind_some, if_pos (yes_true h), if_neg (by omega), if_neg (by omega), if_neg (by omega), walk_eq a b l key q (by omega) (by omega) (by omega) hq (k + 1) (by omega), Option.bind_some, if_neg hu, many_eq a b l (by omega) (k + 1) (by omega), Option.bind_some, w1, w64 (by omega) (by omega), decide_eq_true (by omega), index_Put.j0, if_pos rfl, if_neg (by omega), e0, Option.bind_some, walk_eq a b g key q' (by omega) (by omega) (by omega) hq' k (by omega), Option.bind_some, clone_eq g (by omega), Option.bind_some, if_pos (by simp only; omega), if_pos (by simp only; omega), Int.toNat_natCast]
 ·obtain ⟨k, rfl⟩ : ∃ k', k = k' + 1 := ⟨k - 1, by omega⟩
  have e3 : r12_Put.l0 k 0 a b (l.map cv) true key v a b ((List.replicate (2 * l.length) z60).map cv) = some (a, b, (g.set q' ⟨true, key, v⟩).map cv, 0) := by
   obtain ⟨K', e4, e5⟩ := hg2 ⟨true, key, v⟩ k (by omega)
   simp only at e5
   have e6 : r12_Put.l0 k 0 a b (l.map cv) true key v a b ((List.replicate (2 * l.length) z60).map cv) = r12_Put.l0 K' (l.length : Int) a b (l.map cv) true key v a b (g.map cv) := e5
   rw [e6]
   obtain ⟨K', rfl⟩ : ∃ k', K' = k' + 1 := ⟨K' - 1, by omega⟩
   conv => lhs; unfold r12_Put.l0
   have := lay_eq a b g ⟨true, key, v⟩ q' (by omega) (by omega) (by simp only; omega) (free_of_pos hq' hqu') K' (by omega)
   simp only at this
   rw [List.length_map, if_neg (by omega), this, Option.bind_some]
  obtain ⟨q'', hf, hr⟩ := rput_not h hno v hm' k (by omega)
  ·rw [hr, w1, w2, if_pos (by omega), if_neg (by omega), e3]
end Go.Proofs.Ytojpmjkphgjmgaa.Ix
