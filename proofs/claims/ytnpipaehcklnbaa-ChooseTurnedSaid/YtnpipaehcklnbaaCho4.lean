/- Chapter 19 in plain Lean, part 4: what the document means; the fixed answer. -/
import Derived.Test.YtnpipaehcklnbaaCho3
import Derived.Test.YtnpipaehcklnbaaHx6
import Derived.Test.YtnpipaehcklnbaaHx8
import Derived.Test.YtnpipaehcklnbaaHx3
set_option linter.unusedVariables false
set_option linter.unusedSimpArgs false
namespace Go.Proofs.Ytnpipaehcklnbaa.Cho
open Go.RowKit Go.Proofs.Ytnpipaehcklnbaa.H Go.Proofs.YtnpipaehcklnbaaW.PrintWords Go.Proofs.YtnpipaehcklnbaaW.PrintMore

theorem all_l0 (r : List S46) (hs : SmallT r) : ∀ m k i, r.length = i + m → m + 30 < k → samphireref19_All.l0 k r (i : Int) = some (yes (r.length ≤ 8 ∧ ∀ t ∈ r.drop i, Sound (bk t)))
  | 0, k, i, hi, hk => by
    obtain ⟨k, rfl⟩ : ∃ k', k = k' + 1 := ⟨k - 1, by omega⟩
    rw [samphireref19_All.l0, if_neg (by omega), List.drop_of_length_le (by omega), yes_dec]
    congr 1
    exact yes_congr ⟨fun h => ⟨by omega, fun t ht => by cases ht⟩, fun h => by have := h.1; omega⟩
  | m + 1, k, i, hi, hk => by
    obtain ⟨k, rfl⟩ : ∃ k', k = k' + 1 := ⟨k - 1, by omega⟩
    have hlt : i < r.length := by omega
    have h20 := hs.2 _ (mem46 r i hlt)
    have hm := may_eq (bk (r.getD i z46)) (show (r.getD i z46).f3.length ≤ 1000 by omega) k (show (r.getD i z46).f3.length + 2 < k by omega)
    rw [samphireref19_All.l0, if_pos (by omega), if_pos (by omega), rd46]
    refine (congrArg (fun o => Option.bind o _) hm).trans ?_
    rw [Option.bind_some, inc hlt (by have := hs.1; omega), all_l0 r hs m k (i + 1) (by omega) (by omega), drop46 r i hlt]
    by_cases h : Sound (bk (r.getD i z46))
    · rw [if_pos (yes_true h)]
      congr 1
      exact yes_congr ⟨fun h' => ⟨h'.1, fun t ht => by
        rcases List.mem_cons.1 ht with rfl | ht
        · exact h
        · exact h'.2 t ht⟩, fun h' => ⟨h'.1, fun t ht => h'.2 t (List.mem_cons_of_mem _ ht)⟩⟩
    · rw [if_neg (by rw [yes_false h]; exact Bool.noConfusion), yes_false (fun h' => h (h'.2 _ List.mem_cons_self))]
theorem refall_eq (l : List S42) (hs : SmallT (l.map conv)) (k : Nat) (hk : 60 ≤ k) : samphireref19_All.f k (l.map conv) = some (yes (All l)) := by
  unfold samphireref19_All.f
  have h20 := hs.1
  rw [show (0 : Int) = ((0 : Nat) : Int) from rfl, all_l0 _ hs (l.map conv).length k 0 (by omega) (by omega), List.drop_zero, List.length_map]
  congr 1
  exact yes_congr ⟨fun h => ⟨h.1, fun t ht => h.2 (conv t) (List.mem_map_of_mem ht)⟩, fun h => ⟨h.1, fun t ht => by
    obtain ⟨u, hu, rfl⟩ := List.mem_map.1 ht
    exact h.2 u hu⟩⟩
theorem in_l0 (l : List ByteArray) (key : ByteArray) (hn : l.length ≤ 1000) : ∀ m k i, l.length = i + m → m < k → samphireref19_in.l0 k l key (i : Int) = some (yes (key ∈ l.drop i))
  | 0, k, i, hi, hk => by
    obtain ⟨k, rfl⟩ : ∃ k', k = k' + 1 := ⟨k - 1, by omega⟩
    rw [samphireref19_in.l0, if_neg (by omega), List.drop_of_length_le (by omega), yes_false (by simp)]
  | m + 1, k, i, hi, hk => by
    obtain ⟨k, rfl⟩ : ∃ k', k = k' + 1 := ⟨k - 1, by omega⟩
    have hlt : i < l.length := by omega
    rw [samphireref19_in.l0, if_pos (by omega), if_pos (by omega), rd_nat, inc hlt hn, in_l0 l key hn m k (i + 1) (by omega) (by omega), drop_at l i hlt]
    by_cases h : l.getD i E = key
    · rw [if_pos ((list_iff _ _).2 h), yes_true (by rw [← h]; exact List.mem_cons_self)]
    · rw [if_neg (fun h' => h ((list_iff _ _).1 h'))]
      congr 1
      refine yes_congr ⟨fun h' => List.mem_cons_of_mem _ h', fun h' => ?_⟩
      rcases List.mem_cons.1 h' with h' | h'
      · exact absurd h'.symm h
      · exact h'
theorem in_eq (l : List ByteArray) (key : ByteArray) (hn : l.length ≤ 1000) (k : Nat) (hk : l.length < k) : samphireref19_in.f k l key = some (yes (key ∈ l)) := by
  unfold samphireref19_in.f
  rw [show (0 : Int) = ((0 : Nat) : Int) from rfl, in_l0 l key hn l.length k 0 (by omega) hk, List.drop_zero]
theorem meant_j2 (r : List S46) (key : ByteArray) (i : Int) (b : Bool) (a : Int) (x y : ByteArray) (l : List ByteArray) (hn : l.length ≤ 1000) (k : Nat) (hk : l.length < k) :
    samphireref19_Meant.j2 (k + 1) r key i b a x y l = if (!b && yes ((a = 3 → key ∈ l) ∧ (a = 4 → key ∉ l))) = true then samphireref19_Meant.l0 k r key (wrap64 (i + 1)) else some false := by
  rw [samphireref19_Meant.j2]
  cases b with
  | true => rfl
  | false =>
    rw [if_neg (by exact Bool.noConfusion), in_eq l key hn k hk, Option.bind_some, Bool.not_false, Bool.true_and]
    by_cases h3 : a = 3
    · rw [if_pos h3]
      by_cases hm : key ∈ l
      · rw [if_pos (yes_true hm), if_neg (by omega), if_pos (yes_true ⟨fun _ => hm, fun h => by omega⟩)]
      · rw [if_neg (by rw [yes_false hm]; exact Bool.noConfusion), if_neg (by rw [yes_false (fun h => hm (h.1 h3))]; exact Bool.noConfusion)]
    · rw [if_neg h3]
      by_cases h4 : a = 4
      · rw [if_pos h4]
        by_cases hm : key ∈ l
        · rw [if_pos (yes_true hm), if_neg (by rw [yes_false (fun h => h.2 h4 hm)]; exact Bool.noConfusion)]
        · rw [if_neg (by rw [yes_false hm]; exact Bool.noConfusion), if_pos (yes_true ⟨fun h => absurd h h3, fun _ => hm⟩)]
      · rw [if_neg h4, if_pos (yes_true ⟨fun h => absurd h h3, fun h => absurd h h4⟩)]
theorem meant_j1 (r : List S46) (key : ByteArray) (i : Int) (b : Bool) (a : Int) (x y : ByteArray) (l : List ByteArray) (hn : l.length ≤ 1000) (k : Nat) (hk : l.length < k) :
    samphireref19_Meant.j1 (k + 2) r key i b a x y l = if (!b && yes ((a = 2 → ¬ Lt key x ∧ (y = E ∨ Lt key y)) ∧ (a = 3 → key ∈ l) ∧ (a = 4 → key ∉ l))) = true then samphireref19_Meant.l0 k r key (wrap64 (i + 1)) else some false := by
  rw [samphireref19_Meant.j1]
  cases b with
  | true => rfl
  | false =>
    rw [if_neg (by exact Bool.noConfusion), Bool.not_false, Bool.true_and]
    simp only [meant_j2 r key i _ a x y l hn k hk]
    by_cases h2 : a = 2
    · rw [if_pos h2]
      by_cases h3 : Lt key x
      · rw [if_pos ((less_iff _ _).2 h3), Bool.not_true, Bool.false_and, if_neg (by exact Bool.noConfusion), if_neg (by rw [yes_false (fun h => (h.1 h2).1 h3)]; exact Bool.noConfusion)]
      · rw [if_neg (fun h => h3 ((less_iff _ _).1 h))]
        by_cases h4 : y = E
        · rw [if_pos ((nil_iff _).2 h4), Bool.not_false, Bool.true_and, yes_true (show (a = 3 → key ∈ l) ∧ (a = 4 → key ∉ l) from ⟨fun h => by omega, fun h => by omega⟩), if_pos rfl, if_pos (yes_true ⟨fun _ => ⟨h3, .inl h4⟩, fun h => by omega, fun h => by omega⟩)]
        · rw [if_neg (fun h => h4 ((nil_iff _).1 h)), Bool.not_not]
          by_cases h5 : Lt key y
          · rw [(less_iff _ _).2 h5, Bool.true_and, yes_true (show (a = 3 → key ∈ l) ∧ (a = 4 → key ∉ l) from ⟨fun h => by omega, fun h => by omega⟩), if_pos rfl, if_pos (yes_true ⟨fun _ => ⟨h3, .inr h5⟩, fun h => by omega, fun h => by omega⟩)]
          · rw [Bool.eq_false_iff.2 (fun h => h5 ((less_iff _ _).1 h)), Bool.false_and, if_neg (by exact Bool.noConfusion), if_neg (by rw [yes_false (fun h => (h.1 h2).2.elim h4 h5)]; exact Bool.noConfusion)]
    · rw [if_neg h2, Bool.not_false, Bool.true_and]
      rw [yes_congr (show ((a = 3 → key ∈ l) ∧ (a = 4 → key ∉ l)) ↔ ((a = 2 → ¬ Lt key x ∧ (y = E ∨ Lt key y)) ∧ (a = 3 → key ∈ l) ∧ (a = 4 → key ∉ l)) from ⟨fun h => ⟨fun h' => absurd h' h2, h⟩, fun h => h.2⟩)]
def TakesI (t : S42) (key : ByteArray) : Prop := (t.f0 = 1 → Pre key t.f1) ∧ (t.f0 = 2 → ¬ Lt key t.f1 ∧ (t.f2 = E ∨ Lt key t.f2)) ∧ (t.f0 = 3 → key ∈ t.f3) ∧ (t.f0 = 4 → key ∉ t.f3)
theorem takes_iff (t : S42) (h : Sound t) (key : ByteArray) : TakesI t key ↔ Takes t key := by
  have hk : t.f0 = 1 ∨ t.f0 = 2 ∨ t.f0 = 3 ∨ t.f0 = 4 := by rcases h with h | h | h <;> have := h.1 <;> omega
  unfold TakesI Takes
  constructor
  · intro h'
    rcases hk with h | h | h | h
    · exact .inl ⟨h, h'.1 h⟩
    · exact .inr (.inl ⟨h, h'.2.1 h⟩)
    · exact .inr (.inr (.inl ⟨h, h'.2.2.1 h⟩))
    · exact .inr (.inr (.inr ⟨h, h'.2.2.2 h⟩))
  · rintro (⟨h0, h1⟩ | ⟨h0, h1⟩ | ⟨h0, h1⟩ | ⟨h0, h1⟩)
    · exact ⟨fun _ => h1, fun h => by omega, fun h => by omega, fun h => by omega⟩
    · exact ⟨fun h => by omega, fun _ => h1, fun h => by omega, fun h => by omega⟩
    · exact ⟨fun h => by omega, fun h => by omega, fun _ => h1, fun h => by omega⟩
    · exact ⟨fun h => by omega, fun h => by omega, fun h => by omega, fun _ => h1⟩
theorem meant_step (r : List S46) (key : ByteArray) (i : Nat) (hi : i < r.length) (hn : (r.getD i z46).f3.length ≤ 20) (k : Nat) (hk : 20 < k) :
    samphireref19_Meant.l0 (k + 3) r key (i : Int) = if yes (TakesI (bk (r.getD i z46)) key) = true then samphireref19_Meant.l0 k r key (wrap64 ((i : Int) + 1)) else some false := by
  rw [samphireref19_Meant.l0, if_pos (by omega), if_pos (by omega), rd46]
  generalize r.getD i z46 = t at hn
  simp only [meant_j1 r key i _ t.f0 t.f1 t.f2 t.f3 (by omega) k (by omega)]
  unfold TakesI bk
  by_cases h1 : t.f0 = 1
  · rw [if_pos h1]
    by_cases h2 : (key.size : Int) < (t.f1.size : Int)
    · rw [if_pos h2, Bool.not_true, Bool.false_and, if_neg (by exact Bool.noConfusion), if_neg (by rw [yes_false (fun h => by have h' := (h.1 h1).1; clear h; simp only at h'; omega)]; exact Bool.noConfusion)]
    · rw [if_neg h2, if_pos (by omega), if_pos (by omega), show ((t.f1.size : Int)).toNat = t.f1.size from by omega]
      by_cases h3 : (key.extract 0 t.f1.size).toList = t.f1.toList
      · rw [h3, bne_self_eq_false, Bool.not_false, Bool.true_and]
        rw [yes_congr (show ((t.f0 = 2 → ¬ Lt key t.f1 ∧ (t.f2 = E ∨ Lt key t.f2)) ∧ (t.f0 = 3 → key ∈ t.f3) ∧ (t.f0 = 4 → key ∉ t.f3)) ↔ ((t.f0 = 1 → Pre key t.f1) ∧ (t.f0 = 2 → ¬ Lt key t.f1 ∧ (t.f2 = E ∨ Lt key t.f2)) ∧ (t.f0 = 3 → key ∈ t.f3) ∧ (t.f0 = 4 → key ∉ t.f3)) from ⟨fun h => ⟨fun _ => ⟨by omega, h3⟩, h⟩, fun h => h.2⟩)]
      · rw [bne_iff_ne.2 h3, Bool.not_true, Bool.false_and, if_neg (by exact Bool.noConfusion), if_neg (by rw [yes_false (fun h => h3 (h.1 h1).2)]; exact Bool.noConfusion)]
  · rw [if_neg h1, Bool.not_false, Bool.true_and]
    rw [yes_congr (show ((t.f0 = 2 → ¬ Lt key t.f1 ∧ (t.f2 = E ∨ Lt key t.f2)) ∧ (t.f0 = 3 → key ∈ t.f3) ∧ (t.f0 = 4 → key ∉ t.f3)) ↔ ((t.f0 = 1 → Pre key t.f1) ∧ (t.f0 = 2 → ¬ Lt key t.f1 ∧ (t.f2 = E ∨ Lt key t.f2)) ∧ (t.f0 = 3 → key ∈ t.f3) ∧ (t.f0 = 4 → key ∉ t.f3)) from ⟨fun h => ⟨fun h' => absurd h' h1, h⟩, fun h => h.2⟩)]
theorem refmeant_l0 (r : List S46) (hs : SmallT r) (key : ByteArray) : ∀ m k i, r.length = i + m → 3 * m + 30 < k → samphireref19_Meant.l0 k r key (i : Int) = some (yes (∀ t ∈ r.drop i, TakesI (bk t) key))
  | 0, k, i, hi, hk => by
    obtain ⟨k, rfl⟩ : ∃ k', k = k' + 1 := ⟨k - 1, by omega⟩
    rw [samphireref19_Meant.l0, if_neg (by omega), List.drop_of_length_le (by omega), yes_true (fun t ht => by cases ht)]
  | m + 1, k, i, hi, hk => by
    obtain ⟨k, rfl⟩ : ∃ k', k = k' + 3 := ⟨k - 3, by omega⟩
    have hlt : i < r.length := by omega
    rw [meant_step r key i hlt (hs.2 _ (mem46 r i hlt)) k (by omega), inc hlt (by have := hs.1; omega), refmeant_l0 r hs key m k (i + 1) (by omega) (by omega), drop46 r i hlt]
    by_cases h : TakesI (bk (r.getD i z46)) key
    · rw [if_pos (yes_true h)]
      congr 1
      exact yes_congr ⟨fun h' t ht => by
        rcases List.mem_cons.1 ht with rfl | ht
        · exact h
        · exact h' t ht, fun h' t ht => h' t (List.mem_cons_of_mem _ ht)⟩
    · rw [if_neg (by rw [yes_false h]; exact Bool.noConfusion), yes_false (fun h' => h (h' _ List.mem_cons_self))]
theorem refmeant_eq (l : List S42) (hs : SmallT (l.map conv)) (key : ByteArray) (k : Nat) (hk : 100 ≤ k) : samphireref19_Meant.f k (l.map conv) key = some (yes (Means l key)) := by
  unfold samphireref19_Meant.f
  rw [refall_eq l hs k (by omega), Option.bind_some]
  have h20 := hs.1
  by_cases ha : All l
  · rw [if_pos (yes_true ha), show (0 : Int) = ((0 : Nat) : Int) from rfl, refmeant_l0 _ hs key (l.map conv).length k 0 (by omega) (by omega), List.drop_zero]
    congr 1
    exact yes_congr ⟨fun h => ⟨ha, fun t ht => (takes_iff t (ha.2 t ht) key).1 (h (conv t) (List.mem_map_of_mem ht))⟩, fun h t ht => by
      obtain ⟨u, hu, rfl⟩ := List.mem_map.1 ht
      exact (takes_iff u (ha.2 u hu) key).2 (h.2 u hu)⟩
  · rw [if_neg (by rw [yes_false ha]; exact Bool.noConfusion), yes_false (fun h : Means l key => ha h.1)]

/-! ### The fixed answer -/
theorem awake60 : samphirelaw19_awake.f 60 = some true := by kernel_rfl
theorem awake_eq (k : Nat) (hk : 60 ≤ k) : samphirelaw19_awake.f k = some true := by
  obtain ⟨d, rfl⟩ : ∃ d, k = 60 + d := ⟨k - 60, by omega⟩
  clear hk
  induction d with
  | zero => exact awake60
  | succ d ih => exact samphirelaw19_awake.mono (60 + d) _ ih
theorem awake_bind (k : Nat) (hk : 60 ≤ k) : ((samphirelaw19_awake.f k).bind fun t => some t) = some true := by rw [awake_eq k hk]; rfl
theorem taken_take (l : List S42) (keys : List ByteArray) (i : Nat) (h : i < keys.length) : taken l (keys.take (i + 1)) = if yes (Means l (keys.getD i E)) = true then taken l (keys.take i) ++ [keys.getD i E] else taken l (keys.take i) := by
  have ht : keys.take (i + 1) = keys.take i ++ [keys.getD i E] := by
    rw [List.take_succ_eq_append_getElem h, List.getD_eq_getElem?_getD, List.getElem?_eq_getElem h]; rfl
  unfold taken
  rw [ht, List.filter_append]
  by_cases hm : Means l (keys.getD i E)
  · rw [if_pos (yes_true hm), List.filter_cons_of_pos (p := fun key => yes (Means l key)) (yes_true hm), List.filter_nil]
  · rw [if_neg (by rw [yes_false hm]; exact Bool.noConfusion), List.filter_cons_of_neg (p := fun key => yes (Means l key)) (by rw [yes_false hm]; exact Bool.noConfusion), List.filter_nil, List.append_nil]
theorem taken_len (l : List S42) (keys : List ByteArray) : (taken l keys).length ≤ keys.length := List.length_filter_le _ _
end Go.Proofs.Ytnpipaehcklnbaa.Cho
