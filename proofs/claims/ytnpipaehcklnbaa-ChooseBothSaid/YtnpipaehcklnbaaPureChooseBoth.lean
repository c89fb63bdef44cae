/- The law ChooseBoth, in plain Lean: both of two selectors mean what the one means and the other means. -/
import Derived.Test.YtnpipaehcklnbaaHqChooseBoth
import Derived.Test.YtnpipaehcklnbaaCho4
namespace Go.Proofs.Ytnpipaehcklnbaa.Pure
open Go.RowKit Go.Proofs.Ytnpipaehcklnbaa.H Go.Proofs.YtnpipaehcklnbaaW.PrintWords Go.Proofs.Ytnpipaehcklnbaa.Cho

theorem same_l0 (r : List S46) (hn : r.length ≤ 100) (hf : ∀ t ∈ r, t.f3.length ≤ 20) : ∀ m k i, r.length = i + m → 30 * m < k → samphireref19_Same.l0 k r r (i : Int) = some true
  | 0, k, i, hi, hk => by
    obtain ⟨k, rfl⟩ : ∃ k', k = k' + 1 := ⟨k - 1, by omega⟩
    rw [samphireref19_Same.l0, if_neg (by omega)]
  | m + 1, k, i, hi, hk => by
    obtain ⟨k, rfl⟩ : ∃ k', k = k' + 2 := ⟨k - 2, by omega⟩
    have hlt : i < r.length := by omega
    have h20 := hf _ (mem46 r i hlt)
    have inner : ∀ m2 k2 q : Nat, (r.getD i z46).f3.length = q + m2 → 30 * m + m2 + 1 < k2 → samphireref19_Same.l1 k2 r r (i : Int) (q : Int) = some true := by
      intro m2
      induction m2 with
      | zero =>
        intro k2 q hq hk2
        obtain ⟨k2, rfl⟩ : ∃ k', k2 = k' + 1 := ⟨k2 - 1, by omega⟩
        rw [samphireref19_Same.l1, if_pos (by omega), if_pos (by omega), rd46, if_neg (by omega), inc hlt (by omega)]
        exact same_l0 r hn hf m k2 (i + 1) (by omega) (by omega)
      | succ m2 ih =>
        intro k2 q hq hk2
        obtain ⟨k2, rfl⟩ : ∃ k', k2 = k' + 1 := ⟨k2 - 1, by omega⟩
        rw [samphireref19_Same.l1, if_pos (by omega), if_pos (by omega), rd46, if_pos (by omega), if_pos (by omega), if_pos (by omega), if_pos (by omega), if_pos rfl, inc (n := (r.getD i z46).f3.length) (by omega) (by omega)]
        exact ih k2 (q + 1) (by omega) (by omega)
    rw [samphireref19_Same.l0, if_pos (by omega), if_pos (by omega), if_pos (by omega), if_pos rfl, if_pos rfl, if_pos rfl, bne_self_eq_false, samphireref19_Same.j1, if_neg (by exact Bool.noConfusion)]
    exact inner (r.getD i z46).f3.length k 0 (by omega) (by omega)
theorem same_eq (r : List S46) (hn : r.length ≤ 100) (hf : ∀ t ∈ r, t.f3.length ≤ 20) (k : Nat) (hk : 3001 ≤ k) : samphireref19_Same.f k r r = some true := by
  rw [samphireref19_Same.f, if_pos rfl]
  exact same_l0 r hn hf r.length k 0 (by omega) (by omega)
theorem means_append (a b : List S42) (h : All a ∧ All b ∧ a.length + b.length ≤ 8) (key : ByteArray) : Means (a ++ b) key ↔ Means a key ∧ Means b key := by
  unfold Means
  constructor
  · exact fun h' => ⟨⟨h.1, fun t ht => h'.2 t (List.mem_append_left _ ht)⟩, h.2.1, fun t ht => h'.2 t (List.mem_append_right _ ht)⟩
  · rintro ⟨⟨h1, h2⟩, h3, h4⟩
    refine ⟨⟨by rw [List.length_append]; exact h.2.2, fun t ht => ?_⟩, fun t ht => ?_⟩
    · rcases List.mem_append.1 ht with ht | ht
      · exact h1.2 t ht
      · exact h3.2 t ht
    · rcases List.mem_append.1 ht with ht | ht
      · exact h2 t ht
      · exact h4 t ht
theorem taken_append (a b : List S42) (h : All a ∧ All b ∧ a.length + b.length ≤ 8) (keys : List ByteArray) : taken (a ++ b) keys = taken b (taken a keys) := by
  unfold taken
  rw [List.filter_filter]
  refine List.filter_congr fun key _ => ?_
  rw [yes_congr (means_append a b h key)]
  by_cases h1 : Means a key
  · by_cases h2 : Means b key
    · rw [yes_true ⟨h1, h2⟩, yes_true h1, yes_true h2]; rfl
    · rw [yes_false (fun h => h2 h.2), yes_true h1, yes_false h2]; rfl
  · rw [yes_false (fun h => h1 h.1), yes_false h1, Bool.and_false]
theorem taken_swap (a b : List S42) (h : All a ∧ All b ∧ a.length + b.length ≤ 8) (keys : List ByteArray) : taken (b ++ a) keys = taken (a ++ b) keys := by
  unfold taken
  refine List.filter_congr fun key _ => ?_
  refine yes_congr ?_
  rw [means_append a b h, means_append b a ⟨h.2.1, h.1, by omega⟩]
  exact ⟨fun h => ⟨h.2, h.1⟩, fun h => ⟨h.2, h.1⟩⟩
theorem fits_append {a b : List S42} (ha : Fits a) (hb : Fits b) : Fits (a ++ b) := fun t ht => by
  rcases List.mem_append.1 ht with ht | ht
  · exact ha t ht
  · exact hb t ht
theorem both_j2 (a b : List S42) (ha : Fits a) (hb : Fits b) (keys : List ByteArray) (hk : keys.length ≤ 60) (h : All a ∧ All b ∧ a.length + b.length ≤ 8) (k : Nat) (hkk : 200 ≤ k) :
    samphirelaw19_ChooseBoth.j2 (k + 1) a b keys (a ++ b) (b ++ a) false = some true := by
  have h1 := taken_len (a ++ b) keys
  have h2 := taken_len a keys
  have h3 := taken_len (b ++ a) keys
  rw [samphirelaw19_ChooseBoth.j2, if_neg (by exact Bool.noConfusion), keys_eq _ (fits_append ha hb) keys (by omega) k (by omega), Option.bind_some, keys_eq a ha keys (by omega) k (by omega), Option.bind_some, keys_eq b hb (taken a keys) (by omega) k (by omega), Option.bind_some, strings_eq _ _ (by omega) k (by omega), Option.bind_some, if_pos (yes_true (taken_append a b h keys)), keys_eq _ (fits_append hb ha) keys (by omega) k (by omega), Option.bind_some, Option.bind_some, strings_eq _ _ (by omega) k (by omega), Option.bind_some, if_pos (yes_true (taken_swap a b h keys)), awake_bind k (by omega)]
theorem both_j1 (a b : List S42) (hsa : SmallT (a.map conv)) (hsb : SmallT (b.map conv)) (keys : List ByteArray) (hk : keys.length ≤ 60) (h : All a ∧ All b ∧ a.length + b.length ≤ 8) (k : Nat) (hkk : 4000 ≤ k) :
    samphirelaw19_ChooseBoth.j1 (k + 2) a b keys (a.map conv) (b.map conv) (a ++ b) 0 (b ++ a) 0 false = some true := by
  have hla := len_of hsa
  have hlb := len_of hsb
  rw [samphirelaw19_ChooseBoth.j1, if_neg (by exact Bool.noConfusion), if_pos rfl, if_pos rfl, refs_eq (a ++ b) (by rw [List.length_append]; omega) (k + 1) (by rw [List.length_append]; omega), Option.bind_some, Option.bind_some, if_pos (by rw [List.length_map, List.length_nil]; omega), Option.bind_some, List.nil_append, if_pos (by rw [List.length_map, List.length_map]; omega), List.map_append]
  rw [same_eq _ (by rw [List.length_append, List.length_map, List.length_map]; omega) (fun t ht => by
    rcases List.mem_append.1 ht with ht | ht
    · exact hsa.2 t ht
    · exact hsb.2 t ht) (k + 1) (by omega), Option.bind_some, Bool.not_true]
  exact both_j2 a b (fits_of hsa) (fits_of hsb) keys hk h k (by omega)
theorem both_no (a b : List S42) (x y : List S46) (keys : List ByteArray) (k : Nat) (hkk : 60 ≤ k) : samphirelaw19_ChooseBoth.j1 (k + 1) a b keys x y [] 1 [] 1 true = some true := by
  rw [samphirelaw19_ChooseBoth.j1, if_pos rfl, if_pos rfl, if_pos rfl, if_pos (by rw [List.length_nil, w64 (by omega) (by omega)]; rfl), awake_bind k hkk]
theorem both_j0 (a b : List S42) (hsa : SmallT (a.map conv)) (hsb : SmallT (b.map conv)) (keys : List ByteArray) (hk : keys.length ≤ 60) (k : Nat) (hkk : 4000 ≤ k) :
    samphirelaw19_ChooseBoth.j0 (k + 3) a b keys (a.map conv) (b.map conv) false = some true := by
  have hla := len_of hsa
  have hlb := len_of hsb
  rw [samphirelaw19_ChooseBoth.j0, if_neg (by exact Bool.noConfusion), both_eq a b (fits_of hsa) (fits_of hsb) (by omega) (k + 2) (by omega), Option.bind_some, both_eq b a (fits_of hsb) (fits_of hsa) (by omega) (k + 2) (by omega), Option.bind_some, refall_eq a hsa (k + 2) (by omega), Option.bind_some, refall_eq b hsb (k + 2) (by omega), Option.bind_some]
  have hw : wrap64 (((a.map conv).length : Int) + ((b.map conv).length : Int)) = (a.length : Int) + b.length := by rw [List.length_map, List.length_map, w64 (by omega) (by omega)]
  rw [hw]
  by_cases h : All a ∧ All b ∧ a.length + b.length ≤ 8
  · rw [if_pos (yes_true h.1), if_pos (yes_true h.2.1), if_pos (yes_true h), if_pos (yes_true ⟨h.2.1, h.1, by omega⟩), decide_eq_false (by omega)]
    exact both_j1 a b hsa hsb keys hk h k hkk
  · have n1 : ¬ yes (All a ∧ All b ∧ a.length + b.length ≤ 8) = true := by rw [yes_false h]; exact Bool.noConfusion
    have n2 : ¬ yes (All b ∧ All a ∧ b.length + a.length ≤ 8) = true := by rw [yes_false (fun h' => h ⟨h'.2.1, h'.1, by omega⟩)]; exact Bool.noConfusion
    rw [if_neg n1, if_neg n2]
    by_cases ha : All a
    · rw [if_pos (yes_true ha)]
      by_cases hb : All b
      · rw [if_pos (yes_true hb), decide_eq_true (by have : ¬ a.length + b.length ≤ 8 := fun h' => h ⟨ha, hb, h'⟩; omega)]
        exact both_no a b _ _ keys (k + 1) (by omega)
      · rw [if_neg (by rw [yes_false hb]; exact Bool.noConfusion)]
        exact both_no a b _ _ keys (k + 1) (by omega)
    · rw [if_neg (by rw [yes_false ha]; exact Bool.noConfusion)]
      exact both_no a b _ _ keys (k + 1) (by omega)
theorem both_awake (a b : List S42) (x y : List S46) (keys : List ByteArray) (k : Nat) (hkk : 61 ≤ k) : samphirelaw19_ChooseBoth.j0 k a b keys x y true = some true := by
  obtain ⟨k, rfl⟩ : ∃ k', k = k' + 1 := ⟨k - 1, by omega⟩
  rw [samphirelaw19_ChooseBoth.j0, if_pos rfl, awake_bind k (by omega)]
theorem ChooseBoth : H.samphirelaw19_ChooseBoth.Pure := by
  intro a b keys hla hlb hkk
  refine ⟨a.length + b.length + 5000, ?_⟩
  have hlen : a.length ≤ 2199023255552 := by have h := hla.1; omega
  have hlen2 : b.length ≤ 2199023255552 := by have h := hlb.1; omega
  generalize hK : a.length + b.length + 5000 = K
  rw [H.samphirelaw19_ChooseBoth.f, refs_eq a hlen K (by omega), Option.bind_some, refs_eq b hlen2 K (by omega), Option.bind_some]
  obtain ⟨b1, hb1, hs1⟩ := small_eq (a.map conv) K (by omega)
  obtain ⟨b2, hb2, hs2⟩ := small_eq (b.map conv) K (by omega)
  rw [hb1, Option.bind_some]
  cases b1 with
  | false => rw [if_neg (by exact Bool.noConfusion), both_awake _ _ _ _ _ K (by omega)]
  | true =>
    rw [if_pos rfl, hb2, Option.bind_some]
    cases b2 with
    | false => rw [if_neg (by exact Bool.noConfusion), both_awake _ _ _ _ _ K (by omega)]
    | true =>
      rw [if_pos rfl, smallk_eq keys K (by omega), Option.bind_some]
      by_cases hk : SmallK keys
      · obtain ⟨K, rfl⟩ : ∃ k', K = k' + 3 := ⟨K - 3, by omega⟩
        rw [yes_true hk]
        exact both_j0 a b (hs1 rfl) (hs2 rfl) keys hk.1 K (by omega)
      · rw [yes_false hk, Bool.not_false, both_awake _ _ _ _ _ K (by omega)]
end Go.Proofs.Ytnpipaehcklnbaa.Pure
