/- The law ChooseTurned, in plain Lean: it does not matter in which order terms stand, nor whether one stands there twice. -/
import Derived.Test.YtnpipaehcklnbaaHqChooseTurned
import Derived.Test.YtnpipaehcklnbaaCho4
set_option linter.unusedVariables false
namespace Go.Proofs.Ytnpipaehcklnbaa.Pure
open Go.RowKit Go.Proofs.Ytnpipaehcklnbaa.H Go.Proofs.YtnpipaehcklnbaaW.PrintWords Go.Proofs.Ytnpipaehcklnbaa.Cho

/-- Where the i-th of the turned ones stands. -/
def tix (n b i : Nat) : Nat := (n - i + b) % n
def trn (l : List S42) (b i : Nat) : List S42 := (List.range i).map fun j => l.getD (tix l.length b j) z42
theorem tix_lt {n b i : Nat} (hn : 0 < n) : tix n b i < n := Nat.mod_lt _ hn
theorem tix_all {n b q : Nat} (hq : q < n) : ∃ i, i < n ∧ tix n b i = q := by
  refine ⟨(b + n - q) % n, Nat.mod_lt _ (by omega), ?_⟩
  have h1 := Nat.mod_add_div (b + n - q) n
  have h2 := Nat.mod_lt (b + n - q) (show n > 0 by omega)
  unfold tix
  generalize (b + n - q) % n = i at *
  generalize (b + n - q) / n = d at *
  have h3 : n - i + b = q + n * d := by
    generalize n * d = e at *
    omega
  rw [h3, Nat.add_mul_mod_self_left, Nat.mod_eq_of_lt hq]
theorem mem_trn {l : List S42} {b : Nat} {t : S42} : t ∈ trn l b l.length ↔ t ∈ l := by
  unfold trn
  rw [List.mem_map]
  constructor
  · rintro ⟨j, hj, rfl⟩
    have hn : 0 < l.length := by have := List.mem_range.1 hj; omega
    have := tix_lt (b := b) (i := j) hn
    rw [List.getD_eq_getElem?_getD, List.getElem?_eq_getElem this]
    exact List.getElem_mem this
  · intro h
    obtain ⟨q, hq, rfl⟩ := List.getElem_of_mem h
    obtain ⟨i, hi, he⟩ := tix_all (b := b) hq
    refine ⟨i, List.mem_range.2 hi, ?_⟩
    rw [he, List.getD_eq_getElem?_getD, List.getElem?_eq_getElem hq]
    rfl
theorem len_trn (l : List S42) (b i : Nat) : (trn l b i).length = i := by unfold trn; rw [List.length_map, List.length_range]
theorem trn_succ (l : List S42) (b i : Nat) : trn l b (i + 1) = trn l b i ++ [l.getD (tix l.length b i) z42] := by
  unfold trn
  rw [List.range_succ, List.map_append]
  rfl
theorem taken_like {a b : List S42} (h : ∀ t, t ∈ a ↔ t ∈ b) (hl : a.length ≤ 8 ↔ b.length ≤ 8) (keys : List ByteArray) : taken a keys = taken b keys := by
  unfold taken
  refine List.filter_congr fun key _ => ?_
  refine yes_congr ?_
  unfold Means All
  rw [hl]
  constructor
  · rintro ⟨⟨h1, h2⟩, h3⟩
    exact ⟨⟨h1, fun t ht => h2 t ((h t).2 ht)⟩, fun t ht => h3 t ((h t).2 ht)⟩
  · rintro ⟨⟨h1, h2⟩, h3⟩
    exact ⟨⟨h1, fun t ht => h2 t ((h t).1 ht)⟩, fun t ht => h3 t ((h t).1 ht)⟩
theorem taken_idem (l : List S42) (keys : List ByteArray) : taken l (taken l keys) = taken l keys := by
  unfold taken
  rw [List.filter_filter]
  refine List.filter_congr fun key _ => ?_
  rw [Bool.and_self]
theorem idx_eq {n b i : Nat} (hn : n ≤ 20) (hi : i < n) (hb : b ≤ 255) : Int.tmod (wrap64 ((wrap64 ((n : Int) - (i : Int))) + (wrap64 (b : Int)))) (n : Int) = ((tix n b i : Nat) : Int) := by
  rw [w64 (x := (n : Int) - (i : Int)) (by omega) (by omega), w64 (x := (b : Int)) (by omega) (by omega), w64 (by omega) (by omega), Int.tmod_eq_emod_of_nonneg (by omega), show (n : Int) - (i : Int) + (b : Int) = ((n - i + b : Nat) : Int) by omega]
  unfold tix
  rfl
theorem turned_end (l : List S42) (hf : Fits l) (hl : l.length ≤ 20) (hne : l ≠ []) (keys : List ByteArray) (hk : keys.length ≤ 60) (b : Nat) (k : Nat) (hkk : 200 ≤ k) :
    samphirelaw19_ChooseTurned.l0 (k + 1) l keys (b : Int) (trn l b l.length) (l.length : Int) (l.length : Int) = some true := by
  have hpos : 0 < l.length := List.length_pos_iff.2 hne
  have h1 := taken_len l keys
  have ft : Fits (trn l b l.length) := fun t ht => hf t (mem_trn.1 ht)
  have e1 : taken (trn l b l.length) keys = taken l keys := taken_like (fun t => mem_trn) (by rw [len_trn]) keys
  have e0 : (⟨(rd_T42 l 0).f0, (rd_T42 l 0).f1, (rd_T42 l 0).f2, (rd_T42 l 0).f3⟩ : S42) = l[0] := by
    show rd_T42 l ((0 : Nat) : Int) = l[0]
    rw [rd42, List.getD_eq_getElem?_getD, List.getElem?_eq_getElem hpos]
    rfl
  have m2 : ∀ t, t ∈ l ++ [l[0]] ↔ t ∈ l := fun t => by
    rw [List.mem_append]
    constructor
    · rintro (h | h)
      · exact h
      · rw [List.mem_singleton.1 h]; exact List.getElem_mem hpos
    · exact .inl
  have f2 : Fits (l ++ [l[0]]) := fun t ht => hf t ((m2 t).1 ht)
  rw [samphirelaw19_ChooseTurned.l0, if_neg (by omega), keys_eq l hf keys (by omega) k (by omega), Option.bind_some, Option.bind_some, if_pos (by simp only [List.length_nil]; omega), Option.bind_some, if_pos (by omega), Option.bind_some, if_pos (by simp only [List.nil_append, List.length_singleton]; omega), keys_eq _ ft keys (by omega) k (by omega), Option.bind_some, e1, strings_eq _ _ (by omega) k (by omega), Option.bind_some, if_pos (yes_true rfl), e0, List.nil_append]
  have last : ((choose_Keys.f k l (taken l keys)).bind fun t339 => (samphireref16_Strings.f k t339 (taken l keys)).bind fun t342 => if t342 = true then (samphirelaw19_awake.f k).bind fun t343 => some t343 else some false) = some true := by
    rw [keys_eq l hf _ (by omega) k (by omega), Option.bind_some, taken_idem, strings_eq _ _ (by omega) k (by omega), Option.bind_some, if_pos (yes_true rfl), awake_bind k (by omega)]
  by_cases h8 : (l.length : Int) ≥ 8
  · rw [if_pos h8]
    exact last
  · have e2 : taken (l ++ [l[0]]) keys = taken l keys := taken_like m2 (by rw [List.length_append, List.length_singleton]; omega) keys
    rw [if_neg h8, keys_eq _ f2 keys (by omega) k (by omega), Option.bind_some, e2, strings_eq _ _ (by omega) k (by omega), Option.bind_some, if_pos (yes_true rfl)]
    exact last
theorem turned_l0 (l : List S42) (hf : Fits l) (hl : l.length ≤ 20) (hne : l ≠ []) (keys : List ByteArray) (hk : keys.length ≤ 60) (b : Nat) (hb : b ≤ 255) : ∀ m k i, l.length = i + m → 210 + m < k →
    samphirelaw19_ChooseTurned.l0 k l keys (b : Int) (trn l b i) (l.length : Int) (i : Int) = some true
  | 0, k, i, hi, h => by
    obtain ⟨k, rfl⟩ : ∃ k', k = k' + 1 := ⟨k - 1, by omega⟩
    obtain rfl : i = l.length := by omega
    exact turned_end l hf hl hne keys hk b k (by omega)
  | m + 1, k, i, hi, h => by
    obtain ⟨k, rfl⟩ : ∃ k', k = k' + 1 := ⟨k - 1, by omega⟩
    have ih := turned_l0 l hf hl hne keys hk b hb m k (i + 1) (by omega) (by omega)
    have hpos : 0 < l.length := List.length_pos_iff.2 hne
    have hlt := tix_lt (n := l.length) (b := b) (i := i) hpos
    rw [samphirelaw19_ChooseTurned.l0, if_pos (by omega), if_neg (by omega), idx_eq hl (by omega) hb, if_pos (by omega), if_pos (by omega), Option.bind_some, if_pos (by rw [len_trn, List.length_singleton]; omega), inc (n := l.length) (by omega) (by omega)]
    have e : trn l b i ++ [(⟨(rd_T42 l ((tix l.length b i : Nat) : Int)).f0, (rd_T42 l ((tix l.length b i : Nat) : Int)).f1, (rd_T42 l ((tix l.length b i : Nat) : Int)).f2, (rd_T42 l ((tix l.length b i : Nat) : Int)).f3⟩ : S42)] = trn l b (i + 1) := by
      rw [trn_succ]
      rfl
    rw [e]
    exact ih
theorem turned_awake (l : List S42) (keys : List ByteArray) (b : Int) (c : Bool) (hc : c = true) (k : Nat) (hkk : 61 ≤ k) : samphirelaw19_ChooseTurned.j0 k l keys b c = some true := by
  obtain ⟨k, rfl⟩ : ∃ k', k = k' + 1 := ⟨k - 1, by omega⟩
  rw [samphirelaw19_ChooseTurned.j0, if_pos hc, awake_bind k (by omega)]
theorem ChooseTurned : H.samphirelaw19_ChooseTurned.Pure := by
  intro l keys b hl hk hb
  refine ⟨l.length + 5000, ?_⟩
  have hlen : l.length ≤ 2199023255552 := by have h := hl.1; omega
  generalize hK : l.length + 5000 = K
  rw [H.samphirelaw19_ChooseTurned.f, refs_eq l hlen K (by omega), Option.bind_some]
  obtain ⟨b1, hb1, hs1⟩ := small_eq (l.map conv) K (by omega)
  rw [hb1, Option.bind_some]
  cases b1 with
  | false => rw [if_neg (by exact Bool.noConfusion), turned_awake _ _ _ _ rfl K (by omega)]
  | true =>
    rw [if_pos rfl, smallk_eq keys K (by omega), Option.bind_some]
    by_cases hsk : SmallK keys
    · rw [if_pos (yes_true hsk)]
      by_cases hne : l = []
      · exact turned_awake _ _ _ _ (by rw [hne]; rfl) K (by omega)
      · obtain ⟨K, rfl⟩ : ∃ k', K = k' + 1 := ⟨K - 1, by omega⟩
        have hs := hs1 rfl
        obtain ⟨b, rfl⟩ := Int.eq_ofNat_of_zero_le hb.1
        have hb2 := hb.2
        rw [samphirelaw19_ChooseTurned.j0, if_neg (fun h => hne ((len_iff l).1 h))]
        exact turned_l0 l (fits_of hs) (len_of hs) hne keys hsk.1 b (by omega) l.length K 0 (by omega) (by have := len_of hs; omega)
    · rw [if_neg (by rw [yes_false hsk]; exact Bool.noConfusion), turned_awake _ _ _ _ rfl K (by omega)]
end Go.Proofs.Ytnpipaehcklnbaa.Pure
