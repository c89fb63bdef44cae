/- The law ChooseParts, in plain Lean: a prefix is a range, and what is among some, and what is not, are together all. -/
import Derived.Test.YtnpipaehcklnbaaHqChooseParts
import Derived.Test.YtnpipaehcklnbaaCho5
namespace Go.Proofs.Ytnpipaehcklnbaa.Pure
open Go.RowKit Go.Proofs.Ytnpipaehcklnbaa.H Go.Proofs.YtnpipaehcklnbaaW.PrintWords Go.Proofs.YtnpipaehcklnbaaW.PrintMore Go.Proofs.Ytnpipaehcklnbaa.Cho

theorem fits_one' (t : S42) (h : t.f3.length ≤ 20) : Fits [t] := fun u hu => by
  rw [List.mem_singleton] at hu
  subst hu
  exact h
theorem means_one (t : S42) (key : ByteArray) : Means [t] key ↔ Sound t ∧ Takes t key := by
  unfold Means All
  constructor
  · exact fun h => ⟨h.1.2 t List.mem_cons_self, h.2 t List.mem_cons_self⟩
  · intro h
    refine ⟨⟨by simp, fun u hu => ?_⟩, fun u hu => ?_⟩
    · rw [List.mem_singleton] at hu
      subst hu
      exact h.1
    · rw [List.mem_singleton] at hu
      subst hu
      exact h.2
theorem takes_1 (a key : ByteArray) : Takes (⟨1, a, E, []⟩ : S42) key ↔ Pre key a := by
  unfold Takes
  constructor
  · rintro (h | h | h | h)
    · exact h.2
    · exact absurd (show (1 : Int) = _ from h.1) (by decide)
    · exact absurd (show (1 : Int) = _ from h.1) (by decide)
    · exact absurd (show (1 : Int) = _ from h.1) (by decide)
  · exact fun h => .inl ⟨rfl, h⟩
theorem takes_2 (a b key : ByteArray) : Takes (⟨2, a, b, []⟩ : S42) key ↔ ¬ Lt key a ∧ (b = E ∨ Lt key b) := by
  unfold Takes
  constructor
  · rintro (h | h | h | h)
    · exact absurd (show (2 : Int) = _ from h.1) (by decide)
    · exact h.2
    · exact absurd (show (2 : Int) = _ from h.1) (by decide)
    · exact absurd (show (2 : Int) = _ from h.1) (by decide)
  · exact fun h => .inr (.inl ⟨rfl, h⟩)
theorem takes_3 (l : List ByteArray) (key : ByteArray) : Takes (⟨3, E, E, l⟩ : S42) key ↔ key ∈ l := by
  unfold Takes
  constructor
  · rintro (h | h | h | h)
    · exact absurd (show (3 : Int) = _ from h.1) (by decide)
    · exact absurd (show (3 : Int) = _ from h.1) (by decide)
    · exact h.2
    · exact absurd (show (3 : Int) = _ from h.1) (by decide)
  · exact fun h => .inr (.inr (.inl ⟨rfl, h⟩))
theorem takes_4 (l : List ByteArray) (key : ByteArray) : Takes (⟨4, E, E, l⟩ : S42) key ↔ key ∉ l := by
  unfold Takes
  constructor
  · rintro (h | h | h | h)
    · exact absurd (show (4 : Int) = _ from h.1) (by decide)
    · exact absurd (show (4 : Int) = _ from h.1) (by decide)
    · exact absurd (show (4 : Int) = _ from h.1) (by decide)
    · exact h.2
  · exact fun h => .inr (.inr (.inr ⟨rfl, h⟩))
theorem sound_34 (a : Int) (h : a = 3 ∨ a = 4) (l : List ByteArray) : Sound (⟨a, E, E, l⟩ : S42) ↔ Rises l := by
  unfold Sound
  constructor
  · rintro (h' | h' | h')
    · have := h'.1; simp only at this; omega
    · have := h'.1; simp only at this; omega
    · exact h'.2.2.2
  · exact fun h' => .inr (.inr ⟨h, rfl, rfl, h'⟩)
theorem all_one (t : S42) : All [t] ↔ Sound t := by
  unfold All
  constructor
  · exact fun h => h.2 t List.mem_cons_self
  · intro h
    refine ⟨by simp, fun u hu => ?_⟩
    rw [List.mem_singleton] at hu
    subst hu
    exact h
theorem parts_l0 (l : List ByteArray) (hl : l.length ≤ 20) (hr : Rises l) (keys : List ByteArray) (hk : keys.length ≤ 60) : ∀ m k i, keys.length = i + m → m + 100 < k →
    samphirelaw19_ChooseParts.l0 k [(⟨3, E, E, l⟩ : S42)] [(⟨4, E, E, l⟩ : S42)] keys (keys.length : Int) (i : Int) = some true
  | 0, k, i, hi, h => by
    obtain ⟨k, rfl⟩ : ∃ k', k = k' + 1 := ⟨k - 1, by omega⟩
    rw [samphirelaw19_ChooseParts.l0, if_neg (by omega), awake_bind k (by omega)]
  | m + 1, k, i, hi, h => by
    obtain ⟨k, rfl⟩ : ∃ k', k = k' + 1 := ⟨k - 1, by omega⟩
    have hlt : i < keys.length := by omega
    have ih := parts_l0 l hl hr keys hk m k (i + 1) (by omega) (by omega)
    rw [samphirelaw19_ChooseParts.l0, if_pos (by omega), if_pos (by omega), if_pos (by omega), rd_nat, inc hlt (by omega), ih]
    generalize keys.getD i E = key
    rw [meant_eq _ (fits_one' _ hl) key k (by omega), Option.bind_some, meant_eq _ (fits_one' _ hl) key k (by omega), Option.bind_some, yes_congr (means_one _ key), yes_congr (means_one _ key)]
    rw [yes_congr (show (Sound (⟨3, E, E, l⟩ : S42) ∧ Takes (⟨3, E, E, l⟩ : S42) key) ↔ key ∈ l from ⟨fun h => (takes_3 l key).1 h.2, fun h => ⟨(sound_34 3 (.inl rfl) l).2 hr, (takes_3 l key).2 h⟩⟩)]
    rw [yes_congr (show (Sound (⟨4, E, E, l⟩ : S42) ∧ Takes (⟨4, E, E, l⟩ : S42) key) ↔ key ∉ l from ⟨fun h => (takes_4 l key).1 h.2, fun h => ⟨(sound_34 4 (.inr rfl) l).2 hr, (takes_4 l key).2 h⟩⟩)]
    by_cases hm : key ∈ l
    · rw [yes_true hm, yes_false (fun h => h hm)]; rfl
    · rw [yes_false hm, yes_true hm]; rfl
theorem parts_awake (p : ByteArray) (l keys : List ByteArray) (k : Nat) (hkk : 61 ≤ k) : samphirelaw19_ChooseParts.j0 k p l keys true = some true := by
  obtain ⟨k, rfl⟩ : ∃ k', k = k' + 1 := ⟨k - 1, by omega⟩
  rw [samphirelaw19_ChooseParts.j0, if_pos rfl, awake_bind k (by omega)]
theorem parts_j0 (p : ByteArray) (hp : 1 ≤ p.size) (hp2 : p.size ≤ 64) (h255 : bt p ((p.size - 1 : Nat) : Int) ≠ 255) (l : List ByteArray) (hl : l.length ≤ 20) (keys : List ByteArray) (hk : keys.length ≤ 60) :
    samphirelaw19_ChooseParts.j0 300 p l keys false = some true := by
  have hw : wrap64 ((p.size : Int) - 1) = ((p.size - 1 : Nat) : Int) := by rw [w64 (by omega) (by omega)]; omega
  have hs : (p.extract 0 (p.size - 1)).size = p.size - 1 := by rw [ByteArray.size_extract]; omega
  rw [samphirelaw19_ChooseParts.j0, if_neg (by exact Bool.noConfusion), hw, if_pos (by omega), if_pos (by omega), if_pos (by omega), Option.bind_some, Int.toNat_natCast, if_pos (by rw [hs, strOfNums_size, List.length_singleton]; omega)]
  have hsz : (p.extract 0 (p.size - 1) ++ strOfNums [(bt p ((p.size - 1 : Nat) : Int) + 1) % 256]).size = p.size := by rw [ByteArray.size_append, hs, strOfNums_size, List.length_singleton]; omega
  have hpr := prefix_is_range p hp h255
  generalize p.extract 0 (p.size - 1) ++ strOfNums [(bt p ((p.size - 1 : Nat) : Int) + 1) % 256] = above at hsz hpr
  have hne : above ≠ E := fun h => by rw [h] at hsz; have : E.size = 0 := rfl; omega
  have k1 := keys_eq [(⟨1, p, E, []⟩ : S42)] (fits_one' _ (by simp)) keys (by omega) 299 (by omega)
  have k2 := keys_eq [(⟨2, p, above, []⟩ : S42)] (fits_one' _ (by simp)) keys (by omega) 299 (by omega)
  have ht := taken_len [(⟨1, p, E, []⟩ : S42)] keys
  have he : taken [(⟨1, p, E, []⟩ : S42)] keys = taken [(⟨2, p, above, []⟩ : S42)] keys := by
    unfold taken
    refine List.filter_congr fun key _ => yes_congr ?_
    rw [means_one, means_one, takes_1, takes_2, hpr key]
    constructor
    · exact fun h => ⟨.inr (.inl ⟨rfl, hp2, by rw [hsz]; exact hp2, rfl⟩), h.2.1, .inr h.2.2⟩
    · exact fun h => ⟨.inl ⟨rfl, hp2, rfl, rfl⟩, h.2.1, h.2.2.resolve_left hne⟩
  refine (congrArg (fun o => Option.bind o _) k1).trans ?_
  rw [Option.bind_some, k2, Option.bind_some, strings_eq _ _ (by omega) 299 (by omega), Option.bind_some, if_pos (yes_true he), Option.bind_some, Option.bind_some]
  have c1 := check_eq [(⟨3, E, E, l⟩ : S42)] (fits_one' _ hl) 299 (by omega)
  refine (congrArg (fun o => Option.bind o _) c1).trans ?_
  rw [Option.bind_some]
  by_cases hr : Rises l
  · rw [if_pos (code_zero.2 ((all_one _).2 ((sound_34 3 (.inl rfl) l).2 hr)))]
    exact parts_l0 l hl hr keys hk keys.length 299 0 (by omega) (by omega)
  · rw [if_neg (fun h => hr ((sound_34 3 (.inl rfl) l).1 ((all_one _).1 (code_zero.1 h))))]
    have c2 := check_eq [(⟨4, E, E, l⟩ : S42)] (fits_one' _ hl) 299 (by omega)
    refine (congrArg (fun o => Option.bind o _) c2).trans ?_
    rw [Option.bind_some, if_pos (code_one (fun h => hr ((sound_34 4 (.inr rfl) l).1 ((all_one _).1 h)))), awake_bind 299 (by omega)]
theorem ChooseParts : H.samphirelaw19_ChooseParts.Pure := by
  intro p l keys _ _ _
  refine ⟨300, ?_⟩
  rw [H.samphirelaw19_ChooseParts.f]
  by_cases h1 : (p.size : Int) < 1
  · rw [if_pos h1, parts_awake _ _ _ 300 (by omega)]
  rw [if_neg h1]
  by_cases h2 : (p.size : Int) > 64
  · rw [if_pos h2, parts_awake _ _ _ 300 (by omega)]
  have hw : wrap64 ((p.size : Int) - 1) = ((p.size - 1 : Nat) : Int) := by rw [w64 (by omega) (by omega)]; omega
  rw [if_neg h2, hw, if_pos (by omega), if_pos (by omega)]
  by_cases h3 : bt p ((p.size - 1 : Nat) : Int) = 255
  · rw [if_pos h3, parts_awake _ _ _ 300 (by omega)]
  rw [if_neg h3]
  by_cases h4 : (l.length : Int) > 20
  · rw [if_pos h4, parts_awake _ _ _ 300 (by omega)]
  rw [if_neg h4, smallk_eq keys 300 (by omega), Option.bind_some]
  by_cases hk : SmallK keys
  · rw [yes_true hk, Bool.not_true]
    exact parts_j0 p (by omega) (by omega) h3 l (by omega) keys hk.1
  · rw [yes_false hk, Bool.not_false, parts_awake _ _ _ 300 (by omega)]
end Go.Proofs.Ytnpipaehcklnbaa.Pure
