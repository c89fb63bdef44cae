/- The law ChooseTells, in plain Lean: what is meant is what the document says. -/
import Derived.Test.YtnpipaehcklnbaaHqChooseTells
import Derived.Test.YtnpipaehcklnbaaCho4
namespace Go.Proofs.Ytnpipaehcklnbaa.Pure
open Go.RowKit Go.Proofs.Ytnpipaehcklnbaa.H Go.Proofs.YtnpipaehcklnbaaW.PrintWords Go.Proofs.Ytnpipaehcklnbaa.Cho

theorem tells_end (l : List S42) (hs : SmallT (l.map conv)) (keys : List ByteArray) (hk : keys.length ≤ 60) (k : Nat) (h : 200 ≤ k) (i : Int) (hi : ¬ i < (keys.length : Int)) :
    samphirelaw19_ChooseTells.l0 (k + 1) l keys (l.map conv) (taken l keys) keys (keys.length : Int) i = some true := by
  rw [samphirelaw19_ChooseTells.l0, if_neg hi, check_eq l (fits_of hs) k (by omega), Option.bind_some, refall_eq l hs k (by omega), Option.bind_some]
  have he : ((code (All l) == 0) == yes (All l)) = true := by
    by_cases ha : All l
    · rw [code_zero.2 ha, yes_true ha]; rfl
    · rw [code_one ha, yes_false ha]; rfl
  have hl := taken_len l keys
  rw [if_pos he, Option.bind_some, keys_eq l (fits_of hs) keys (by omega) k (by omega), Option.bind_some, strings_eq _ _ (by omega) k (by omega), Option.bind_some, if_pos (yes_true rfl), awake_bind k (by omega)]
  by_cases ha : All l
  · rw [if_pos (code_zero.2 ha)]
  · rw [if_neg (fun h' => ha (code_zero.1 h')), Option.bind_some, if_pos (code_one ha)]
theorem tells_l0 (l : List S42) (hs : SmallT (l.map conv)) (keys : List ByteArray) (hk : keys.length ≤ 60) : ∀ m k i, keys.length = i + m → m + 250 < k →
    samphirelaw19_ChooseTells.l0 k l keys (l.map conv) (taken l (keys.take i)) keys (keys.length : Int) (i : Int) = some true
  | 0, k, i, hi, h => by
    obtain ⟨k, rfl⟩ : ∃ k', k = k' + 1 := ⟨k - 1, by omega⟩
    rw [List.take_of_length_le (by omega)]
    exact tells_end l hs keys hk k (by omega) _ (by omega)
  | m + 1, k, i, hi, h => by
    obtain ⟨k, rfl⟩ : ∃ k', k = k' + 1 := ⟨k - 1, by omega⟩
    have hlt : i < keys.length := by omega
    have ih := tells_l0 l hs keys hk m k (i + 1) (by omega) (by omega)
    have hl := taken_len l (keys.take i)
    rw [List.length_take] at hl
    rw [taken_take l keys i hlt] at ih
    rw [samphirelaw19_ChooseTells.l0, if_pos (by omega), if_pos (by omega), if_pos (by omega), rd_nat, meant_eq l (fits_of hs) _ k (by omega), Option.bind_some, refmeant_eq l hs _ k (by omega), Option.bind_some, bne_self_eq_false, if_neg (by exact Bool.noConfusion), Option.bind_some, inc hlt (by omega)]
    by_cases hm : yes (Means l (keys.getD i E)) = true
    · rw [if_pos hm] at ih
      rw [if_pos hm, if_pos (by omega), ih]
    · rw [if_neg hm] at ih
      rw [if_neg hm, ih]
theorem ChooseTells : H.samphirelaw19_ChooseTells.Pure := by
  intro l keys hl hkk
  refine ⟨l.length + 3000, ?_⟩
  have hlen : l.length ≤ 2199023255552 := by have h := hl.1; omega
  generalize hK : l.length + 3000 = K
  rw [H.samphirelaw19_ChooseTells.f, refs_eq l hlen K (by omega), Option.bind_some]
  obtain ⟨b, hb, hs⟩ := small_eq (l.map conv) K (by omega)
  obtain ⟨K, rfl⟩ : ∃ k', K = k' + 1 := ⟨K - 1, by omega⟩
  rw [hb, Option.bind_some]
  cases b with
  | false => rw [if_neg (by exact Bool.noConfusion), samphirelaw19_ChooseTells.j0, if_pos rfl, awake_bind K (by omega)]
  | true =>
    rw [if_pos rfl, smallk_eq keys (K + 1) (by omega), Option.bind_some, samphirelaw19_ChooseTells.j0]
    by_cases hk : SmallK keys
    · rw [yes_true hk, if_neg (by exact Bool.noConfusion)]
      exact tells_l0 l (hs rfl) keys hk.1 keys.length K 0 (by omega) (by have := hk.1; omega)
    · rw [yes_false hk, Bool.not_false, if_pos rfl, awake_bind K (by omega)]
end Go.Proofs.Ytnpipaehcklnbaa.Pure
