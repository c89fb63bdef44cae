/- Chapter 19 in plain Lean, part 5: a prefix is a range. -/
import Derived.Test.YtnpipaehcklnbaaCho4
import Derived.Laws.BytesArg
namespace Go.Proofs.Ytnpipaehcklnbaa.Cho
open Go.RowKit Go.Proofs.Ytnpipaehcklnbaa.H Go.Proofs.YtnpipaehcklnbaaW.PrintWords Go.Proofs.YtnpipaehcklnbaaW.PrintMore

theorem prefix_range (c d : UInt8) (hd : d.toNat = c.toNat + 1) : ∀ q kl : List UInt8, (q ++ [c]) <+: kl ↔ ¬ kl < q ++ [c] ∧ kl < q ++ [d]
  | [], [] => by simp
  | [], x :: r => by
    rw [List.nil_append, List.nil_append, List.cons_prefix_cons, List.cons_lt_cons_iff, List.cons_lt_cons_iff]
    simp only [List.nil_prefix, and_true, List.not_lt_nil, and_false, or_false]
    rw [UInt8.lt_iff_toNat_lt, UInt8.lt_iff_toNat_lt, ← UInt8.toNat_inj]
    omega
  | a :: q, [] => by simp
  | a :: q, x :: r => by
    have ih := prefix_range c d hd q r
    rw [List.cons_append, List.cons_append, List.cons_prefix_cons, List.cons_lt_cons_iff, List.cons_lt_cons_iff, ih]
    constructor
    · rintro ⟨rfl, h1, h2⟩
      exact ⟨fun h => h.elim (fun h => by rw [UInt8.lt_iff_toNat_lt] at h; omega) (fun h => h1 h.2), .inr ⟨rfl, h2⟩⟩
    · rintro ⟨h1, h2⟩
      rcases h2 with h2 | ⟨rfl, h2⟩
      · exact absurd (.inl h2) h1
      · exact ⟨rfl, fun h => h1 (.inr ⟨rfl, h⟩), h2⟩
theorem pre_iff (key p : ByteArray) : Pre key p ↔ p.toList <+: key.toList := by
  unfold Pre
  simp only [Lib.toList_data, ByteArray.data_extract, Array.toList_extract]
  rw [List.prefix_iff_eq_take]
  simp only [List.extract_eq_take_drop, List.drop_zero, Nat.sub_zero, Array.length_toList]
  constructor
  · exact fun h => h.2.symm
  · intro h
    refine ⟨?_, h.symm⟩
    have := congrArg List.length h
    rw [List.length_take] at this
    simp only [Array.length_toList] at this
    show p.data.size ≤ key.data.size
    omega
theorem prefix_is_range (p : ByteArray) (hp : 1 ≤ p.size) (h255 : bt p ((p.size - 1 : Nat) : Int) ≠ 255) (key : ByteArray) :
    Pre key p ↔ ¬ Lt key p ∧ Lt key (p.extract 0 (p.size - 1) ++ strOfNums [(bt p ((p.size - 1 : Nat) : Int) + 1) % 256]) := by
  rw [pre_iff]
  unfold Lt
  obtain ⟨q, c, hq, hl⟩ : ∃ q c, p.data.toList = q ++ [c] ∧ q.length = p.size - 1 := by
    have hne : p.data.toList ≠ [] := fun h => by
      have h1 : p.data.toList.length = 0 := by rw [h]; rfl
      rw [Array.length_toList] at h1
      have h2 : p.data.size = p.size := rfl
      omega
    refine ⟨p.data.toList.dropLast, p.data.toList.getLast hne, (List.dropLast_concat_getLast hne).symm, ?_⟩
    rw [List.length_dropLast, Array.length_toList]; rfl
  have hb : bt p ((p.size - 1 : Nat) : Int) = (c.toNat : Int) := by
    unfold bt
    rw [dif_pos (show ((p.size - 1 : Nat) : Int).toNat < p.size by omega)]
    have hi : ((p.size - 1 : Nat) : Int).toNat = q.length := by omega
    have hg : p.data.toList[q.length]? = some c := by rw [hq]; simp
    have hlt : q.length < p.data.size := by show q.length < p.size; omega
    rw [Array.getElem?_toList, Array.getElem?_eq_getElem hlt] at hg
    have : p[((p.size - 1 : Nat) : Int).toNat]'(by omega) = c := by
      have e := Option.some.inj hg
      simp only [hi]
      exact e
    rw [this]
  have hc := c.toNat_lt
  rw [hb] at h255
  have hd : (UInt8.ofNat (((c.toNat : Int) + 1) % 256).toNat).toNat = c.toNat + 1 := by
    rw [UInt8.toNat_ofNat']
    omega
  have e1 : (p.extract 0 (p.size - 1) ++ strOfNums [(bt p ((p.size - 1 : Nat) : Int) + 1) % 256]).toList = q ++ [UInt8.ofNat (((c.toNat : Int) + 1) % 256).toNat] := by
    rw [Lib.toList_data, ByteArray.data_append, Array.toList_append, strOfNums_data, hb, ByteArray.data_extract, Array.toList_extract, hq]
    rw [List.extract_eq_take_drop, List.drop_zero, Nat.sub_zero, ← hl, List.take_left]
    rfl
  rw [e1, Lib.toList_data p, hq]
  exact prefix_range c _ hd q key.toList
end Go.Proofs.Ytnpipaehcklnbaa.Cho
