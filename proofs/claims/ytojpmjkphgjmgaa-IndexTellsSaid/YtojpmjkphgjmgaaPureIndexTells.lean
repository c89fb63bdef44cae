/- The law IndexTells, in plain Lean: what any index has, with any key put, and deleted, is what the document says, or that it is refused. -/
import Derived.Test.YtojpmjkphgjmgaaHqIndexTells
import Derived.Test.YtojpmjkphgjmgaaIx4
import Derived.Test.YtojpmjkphgjmgaaIx5
import Derived.Test.YtojpmjkphgjmgaaIx6
import Derived.Test.YtojpmjkphgjmgaaIxAwake
set_option linter.unusedVariables false
namespace Go.Proofs.Ytojpmjkphgjmgaa.Pure
open Go.RowKit Go.Proofs.Ytojpmjkphgjmgaa.H Go.Proofs.YtojpmjkphgjmgaaW.PrintWords Go.Proofs.Ytojpmjkphgjmgaa.Ix

theorem tells_awake (a b c d : Int) (l : List S60) (r : List S46) (key : ByteArray) (v : Int) (k : Nat) (hk : 61 ≤ k) : samphirelaw12_IndexTells.j0 k key v true a b l c d r = some true := by
  obtain ⟨k, rfl⟩ : ∃ k', k = k' + 1 := ⟨k - 1, by omega⟩
  rw [samphirelaw12_IndexTells.j0, if_pos rfl, awake_bind k (by omega)]
theorem tells_j1 (a b : Int) (l : List S60) (key : ByteArray) (v e f : Int) (m d : List S60) (hm' : m.length ≤ 9000) (hd : d.length ≤ 9000) (k : Nat) (hk : 30000000 ≤ k)
    (hp : ∀ k, 30000 ≤ k → samphireref12_Put.f k a b (l.map cv) key v = some (a, b, m.map cv, e)) (hq : ∀ k, 30000000 ≤ k → samphireref12_Delete.f k a b (l.map cv) key = some (a, b, d.map cv, f)) :
    samphirelaw12_IndexTells.j1 (k + 1) key v e f false a b (l.map cv) a b m a b d = some true := by
  rw [samphirelaw12_IndexTells.j1, if_neg (by exact Bool.noConfusion), hp k (by omega), Option.bind_some, hq k hk, Option.bind_some, ref_eq a b m (by omega) k (by omega), Option.bind_some, same_eq a b a b m m hm' k (by omega), Option.bind_some, if_pos (yes_true ⟨rfl, rfl, rfl⟩), if_pos rfl, ref_eq a b d (by omega) k (by omega), Option.bind_some, same_eq a b a b d d hd k (by omega), Option.bind_some, if_pos (yes_true ⟨rfl, rfl, rfl⟩), if_pos rfl, awake_bind k (by omega)]
theorem into_len {a b : Int} {l l' : List S60} {key : ByteArray} {q : Nat} {s : S60} (h : Rt a b l) (hin : Into a b l key l' q) : (l'.set q s).length ≤ 9000 := by
  have h1 := pw_le hin.rt.1
  rw [List.length_set]
  omega
theorem tells_right (a b : Int) (l : List S60) (key : ByteArray) (v : Int) (hs : key.size ≤ 100) (hsm : Small l) (h : Rt a b l) (k : Nat) (hk : 30000001 ≤ k) : samphirelaw12_IndexTells.j0 (k + 1) key v false a b l a b (l.map cv) = some true := by
  have h1 := pw_le h.1
  obtain ⟨q, hq⟩ := rt_pos h key
  obtain ⟨m, e, p1, p2, p3⟩ := put_sum h key hs v
  obtain ⟨d, f, d1, d2, d3⟩ := del_sum h key hs
  have hml : m.length ≤ 9000 := by
    rcases p3 with ⟨_, rfl, _⟩ | ⟨_, _, l', q', hin, rfl⟩
    · omega
    · exact into_len h hin
  have hdl : d.length ≤ 9000 := by
    rcases d3 with ⟨_, rfl, _⟩ | ⟨_, _, hd, _⟩
    · omega
    · omega
  obtain ⟨k, rfl⟩ : ∃ k', k = k' + 1 := ⟨k - 1, by omega⟩
  have hj := fun k hk => tells_j1 a b l key v e f m d hml hdl k hk p2 d2
  rw [samphirelaw12_IndexTells.j0, if_neg (by exact Bool.noConfusion), rright_eq a b l hsm (k + 1) (by omega), Option.bind_some, get_eq h hq hs (k + 1) (by omega), Option.bind_some, p1 (k + 1) (by omega), Option.bind_some, d1 (k + 1) (by omega), Option.bind_some, right_eq a b l (k + 1) (by omega), Option.bind_some, yes_true h, if_neg (by decide), if_pos rfl]
  rcases find_eq a b l key (by omega) (k + 1) (by omega) with ⟨j, hjl, hju, hjk, e'⟩ | ⟨hno, e'⟩
  · have hin : In l key := ⟨j, hjl, hju, hjk⟩
    have hu := (pos_in (by omega) h.2.2.2 hq).1 hin
    have ejq := good_inj (by omega) h.2.2.2 hjl hq.1 hju hu (hjk.trans (hq.2.2 hu).symm)
    subst ejq
    rw [e', Option.bind_some, many_good h (k + 1) (by omega), Option.bind_some, rmany_eq a b l (by omega) (k + 1) (by omega), Option.bind_some, if_pos rfl]
    have hu' : (G l j).f0 = true := hu
    rw [hu', if_neg (by simp), if_pos (by omega), if_pos (by omega), if_pos (by rw [List.length_map]; omega), cv_rd, cv_f2, if_pos rfl, if_neg (by omega)]
    exact hj k (by omega)
  · have hnin : ¬ In l key := fun ⟨j, h1, h2, h3⟩ => hno j h1 ⟨h2, h3⟩
    have hu : ¬ us l q := fun hu => hnin ((pos_in (by omega) h.2.2.2 hq).2 hu)
    have hz := sound_free (h.2.2.1 q hq.1) hu
    rw [e', Option.bind_some, many_good h (k + 1) (by omega), Option.bind_some, rmany_eq a b l (by omega) (k + 1) (by omega), Option.bind_some, if_pos rfl, hz]
    rw [if_neg (by decide), if_neg (by decide), if_pos (by decide), show ((z60.f2 : Int) != 0) = false from rfl]
    exact hj k (by omega)
theorem tells_wrong (a b : Int) (l : List S60) (key : ByteArray) (v : Int) (hsm : Small l) (h : ¬ Rt a b l) (k : Nat) (hk : 30000 ≤ k) : samphirelaw12_IndexTells.j0 (k + 1) key v false a b l a b (l.map cv) = some true := by
  have hn := hsm.1
  rw [samphirelaw12_IndexTells.j0, if_neg (by exact Bool.noConfusion), rright_eq a b l hsm k (by omega), Option.bind_some, get_bad h k (by omega), Option.bind_some, put_bad h key v k (by omega), Option.bind_some, del_bad h key k (by omega), Option.bind_some, right_eq a b l k (by omega), Option.bind_some, yes_false h, if_neg (by decide), if_neg (by decide), many_bad h k (by omega), Option.bind_some, if_pos rfl, if_pos rfl, if_neg (by decide), if_pos rfl, if_pos rfl, ref_eq a b l (by omega) k (by omega), Option.bind_some, same_eq a b a b l l (by omega) k (by omega), Option.bind_some, if_pos (yes_true ⟨rfl, rfl, rfl⟩), Option.bind_some, same_eq a b a b l l (by omega) k (by omega), Option.bind_some, if_pos (yes_true ⟨rfl, rfl, rfl⟩), awake_bind k (by omega)]
theorem IndexTells : samphirelaw12_IndexTells.Pure := by
  intro x key v hx hk hv
  obtain ⟨⟨a, b⟩, l⟩ := x
  have hn : l.length < 4398046511104 := by have h := hx.2.1; simp only at h; omega
  refine ⟨l.length + 40000001, ?_⟩
  simp only
  obtain ⟨K, hK⟩ : ∃ K, K = l.length + 40000000 := ⟨_, rfl⟩
  rw [show l.length + 40000001 = K + 1 by omega]
  unfold samphirelaw12_IndexTells.f
  rw [ref_eq a b l hn (K + 1) (by omega), Option.bind_some, small_eq a b l (K + 1) (by omega), Option.bind_some]
  by_cases hsm : Small l
  · rw [if_pos (yes_true hsm)]
    by_cases hs : key.size > 100
    · rw [decide_eq_true (by omega), tells_awake _ _ _ _ _ _ key v (K + 1) (by omega)]
    · rw [decide_eq_false (by omega)]
      by_cases h : Rt a b l
      · exact tells_right a b l key v (by omega) hsm h K (by omega)
      · exact tells_wrong a b l key v hsm h K (by omega)
  · rw [if_neg (by rw [yes_false hsm]; decide), tells_awake _ _ _ _ _ _ key v (K + 1) (by omega)]
end Go.Proofs.Ytojpmjkphgjmgaa.Pure
