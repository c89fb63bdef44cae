/- The law IndexTwice, in plain Lean: a number that is put twice is put once; put anew it is the new one, and all others stay. -/
import Derived.Test.YtojpmjkphgjmgaaHqIndexTwice
import Derived.Test.YtojpmjkphgjmgaaIx4
import Derived.Test.YtojpmjkphgjmgaaIxAwake
set_option linter.unusedVariables false
namespace Go.Proofs.Ytojpmjkphgjmgaa.Pure
open Go.RowKit Go.Proofs.Ytojpmjkphgjmgaa.H Go.Proofs.YtojpmjkphgjmgaaW.PrintWords Go.Proofs.Ytojpmjkphgjmgaa.Ix

theorem twice_awake (a b : Int) (l : List S60) (key : ByteArray) (v w : Int) (k : Nat) (hk : 61 ≤ k) : samphirelaw12_IndexTwice.j0 k key v w true a b l = some true := by
  obtain ⟨k, rfl⟩ : ∃ k', k = k' + 1 := ⟨k - 1, by omega⟩
  rw [samphirelaw12_IndexTwice.j0, if_pos rfl, awake_bind k (by omega)]
theorem there_put {a b : Int} {l : List S60} {key : ByteArray} {q : Nat} (h : Rt a b l) (hp : Pos (hm a b l.length key) l key q) (hu : us l q) (v : Int) (hm' : May key v) :
    Rt a b (l.set q ⟨true, key, v⟩) ∧ Pos (hm a b (l.set q ⟨true, key, v⟩).length key) (l.set q ⟨true, key, v⟩) key q ∧ us (l.set q ⟨true, key, v⟩) q := by
  have hr := rt_set h hp hm' (.inl hu)
  have e1 : us (l.set q ⟨true, key, v⟩) q := by show (G _ q).f0 = true; rw [G_set_self hp.1]
  have e2 : ky (l.set q ⟨true, key, v⟩) q = key := by show (G _ q).f1 = key; rw [G_set_self hp.1]
  have := hr.2.2.2 q (by rw [List.length_set]; exact hp.1) e1
  rw [e2] at this
  exact ⟨hr, this, e1⟩
theorem twice_main (a b : Int) (l : List S60) (key : ByteArray) (v w : Int) (hs : key.size ≤ 100) (h : Rt a b l) (k : Nat) (hk : 30000 ≤ k) : samphirelaw12_IndexTwice.j0 (k + 1) key v w false a b l = some true := by
  have h1 := pw_le h.1
  obtain ⟨m, e, p1, p2, p3⟩ := put_sum h key hs v
  rw [samphirelaw12_IndexTwice.j0, if_neg (by exact Bool.noConfusion), p1 k hk, Option.bind_some]
  simp only
  rcases p3 with ⟨e0, rfl, _⟩ | ⟨rfl, hm', l', q, hin, rfl⟩
  · rw [p1 k hk, Option.bind_some, if_neg e0, ref_eq a b m (by omega) k (by omega), Option.bind_some, Option.bind_some, same_eq a b a b m m (by omega) k (by omega), Option.bind_some, if_pos (yes_true ⟨rfl, rfl, rfl⟩), awake_bind k (by omega)]
  have hr := rt_set hin.rt hin.pos hm' hin.room
  have hp' := hin.pos
  obtain ⟨g, hg⟩ : ∃ g, g = l'.set q ⟨true, key, v⟩ := ⟨_, rfl⟩
  have gq : G g q = ⟨true, key, v⟩ := by rw [hg]; exact G_set_self hp'.1
  have gu : us g q := by show (G g q).f0 = true; rw [gq]
  have gl : q < g.length := by rw [hg, List.length_set]; exact hp'.1
  rw [← hg] at hr ⊢
  have gp : Pos (hm a b g.length key) g key q := by
    have := hr.2.2.2 q gl gu
    rwa [show ky g q = key by show (G g q).f1 = key; rw [gq]] at this
  have h2 := pw_le hr.1
  have put_same : ∀ (x : List S60), x.length = g.length → x.set q ⟨true, key, v⟩ = g → ∀ k, 30000 ≤ k → Rt a b x → Pos (hm a b x.length key) x key q → us x q → index_Put.f k a b x key v = some (a, b, g, 0) := fun x hx he k hk hrx hpx hux => by rw [put_room hrx hpx v hm' (.inl hux) k (by omega), he]
  have gset : g.set q ⟨true, key, v⟩ = g := by rw [hg, List.set_set]
  rw [put_same g rfl gset k hk hr gp gu, Option.bind_some, if_pos rfl]
  simp only
  have same : ∀ k, 30000 ≤ k → ∀ x : List S60, x.length ≤ 9000 → samphireref12_Same.f k a b (x.map cv) a b (x.map cv) = some true := fun k hk x hx => by rw [same_eq a b a b x x hx k (by omega), yes_true ⟨rfl, rfl, rfl⟩]
  have fin : ∀ (k : Nat), 30000 ≤ k → ∀ n : Int, n = w → samphirelaw12_IndexTwice.j1 (k + 1) w 0 0 n true a b g a b g a b g = some true := fun k hk n hn => by
    rw [samphirelaw12_IndexTwice.j1, if_pos rfl, ref_eq a b g (by omega) k (by omega), Option.bind_some, Option.bind_some, same k hk g (by omega), Option.bind_some, if_pos rfl, if_pos rfl, Option.bind_some, Option.bind_some, same k hk g (by omega), Option.bind_some, if_pos rfl, if_pos rfl, if_pos hn, awake_bind k (by omega)]
  obtain ⟨k, rfl⟩ : ∃ k', k = k' + 1 := ⟨k - 1, by omega⟩
  by_cases hw : May key w
  · obtain ⟨hr2, hp2, hu2⟩ := there_put hr gp gu w hw
    rw [put_room hr gp w hw (.inl gu) (k + 1) (by omega), Option.bind_some]
    simp only
    rw [put_same (g.set q ⟨true, key, w⟩) (by rw [List.length_set]) (by rw [List.set_set, gset]) (k + 1) hk hr2 hp2 hu2, Option.bind_some, get_eq hr2 hp2 hs (k + 1) (by omega), Option.bind_some, if_pos trivial]
    simp only
    have eG : G (g.set q ⟨true, key, w⟩) q = ⟨true, key, w⟩ := G_set_self gl
    rw [eG]
    by_cases hk2 : 30000 ≤ k
    · exact fin k hk2 w rfl
    · obtain rfl : k = 29999 := by omega
      rw [samphirelaw12_IndexTwice.j1, if_pos rfl, ref_eq a b g (by omega) _ (by omega), Option.bind_some, Option.bind_some, same_eq a b a b g g (by omega) _ (by omega), Option.bind_some, if_pos (yes_true ⟨rfl, rfl, rfl⟩), if_pos rfl, Option.bind_some, Option.bind_some, same_eq a b a b g g (by omega) _ (by omega), Option.bind_some, if_pos (yes_true ⟨rfl, rfl, rfl⟩), if_pos rfl, if_pos rfl, awake_bind _ (by omega)]
  · obtain ⟨c, e, c1, c2, c3⟩ := put_sum hr key hs w
    rcases c3 with ⟨e0, rfl, _⟩ | ⟨_, hw', _⟩
    · rw [c1 (k + 1) hk, Option.bind_some]
      simp only
      rw [put_same c rfl gset (k + 1) hk hr gp gu, Option.bind_some, get_eq hr gp hs (k + 1) (by omega), Option.bind_some, if_neg e0]
      by_cases hk2 : 30000 ≤ k
      · exact fin k hk2 w rfl
      · obtain rfl : k = 29999 := by omega
        rw [samphirelaw12_IndexTwice.j1, if_pos rfl, ref_eq a b c (by omega) _ (by omega), Option.bind_some, Option.bind_some, same_eq a b a b c c (by omega) _ (by omega), Option.bind_some, if_pos (yes_true ⟨rfl, rfl, rfl⟩), if_pos rfl, Option.bind_some, Option.bind_some, same_eq a b a b c c (by omega) _ (by omega), Option.bind_some, if_pos (yes_true ⟨rfl, rfl, rfl⟩), if_pos rfl, if_pos rfl, awake_bind _ (by omega)]
    · exact absurd hw' hw
theorem IndexTwice : samphirelaw12_IndexTwice.Pure := by
  intro x key v w hx hk hv hw
  obtain ⟨⟨a, b⟩, l⟩ := x
  have hn : l.length < 4398046511104 := by have h := hx.2.1; simp only at h; omega
  refine ⟨l.length + 40001, ?_⟩
  simp only
  obtain ⟨K, hK⟩ : ∃ K, K = l.length + 40000 := ⟨_, rfl⟩
  rw [show l.length + 40001 = K + 1 by omega]
  unfold samphirelaw12_IndexTwice.f
  rw [ref_eq a b l hn (K + 1) (by omega), Option.bind_some, small_eq a b l (K + 1) (by omega), Option.bind_some]
  by_cases hsm : Small l
  · rw [if_pos (yes_true hsm)]
    by_cases hs : key.size > 100
    · rw [if_pos (by omega), twice_awake a b l key v w (K + 1) (by omega)]
    · rw [if_neg (by omega), right_eq a b l (K + 1) (by omega), Option.bind_some]
      by_cases h : Rt a b l
      · rw [yes_true h]
        exact twice_main a b l key v w (by omega) h K (by omega)
      · rw [yes_false h]
        exact twice_awake a b l key v w (K + 1) (by omega)
  · rw [if_neg (by rw [yes_false hsm]; decide), twice_awake a b l key v w (K + 1) (by omega)]
end Go.Proofs.Ytojpmjkphgjmgaa.Pure
