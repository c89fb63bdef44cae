/- The law TracesAgain, in plain Lean: a store that is merged with itself, and to which its own records come again, stays as it is; its records make it. -/
import Derived.Test.YtagcobdpojeiiaaHx20
import Derived.Test.YtagcobdpojeiiaaHqTracesAgain
import Derived.Test.YtagcobdpojeiiaaTr
set_option linter.unusedVariables false
set_option linter.unusedSimpArgs false
namespace Go.Proofs.Ytagcobdpojeiiaa.Pure
open Go.RowKit Go.Proofs.Ytagcobdpojeiiaa.H Go.Proofs.YtagcobdpojeiiaaW.PrintWords Go.Proofs.YtagcobdpojeiiaaW.PrintMore Go.Proofs.Ytagcobdpojeiiaa.Tr

theorem again_out {a b E L M W : Int} {l : List S63} : Ev (fun k => l22_TracesAgain.j0 k true a b E L M W l) true :=
  Ev.step (fun k => by rw [l22_TracesAgain.j0, if_pos rfl]) awake_id
section
variable {a b : Int} {E L M : Nat}
theorem again_loop {W : Int} {l : List S63} (hR : RR a b E L M W l) :
    ∀ (d i : Nat), (fl l).length = i + d → Ev (fun k => l22_TracesAgain.l0 k 0 0 (fl l) ((fl l).length : Int) (i : Int) a b E L M W l a b E L M W l a b E L M (S a b E L M W ((fl l).take i)).1 (S a b E L M W ((fl l).take i)).2 a b E L M (S a b E L M W (fl l ++ (fl l).take i)).1 (S a b E L M W (fl l ++ (fl l).take i)).2) true
  | 0, i, h => by
    have hlo := (rr_lo hR).1
    have e1 : S a b E L M W ((fl l).take i) = (W, l) := by rw [List.take_of_length_le (by omega), S_id hR]
    have e2 : S a b E L M W (fl l ++ (fl l).take i) = (W, l) := by rw [List.take_of_length_le (by omega), S_ext W (m := fl l) (fun r => by simp), S_id hR]
    rw [e1, e2]
    have hs := same_refl a b E L M W hlo
    have hr := ref_ev a b E L M W hlo
    refine Ev.step (fun k => by rw [l22_TracesAgain.l0, if_neg (by omega)]) (Ev.bind hr (Ev.cong (fun k => if_pos rfl) (Ev.cong (fun k => if_pos rfl) (Ev.bind hr (Ev.bind hs (Ev.cong (fun k => if_pos rfl) (Ev.bind hr (Ev.bind hs (Ev.cong (fun k => if_pos rfl) (Ev.bind hr (Ev.bind hs (Ev.cong (fun k => if_pos rfl) awake_id))))))))))))
  | d + 1, i, h => by
    obtain ⟨n1, n2, n3, n4, n5⟩ := nums hR
    have hm := rr_mr hR
    have hi : i < (fl l).length := by omega
    have hn : (fl l).length < BN := by have := (rr_lo hR).2; unfold B3 at this; unfold BN; omega
    have q1 : RR a b E L M (S a b E L M W ((fl l).take i)).1 (S a b E L M W ((fl l).take i)).2 := S_rr n1 n2 n3 ⟨n4, n5⟩ (fun r hr => hm r (mem_take hr))
    have q2 : RR a b E L M (S a b E L M W (fl l ++ (fl l).take i)).1 (S a b E L M W (fl l ++ (fl l).take i)).2 := S_rr n1 n2 n3 ⟨n4, n5⟩ (fun r hr => by rcases List.mem_append.1 hr with hr | hr; exact hm r hr; exact hm r (mem_take hr))
    have a1 := Add_ev q1 (hm _ (gtE hi))
    have a2 := Add_ev q2 (hm _ (gtE hi))
    rw [S_add, ← take_step hi] at a1
    rw [S_add, List.append_assoc, ← take_step hi] at a2
    have ih := again_loop hR d (i + 1) (by omega)
    refine Ev.step (fun k => ?_) (Ev.bind a1 (Ev.bind a2 (f := fun k bt => l22_TracesAgain.l0 k 0 0 (fl l) ((fl l).length : Int) ((i + 1 : Nat) : Int) a b E L M W l a b E L M W l a b E L M (S a b E L M W ((fl l).take (i + 1))).1 (S a b E L M W ((fl l).take (i + 1))).2 bt.1 bt.2.1 bt.2.2.1 bt.2.2.2.1 bt.2.2.2.2.1 bt.2.2.2.2.2.1 bt.2.2.2.2.2.2.1) ih) (f := fun k bu => (t_Add.f k a b E L M (S a b E L M W (fl l ++ (fl l).take i)).1 (S a b E L M W (fl l ++ (fl l).take i)).2 (fl l)[i].t (fl l)[i].n (fl l)[i].v (fl l)[i].id).bind fun bt => l22_TracesAgain.l0 k 0 0 (fl l) ((fl l).length : Int) ((i + 1 : Nat) : Int) a b E L M W l a b E L M W l bu.1 bu.2.1 bu.2.2.1 bu.2.2.2.1 bu.2.2.2.2.1 bu.2.2.2.2.2.1 bu.2.2.2.2.2.2.1 bt.1 bt.2.1 bt.2.2.1 bt.2.2.2.1 bt.2.2.2.2.1 bt.2.2.2.2.2.1 bt.2.2.2.2.2.2.1))
    rw [l22_TracesAgain.l0, if_pos (by omega), if_pos (by omega), if_pos (by omega), rdRc hi, succ64 hi hn]
end
theorem TracesAgain : l22_TracesAgain.Pure := by
  intro x hx
  obtain ⟨⟨a, b⟩, E, L, M, W, l⟩ := x
  have hlo : LO l := ok_lo hx
  refine Ev.rounds (r := true) ?_
  show Ev (fun k => l22_TracesAgain.f k a b E L M W l) true
  obtain ⟨s, hs⟩ := small_ev a b E L M W hlo
  refine Ev.bind (ref_ev a b E L M W hlo) (Ev.bind hs ?_)
  cases s with
  | false => exact Ev.cong (fun k => if_neg (by decide)) again_out
  | true =>
    refine Ev.cong (fun k => if_pos rfl) ?_
    refine Ev.bind (a := yes (RR a b E L M W l)) ⟨30, fun k hk => right_eq a b E L M W l k hk⟩ ?_
    by_cases hR : RR a b E L M W l
    case neg => rw [yes_false hR]; exact again_out
    rw [yes_true hR]
    obtain ⟨E, rfl⟩ := nat_of hR.1.1.1
    obtain ⟨L, rfl⟩ := nat_of hR.1.2.1.1
    obtain ⟨M, rfl⟩ := nat_of hR.1.2.2.1.1
    obtain ⟨n1, n2, n3, n4, n5⟩ := nums hR
    have hm := Merge_ev hR hR
    rw [show max W W = W by omega, S_ext W (m := fl l) (fun r => by simp), S_id hR] at hm
    have hx := Expire_ev (rr_empty (a := a) (b := b) n1 n2 n3) ⟨n4, n5⟩
    have e0 : raise W ((0 : Int), ([] : List S63)) = S a b E L M W [] := by
      unfold raise S mk
      simp only
      rw [show max 0 W = W by omega]
      rfl
    rw [e0] at hx
    have hl := again_loop hR (fl l).length 0 (by omega)
    rw [List.take_zero, List.append_nil, S_id hR] at hl
    exact Ev.step (g := fun k => l22_TracesAgain.j0 k (!true) a b E L M W l) (fun k => by rw [l22_TracesAgain.j0, if_neg (by decide)]) (Ev.bind hm (Ev.bind (New_ev n1 n2 n3) (Ev.bind hx (Ev.bind (List_ev hR) hl))))
end Go.Proofs.Ytagcobdpojeiiaa.Pure
