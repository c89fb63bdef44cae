/- The law TracesOld, in plain Lean: a record below the watermark makes nothing; behind any other one nothing older is there. -/
import Derived.Test.YtagcobdpojeiiaaHx20
import Derived.Test.YtagcobdpojeiiaaHqTracesOld
import Derived.Test.YtagcobdpojeiiaaTr
set_option linter.unusedVariables false
set_option linter.unusedSimpArgs false
namespace Go.Proofs.Ytagcobdpojeiiaa.Pure
open Go.RowKit Go.Proofs.Ytagcobdpojeiiaa.H Go.Proofs.YtagcobdpojeiiaaW.PrintWords Go.Proofs.YtagcobdpojeiiaaW.PrintMore Go.Proofs.Ytagcobdpojeiiaa.Tr

section
variable {a b E L M W t v : Int} {l : List S63} {n id : ByteArray}
theorem old_out : Ev (fun k => l22_TracesOld.j0 k true a b E L M W l t n v id) true :=
  Ev.step (fun k => by rw [l22_TracesOld.j0, if_pos rfl]) awake_id
theorem old_loop {x : List S29} (hn : x.length < BN) {b0 b1 b3 b4 W' : Int} {l' : List S63} {E' : Int} (hx : ∀ r ∈ x, W' ≤ r.f0 ∧ r.f0 ≤ W' + E' - 1) (hE : 1 ≤ E' ∧ E' ≤ 64) (hW : 0 ≤ W' ∧ W' ≤ MX) (he : W' = mx W (wrap64 (wrap64 (t - E) + 1))) :
    ∀ (d i : Nat), x.length = i + d → Ev (fun k => l22_TracesOld.l0 k x (x.length : Int) (i : Int) a b E L M W l t n v id b0 b1 E' b3 b4 W' l') true
  | 0, i, h => Ev.step (fun k => by rw [l22_TracesOld.l0, if_neg (by omega), if_pos he]) awake_id
  | d + 1, i, h => by
    have hi : i < x.length := by omega
    have h1 := hx _ (gtE hi)
    unfold MX at hW
    have e : wrap64 (wrap64 (W' + E') - 1) = W' + E' - 1 := by unfold wrap64; omega
    refine Ev.step (fun k => ?_) (old_loop (b0 := b0) (b1 := b1) (b3 := b3) (b4 := b4) (l' := l') hn hx hE hW he d (i + 1) (by omega))
    rw [l22_TracesOld.l0, if_pos (by omega), if_pos (by omega), if_pos (by omega), rdRc hi, if_neg (by omega), e, if_neg (by omega), succ64 hi hn]
end
theorem TracesOld : l22_TracesOld.Pure := by
  intro x r hx hr
  obtain ⟨⟨a, b⟩, E, L, M, W, l⟩ := x
  have hlo : LO l := ok_lo hx
  refine Ev.rounds (r := true) ?_
  show Ev (fun k => l22_TracesOld.f k a b E L M W l r.f0 r.f1 r.f2 r.f3) true
  obtain ⟨s, hs⟩ := small_ev a b E L M W hlo
  refine Ev.bind (ref_ev a b E L M W hlo) (Ev.bind hs ?_)
  cases s with
  | false => exact Ev.cong (fun k => if_neg (by decide)) old_out
  | true =>
    refine Ev.cong (fun k => if_pos rfl) ?_
    refine Ev.bind (a := yes (RR a b E L M W l)) ⟨30, fun k hk => right_eq a b E L M W l k hk⟩ ?_
    by_cases hR : RR a b E L M W l
    case neg => exact Ev.cong (fun k => if_neg (by rw [yes_false hR]; decide)) old_out
    refine Ev.cong (fun k => if_pos (yes_true hR)) ?_
    refine Ev.cong (f := fun k => l22_TracesOld.j0 k (!(yes (Mr r))) a b E L M W l r.f0 r.f1 r.f2 r.f3) (fun k => by rw [may_eq]; rfl) ?_
    by_cases hr : Mr r
    case neg => rw [yes_false hr]; exact old_out
    rw [yes_true hr]
    obtain ⟨E, rfl⟩ := nat_of hR.1.1.1
    obtain ⟨L, rfl⟩ := nat_of hR.1.2.1.1
    obtain ⟨M, rfl⟩ := nat_of hR.1.2.2.1.1
    obtain ⟨n1, n2, n3, n4, n5⟩ := nums hR
    have hA := Add_ev hR hr
    have hR' := add_rr hR hr
    have hw := add_w (a := a) (b := b) (E := E) (L := L) (M := M) W l r
    have hm : Mr r := hr
    obtain ⟨⟨W', l'⟩, hq⟩ : ∃ q, q = add ltK (Hs a b) E L M (W, l) r := ⟨_, rfl⟩
    rw [← hq] at hA hR' hw
    simp only at hA hR' hw
    refine Ev.step (g := fun k => l22_TracesOld.j0 k (!true) a b E L M W l r.f0 r.f1 r.f2 r.f3) (fun k => by rw [l22_TracesOld.j0, if_neg (by decide)]) (Ev.bind hA ?_)
    refine Ev.cong (fun k => if_pos rfl) ?_
    have hr0 : 0 ≤ r.f0 ∧ r.f0 ≤ 2147483647 := hm.1
    unfold MX at n5
    by_cases ht : r.f0 < W
    · have h0 : (W', l') = (W, l) := by
        rw [hq]
        unfold add
        rw [raise_id hR (by show r.f0 - E + 1 ≤ W; omega)]
        exact if_pos ht
      injection h0 with h1 h2
      subst h1 h2
      refine Ev.cong (fun k => if_pos ht) (Ev.bind (ref_ev a b E L M W' hlo) (Ev.bind (ref_ev a b E L M W' hlo) (Ev.bind (same_refl a b E L M W' hlo) ?_)))
      exact Ev.cong (fun k => if_pos rfl) awake_id
    · refine Ev.cong (fun k => if_neg ht) (Ev.bind (List_ev hR') ?_)
      obtain ⟨h1, h2⟩ := rr_lo hR'
      refine old_loop (by unfold B3 at h2; unfold BN; omega) (fun x hx => mem_fl (rr_gs hR') hx) (by omega) hR'.1.2.2.2 ?_ (fl l').length 0 (by omega)
      have e : wrap64 (wrap64 (r.f0 - E) + 1) = r.f0 - E + 1 := by unfold wrap64; omega
      rw [e, hw]
      unfold mx
      show max W (r.f0 - E + 1) = _
      split <;> omega
end Go.Proofs.Ytagcobdpojeiiaa.Pure
