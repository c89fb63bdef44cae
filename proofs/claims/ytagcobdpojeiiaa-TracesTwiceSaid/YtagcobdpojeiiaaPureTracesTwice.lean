/- The law TracesTwice, in plain Lean: what is expired twice is expired once, by the greater cutoff; so is a store that is merged with an empty one. -/
import Derived.Test.YtagcobdpojeiiaaHx20
import Derived.Test.YtagcobdpojeiiaaHqTracesTwice
import Derived.Test.YtagcobdpojeiiaaTr
set_option linter.unusedVariables false
set_option linter.unusedSimpArgs false
namespace Go.Proofs.Ytagcobdpojeiiaa.Pure
open Go.RowKit Go.Proofs.Ytagcobdpojeiiaa.H Go.Proofs.YtagcobdpojeiiaaW.PrintWords Go.Proofs.YtagcobdpojeiiaaW.PrintMore Go.Proofs.Ytagcobdpojeiiaa.Tr

theorem twice_out {a b E L M W x y : Int} {l : List S63} : Ev (fun k => l22_TracesTwice.j0 k x y true a b E L M W l) true :=
  Ev.step (fun k => by rw [l22_TracesTwice.j0, if_pos rfl]) awake_id
section
variable {a b : Int} {E L M : Nat}
theorem S_expire {w c : Int} {l : List S29} (h : RR a b E L M (S a b E L M w l).1 (S a b E L M w l).2) (hc : 0 ≤ c ∧ c ≤ MX) : Ev (fun k => t_Expire.f k a b E L M (S a b E L M w l).1 (S a b E L M w l).2 c) (a, b, (E : Int), (L : Int), (M : Int), (S a b E L M (max w c) l).1, (S a b E L M (max w c) l).2, 0) := by
  have h1 := Expire_ev h hc
  rw [S_raise] at h1
  exact h1
end
theorem TracesTwice : l22_TracesTwice.Pure := by
  intro x u v hx hu hv
  obtain ⟨⟨a, b⟩, E, L, M, W, l⟩ := x
  have hlo : LO l := ok_lo hx
  refine Ev.rounds (r := true) ?_
  show Ev (fun k => l22_TracesTwice.f k a b E L M W l u v) true
  obtain ⟨s, hs⟩ := small_ev a b E L M W hlo
  have hu0 : 0 ≤ u := hu.1
  have hv0 : 0 ≤ v := hv.1
  have e : ∀ z : Int, 0 ≤ z → ∃ c, wrap64 (Int.tmod z 2147483648) = c ∧ 0 ≤ c ∧ c ≤ MX := fun z hz => by
    refine ⟨_, rfl, ?_⟩
    rw [Int.tmod_eq_emod_of_nonneg hz]
    unfold wrap64 MX
    omega
  obtain ⟨x, ex, hx0⟩ := e u hu0
  obtain ⟨y, ey, hy0⟩ := e v hv0
  unfold l22_TracesTwice.f
  rw [ex, ey]
  refine Ev.bind (ref_ev a b E L M W hlo) (Ev.bind hs ?_)
  cases s with
  | false => exact Ev.cong (fun k => if_neg (by decide)) twice_out
  | true =>
    refine Ev.cong (fun k => if_pos rfl) ?_
    refine Ev.bind (a := yes (RR a b E L M W l)) ⟨30, fun k hk => right_eq a b E L M W l k hk⟩ ?_
    by_cases hR : RR a b E L M W l
    case neg => rw [yes_false hR]; exact twice_out
    rw [yes_true hR]
    obtain ⟨E, rfl⟩ := nat_of hR.1.1.1
    obtain ⟨L, rfl⟩ := nat_of hR.1.2.1.1
    obtain ⟨M, rfl⟩ := nat_of hR.1.2.2.1.1
    obtain ⟨n1, n2, n3, n4, n5⟩ := nums hR
    have hm := rr_mr hR
    have em : mx x y = max x y := by unfold mx; split <;> omega
    obtain ⟨z, hz⟩ : ∃ z, z = max x y := ⟨_, rfl⟩
    have hz0 : 0 ≤ z ∧ z ≤ MX := by omega
    have sR : ∀ (w : Int), 0 ≤ w ∧ w ≤ MX → RR a b E L M (S a b E L M w (fl l)).1 (S a b E L M w (fl l)).2 := fun w hw => S_rr n1 n2 n3 hw hm
    have p0 : RR a b E L M (S a b E L M W (fl l)).1 (S a b E L M W (fl l)).2 := by rw [S_id hR]; exact hR
    -- the answers
    have a1 := S_expire p0 hx0
    rw [S_id hR] at a1
    have a2 := S_expire (sR (max W x) (by omega)) hy0
    rw [show max (max W x) y = max W z by omega] at a2
    have a3 := S_expire p0 hz0
    rw [S_id hR] at a3
    have a4 := Expire_ev (rr_empty (a := a) (b := b) n1 n2 n3) hz0
    have e0 : raise z ((0 : Int), ([] : List S63)) = (z, []) := by
      unfold raise
      simp only
      rw [show max 0 z = z by omega]
      rfl
    rw [e0] at a4
    have rz : RR a b E L M z [] := ⟨⟨by omega, by omega, by omega, hz0⟩, .inl rfl⟩
    have a5 := Merge_ev hR rz
    rw [show (fl ([] : List S63)) = [] from rfl, List.append_nil] at a5
    have a6 := Merge_ev rz hR
    rw [show (fl ([] : List S63)) = [] from rfl, List.nil_append, show max z W = max W z by omega] at a6
    have hq := sR (max W z) (by omega)
    obtain ⟨⟨W', l'⟩, hS⟩ : ∃ q, q = S a b E L M (max W z) (fl l) := ⟨_, rfl⟩
    rw [← hS] at a2 a3 a5 a6 hq
    have hlo' := (rr_lo hq).1
    have hr := ref_ev a b E L M W' hlo'
    have hs := same_refl a b E L M W' hlo'
    refine Ev.step (g := fun k => l22_TracesTwice.j0 k x y (!true) a b E L M W l) (fun k => by rw [l22_TracesTwice.j0, if_neg (by decide), em, ← hz]) (Ev.bind a1 (Ev.bind a2 (Ev.bind a3 (Ev.bind (New_ev n1 n2 n3) (Ev.bind a4 (Ev.bind a5 (Ev.bind a6 (Ev.bind hr ?_))))))))
    refine Ev.cong (fun k => if_pos rfl) (Ev.cong (fun k => if_pos rfl) (Ev.cong (fun k => if_pos rfl) (Ev.cong (fun k => if_pos rfl) (Ev.bind hr (Ev.bind hs (Ev.cong (fun k => if_pos rfl) (Ev.bind hr (Ev.bind hs (Ev.cong (fun k => if_pos rfl) (Ev.bind hr (Ev.bind hs (Ev.cong (fun k => if_pos rfl) awake_id))))))))))))
end Go.Proofs.Ytagcobdpojeiiaa.Pure
