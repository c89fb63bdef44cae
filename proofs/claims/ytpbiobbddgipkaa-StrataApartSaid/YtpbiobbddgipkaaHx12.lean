import Derived.Test.YtpbiobbddgipkaaHx0
import Derived.Test.YtpbiobbddgipkaaHx7
import Derived.Test.YtpbiobbddgipkaaHx10
namespace Go.Proofs.Ytpbiobbddgipkaa.H
open Go.RowKit Go.Proofs.YtpbiobbddgipkaaW.PrintWords Go.Proofs.YtpbiobbddgipkaaW.PrintLast Go.Proofs.YtpbiobbddgipkaaW.PrintMore Go.Proofs.YtpbiobbddgipkaaW.Sq
attribute [local go_sem] max2_int min2_int max_two min_two max_three min_three max_four min_four
set_option linter.unusedVariables false
set_option linter.unusedSimpArgs false

set_option maxHeartbeats 4000000 in
theorem BinarySearchFuncL_calls (g : Nat) (lb : Array Value) (eg : ∀ args w, (callFunc g args).run Try.prog w = .ok (.enter g args) w) (p : S42 → Option Int) (x0 : ByteArray) (x1 : Int) (x2 : Int) (x3 : Int) (x4 : Int) (A1 : Option Addr) (c1 : Nat) (l1 : List S87) (A0 : Option Addr) (c0 : Nat) (l0 : List S42) (r : Int) (b : Bool) (w : World)
  (hr0 : Kd.C k42 w A0 l0.length l0) (hc0 : l0.length ≤ c0) (hn : l0.length < 4611686018427387904)
  (hp : ∀ (W : World) (y : S42) (A5 : Option Addr) (c5 : Nat) (c : Int), Below w.heap.size w W → y.f2.f2.length ≤ c5 → Kd.C k87 W A5 y.f2.f2.length y.f2.f2 → p y = some c → Calls Try.prog g (#[.agg #[.string y.f0, .int .u64 y.f1, .int .u64 y.f2.f0.f0, .int .u64 y.f2.f0.f1, .int .i64 y.f2.f1, .slice A5 y.f2.f2.length c5], .agg #[.string x0, .int .u64 x1, .int .u64 x2, .int .u64 x3, .int .i64 x4, .slice A1 l1.length c1]] ++ lb) W fun e w' => e = .returned (.int .i64 c) ∧ Below W.heap.size W w')
  (h : bsT p l0 z42 = some (r, b)) :
  Calls Try.prog 42 #[.slice A0 l0.length c0, .agg #[.string x0, .int .u64 x1, .int .u64 x2, .int .u64 x3, .int .i64 x4, .slice A1 l1.length c1], .func (.func g) #[] lb] w fun e w' => e = .returned (.tuple #[.int .i64 r, .bool b]) ∧ Below w.heap.size w w' := by
 obtain ⟨r0, h1, h2⟩ := Option.bind_eq_some_iff.1 h
 clear h
 have H1 := am h1
 clear h1
 have H2 := am h2
 clear h2
 have HP := am hp
 clear hp
 have HR := am hr0
 clear hr0
 have hu := Try.underlying42
 go_enter Try.func42, Try.ntmps42
 go_wp2
 go_loopg [9, 10] l0.length (fun gg s9 s10 wr => ∃ i j : Nat, s9 = .int .i64 i ∧ s10 = .int .i64 j ∧ i ≤ j ∧ j ≤ l0.length ∧ j - i ≤ gg ∧ Aside0 (Below w.heap.size w wr) ∧ Aside0 (wr.heap[w.heap.size]? = some (.cells #[.string x0, .int .u64 x1, .int .u64 x2, .int .u64 x3, .int .i64 x4, .slice A1 l1.length c1] 42 (0, 0))) ∧ Aside0 (∃ n, bsF p l0 z42 n i j = some r0))
 case atStart => exact ⟨0, l0.length, rfl, rfl, by omega, by omega, by omega, ⟨below_alloc (Below.refl _ w) _⟩, ⟨blk_new _ _⟩, ⟨_, H1.out⟩⟩
 case round =>
  clear H1
  obtain ⟨i, j, rfl, rfl, hij, hjl, hg, BW, BX, HH⟩ := hrel
  have hb : w.heap.size < wr.heap.size := blk_lt BX.out
  have xc0 := blk_cell BX.out 0
  have xc1 := blk_cell BX.out 1
  have xc2 := blk_cell BX.out 2
  have xc3 := blk_cell BX.out 3
  have xc4 := blk_cell BX.out 4
  have xc5 := blk_cell BX.out 5
  by_cases hlt : i < j
  ·obtain ⟨n, hF⟩ := HH.out
   clear HH
   obtain ⟨m, c, rfl, hc, hn'⟩ := bsF_step hF (by omega)
   have HN := am hn'
   clear hn' hF
   have e2 : ((i : Int) + (j : Int)) / 2 = (((i + j) / 2 : Nat) : Int) := by omega
   rw [e2] at hc HN
   rw [show (((i + j) / 2 : Nat) : Int).toNat = (i + j) / 2 from by omega] at hc
   have hh : (i + j) / 2 < l0.length := by omega
   have hq1 : i ≤ (i + j) / 2 := by omega
   have hq2 : (i + j) / 2 < j := by omega
   obtain ⟨ad, A5, c5, e, hx0, hx1, hx2, hx3, hx4, hx5, hl5, hC5⟩ := at_T42 (Kd.C_below HR.out BW.out) (((i + j) / 2 : Nat) : Int) (by omega) (by omega)
   cases e
   simp only [Int.toNat_natCast] at hx0 hx1 hx2 hx3 hx4 hx5
   have HC := am (HP.out wr.drew (rd_T42 l0 (((i + j) / 2 : Nat) : Int)) A5 c5 c (below_drew1 BW.out) hl5 (Kd.C_drew hC5) hc)
   clear hl5 hC5 hc
   have E2 := am e2
   clear e2
   by_cases hc0 : c < 0
   ·have d0 : decide (c < 0) = true := decide_eq_true hc0
    go_wp2_with fail
    rw [E2.out]
    clear E2
    generalize (i + j) / 2 = q at *
    go_region_held3 (fun w' => w'.cell? ⟨w.heap.size, 0, none⟩ = some (.string x0) ∧ w'.cell? ⟨w.heap.size, 1, none⟩ = some (.int .u64 x1) ∧ w'.cell? ⟨w.heap.size, 2, none⟩ = some (.int .u64 x2) ∧ w'.cell? ⟨w.heap.size, 3, none⟩ = some (.int .u64 x3) ∧ w'.cell? ⟨w.heap.size, 4, none⟩ = some (.int .i64 x4) ∧ w'.cell? ⟨w.heap.size, 5, none⟩ = some (.slice A1 l1.length c1) ∧ w'.cell? (ad.add (q * 6)) = some (.string (rd_T42 l0 q).f0) ∧ w'.cell? ⟨(ad.add (q * 6)).block, (ad.add (q * 6)).off + 1, none⟩ = some (.int .u64 (rd_T42 l0 q).f1) ∧ w'.cell? ⟨(ad.add (q * 6)).block, (ad.add (q * 6)).off + 2, none⟩ = some (.int .u64 (rd_T42 l0 q).f2.f0.f0) ∧ w'.cell? ⟨(ad.add (q * 6)).block, (ad.add (q * 6)).off + 3, none⟩ = some (.int .u64 (rd_T42 l0 q).f2.f0.f1) ∧ w'.cell? ⟨(ad.add (q * 6)).block, (ad.add (q * 6)).off + 4, none⟩ = some (.int .i64 (rd_T42 l0 q).f2.f1) ∧ w'.cell? ⟨(ad.add (q * 6)).block, (ad.add (q * 6)).off + 5, none⟩ = some (.slice A5 (rd_T42 l0 q).f2.f2.length c5)) (go_keep) ((refine HC.out.mono ?_; rintro e w' ⟨rfl, hb'⟩; have yhx0 := (hb'.cell (World.block_lt_of_cell? wr.drew _ hx0)).trans hx0; have yhx1 := (hb'.cell (World.block_lt_of_cell? wr.drew _ hx1)).trans hx1; have yhx2 := (hb'.cell (World.block_lt_of_cell? wr.drew _ hx2)).trans hx2; have yhx3 := (hb'.cell (World.block_lt_of_cell? wr.drew _ hx3)).trans hx3; have yhx4 := (hb'.cell (World.block_lt_of_cell? wr.drew _ hx4)).trans hx4; have yhx5 := (hb'.cell (World.block_lt_of_cell? wr.drew _ hx5)).trans hx5; have yxc0 := (hb'.cell (World.block_lt_of_cell? wr.drew _ xc0)).trans xc0; have yxc1 := (hb'.cell (World.block_lt_of_cell? wr.drew _ xc1)).trans xc1; have yxc2 := (hb'.cell (World.block_lt_of_cell? wr.drew _ xc2)).trans xc2; have yxc3 := (hb'.cell (World.block_lt_of_cell? wr.drew _ xc3)).trans xc3; have yxc4 := (hb'.cell (World.block_lt_of_cell? wr.drew _ xc4)).trans xc4; have yxc5 := (hb'.cell (World.block_lt_of_cell? wr.drew _ xc5)).trans xc5))
    go_wp2
    go_roundg (j - (q + 1))
    case measure => omega
    case rel => exact ⟨q + 1, j, by simp, rfl, by omega, hjl, Nat.le_refl _, ⟨below_then (below_drew1 BW.out) (below_drew1 BW.out).size hb'⟩, ⟨blk_below (blk_drew BX.out) hb'⟩, ⟨m, by rcases HN.out with h | h <;> first | exact h.2 | exact absurd hc0 (by omega)⟩⟩
   ·have d0 : decide (c < 0) = false := decide_eq_false hc0
    go_wp2_with fail
    rw [E2.out]
    clear E2
    generalize (i + j) / 2 = q at *
    go_region_held3 (fun w' => w'.cell? ⟨w.heap.size, 0, none⟩ = some (.string x0) ∧ w'.cell? ⟨w.heap.size, 1, none⟩ = some (.int .u64 x1) ∧ w'.cell? ⟨w.heap.size, 2, none⟩ = some (.int .u64 x2) ∧ w'.cell? ⟨w.heap.size, 3, none⟩ = some (.int .u64 x3) ∧ w'.cell? ⟨w.heap.size, 4, none⟩ = some (.int .i64 x4) ∧ w'.cell? ⟨w.heap.size, 5, none⟩ = some (.slice A1 l1.length c1) ∧ w'.cell? (ad.add (q * 6)) = some (.string (rd_T42 l0 q).f0) ∧ w'.cell? ⟨(ad.add (q * 6)).block, (ad.add (q * 6)).off + 1, none⟩ = some (.int .u64 (rd_T42 l0 q).f1) ∧ w'.cell? ⟨(ad.add (q * 6)).block, (ad.add (q * 6)).off + 2, none⟩ = some (.int .u64 (rd_T42 l0 q).f2.f0.f0) ∧ w'.cell? ⟨(ad.add (q * 6)).block, (ad.add (q * 6)).off + 3, none⟩ = some (.int .u64 (rd_T42 l0 q).f2.f0.f1) ∧ w'.cell? ⟨(ad.add (q * 6)).block, (ad.add (q * 6)).off + 4, none⟩ = some (.int .i64 (rd_T42 l0 q).f2.f1) ∧ w'.cell? ⟨(ad.add (q * 6)).block, (ad.add (q * 6)).off + 5, none⟩ = some (.slice A5 (rd_T42 l0 q).f2.f2.length c5)) (go_keep) ((refine HC.out.mono ?_; rintro e w' ⟨rfl, hb'⟩; have yhx0 := (hb'.cell (World.block_lt_of_cell? wr.drew _ hx0)).trans hx0; have yhx1 := (hb'.cell (World.block_lt_of_cell? wr.drew _ hx1)).trans hx1; have yhx2 := (hb'.cell (World.block_lt_of_cell? wr.drew _ hx2)).trans hx2; have yhx3 := (hb'.cell (World.block_lt_of_cell? wr.drew _ hx3)).trans hx3; have yhx4 := (hb'.cell (World.block_lt_of_cell? wr.drew _ hx4)).trans hx4; have yhx5 := (hb'.cell (World.block_lt_of_cell? wr.drew _ hx5)).trans hx5; have yxc0 := (hb'.cell (World.block_lt_of_cell? wr.drew _ xc0)).trans xc0; have yxc1 := (hb'.cell (World.block_lt_of_cell? wr.drew _ xc1)).trans xc1; have yxc2 := (hb'.cell (World.block_lt_of_cell? wr.drew _ xc2)).trans xc2; have yxc3 := (hb'.cell (World.block_lt_of_cell? wr.drew _ xc3)).trans xc3; have yxc4 := (hb'.cell (World.block_lt_of_cell? wr.drew _ xc4)).trans xc4; have yxc5 := (hb'.cell (World.block_lt_of_cell? wr.drew _ xc5)).trans xc5))
    go_wp2
    go_roundg (q - i)
    case measure => omega
    case rel => exact ⟨i, q, rfl, by simp, by omega, by omega, Nat.le_refl _, ⟨below_then (below_drew1 BW.out) (below_drew1 BW.out).size hb'⟩, ⟨blk_below (blk_drew BX.out) hb'⟩, ⟨m, by rcases HN.out with h | h <;> first | exact h.2 | exact absurd h.1 (by omega)⟩⟩
  ·obtain rfl : j = i := by omega
   obtain ⟨n, hF⟩ := HH.out
   clear HH
   have er := bsF_end hF (by omega)
   subst er
   clear hF
   by_cases hl : j < l0.length
   ·have h2 := H2.out
    clear H2
    rw [if_pos (by omega), Option.bind_eq_some_iff] at h2
    obtain ⟨c, hc, h2⟩ := h2
    rw [Int.toNat_natCast] at hc
    simp only [Option.some.injEq, Prod.mk.injEq] at h2
    obtain ⟨rfl, rfl⟩ := h2
    obtain ⟨ad, A5, c5, e, hx0, hx1, hx2, hx3, hx4, hx5, hl5, hC5⟩ := at_T42 (Kd.C_below HR.out BW.out) (j : Int) (by omega) (by omega)
    cases e
    simp only [Int.toNat_natCast] at hx0 hx1 hx2 hx3 hx4 hx5
    have HC := am (HP.out wr.drew (rd_T42 l0 (j : Int)) A5 c5 c (below_drew1 BW.out) hl5 (Kd.C_drew hC5) hc)
    clear hl5 hC5 hc
    have d0 : decide ((j : Int) < (l0.length : Int)) = true := decide_eq_true (by omega)
    go_wp2_with fail
    go_region_held3 (fun w' => w'.cell? ⟨w.heap.size, 0, none⟩ = some (.string x0) ∧ w'.cell? ⟨w.heap.size, 1, none⟩ = some (.int .u64 x1) ∧ w'.cell? ⟨w.heap.size, 2, none⟩ = some (.int .u64 x2) ∧ w'.cell? ⟨w.heap.size, 3, none⟩ = some (.int .u64 x3) ∧ w'.cell? ⟨w.heap.size, 4, none⟩ = some (.int .i64 x4) ∧ w'.cell? ⟨w.heap.size, 5, none⟩ = some (.slice A1 l1.length c1) ∧ w'.cell? (ad.add (j * 6)) = some (.string (rd_T42 l0 j).f0) ∧ w'.cell? ⟨(ad.add (j * 6)).block, (ad.add (j * 6)).off + 1, none⟩ = some (.int .u64 (rd_T42 l0 j).f1) ∧ w'.cell? ⟨(ad.add (j * 6)).block, (ad.add (j * 6)).off + 2, none⟩ = some (.int .u64 (rd_T42 l0 j).f2.f0.f0) ∧ w'.cell? ⟨(ad.add (j * 6)).block, (ad.add (j * 6)).off + 3, none⟩ = some (.int .u64 (rd_T42 l0 j).f2.f0.f1) ∧ w'.cell? ⟨(ad.add (j * 6)).block, (ad.add (j * 6)).off + 4, none⟩ = some (.int .i64 (rd_T42 l0 j).f2.f1) ∧ w'.cell? ⟨(ad.add (j * 6)).block, (ad.add (j * 6)).off + 5, none⟩ = some (.slice A5 (rd_T42 l0 j).f2.f2.length c5)) (go_keep) ((refine HC.out.mono ?_; rintro e w' ⟨rfl, hb'⟩; have yhx0 := (hb'.cell (World.block_lt_of_cell? wr.drew _ hx0)).trans hx0; have yhx1 := (hb'.cell (World.block_lt_of_cell? wr.drew _ hx1)).trans hx1; have yhx2 := (hb'.cell (World.block_lt_of_cell? wr.drew _ hx2)).trans hx2; have yhx3 := (hb'.cell (World.block_lt_of_cell? wr.drew _ hx3)).trans hx3; have yhx4 := (hb'.cell (World.block_lt_of_cell? wr.drew _ hx4)).trans hx4; have yhx5 := (hb'.cell (World.block_lt_of_cell? wr.drew _ hx5)).trans hx5; have yxc0 := (hb'.cell (World.block_lt_of_cell? wr.drew _ xc0)).trans xc0; have yxc1 := (hb'.cell (World.block_lt_of_cell? wr.drew _ xc1)).trans xc1; have yxc2 := (hb'.cell (World.block_lt_of_cell? wr.drew _ xc2)).trans xc2; have yxc3 := (hb'.cell (World.block_lt_of_cell? wr.drew _ xc3)).trans xc3; have yxc4 := (hb'.cell (World.block_lt_of_cell? wr.drew _ xc4)).trans xc4; have yxc5 := (hb'.cell (World.block_lt_of_cell? wr.drew _ xc5)).trans xc5))
    go_wp2
    go_ret2
    exact ⟨rfl, below_then (below_drew1 BW.out) (below_drew1 BW.out).size hb'⟩
   ·have h2 := H2.out
    clear H2
    rw [if_neg (by omega)] at h2
    simp only [Option.some.injEq, Prod.mk.injEq] at h2
    obtain ⟨rfl, rfl⟩ := h2
    have d0 : decide ((j : Int) < (l0.length : Int)) = false := decide_eq_false (by omega)
    go_wp2
    go_region
    go_wp2
    go_ret2
    exact ⟨rfl, below_drew1 BW.out⟩
def strataP (k : Nat) (x0 : ByteArray) (x1 x2 x3 x4 : Int) (l1 : List S87) (y : S42) : Option Int := strata_compare.f k y.f0 y.f1 y.f2.f0.f0 y.f2.f0.f1 y.f2.f1 y.f2.f2 x0 x1 x2 x3 x4 l1
def strata_Label_42.f (k : Nat) (l0 : List S42) (x0 : ByteArray) (x1 x2 x3 x4 : Int) (l1 : List S87) : Option (Int × Bool) := if l0.length < 1000000 then bsT (strataP k x0 x1 x2 x3 x4 l1) l0 z42 else none
theorem strata_Label_42.mono : ∀ a0 a1 a2 a3 a4 a5 a6 k, LeO (strata_Label_42.f k a0 a1 a2 a3 a4 a5 a6) (strata_Label_42.f (k + 1) a0 a1 a2 a3 a4 a5 a6) := by
 intro a0 a1 a2 a3 a4 a5 a6 k
 exact LeO.ite (bsT_leo (fun y => strata_compare.mono _ _ _ _ _ _ _ _ _ _ _ _ k) _ _) (LeO.refl _)
theorem strata_Label_42.calls (k : Nat) (A0 : Option Addr) (c0 : Nat) (l0 : List S42) (x0 : ByteArray) (x1 x2 x3 x4 : Int) (A1 : Option Addr) (c1 : Nat) (l1 : List S87) (r : Int) (b : Bool) (w : World) (hr0 : Kd.C k42 w A0 l0.length l0) (hc0 : l0.length ≤ c0) (hr1 : Kd.C k87 w A1 l1.length l1) (hc1 : l1.length ≤ c1) (h : strata_Label_42.f k l0 x0 x1 x2 x3 x4 l1 = some (r, b)) :
  Calls Try.prog 42 #[.slice A0 l0.length c0, .agg #[.string x0, .int .u64 x1, .int .u64 x2, .int .u64 x3, .int .i64 x4, .slice A1 l1.length c1], .func (.func 39) #[] #[]] w fun e w' => e = .returned (.tuple #[.int .i64 r, .bool b]) ∧ Below w.heap.size w w' := by
 unfold strata_Label_42.f at h
 split at h
 case isFalse => cases h
 case isTrue hl =>
 have eg : ∀ args w, (callFunc 39 args).run Try.prog w = .ok (.enter 39 args) w := enter_at Try.func39 (by kernel_rfl) rfl
 exact BinarySearchFuncL_calls 39 #[] eg (strataP k x0 x1 x2 x3 x4 l1) x0 x1 x2 x3 x4 A1 c1 l1 A0 c0 l0 r b w hr0 hc0 (by omega) (fun W y A5 c5 c hb h5 hC5 hc => by simpa using strata_compare.calls k _ _ _ _ _ A5 c5 y.f2.f2 _ _ _ _ _ A1 c1 l1 c W hC5 h5 (Kd.C_below hr1 hb) hc1 hc) h

end Go.Proofs.Ytpbiobbddgipkaa.H
