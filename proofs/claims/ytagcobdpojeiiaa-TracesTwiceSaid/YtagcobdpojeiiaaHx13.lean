import Derived.Test.YtagcobdpojeiiaaHx0
import Derived.Test.YtagcobdpojeiiaaHx5
import Derived.Test.YtagcobdpojeiiaaHx6
import Derived.Test.YtagcobdpojeiiaaHx11
import Derived.Test.YtagcobdpojeiiaaHx12
namespace Go.Proofs.Ytagcobdpojeiiaa.H
open Go.RowKit Go.Proofs.YtagcobdpojeiiaaW.PrintWords Go.Proofs.YtagcobdpojeiiaaW.PrintLast Go.Proofs.YtagcobdpojeiiaaW.PrintMore Go.Proofs.YtagcobdpojeiiaaW.Sq
attribute [local go_sem] max2_int min2_int max_two min_two max_three min_three max_four min_four
set_option linter.unusedVariables false
set_option linter.unusedSimpArgs false

set_option maxHeartbeats 1000000 in
theorem CloneTr_calls (P : Nat → Prop) (A0 : Option Addr) (c0 : Nat) (l0 : List S91) (w : World) (hF : Kd.F k91 w P A0 l0.length l0) (hc0 : l0.length ≤ c0) (hl : l0.length < 1000000) :
    Calls Try.prog 60 #[.slice A0 l0.length c0] w fun e w' => ∃ v0_ : Value, e = .returned v0_ ∧ Kd.N k91 91 w' w.heap.size (fun k => P k ∨ w.heap.size ≤ k) v0_ l0 ∧ Below w.heap.size w w' := by
  have HF := am (Kd.F_bound hF);have HL := am (show l0.length * 24 ≤ 140737488355328 by omega);clear hl
  cases A0 with
  | none =>
    have h0 : l0 = [] := by
      rcases Nat.eq_zero_or_pos l0.length with h0 | h0
      · exact List.eq_nil_of_length_eq_zero h0
      · obtain ⟨ad, he, _⟩ := (Kd.F_now hF).2.2 h0
        cases he
    clear hF HF HL;subst h0
    have HE : ∀ W : World, (binOp .eql 82 (.slice none 0 c0) (.slice none 0 0)).run Try.prog W = .ok (.bool true) W := fun W => Lib.run_eql_slice_nil W 82 91 none _ c0 0 0 Try.underlying82
    go_enter Try.func60, Try.ntmps60
    go_wp2
    go_ret
    exact ⟨_, rfl, Kd.N_nil _ _ _ _ _, Below.refl _ _⟩
  | some ad =>
    clear hF
    have HE : ∀ W : World, (binOp .eql 82 (.slice (some ad) l0.length c0) (.slice none 0 0)).run Try.prog W = .ok (.bool false) W := fun W => Lib.run_eql_slice_nil W 82 91 (some ad) l0.length c0 0 0 Try.underlying82
    go_enter Try.func60, Try.ntmps60
    go_wp2_with (((with_reducible refine gate_builtin (b := .append) (xs := #[.tmp 5, .tmp 6]) rfl ?_); at_builtin; refine Kd.N_append_rows k91 (w0 := w) w.heap.size rfl (.tmp 5) (.tmp 6) 82 91 (.agg #[.string ⟨#[]⟩, .int .u64 0]) 24 rfl Try.underlying82 (by kernel_rfl) rfl (by decide) (by omega) (.slice (some ⟨w.heap.size, 0, none⟩) 0 0) [] l0 (some ad) l0.length c0 (fun k => P k ∨ w.heap.size ≤ k) (fun k => P k ∧ k < w.heap.size) rfl rfl ?aO ?aC ?aP ?aF ?aB ?aS ?aL ?_; (case aO => exact Kd.R_N ⟨fun k hk => .inr (by simp [Value.ownBlock] at hk; omega), [], World.ownsRow_lit (base := w.heap.size) (e := 91) (size := 2) w #[] 0 (Nat.le_refl _) (by decide) rfl, Reps.none _ _⟩); (case aC => exact Kd.F_alloc HF.out _); (case aP => exact fun k_ hk_ => ⟨.inl hk_.1, fun e => by simp [Value.ownBlock] at e; have := hk_.2; omega⟩); (case aF => exact fun k hk => .inr (by simp at hk; omega)); (case aB => exact below_alloc (Below.refl _ _) _); (case aS => exact (below_alloc (Below.refl _ _) _).size); (case aL => simpa using HL.out); intro v1 w1 hr hb hg hat; have HN1 := am hr; have HB1 := am hb; clear hr hb hg hat))
    go_ret
    exact ⟨_, rfl, by have h := HN1.out; rwa [List.nil_append] at h, HB1.out⟩
set_option maxHeartbeats 1000000 in
theorem CloneBk_calls (P : Nat → Prop) (A0 : Option Addr) (c0 : Nat) (l0 : List S84) (w : World) (hF : Kd.F k84 w P A0 l0.length l0) (hc0 : l0.length ≤ c0) (hl : l0.length < 1000000) :
    Calls Try.prog 66 #[.slice A0 l0.length c0] w fun e w' => ∃ v0_ : Value, e = .returned v0_ ∧ Kd.N k84 84 w' w.heap.size (fun k => P k ∨ w.heap.size ≤ k) v0_ l0 ∧ Below w.heap.size w w' := by
  have HF := am (Kd.F_bound hF);have HL := am (show l0.length * 32 ≤ 140737488355328 by omega);clear hl
  cases A0 with
  | none =>
    have h0 : l0 = [] := by
      rcases Nat.eq_zero_or_pos l0.length with h0 | h0
      · exact List.eq_nil_of_length_eq_zero h0
      · obtain ⟨ad, he, _⟩ := (Kd.F_now hF).2.2 h0
        cases he
    clear hF HF HL;subst h0
    have HE : ∀ W : World, (binOp .eql 65 (.slice none 0 c0) (.slice none 0 0)).run Try.prog W = .ok (.bool true) W := fun W => Lib.run_eql_slice_nil W 65 84 none _ c0 0 0 Try.underlying65
    go_enter Try.func66, Try.ntmps66
    go_wp2
    go_ret
    exact ⟨_, rfl, Kd.N_nil _ _ _ _ _, Below.refl _ _⟩
  | some ad =>
    clear hF
    have HE : ∀ W : World, (binOp .eql 65 (.slice (some ad) l0.length c0) (.slice none 0 0)).run Try.prog W = .ok (.bool false) W := fun W => Lib.run_eql_slice_nil W 65 84 (some ad) l0.length c0 0 0 Try.underlying65
    go_enter Try.func66, Try.ntmps66
    go_wp2_with (((with_reducible refine gate_builtin (b := .append) (xs := #[.tmp 5, .tmp 6]) rfl ?_); at_builtin; refine Kd.N_append_rows k84 (w0 := w) w.heap.size rfl (.tmp 5) (.tmp 6) 65 84 (.agg #[.int .i64 0, .slice none 0 0]) 32 rfl Try.underlying65 (by kernel_rfl) rfl (by decide) (by omega) (.slice (some ⟨w.heap.size, 0, none⟩) 0 0) [] l0 (some ad) l0.length c0 (fun k => P k ∨ w.heap.size ≤ k) (fun k => P k ∧ k < w.heap.size) rfl rfl ?aO ?aC ?aP ?aF ?aB ?aS ?aL ?_; (case aO => exact Kd.R_N ⟨fun k hk => .inr (by simp [Value.ownBlock] at hk; omega), [], World.ownsRow_lit (base := w.heap.size) (e := 84) (size := 2) w #[] 0 (Nat.le_refl _) (by decide) rfl, Reps.none _ _⟩); (case aC => exact Kd.F_alloc HF.out _); (case aP => exact fun k_ hk_ => ⟨.inl hk_.1, fun e => by simp [Value.ownBlock] at e; have := hk_.2; omega⟩); (case aF => exact fun k hk => .inr (by simp at hk; omega)); (case aB => exact below_alloc (Below.refl _ _) _); (case aS => exact (below_alloc (Below.refl _ _) _).size); (case aL => simpa using HL.out); intro v1 w1 hr hb hg hat; have HN1 := am hr; have HB1 := am hb; clear hr hb hg hat))
    go_ret
    exact ⟨_, rfl, by have h := HN1.out; rwa [List.nil_append] at h, HB1.out⟩
set_option maxHeartbeats 1000000 in
theorem CloneLb_calls (P : Nat → Prop) (A0 : Option Addr) (c0 : Nat) (l0 : List S67) (w : World) (hF : Kd.F k67 w P A0 l0.length l0) (hc0 : l0.length ≤ c0) (hl : l0.length < 1000000) :
    Calls Try.prog 69 #[.slice A0 l0.length c0] w fun e w' => ∃ v0_ : Value, e = .returned v0_ ∧ Kd.N k67 67 w' w.heap.size (fun k => P k ∨ w.heap.size ≤ k) v0_ l0 ∧ Below w.heap.size w w' := by
  have HF := am (Kd.F_bound hF);have HL := am (show l0.length * 48 ≤ 140737488355328 by omega);clear hl
  cases A0 with
  | none =>
    have h0 : l0 = [] := by
      rcases Nat.eq_zero_or_pos l0.length with h0 | h0
      · exact List.eq_nil_of_length_eq_zero h0
      · obtain ⟨ad, he, _⟩ := (Kd.F_now hF).2.2 h0
        cases he
    clear hF HF HL;subst h0
    have HE : ∀ W : World, (binOp .eql 61 (.slice none 0 c0) (.slice none 0 0)).run Try.prog W = .ok (.bool true) W := fun W => Lib.run_eql_slice_nil W 61 67 none _ c0 0 0 Try.underlying61
    go_enter Try.func69, Try.ntmps69
    go_wp2
    go_ret
    exact ⟨_, rfl, Kd.N_nil _ _ _ _ _, Below.refl _ _⟩
  | some ad =>
    clear hF
    have HE : ∀ W : World, (binOp .eql 61 (.slice (some ad) l0.length c0) (.slice none 0 0)).run Try.prog W = .ok (.bool false) W := fun W => Lib.run_eql_slice_nil W 61 67 (some ad) l0.length c0 0 0 Try.underlying61
    go_enter Try.func69, Try.ntmps69
    go_wp2_with (((with_reducible refine gate_builtin (b := .append) (xs := #[.tmp 5, .tmp 6]) rfl ?_); at_builtin; refine Kd.N_append_rows k67 (w0 := w) w.heap.size rfl (.tmp 5) (.tmp 6) 61 67 (.agg #[.string ⟨#[]⟩, .int .u64 0, .slice none 0 0]) 48 rfl Try.underlying61 (by kernel_rfl) rfl (by decide) (by omega) (.slice (some ⟨w.heap.size, 0, none⟩) 0 0) [] l0 (some ad) l0.length c0 (fun k => P k ∨ w.heap.size ≤ k) (fun k => P k ∧ k < w.heap.size) rfl rfl ?aO ?aC ?aP ?aF ?aB ?aS ?aL ?_; (case aO => exact Kd.R_N ⟨fun k hk => .inr (by simp [Value.ownBlock] at hk; omega), [], World.ownsRow_lit (base := w.heap.size) (e := 67) (size := 3) w #[] 0 (Nat.le_refl _) (by decide) rfl, Reps.none _ _⟩); (case aC => exact Kd.F_alloc HF.out _); (case aP => exact fun k_ hk_ => ⟨.inl hk_.1, fun e => by simp [Value.ownBlock] at e; have := hk_.2; omega⟩); (case aF => exact fun k hk => .inr (by simp at hk; omega)); (case aB => exact below_alloc (Below.refl _ _) _); (case aS => exact (below_alloc (Below.refl _ _) _).size); (case aL => simpa using HL.out); intro v1 w1 hr hb hg hat; have HN1 := am hr; have HB1 := am hb; clear hr hb hg hat))
    go_ret
    exact ⟨_, rfl, by have h := HN1.out; rwa [List.nil_append] at h, HB1.out⟩
set_option maxHeartbeats 4000000 in
set_option maxRecDepth 100000 in
theorem BSTr_calls (g : Nat) (lb : Array Value) (eg : ∀ args w, (callFunc g args).run Try.prog w = .ok (.enter g args) w) (p : S91 → Option Int) (x : S91)  (A0 : Option Addr) (c0 : Nat) (l0 : List S91) (r : Int) (b : Bool) (w : World)
   (hr0 : Kd.C k91 w A0 l0.length l0) (hc0 : l0.length ≤ c0) (hn : l0.length < 4611686018427387904)
   (hp : ∀ (W : World) (y : S91)  (c : Int), Below w.heap.size w W → p y = some c → Calls Try.prog g (#[.agg #[.string y.f0, .int .u64 y.f1], .agg #[.string x.f0, .int .u64 x.f1]] ++ lb) W fun e w' => e = .returned (.int .i64 c) ∧ Below W.heap.size W w')
   (h : bsT p l0 z91 = some (r, b)) :
   Calls Try.prog 59 #[.slice A0 l0.length c0, .agg #[.string x.f0, .int .u64 x.f1], .func (.func g) #[] lb] w fun e w' => e = .returned (.tuple #[.int .i64 r, .bool b]) ∧ Below w.heap.size w w' := by
  obtain ⟨r0, h1, h2⟩ := Option.bind_eq_some_iff.1 h;clear h;have H1 := am h1;clear h1;have H2 := am h2;clear h2;have HP := am hp;clear hp;have HR := am hr0;clear hr0;have hu := Try.underlying91
  go_enter Try.func59, Try.ntmps59
  go_wp2
  go_loopg [9, 10] l0.length (fun gg s9 s10 wr => ∃ i j : Nat, s9 = .int .i64 i ∧ s10 = .int .i64 j ∧ i ≤ j ∧ j ≤ l0.length ∧ j - i ≤ gg ∧ Aside0 (Below w.heap.size w wr) ∧ Aside0 (wr.heap[w.heap.size]? = some (.cells #[.string x.f0, .int .u64 x.f1] 91 (0, 0))) ∧ Aside0 (∃ n, bsF p l0 z91 n i j = some r0))
  case atStart => exact ⟨0, l0.length, rfl, rfl, by omega, by omega, by omega, ⟨below_alloc (Below.refl _ w) _⟩, ⟨blk_new _ _⟩, ⟨_, H1.out⟩⟩
  case round =>
    clear H1;obtain ⟨i, j, rfl, rfl, hij, hjl, hg, BW, BX, HH⟩ := hrel;have hb : w.heap.size < wr.heap.size := blk_lt BX.out;have xc0 := blk_cell BX.out 0;have xc1 := blk_cell BX.out 1
    by_cases hlt : i < j
    · obtain ⟨n, hF⟩ := HH.out
      clear HH;obtain ⟨m, c, rfl, hc, hn'⟩ := bsF_step hF (by omega);have HN := am hn';clear hn' hF
      have e2 : ((i : Int) + (j : Int)) / 2 = (((i + j) / 2 : Nat) : Int) := by omega
      rw [e2] at hc HN;rw [show (((i + j) / 2 : Nat) : Int).toNat = (i + j) / 2 from by omega] at hc
      have hh : (i + j) / 2 < l0.length := by omega
      have hq1 : i ≤ (i + j) / 2 := by omega
      have hq2 : (i + j) / 2 < j := by omega
      obtain ⟨ad, e, hx0, hx1⟩ := at_T91 (Kd.C_below HR.out BW.out) (((i + j) / 2 : Nat) : Int) (by omega) (by omega);cases e
      simp only [Int.toNat_natCast] at hx0 hx1
      have HC := am (HP.out wr.drew (rd_T91 l0 (((i + j) / 2 : Nat) : Int))  c (below_drew1 BW.out)  hc);clear hc;have E2 := am e2;clear e2
      by_cases hc0 : c < 0
      · have d0 : decide (c < 0) = true := decide_eq_true hc0
        go_wp2_with fail
        rw [E2.out];clear E2
        generalize (i + j) / 2 = q at *
        go_region_held3 (fun w' => w'.cell? ⟨w.heap.size, 0, none⟩ = some (.string x.f0) ∧ w'.cell? ⟨w.heap.size, 1, none⟩ = some (.int .u64 x.f1) ∧ w'.cell? (ad.add (q * 2)) = some (.string (rd_T91 l0 q).f0) ∧ w'.cell? ⟨(ad.add (q * 2)).block, (ad.add (q * 2)).off + 1, none⟩ = some (.int .u64 (rd_T91 l0 q).f1)) (go_keep) ((refine HC.out.mono ?_; rintro e w' ⟨rfl, hb'⟩; have yhx0 := (hb'.cell (World.block_lt_of_cell? wr.drew _ hx0)).trans hx0; have yhx1 := (hb'.cell (World.block_lt_of_cell? wr.drew _ hx1)).trans hx1; have yxc0 := (hb'.cell (World.block_lt_of_cell? wr.drew _ xc0)).trans xc0; have yxc1 := (hb'.cell (World.block_lt_of_cell? wr.drew _ xc1)).trans xc1))
        go_wp2
        go_roundg (j - (q + 1))
        case measure => omega
        case rel => exact ⟨q + 1, j, by simp, rfl, by omega, hjl, Nat.le_refl _, ⟨below_then (below_drew1 BW.out) (below_drew1 BW.out).size hb'⟩, ⟨blk_below (blk_drew BX.out) hb'⟩, ⟨m, by rcases HN.out with h | h <;> first | exact h.2 | exact absurd hc0 (by omega)⟩⟩
      · have d0 : decide (c < 0) = false := decide_eq_false hc0
        go_wp2_with fail
        rw [E2.out];clear E2
        generalize (i + j) / 2 = q at *
        go_region_held3 (fun w' => w'.cell? ⟨w.heap.size, 0, none⟩ = some (.string x.f0) ∧ w'.cell? ⟨w.heap.size, 1, none⟩ = some (.int .u64 x.f1) ∧ w'.cell? (ad.add (q * 2)) = some (.string (rd_T91 l0 q).f0) ∧ w'.cell? ⟨(ad.add (q * 2)).block, (ad.add (q * 2)).off + 1, none⟩ = some (.int .u64 (rd_T91 l0 q).f1)) (go_keep) ((refine HC.out.mono ?_; rintro e w' ⟨rfl, hb'⟩; have yhx0 := (hb'.cell (World.block_lt_of_cell? wr.drew _ hx0)).trans hx0; have yhx1 := (hb'.cell (World.block_lt_of_cell? wr.drew _ hx1)).trans hx1; have yxc0 := (hb'.cell (World.block_lt_of_cell? wr.drew _ xc0)).trans xc0; have yxc1 := (hb'.cell (World.block_lt_of_cell? wr.drew _ xc1)).trans xc1))
        go_wp2
        go_roundg (q - i)
        case measure => omega
        case rel => exact ⟨i, q, rfl, by simp, by omega, by omega, Nat.le_refl _, ⟨below_then (below_drew1 BW.out) (below_drew1 BW.out).size hb'⟩, ⟨blk_below (blk_drew BX.out) hb'⟩, ⟨m, by rcases HN.out with h | h <;> first | exact h.2 | exact absurd h.1 (by omega)⟩⟩
    · obtain rfl : j = i := by omega
      obtain ⟨n, hF⟩ := HH.out;clear HH;have er := bsF_end hF (by omega);subst er;clear hF
      by_cases hl : j < l0.length
      · have h2 := H2.out
        clear H2;rw [if_pos (by omega), Option.bind_eq_some_iff] at h2;obtain ⟨c, hc, h2⟩ := h2;rw [Int.toNat_natCast] at hc
        simp only [Option.some.injEq, Prod.mk.injEq] at h2
        obtain ⟨rfl, rfl⟩ := h2;obtain ⟨ad, e, hx0, hx1⟩ := at_T91 (Kd.C_below HR.out BW.out) (j : Int) (by omega) (by omega);cases e
        simp only [Int.toNat_natCast] at hx0 hx1
        have HC := am (HP.out wr.drew (rd_T91 l0 (j : Int))  c (below_drew1 BW.out)  hc);clear hc;have d0 : decide ((j : Int) < (l0.length : Int)) = true := decide_eq_true (by omega)
        go_wp2_with fail
        go_region_held3 (fun w' => w'.cell? ⟨w.heap.size, 0, none⟩ = some (.string x.f0) ∧ w'.cell? ⟨w.heap.size, 1, none⟩ = some (.int .u64 x.f1) ∧ w'.cell? (ad.add (j * 2)) = some (.string (rd_T91 l0 j).f0) ∧ w'.cell? ⟨(ad.add (j * 2)).block, (ad.add (j * 2)).off + 1, none⟩ = some (.int .u64 (rd_T91 l0 j).f1)) (go_keep) ((refine HC.out.mono ?_; rintro e w' ⟨rfl, hb'⟩; have yhx0 := (hb'.cell (World.block_lt_of_cell? wr.drew _ hx0)).trans hx0; have yhx1 := (hb'.cell (World.block_lt_of_cell? wr.drew _ hx1)).trans hx1; have yxc0 := (hb'.cell (World.block_lt_of_cell? wr.drew _ xc0)).trans xc0; have yxc1 := (hb'.cell (World.block_lt_of_cell? wr.drew _ xc1)).trans xc1))
        go_wp2
        go_ret2
        exact ⟨rfl, below_then (below_drew1 BW.out) (below_drew1 BW.out).size hb'⟩
      · have h2 := H2.out
        clear H2;rw [if_neg (by omega)] at h2
        simp only [Option.some.injEq, Prod.mk.injEq] at h2
        obtain ⟨rfl, rfl⟩ := h2;have d0 : decide ((j : Int) < (l0.length : Int)) = false := decide_eq_false (by omega)
        go_wp2
        go_region
        go_wp2
        go_ret2
        exact ⟨rfl, below_drew1 BW.out⟩
set_option maxHeartbeats 4000000 in
set_option maxRecDepth 100000 in
theorem BSBk_calls (g : Nat) (lb : Array Value) (eg : ∀ args w, (callFunc g args).run Try.prog w = .ok (.enter g args) w) (p : S84 → Option Int) (x : S84) (Ax1 : Option Addr) (cx1 : Nat) (A0 : Option Addr) (c0 : Nat) (l0 : List S84) (r : Int) (b : Bool) (w : World)
   (hr0 : Kd.C k84 w A0 l0.length l0) (hc0 : l0.length ≤ c0) (hn : l0.length < 4611686018427387904)
   (hp : ∀ (W : World) (y : S84) (A1 : Option Addr) (c1 : Nat) (c : Int), Below w.heap.size w W → y.f1.length ≤ c1 → Kd.C k91 W A1 y.f1.length y.f1 → p y = some c → Calls Try.prog g (#[.agg #[.int .i64 y.f0, .slice A1 y.f1.length c1], .agg #[.int .i64 x.f0, .slice Ax1 x.f1.length cx1]] ++ lb) W fun e w' => e = .returned (.int .i64 c) ∧ Below W.heap.size W w')
   (h : bsT p l0 z84 = some (r, b)) :
   Calls Try.prog 65 #[.slice A0 l0.length c0, .agg #[.int .i64 x.f0, .slice Ax1 x.f1.length cx1], .func (.func g) #[] lb] w fun e w' => e = .returned (.tuple #[.int .i64 r, .bool b]) ∧ Below w.heap.size w w' := by
  obtain ⟨r0, h1, h2⟩ := Option.bind_eq_some_iff.1 h;clear h;have H1 := am h1;clear h1;have H2 := am h2;clear h2;have HP := am hp;clear hp;have HR := am hr0;clear hr0;have hu := Try.underlying84
  go_enter Try.func65, Try.ntmps65
  go_wp2
  go_loopg [9, 10] l0.length (fun gg s9 s10 wr => ∃ i j : Nat, s9 = .int .i64 i ∧ s10 = .int .i64 j ∧ i ≤ j ∧ j ≤ l0.length ∧ j - i ≤ gg ∧ Aside0 (Below w.heap.size w wr) ∧ Aside0 (wr.heap[w.heap.size]? = some (.cells #[.int .i64 x.f0, .slice Ax1 x.f1.length cx1] 84 (0, 0))) ∧ Aside0 (∃ n, bsF p l0 z84 n i j = some r0))
  case atStart => exact ⟨0, l0.length, rfl, rfl, by omega, by omega, by omega, ⟨below_alloc (Below.refl _ w) _⟩, ⟨blk_new _ _⟩, ⟨_, H1.out⟩⟩
  case round =>
    clear H1;obtain ⟨i, j, rfl, rfl, hij, hjl, hg, BW, BX, HH⟩ := hrel;have hb : w.heap.size < wr.heap.size := blk_lt BX.out;have xc0 := blk_cell BX.out 0;have xc1 := blk_cell BX.out 1
    by_cases hlt : i < j
    · obtain ⟨n, hF⟩ := HH.out
      clear HH;obtain ⟨m, c, rfl, hc, hn'⟩ := bsF_step hF (by omega);have HN := am hn';clear hn' hF
      have e2 : ((i : Int) + (j : Int)) / 2 = (((i + j) / 2 : Nat) : Int) := by omega
      rw [e2] at hc HN;rw [show (((i + j) / 2 : Nat) : Int).toNat = (i + j) / 2 from by omega] at hc
      have hh : (i + j) / 2 < l0.length := by omega
      have hq1 : i ≤ (i + j) / 2 := by omega
      have hq2 : (i + j) / 2 < j := by omega
      obtain ⟨ad, A1, c1, e, hx0, hx1, hl1, hC1⟩ := at_T84 (Kd.C_below HR.out BW.out) (((i + j) / 2 : Nat) : Int) (by omega) (by omega);cases e
      simp only [Int.toNat_natCast] at hx0 hx1
      have HC := am (HP.out wr.drew (rd_T84 l0 (((i + j) / 2 : Nat) : Int)) A1 c1 c (below_drew1 BW.out) hl1 (Kd.C_drew hC1) hc);clear hl1 hC1 hc;have E2 := am e2;clear e2
      by_cases hc0 : c < 0
      · have d0 : decide (c < 0) = true := decide_eq_true hc0
        go_wp2_with fail
        rw [E2.out];clear E2
        generalize (i + j) / 2 = q at *
        go_region_held3 (fun w' => w'.cell? ⟨w.heap.size, 0, none⟩ = some (.int .i64 x.f0) ∧ w'.cell? ⟨w.heap.size, 1, none⟩ = some (.slice Ax1 x.f1.length cx1) ∧ w'.cell? (ad.add (q * 2)) = some (.int .i64 (rd_T84 l0 q).f0) ∧ w'.cell? ⟨(ad.add (q * 2)).block, (ad.add (q * 2)).off + 1, none⟩ = some (.slice A1 (rd_T84 l0 q).f1.length c1)) (go_keep) ((refine HC.out.mono ?_; rintro e w' ⟨rfl, hb'⟩; have yhx0 := (hb'.cell (World.block_lt_of_cell? wr.drew _ hx0)).trans hx0; have yhx1 := (hb'.cell (World.block_lt_of_cell? wr.drew _ hx1)).trans hx1; have yxc0 := (hb'.cell (World.block_lt_of_cell? wr.drew _ xc0)).trans xc0; have yxc1 := (hb'.cell (World.block_lt_of_cell? wr.drew _ xc1)).trans xc1))
        go_wp2
        go_roundg (j - (q + 1))
        case measure => omega
        case rel => exact ⟨q + 1, j, by simp, rfl, by omega, hjl, Nat.le_refl _, ⟨below_then (below_drew1 BW.out) (below_drew1 BW.out).size hb'⟩, ⟨blk_below (blk_drew BX.out) hb'⟩, ⟨m, by rcases HN.out with h | h <;> first | exact h.2 | exact absurd hc0 (by omega)⟩⟩
      · have d0 : decide (c < 0) = false := decide_eq_false hc0
        go_wp2_with fail
        rw [E2.out];clear E2
        generalize (i + j) / 2 = q at *
        go_region_held3 (fun w' => w'.cell? ⟨w.heap.size, 0, none⟩ = some (.int .i64 x.f0) ∧ w'.cell? ⟨w.heap.size, 1, none⟩ = some (.slice Ax1 x.f1.length cx1) ∧ w'.cell? (ad.add (q * 2)) = some (.int .i64 (rd_T84 l0 q).f0) ∧ w'.cell? ⟨(ad.add (q * 2)).block, (ad.add (q * 2)).off + 1, none⟩ = some (.slice A1 (rd_T84 l0 q).f1.length c1)) (go_keep) ((refine HC.out.mono ?_; rintro e w' ⟨rfl, hb'⟩; have yhx0 := (hb'.cell (World.block_lt_of_cell? wr.drew _ hx0)).trans hx0; have yhx1 := (hb'.cell (World.block_lt_of_cell? wr.drew _ hx1)).trans hx1; have yxc0 := (hb'.cell (World.block_lt_of_cell? wr.drew _ xc0)).trans xc0; have yxc1 := (hb'.cell (World.block_lt_of_cell? wr.drew _ xc1)).trans xc1))
        go_wp2
        go_roundg (q - i)
        case measure => omega
        case rel => exact ⟨i, q, rfl, by simp, by omega, by omega, Nat.le_refl _, ⟨below_then (below_drew1 BW.out) (below_drew1 BW.out).size hb'⟩, ⟨blk_below (blk_drew BX.out) hb'⟩, ⟨m, by rcases HN.out with h | h <;> first | exact h.2 | exact absurd h.1 (by omega)⟩⟩
    · obtain rfl : j = i := by omega
      obtain ⟨n, hF⟩ := HH.out;clear HH;have er := bsF_end hF (by omega);subst er;clear hF
      by_cases hl : j < l0.length
      · have h2 := H2.out
        clear H2;rw [if_pos (by omega), Option.bind_eq_some_iff] at h2;obtain ⟨c, hc, h2⟩ := h2;rw [Int.toNat_natCast] at hc
        simp only [Option.some.injEq, Prod.mk.injEq] at h2
        obtain ⟨rfl, rfl⟩ := h2;obtain ⟨ad, A1, c1, e, hx0, hx1, hl1, hC1⟩ := at_T84 (Kd.C_below HR.out BW.out) (j : Int) (by omega) (by omega);cases e
        simp only [Int.toNat_natCast] at hx0 hx1
        have HC := am (HP.out wr.drew (rd_T84 l0 (j : Int)) A1 c1 c (below_drew1 BW.out) hl1 (Kd.C_drew hC1) hc);clear hl1 hC1 hc;have d0 : decide ((j : Int) < (l0.length : Int)) = true := decide_eq_true (by omega)
        go_wp2_with fail
        go_region_held3 (fun w' => w'.cell? ⟨w.heap.size, 0, none⟩ = some (.int .i64 x.f0) ∧ w'.cell? ⟨w.heap.size, 1, none⟩ = some (.slice Ax1 x.f1.length cx1) ∧ w'.cell? (ad.add (j * 2)) = some (.int .i64 (rd_T84 l0 j).f0) ∧ w'.cell? ⟨(ad.add (j * 2)).block, (ad.add (j * 2)).off + 1, none⟩ = some (.slice A1 (rd_T84 l0 j).f1.length c1)) (go_keep) ((refine HC.out.mono ?_; rintro e w' ⟨rfl, hb'⟩; have yhx0 := (hb'.cell (World.block_lt_of_cell? wr.drew _ hx0)).trans hx0; have yhx1 := (hb'.cell (World.block_lt_of_cell? wr.drew _ hx1)).trans hx1; have yxc0 := (hb'.cell (World.block_lt_of_cell? wr.drew _ xc0)).trans xc0; have yxc1 := (hb'.cell (World.block_lt_of_cell? wr.drew _ xc1)).trans xc1))
        go_wp2
        go_ret2
        exact ⟨rfl, below_then (below_drew1 BW.out) (below_drew1 BW.out).size hb'⟩
      · have h2 := H2.out
        clear H2;rw [if_neg (by omega)] at h2
        simp only [Option.some.injEq, Prod.mk.injEq] at h2
        obtain ⟨rfl, rfl⟩ := h2;have d0 : decide ((j : Int) < (l0.length : Int)) = false := decide_eq_false (by omega)
        go_wp2
        go_region
        go_wp2
        go_ret2
        exact ⟨rfl, below_drew1 BW.out⟩
set_option maxHeartbeats 4000000 in
set_option maxRecDepth 100000 in
theorem BSLb_calls (g : Nat) (lb : Array Value) (eg : ∀ args w, (callFunc g args).run Try.prog w = .ok (.enter g args) w) (p : S67 → Option Int) (x : S67) (Ax2 : Option Addr) (cx2 : Nat) (A0 : Option Addr) (c0 : Nat) (l0 : List S67) (r : Int) (b : Bool) (w : World)
   (hr0 : Kd.C k67 w A0 l0.length l0) (hc0 : l0.length ≤ c0) (hn : l0.length < 4611686018427387904)
   (hp : ∀ (W : World) (y : S67) (A2 : Option Addr) (c2 : Nat) (c : Int), Below w.heap.size w W → y.f2.length ≤ c2 → Kd.C k84 W A2 y.f2.length y.f2 → p y = some c → Calls Try.prog g (#[.agg #[.string y.f0, .int .u64 y.f1, .slice A2 y.f2.length c2], .agg #[.string x.f0, .int .u64 x.f1, .slice Ax2 x.f2.length cx2]] ++ lb) W fun e w' => e = .returned (.int .i64 c) ∧ Below W.heap.size W w')
   (h : bsT p l0 z67 = some (r, b)) :
   Calls Try.prog 68 #[.slice A0 l0.length c0, .agg #[.string x.f0, .int .u64 x.f1, .slice Ax2 x.f2.length cx2], .func (.func g) #[] lb] w fun e w' => e = .returned (.tuple #[.int .i64 r, .bool b]) ∧ Below w.heap.size w w' := by
  obtain ⟨r0, h1, h2⟩ := Option.bind_eq_some_iff.1 h;clear h;have H1 := am h1;clear h1;have H2 := am h2;clear h2;have HP := am hp;clear hp;have HR := am hr0;clear hr0;have hu := Try.underlying67
  go_enter Try.func68, Try.ntmps68
  go_wp2
  go_loopg [9, 10] l0.length (fun gg s9 s10 wr => ∃ i j : Nat, s9 = .int .i64 i ∧ s10 = .int .i64 j ∧ i ≤ j ∧ j ≤ l0.length ∧ j - i ≤ gg ∧ Aside0 (Below w.heap.size w wr) ∧ Aside0 (wr.heap[w.heap.size]? = some (.cells #[.string x.f0, .int .u64 x.f1, .slice Ax2 x.f2.length cx2] 67 (0, 0))) ∧ Aside0 (∃ n, bsF p l0 z67 n i j = some r0))
  case atStart => exact ⟨0, l0.length, rfl, rfl, by omega, by omega, by omega, ⟨below_alloc (Below.refl _ w) _⟩, ⟨blk_new _ _⟩, ⟨_, H1.out⟩⟩
  case round =>
    clear H1;obtain ⟨i, j, rfl, rfl, hij, hjl, hg, BW, BX, HH⟩ := hrel;have hb : w.heap.size < wr.heap.size := blk_lt BX.out;have xc0 := blk_cell BX.out 0;have xc1 := blk_cell BX.out 1;have xc2 := blk_cell BX.out 2
    by_cases hlt : i < j
    · obtain ⟨n, hF⟩ := HH.out
      clear HH;obtain ⟨m, c, rfl, hc, hn'⟩ := bsF_step hF (by omega);have HN := am hn';clear hn' hF
      have e2 : ((i : Int) + (j : Int)) / 2 = (((i + j) / 2 : Nat) : Int) := by omega
      rw [e2] at hc HN;rw [show (((i + j) / 2 : Nat) : Int).toNat = (i + j) / 2 from by omega] at hc
      have hh : (i + j) / 2 < l0.length := by omega
      have hq1 : i ≤ (i + j) / 2 := by omega
      have hq2 : (i + j) / 2 < j := by omega
      obtain ⟨ad, A2, c2, e, hx0, hx1, hx2, hl2, hC2⟩ := at_T67 (Kd.C_below HR.out BW.out) (((i + j) / 2 : Nat) : Int) (by omega) (by omega);cases e
      simp only [Int.toNat_natCast] at hx0 hx1 hx2
      have HC := am (HP.out wr.drew (rd_T67 l0 (((i + j) / 2 : Nat) : Int)) A2 c2 c (below_drew1 BW.out) hl2 (Kd.C_drew hC2) hc);clear hl2 hC2 hc;have E2 := am e2;clear e2
      by_cases hc0 : c < 0
      · have d0 : decide (c < 0) = true := decide_eq_true hc0
        go_wp2_with fail
        rw [E2.out];clear E2
        generalize (i + j) / 2 = q at *
        go_region_held3 (fun w' => w'.cell? ⟨w.heap.size, 0, none⟩ = some (.string x.f0) ∧ w'.cell? ⟨w.heap.size, 1, none⟩ = some (.int .u64 x.f1) ∧ w'.cell? ⟨w.heap.size, 2, none⟩ = some (.slice Ax2 x.f2.length cx2) ∧ w'.cell? (ad.add (q * 3)) = some (.string (rd_T67 l0 q).f0) ∧ w'.cell? ⟨(ad.add (q * 3)).block, (ad.add (q * 3)).off + 1, none⟩ = some (.int .u64 (rd_T67 l0 q).f1) ∧ w'.cell? ⟨(ad.add (q * 3)).block, (ad.add (q * 3)).off + 2, none⟩ = some (.slice A2 (rd_T67 l0 q).f2.length c2)) (go_keep) ((refine HC.out.mono ?_; rintro e w' ⟨rfl, hb'⟩; have yhx0 := (hb'.cell (World.block_lt_of_cell? wr.drew _ hx0)).trans hx0; have yhx1 := (hb'.cell (World.block_lt_of_cell? wr.drew _ hx1)).trans hx1; have yhx2 := (hb'.cell (World.block_lt_of_cell? wr.drew _ hx2)).trans hx2; have yxc0 := (hb'.cell (World.block_lt_of_cell? wr.drew _ xc0)).trans xc0; have yxc1 := (hb'.cell (World.block_lt_of_cell? wr.drew _ xc1)).trans xc1; have yxc2 := (hb'.cell (World.block_lt_of_cell? wr.drew _ xc2)).trans xc2))
        go_wp2
        go_roundg (j - (q + 1))
        case measure => omega
        case rel => exact ⟨q + 1, j, by simp, rfl, by omega, hjl, Nat.le_refl _, ⟨below_then (below_drew1 BW.out) (below_drew1 BW.out).size hb'⟩, ⟨blk_below (blk_drew BX.out) hb'⟩, ⟨m, by rcases HN.out with h | h <;> first | exact h.2 | exact absurd hc0 (by omega)⟩⟩
      · have d0 : decide (c < 0) = false := decide_eq_false hc0
        go_wp2_with fail
        rw [E2.out];clear E2
        generalize (i + j) / 2 = q at *
        go_region_held3 (fun w' => w'.cell? ⟨w.heap.size, 0, none⟩ = some (.string x.f0) ∧ w'.cell? ⟨w.heap.size, 1, none⟩ = some (.int .u64 x.f1) ∧ w'.cell? ⟨w.heap.size, 2, none⟩ = some (.slice Ax2 x.f2.length cx2) ∧ w'.cell? (ad.add (q * 3)) = some (.string (rd_T67 l0 q).f0) ∧ w'.cell? ⟨(ad.add (q * 3)).block, (ad.add (q * 3)).off + 1, none⟩ = some (.int .u64 (rd_T67 l0 q).f1) ∧ w'.cell? ⟨(ad.add (q * 3)).block, (ad.add (q * 3)).off + 2, none⟩ = some (.slice A2 (rd_T67 l0 q).f2.length c2)) (go_keep) ((refine HC.out.mono ?_; rintro e w' ⟨rfl, hb'⟩; have yhx0 := (hb'.cell (World.block_lt_of_cell? wr.drew _ hx0)).trans hx0; have yhx1 := (hb'.cell (World.block_lt_of_cell? wr.drew _ hx1)).trans hx1; have yhx2 := (hb'.cell (World.block_lt_of_cell? wr.drew _ hx2)).trans hx2; have yxc0 := (hb'.cell (World.block_lt_of_cell? wr.drew _ xc0)).trans xc0; have yxc1 := (hb'.cell (World.block_lt_of_cell? wr.drew _ xc1)).trans xc1; have yxc2 := (hb'.cell (World.block_lt_of_cell? wr.drew _ xc2)).trans xc2))
        go_wp2
        go_roundg (q - i)
        case measure => omega
        case rel => exact ⟨i, q, rfl, by simp, by omega, by omega, Nat.le_refl _, ⟨below_then (below_drew1 BW.out) (below_drew1 BW.out).size hb'⟩, ⟨blk_below (blk_drew BX.out) hb'⟩, ⟨m, by rcases HN.out with h | h <;> first | exact h.2 | exact absurd h.1 (by omega)⟩⟩
    · obtain rfl : j = i := by omega
      obtain ⟨n, hF⟩ := HH.out;clear HH;have er := bsF_end hF (by omega);subst er;clear hF
      by_cases hl : j < l0.length
      · have h2 := H2.out
        clear H2;rw [if_pos (by omega), Option.bind_eq_some_iff] at h2;obtain ⟨c, hc, h2⟩ := h2;rw [Int.toNat_natCast] at hc
        simp only [Option.some.injEq, Prod.mk.injEq] at h2
        obtain ⟨rfl, rfl⟩ := h2;obtain ⟨ad, A2, c2, e, hx0, hx1, hx2, hl2, hC2⟩ := at_T67 (Kd.C_below HR.out BW.out) (j : Int) (by omega) (by omega);cases e
        simp only [Int.toNat_natCast] at hx0 hx1 hx2
        have HC := am (HP.out wr.drew (rd_T67 l0 (j : Int)) A2 c2 c (below_drew1 BW.out) hl2 (Kd.C_drew hC2) hc);clear hl2 hC2 hc;have d0 : decide ((j : Int) < (l0.length : Int)) = true := decide_eq_true (by omega)
        go_wp2_with fail
        go_region_held3 (fun w' => w'.cell? ⟨w.heap.size, 0, none⟩ = some (.string x.f0) ∧ w'.cell? ⟨w.heap.size, 1, none⟩ = some (.int .u64 x.f1) ∧ w'.cell? ⟨w.heap.size, 2, none⟩ = some (.slice Ax2 x.f2.length cx2) ∧ w'.cell? (ad.add (j * 3)) = some (.string (rd_T67 l0 j).f0) ∧ w'.cell? ⟨(ad.add (j * 3)).block, (ad.add (j * 3)).off + 1, none⟩ = some (.int .u64 (rd_T67 l0 j).f1) ∧ w'.cell? ⟨(ad.add (j * 3)).block, (ad.add (j * 3)).off + 2, none⟩ = some (.slice A2 (rd_T67 l0 j).f2.length c2)) (go_keep) ((refine HC.out.mono ?_; rintro e w' ⟨rfl, hb'⟩; have yhx0 := (hb'.cell (World.block_lt_of_cell? wr.drew _ hx0)).trans hx0; have yhx1 := (hb'.cell (World.block_lt_of_cell? wr.drew _ hx1)).trans hx1; have yhx2 := (hb'.cell (World.block_lt_of_cell? wr.drew _ hx2)).trans hx2; have yxc0 := (hb'.cell (World.block_lt_of_cell? wr.drew _ xc0)).trans xc0; have yxc1 := (hb'.cell (World.block_lt_of_cell? wr.drew _ xc1)).trans xc1; have yxc2 := (hb'.cell (World.block_lt_of_cell? wr.drew _ xc2)).trans xc2))
        go_wp2
        go_ret2
        exact ⟨rfl, below_then (below_drew1 BW.out) (below_drew1 BW.out).size hb'⟩
      · have h2 := H2.out
        clear H2;rw [if_neg (by omega)] at h2
        simp only [Option.some.injEq, Prod.mk.injEq] at h2
        obtain ⟨rfl, rfl⟩ := h2;have d0 : decide ((j : Int) < (l0.length : Int)) = false := decide_eq_false (by omega)
        go_wp2
        go_region
        go_wp2
        go_ret2
        exact ⟨rfl, below_drew1 BW.out⟩
set_option maxHeartbeats 4000000 in
set_option maxRecDepth 100000 in
theorem BSEp_calls (g : Nat) (lb : Array Value) (eg : ∀ args w, (callFunc g args).run Try.prog w = .ok (.enter g args) w) (p : S63 → Option Int) (x : S63) (Ax1 : Option Addr) (cx1 : Nat) (A0 : Option Addr) (c0 : Nat) (l0 : List S63) (r : Int) (b : Bool) (w : World)
   (hr0 : Kd.C k63 w A0 l0.length l0) (hc0 : l0.length ≤ c0) (hn : l0.length < 4611686018427387904)
   (hp : ∀ (W : World) (y : S63) (A1 : Option Addr) (c1 : Nat) (c : Int), Below w.heap.size w W → y.f1.length ≤ c1 → Kd.C k67 W A1 y.f1.length y.f1 → p y = some c → Calls Try.prog g (#[.agg #[.int .i64 y.f0, .slice A1 y.f1.length c1], .agg #[.int .i64 x.f0, .slice Ax1 x.f1.length cx1]] ++ lb) W fun e w' => e = .returned (.int .i64 c) ∧ Below W.heap.size W w')
   (h : bsT p l0 z63 = some (r, b)) :
   Calls Try.prog 71 #[.slice A0 l0.length c0, .agg #[.int .i64 x.f0, .slice Ax1 x.f1.length cx1], .func (.func g) #[] lb] w fun e w' => e = .returned (.tuple #[.int .i64 r, .bool b]) ∧ Below w.heap.size w w' := by
  obtain ⟨r0, h1, h2⟩ := Option.bind_eq_some_iff.1 h;clear h;have H1 := am h1;clear h1;have H2 := am h2;clear h2;have HP := am hp;clear hp;have HR := am hr0;clear hr0;have hu := Try.underlying63
  go_enter Try.func71, Try.ntmps71
  go_wp2
  go_loopg [9, 10] l0.length (fun gg s9 s10 wr => ∃ i j : Nat, s9 = .int .i64 i ∧ s10 = .int .i64 j ∧ i ≤ j ∧ j ≤ l0.length ∧ j - i ≤ gg ∧ Aside0 (Below w.heap.size w wr) ∧ Aside0 (wr.heap[w.heap.size]? = some (.cells #[.int .i64 x.f0, .slice Ax1 x.f1.length cx1] 63 (0, 0))) ∧ Aside0 (∃ n, bsF p l0 z63 n i j = some r0))
  case atStart => exact ⟨0, l0.length, rfl, rfl, by omega, by omega, by omega, ⟨below_alloc (Below.refl _ w) _⟩, ⟨blk_new _ _⟩, ⟨_, H1.out⟩⟩
  case round =>
    clear H1;obtain ⟨i, j, rfl, rfl, hij, hjl, hg, BW, BX, HH⟩ := hrel;have hb : w.heap.size < wr.heap.size := blk_lt BX.out;have xc0 := blk_cell BX.out 0;have xc1 := blk_cell BX.out 1
    by_cases hlt : i < j
    · obtain ⟨n, hF⟩ := HH.out
      clear HH;obtain ⟨m, c, rfl, hc, hn'⟩ := bsF_step hF (by omega);have HN := am hn';clear hn' hF
      have e2 : ((i : Int) + (j : Int)) / 2 = (((i + j) / 2 : Nat) : Int) := by omega
      rw [e2] at hc HN;rw [show (((i + j) / 2 : Nat) : Int).toNat = (i + j) / 2 from by omega] at hc
      have hh : (i + j) / 2 < l0.length := by omega
      have hq1 : i ≤ (i + j) / 2 := by omega
      have hq2 : (i + j) / 2 < j := by omega
      obtain ⟨ad, A1, c1, e, hx0, hx1, hl1, hC1⟩ := at_T63 (Kd.C_below HR.out BW.out) (((i + j) / 2 : Nat) : Int) (by omega) (by omega);cases e
      simp only [Int.toNat_natCast] at hx0 hx1
      have HC := am (HP.out wr.drew (rd_T63 l0 (((i + j) / 2 : Nat) : Int)) A1 c1 c (below_drew1 BW.out) hl1 (Kd.C_drew hC1) hc);clear hl1 hC1 hc;have E2 := am e2;clear e2
      by_cases hc0 : c < 0
      · have d0 : decide (c < 0) = true := decide_eq_true hc0
        go_wp2_with fail
        rw [E2.out];clear E2
        generalize (i + j) / 2 = q at *
        go_region_held3 (fun w' => w'.cell? ⟨w.heap.size, 0, none⟩ = some (.int .i64 x.f0) ∧ w'.cell? ⟨w.heap.size, 1, none⟩ = some (.slice Ax1 x.f1.length cx1) ∧ w'.cell? (ad.add (q * 2)) = some (.int .i64 (rd_T63 l0 q).f0) ∧ w'.cell? ⟨(ad.add (q * 2)).block, (ad.add (q * 2)).off + 1, none⟩ = some (.slice A1 (rd_T63 l0 q).f1.length c1)) (go_keep) ((refine HC.out.mono ?_; rintro e w' ⟨rfl, hb'⟩; have yhx0 := (hb'.cell (World.block_lt_of_cell? wr.drew _ hx0)).trans hx0; have yhx1 := (hb'.cell (World.block_lt_of_cell? wr.drew _ hx1)).trans hx1; have yxc0 := (hb'.cell (World.block_lt_of_cell? wr.drew _ xc0)).trans xc0; have yxc1 := (hb'.cell (World.block_lt_of_cell? wr.drew _ xc1)).trans xc1))
        go_wp2
        go_roundg (j - (q + 1))
        case measure => omega
        case rel => exact ⟨q + 1, j, by simp, rfl, by omega, hjl, Nat.le_refl _, ⟨below_then (below_drew1 BW.out) (below_drew1 BW.out).size hb'⟩, ⟨blk_below (blk_drew BX.out) hb'⟩, ⟨m, by rcases HN.out with h | h <;> first | exact h.2 | exact absurd hc0 (by omega)⟩⟩
      · have d0 : decide (c < 0) = false := decide_eq_false hc0
        go_wp2_with fail
        rw [E2.out];clear E2
        generalize (i + j) / 2 = q at *
        go_region_held3 (fun w' => w'.cell? ⟨w.heap.size, 0, none⟩ = some (.int .i64 x.f0) ∧ w'.cell? ⟨w.heap.size, 1, none⟩ = some (.slice Ax1 x.f1.length cx1) ∧ w'.cell? (ad.add (q * 2)) = some (.int .i64 (rd_T63 l0 q).f0) ∧ w'.cell? ⟨(ad.add (q * 2)).block, (ad.add (q * 2)).off + 1, none⟩ = some (.slice A1 (rd_T63 l0 q).f1.length c1)) (go_keep) ((refine HC.out.mono ?_; rintro e w' ⟨rfl, hb'⟩; have yhx0 := (hb'.cell (World.block_lt_of_cell? wr.drew _ hx0)).trans hx0; have yhx1 := (hb'.cell (World.block_lt_of_cell? wr.drew _ hx1)).trans hx1; have yxc0 := (hb'.cell (World.block_lt_of_cell? wr.drew _ xc0)).trans xc0; have yxc1 := (hb'.cell (World.block_lt_of_cell? wr.drew _ xc1)).trans xc1))
        go_wp2
        go_roundg (q - i)
        case measure => omega
        case rel => exact ⟨i, q, rfl, by simp, by omega, by omega, Nat.le_refl _, ⟨below_then (below_drew1 BW.out) (below_drew1 BW.out).size hb'⟩, ⟨blk_below (blk_drew BX.out) hb'⟩, ⟨m, by rcases HN.out with h | h <;> first | exact h.2 | exact absurd h.1 (by omega)⟩⟩
    · obtain rfl : j = i := by omega
      obtain ⟨n, hF⟩ := HH.out;clear HH;have er := bsF_end hF (by omega);subst er;clear hF
      by_cases hl : j < l0.length
      · have h2 := H2.out
        clear H2;rw [if_pos (by omega), Option.bind_eq_some_iff] at h2;obtain ⟨c, hc, h2⟩ := h2;rw [Int.toNat_natCast] at hc
        simp only [Option.some.injEq, Prod.mk.injEq] at h2
        obtain ⟨rfl, rfl⟩ := h2;obtain ⟨ad, A1, c1, e, hx0, hx1, hl1, hC1⟩ := at_T63 (Kd.C_below HR.out BW.out) (j : Int) (by omega) (by omega);cases e
        simp only [Int.toNat_natCast] at hx0 hx1
        have HC := am (HP.out wr.drew (rd_T63 l0 (j : Int)) A1 c1 c (below_drew1 BW.out) hl1 (Kd.C_drew hC1) hc);clear hl1 hC1 hc;have d0 : decide ((j : Int) < (l0.length : Int)) = true := decide_eq_true (by omega)
        go_wp2_with fail
        go_region_held3 (fun w' => w'.cell? ⟨w.heap.size, 0, none⟩ = some (.int .i64 x.f0) ∧ w'.cell? ⟨w.heap.size, 1, none⟩ = some (.slice Ax1 x.f1.length cx1) ∧ w'.cell? (ad.add (j * 2)) = some (.int .i64 (rd_T63 l0 j).f0) ∧ w'.cell? ⟨(ad.add (j * 2)).block, (ad.add (j * 2)).off + 1, none⟩ = some (.slice A1 (rd_T63 l0 j).f1.length c1)) (go_keep) ((refine HC.out.mono ?_; rintro e w' ⟨rfl, hb'⟩; have yhx0 := (hb'.cell (World.block_lt_of_cell? wr.drew _ hx0)).trans hx0; have yhx1 := (hb'.cell (World.block_lt_of_cell? wr.drew _ hx1)).trans hx1; have yxc0 := (hb'.cell (World.block_lt_of_cell? wr.drew _ xc0)).trans xc0; have yxc1 := (hb'.cell (World.block_lt_of_cell? wr.drew _ xc1)).trans xc1))
        go_wp2
        go_ret2
        exact ⟨rfl, below_then (below_drew1 BW.out) (below_drew1 BW.out).size hb'⟩
      · have h2 := H2.out
        clear H2;rw [if_neg (by omega)] at h2
        simp only [Option.some.injEq, Prod.mk.injEq] at h2
        obtain ⟨rfl, rfl⟩ := h2;have d0 : decide ((j : Int) < (l0.length : Int)) = false := decide_eq_false (by omega)
        go_wp2
        go_region
        go_wp2
        go_ret2
        exact ⟨rfl, below_drew1 BW.out⟩
set_option maxHeartbeats 4000000 in
set_option maxRecDepth 100000 in
theorem Insert_endTr (base : Nat) (v : Value) (n : Nat) (cs xs : List Value) (vb : Nat) (w : World) (hown : w.ownsRow base 91 2 v n cs) (hx : w.heap[vb]? = some (.cells xs.toArray 91 (0, 0))) (hxl : xs.length = 2) (h1x : ∀ u ∈ xs, u.oneCell' = true)
    (hl : (n + 1) * 24 ≤ 140737488355328) (hb : base ≤ w.heap.size) :
    Calls Try.prog 61 #[v, .int .i64 n, .slice (some ⟨vb, 0, none⟩) 1 1] w fun e w' => ∃ v1, e = .returned v1 ∧ w'.ownsRow base 91 2 v1 (n + 1) (cs ++ xs) ∧ w.grownBy w' v.ownBlock ∧ (v1.ownBlock = v.ownBlock ∨ v1.ownBlock = some w.heap.size) := by
  obtain ⟨i0, hi0, hz⟩ : ∃ i0, Try.prog.info? 91 = some i0 ∧ i0.zero = some (.agg #[.string ⟨#[]⟩, .int .u64 0]) ∧ i0.size = 2 ∧ i0.bytes = 24 := by
    have h : (Try.prog.info? 91).map (fun i => (i.zero, i.size, i.bytes)) = some (some (.agg #[.string ⟨#[]⟩, .int .u64 0]), 2, 24) := by kernel_rfl
    obtain ⟨i0, h0, h1⟩ := Option.map_eq_some_iff.1 h
    simp only [Prod.mk.injEq] at h1
    exact ⟨i0, h0, h1⟩
  have hu := Try.underlying82
  have hnews : ∀ j u, xs[j]? = some u → w.cell? ((⟨vb, 0, none⟩ : Addr).add j) = some u := fun j u hj => by rw [add_at, Nat.zero_add, blk_cell hx]; simpa using hj
  have HO := am hown
  obtain ⟨A, c, rfl⟩ : ∃ A c, v = .slice A n c := by
    rcases hown.2 with ⟨rfl, rfl⟩ | ⟨g, cap, cur, rfl, _⟩
    · exact ⟨_, _, rfl⟩
    · exact ⟨_, _, rfl⟩
  have hc : n ≤ c := own_le hown;clear hown;have HI := am (And.intro hi0 hz);clear hi0 hz hx
  cases A with
  | none =>
    have h0 : n = 0 ∧ c = 0 := by
      rcases HO.out.2 with ⟨h, h2⟩ | ⟨g, cap, cur, h, _⟩
      · injection h with _ _ h3; exact ⟨h2, h3⟩
      · injection h with h _ _; cases h
    obtain ⟨rfl, rfl⟩ := h0
    go_enter Try.func61, Try.ntmps61
    go_wp2_with (at_builtin; refine wpList_append_own_at w rfl (.tmp 23) (.tmp 24) 82 rfl base 91 i0 _ 2 24 hu HI.out.1 HI.out.2.1 HI.out.2.2.1 HI.out.2.2.2 rfl (by decide) _ _ _ rfl HO.out ⟨vb, 0, none⟩ 1 1 xs rfl (by omega) hnews h1x (by unfold maxLen; omega) hl hb ?_; rintro v1 w1 ho1 hg1 _ hat1)
    go_ret
    exact ⟨_, rfl, ho1, hg1, hat1⟩
  | some ad =>
    obtain ⟨g, rfl⟩ : ∃ g, ad = ⟨g, 0, none⟩ := by
      rcases HO.out.2 with ⟨h, _⟩ | ⟨g, cap, cur, h, _⟩
      · injection h with h; cases h
      · injection h with h; injection h with h; exact ⟨g, h⟩
    go_enter Try.func61, Try.ntmps61
    go_wp2_with (at_builtin; refine wpList_append_own_at w rfl (.tmp 23) (.tmp 24) 82 rfl base 91 i0 _ 2 24 hu HI.out.1 HI.out.2.1 HI.out.2.2.1 HI.out.2.2.2 rfl (by decide) _ _ _ rfl HO.out ⟨vb, 0, none⟩ 1 1 xs rfl (by omega) hnews h1x (by unfold maxLen; omega) hl hb ?_; rintro v1 w1 ho1 hg1 _ hat1)
    all_goals (go_ret; exact ⟨_, rfl, ho1, hg1, hat1⟩)
set_option maxHeartbeats 4000000 in
set_option maxRecDepth 100000 in
theorem Insert_shiftTr (base g i n c vb : Nat) (cs xs : List Value) (w : World) (hi : i < n) (hroom : n + 1 ≤ c) (hown : w.ownsRow base 91 2 (.slice (some ⟨g, 0, none⟩) n c) n cs) (hx : w.heap[vb]? = some (.cells xs.toArray 91 (0, 0))) (hxl : xs.length = 2) (h1c : ∀ u ∈ cs, u.oneCell' = true) (h1x : ∀ u ∈ xs, u.oneCell' = true) (hvb : vb ≠ g) (hb : base ≤ w.heap.size) :
    Calls Try.prog 61 #[.slice (some ⟨g, 0, none⟩) n c, .int .i64 i, .slice (some ⟨vb, 0, none⟩) 1 1] w fun e w' => e = .returned (.slice (some ⟨g, 0, none⟩) (n + 1) c) ∧ w'.ownsRow base 91 2 (.slice (some ⟨g, 0, none⟩) (n + 1) c) (n + 1) (cs.take (i * 2) ++ xs ++ cs.drop (i * 2)) ∧ Below base w w' ∧ (∀ k, k ≠ g → w'.heap[k]? = w.heap[k]?) := by
  have hu := Try.underlying82
  obtain ⟨cap, cur, hbg, hgc, hncap, hcm, hcs, htk, hcl⟩ : ∃ cap cur, base ≤ g ∧ w.heap[g]? = some (.cells cur 91 (0, 0)) ∧ n ≤ cap ∧ cap ≤ maxLen ∧ cur.size = cap * 2 ∧ cur.toList.take (n * 2) = cs ∧ cap = c := by
    rcases hown.2 with ⟨h, _⟩ | ⟨g', cap, cur, h, h1, h2, h3, h4, h5, h6⟩
    · injection h with h; cases h
    · injection h with h _ h7; injection h with h; injection h with h; subst h; exact ⟨cap, cur, h1, h2, h3, h4, h5, h6, h7.symm⟩
  subst hcl;have hcl : cs.length = n * 2 := hown.1
  have hov : ∀ lb cb, (callFunc 85 #[.slice (some ⟨vb, 0, none⟩) 1 1, .slice (some ⟨g, (i + 1) * 2, none⟩) lb cb]).run Try.prog w = .ok (.value (.bool false)) w := fun lb cb => by
    rw [run_callFunc_extern Try.func85 (by kernel_rfl) (by kernel_rfl) (by kernel_rfl) (e := Extern.SlicesOverlaps.overlaps #[82, 82] #[4]) (by kernel_rfl),
      Lib.run_overlaps_apart w 82 4 91 hu 2 (fun W => by
        obtain ⟨i0, h0, h1⟩ := Option.map_eq_some_iff.1 (show (Try.prog.info? 91).map (·.size) = some 2 by kernel_rfl)
        simp [Go.sizeOf, typeInfo, h0, h1]) ⟨vb, 0, none⟩ ⟨g, (i + 1) * 2, none⟩ 1 1 lb cb hvb 91 91 2 (cap * 2) (by simp [World.shape?, hx, hxl]) (by simp [World.shape?, hgc, hcs]) (by omega) (blk_frozen hx 0) (blk_frozen hx 2)]
    rfl
  have hsz : (Try.prog.info? 91).map (·.size) = some 2 := by kernel_rfl
  have hcs' : ∀ j v, cs[j]? = some v → cur[j]? = some v := fun j v hj => by
    rw [← htk, List.getElem?_take] at hj
    split at hj
    · simpa using hj
    · cases hj
  have hdl : (cs.drop (i * 2)).length = (n - i) * 2 := by rw [List.length_drop, hcl, Nat.sub_mul]
  have hcp1 : ∀ ty dc sc, (Builtin.copy_ #[82, 82] ty #[.slice (some ⟨g, (i + 1) * 2, none⟩) (n - i) dc, .slice (some ⟨g, i * 2, none⟩) (n + 1 - i) sc]).run Try.prog w.drew = .ok (goInt (Nat.min (n + 1 - i) (n - i))) (w.drew.setCells g ((i + 1) * 2) (cs.drop (i * 2))) := fun ty dc sc =>
    run_copyK w.drew 82 82 ty 91 2 g ((i + 1) * 2) (n - i) dc ⟨g, i * 2, none⟩ (n + 1 - i) sc (cs.drop (i * 2)) hu hsz
      (by rw [hdl]; congr 1; simp only [Nat.min_def]; split <;> omega)
      (fun j v hj => by
        rw [List.getElem?_drop] at hj;rw [add_at, blk_cell (blk_drew hgc)]
        exact hcs' _ v hj)
      (fun j hj => by
        rw [hdl] at hj
        rw [blk_cell (blk_drew hgc), Array.getElem?_eq_getElem (by rw [hcs]; omega)]; rfl)
      (fun j hj => blk_frozen (blk_drew hgc) _) (fun v hv => h1c v (List.mem_of_mem_drop hv))
  obtain ⟨cur1, hg1, hs1, hl1⟩ := setCells_blk g 91 (cs.drop (i * 2)) ((i + 1) * 2) w.drew cur (blk_drew hgc) (by rw [hdl, hcs]; omega)
  have hx1 : (w.drew.setCells g ((i + 1) * 2) (cs.drop (i * 2))).heap[vb]? = some (.cells xs.toArray 91 (0, 0)) := by rw [setCells_heap g _ _ _ vb hvb]; exact hx
  have HF : Aside0 (World.ownsRow ((w.drew.setCells g ((i + 1) * 2) (cs.drop (i * 2))).setCells g (i * 2) xs) base 91 2 (.slice (some ⟨g, 0, none⟩) (n + 1) cap) (n + 1) (cs.take (i * 2) ++ xs ++ cs.drop (i * 2))) := ⟨by
    obtain ⟨cur2, hg2, hs2, hl2⟩ := setCells_blk g 91 xs (i * 2) _ cur1 hg1 (by rw [hxl, hs1, hcs]; omega)
    refine ⟨by simp only [List.length_append, List.length_take, List.length_drop, hxl, hcl]; omega, .inr ⟨g, cap, cur2, rfl, hbg, hg2, hroom, hcm, by rw [hs2, hs1, hcs], ?_⟩⟩
    exact shift_list cur.toList cs xs 2 i n hi htk (by rw [Array.length_toList, hcs]; omega) hxl cur1.toList cur2.toList hl1 hl2⟩
  obtain ⟨W1, hW1⟩ : ∃ W1, W1 = w.drew.setCells g ((i + 1) * 2) (cs.drop (i * 2)) := ⟨_, rfl⟩;rw [← hW1] at hcp1 hg1 hx1
  have hcp2 : ∀ (W : World), W.heap = W1.heap → ∀ ty dc, (Builtin.copy_ #[82, 82] ty #[.slice (some ⟨g, i * 2, none⟩) (n + 1 - i) dc, .slice (some ⟨vb, 0, none⟩) 1 1]).run Try.prog W = .ok (goInt (Nat.min 1 (n + 1 - i))) (W.setCells g (i * 2) xs) := fun W hW ty dc => by
    have hgW : W.heap[g]? = some (.cells cur1 91 (0, 0)) := by rw [hW]; exact hg1
    have hxW : W.heap[vb]? = some (.cells xs.toArray 91 (0, 0)) := by rw [hW]; exact hx1
    exact run_copyK W 82 82 ty 91 2 g (i * 2) (n + 1 - i) dc ⟨vb, 0, none⟩ 1 1 xs hu hsz (by rw [hxl]; simp only [Nat.min_def]; split <;> omega)
      (fun j v hj => by rw [add_at, Nat.zero_add, blk_cell hxW]; simpa using hj)
      (fun j hj => by rw [blk_cell hgW, Array.getElem?_eq_getElem (by rw [hs1, hcs]; omega)]; rfl)
      (fun j hj => blk_frozen hgW _) h1x
  have HX := am hx;have HG := am hgc;have HG1 := am hg1;have HO := am hown;clear hx hgc hown hg1 hx1
  have hz2 : ¬ ((i : Int) = (n : Int)) := by omega
  have hb1 : (0 : Int) ≤ (i : Int) + 1 := by omega
  have htn : ((i : Int) + 1).toNat = i + 1 := by omega
  have hin : i ≤ n := by omega
  have hb2 : ¬ (cap = i + 1) := by omega
  have hb3 : (i : Int) ≤ (n : Int) + 1 := by omega
  have hb4 : ¬ (cap = i) := by omega
  have hc63 : cap ≤ 9223372036854775807 := by unfold maxLen at hcm; omega
  clear hcm
  go_enter Try.func61, Try.ntmps61
  go_wp2_with (simp only [hov])
  have hw1 : IntKind.i64.wrap ((i : Int) + 1) = (i : Int) + 1 := by rw [IntKind.wrap_i64]; omega
  go_region_law (refine copy_step rfl _ _ 82 82 rfl _ _ (by simp [Act.eval, Act.put]) (by simp [Act.eval, Act.put]) (hcp1 _ _ _) ?_)
  go_wp2_with (at_builtin; refine copy_list _ rfl _ _ 82 82 rfl _ _ rfl rfl (hcp2 _ rfl _ _) ?_)
  go_ret
  exact ⟨rfl, HF.out, setCells_below g hbg _ _ _ (setCells_below g hbg _ _ _ (below_drew1 (Below.refl _ _))), fun k hk => by rw [setCells_heap g _ _ _ k hk, setCells_heap g _ _ _ k hk]; rfl⟩
set_option maxHeartbeats 4000000 in
set_option maxRecDepth 100000 in
theorem Insert_growTr (base g i n cap vb : Nat) (cs xs : List Value) (w : World) (hi : i < n) (hroom : cap < n + 1) (hown : w.ownsRow base 91 2 (.slice (some ⟨g, 0, none⟩) n cap) n cs) (hx : w.heap[vb]? = some (.cells xs.toArray 91 (0, 0))) (hxl : xs.length = 2) (h1c : ∀ u ∈ cs, u.oneCell' = true) (h1x : ∀ u ∈ xs, u.oneCell' = true) (hb : base ≤ w.heap.size) (hl : (n + 1) * 24 ≤ 140737488355328) :
    Calls Try.prog 61 #[.slice (some ⟨g, 0, none⟩) n cap, .int .i64 i, .slice (some ⟨vb, 0, none⟩) 1 1] w fun e w' => ∃ G, e = .returned (.slice (some ⟨w.heap.size, 0, none⟩) (n + 1) G) ∧ w'.ownsRow base 91 2 (.slice (some ⟨w.heap.size, 0, none⟩) (n + 1) G) (n + 1) (cs.take (i * 2) ++ xs ++ cs.drop (i * 2)) ∧ Below w.heap.size w w' := by
  have hu := Try.underlying82;have hu3 := Try.underlying3
  obtain ⟨i0, hi0, hz0, hzs, hzb⟩ : ∃ i0, Try.prog.info? 91 = some i0 ∧ i0.zero = some (.agg #[.string ⟨#[]⟩, .int .u64 0]) ∧ i0.size = 2 ∧ i0.bytes = 24 := by
    have h : (Try.prog.info? 91).map (fun i => (i.zero, i.size, i.bytes)) = some (some (.agg #[.string ⟨#[]⟩, .int .u64 0]), 2, 24) := by kernel_rfl
    obtain ⟨i0, h0, h1⟩ := Option.map_eq_some_iff.1 h
    simp only [Prod.mk.injEq] at h1
    exact ⟨i0, h0, h1⟩
  obtain ⟨cur, hbg, hgc, hncap, hcm, hcs, htk⟩ : ∃ cur, base ≤ g ∧ w.heap[g]? = some (.cells cur 91 (0, 0)) ∧ n ≤ cap ∧ cap ≤ maxLen ∧ cur.size = cap * 2 ∧ cur.toList.take (n * 2) = cs := by
    rcases hown.2 with ⟨h, _⟩ | ⟨g', cap', cur, h, h1, h2, h3, h4, h5, h6⟩
    · injection h with h; cases h
    · injection h with h _ h7; injection h with h; injection h with h; subst h; subst h7; exact ⟨cur, h1, h2, h3, h4, h5, h6⟩
  have hcl : cs.length = n * 2 := hown.1
  have hcs' : ∀ j v, cs[j]? = some v → cur[j]? = some v := fun j v hj => by
    rw [← htk, List.getElem?_take] at hj
    split at hj
    · simpa using hj
    · cases hj
  have hsz : (Try.prog.info? 91).map (·.size) = some 2 := by rw [hi0]; simp [hzs]
  have hold : (Builtin.firstCells i0.size i (.slice (some ⟨g, 0, none⟩) i cap)).run Try.prog w.drew = .ok (cs.take (i * 2)).toArray w.drew := by
    rw [hzs]
    exact run_firstCells_some w.drew 2 i ⟨g, 0, none⟩ i cap (cs.take (i * 2)) (by rw [List.length_take]; omega) (fun j v hj => by
      rw [List.getElem?_take] at hj
      split at hj
      · rw [add_at, Nat.zero_add, blk_cell (blk_drew hgc)]; exact hcs' _ v hj
      · cases hj)
  have hkk : (n : Int) + 1 - (i : Int) = ((n + 1 - i : Nat) : Int) := by omega
  have hik : i + (n + 1 - i) = n + 1 := by omega
  have hrz : ∀ ty, (Builtin.append_ #[82, 3] ty #[.slice (some ⟨g, 0, none⟩) i cap, .int .i64 ((n : Int) + 1 - (i : Int))]).run Try.prog w = .ok (.slice (some ⟨w.heap.size, 0, none⟩) (n + 1) (grownCap w (n + 1) cap 91)) (w.drew.alloc (.cells ((cs.take (i * 2)).toArray ++ Builtin.zeroCells (Value.cells (.agg #[.string ⟨#[]⟩, .int .u64 0])) (n + 1 - i) ++ Builtin.zeroCells (Value.cells (.agg #[.string ⟨#[]⟩, .int .u64 0])) (grownCap w (n + 1) cap 91 - (n + 1))) 91)) := fun ty => by
    have h := Lib.run_append_grow_zeros w 82 3 ty 91 i0 _ .i64 .i64 hu hu3 hi0 hz0 (some ⟨g, 0, none⟩) i cap (cs.take (i * 2)) hold (n + 1 - i) (by omega) (by omega) (by omega) (by omega) (by rw [hzb]; omega) (by rw [hzb, hik]; exact growslice_fits hroom hl);rw [hik] at h;rw [hkk]
    exact h
  obtain ⟨G, hG⟩ : ∃ G, G = grownCap w (n + 1) cap 91 := ⟨_, rfl⟩;obtain ⟨ROW, hROW⟩ : ∃ ROW : Array Value, ROW = (cs.take (i * 2)).toArray ++ Builtin.zeroCells (Value.cells (.agg #[.string ⟨#[]⟩, .int .u64 0])) (n + 1 - i) ++ Builtin.zeroCells (Value.cells (.agg #[.string ⟨#[]⟩, .int .u64 0])) (G - (n + 1)) := ⟨_, rfl⟩
  have hGn : n + 1 ≤ G := by rw [hG]; exact grownCap_ge w _ _ _
  have hGm : G ≤ maxLen := by rw [hG]; exact grownCap_le_maxLen w (n + 1) cap 91 (by unfold maxLen; omega)
  rw [← hG, ← hROW] at hrz;have hcy : (Value.cells (.agg #[.string ⟨#[]⟩, .int .u64 0])).size = 2 := rfl
  have htl : (cs.take (i * 2)).length = i * 2 := by rw [List.length_take]; omega
  have hRs : ROW.size = G * 2 := by
    rw [hROW, Array.size_append, Array.size_append, zeroCells_size, zeroCells_size, hcy, List.size_toArray, htl]
    omega
  have hRt : ROW.toList.take (i * 2) = cs.take (i * 2) := by
    rw [hROW, Array.toList_append, Array.toList_append, List.append_assoc]
    exact (congrArg (fun q => List.take q _) htl.symm).trans (List.take_left ..)
  have hgw : g < w.heap.size := blk_lt hgc;have hvw : vb < w.heap.size := blk_lt hx;obtain ⟨W1, hW1⟩ : ∃ W1, W1 = w.drew.alloc (.cells ROW 91) := ⟨_, rfl⟩
  have hN : W1.heap[w.heap.size]? = some (.cells ROW 91 (0, 0)) := by rw [hW1]; exact blk_new w.drew _
  have hg1 : W1.heap[g]? = some (.cells cur 91 (0, 0)) := by rw [hW1]; exact blk_alloc (blk_drew hgc) _
  have hx1 : W1.heap[vb]? = some (.cells xs.toArray 91 (0, 0)) := by rw [hW1]; exact blk_alloc (blk_drew hx) _
  have hB1 : Below w.heap.size w W1 := by rw [hW1]; exact below_alloc (below_drew1 (Below.refl _ _)) _
  have hdl : (cs.drop (i * 2)).length = (n - i) * 2 := by rw [List.length_drop, hcl, Nat.sub_mul]
  obtain ⟨cur1, hN1, hs1, hl1⟩ := setCells_blk w.heap.size 91 xs (i * 2) W1 ROW hN (by rw [hxl, hRs]; omega);obtain ⟨cur2, hN2, hs2, hl2⟩ := setCells_blk w.heap.size 91 (cs.drop (i * 2)) ((i + 1) * 2) _ cur1 hN1 (by rw [hdl, hs1, hRs]; omega)
  have hg2 : (W1.setCells w.heap.size (i * 2) xs).heap[g]? = some (.cells cur 91 (0, 0)) := by rw [setCells_heap _ _ _ _ g (by omega)]; exact hg1
  have hcpA : ∀ (W : World), W.heap = W1.heap → ∀ ty dc, (Builtin.copy_ #[82, 82] ty #[.slice (some ⟨w.heap.size, i * 2, none⟩) (n + 1 - i) dc, .slice (some ⟨vb, 0, none⟩) 1 1]).run Try.prog W = .ok (goInt (Nat.min 1 (n + 1 - i))) (W.setCells w.heap.size (i * 2) xs) := fun W hW ty dc => by
    have hgW : W.heap[w.heap.size]? = some (.cells ROW 91 (0, 0)) := by rw [hW]; exact hN
    have hxW : W.heap[vb]? = some (.cells xs.toArray 91 (0, 0)) := by rw [hW]; exact hx1
    exact run_copyK W 82 82 ty 91 2 w.heap.size (i * 2) (n + 1 - i) dc ⟨vb, 0, none⟩ 1 1 xs hu hsz (by rw [hxl]; simp only [Nat.min_def]; split <;> omega)
      (fun j v hj => by rw [add_at, Nat.zero_add, blk_cell hxW]; simpa using hj)
      (fun j hj => by rw [blk_cell hgW, Array.getElem?_eq_getElem (by rw [hRs]; omega)]; rfl)
      (fun j hj => blk_frozen hgW _) h1x
  have hcpB : ∀ (W : World), W.heap = (W1.setCells w.heap.size (i * 2) xs).heap → ∀ ty dc sc, (Builtin.copy_ #[82, 82] ty #[.slice (some ⟨w.heap.size, (i + 1) * 2, none⟩) (n - i) dc, .slice (some ⟨g, i * 2, none⟩) (n - i) sc]).run Try.prog W = .ok (goInt (Nat.min (n - i) (n - i))) (W.setCells w.heap.size ((i + 1) * 2) (cs.drop (i * 2))) := fun W hW ty dc sc => by
    have hNW : W.heap[w.heap.size]? = some (.cells cur1 91 (0, 0)) := by rw [hW]; exact hN1
    have hgW : W.heap[g]? = some (.cells cur 91 (0, 0)) := by rw [hW]; exact hg2
    exact run_copyK W 82 82 ty 91 2 w.heap.size ((i + 1) * 2) (n - i) dc ⟨g, i * 2, none⟩ (n - i) sc (cs.drop (i * 2)) hu hsz
      (by rw [hdl]; congr 1; simp only [Nat.min_def]; split <;> omega)
      (fun j v hj => by
        rw [List.getElem?_drop] at hj;rw [add_at, blk_cell hgW]
        exact hcs' _ v hj)
      (fun j hj => by
        rw [hdl] at hj
        rw [blk_cell hNW, Array.getElem?_eq_getElem (by rw [hs1, hRs]; omega)]; rfl)
      (fun j hj => blk_frozen hNW _) (fun v hv => h1c v (List.mem_of_mem_drop hv))
  have HF : Aside0 (World.ownsRow ((W1.setCells w.heap.size (i * 2) xs).setCells w.heap.size ((i + 1) * 2) (cs.drop (i * 2))) base 91 2 (.slice (some ⟨w.heap.size, 0, none⟩) (n + 1) G) (n + 1) (cs.take (i * 2) ++ xs ++ cs.drop (i * 2))) := ⟨by
    refine ⟨by simp only [List.length_append, List.length_take, List.length_drop, hxl, hcl]; omega, .inr ⟨w.heap.size, G, cur2, rfl, hb, hN2, hGn, hGm, by rw [hs2, hs1, hRs], ?_⟩⟩
    exact grow_list ROW.toList cs xs 2 i n hi hcl hRt (by rw [Array.length_toList, hRs]; omega) hxl cur1.toList cur2.toList hl1 hl2⟩
  have HB := am (setCells_below w.heap.size (Nat.le_refl _) (cs.drop (i * 2)) ((i + 1) * 2) _ (setCells_below w.heap.size (Nat.le_refl _) xs (i * 2) W1 hB1))
  have hz2 : ¬ ((i : Int) = (n : Int)) := by omega
  have hz3 : (cap : Int) < (n : Int) + 1 := by omega
  have hb1 : (0 : Int) ≤ (i : Int) + 1 := by omega
  have htn : ((i : Int) + 1).toNat = i + 1 := by omega
  have hin : i ≤ n := by omega
  have hGi : ¬ (G = i) := by omega
  have hGim : ¬ (G = i + 1) := by omega
  have hci : ¬ (cap = i) := by omega
  have hb3 : (i : Int) ≤ (n : Int) + 1 := by omega
  have hb5 : (i : Int) ≤ (n : Int) := by omega
  have hG63 : G ≤ 9223372036854775807 := by unfold maxLen at hGm; omega
  subst hW1;clear hcm hGm hkk hik hold hROW hG hRs hRt hN hg1 hx1 hN1 hN2 hl1 hl2 hs1 hs2 hg2 hB1 hgc hx hown hi0 hz0 hzs hzb hsz hcs' htl hcy
  have hA := fun ty dc => hcpA ((w.alloc (.cells ROW 91)).drew) rfl ty dc
  have hB := fun ty dc sc => hcpB (((w.alloc (.cells ROW 91)).drew.setCells w.heap.size (i * 2) xs).drew) rfl ty dc sc
  clear hcpA hcpB
  have hw1 : IntKind.i64.wrap ((i : Int) + 1) = (i : Int) + 1 := by rw [IntKind.wrap_i64]; omega
  go_enter Try.func61, Try.ntmps61
  go_wp2_with (at_builtin; refine Lib.wpList_append_run _ rfl _ _ _ _ rfl _ _ rfl rfl _ _ (hrz _) ?_)
  go_region_law fail
  go_wp2
  go_ret
  rw [← setCells_drew]
  exact ⟨G, rfl, HF.out, HB.out.drew⟩
theorem Insert_callsTr (base : Nat) (v : Value) (n i : Nat) (cs xs : List Value) (vb : Nat) (w : World) (hi : i ≤ n) (hown : w.ownsRow base 91 2 v n cs) (hx : w.heap[vb]? = some (.cells xs.toArray 91 (0, 0))) (hxl : xs.length = 2) (h1c : ∀ u ∈ cs, u.oneCell' = true) (h1x : ∀ u ∈ xs, u.oneCell' = true) (hvb : v.ownBlock ≠ some vb) (hb : base ≤ w.heap.size) (hl : (n + 1) * 24 ≤ 140737488355328) :
    Calls Try.prog 61 #[v, .int .i64 i, .slice (some ⟨vb, 0, none⟩) 1 1] w fun e w' => ∃ v1, e = .returned v1 ∧ w'.ownsRow base 91 2 v1 (n + 1) (cs.take (i * 2) ++ xs ++ cs.drop (i * 2)) ∧ Below base w w' ∧ (∀ k, k < w.heap.size → some k ≠ v.ownBlock → w'.heap[k]? = w.heap[k]?) ∧ (v1.ownBlock = v.ownBlock ∨ ∃ b, v1.ownBlock = some b ∧ w.heap.size ≤ b) := by
  rcases Nat.lt_or_ge i n with hin | hin
  · obtain ⟨g, cap, cur, rfl, hbg, hgc, _⟩ : ∃ g cap cur, v = .slice (some ⟨g, 0, none⟩) n cap ∧ base ≤ g ∧ w.heap[g]? = some (.cells cur 91 (0, 0)) ∧ n ≤ cap := by
      rcases hown.2 with ⟨_, h⟩ | ⟨g, cap, cur, h, h1, h2, h3, _⟩
      · omega
      · exact ⟨g, cap, cur, h, h1, h2, h3⟩
    have hvg : vb ≠ g := fun he => hvb (by rw [he]; rfl)
    rcases Nat.lt_or_ge cap (n + 1) with hc | hc
    · refine (Insert_growTr base g i n cap vb cs xs w hin hc hown hx hxl h1c h1x hb hl).mono ?_
      rintro e w' ⟨G, rfl, ho, hB⟩
      exact ⟨_, rfl, ho, hB.mono hb, fun k hk _ => hB.block k hk, .inr ⟨_, rfl, Nat.le_refl _⟩⟩
    · refine (Insert_shiftTr base g i n cap vb cs xs w hin hc hown hx hxl h1c h1x hvg hb).mono ?_
      rintro e w' ⟨rfl, ho, hB, hk⟩
      exact ⟨_, rfl, ho, hB, fun k _ hk' => hk k (fun he => hk' (by rw [he]; rfl)), .inl rfl⟩
  · obtain rfl : i = n := by omega
    refine (Insert_endTr base v i cs xs vb w hown hx hxl h1x hl hb).mono ?_
    rintro e w' ⟨v1, rfl, ho, hg, ha⟩
    refine ⟨v1, rfl, by rw [← hown.1, List.take_length, List.drop_length, List.append_nil]; exact ho, (Below.refl base w).grown hg hb (own_base hown), fun k hk hk' => hg.block k hk hk', ?_⟩
    rcases ha with ha | ha
    · exact .inl ha
    · exact .inr ⟨_, ha, Nat.le_refl _⟩
theorem InsTr_N (base : Nat) (ok okp : Nat → Prop) (v : Value) (xs : List S91) (x : S91) (cs : List Value) (i vb : Nat) (w : World) (hi : i ≤ xs.length) (hN : Kd.N k91 91 w base ok v xs) (hp : Kd.FK k91 w okp x cs) (hokp : ∀ k, okp k → ok k ∧ some k ≠ v.ownBlock) (hfresh : ∀ k, w.heap.size ≤ k → ok k)
    (hx : w.heap[vb]? = some (.cells cs.toArray 91 (0, 0))) (hvb : v.ownBlock ≠ some vb) (hb : base ≤ w.heap.size) (hl : (xs.length + 1) * 24 ≤ 140737488355328) :
    Calls Try.prog 61 #[v, .int .i64 i, .slice (some ⟨vb, 0, none⟩) 1 1] w fun e w' => ∃ v1, e = .returned v1 ∧ Kd.N k91 91 w' base ok v1 (xs.take i ++ [x] ++ xs.drop i) ∧ Below base w w' ∧ (∀ k, k < w.heap.size → some k ≠ v.ownBlock → w'.heap[k]? = w.heap[k]?) := by
  obtain ⟨h0, rows, hrl, ⟨hv, inner, ho, hr⟩, hf⟩ := hN
  have h1c : ∀ u ∈ inner, u.oneCell' = true := by
    intro u hu
    obtain ⟨j, hj, rfl⟩ := List.mem_iff_getElem.1 hu;have hn : inner.length = rows.length * 2 := hr.1
    have hjr : j / 2 < rows.length := by omega
    have h2 : ∀ u ∈ (inner.drop (j / 2 * 2)).take 2, u.oneCell' = true := (hr.2 (j / 2) _ (List.getElem?_eq_getElem hjr)).2.2
    exact h2 _ (List.mem_of_getElem? (i := j % 2) (by rw [List.getElem?_take_of_lt (by omega), List.getElem?_drop, show j / 2 * 2 + j % 2 = j by omega]; exact List.getElem?_eq_getElem hj))
  refine (Insert_callsTr base v xs.length i inner cs vb w hi (hrl ▸ ho) hx (k91.K_len (Kd.FK_now hp)) h1c (k91.K_one (Kd.FK_now hp)) hvb hb hl).mono ?_
  rintro e w' ⟨v1, rfl, ho1, hB, hk, hat⟩
  exact ⟨v1, rfl, N_inserted i hi h0 hrl hr hf hp hokp hfresh ho1 hk hat, hB, hk⟩
set_option maxHeartbeats 4000000 in
set_option maxRecDepth 100000 in
theorem Insert_endBk (base : Nat) (v : Value) (n : Nat) (cs xs : List Value) (vb : Nat) (w : World) (hown : w.ownsRow base 84 2 v n cs) (hx : w.heap[vb]? = some (.cells xs.toArray 84 (0, 0))) (hxl : xs.length = 2) (h1x : ∀ u ∈ xs, u.oneCell' = true)
    (hl : (n + 1) * 32 ≤ 140737488355328) (hb : base ≤ w.heap.size) :
    Calls Try.prog 67 #[v, .int .i64 n, .slice (some ⟨vb, 0, none⟩) 1 1] w fun e w' => ∃ v1, e = .returned v1 ∧ w'.ownsRow base 84 2 v1 (n + 1) (cs ++ xs) ∧ w.grownBy w' v.ownBlock ∧ (v1.ownBlock = v.ownBlock ∨ v1.ownBlock = some w.heap.size) := by
  obtain ⟨i0, hi0, hz⟩ : ∃ i0, Try.prog.info? 84 = some i0 ∧ i0.zero = some (.agg #[.int .i64 0, .slice none 0 0]) ∧ i0.size = 2 ∧ i0.bytes = 32 := by
    have h : (Try.prog.info? 84).map (fun i => (i.zero, i.size, i.bytes)) = some (some (.agg #[.int .i64 0, .slice none 0 0]), 2, 32) := by kernel_rfl
    obtain ⟨i0, h0, h1⟩ := Option.map_eq_some_iff.1 h
    simp only [Prod.mk.injEq] at h1
    exact ⟨i0, h0, h1⟩
  have hu := Try.underlying65
  have hnews : ∀ j u, xs[j]? = some u → w.cell? ((⟨vb, 0, none⟩ : Addr).add j) = some u := fun j u hj => by rw [add_at, Nat.zero_add, blk_cell hx]; simpa using hj
  have HO := am hown
  obtain ⟨A, c, rfl⟩ : ∃ A c, v = .slice A n c := by
    rcases hown.2 with ⟨rfl, rfl⟩ | ⟨g, cap, cur, rfl, _⟩
    · exact ⟨_, _, rfl⟩
    · exact ⟨_, _, rfl⟩
  have hc : n ≤ c := own_le hown;clear hown;have HI := am (And.intro hi0 hz);clear hi0 hz hx
  cases A with
  | none =>
    have h0 : n = 0 ∧ c = 0 := by
      rcases HO.out.2 with ⟨h, h2⟩ | ⟨g, cap, cur, h, _⟩
      · injection h with _ _ h3; exact ⟨h2, h3⟩
      · injection h with h _ _; cases h
    obtain ⟨rfl, rfl⟩ := h0
    go_enter Try.func67, Try.ntmps67
    go_wp2_with (at_builtin; refine wpList_append_own_at w rfl (.tmp 23) (.tmp 24) 65 rfl base 84 i0 _ 2 32 hu HI.out.1 HI.out.2.1 HI.out.2.2.1 HI.out.2.2.2 rfl (by decide) _ _ _ rfl HO.out ⟨vb, 0, none⟩ 1 1 xs rfl (by omega) hnews h1x (by unfold maxLen; omega) hl hb ?_; rintro v1 w1 ho1 hg1 _ hat1)
    go_ret
    exact ⟨_, rfl, ho1, hg1, hat1⟩
  | some ad =>
    obtain ⟨g, rfl⟩ : ∃ g, ad = ⟨g, 0, none⟩ := by
      rcases HO.out.2 with ⟨h, _⟩ | ⟨g, cap, cur, h, _⟩
      · injection h with h; cases h
      · injection h with h; injection h with h; exact ⟨g, h⟩
    go_enter Try.func67, Try.ntmps67
    go_wp2_with (at_builtin; refine wpList_append_own_at w rfl (.tmp 23) (.tmp 24) 65 rfl base 84 i0 _ 2 32 hu HI.out.1 HI.out.2.1 HI.out.2.2.1 HI.out.2.2.2 rfl (by decide) _ _ _ rfl HO.out ⟨vb, 0, none⟩ 1 1 xs rfl (by omega) hnews h1x (by unfold maxLen; omega) hl hb ?_; rintro v1 w1 ho1 hg1 _ hat1)
    all_goals (go_ret; exact ⟨_, rfl, ho1, hg1, hat1⟩)
set_option maxHeartbeats 4000000 in
set_option maxRecDepth 100000 in
theorem Insert_shiftBk (base g i n c vb : Nat) (cs xs : List Value) (w : World) (hi : i < n) (hroom : n + 1 ≤ c) (hown : w.ownsRow base 84 2 (.slice (some ⟨g, 0, none⟩) n c) n cs) (hx : w.heap[vb]? = some (.cells xs.toArray 84 (0, 0))) (hxl : xs.length = 2) (h1c : ∀ u ∈ cs, u.oneCell' = true) (h1x : ∀ u ∈ xs, u.oneCell' = true) (hvb : vb ≠ g) (hb : base ≤ w.heap.size) :
    Calls Try.prog 67 #[.slice (some ⟨g, 0, none⟩) n c, .int .i64 i, .slice (some ⟨vb, 0, none⟩) 1 1] w fun e w' => e = .returned (.slice (some ⟨g, 0, none⟩) (n + 1) c) ∧ w'.ownsRow base 84 2 (.slice (some ⟨g, 0, none⟩) (n + 1) c) (n + 1) (cs.take (i * 2) ++ xs ++ cs.drop (i * 2)) ∧ Below base w w' ∧ (∀ k, k ≠ g → w'.heap[k]? = w.heap[k]?) := by
  have hu := Try.underlying65
  obtain ⟨cap, cur, hbg, hgc, hncap, hcm, hcs, htk, hcl⟩ : ∃ cap cur, base ≤ g ∧ w.heap[g]? = some (.cells cur 84 (0, 0)) ∧ n ≤ cap ∧ cap ≤ maxLen ∧ cur.size = cap * 2 ∧ cur.toList.take (n * 2) = cs ∧ cap = c := by
    rcases hown.2 with ⟨h, _⟩ | ⟨g', cap, cur, h, h1, h2, h3, h4, h5, h6⟩
    · injection h with h; cases h
    · injection h with h _ h7; injection h with h; injection h with h; subst h; exact ⟨cap, cur, h1, h2, h3, h4, h5, h6, h7.symm⟩
  subst hcl;have hcl : cs.length = n * 2 := hown.1
  have hov : ∀ lb cb, (callFunc 89 #[.slice (some ⟨vb, 0, none⟩) 1 1, .slice (some ⟨g, (i + 1) * 2, none⟩) lb cb]).run Try.prog w = .ok (.value (.bool false)) w := fun lb cb => by
    rw [run_callFunc_extern Try.func89 (by kernel_rfl) (by kernel_rfl) (by kernel_rfl) (e := Extern.SlicesOverlaps.overlaps #[65, 65] #[4]) (by kernel_rfl),
      Lib.run_overlaps_apart w 65 4 84 hu 2 (fun W => by
        obtain ⟨i0, h0, h1⟩ := Option.map_eq_some_iff.1 (show (Try.prog.info? 84).map (·.size) = some 2 by kernel_rfl)
        simp [Go.sizeOf, typeInfo, h0, h1]) ⟨vb, 0, none⟩ ⟨g, (i + 1) * 2, none⟩ 1 1 lb cb hvb 84 84 2 (cap * 2) (by simp [World.shape?, hx, hxl]) (by simp [World.shape?, hgc, hcs]) (by omega) (blk_frozen hx 0) (blk_frozen hx 2)]
    rfl
  have hsz : (Try.prog.info? 84).map (·.size) = some 2 := by kernel_rfl
  have hcs' : ∀ j v, cs[j]? = some v → cur[j]? = some v := fun j v hj => by
    rw [← htk, List.getElem?_take] at hj
    split at hj
    · simpa using hj
    · cases hj
  have hdl : (cs.drop (i * 2)).length = (n - i) * 2 := by rw [List.length_drop, hcl, Nat.sub_mul]
  have hcp1 : ∀ ty dc sc, (Builtin.copy_ #[65, 65] ty #[.slice (some ⟨g, (i + 1) * 2, none⟩) (n - i) dc, .slice (some ⟨g, i * 2, none⟩) (n + 1 - i) sc]).run Try.prog w.drew = .ok (goInt (Nat.min (n + 1 - i) (n - i))) (w.drew.setCells g ((i + 1) * 2) (cs.drop (i * 2))) := fun ty dc sc =>
    run_copyK w.drew 65 65 ty 84 2 g ((i + 1) * 2) (n - i) dc ⟨g, i * 2, none⟩ (n + 1 - i) sc (cs.drop (i * 2)) hu hsz
      (by rw [hdl]; congr 1; simp only [Nat.min_def]; split <;> omega)
      (fun j v hj => by
        rw [List.getElem?_drop] at hj;rw [add_at, blk_cell (blk_drew hgc)]
        exact hcs' _ v hj)
      (fun j hj => by
        rw [hdl] at hj
        rw [blk_cell (blk_drew hgc), Array.getElem?_eq_getElem (by rw [hcs]; omega)]; rfl)
      (fun j hj => blk_frozen (blk_drew hgc) _) (fun v hv => h1c v (List.mem_of_mem_drop hv))
  obtain ⟨cur1, hg1, hs1, hl1⟩ := setCells_blk g 84 (cs.drop (i * 2)) ((i + 1) * 2) w.drew cur (blk_drew hgc) (by rw [hdl, hcs]; omega)
  have hx1 : (w.drew.setCells g ((i + 1) * 2) (cs.drop (i * 2))).heap[vb]? = some (.cells xs.toArray 84 (0, 0)) := by rw [setCells_heap g _ _ _ vb hvb]; exact hx
  have HF : Aside0 (World.ownsRow ((w.drew.setCells g ((i + 1) * 2) (cs.drop (i * 2))).setCells g (i * 2) xs) base 84 2 (.slice (some ⟨g, 0, none⟩) (n + 1) cap) (n + 1) (cs.take (i * 2) ++ xs ++ cs.drop (i * 2))) := ⟨by
    obtain ⟨cur2, hg2, hs2, hl2⟩ := setCells_blk g 84 xs (i * 2) _ cur1 hg1 (by rw [hxl, hs1, hcs]; omega)
    refine ⟨by simp only [List.length_append, List.length_take, List.length_drop, hxl, hcl]; omega, .inr ⟨g, cap, cur2, rfl, hbg, hg2, hroom, hcm, by rw [hs2, hs1, hcs], ?_⟩⟩
    exact shift_list cur.toList cs xs 2 i n hi htk (by rw [Array.length_toList, hcs]; omega) hxl cur1.toList cur2.toList hl1 hl2⟩
  obtain ⟨W1, hW1⟩ : ∃ W1, W1 = w.drew.setCells g ((i + 1) * 2) (cs.drop (i * 2)) := ⟨_, rfl⟩;rw [← hW1] at hcp1 hg1 hx1
  have hcp2 : ∀ (W : World), W.heap = W1.heap → ∀ ty dc, (Builtin.copy_ #[65, 65] ty #[.slice (some ⟨g, i * 2, none⟩) (n + 1 - i) dc, .slice (some ⟨vb, 0, none⟩) 1 1]).run Try.prog W = .ok (goInt (Nat.min 1 (n + 1 - i))) (W.setCells g (i * 2) xs) := fun W hW ty dc => by
    have hgW : W.heap[g]? = some (.cells cur1 84 (0, 0)) := by rw [hW]; exact hg1
    have hxW : W.heap[vb]? = some (.cells xs.toArray 84 (0, 0)) := by rw [hW]; exact hx1
    exact run_copyK W 65 65 ty 84 2 g (i * 2) (n + 1 - i) dc ⟨vb, 0, none⟩ 1 1 xs hu hsz (by rw [hxl]; simp only [Nat.min_def]; split <;> omega)
      (fun j v hj => by rw [add_at, Nat.zero_add, blk_cell hxW]; simpa using hj)
      (fun j hj => by rw [blk_cell hgW, Array.getElem?_eq_getElem (by rw [hs1, hcs]; omega)]; rfl)
      (fun j hj => blk_frozen hgW _) h1x
  have HX := am hx;have HG := am hgc;have HG1 := am hg1;have HO := am hown;clear hx hgc hown hg1 hx1
  have hz2 : ¬ ((i : Int) = (n : Int)) := by omega
  have hb1 : (0 : Int) ≤ (i : Int) + 1 := by omega
  have htn : ((i : Int) + 1).toNat = i + 1 := by omega
  have hin : i ≤ n := by omega
  have hb2 : ¬ (cap = i + 1) := by omega
  have hb3 : (i : Int) ≤ (n : Int) + 1 := by omega
  have hb4 : ¬ (cap = i) := by omega
  have hc63 : cap ≤ 9223372036854775807 := by unfold maxLen at hcm; omega
  clear hcm
  go_enter Try.func67, Try.ntmps67
  go_wp2_with (simp only [hov])
  have hw1 : IntKind.i64.wrap ((i : Int) + 1) = (i : Int) + 1 := by rw [IntKind.wrap_i64]; omega
  go_region_law (refine copy_step rfl _ _ 65 65 rfl _ _ (by simp [Act.eval, Act.put]) (by simp [Act.eval, Act.put]) (hcp1 _ _ _) ?_)
  go_wp2_with (at_builtin; refine copy_list _ rfl _ _ 65 65 rfl _ _ rfl rfl (hcp2 _ rfl _ _) ?_)
  go_ret
  exact ⟨rfl, HF.out, setCells_below g hbg _ _ _ (setCells_below g hbg _ _ _ (below_drew1 (Below.refl _ _))), fun k hk => by rw [setCells_heap g _ _ _ k hk, setCells_heap g _ _ _ k hk]; rfl⟩
set_option maxHeartbeats 4000000 in
set_option maxRecDepth 100000 in
theorem Insert_growBk (base g i n cap vb : Nat) (cs xs : List Value) (w : World) (hi : i < n) (hroom : cap < n + 1) (hown : w.ownsRow base 84 2 (.slice (some ⟨g, 0, none⟩) n cap) n cs) (hx : w.heap[vb]? = some (.cells xs.toArray 84 (0, 0))) (hxl : xs.length = 2) (h1c : ∀ u ∈ cs, u.oneCell' = true) (h1x : ∀ u ∈ xs, u.oneCell' = true) (hb : base ≤ w.heap.size) (hl : (n + 1) * 32 ≤ 140737488355328) :
    Calls Try.prog 67 #[.slice (some ⟨g, 0, none⟩) n cap, .int .i64 i, .slice (some ⟨vb, 0, none⟩) 1 1] w fun e w' => ∃ G, e = .returned (.slice (some ⟨w.heap.size, 0, none⟩) (n + 1) G) ∧ w'.ownsRow base 84 2 (.slice (some ⟨w.heap.size, 0, none⟩) (n + 1) G) (n + 1) (cs.take (i * 2) ++ xs ++ cs.drop (i * 2)) ∧ Below w.heap.size w w' := by
  have hu := Try.underlying65;have hu3 := Try.underlying3
  obtain ⟨i0, hi0, hz0, hzs, hzb⟩ : ∃ i0, Try.prog.info? 84 = some i0 ∧ i0.zero = some (.agg #[.int .i64 0, .slice none 0 0]) ∧ i0.size = 2 ∧ i0.bytes = 32 := by
    have h : (Try.prog.info? 84).map (fun i => (i.zero, i.size, i.bytes)) = some (some (.agg #[.int .i64 0, .slice none 0 0]), 2, 32) := by kernel_rfl
    obtain ⟨i0, h0, h1⟩ := Option.map_eq_some_iff.1 h
    simp only [Prod.mk.injEq] at h1
    exact ⟨i0, h0, h1⟩
  obtain ⟨cur, hbg, hgc, hncap, hcm, hcs, htk⟩ : ∃ cur, base ≤ g ∧ w.heap[g]? = some (.cells cur 84 (0, 0)) ∧ n ≤ cap ∧ cap ≤ maxLen ∧ cur.size = cap * 2 ∧ cur.toList.take (n * 2) = cs := by
    rcases hown.2 with ⟨h, _⟩ | ⟨g', cap', cur, h, h1, h2, h3, h4, h5, h6⟩
    · injection h with h; cases h
    · injection h with h _ h7; injection h with h; injection h with h; subst h; subst h7; exact ⟨cur, h1, h2, h3, h4, h5, h6⟩
  have hcl : cs.length = n * 2 := hown.1
  have hcs' : ∀ j v, cs[j]? = some v → cur[j]? = some v := fun j v hj => by
    rw [← htk, List.getElem?_take] at hj
    split at hj
    · simpa using hj
    · cases hj
  have hsz : (Try.prog.info? 84).map (·.size) = some 2 := by rw [hi0]; simp [hzs]
  have hold : (Builtin.firstCells i0.size i (.slice (some ⟨g, 0, none⟩) i cap)).run Try.prog w.drew = .ok (cs.take (i * 2)).toArray w.drew := by
    rw [hzs]
    exact run_firstCells_some w.drew 2 i ⟨g, 0, none⟩ i cap (cs.take (i * 2)) (by rw [List.length_take]; omega) (fun j v hj => by
      rw [List.getElem?_take] at hj
      split at hj
      · rw [add_at, Nat.zero_add, blk_cell (blk_drew hgc)]; exact hcs' _ v hj
      · cases hj)
  have hkk : (n : Int) + 1 - (i : Int) = ((n + 1 - i : Nat) : Int) := by omega
  have hik : i + (n + 1 - i) = n + 1 := by omega
  have hrz : ∀ ty, (Builtin.append_ #[65, 3] ty #[.slice (some ⟨g, 0, none⟩) i cap, .int .i64 ((n : Int) + 1 - (i : Int))]).run Try.prog w = .ok (.slice (some ⟨w.heap.size, 0, none⟩) (n + 1) (grownCap w (n + 1) cap 84)) (w.drew.alloc (.cells ((cs.take (i * 2)).toArray ++ Builtin.zeroCells (Value.cells (.agg #[.int .i64 0, .slice none 0 0])) (n + 1 - i) ++ Builtin.zeroCells (Value.cells (.agg #[.int .i64 0, .slice none 0 0])) (grownCap w (n + 1) cap 84 - (n + 1))) 84)) := fun ty => by
    have h := Lib.run_append_grow_zeros w 65 3 ty 84 i0 _ .i64 .i64 hu hu3 hi0 hz0 (some ⟨g, 0, none⟩) i cap (cs.take (i * 2)) hold (n + 1 - i) (by omega) (by omega) (by omega) (by omega) (by rw [hzb]; omega) (by rw [hzb, hik]; exact growslice_fits hroom hl);rw [hik] at h;rw [hkk]
    exact h
  obtain ⟨G, hG⟩ : ∃ G, G = grownCap w (n + 1) cap 84 := ⟨_, rfl⟩;obtain ⟨ROW, hROW⟩ : ∃ ROW : Array Value, ROW = (cs.take (i * 2)).toArray ++ Builtin.zeroCells (Value.cells (.agg #[.int .i64 0, .slice none 0 0])) (n + 1 - i) ++ Builtin.zeroCells (Value.cells (.agg #[.int .i64 0, .slice none 0 0])) (G - (n + 1)) := ⟨_, rfl⟩
  have hGn : n + 1 ≤ G := by rw [hG]; exact grownCap_ge w _ _ _
  have hGm : G ≤ maxLen := by rw [hG]; exact grownCap_le_maxLen w (n + 1) cap 84 (by unfold maxLen; omega)
  rw [← hG, ← hROW] at hrz;have hcy : (Value.cells (.agg #[.int .i64 0, .slice none 0 0])).size = 2 := rfl
  have htl : (cs.take (i * 2)).length = i * 2 := by rw [List.length_take]; omega
  have hRs : ROW.size = G * 2 := by
    rw [hROW, Array.size_append, Array.size_append, zeroCells_size, zeroCells_size, hcy, List.size_toArray, htl]
    omega
  have hRt : ROW.toList.take (i * 2) = cs.take (i * 2) := by
    rw [hROW, Array.toList_append, Array.toList_append, List.append_assoc]
    exact (congrArg (fun q => List.take q _) htl.symm).trans (List.take_left ..)
  have hgw : g < w.heap.size := blk_lt hgc;have hvw : vb < w.heap.size := blk_lt hx;obtain ⟨W1, hW1⟩ : ∃ W1, W1 = w.drew.alloc (.cells ROW 84) := ⟨_, rfl⟩
  have hN : W1.heap[w.heap.size]? = some (.cells ROW 84 (0, 0)) := by rw [hW1]; exact blk_new w.drew _
  have hg1 : W1.heap[g]? = some (.cells cur 84 (0, 0)) := by rw [hW1]; exact blk_alloc (blk_drew hgc) _
  have hx1 : W1.heap[vb]? = some (.cells xs.toArray 84 (0, 0)) := by rw [hW1]; exact blk_alloc (blk_drew hx) _
  have hB1 : Below w.heap.size w W1 := by rw [hW1]; exact below_alloc (below_drew1 (Below.refl _ _)) _
  have hdl : (cs.drop (i * 2)).length = (n - i) * 2 := by rw [List.length_drop, hcl, Nat.sub_mul]
  obtain ⟨cur1, hN1, hs1, hl1⟩ := setCells_blk w.heap.size 84 xs (i * 2) W1 ROW hN (by rw [hxl, hRs]; omega);obtain ⟨cur2, hN2, hs2, hl2⟩ := setCells_blk w.heap.size 84 (cs.drop (i * 2)) ((i + 1) * 2) _ cur1 hN1 (by rw [hdl, hs1, hRs]; omega)
  have hg2 : (W1.setCells w.heap.size (i * 2) xs).heap[g]? = some (.cells cur 84 (0, 0)) := by rw [setCells_heap _ _ _ _ g (by omega)]; exact hg1
  have hcpA : ∀ (W : World), W.heap = W1.heap → ∀ ty dc, (Builtin.copy_ #[65, 65] ty #[.slice (some ⟨w.heap.size, i * 2, none⟩) (n + 1 - i) dc, .slice (some ⟨vb, 0, none⟩) 1 1]).run Try.prog W = .ok (goInt (Nat.min 1 (n + 1 - i))) (W.setCells w.heap.size (i * 2) xs) := fun W hW ty dc => by
    have hgW : W.heap[w.heap.size]? = some (.cells ROW 84 (0, 0)) := by rw [hW]; exact hN
    have hxW : W.heap[vb]? = some (.cells xs.toArray 84 (0, 0)) := by rw [hW]; exact hx1
    exact run_copyK W 65 65 ty 84 2 w.heap.size (i * 2) (n + 1 - i) dc ⟨vb, 0, none⟩ 1 1 xs hu hsz (by rw [hxl]; simp only [Nat.min_def]; split <;> omega)
      (fun j v hj => by rw [add_at, Nat.zero_add, blk_cell hxW]; simpa using hj)
      (fun j hj => by rw [blk_cell hgW, Array.getElem?_eq_getElem (by rw [hRs]; omega)]; rfl)
      (fun j hj => blk_frozen hgW _) h1x
  have hcpB : ∀ (W : World), W.heap = (W1.setCells w.heap.size (i * 2) xs).heap → ∀ ty dc sc, (Builtin.copy_ #[65, 65] ty #[.slice (some ⟨w.heap.size, (i + 1) * 2, none⟩) (n - i) dc, .slice (some ⟨g, i * 2, none⟩) (n - i) sc]).run Try.prog W = .ok (goInt (Nat.min (n - i) (n - i))) (W.setCells w.heap.size ((i + 1) * 2) (cs.drop (i * 2))) := fun W hW ty dc sc => by
    have hNW : W.heap[w.heap.size]? = some (.cells cur1 84 (0, 0)) := by rw [hW]; exact hN1
    have hgW : W.heap[g]? = some (.cells cur 84 (0, 0)) := by rw [hW]; exact hg2
    exact run_copyK W 65 65 ty 84 2 w.heap.size ((i + 1) * 2) (n - i) dc ⟨g, i * 2, none⟩ (n - i) sc (cs.drop (i * 2)) hu hsz
      (by rw [hdl]; congr 1; simp only [Nat.min_def]; split <;> omega)
      (fun j v hj => by
        rw [List.getElem?_drop] at hj;rw [add_at, blk_cell hgW]
        exact hcs' _ v hj)
      (fun j hj => by
        rw [hdl] at hj
        rw [blk_cell hNW, Array.getElem?_eq_getElem (by rw [hs1, hRs]; omega)]; rfl)
      (fun j hj => blk_frozen hNW _) (fun v hv => h1c v (List.mem_of_mem_drop hv))
  have HF : Aside0 (World.ownsRow ((W1.setCells w.heap.size (i * 2) xs).setCells w.heap.size ((i + 1) * 2) (cs.drop (i * 2))) base 84 2 (.slice (some ⟨w.heap.size, 0, none⟩) (n + 1) G) (n + 1) (cs.take (i * 2) ++ xs ++ cs.drop (i * 2))) := ⟨by
    refine ⟨by simp only [List.length_append, List.length_take, List.length_drop, hxl, hcl]; omega, .inr ⟨w.heap.size, G, cur2, rfl, hb, hN2, hGn, hGm, by rw [hs2, hs1, hRs], ?_⟩⟩
    exact grow_list ROW.toList cs xs 2 i n hi hcl hRt (by rw [Array.length_toList, hRs]; omega) hxl cur1.toList cur2.toList hl1 hl2⟩
  have HB := am (setCells_below w.heap.size (Nat.le_refl _) (cs.drop (i * 2)) ((i + 1) * 2) _ (setCells_below w.heap.size (Nat.le_refl _) xs (i * 2) W1 hB1))
  have hz2 : ¬ ((i : Int) = (n : Int)) := by omega
  have hz3 : (cap : Int) < (n : Int) + 1 := by omega
  have hb1 : (0 : Int) ≤ (i : Int) + 1 := by omega
  have htn : ((i : Int) + 1).toNat = i + 1 := by omega
  have hin : i ≤ n := by omega
  have hGi : ¬ (G = i) := by omega
  have hGim : ¬ (G = i + 1) := by omega
  have hci : ¬ (cap = i) := by omega
  have hb3 : (i : Int) ≤ (n : Int) + 1 := by omega
  have hb5 : (i : Int) ≤ (n : Int) := by omega
  have hG63 : G ≤ 9223372036854775807 := by unfold maxLen at hGm; omega
  subst hW1;clear hcm hGm hkk hik hold hROW hG hRs hRt hN hg1 hx1 hN1 hN2 hl1 hl2 hs1 hs2 hg2 hB1 hgc hx hown hi0 hz0 hzs hzb hsz hcs' htl hcy
  have hA := fun ty dc => hcpA ((w.alloc (.cells ROW 84)).drew) rfl ty dc
  have hB := fun ty dc sc => hcpB (((w.alloc (.cells ROW 84)).drew.setCells w.heap.size (i * 2) xs).drew) rfl ty dc sc
  clear hcpA hcpB
  have hw1 : IntKind.i64.wrap ((i : Int) + 1) = (i : Int) + 1 := by rw [IntKind.wrap_i64]; omega
  go_enter Try.func67, Try.ntmps67
  go_wp2_with (at_builtin; refine Lib.wpList_append_run _ rfl _ _ _ _ rfl _ _ rfl rfl _ _ (hrz _) ?_)
  go_region_law fail
  go_wp2
  go_ret
  rw [← setCells_drew]
  exact ⟨G, rfl, HF.out, HB.out.drew⟩
theorem Insert_callsBk (base : Nat) (v : Value) (n i : Nat) (cs xs : List Value) (vb : Nat) (w : World) (hi : i ≤ n) (hown : w.ownsRow base 84 2 v n cs) (hx : w.heap[vb]? = some (.cells xs.toArray 84 (0, 0))) (hxl : xs.length = 2) (h1c : ∀ u ∈ cs, u.oneCell' = true) (h1x : ∀ u ∈ xs, u.oneCell' = true) (hvb : v.ownBlock ≠ some vb) (hb : base ≤ w.heap.size) (hl : (n + 1) * 32 ≤ 140737488355328) :
    Calls Try.prog 67 #[v, .int .i64 i, .slice (some ⟨vb, 0, none⟩) 1 1] w fun e w' => ∃ v1, e = .returned v1 ∧ w'.ownsRow base 84 2 v1 (n + 1) (cs.take (i * 2) ++ xs ++ cs.drop (i * 2)) ∧ Below base w w' ∧ (∀ k, k < w.heap.size → some k ≠ v.ownBlock → w'.heap[k]? = w.heap[k]?) ∧ (v1.ownBlock = v.ownBlock ∨ ∃ b, v1.ownBlock = some b ∧ w.heap.size ≤ b) := by
  rcases Nat.lt_or_ge i n with hin | hin
  · obtain ⟨g, cap, cur, rfl, hbg, hgc, _⟩ : ∃ g cap cur, v = .slice (some ⟨g, 0, none⟩) n cap ∧ base ≤ g ∧ w.heap[g]? = some (.cells cur 84 (0, 0)) ∧ n ≤ cap := by
      rcases hown.2 with ⟨_, h⟩ | ⟨g, cap, cur, h, h1, h2, h3, _⟩
      · omega
      · exact ⟨g, cap, cur, h, h1, h2, h3⟩
    have hvg : vb ≠ g := fun he => hvb (by rw [he]; rfl)
    rcases Nat.lt_or_ge cap (n + 1) with hc | hc
    · refine (Insert_growBk base g i n cap vb cs xs w hin hc hown hx hxl h1c h1x hb hl).mono ?_
      rintro e w' ⟨G, rfl, ho, hB⟩
      exact ⟨_, rfl, ho, hB.mono hb, fun k hk _ => hB.block k hk, .inr ⟨_, rfl, Nat.le_refl _⟩⟩
    · refine (Insert_shiftBk base g i n cap vb cs xs w hin hc hown hx hxl h1c h1x hvg hb).mono ?_
      rintro e w' ⟨rfl, ho, hB, hk⟩
      exact ⟨_, rfl, ho, hB, fun k _ hk' => hk k (fun he => hk' (by rw [he]; rfl)), .inl rfl⟩
  · obtain rfl : i = n := by omega
    refine (Insert_endBk base v i cs xs vb w hown hx hxl h1x hl hb).mono ?_
    rintro e w' ⟨v1, rfl, ho, hg, ha⟩
    refine ⟨v1, rfl, by rw [← hown.1, List.take_length, List.drop_length, List.append_nil]; exact ho, (Below.refl base w).grown hg hb (own_base hown), fun k hk hk' => hg.block k hk hk', ?_⟩
    rcases ha with ha | ha
    · exact .inl ha
    · exact .inr ⟨_, ha, Nat.le_refl _⟩
theorem InsBk_N (base : Nat) (ok okp : Nat → Prop) (v : Value) (xs : List S84) (x : S84) (cs : List Value) (i vb : Nat) (w : World) (hi : i ≤ xs.length) (hN : Kd.N k84 84 w base ok v xs) (hp : Kd.FK k84 w okp x cs) (hokp : ∀ k, okp k → ok k ∧ some k ≠ v.ownBlock) (hfresh : ∀ k, w.heap.size ≤ k → ok k)
    (hx : w.heap[vb]? = some (.cells cs.toArray 84 (0, 0))) (hvb : v.ownBlock ≠ some vb) (hb : base ≤ w.heap.size) (hl : (xs.length + 1) * 32 ≤ 140737488355328) :
    Calls Try.prog 67 #[v, .int .i64 i, .slice (some ⟨vb, 0, none⟩) 1 1] w fun e w' => ∃ v1, e = .returned v1 ∧ Kd.N k84 84 w' base ok v1 (xs.take i ++ [x] ++ xs.drop i) ∧ Below base w w' ∧ (∀ k, k < w.heap.size → some k ≠ v.ownBlock → w'.heap[k]? = w.heap[k]?) := by
  obtain ⟨h0, rows, hrl, ⟨hv, inner, ho, hr⟩, hf⟩ := hN
  have h1c : ∀ u ∈ inner, u.oneCell' = true := by
    intro u hu
    obtain ⟨j, hj, rfl⟩ := List.mem_iff_getElem.1 hu;have hn : inner.length = rows.length * 2 := hr.1
    have hjr : j / 2 < rows.length := by omega
    have h2 : ∀ u ∈ (inner.drop (j / 2 * 2)).take 2, u.oneCell' = true := (hr.2 (j / 2) _ (List.getElem?_eq_getElem hjr)).2.2
    exact h2 _ (List.mem_of_getElem? (i := j % 2) (by rw [List.getElem?_take_of_lt (by omega), List.getElem?_drop, show j / 2 * 2 + j % 2 = j by omega]; exact List.getElem?_eq_getElem hj))
  refine (Insert_callsBk base v xs.length i inner cs vb w hi (hrl ▸ ho) hx (k84.K_len (Kd.FK_now hp)) h1c (k84.K_one (Kd.FK_now hp)) hvb hb hl).mono ?_
  rintro e w' ⟨v1, rfl, ho1, hB, hk, hat⟩
  exact ⟨v1, rfl, N_inserted i hi h0 hrl hr hf hp hokp hfresh ho1 hk hat, hB, hk⟩
set_option maxHeartbeats 4000000 in
set_option maxRecDepth 100000 in
theorem Insert_endLb (base : Nat) (v : Value) (n : Nat) (cs xs : List Value) (vb : Nat) (w : World) (hown : w.ownsRow base 67 3 v n cs) (hx : w.heap[vb]? = some (.cells xs.toArray 67 (0, 0))) (hxl : xs.length = 3) (h1x : ∀ u ∈ xs, u.oneCell' = true)
    (hl : (n + 1) * 48 ≤ 140737488355328) (hb : base ≤ w.heap.size) :
    Calls Try.prog 70 #[v, .int .i64 n, .slice (some ⟨vb, 0, none⟩) 1 1] w fun e w' => ∃ v1, e = .returned v1 ∧ w'.ownsRow base 67 3 v1 (n + 1) (cs ++ xs) ∧ w.grownBy w' v.ownBlock ∧ (v1.ownBlock = v.ownBlock ∨ v1.ownBlock = some w.heap.size) := by
  obtain ⟨i0, hi0, hz⟩ : ∃ i0, Try.prog.info? 67 = some i0 ∧ i0.zero = some (.agg #[.string ⟨#[]⟩, .int .u64 0, .slice none 0 0]) ∧ i0.size = 3 ∧ i0.bytes = 48 := by
    have h : (Try.prog.info? 67).map (fun i => (i.zero, i.size, i.bytes)) = some (some (.agg #[.string ⟨#[]⟩, .int .u64 0, .slice none 0 0]), 3, 48) := by kernel_rfl
    obtain ⟨i0, h0, h1⟩ := Option.map_eq_some_iff.1 h
    simp only [Prod.mk.injEq] at h1
    exact ⟨i0, h0, h1⟩
  have hu := Try.underlying61
  have hnews : ∀ j u, xs[j]? = some u → w.cell? ((⟨vb, 0, none⟩ : Addr).add j) = some u := fun j u hj => by rw [add_at, Nat.zero_add, blk_cell hx]; simpa using hj
  have HO := am hown
  obtain ⟨A, c, rfl⟩ : ∃ A c, v = .slice A n c := by
    rcases hown.2 with ⟨rfl, rfl⟩ | ⟨g, cap, cur, rfl, _⟩
    · exact ⟨_, _, rfl⟩
    · exact ⟨_, _, rfl⟩
  have hc : n ≤ c := own_le hown;clear hown;have HI := am (And.intro hi0 hz);clear hi0 hz hx
  cases A with
  | none =>
    have h0 : n = 0 ∧ c = 0 := by
      rcases HO.out.2 with ⟨h, h2⟩ | ⟨g, cap, cur, h, _⟩
      · injection h with _ _ h3; exact ⟨h2, h3⟩
      · injection h with h _ _; cases h
    obtain ⟨rfl, rfl⟩ := h0
    go_enter Try.func70, Try.ntmps70
    go_wp2_with (at_builtin; refine wpList_append_own_at w rfl (.tmp 23) (.tmp 24) 61 rfl base 67 i0 _ 3 48 hu HI.out.1 HI.out.2.1 HI.out.2.2.1 HI.out.2.2.2 rfl (by decide) _ _ _ rfl HO.out ⟨vb, 0, none⟩ 1 1 xs rfl (by omega) hnews h1x (by unfold maxLen; omega) hl hb ?_; rintro v1 w1 ho1 hg1 _ hat1)
    go_ret
    exact ⟨_, rfl, ho1, hg1, hat1⟩
  | some ad =>
    obtain ⟨g, rfl⟩ : ∃ g, ad = ⟨g, 0, none⟩ := by
      rcases HO.out.2 with ⟨h, _⟩ | ⟨g, cap, cur, h, _⟩
      · injection h with h; cases h
      · injection h with h; injection h with h; exact ⟨g, h⟩
    go_enter Try.func70, Try.ntmps70
    go_wp2_with (at_builtin; refine wpList_append_own_at w rfl (.tmp 23) (.tmp 24) 61 rfl base 67 i0 _ 3 48 hu HI.out.1 HI.out.2.1 HI.out.2.2.1 HI.out.2.2.2 rfl (by decide) _ _ _ rfl HO.out ⟨vb, 0, none⟩ 1 1 xs rfl (by omega) hnews h1x (by unfold maxLen; omega) hl hb ?_; rintro v1 w1 ho1 hg1 _ hat1)
    all_goals (go_ret; exact ⟨_, rfl, ho1, hg1, hat1⟩)
set_option maxHeartbeats 4000000 in
set_option maxRecDepth 100000 in
theorem Insert_shiftLb (base g i n c vb : Nat) (cs xs : List Value) (w : World) (hi : i < n) (hroom : n + 1 ≤ c) (hown : w.ownsRow base 67 3 (.slice (some ⟨g, 0, none⟩) n c) n cs) (hx : w.heap[vb]? = some (.cells xs.toArray 67 (0, 0))) (hxl : xs.length = 3) (h1c : ∀ u ∈ cs, u.oneCell' = true) (h1x : ∀ u ∈ xs, u.oneCell' = true) (hvb : vb ≠ g) (hb : base ≤ w.heap.size) :
    Calls Try.prog 70 #[.slice (some ⟨g, 0, none⟩) n c, .int .i64 i, .slice (some ⟨vb, 0, none⟩) 1 1] w fun e w' => e = .returned (.slice (some ⟨g, 0, none⟩) (n + 1) c) ∧ w'.ownsRow base 67 3 (.slice (some ⟨g, 0, none⟩) (n + 1) c) (n + 1) (cs.take (i * 3) ++ xs ++ cs.drop (i * 3)) ∧ Below base w w' ∧ (∀ k, k ≠ g → w'.heap[k]? = w.heap[k]?) := by
  have hu := Try.underlying61
  obtain ⟨cap, cur, hbg, hgc, hncap, hcm, hcs, htk, hcl⟩ : ∃ cap cur, base ≤ g ∧ w.heap[g]? = some (.cells cur 67 (0, 0)) ∧ n ≤ cap ∧ cap ≤ maxLen ∧ cur.size = cap * 3 ∧ cur.toList.take (n * 3) = cs ∧ cap = c := by
    rcases hown.2 with ⟨h, _⟩ | ⟨g', cap, cur, h, h1, h2, h3, h4, h5, h6⟩
    · injection h with h; cases h
    · injection h with h _ h7; injection h with h; injection h with h; subst h; exact ⟨cap, cur, h1, h2, h3, h4, h5, h6, h7.symm⟩
  subst hcl;have hcl : cs.length = n * 3 := hown.1
  have hov : ∀ lb cb, (callFunc 91 #[.slice (some ⟨vb, 0, none⟩) 1 1, .slice (some ⟨g, (i + 1) * 3, none⟩) lb cb]).run Try.prog w = .ok (.value (.bool false)) w := fun lb cb => by
    rw [run_callFunc_extern Try.func91 (by kernel_rfl) (by kernel_rfl) (by kernel_rfl) (e := Extern.SlicesOverlaps.overlaps #[61, 61] #[4]) (by kernel_rfl),
      Lib.run_overlaps_apart w 61 4 67 hu 3 (fun W => by
        obtain ⟨i0, h0, h1⟩ := Option.map_eq_some_iff.1 (show (Try.prog.info? 67).map (·.size) = some 3 by kernel_rfl)
        simp [Go.sizeOf, typeInfo, h0, h1]) ⟨vb, 0, none⟩ ⟨g, (i + 1) * 3, none⟩ 1 1 lb cb hvb 67 67 3 (cap * 3) (by simp [World.shape?, hx, hxl]) (by simp [World.shape?, hgc, hcs]) (by omega) (blk_frozen hx 0) (blk_frozen hx 3)]
    rfl
  have hsz : (Try.prog.info? 67).map (·.size) = some 3 := by kernel_rfl
  have hcs' : ∀ j v, cs[j]? = some v → cur[j]? = some v := fun j v hj => by
    rw [← htk, List.getElem?_take] at hj
    split at hj
    · simpa using hj
    · cases hj
  have hdl : (cs.drop (i * 3)).length = (n - i) * 3 := by rw [List.length_drop, hcl, Nat.sub_mul]
  have hcp1 : ∀ ty dc sc, (Builtin.copy_ #[61, 61] ty #[.slice (some ⟨g, (i + 1) * 3, none⟩) (n - i) dc, .slice (some ⟨g, i * 3, none⟩) (n + 1 - i) sc]).run Try.prog w.drew = .ok (goInt (Nat.min (n + 1 - i) (n - i))) (w.drew.setCells g ((i + 1) * 3) (cs.drop (i * 3))) := fun ty dc sc =>
    run_copyK w.drew 61 61 ty 67 3 g ((i + 1) * 3) (n - i) dc ⟨g, i * 3, none⟩ (n + 1 - i) sc (cs.drop (i * 3)) hu hsz
      (by rw [hdl]; congr 1; simp only [Nat.min_def]; split <;> omega)
      (fun j v hj => by
        rw [List.getElem?_drop] at hj;rw [add_at, blk_cell (blk_drew hgc)]
        exact hcs' _ v hj)
      (fun j hj => by
        rw [hdl] at hj
        rw [blk_cell (blk_drew hgc), Array.getElem?_eq_getElem (by rw [hcs]; omega)]; rfl)
      (fun j hj => blk_frozen (blk_drew hgc) _) (fun v hv => h1c v (List.mem_of_mem_drop hv))
  obtain ⟨cur1, hg1, hs1, hl1⟩ := setCells_blk g 67 (cs.drop (i * 3)) ((i + 1) * 3) w.drew cur (blk_drew hgc) (by rw [hdl, hcs]; omega)
  have hx1 : (w.drew.setCells g ((i + 1) * 3) (cs.drop (i * 3))).heap[vb]? = some (.cells xs.toArray 67 (0, 0)) := by rw [setCells_heap g _ _ _ vb hvb]; exact hx
  have HF : Aside0 (World.ownsRow ((w.drew.setCells g ((i + 1) * 3) (cs.drop (i * 3))).setCells g (i * 3) xs) base 67 3 (.slice (some ⟨g, 0, none⟩) (n + 1) cap) (n + 1) (cs.take (i * 3) ++ xs ++ cs.drop (i * 3))) := ⟨by
    obtain ⟨cur2, hg2, hs2, hl2⟩ := setCells_blk g 67 xs (i * 3) _ cur1 hg1 (by rw [hxl, hs1, hcs]; omega)
    refine ⟨by simp only [List.length_append, List.length_take, List.length_drop, hxl, hcl]; omega, .inr ⟨g, cap, cur2, rfl, hbg, hg2, hroom, hcm, by rw [hs2, hs1, hcs], ?_⟩⟩
    exact shift_list cur.toList cs xs 3 i n hi htk (by rw [Array.length_toList, hcs]; omega) hxl cur1.toList cur2.toList hl1 hl2⟩
  obtain ⟨W1, hW1⟩ : ∃ W1, W1 = w.drew.setCells g ((i + 1) * 3) (cs.drop (i * 3)) := ⟨_, rfl⟩;rw [← hW1] at hcp1 hg1 hx1
  have hcp2 : ∀ (W : World), W.heap = W1.heap → ∀ ty dc, (Builtin.copy_ #[61, 61] ty #[.slice (some ⟨g, i * 3, none⟩) (n + 1 - i) dc, .slice (some ⟨vb, 0, none⟩) 1 1]).run Try.prog W = .ok (goInt (Nat.min 1 (n + 1 - i))) (W.setCells g (i * 3) xs) := fun W hW ty dc => by
    have hgW : W.heap[g]? = some (.cells cur1 67 (0, 0)) := by rw [hW]; exact hg1
    have hxW : W.heap[vb]? = some (.cells xs.toArray 67 (0, 0)) := by rw [hW]; exact hx1
    exact run_copyK W 61 61 ty 67 3 g (i * 3) (n + 1 - i) dc ⟨vb, 0, none⟩ 1 1 xs hu hsz (by rw [hxl]; simp only [Nat.min_def]; split <;> omega)
      (fun j v hj => by rw [add_at, Nat.zero_add, blk_cell hxW]; simpa using hj)
      (fun j hj => by rw [blk_cell hgW, Array.getElem?_eq_getElem (by rw [hs1, hcs]; omega)]; rfl)
      (fun j hj => blk_frozen hgW _) h1x
  have HX := am hx;have HG := am hgc;have HG1 := am hg1;have HO := am hown;clear hx hgc hown hg1 hx1
  have hz2 : ¬ ((i : Int) = (n : Int)) := by omega
  have hb1 : (0 : Int) ≤ (i : Int) + 1 := by omega
  have htn : ((i : Int) + 1).toNat = i + 1 := by omega
  have hin : i ≤ n := by omega
  have hb2 : ¬ (cap = i + 1) := by omega
  have hb3 : (i : Int) ≤ (n : Int) + 1 := by omega
  have hb4 : ¬ (cap = i) := by omega
  have hc63 : cap ≤ 9223372036854775807 := by unfold maxLen at hcm; omega
  clear hcm
  go_enter Try.func70, Try.ntmps70
  go_wp2_with (simp only [hov])
  have hw1 : IntKind.i64.wrap ((i : Int) + 1) = (i : Int) + 1 := by rw [IntKind.wrap_i64]; omega
  go_region_law (refine copy_step rfl _ _ 61 61 rfl _ _ (by simp [Act.eval, Act.put]) (by simp [Act.eval, Act.put]) (hcp1 _ _ _) ?_)
  go_wp2_with (at_builtin; refine copy_list _ rfl _ _ 61 61 rfl _ _ rfl rfl (hcp2 _ rfl _ _) ?_)
  go_ret
  exact ⟨rfl, HF.out, setCells_below g hbg _ _ _ (setCells_below g hbg _ _ _ (below_drew1 (Below.refl _ _))), fun k hk => by rw [setCells_heap g _ _ _ k hk, setCells_heap g _ _ _ k hk]; rfl⟩
set_option maxHeartbeats 4000000 in
set_option maxRecDepth 100000 in
theorem Insert_growLb (base g i n cap vb : Nat) (cs xs : List Value) (w : World) (hi : i < n) (hroom : cap < n + 1) (hown : w.ownsRow base 67 3 (.slice (some ⟨g, 0, none⟩) n cap) n cs) (hx : w.heap[vb]? = some (.cells xs.toArray 67 (0, 0))) (hxl : xs.length = 3) (h1c : ∀ u ∈ cs, u.oneCell' = true) (h1x : ∀ u ∈ xs, u.oneCell' = true) (hb : base ≤ w.heap.size) (hl : (n + 1) * 48 ≤ 140737488355328) :
    Calls Try.prog 70 #[.slice (some ⟨g, 0, none⟩) n cap, .int .i64 i, .slice (some ⟨vb, 0, none⟩) 1 1] w fun e w' => ∃ G, e = .returned (.slice (some ⟨w.heap.size, 0, none⟩) (n + 1) G) ∧ w'.ownsRow base 67 3 (.slice (some ⟨w.heap.size, 0, none⟩) (n + 1) G) (n + 1) (cs.take (i * 3) ++ xs ++ cs.drop (i * 3)) ∧ Below w.heap.size w w' := by
  have hu := Try.underlying61;have hu3 := Try.underlying3
  obtain ⟨i0, hi0, hz0, hzs, hzb⟩ : ∃ i0, Try.prog.info? 67 = some i0 ∧ i0.zero = some (.agg #[.string ⟨#[]⟩, .int .u64 0, .slice none 0 0]) ∧ i0.size = 3 ∧ i0.bytes = 48 := by
    have h : (Try.prog.info? 67).map (fun i => (i.zero, i.size, i.bytes)) = some (some (.agg #[.string ⟨#[]⟩, .int .u64 0, .slice none 0 0]), 3, 48) := by kernel_rfl
    obtain ⟨i0, h0, h1⟩ := Option.map_eq_some_iff.1 h
    simp only [Prod.mk.injEq] at h1
    exact ⟨i0, h0, h1⟩
  obtain ⟨cur, hbg, hgc, hncap, hcm, hcs, htk⟩ : ∃ cur, base ≤ g ∧ w.heap[g]? = some (.cells cur 67 (0, 0)) ∧ n ≤ cap ∧ cap ≤ maxLen ∧ cur.size = cap * 3 ∧ cur.toList.take (n * 3) = cs := by
    rcases hown.2 with ⟨h, _⟩ | ⟨g', cap', cur, h, h1, h2, h3, h4, h5, h6⟩
    · injection h with h; cases h
    · injection h with h _ h7; injection h with h; injection h with h; subst h; subst h7; exact ⟨cur, h1, h2, h3, h4, h5, h6⟩
  have hcl : cs.length = n * 3 := hown.1
  have hcs' : ∀ j v, cs[j]? = some v → cur[j]? = some v := fun j v hj => by
    rw [← htk, List.getElem?_take] at hj
    split at hj
    · simpa using hj
    · cases hj
  have hsz : (Try.prog.info? 67).map (·.size) = some 3 := by rw [hi0]; simp [hzs]
  have hold : (Builtin.firstCells i0.size i (.slice (some ⟨g, 0, none⟩) i cap)).run Try.prog w.drew = .ok (cs.take (i * 3)).toArray w.drew := by
    rw [hzs]
    exact run_firstCells_some w.drew 3 i ⟨g, 0, none⟩ i cap (cs.take (i * 3)) (by rw [List.length_take]; omega) (fun j v hj => by
      rw [List.getElem?_take] at hj
      split at hj
      · rw [add_at, Nat.zero_add, blk_cell (blk_drew hgc)]; exact hcs' _ v hj
      · cases hj)
  have hkk : (n : Int) + 1 - (i : Int) = ((n + 1 - i : Nat) : Int) := by omega
  have hik : i + (n + 1 - i) = n + 1 := by omega
  have hrz : ∀ ty, (Builtin.append_ #[61, 3] ty #[.slice (some ⟨g, 0, none⟩) i cap, .int .i64 ((n : Int) + 1 - (i : Int))]).run Try.prog w = .ok (.slice (some ⟨w.heap.size, 0, none⟩) (n + 1) (grownCap w (n + 1) cap 67)) (w.drew.alloc (.cells ((cs.take (i * 3)).toArray ++ Builtin.zeroCells (Value.cells (.agg #[.string ⟨#[]⟩, .int .u64 0, .slice none 0 0])) (n + 1 - i) ++ Builtin.zeroCells (Value.cells (.agg #[.string ⟨#[]⟩, .int .u64 0, .slice none 0 0])) (grownCap w (n + 1) cap 67 - (n + 1))) 67)) := fun ty => by
    have h := Lib.run_append_grow_zeros w 61 3 ty 67 i0 _ .i64 .i64 hu hu3 hi0 hz0 (some ⟨g, 0, none⟩) i cap (cs.take (i * 3)) hold (n + 1 - i) (by omega) (by omega) (by omega) (by omega) (by rw [hzb]; omega) (by rw [hzb, hik]; exact growslice_fits hroom hl);rw [hik] at h;rw [hkk]
    exact h
  obtain ⟨G, hG⟩ : ∃ G, G = grownCap w (n + 1) cap 67 := ⟨_, rfl⟩;obtain ⟨ROW, hROW⟩ : ∃ ROW : Array Value, ROW = (cs.take (i * 3)).toArray ++ Builtin.zeroCells (Value.cells (.agg #[.string ⟨#[]⟩, .int .u64 0, .slice none 0 0])) (n + 1 - i) ++ Builtin.zeroCells (Value.cells (.agg #[.string ⟨#[]⟩, .int .u64 0, .slice none 0 0])) (G - (n + 1)) := ⟨_, rfl⟩
  have hGn : n + 1 ≤ G := by rw [hG]; exact grownCap_ge w _ _ _
  have hGm : G ≤ maxLen := by rw [hG]; exact grownCap_le_maxLen w (n + 1) cap 67 (by unfold maxLen; omega)
  rw [← hG, ← hROW] at hrz;have hcy : (Value.cells (.agg #[.string ⟨#[]⟩, .int .u64 0, .slice none 0 0])).size = 3 := rfl
  have htl : (cs.take (i * 3)).length = i * 3 := by rw [List.length_take]; omega
  have hRs : ROW.size = G * 3 := by
    rw [hROW, Array.size_append, Array.size_append, zeroCells_size, zeroCells_size, hcy, List.size_toArray, htl]
    omega
  have hRt : ROW.toList.take (i * 3) = cs.take (i * 3) := by
    rw [hROW, Array.toList_append, Array.toList_append, List.append_assoc]
    exact (congrArg (fun q => List.take q _) htl.symm).trans (List.take_left ..)
  have hgw : g < w.heap.size := blk_lt hgc;have hvw : vb < w.heap.size := blk_lt hx;obtain ⟨W1, hW1⟩ : ∃ W1, W1 = w.drew.alloc (.cells ROW 67) := ⟨_, rfl⟩
  have hN : W1.heap[w.heap.size]? = some (.cells ROW 67 (0, 0)) := by rw [hW1]; exact blk_new w.drew _
  have hg1 : W1.heap[g]? = some (.cells cur 67 (0, 0)) := by rw [hW1]; exact blk_alloc (blk_drew hgc) _
  have hx1 : W1.heap[vb]? = some (.cells xs.toArray 67 (0, 0)) := by rw [hW1]; exact blk_alloc (blk_drew hx) _
  have hB1 : Below w.heap.size w W1 := by rw [hW1]; exact below_alloc (below_drew1 (Below.refl _ _)) _
  have hdl : (cs.drop (i * 3)).length = (n - i) * 3 := by rw [List.length_drop, hcl, Nat.sub_mul]
  obtain ⟨cur1, hN1, hs1, hl1⟩ := setCells_blk w.heap.size 67 xs (i * 3) W1 ROW hN (by rw [hxl, hRs]; omega);obtain ⟨cur2, hN2, hs2, hl2⟩ := setCells_blk w.heap.size 67 (cs.drop (i * 3)) ((i + 1) * 3) _ cur1 hN1 (by rw [hdl, hs1, hRs]; omega)
  have hg2 : (W1.setCells w.heap.size (i * 3) xs).heap[g]? = some (.cells cur 67 (0, 0)) := by rw [setCells_heap _ _ _ _ g (by omega)]; exact hg1
  have hcpA : ∀ (W : World), W.heap = W1.heap → ∀ ty dc, (Builtin.copy_ #[61, 61] ty #[.slice (some ⟨w.heap.size, i * 3, none⟩) (n + 1 - i) dc, .slice (some ⟨vb, 0, none⟩) 1 1]).run Try.prog W = .ok (goInt (Nat.min 1 (n + 1 - i))) (W.setCells w.heap.size (i * 3) xs) := fun W hW ty dc => by
    have hgW : W.heap[w.heap.size]? = some (.cells ROW 67 (0, 0)) := by rw [hW]; exact hN
    have hxW : W.heap[vb]? = some (.cells xs.toArray 67 (0, 0)) := by rw [hW]; exact hx1
    exact run_copyK W 61 61 ty 67 3 w.heap.size (i * 3) (n + 1 - i) dc ⟨vb, 0, none⟩ 1 1 xs hu hsz (by rw [hxl]; simp only [Nat.min_def]; split <;> omega)
      (fun j v hj => by rw [add_at, Nat.zero_add, blk_cell hxW]; simpa using hj)
      (fun j hj => by rw [blk_cell hgW, Array.getElem?_eq_getElem (by rw [hRs]; omega)]; rfl)
      (fun j hj => blk_frozen hgW _) h1x
  have hcpB : ∀ (W : World), W.heap = (W1.setCells w.heap.size (i * 3) xs).heap → ∀ ty dc sc, (Builtin.copy_ #[61, 61] ty #[.slice (some ⟨w.heap.size, (i + 1) * 3, none⟩) (n - i) dc, .slice (some ⟨g, i * 3, none⟩) (n - i) sc]).run Try.prog W = .ok (goInt (Nat.min (n - i) (n - i))) (W.setCells w.heap.size ((i + 1) * 3) (cs.drop (i * 3))) := fun W hW ty dc sc => by
    have hNW : W.heap[w.heap.size]? = some (.cells cur1 67 (0, 0)) := by rw [hW]; exact hN1
    have hgW : W.heap[g]? = some (.cells cur 67 (0, 0)) := by rw [hW]; exact hg2
    exact run_copyK W 61 61 ty 67 3 w.heap.size ((i + 1) * 3) (n - i) dc ⟨g, i * 3, none⟩ (n - i) sc (cs.drop (i * 3)) hu hsz
      (by rw [hdl]; congr 1; simp only [Nat.min_def]; split <;> omega)
      (fun j v hj => by
        rw [List.getElem?_drop] at hj;rw [add_at, blk_cell hgW]
        exact hcs' _ v hj)
      (fun j hj => by
        rw [hdl] at hj
        rw [blk_cell hNW, Array.getElem?_eq_getElem (by rw [hs1, hRs]; omega)]; rfl)
      (fun j hj => blk_frozen hNW _) (fun v hv => h1c v (List.mem_of_mem_drop hv))
  have HF : Aside0 (World.ownsRow ((W1.setCells w.heap.size (i * 3) xs).setCells w.heap.size ((i + 1) * 3) (cs.drop (i * 3))) base 67 3 (.slice (some ⟨w.heap.size, 0, none⟩) (n + 1) G) (n + 1) (cs.take (i * 3) ++ xs ++ cs.drop (i * 3))) := ⟨by
    refine ⟨by simp only [List.length_append, List.length_take, List.length_drop, hxl, hcl]; omega, .inr ⟨w.heap.size, G, cur2, rfl, hb, hN2, hGn, hGm, by rw [hs2, hs1, hRs], ?_⟩⟩
    exact grow_list ROW.toList cs xs 3 i n hi hcl hRt (by rw [Array.length_toList, hRs]; omega) hxl cur1.toList cur2.toList hl1 hl2⟩
  have HB := am (setCells_below w.heap.size (Nat.le_refl _) (cs.drop (i * 3)) ((i + 1) * 3) _ (setCells_below w.heap.size (Nat.le_refl _) xs (i * 3) W1 hB1))
  have hz2 : ¬ ((i : Int) = (n : Int)) := by omega
  have hz3 : (cap : Int) < (n : Int) + 1 := by omega
  have hb1 : (0 : Int) ≤ (i : Int) + 1 := by omega
  have htn : ((i : Int) + 1).toNat = i + 1 := by omega
  have hin : i ≤ n := by omega
  have hGi : ¬ (G = i) := by omega
  have hGim : ¬ (G = i + 1) := by omega
  have hci : ¬ (cap = i) := by omega
  have hb3 : (i : Int) ≤ (n : Int) + 1 := by omega
  have hb5 : (i : Int) ≤ (n : Int) := by omega
  have hG63 : G ≤ 9223372036854775807 := by unfold maxLen at hGm; omega
  subst hW1;clear hcm hGm hkk hik hold hROW hG hRs hRt hN hg1 hx1 hN1 hN2 hl1 hl2 hs1 hs2 hg2 hB1 hgc hx hown hi0 hz0 hzs hzb hsz hcs' htl hcy
  have hA := fun ty dc => hcpA ((w.alloc (.cells ROW 67)).drew) rfl ty dc
  have hB := fun ty dc sc => hcpB (((w.alloc (.cells ROW 67)).drew.setCells w.heap.size (i * 3) xs).drew) rfl ty dc sc
  clear hcpA hcpB
  have hw1 : IntKind.i64.wrap ((i : Int) + 1) = (i : Int) + 1 := by rw [IntKind.wrap_i64]; omega
  go_enter Try.func70, Try.ntmps70
  go_wp2_with (at_builtin; refine Lib.wpList_append_run _ rfl _ _ _ _ rfl _ _ rfl rfl _ _ (hrz _) ?_)
  go_region_law fail
  go_wp2
  go_ret
  rw [← setCells_drew]
  exact ⟨G, rfl, HF.out, HB.out.drew⟩
theorem Insert_callsLb (base : Nat) (v : Value) (n i : Nat) (cs xs : List Value) (vb : Nat) (w : World) (hi : i ≤ n) (hown : w.ownsRow base 67 3 v n cs) (hx : w.heap[vb]? = some (.cells xs.toArray 67 (0, 0))) (hxl : xs.length = 3) (h1c : ∀ u ∈ cs, u.oneCell' = true) (h1x : ∀ u ∈ xs, u.oneCell' = true) (hvb : v.ownBlock ≠ some vb) (hb : base ≤ w.heap.size) (hl : (n + 1) * 48 ≤ 140737488355328) :
    Calls Try.prog 70 #[v, .int .i64 i, .slice (some ⟨vb, 0, none⟩) 1 1] w fun e w' => ∃ v1, e = .returned v1 ∧ w'.ownsRow base 67 3 v1 (n + 1) (cs.take (i * 3) ++ xs ++ cs.drop (i * 3)) ∧ Below base w w' ∧ (∀ k, k < w.heap.size → some k ≠ v.ownBlock → w'.heap[k]? = w.heap[k]?) ∧ (v1.ownBlock = v.ownBlock ∨ ∃ b, v1.ownBlock = some b ∧ w.heap.size ≤ b) := by
  rcases Nat.lt_or_ge i n with hin | hin
  · obtain ⟨g, cap, cur, rfl, hbg, hgc, _⟩ : ∃ g cap cur, v = .slice (some ⟨g, 0, none⟩) n cap ∧ base ≤ g ∧ w.heap[g]? = some (.cells cur 67 (0, 0)) ∧ n ≤ cap := by
      rcases hown.2 with ⟨_, h⟩ | ⟨g, cap, cur, h, h1, h2, h3, _⟩
      · omega
      · exact ⟨g, cap, cur, h, h1, h2, h3⟩
    have hvg : vb ≠ g := fun he => hvb (by rw [he]; rfl)
    rcases Nat.lt_or_ge cap (n + 1) with hc | hc
    · refine (Insert_growLb base g i n cap vb cs xs w hin hc hown hx hxl h1c h1x hb hl).mono ?_
      rintro e w' ⟨G, rfl, ho, hB⟩
      exact ⟨_, rfl, ho, hB.mono hb, fun k hk _ => hB.block k hk, .inr ⟨_, rfl, Nat.le_refl _⟩⟩
    · refine (Insert_shiftLb base g i n cap vb cs xs w hin hc hown hx hxl h1c h1x hvg hb).mono ?_
      rintro e w' ⟨rfl, ho, hB, hk⟩
      exact ⟨_, rfl, ho, hB, fun k _ hk' => hk k (fun he => hk' (by rw [he]; rfl)), .inl rfl⟩
  · obtain rfl : i = n := by omega
    refine (Insert_endLb base v i cs xs vb w hown hx hxl h1x hl hb).mono ?_
    rintro e w' ⟨v1, rfl, ho, hg, ha⟩
    refine ⟨v1, rfl, by rw [← hown.1, List.take_length, List.drop_length, List.append_nil]; exact ho, (Below.refl base w).grown hg hb (own_base hown), fun k hk hk' => hg.block k hk hk', ?_⟩
    rcases ha with ha | ha
    · exact .inl ha
    · exact .inr ⟨_, ha, Nat.le_refl _⟩
theorem InsLb_N (base : Nat) (ok okp : Nat → Prop) (v : Value) (xs : List S67) (x : S67) (cs : List Value) (i vb : Nat) (w : World) (hi : i ≤ xs.length) (hN : Kd.N k67 67 w base ok v xs) (hp : Kd.FK k67 w okp x cs) (hokp : ∀ k, okp k → ok k ∧ some k ≠ v.ownBlock) (hfresh : ∀ k, w.heap.size ≤ k → ok k)
    (hx : w.heap[vb]? = some (.cells cs.toArray 67 (0, 0))) (hvb : v.ownBlock ≠ some vb) (hb : base ≤ w.heap.size) (hl : (xs.length + 1) * 48 ≤ 140737488355328) :
    Calls Try.prog 70 #[v, .int .i64 i, .slice (some ⟨vb, 0, none⟩) 1 1] w fun e w' => ∃ v1, e = .returned v1 ∧ Kd.N k67 67 w' base ok v1 (xs.take i ++ [x] ++ xs.drop i) ∧ Below base w w' ∧ (∀ k, k < w.heap.size → some k ≠ v.ownBlock → w'.heap[k]? = w.heap[k]?) := by
  obtain ⟨h0, rows, hrl, ⟨hv, inner, ho, hr⟩, hf⟩ := hN
  have h1c : ∀ u ∈ inner, u.oneCell' = true := by
    intro u hu
    obtain ⟨j, hj, rfl⟩ := List.mem_iff_getElem.1 hu;have hn : inner.length = rows.length * 3 := hr.1
    have hjr : j / 3 < rows.length := by omega
    have h2 : ∀ u ∈ (inner.drop (j / 3 * 3)).take 3, u.oneCell' = true := (hr.2 (j / 3) _ (List.getElem?_eq_getElem hjr)).2.2
    exact h2 _ (List.mem_of_getElem? (i := j % 3) (by rw [List.getElem?_take_of_lt (by omega), List.getElem?_drop, show j / 3 * 3 + j % 3 = j by omega]; exact List.getElem?_eq_getElem hj))
  refine (Insert_callsLb base v xs.length i inner cs vb w hi (hrl ▸ ho) hx (k67.K_len (Kd.FK_now hp)) h1c (k67.K_one (Kd.FK_now hp)) hvb hb hl).mono ?_
  rintro e w' ⟨v1, rfl, ho1, hB, hk, hat⟩
  exact ⟨v1, rfl, N_inserted i hi h0 hrl hr hf hp hokp hfresh ho1 hk hat, hB, hk⟩
set_option maxHeartbeats 4000000 in
set_option maxRecDepth 100000 in
theorem Insert_endEp (base : Nat) (v : Value) (n : Nat) (cs xs : List Value) (vb : Nat) (w : World) (hown : w.ownsRow base 63 2 v n cs) (hx : w.heap[vb]? = some (.cells xs.toArray 63 (0, 0))) (hxl : xs.length = 2) (h1x : ∀ u ∈ xs, u.oneCell' = true)
    (hl : (n + 1) * 32 ≤ 140737488355328) (hb : base ≤ w.heap.size) :
    Calls Try.prog 72 #[v, .int .i64 n, .slice (some ⟨vb, 0, none⟩) 1 1] w fun e w' => ∃ v1, e = .returned v1 ∧ w'.ownsRow base 63 2 v1 (n + 1) (cs ++ xs) ∧ w.grownBy w' v.ownBlock ∧ (v1.ownBlock = v.ownBlock ∨ v1.ownBlock = some w.heap.size) := by
  obtain ⟨i0, hi0, hz⟩ : ∃ i0, Try.prog.info? 63 = some i0 ∧ i0.zero = some (.agg #[.int .i64 0, .slice none 0 0]) ∧ i0.size = 2 ∧ i0.bytes = 32 := by
    have h : (Try.prog.info? 63).map (fun i => (i.zero, i.size, i.bytes)) = some (some (.agg #[.int .i64 0, .slice none 0 0]), 2, 32) := by kernel_rfl
    obtain ⟨i0, h0, h1⟩ := Option.map_eq_some_iff.1 h
    simp only [Prod.mk.injEq] at h1
    exact ⟨i0, h0, h1⟩
  have hu := Try.underlying25
  have hnews : ∀ j u, xs[j]? = some u → w.cell? ((⟨vb, 0, none⟩ : Addr).add j) = some u := fun j u hj => by rw [add_at, Nat.zero_add, blk_cell hx]; simpa using hj
  have HO := am hown
  obtain ⟨A, c, rfl⟩ : ∃ A c, v = .slice A n c := by
    rcases hown.2 with ⟨rfl, rfl⟩ | ⟨g, cap, cur, rfl, _⟩
    · exact ⟨_, _, rfl⟩
    · exact ⟨_, _, rfl⟩
  have hc : n ≤ c := own_le hown;clear hown;have HI := am (And.intro hi0 hz);clear hi0 hz hx
  cases A with
  | none =>
    have h0 : n = 0 ∧ c = 0 := by
      rcases HO.out.2 with ⟨h, h2⟩ | ⟨g, cap, cur, h, _⟩
      · injection h with _ _ h3; exact ⟨h2, h3⟩
      · injection h with h _ _; cases h
    obtain ⟨rfl, rfl⟩ := h0
    go_enter Try.func72, Try.ntmps72
    go_wp2_with (at_builtin; refine wpList_append_own_at w rfl (.tmp 23) (.tmp 24) 25 rfl base 63 i0 _ 2 32 hu HI.out.1 HI.out.2.1 HI.out.2.2.1 HI.out.2.2.2 rfl (by decide) _ _ _ rfl HO.out ⟨vb, 0, none⟩ 1 1 xs rfl (by omega) hnews h1x (by unfold maxLen; omega) hl hb ?_; rintro v1 w1 ho1 hg1 _ hat1)
    go_ret
    exact ⟨_, rfl, ho1, hg1, hat1⟩
  | some ad =>
    obtain ⟨g, rfl⟩ : ∃ g, ad = ⟨g, 0, none⟩ := by
      rcases HO.out.2 with ⟨h, _⟩ | ⟨g, cap, cur, h, _⟩
      · injection h with h; cases h
      · injection h with h; injection h with h; exact ⟨g, h⟩
    go_enter Try.func72, Try.ntmps72
    go_wp2_with (at_builtin; refine wpList_append_own_at w rfl (.tmp 23) (.tmp 24) 25 rfl base 63 i0 _ 2 32 hu HI.out.1 HI.out.2.1 HI.out.2.2.1 HI.out.2.2.2 rfl (by decide) _ _ _ rfl HO.out ⟨vb, 0, none⟩ 1 1 xs rfl (by omega) hnews h1x (by unfold maxLen; omega) hl hb ?_; rintro v1 w1 ho1 hg1 _ hat1)
    all_goals (go_ret; exact ⟨_, rfl, ho1, hg1, hat1⟩)
set_option maxHeartbeats 4000000 in
set_option maxRecDepth 100000 in
theorem Insert_shiftEp (base g i n c vb : Nat) (cs xs : List Value) (w : World) (hi : i < n) (hroom : n + 1 ≤ c) (hown : w.ownsRow base 63 2 (.slice (some ⟨g, 0, none⟩) n c) n cs) (hx : w.heap[vb]? = some (.cells xs.toArray 63 (0, 0))) (hxl : xs.length = 2) (h1c : ∀ u ∈ cs, u.oneCell' = true) (h1x : ∀ u ∈ xs, u.oneCell' = true) (hvb : vb ≠ g) (hb : base ≤ w.heap.size) :
    Calls Try.prog 72 #[.slice (some ⟨g, 0, none⟩) n c, .int .i64 i, .slice (some ⟨vb, 0, none⟩) 1 1] w fun e w' => e = .returned (.slice (some ⟨g, 0, none⟩) (n + 1) c) ∧ w'.ownsRow base 63 2 (.slice (some ⟨g, 0, none⟩) (n + 1) c) (n + 1) (cs.take (i * 2) ++ xs ++ cs.drop (i * 2)) ∧ Below base w w' ∧ (∀ k, k ≠ g → w'.heap[k]? = w.heap[k]?) := by
  have hu := Try.underlying25
  obtain ⟨cap, cur, hbg, hgc, hncap, hcm, hcs, htk, hcl⟩ : ∃ cap cur, base ≤ g ∧ w.heap[g]? = some (.cells cur 63 (0, 0)) ∧ n ≤ cap ∧ cap ≤ maxLen ∧ cur.size = cap * 2 ∧ cur.toList.take (n * 2) = cs ∧ cap = c := by
    rcases hown.2 with ⟨h, _⟩ | ⟨g', cap, cur, h, h1, h2, h3, h4, h5, h6⟩
    · injection h with h; cases h
    · injection h with h _ h7; injection h with h; injection h with h; subst h; exact ⟨cap, cur, h1, h2, h3, h4, h5, h6, h7.symm⟩
  subst hcl;have hcl : cs.length = n * 2 := hown.1
  have hov : ∀ lb cb, (callFunc 93 #[.slice (some ⟨vb, 0, none⟩) 1 1, .slice (some ⟨g, (i + 1) * 2, none⟩) lb cb]).run Try.prog w = .ok (.value (.bool false)) w := fun lb cb => by
    rw [run_callFunc_extern Try.func93 (by kernel_rfl) (by kernel_rfl) (by kernel_rfl) (e := Extern.SlicesOverlaps.overlaps #[25, 25] #[4]) (by kernel_rfl),
      Lib.run_overlaps_apart w 25 4 63 hu 2 (fun W => by
        obtain ⟨i0, h0, h1⟩ := Option.map_eq_some_iff.1 (show (Try.prog.info? 63).map (·.size) = some 2 by kernel_rfl)
        simp [Go.sizeOf, typeInfo, h0, h1]) ⟨vb, 0, none⟩ ⟨g, (i + 1) * 2, none⟩ 1 1 lb cb hvb 63 63 2 (cap * 2) (by simp [World.shape?, hx, hxl]) (by simp [World.shape?, hgc, hcs]) (by omega) (blk_frozen hx 0) (blk_frozen hx 2)]
    rfl
  have hsz : (Try.prog.info? 63).map (·.size) = some 2 := by kernel_rfl
  have hcs' : ∀ j v, cs[j]? = some v → cur[j]? = some v := fun j v hj => by
    rw [← htk, List.getElem?_take] at hj
    split at hj
    · simpa using hj
    · cases hj
  have hdl : (cs.drop (i * 2)).length = (n - i) * 2 := by rw [List.length_drop, hcl, Nat.sub_mul]
  have hcp1 : ∀ ty dc sc, (Builtin.copy_ #[25, 25] ty #[.slice (some ⟨g, (i + 1) * 2, none⟩) (n - i) dc, .slice (some ⟨g, i * 2, none⟩) (n + 1 - i) sc]).run Try.prog w.drew = .ok (goInt (Nat.min (n + 1 - i) (n - i))) (w.drew.setCells g ((i + 1) * 2) (cs.drop (i * 2))) := fun ty dc sc =>
    run_copyK w.drew 25 25 ty 63 2 g ((i + 1) * 2) (n - i) dc ⟨g, i * 2, none⟩ (n + 1 - i) sc (cs.drop (i * 2)) hu hsz
      (by rw [hdl]; congr 1; simp only [Nat.min_def]; split <;> omega)
      (fun j v hj => by
        rw [List.getElem?_drop] at hj;rw [add_at, blk_cell (blk_drew hgc)]
        exact hcs' _ v hj)
      (fun j hj => by
        rw [hdl] at hj
        rw [blk_cell (blk_drew hgc), Array.getElem?_eq_getElem (by rw [hcs]; omega)]; rfl)
      (fun j hj => blk_frozen (blk_drew hgc) _) (fun v hv => h1c v (List.mem_of_mem_drop hv))
  obtain ⟨cur1, hg1, hs1, hl1⟩ := setCells_blk g 63 (cs.drop (i * 2)) ((i + 1) * 2) w.drew cur (blk_drew hgc) (by rw [hdl, hcs]; omega)
  have hx1 : (w.drew.setCells g ((i + 1) * 2) (cs.drop (i * 2))).heap[vb]? = some (.cells xs.toArray 63 (0, 0)) := by rw [setCells_heap g _ _ _ vb hvb]; exact hx
  have HF : Aside0 (World.ownsRow ((w.drew.setCells g ((i + 1) * 2) (cs.drop (i * 2))).setCells g (i * 2) xs) base 63 2 (.slice (some ⟨g, 0, none⟩) (n + 1) cap) (n + 1) (cs.take (i * 2) ++ xs ++ cs.drop (i * 2))) := ⟨by
    obtain ⟨cur2, hg2, hs2, hl2⟩ := setCells_blk g 63 xs (i * 2) _ cur1 hg1 (by rw [hxl, hs1, hcs]; omega)
    refine ⟨by simp only [List.length_append, List.length_take, List.length_drop, hxl, hcl]; omega, .inr ⟨g, cap, cur2, rfl, hbg, hg2, hroom, hcm, by rw [hs2, hs1, hcs], ?_⟩⟩
    exact shift_list cur.toList cs xs 2 i n hi htk (by rw [Array.length_toList, hcs]; omega) hxl cur1.toList cur2.toList hl1 hl2⟩
  obtain ⟨W1, hW1⟩ : ∃ W1, W1 = w.drew.setCells g ((i + 1) * 2) (cs.drop (i * 2)) := ⟨_, rfl⟩;rw [← hW1] at hcp1 hg1 hx1
  have hcp2 : ∀ (W : World), W.heap = W1.heap → ∀ ty dc, (Builtin.copy_ #[25, 25] ty #[.slice (some ⟨g, i * 2, none⟩) (n + 1 - i) dc, .slice (some ⟨vb, 0, none⟩) 1 1]).run Try.prog W = .ok (goInt (Nat.min 1 (n + 1 - i))) (W.setCells g (i * 2) xs) := fun W hW ty dc => by
    have hgW : W.heap[g]? = some (.cells cur1 63 (0, 0)) := by rw [hW]; exact hg1
    have hxW : W.heap[vb]? = some (.cells xs.toArray 63 (0, 0)) := by rw [hW]; exact hx1
    exact run_copyK W 25 25 ty 63 2 g (i * 2) (n + 1 - i) dc ⟨vb, 0, none⟩ 1 1 xs hu hsz (by rw [hxl]; simp only [Nat.min_def]; split <;> omega)
      (fun j v hj => by rw [add_at, Nat.zero_add, blk_cell hxW]; simpa using hj)
      (fun j hj => by rw [blk_cell hgW, Array.getElem?_eq_getElem (by rw [hs1, hcs]; omega)]; rfl)
      (fun j hj => blk_frozen hgW _) h1x
  have HX := am hx;have HG := am hgc;have HG1 := am hg1;have HO := am hown;clear hx hgc hown hg1 hx1
  have hz2 : ¬ ((i : Int) = (n : Int)) := by omega
  have hb1 : (0 : Int) ≤ (i : Int) + 1 := by omega
  have htn : ((i : Int) + 1).toNat = i + 1 := by omega
  have hin : i ≤ n := by omega
  have hb2 : ¬ (cap = i + 1) := by omega
  have hb3 : (i : Int) ≤ (n : Int) + 1 := by omega
  have hb4 : ¬ (cap = i) := by omega
  have hc63 : cap ≤ 9223372036854775807 := by unfold maxLen at hcm; omega
  clear hcm
  go_enter Try.func72, Try.ntmps72
  go_wp2_with (simp only [hov])
  have hw1 : IntKind.i64.wrap ((i : Int) + 1) = (i : Int) + 1 := by rw [IntKind.wrap_i64]; omega
  go_region_law (refine copy_step rfl _ _ 25 25 rfl _ _ (by simp [Act.eval, Act.put]) (by simp [Act.eval, Act.put]) (hcp1 _ _ _) ?_)
  go_wp2_with (at_builtin; refine copy_list _ rfl _ _ 25 25 rfl _ _ rfl rfl (hcp2 _ rfl _ _) ?_)
  go_ret
  exact ⟨rfl, HF.out, setCells_below g hbg _ _ _ (setCells_below g hbg _ _ _ (below_drew1 (Below.refl _ _))), fun k hk => by rw [setCells_heap g _ _ _ k hk, setCells_heap g _ _ _ k hk]; rfl⟩
set_option maxHeartbeats 4000000 in
set_option maxRecDepth 100000 in
theorem Insert_growEp (base g i n cap vb : Nat) (cs xs : List Value) (w : World) (hi : i < n) (hroom : cap < n + 1) (hown : w.ownsRow base 63 2 (.slice (some ⟨g, 0, none⟩) n cap) n cs) (hx : w.heap[vb]? = some (.cells xs.toArray 63 (0, 0))) (hxl : xs.length = 2) (h1c : ∀ u ∈ cs, u.oneCell' = true) (h1x : ∀ u ∈ xs, u.oneCell' = true) (hb : base ≤ w.heap.size) (hl : (n + 1) * 32 ≤ 140737488355328) :
    Calls Try.prog 72 #[.slice (some ⟨g, 0, none⟩) n cap, .int .i64 i, .slice (some ⟨vb, 0, none⟩) 1 1] w fun e w' => ∃ G, e = .returned (.slice (some ⟨w.heap.size, 0, none⟩) (n + 1) G) ∧ w'.ownsRow base 63 2 (.slice (some ⟨w.heap.size, 0, none⟩) (n + 1) G) (n + 1) (cs.take (i * 2) ++ xs ++ cs.drop (i * 2)) ∧ Below w.heap.size w w' := by
  have hu := Try.underlying25;have hu3 := Try.underlying3
  obtain ⟨i0, hi0, hz0, hzs, hzb⟩ : ∃ i0, Try.prog.info? 63 = some i0 ∧ i0.zero = some (.agg #[.int .i64 0, .slice none 0 0]) ∧ i0.size = 2 ∧ i0.bytes = 32 := by
    have h : (Try.prog.info? 63).map (fun i => (i.zero, i.size, i.bytes)) = some (some (.agg #[.int .i64 0, .slice none 0 0]), 2, 32) := by kernel_rfl
    obtain ⟨i0, h0, h1⟩ := Option.map_eq_some_iff.1 h
    simp only [Prod.mk.injEq] at h1
    exact ⟨i0, h0, h1⟩
  obtain ⟨cur, hbg, hgc, hncap, hcm, hcs, htk⟩ : ∃ cur, base ≤ g ∧ w.heap[g]? = some (.cells cur 63 (0, 0)) ∧ n ≤ cap ∧ cap ≤ maxLen ∧ cur.size = cap * 2 ∧ cur.toList.take (n * 2) = cs := by
    rcases hown.2 with ⟨h, _⟩ | ⟨g', cap', cur, h, h1, h2, h3, h4, h5, h6⟩
    · injection h with h; cases h
    · injection h with h _ h7; injection h with h; injection h with h; subst h; subst h7; exact ⟨cur, h1, h2, h3, h4, h5, h6⟩
  have hcl : cs.length = n * 2 := hown.1
  have hcs' : ∀ j v, cs[j]? = some v → cur[j]? = some v := fun j v hj => by
    rw [← htk, List.getElem?_take] at hj
    split at hj
    · simpa using hj
    · cases hj
  have hsz : (Try.prog.info? 63).map (·.size) = some 2 := by rw [hi0]; simp [hzs]
  have hold : (Builtin.firstCells i0.size i (.slice (some ⟨g, 0, none⟩) i cap)).run Try.prog w.drew = .ok (cs.take (i * 2)).toArray w.drew := by
    rw [hzs]
    exact run_firstCells_some w.drew 2 i ⟨g, 0, none⟩ i cap (cs.take (i * 2)) (by rw [List.length_take]; omega) (fun j v hj => by
      rw [List.getElem?_take] at hj
      split at hj
      · rw [add_at, Nat.zero_add, blk_cell (blk_drew hgc)]; exact hcs' _ v hj
      · cases hj)
  have hkk : (n : Int) + 1 - (i : Int) = ((n + 1 - i : Nat) : Int) := by omega
  have hik : i + (n + 1 - i) = n + 1 := by omega
  have hrz : ∀ ty, (Builtin.append_ #[25, 3] ty #[.slice (some ⟨g, 0, none⟩) i cap, .int .i64 ((n : Int) + 1 - (i : Int))]).run Try.prog w = .ok (.slice (some ⟨w.heap.size, 0, none⟩) (n + 1) (grownCap w (n + 1) cap 63)) (w.drew.alloc (.cells ((cs.take (i * 2)).toArray ++ Builtin.zeroCells (Value.cells (.agg #[.int .i64 0, .slice none 0 0])) (n + 1 - i) ++ Builtin.zeroCells (Value.cells (.agg #[.int .i64 0, .slice none 0 0])) (grownCap w (n + 1) cap 63 - (n + 1))) 63)) := fun ty => by
    have h := Lib.run_append_grow_zeros w 25 3 ty 63 i0 _ .i64 .i64 hu hu3 hi0 hz0 (some ⟨g, 0, none⟩) i cap (cs.take (i * 2)) hold (n + 1 - i) (by omega) (by omega) (by omega) (by omega) (by rw [hzb]; omega) (by rw [hzb, hik]; exact growslice_fits hroom hl);rw [hik] at h;rw [hkk]
    exact h
  obtain ⟨G, hG⟩ : ∃ G, G = grownCap w (n + 1) cap 63 := ⟨_, rfl⟩;obtain ⟨ROW, hROW⟩ : ∃ ROW : Array Value, ROW = (cs.take (i * 2)).toArray ++ Builtin.zeroCells (Value.cells (.agg #[.int .i64 0, .slice none 0 0])) (n + 1 - i) ++ Builtin.zeroCells (Value.cells (.agg #[.int .i64 0, .slice none 0 0])) (G - (n + 1)) := ⟨_, rfl⟩
  have hGn : n + 1 ≤ G := by rw [hG]; exact grownCap_ge w _ _ _
  have hGm : G ≤ maxLen := by rw [hG]; exact grownCap_le_maxLen w (n + 1) cap 63 (by unfold maxLen; omega)
  rw [← hG, ← hROW] at hrz;have hcy : (Value.cells (.agg #[.int .i64 0, .slice none 0 0])).size = 2 := rfl
  have htl : (cs.take (i * 2)).length = i * 2 := by rw [List.length_take]; omega
  have hRs : ROW.size = G * 2 := by
    rw [hROW, Array.size_append, Array.size_append, zeroCells_size, zeroCells_size, hcy, List.size_toArray, htl]
    omega
  have hRt : ROW.toList.take (i * 2) = cs.take (i * 2) := by
    rw [hROW, Array.toList_append, Array.toList_append, List.append_assoc]
    exact (congrArg (fun q => List.take q _) htl.symm).trans (List.take_left ..)
  have hgw : g < w.heap.size := blk_lt hgc;have hvw : vb < w.heap.size := blk_lt hx;obtain ⟨W1, hW1⟩ : ∃ W1, W1 = w.drew.alloc (.cells ROW 63) := ⟨_, rfl⟩
  have hN : W1.heap[w.heap.size]? = some (.cells ROW 63 (0, 0)) := by rw [hW1]; exact blk_new w.drew _
  have hg1 : W1.heap[g]? = some (.cells cur 63 (0, 0)) := by rw [hW1]; exact blk_alloc (blk_drew hgc) _
  have hx1 : W1.heap[vb]? = some (.cells xs.toArray 63 (0, 0)) := by rw [hW1]; exact blk_alloc (blk_drew hx) _
  have hB1 : Below w.heap.size w W1 := by rw [hW1]; exact below_alloc (below_drew1 (Below.refl _ _)) _
  have hdl : (cs.drop (i * 2)).length = (n - i) * 2 := by rw [List.length_drop, hcl, Nat.sub_mul]
  obtain ⟨cur1, hN1, hs1, hl1⟩ := setCells_blk w.heap.size 63 xs (i * 2) W1 ROW hN (by rw [hxl, hRs]; omega);obtain ⟨cur2, hN2, hs2, hl2⟩ := setCells_blk w.heap.size 63 (cs.drop (i * 2)) ((i + 1) * 2) _ cur1 hN1 (by rw [hdl, hs1, hRs]; omega)
  have hg2 : (W1.setCells w.heap.size (i * 2) xs).heap[g]? = some (.cells cur 63 (0, 0)) := by rw [setCells_heap _ _ _ _ g (by omega)]; exact hg1
  have hcpA : ∀ (W : World), W.heap = W1.heap → ∀ ty dc, (Builtin.copy_ #[25, 25] ty #[.slice (some ⟨w.heap.size, i * 2, none⟩) (n + 1 - i) dc, .slice (some ⟨vb, 0, none⟩) 1 1]).run Try.prog W = .ok (goInt (Nat.min 1 (n + 1 - i))) (W.setCells w.heap.size (i * 2) xs) := fun W hW ty dc => by
    have hgW : W.heap[w.heap.size]? = some (.cells ROW 63 (0, 0)) := by rw [hW]; exact hN
    have hxW : W.heap[vb]? = some (.cells xs.toArray 63 (0, 0)) := by rw [hW]; exact hx1
    exact run_copyK W 25 25 ty 63 2 w.heap.size (i * 2) (n + 1 - i) dc ⟨vb, 0, none⟩ 1 1 xs hu hsz (by rw [hxl]; simp only [Nat.min_def]; split <;> omega)
      (fun j v hj => by rw [add_at, Nat.zero_add, blk_cell hxW]; simpa using hj)
      (fun j hj => by rw [blk_cell hgW, Array.getElem?_eq_getElem (by rw [hRs]; omega)]; rfl)
      (fun j hj => blk_frozen hgW _) h1x
  have hcpB : ∀ (W : World), W.heap = (W1.setCells w.heap.size (i * 2) xs).heap → ∀ ty dc sc, (Builtin.copy_ #[25, 25] ty #[.slice (some ⟨w.heap.size, (i + 1) * 2, none⟩) (n - i) dc, .slice (some ⟨g, i * 2, none⟩) (n - i) sc]).run Try.prog W = .ok (goInt (Nat.min (n - i) (n - i))) (W.setCells w.heap.size ((i + 1) * 2) (cs.drop (i * 2))) := fun W hW ty dc sc => by
    have hNW : W.heap[w.heap.size]? = some (.cells cur1 63 (0, 0)) := by rw [hW]; exact hN1
    have hgW : W.heap[g]? = some (.cells cur 63 (0, 0)) := by rw [hW]; exact hg2
    exact run_copyK W 25 25 ty 63 2 w.heap.size ((i + 1) * 2) (n - i) dc ⟨g, i * 2, none⟩ (n - i) sc (cs.drop (i * 2)) hu hsz
      (by rw [hdl]; congr 1; simp only [Nat.min_def]; split <;> omega)
      (fun j v hj => by
        rw [List.getElem?_drop] at hj;rw [add_at, blk_cell hgW]
        exact hcs' _ v hj)
      (fun j hj => by
        rw [hdl] at hj
        rw [blk_cell hNW, Array.getElem?_eq_getElem (by rw [hs1, hRs]; omega)]; rfl)
      (fun j hj => blk_frozen hNW _) (fun v hv => h1c v (List.mem_of_mem_drop hv))
  have HF : Aside0 (World.ownsRow ((W1.setCells w.heap.size (i * 2) xs).setCells w.heap.size ((i + 1) * 2) (cs.drop (i * 2))) base 63 2 (.slice (some ⟨w.heap.size, 0, none⟩) (n + 1) G) (n + 1) (cs.take (i * 2) ++ xs ++ cs.drop (i * 2))) := ⟨by
    refine ⟨by simp only [List.length_append, List.length_take, List.length_drop, hxl, hcl]; omega, .inr ⟨w.heap.size, G, cur2, rfl, hb, hN2, hGn, hGm, by rw [hs2, hs1, hRs], ?_⟩⟩
    exact grow_list ROW.toList cs xs 2 i n hi hcl hRt (by rw [Array.length_toList, hRs]; omega) hxl cur1.toList cur2.toList hl1 hl2⟩
  have HB := am (setCells_below w.heap.size (Nat.le_refl _) (cs.drop (i * 2)) ((i + 1) * 2) _ (setCells_below w.heap.size (Nat.le_refl _) xs (i * 2) W1 hB1))
  have hz2 : ¬ ((i : Int) = (n : Int)) := by omega
  have hz3 : (cap : Int) < (n : Int) + 1 := by omega
  have hb1 : (0 : Int) ≤ (i : Int) + 1 := by omega
  have htn : ((i : Int) + 1).toNat = i + 1 := by omega
  have hin : i ≤ n := by omega
  have hGi : ¬ (G = i) := by omega
  have hGim : ¬ (G = i + 1) := by omega
  have hci : ¬ (cap = i) := by omega
  have hb3 : (i : Int) ≤ (n : Int) + 1 := by omega
  have hb5 : (i : Int) ≤ (n : Int) := by omega
  have hG63 : G ≤ 9223372036854775807 := by unfold maxLen at hGm; omega
  subst hW1;clear hcm hGm hkk hik hold hROW hG hRs hRt hN hg1 hx1 hN1 hN2 hl1 hl2 hs1 hs2 hg2 hB1 hgc hx hown hi0 hz0 hzs hzb hsz hcs' htl hcy
  have hA := fun ty dc => hcpA ((w.alloc (.cells ROW 63)).drew) rfl ty dc
  have hB := fun ty dc sc => hcpB (((w.alloc (.cells ROW 63)).drew.setCells w.heap.size (i * 2) xs).drew) rfl ty dc sc
  clear hcpA hcpB
  have hw1 : IntKind.i64.wrap ((i : Int) + 1) = (i : Int) + 1 := by rw [IntKind.wrap_i64]; omega
  go_enter Try.func72, Try.ntmps72
  go_wp2_with (at_builtin; refine Lib.wpList_append_run _ rfl _ _ _ _ rfl _ _ rfl rfl _ _ (hrz _) ?_)
  go_region_law fail
  go_wp2
  go_ret
  rw [← setCells_drew]
  exact ⟨G, rfl, HF.out, HB.out.drew⟩
theorem Insert_callsEp (base : Nat) (v : Value) (n i : Nat) (cs xs : List Value) (vb : Nat) (w : World) (hi : i ≤ n) (hown : w.ownsRow base 63 2 v n cs) (hx : w.heap[vb]? = some (.cells xs.toArray 63 (0, 0))) (hxl : xs.length = 2) (h1c : ∀ u ∈ cs, u.oneCell' = true) (h1x : ∀ u ∈ xs, u.oneCell' = true) (hvb : v.ownBlock ≠ some vb) (hb : base ≤ w.heap.size) (hl : (n + 1) * 32 ≤ 140737488355328) :
    Calls Try.prog 72 #[v, .int .i64 i, .slice (some ⟨vb, 0, none⟩) 1 1] w fun e w' => ∃ v1, e = .returned v1 ∧ w'.ownsRow base 63 2 v1 (n + 1) (cs.take (i * 2) ++ xs ++ cs.drop (i * 2)) ∧ Below base w w' ∧ (∀ k, k < w.heap.size → some k ≠ v.ownBlock → w'.heap[k]? = w.heap[k]?) ∧ (v1.ownBlock = v.ownBlock ∨ ∃ b, v1.ownBlock = some b ∧ w.heap.size ≤ b) := by
  rcases Nat.lt_or_ge i n with hin | hin
  · obtain ⟨g, cap, cur, rfl, hbg, hgc, _⟩ : ∃ g cap cur, v = .slice (some ⟨g, 0, none⟩) n cap ∧ base ≤ g ∧ w.heap[g]? = some (.cells cur 63 (0, 0)) ∧ n ≤ cap := by
      rcases hown.2 with ⟨_, h⟩ | ⟨g, cap, cur, h, h1, h2, h3, _⟩
      · omega
      · exact ⟨g, cap, cur, h, h1, h2, h3⟩
    have hvg : vb ≠ g := fun he => hvb (by rw [he]; rfl)
    rcases Nat.lt_or_ge cap (n + 1) with hc | hc
    · refine (Insert_growEp base g i n cap vb cs xs w hin hc hown hx hxl h1c h1x hb hl).mono ?_
      rintro e w' ⟨G, rfl, ho, hB⟩
      exact ⟨_, rfl, ho, hB.mono hb, fun k hk _ => hB.block k hk, .inr ⟨_, rfl, Nat.le_refl _⟩⟩
    · refine (Insert_shiftEp base g i n cap vb cs xs w hin hc hown hx hxl h1c h1x hvg hb).mono ?_
      rintro e w' ⟨rfl, ho, hB, hk⟩
      exact ⟨_, rfl, ho, hB, fun k _ hk' => hk k (fun he => hk' (by rw [he]; rfl)), .inl rfl⟩
  · obtain rfl : i = n := by omega
    refine (Insert_endEp base v i cs xs vb w hown hx hxl h1x hl hb).mono ?_
    rintro e w' ⟨v1, rfl, ho, hg, ha⟩
    refine ⟨v1, rfl, by rw [← hown.1, List.take_length, List.drop_length, List.append_nil]; exact ho, (Below.refl base w).grown hg hb (own_base hown), fun k hk hk' => hg.block k hk hk', ?_⟩
    rcases ha with ha | ha
    · exact .inl ha
    · exact .inr ⟨_, ha, Nat.le_refl _⟩
theorem InsEp_N (base : Nat) (ok okp : Nat → Prop) (v : Value) (xs : List S63) (x : S63) (cs : List Value) (i vb : Nat) (w : World) (hi : i ≤ xs.length) (hN : Kd.N k63 63 w base ok v xs) (hp : Kd.FK k63 w okp x cs) (hokp : ∀ k, okp k → ok k ∧ some k ≠ v.ownBlock) (hfresh : ∀ k, w.heap.size ≤ k → ok k)
    (hx : w.heap[vb]? = some (.cells cs.toArray 63 (0, 0))) (hvb : v.ownBlock ≠ some vb) (hb : base ≤ w.heap.size) (hl : (xs.length + 1) * 32 ≤ 140737488355328) :
    Calls Try.prog 72 #[v, .int .i64 i, .slice (some ⟨vb, 0, none⟩) 1 1] w fun e w' => ∃ v1, e = .returned v1 ∧ Kd.N k63 63 w' base ok v1 (xs.take i ++ [x] ++ xs.drop i) ∧ Below base w w' ∧ (∀ k, k < w.heap.size → some k ≠ v.ownBlock → w'.heap[k]? = w.heap[k]?) := by
  obtain ⟨h0, rows, hrl, ⟨hv, inner, ho, hr⟩, hf⟩ := hN
  have h1c : ∀ u ∈ inner, u.oneCell' = true := by
    intro u hu
    obtain ⟨j, hj, rfl⟩ := List.mem_iff_getElem.1 hu;have hn : inner.length = rows.length * 2 := hr.1
    have hjr : j / 2 < rows.length := by omega
    have h2 : ∀ u ∈ (inner.drop (j / 2 * 2)).take 2, u.oneCell' = true := (hr.2 (j / 2) _ (List.getElem?_eq_getElem hjr)).2.2
    exact h2 _ (List.mem_of_getElem? (i := j % 2) (by rw [List.getElem?_take_of_lt (by omega), List.getElem?_drop, show j / 2 * 2 + j % 2 = j by omega]; exact List.getElem?_eq_getElem hj))
  refine (Insert_callsEp base v xs.length i inner cs vb w hi (hrl ▸ ho) hx (k63.K_len (Kd.FK_now hp)) h1c (k63.K_one (Kd.FK_now hp)) hvb hb hl).mono ?_
  rintro e w' ⟨v1, rfl, ho1, hB, hk, hat⟩
  exact ⟨v1, rfl, N_inserted i hi h0 hrl hr hf hp hokp hfresh ho1 hk hat, hB, hk⟩
def cutF {α : Type} (most : Int) (m : List α) : Option (List α) := if 0 ≤ most then some (m.take most.toNat) else none
def putF {α : Type} (p : α → Option Int) (into : α → Option α) (most : Int) (l : List α) (d x : α) : Option (List α) :=
  if l.length < 1000000 then (bsT p l d).bind fun q =>
    if q.2 = true then (if 0 ≤ q.1 ∧ q.1 < l.length then (into (l.getD q.1.toNat d)).bind fun y => cutF most (l.set q.1.toNat y) else none)
    else (if 0 ≤ q.1 ∧ q.1 ≤ l.length then (into x).bind fun y => cutF most (l.take q.1.toNat ++ [y] ++ l.drop q.1.toNat) else none)
  else none
theorem putF_leo {α : Type} {p p' : α → Option Int} {f f' : α → Option α} (hp : ∀ y, LeO (p y) (p' y)) (hf : ∀ y, LeO (f y) (f' y)) (most : Int) (l : List α) (d x : α) : LeO (putF p f most l d x) (putF p' f' most l d x) :=
  LeO.ite (LeO.bind (bsT_leo hp l d) (fun q => LeO.ite (LeO.ite (LeO.bind (hf _) (fun _ => LeO.refl _)) (LeO.refl _)) (LeO.ite (LeO.bind (hf _) (fun _ => LeO.refl _)) (LeO.refl _)))) (LeO.refl _)
theorem cutF_to {α : Type} {most : Int} {m r : List α} (h : cutF most m = some r) (n : Nat) (hn : n = (min (m.length : Int) most).toNat) : 0 ≤ most ∧ r = m.take n ∧ n ≤ m.length := by
  unfold cutF at h
  split at h
  · rename_i h0
    refine ⟨h0, ?_, by omega⟩
    rw [← Option.some.inj h, List.take_eq_take_iff]
    omega
  · cases h
set_option maxHeartbeats 4000000 in
set_option maxRecDepth 100000 in
theorem PutTr_calls (gc gi : Nat) (lb : Array Value) (ec : ∀ args w, (callFunc gc args).run Try.prog w = .ok (.enter gc args) w) (ei : ∀ args w, (callFunc gi args).run Try.prog w = .ok (.enter gi args) w) (p : S91 → Option Int) (into : S91 → Option S91) (P0 PX : Nat → Prop) (A : Option Addr) (c : Nat) (l : List S91) (x : S91)  (most : Int) (r : List S91) (w : World)
   (hs : Kd.V k91 91 w w.heap.size P0 (.slice A l.length c) l)
   (hp : ∀ (W : World) (y : S91)  (cc : Int), Below w.heap.size w W → p y = some cc → Calls Try.prog gc #[.agg #[.string y.f0, .int .u64 y.f1], .agg #[.string x.f0, .int .u64 x.f1]] W fun e w' => e = .returned (.int .i64 cc) ∧ Below W.heap.size W w')
   (hi : ∀ (W : World) (y : S91)  (y' : S91) (PY : Nat → Prop), Below w.heap.size w W → into y = some y' → Calls Try.prog gi (#[.agg #[.string y.f0, .int .u64 y.f1]] ++ lb) W fun e w' => ∃ cs' : List Value, e = .returned (.agg cs'.toArray) ∧ Kd.FK k91 w' (fun k_ => PY k_ ∨ W.heap.size ≤ k_) y' cs' ∧ Below W.heap.size W w')
   (h : putF p into most l z91 x = some r) :
   Calls Try.prog 37 #[.slice A l.length c, .agg #[.string x.f0, .int .u64 x.f1], .int .i64 most, .func (.func gc) #[] #[], .func (.func gi) #[] lb] w fun e w' => ∃ v, e = .returned v ∧ Kd.V k91 91 w' w.heap.size (fun k_ => (P0 k_ ∨ PX k_) ∨ w.heap.size ≤ k_) v r ∧ Below w.heap.size w w' := by
  have hu := Try.underlying91;have hus := Try.underlying82
  unfold putF at h
  split at h
  case isFalse => cases h
  case isTrue hlen =>
  obtain ⟨⟨i, found⟩, hq, h⟩ := Option.bind_eq_some_iff.1 h;have HQ := am hq;have HH := am h;have HP := am hp;have HI := am hi;have HV := am (Kd.V_bound hs);have hw0 := am (below_alloc (Below.refl w.heap.size w) (.cells #[.string x.f0, .int .u64 x.f1] 91));clear hq h hp hi hs
  go_enter Try.func37, Try.ntmps37
  go_wp2_with fail
  refine (BSTr_calls gc #[] ec p x  A c l i found _ (Kd.C_below (Kd.V_reads' HV.out).2.2 hw0.out) (Kd.V_reads' HV.out).2.1 (by omega) (fun W y  cc hb  hc => by simpa using HP.out W y  cc (below_step hw0.out hb)  hc) HQ.out).mono ?_
  rintro e w1 ⟨rfl, hb1⟩
  have C0 := am (blk_below (g := w.heap.size) (o := .cells #[.string x.f0, .int .u64 x.f1] 91 (0, 0)) (blk_new _ _) hb1);have HB1 := am (below_step hw0.out hb1)
  have hs1 : w.heap.size + 1 ≤ w1.heap.size := by have := hb1.size; simpa using this
  have HV1 := am (Kd.V_below HV.out HB1.out);clear hb1 HV HQ HP
  go_wp2_with fail
  refine (CloneTr_calls _ A c l w1 (Kd.V_F HV1.out) (Kd.V_reads' HV1.out).2.1 hlen).mono ?_
  rintro e w2 ⟨v0, rfl, HN, hb2⟩
  have D0 := am (blk_below C0.out hb2);have HB2 := am (below_step HB1.out hb2);have hs2 : w.heap.size + 1 ≤ w2.heap.size := Nat.le_trans hs1 hb2.size;have HN2 := am (Kd.N_lower (Kd.N_mono (Kd.N_bound HN) (ok' := fun k_ => (P0 k_ ∧ k_ < w.heap.size) ∨ (PX k_ ∧ k_ < w.heap.size) ∨ w.heap.size + 1 ≤ k_) (fun k_ hk => by rcases hk.1 with hk | hk; exact .inl hk; exact .inr (.inr (by omega)))) hs1);clear HN hb2 C0 HB1 HV1 hs1 hw0;obtain ⟨A1, c1, rfl⟩ := Kd.N_slice HN2.out
  cases found with
  | false =>
    have h := HH.out;clear HH;rw [if_neg (by decide)] at h
    split at h
    case isFalse => cases h
    case isTrue hij =>
    obtain ⟨j, rfl⟩ := Int.eq_ofNat_of_zero_le hij.1
    have hj : j ≤ l.length := by have := hij.2; omega
    clear hij;rw [Int.toNat_natCast] at h;obtain ⟨y', hy', hcut⟩ := Option.bind_eq_some_iff.1 h;clear h;have x0 := blk_cell D0.out 0;have x1 := blk_cell D0.out 1
    go_wp2_with fail
    refine (HI.out w2 x  y' (fun k_ => PX k_ ∧ k_ < w.heap.size) HB2.out  hy').mono ?_
    rintro e w3 ⟨cs', rfl, hF3, hb3⟩
    have hcz := k91_open (Kd.FK_now hF3);subst hcz;have HB3 := am (below_step HB2.out hb3);have HN3 := am (Kd.N_below HN2.out hb3);have HF3 := am hF3;have hs3 : w2.heap.size ≤ w3.heap.size := hb3.size;have hlt := Kd.N_lt HN2.out;have hbs := Kd.N_base HN2.out;clear hF3 hb3 HN2 HB2 HI
    go_wp2_with fail
    refine (InsTr_N (w.heap.size + 1) (fun k_ => (P0 k_ ∧ k_ < w.heap.size) ∨ (PX k_ ∧ k_ < w.heap.size) ∨ w.heap.size + 1 ≤ k_) (fun k_ => (PX k_ ∧ k_ < w.heap.size) ∨ w2.heap.size ≤ k_) (.slice A1 l.length c1) l y' [.string y'.f0, .int .u64 y'.f1] j w3.heap.size _ hj (Kd.N_alloc HN3.out _) (Kd.FK_below HF3.out (below_alloc (Below.refl _ _) _)) (fun k_ hk => by rcases hk with hk | hk; exact ⟨.inr (.inl hk), fun he => by have := hbs _ he.symm; omega⟩; exact ⟨.inr (.inr (by omega)), fun he => by have := hlt _ he.symm; omega⟩) (fun k_ hk => .inr (.inr (by simp at hk; omega))) (blk_new _ _) (fun he => by have := hlt _ he; omega) (by simp <;> omega) (by omega)).mono ?_
    rintro e w4 ⟨v1, rfl, HN, hB4, -⟩
    have hml0 : (l.take j ++ [y'] ++ l.drop j).length = l.length + 1 := ins_len _ _ _ hj;obtain ⟨m, hm⟩ : ∃ m, m = l.take j ++ [y'] ++ l.drop j := ⟨_, rfl⟩;rw [← hm] at HN hcut;have HN4 := am HN;have HB4 := am ((below_step HB3.out (below_alloc (Below.refl w3.heap.size w3) (.cells #[.string y'.f0, .int .u64 y'.f1] 91))).trans (hB4.mono (by omega)));clear hm HN hB4 hlt hbs HN3 HF3 HB3 D0 hml0 x0 x1;obtain ⟨A2, c2, rfl⟩ := Kd.N_slice HN4.out;have HC := am hcut;clear hcut
    by_cases hm : most < (m.length : Int)
    · obtain ⟨hm0, hr, hmn⟩ := cutF_to HC.out (most.toNat) (by have := HC.out; unfold cutF at this; split at this; omega; cases this)
      subst hr
      have hmm : ((most.toNat : Nat) : Int) = most := by omega
      have hml : most.toNat ≤ c2 := by have := (Kd.N_reads' HN4.out).2.1; omega
      have hmz : (0 : Int) ≤ most := hm0;clear HC hm0
      go_wp2
      go_ret
      refine ⟨_, rfl, ?_, HB4.out⟩
      exact Kd.V_mono (ok := fun k_ => (P0 k_ ∧ k_ < w.heap.size) ∨ (PX k_ ∧ k_ < w.heap.size) ∨ w.heap.size + 1 ≤ k_) (V_takenL (Kd.N_V HN4.out) hmn) (fun k_ hk => by rcases hk with hk | hk | hk; exact .inl (.inl hk.1); exact .inl (.inr hk.1); exact .inr (by omega))
    · obtain ⟨hm0, hr, hmn⟩ := cutF_to HC.out (m.length) (by omega)
      subst hr;have hml : m.length ≤ c2 := (Kd.N_reads' HN4.out).2.1
      have hmz : (0 : Int) ≤ (m.length : Int) := by omega
      clear HC hm0
      go_wp2
      go_ret
      refine ⟨_, rfl, ?_, HB4.out⟩
      exact Kd.V_mono (ok := fun k_ => (P0 k_ ∧ k_ < w.heap.size) ∨ (PX k_ ∧ k_ < w.heap.size) ∨ w.heap.size + 1 ≤ k_) (V_takenL (Kd.N_V HN4.out) hmn) (fun k_ hk => by rcases hk with hk | hk | hk; exact .inl (.inl hk.1); exact .inl (.inr hk.1); exact .inr (by omega))
  | true =>
    have h := HH.out;clear HH;rw [if_pos rfl] at h
    split at h
    case isFalse => cases h
    case isTrue hij =>
    obtain ⟨j, rfl⟩ := Int.eq_ofNat_of_zero_le hij.1
    have hj : j < l.length := by have := hij.2; omega
    clear hij;rw [Int.toNat_natCast] at h;obtain ⟨y', hy', hcut⟩ := Option.bind_eq_some_iff.1 h;clear h;obtain ⟨ga, cap, hga, hgb, hgl, -⟩ := Kd.N_form HN2.out (by omega)
    injection hga with hA hcc hcap
    subst hA;subst hcap;have hga2 : w.heap.size + 1 ≤ ga := hgb;obtain ⟨cf, hcl, hF, hcc, hfr⟩ := Kd.N_elem HN2.out z91 (j : Int) (by omega) (by omega);rw [Int.toNat_natCast] at hF;obtain ⟨q, hqq⟩ : ∃ q, q = (l.getD j z91) := ⟨_, rfl⟩;rw [← hqq] at hF hy';have hcq := k91_open (Kd.FK_now hF);subst hcq;have HCC : Aside0 (([.string q.f0, .int .u64 q.f1] : List Value).length = k91.sz ∧ ∀ (j_ : Nat) (u : Value), ([.string q.f0, .int .u64 q.f1] : List Value)[j_]? = some u → w2.cell? ⟨ga, j * k91.sz + j_, none⟩ = some u) := ⟨hcl, hcc⟩;have q0 : w2.cell? ⟨ga, j * 2, none⟩ = some (.string q.f0) := hcc 0 _ rfl;have f0 : w2.frozen? ⟨ga, j * 2, none⟩ = false := hfr 0;have q1 : w2.cell? ⟨ga, j * 2 + 1, none⟩ = some (.int .u64 q.f1) := hcc 1 _ rfl;have f1 : w2.frozen? ⟨ga, j * 2 + 1, none⟩ = false := hfr 1;have d0 : decide ((j : Int) < (l.length : Int)) = true := decide_eq_true (by omega);clear hF hcc hcl hfr hqq
    go_wp2_with fail
    refine (HI.out w2 q  y' (fun k_ => ((P0 k_ ∧ k_ < w.heap.size) ∨ (PX k_ ∧ k_ < w.heap.size) ∨ w.heap.size + 1 ≤ k_) ∧ k_ ≠ ga) HB2.out  hy').mono ?_
    rintro e w3 ⟨cs', rfl, hF3, hb3⟩
    have hcz := k91_open (Kd.FK_now hF3);subst hcz;have HB3 := am (below_step HB2.out hb3);have HF3 := am hF3;have HN3 := am (Kd.N_below HN2.out hb3);have BQ := am hb3;obtain ⟨cf3, -, -, -, hfr3⟩ := Kd.N_elem HN3.out z91 (j : Int) (by omega) (by omega);have p0 := pw_cell_below hb3 q0;have g0 : w3.frozen? ⟨ga, j * 2, none⟩ = false := hfr3 0;have p1 := pw_cell_below hb3 q1;have g1 : w3.frozen? ⟨ga, j * 2 + 1, none⟩ = false := hfr3 1;clear hfr3;have HPS := am (Kd.N_seg HN3.out (j : Int) (by omega) (by omega) (c := [.string q.f0, .int .u64 q.f1]) (seg := [.string y'.f0, .int .u64 y'.f1]) (j := 0) HCC.out.1 (fun j_ u hu => pw_cell_below BQ.out (HCC.out.2 j_ u hu)) (show 0 + 2 ≤ 2 from by decide) (x' := y') (okp := fun k_ => ((((P0 k_ ∧ k_ < w.heap.size) ∨ (PX k_ ∧ k_ < w.heap.size) ∨ w.heap.size + 1 ≤ k_) ∧ k_ ≠ ga) ∨ w2.heap.size ≤ k_)) HF3.out (fun k_ hk => by rcases hk with hk | hk; exact hk; exact ⟨.inr (.inr (by omega)), by omega⟩));clear hF3 hb3 HN2 HB2 HI HCC HF3 HN3 BQ D0 q0 f0 q1 f1;obtain ⟨m, hm⟩ : ∃ m, m = l.set j y' := ⟨_, rfl⟩
    have hml0 : m.length = l.length := by rw [hm, List.length_set]
    rw [← hm] at hcut;have HMM := am hm;clear hm;have HC := am hcut;clear hcut;have BB := am (below_set (g := ga) (j := j * 2 + 1) (v := .int .u64 y'.f1) (below_set (g := ga) (j := j * 2) (v := .string y'.f0) (HB3.out) (by omega)) (by omega));have HNN : Aside0 (Kd.N k91 91 (((w3).setCell ⟨ga, j * 2, none⟩ (.string y'.f0)).setCell ⟨ga, j * 2 + 1, none⟩ (.int .u64 y'.f1)) (w.heap.size + 1) (fun k_ => (P0 k_ ∧ k_ < w.heap.size) ∨ (PX k_ ∧ k_ < w.heap.size) ∨ w.heap.size + 1 ≤ k_) (.slice (some ⟨ga, 0, none⟩) m.length c1) m) := ⟨by rw [hml0, HMM.out]; exact HPS.out.1⟩
    by_cases hm : most < (l.length : Int)
    · obtain ⟨hm0, hr, hmn⟩ := cutF_to HC.out (most.toNat) (by have := HC.out; unfold cutF at this; split at this; omega; cases this)
      subst hr
      have hmm : ((most.toNat : Nat) : Int) = most := by omega
      have hml : most.toNat ≤ c1 := by have := (Kd.N_reads' HNN.out).2.1; omega
      have hmz : (0 : Int) ≤ most := hm0;have HNL := am hmn;clear HC hm0 hml0 hmn
      go_wp2
      go_ret
      refine ⟨_, rfl, ?_, BB.out⟩
      exact Kd.V_mono (ok := fun k_ => (P0 k_ ∧ k_ < w.heap.size) ∨ (PX k_ ∧ k_ < w.heap.size) ∨ w.heap.size + 1 ≤ k_) (V_takenL (Kd.N_V HNN.out) HNL.out) (fun k_ hk => by rcases hk with hk | hk | hk; exact .inl (.inl hk.1); exact .inl (.inr hk.1); exact .inr (by omega))
    · obtain ⟨hm0, hr, hmn⟩ := cutF_to HC.out (l.length) (by omega)
      subst hr
      have hml : l.length ≤ c1 := by have := (Kd.N_reads' HNN.out).2.1; omega
      have hmz : (0 : Int) ≤ (l.length : Int) := by omega
      have HNL := am hmn;clear HC hm0 hml0 hmn
      go_wp2
      go_ret
      refine ⟨_, rfl, ?_, BB.out⟩
      exact Kd.V_mono (ok := fun k_ => (P0 k_ ∧ k_ < w.heap.size) ∨ (PX k_ ∧ k_ < w.heap.size) ∨ w.heap.size + 1 ≤ k_) (V_takenL (Kd.N_V HNN.out) HNL.out) (fun k_ hk => by rcases hk with hk | hk | hk; exact .inl (.inl hk.1); exact .inl (.inr hk.1); exact .inr (by omega))
set_option maxHeartbeats 4000000 in
set_option maxRecDepth 100000 in
theorem PutBk_calls (gc gi : Nat) (lb : Array Value) (ec : ∀ args w, (callFunc gc args).run Try.prog w = .ok (.enter gc args) w) (ei : ∀ args w, (callFunc gi args).run Try.prog w = .ok (.enter gi args) w) (p : S84 → Option Int) (into : S84 → Option S84) (P0 PX : Nat → Prop) (A : Option Addr) (c : Nat) (l : List S84) (x : S84) (Ax1 : Option Addr) (cx1 : Nat) (most : Int) (r : List S84) (w : World)
   (hs : Kd.V k84 84 w w.heap.size P0 (.slice A l.length c) l) (hlx1 : x.f1.length ≤ cx1) (hFx1 : Kd.F k91 w PX Ax1 x.f1.length x.f1)
   (hp : ∀ (W : World) (y : S84) (Ay1 : Option Addr) (cy1 : Nat) (cc : Int), Below w.heap.size w W → y.f1.length ≤ cy1 → Kd.C k91 W Ay1 y.f1.length y.f1 → p y = some cc → Calls Try.prog gc #[.agg #[.int .i64 y.f0, .slice Ay1 y.f1.length cy1], .agg #[.int .i64 x.f0, .slice Ax1 x.f1.length cx1]] W fun e w' => e = .returned (.int .i64 cc) ∧ Below W.heap.size W w')
   (hi : ∀ (W : World) (y : S84) (Ay1 : Option Addr) (cy1 : Nat) (y' : S84) (PY : Nat → Prop), Below w.heap.size w W → y.f1.length ≤ cy1 → Kd.F k91 W PY Ay1 y.f1.length y.f1 → into y = some y' → Calls Try.prog gi (#[.agg #[.int .i64 y.f0, .slice Ay1 y.f1.length cy1]] ++ lb) W fun e w' => ∃ cs' : List Value, e = .returned (.agg cs'.toArray) ∧ Kd.FK k84 w' (fun k_ => PY k_ ∨ W.heap.size ≤ k_) y' cs' ∧ Below W.heap.size W w')
   (h : putF p into most l z84 x = some r) :
   Calls Try.prog 41 #[.slice A l.length c, .agg #[.int .i64 x.f0, .slice Ax1 x.f1.length cx1], .int .i64 most, .func (.func gc) #[] #[], .func (.func gi) #[] lb] w fun e w' => ∃ v, e = .returned v ∧ Kd.V k84 84 w' w.heap.size (fun k_ => (P0 k_ ∨ PX k_) ∨ w.heap.size ≤ k_) v r ∧ Below w.heap.size w w' := by
  have hu := Try.underlying84;have hus := Try.underlying65
  unfold putF at h
  split at h
  case isFalse => cases h
  case isTrue hlen =>
  obtain ⟨⟨i, found⟩, hq, h⟩ := Option.bind_eq_some_iff.1 h;have HQ := am hq;have HH := am h;have HP := am hp;have HI := am hi;have HV := am (Kd.V_bound hs);have HFX1 := am (Kd.F_bound hFx1);have hw0 := am (below_alloc (Below.refl w.heap.size w) (.cells #[.int .i64 x.f0, .slice Ax1 x.f1.length cx1] 84));clear hq h hp hi hs hFx1
  go_enter Try.func41, Try.ntmps41
  go_wp2_with fail
  refine (BSBk_calls gc #[] ec p x Ax1 cx1 A c l i found _ (Kd.C_below (Kd.V_reads' HV.out).2.2 hw0.out) (Kd.V_reads' HV.out).2.1 (by omega) (fun W y Ay1 cy1 cc hb hly1 hCy1 hc => by simpa using HP.out W y Ay1 cy1 cc (below_step hw0.out hb) hly1 hCy1 hc) HQ.out).mono ?_
  rintro e w1 ⟨rfl, hb1⟩
  have C0 := am (blk_below (g := w.heap.size) (o := .cells #[.int .i64 x.f0, .slice Ax1 x.f1.length cx1] 84 (0, 0)) (blk_new _ _) hb1);have HB1 := am (below_step hw0.out hb1)
  have hs1 : w.heap.size + 1 ≤ w1.heap.size := by have := hb1.size; simpa using this
  have HV1 := am (Kd.V_below HV.out HB1.out);clear hb1 HV HQ HP
  go_wp2_with fail
  refine (CloneBk_calls _ A c l w1 (Kd.V_F HV1.out) (Kd.V_reads' HV1.out).2.1 hlen).mono ?_
  rintro e w2 ⟨v0, rfl, HN, hb2⟩
  have D0 := am (blk_below C0.out hb2);have HB2 := am (below_step HB1.out hb2);have hs2 : w.heap.size + 1 ≤ w2.heap.size := Nat.le_trans hs1 hb2.size;have HN2 := am (Kd.N_lower (Kd.N_mono (Kd.N_bound HN) (ok' := fun k_ => (P0 k_ ∧ k_ < w.heap.size) ∨ (PX k_ ∧ k_ < w.heap.size) ∨ w.heap.size + 1 ≤ k_) (fun k_ hk => by rcases hk.1 with hk | hk; exact .inl hk; exact .inr (.inr (by omega)))) hs1);clear HN hb2 C0 HB1 HV1 hs1 hw0;obtain ⟨A1, c1, rfl⟩ := Kd.N_slice HN2.out
  cases found with
  | false =>
    have h := HH.out;clear HH;rw [if_neg (by decide)] at h
    split at h
    case isFalse => cases h
    case isTrue hij =>
    obtain ⟨j, rfl⟩ := Int.eq_ofNat_of_zero_le hij.1
    have hj : j ≤ l.length := by have := hij.2; omega
    clear hij;rw [Int.toNat_natCast] at h;obtain ⟨y', hy', hcut⟩ := Option.bind_eq_some_iff.1 h;clear h;have x0 := blk_cell D0.out 0;have x1 := blk_cell D0.out 1
    go_wp2_with fail
    refine (HI.out w2 x Ax1 cx1 y' (fun k_ => PX k_ ∧ k_ < w.heap.size) HB2.out hlx1 (Kd.F_below HFX1.out HB2.out) hy').mono ?_
    rintro e w3 ⟨cs', rfl, hF3, hb3⟩
    obtain ⟨Az1, cz1, hcz, hlz1, hFz1⟩ := k84_openF hF3;subst hcz;have HB3 := am (below_step HB2.out hb3);have HN3 := am (Kd.N_below HN2.out hb3);have HF3 := am hF3;have hs3 : w2.heap.size ≤ w3.heap.size := hb3.size;have hlt := Kd.N_lt HN2.out;have hbs := Kd.N_base HN2.out;clear hF3 hb3 HN2 HB2 HI hFz1 hlz1
    go_wp2_with fail
    refine (InsBk_N (w.heap.size + 1) (fun k_ => (P0 k_ ∧ k_ < w.heap.size) ∨ (PX k_ ∧ k_ < w.heap.size) ∨ w.heap.size + 1 ≤ k_) (fun k_ => (PX k_ ∧ k_ < w.heap.size) ∨ w2.heap.size ≤ k_) (.slice A1 l.length c1) l y' [.int .i64 y'.f0, .slice Az1 y'.f1.length cz1] j w3.heap.size _ hj (Kd.N_alloc HN3.out _) (Kd.FK_below HF3.out (below_alloc (Below.refl _ _) _)) (fun k_ hk => by rcases hk with hk | hk; exact ⟨.inr (.inl hk), fun he => by have := hbs _ he.symm; omega⟩; exact ⟨.inr (.inr (by omega)), fun he => by have := hlt _ he.symm; omega⟩) (fun k_ hk => .inr (.inr (by simp at hk; omega))) (blk_new _ _) (fun he => by have := hlt _ he; omega) (by simp <;> omega) (by omega)).mono ?_
    rintro e w4 ⟨v1, rfl, HN, hB4, -⟩
    have hml0 : (l.take j ++ [y'] ++ l.drop j).length = l.length + 1 := ins_len _ _ _ hj;obtain ⟨m, hm⟩ : ∃ m, m = l.take j ++ [y'] ++ l.drop j := ⟨_, rfl⟩;rw [← hm] at HN hcut;have HN4 := am HN;have HB4 := am ((below_step HB3.out (below_alloc (Below.refl w3.heap.size w3) (.cells #[.int .i64 y'.f0, .slice Az1 y'.f1.length cz1] 84))).trans (hB4.mono (by omega)));clear hm HN hB4 hlt hbs HN3 HF3 HB3 D0 hml0 x0 x1;obtain ⟨A2, c2, rfl⟩ := Kd.N_slice HN4.out;have HC := am hcut;clear hcut
    by_cases hm : most < (m.length : Int)
    · obtain ⟨hm0, hr, hmn⟩ := cutF_to HC.out (most.toNat) (by have := HC.out; unfold cutF at this; split at this; omega; cases this)
      subst hr
      have hmm : ((most.toNat : Nat) : Int) = most := by omega
      have hml : most.toNat ≤ c2 := by have := (Kd.N_reads' HN4.out).2.1; omega
      have hmz : (0 : Int) ≤ most := hm0;clear HC hm0
      go_wp2
      go_ret
      refine ⟨_, rfl, ?_, HB4.out⟩
      exact Kd.V_mono (ok := fun k_ => (P0 k_ ∧ k_ < w.heap.size) ∨ (PX k_ ∧ k_ < w.heap.size) ∨ w.heap.size + 1 ≤ k_) (V_takenL (Kd.N_V HN4.out) hmn) (fun k_ hk => by rcases hk with hk | hk | hk; exact .inl (.inl hk.1); exact .inl (.inr hk.1); exact .inr (by omega))
    · obtain ⟨hm0, hr, hmn⟩ := cutF_to HC.out (m.length) (by omega)
      subst hr;have hml : m.length ≤ c2 := (Kd.N_reads' HN4.out).2.1
      have hmz : (0 : Int) ≤ (m.length : Int) := by omega
      clear HC hm0
      go_wp2
      go_ret
      refine ⟨_, rfl, ?_, HB4.out⟩
      exact Kd.V_mono (ok := fun k_ => (P0 k_ ∧ k_ < w.heap.size) ∨ (PX k_ ∧ k_ < w.heap.size) ∨ w.heap.size + 1 ≤ k_) (V_takenL (Kd.N_V HN4.out) hmn) (fun k_ hk => by rcases hk with hk | hk | hk; exact .inl (.inl hk.1); exact .inl (.inr hk.1); exact .inr (by omega))
  | true =>
    have h := HH.out;clear HH;rw [if_pos rfl] at h
    split at h
    case isFalse => cases h
    case isTrue hij =>
    obtain ⟨j, rfl⟩ := Int.eq_ofNat_of_zero_le hij.1
    have hj : j < l.length := by have := hij.2; omega
    clear hij;rw [Int.toNat_natCast] at h;obtain ⟨y', hy', hcut⟩ := Option.bind_eq_some_iff.1 h;clear h;obtain ⟨ga, cap, hga, hgb, hgl, -⟩ := Kd.N_form HN2.out (by omega)
    injection hga with hA hcc hcap
    subst hA;subst hcap;have hga2 : w.heap.size + 1 ≤ ga := hgb;obtain ⟨cf, hcl, hF, hcc, hfr⟩ := Kd.N_elem HN2.out z84 (j : Int) (by omega) (by omega);rw [Int.toNat_natCast] at hF;obtain ⟨q, hqq⟩ : ∃ q, q = (l.getD j z84) := ⟨_, rfl⟩;rw [← hqq] at hF hy';obtain ⟨Aq1, cq1, hcq, hlq1, hFq1⟩ := k84_openF hF;subst hcq;have HCC : Aside0 (([.int .i64 q.f0, .slice Aq1 q.f1.length cq1] : List Value).length = k84.sz ∧ ∀ (j_ : Nat) (u : Value), ([.int .i64 q.f0, .slice Aq1 q.f1.length cq1] : List Value)[j_]? = some u → w2.cell? ⟨ga, j * k84.sz + j_, none⟩ = some u) := ⟨hcl, hcc⟩;have q0 : w2.cell? ⟨ga, j * 2, none⟩ = some (.int .i64 q.f0) := hcc 0 _ rfl;have f0 : w2.frozen? ⟨ga, j * 2, none⟩ = false := hfr 0;have q1 : w2.cell? ⟨ga, j * 2 + 1, none⟩ = some (.slice Aq1 q.f1.length cq1) := hcc 1 _ rfl;have f1 : w2.frozen? ⟨ga, j * 2 + 1, none⟩ = false := hfr 1;have d0 : decide ((j : Int) < (l.length : Int)) = true := decide_eq_true (by omega);clear hF hcc hcl hfr hqq
    go_wp2_with fail
    refine (HI.out w2 q Aq1 cq1 y' (fun k_ => ((P0 k_ ∧ k_ < w.heap.size) ∨ (PX k_ ∧ k_ < w.heap.size) ∨ w.heap.size + 1 ≤ k_) ∧ k_ ≠ ga) HB2.out hlq1 hFq1 hy').mono ?_
    rintro e w3 ⟨cs', rfl, hF3, hb3⟩
    obtain ⟨Az1, cz1, hcz, hlz1, hFz1⟩ := k84_openF hF3;subst hcz;have HB3 := am (below_step HB2.out hb3);have HF3 := am hF3;have HN3 := am (Kd.N_below HN2.out hb3);have BQ := am hb3;obtain ⟨cf3, -, -, -, hfr3⟩ := Kd.N_elem HN3.out z84 (j : Int) (by omega) (by omega);have p0 := pw_cell_below hb3 q0;have g0 : w3.frozen? ⟨ga, j * 2, none⟩ = false := hfr3 0;have p1 := pw_cell_below hb3 q1;have g1 : w3.frozen? ⟨ga, j * 2 + 1, none⟩ = false := hfr3 1;clear hfr3;have HPS := am (Kd.N_seg HN3.out (j : Int) (by omega) (by omega) (c := [.int .i64 q.f0, .slice Aq1 q.f1.length cq1]) (seg := [.int .i64 y'.f0, .slice Az1 y'.f1.length cz1]) (j := 0) HCC.out.1 (fun j_ u hu => pw_cell_below BQ.out (HCC.out.2 j_ u hu)) (show 0 + 2 ≤ 2 from by decide) (x' := y') (okp := fun k_ => ((((P0 k_ ∧ k_ < w.heap.size) ∨ (PX k_ ∧ k_ < w.heap.size) ∨ w.heap.size + 1 ≤ k_) ∧ k_ ≠ ga) ∨ w2.heap.size ≤ k_)) HF3.out (fun k_ hk => by rcases hk with hk | hk; exact hk; exact ⟨.inr (.inr (by omega)), by omega⟩));clear hF3 hb3 HN2 HB2 HI HCC HF3 HN3 BQ D0 q0 f0 q1 f1 hFz1 hlz1;obtain ⟨m, hm⟩ : ∃ m, m = l.set j y' := ⟨_, rfl⟩
    have hml0 : m.length = l.length := by rw [hm, List.length_set]
    rw [← hm] at hcut;have HMM := am hm;clear hm;have HC := am hcut;clear hcut;have BB := am (below_set (g := ga) (j := j * 2 + 1) (v := .slice Az1 y'.f1.length cz1) (below_set (g := ga) (j := j * 2) (v := .int .i64 y'.f0) (HB3.out) (by omega)) (by omega));have HNN : Aside0 (Kd.N k84 84 (((w3).setCell ⟨ga, j * 2, none⟩ (.int .i64 y'.f0)).setCell ⟨ga, j * 2 + 1, none⟩ (.slice Az1 y'.f1.length cz1)) (w.heap.size + 1) (fun k_ => (P0 k_ ∧ k_ < w.heap.size) ∨ (PX k_ ∧ k_ < w.heap.size) ∨ w.heap.size + 1 ≤ k_) (.slice (some ⟨ga, 0, none⟩) m.length c1) m) := ⟨by rw [hml0, HMM.out]; exact HPS.out.1⟩
    by_cases hm : most < (l.length : Int)
    · obtain ⟨hm0, hr, hmn⟩ := cutF_to HC.out (most.toNat) (by have := HC.out; unfold cutF at this; split at this; omega; cases this)
      subst hr
      have hmm : ((most.toNat : Nat) : Int) = most := by omega
      have hml : most.toNat ≤ c1 := by have := (Kd.N_reads' HNN.out).2.1; omega
      have hmz : (0 : Int) ≤ most := hm0;have HNL := am hmn;clear HC hm0 hml0 hmn
      go_wp2
      go_ret
      refine ⟨_, rfl, ?_, BB.out⟩
      exact Kd.V_mono (ok := fun k_ => (P0 k_ ∧ k_ < w.heap.size) ∨ (PX k_ ∧ k_ < w.heap.size) ∨ w.heap.size + 1 ≤ k_) (V_takenL (Kd.N_V HNN.out) HNL.out) (fun k_ hk => by rcases hk with hk | hk | hk; exact .inl (.inl hk.1); exact .inl (.inr hk.1); exact .inr (by omega))
    · obtain ⟨hm0, hr, hmn⟩ := cutF_to HC.out (l.length) (by omega)
      subst hr
      have hml : l.length ≤ c1 := by have := (Kd.N_reads' HNN.out).2.1; omega
      have hmz : (0 : Int) ≤ (l.length : Int) := by omega
      have HNL := am hmn;clear HC hm0 hml0 hmn
      go_wp2
      go_ret
      refine ⟨_, rfl, ?_, BB.out⟩
      exact Kd.V_mono (ok := fun k_ => (P0 k_ ∧ k_ < w.heap.size) ∨ (PX k_ ∧ k_ < w.heap.size) ∨ w.heap.size + 1 ≤ k_) (V_takenL (Kd.N_V HNN.out) HNL.out) (fun k_ hk => by rcases hk with hk | hk | hk; exact .inl (.inl hk.1); exact .inl (.inr hk.1); exact .inr (by omega))
set_option maxHeartbeats 4000000 in
set_option maxRecDepth 100000 in
theorem PutLb_calls (gc gi : Nat) (lb : Array Value) (ec : ∀ args w, (callFunc gc args).run Try.prog w = .ok (.enter gc args) w) (ei : ∀ args w, (callFunc gi args).run Try.prog w = .ok (.enter gi args) w) (p : S67 → Option Int) (into : S67 → Option S67) (P0 PX : Nat → Prop) (A : Option Addr) (c : Nat) (l : List S67) (x : S67) (Ax2 : Option Addr) (cx2 : Nat) (most : Int) (r : List S67) (w : World)
   (hs : Kd.V k67 67 w w.heap.size P0 (.slice A l.length c) l) (hlx2 : x.f2.length ≤ cx2) (hFx2 : Kd.F k84 w PX Ax2 x.f2.length x.f2)
   (hp : ∀ (W : World) (y : S67) (Ay2 : Option Addr) (cy2 : Nat) (cc : Int), Below w.heap.size w W → y.f2.length ≤ cy2 → Kd.C k84 W Ay2 y.f2.length y.f2 → p y = some cc → Calls Try.prog gc #[.agg #[.string y.f0, .int .u64 y.f1, .slice Ay2 y.f2.length cy2], .agg #[.string x.f0, .int .u64 x.f1, .slice Ax2 x.f2.length cx2]] W fun e w' => e = .returned (.int .i64 cc) ∧ Below W.heap.size W w')
   (hi : ∀ (W : World) (y : S67) (Ay2 : Option Addr) (cy2 : Nat) (y' : S67) (PY : Nat → Prop), Below w.heap.size w W → y.f2.length ≤ cy2 → Kd.F k84 W PY Ay2 y.f2.length y.f2 → into y = some y' → Calls Try.prog gi (#[.agg #[.string y.f0, .int .u64 y.f1, .slice Ay2 y.f2.length cy2]] ++ lb) W fun e w' => ∃ cs' : List Value, e = .returned (.agg cs'.toArray) ∧ Kd.FK k67 w' (fun k_ => PY k_ ∨ W.heap.size ≤ k_) y' cs' ∧ Below W.heap.size W w')
   (h : putF p into most l z67 x = some r) :
   Calls Try.prog 44 #[.slice A l.length c, .agg #[.string x.f0, .int .u64 x.f1, .slice Ax2 x.f2.length cx2], .int .i64 most, .func (.func gc) #[] #[], .func (.func gi) #[] lb] w fun e w' => ∃ v, e = .returned v ∧ Kd.V k67 67 w' w.heap.size (fun k_ => (P0 k_ ∨ PX k_) ∨ w.heap.size ≤ k_) v r ∧ Below w.heap.size w w' := by
  have hu := Try.underlying67;have hus := Try.underlying61
  unfold putF at h
  split at h
  case isFalse => cases h
  case isTrue hlen =>
  obtain ⟨⟨i, found⟩, hq, h⟩ := Option.bind_eq_some_iff.1 h;have HQ := am hq;have HH := am h;have HP := am hp;have HI := am hi;have HV := am (Kd.V_bound hs);have HFX2 := am (Kd.F_bound hFx2);have hw0 := am (below_alloc (Below.refl w.heap.size w) (.cells #[.string x.f0, .int .u64 x.f1, .slice Ax2 x.f2.length cx2] 67));clear hq h hp hi hs hFx2
  go_enter Try.func44, Try.ntmps44
  go_wp2_with fail
  refine (BSLb_calls gc #[] ec p x Ax2 cx2 A c l i found _ (Kd.C_below (Kd.V_reads' HV.out).2.2 hw0.out) (Kd.V_reads' HV.out).2.1 (by omega) (fun W y Ay2 cy2 cc hb hly2 hCy2 hc => by simpa using HP.out W y Ay2 cy2 cc (below_step hw0.out hb) hly2 hCy2 hc) HQ.out).mono ?_
  rintro e w1 ⟨rfl, hb1⟩
  have C0 := am (blk_below (g := w.heap.size) (o := .cells #[.string x.f0, .int .u64 x.f1, .slice Ax2 x.f2.length cx2] 67 (0, 0)) (blk_new _ _) hb1);have HB1 := am (below_step hw0.out hb1)
  have hs1 : w.heap.size + 1 ≤ w1.heap.size := by have := hb1.size; simpa using this
  have HV1 := am (Kd.V_below HV.out HB1.out);clear hb1 HV HQ HP
  go_wp2_with fail
  refine (CloneLb_calls _ A c l w1 (Kd.V_F HV1.out) (Kd.V_reads' HV1.out).2.1 hlen).mono ?_
  rintro e w2 ⟨v0, rfl, HN, hb2⟩
  have D0 := am (blk_below C0.out hb2);have HB2 := am (below_step HB1.out hb2);have hs2 : w.heap.size + 1 ≤ w2.heap.size := Nat.le_trans hs1 hb2.size;have HN2 := am (Kd.N_lower (Kd.N_mono (Kd.N_bound HN) (ok' := fun k_ => (P0 k_ ∧ k_ < w.heap.size) ∨ (PX k_ ∧ k_ < w.heap.size) ∨ w.heap.size + 1 ≤ k_) (fun k_ hk => by rcases hk.1 with hk | hk; exact .inl hk; exact .inr (.inr (by omega)))) hs1);clear HN hb2 C0 HB1 HV1 hs1 hw0;obtain ⟨A1, c1, rfl⟩ := Kd.N_slice HN2.out
  cases found with
  | false =>
    have h := HH.out;clear HH;rw [if_neg (by decide)] at h
    split at h
    case isFalse => cases h
    case isTrue hij =>
    obtain ⟨j, rfl⟩ := Int.eq_ofNat_of_zero_le hij.1
    have hj : j ≤ l.length := by have := hij.2; omega
    clear hij;rw [Int.toNat_natCast] at h;obtain ⟨y', hy', hcut⟩ := Option.bind_eq_some_iff.1 h;clear h;have x0 := blk_cell D0.out 0;have x1 := blk_cell D0.out 1;have x2 := blk_cell D0.out 2
    go_wp2_with fail
    refine (HI.out w2 x Ax2 cx2 y' (fun k_ => PX k_ ∧ k_ < w.heap.size) HB2.out hlx2 (Kd.F_below HFX2.out HB2.out) hy').mono ?_
    rintro e w3 ⟨cs', rfl, hF3, hb3⟩
    obtain ⟨Az2, cz2, hcz, hlz2, hFz2⟩ := k67_openF hF3;subst hcz;have HB3 := am (below_step HB2.out hb3);have HN3 := am (Kd.N_below HN2.out hb3);have HF3 := am hF3;have hs3 : w2.heap.size ≤ w3.heap.size := hb3.size;have hlt := Kd.N_lt HN2.out;have hbs := Kd.N_base HN2.out;clear hF3 hb3 HN2 HB2 HI hFz2 hlz2
    go_wp2_with fail
    refine (InsLb_N (w.heap.size + 1) (fun k_ => (P0 k_ ∧ k_ < w.heap.size) ∨ (PX k_ ∧ k_ < w.heap.size) ∨ w.heap.size + 1 ≤ k_) (fun k_ => (PX k_ ∧ k_ < w.heap.size) ∨ w2.heap.size ≤ k_) (.slice A1 l.length c1) l y' [.string y'.f0, .int .u64 y'.f1, .slice Az2 y'.f2.length cz2] j w3.heap.size _ hj (Kd.N_alloc HN3.out _) (Kd.FK_below HF3.out (below_alloc (Below.refl _ _) _)) (fun k_ hk => by rcases hk with hk | hk; exact ⟨.inr (.inl hk), fun he => by have := hbs _ he.symm; omega⟩; exact ⟨.inr (.inr (by omega)), fun he => by have := hlt _ he.symm; omega⟩) (fun k_ hk => .inr (.inr (by simp at hk; omega))) (blk_new _ _) (fun he => by have := hlt _ he; omega) (by simp <;> omega) (by omega)).mono ?_
    rintro e w4 ⟨v1, rfl, HN, hB4, -⟩
    have hml0 : (l.take j ++ [y'] ++ l.drop j).length = l.length + 1 := ins_len _ _ _ hj;obtain ⟨m, hm⟩ : ∃ m, m = l.take j ++ [y'] ++ l.drop j := ⟨_, rfl⟩;rw [← hm] at HN hcut;have HN4 := am HN;have HB4 := am ((below_step HB3.out (below_alloc (Below.refl w3.heap.size w3) (.cells #[.string y'.f0, .int .u64 y'.f1, .slice Az2 y'.f2.length cz2] 67))).trans (hB4.mono (by omega)));clear hm HN hB4 hlt hbs HN3 HF3 HB3 D0 hml0 x0 x1 x2;obtain ⟨A2, c2, rfl⟩ := Kd.N_slice HN4.out;have HC := am hcut;clear hcut
    by_cases hm : most < (m.length : Int)
    · obtain ⟨hm0, hr, hmn⟩ := cutF_to HC.out (most.toNat) (by have := HC.out; unfold cutF at this; split at this; omega; cases this)
      subst hr
      have hmm : ((most.toNat : Nat) : Int) = most := by omega
      have hml : most.toNat ≤ c2 := by have := (Kd.N_reads' HN4.out).2.1; omega
      have hmz : (0 : Int) ≤ most := hm0;clear HC hm0
      go_wp2
      go_ret
      refine ⟨_, rfl, ?_, HB4.out⟩
      exact Kd.V_mono (ok := fun k_ => (P0 k_ ∧ k_ < w.heap.size) ∨ (PX k_ ∧ k_ < w.heap.size) ∨ w.heap.size + 1 ≤ k_) (V_takenL (Kd.N_V HN4.out) hmn) (fun k_ hk => by rcases hk with hk | hk | hk; exact .inl (.inl hk.1); exact .inl (.inr hk.1); exact .inr (by omega))
    · obtain ⟨hm0, hr, hmn⟩ := cutF_to HC.out (m.length) (by omega)
      subst hr;have hml : m.length ≤ c2 := (Kd.N_reads' HN4.out).2.1
      have hmz : (0 : Int) ≤ (m.length : Int) := by omega
      clear HC hm0
      go_wp2
      go_ret
      refine ⟨_, rfl, ?_, HB4.out⟩
      exact Kd.V_mono (ok := fun k_ => (P0 k_ ∧ k_ < w.heap.size) ∨ (PX k_ ∧ k_ < w.heap.size) ∨ w.heap.size + 1 ≤ k_) (V_takenL (Kd.N_V HN4.out) hmn) (fun k_ hk => by rcases hk with hk | hk | hk; exact .inl (.inl hk.1); exact .inl (.inr hk.1); exact .inr (by omega))
  | true =>
    have h := HH.out;clear HH;rw [if_pos rfl] at h
    split at h
    case isFalse => cases h
    case isTrue hij =>
    obtain ⟨j, rfl⟩ := Int.eq_ofNat_of_zero_le hij.1
    have hj : j < l.length := by have := hij.2; omega
    clear hij;rw [Int.toNat_natCast] at h;obtain ⟨y', hy', hcut⟩ := Option.bind_eq_some_iff.1 h;clear h;obtain ⟨ga, cap, hga, hgb, hgl, -⟩ := Kd.N_form HN2.out (by omega)
    injection hga with hA hcc hcap
    subst hA;subst hcap;have hga2 : w.heap.size + 1 ≤ ga := hgb;obtain ⟨cf, hcl, hF, hcc, hfr⟩ := Kd.N_elem HN2.out z67 (j : Int) (by omega) (by omega);rw [Int.toNat_natCast] at hF;obtain ⟨q, hqq⟩ : ∃ q, q = (l.getD j z67) := ⟨_, rfl⟩;rw [← hqq] at hF hy';obtain ⟨Aq2, cq2, hcq, hlq2, hFq2⟩ := k67_openF hF;subst hcq;have HCC : Aside0 (([.string q.f0, .int .u64 q.f1, .slice Aq2 q.f2.length cq2] : List Value).length = k67.sz ∧ ∀ (j_ : Nat) (u : Value), ([.string q.f0, .int .u64 q.f1, .slice Aq2 q.f2.length cq2] : List Value)[j_]? = some u → w2.cell? ⟨ga, j * k67.sz + j_, none⟩ = some u) := ⟨hcl, hcc⟩;have q0 : w2.cell? ⟨ga, j * 3, none⟩ = some (.string q.f0) := hcc 0 _ rfl;have f0 : w2.frozen? ⟨ga, j * 3, none⟩ = false := hfr 0;have q1 : w2.cell? ⟨ga, j * 3 + 1, none⟩ = some (.int .u64 q.f1) := hcc 1 _ rfl;have f1 : w2.frozen? ⟨ga, j * 3 + 1, none⟩ = false := hfr 1;have q2 : w2.cell? ⟨ga, j * 3 + 2, none⟩ = some (.slice Aq2 q.f2.length cq2) := hcc 2 _ rfl;have f2 : w2.frozen? ⟨ga, j * 3 + 2, none⟩ = false := hfr 2;have d0 : decide ((j : Int) < (l.length : Int)) = true := decide_eq_true (by omega);clear hF hcc hcl hfr hqq
    go_wp2_with fail
    refine (HI.out w2 q Aq2 cq2 y' (fun k_ => ((P0 k_ ∧ k_ < w.heap.size) ∨ (PX k_ ∧ k_ < w.heap.size) ∨ w.heap.size + 1 ≤ k_) ∧ k_ ≠ ga) HB2.out hlq2 hFq2 hy').mono ?_
    rintro e w3 ⟨cs', rfl, hF3, hb3⟩
    obtain ⟨Az2, cz2, hcz, hlz2, hFz2⟩ := k67_openF hF3;subst hcz;have HB3 := am (below_step HB2.out hb3);have HF3 := am hF3;have HN3 := am (Kd.N_below HN2.out hb3);have BQ := am hb3;obtain ⟨cf3, -, -, -, hfr3⟩ := Kd.N_elem HN3.out z67 (j : Int) (by omega) (by omega);have p0 := pw_cell_below hb3 q0;have g0 : w3.frozen? ⟨ga, j * 3, none⟩ = false := hfr3 0;have p1 := pw_cell_below hb3 q1;have g1 : w3.frozen? ⟨ga, j * 3 + 1, none⟩ = false := hfr3 1;have p2 := pw_cell_below hb3 q2;have g2 : w3.frozen? ⟨ga, j * 3 + 2, none⟩ = false := hfr3 2;clear hfr3;have HPS := am (Kd.N_seg HN3.out (j : Int) (by omega) (by omega) (c := [.string q.f0, .int .u64 q.f1, .slice Aq2 q.f2.length cq2]) (seg := [.string y'.f0, .int .u64 y'.f1, .slice Az2 y'.f2.length cz2]) (j := 0) HCC.out.1 (fun j_ u hu => pw_cell_below BQ.out (HCC.out.2 j_ u hu)) (show 0 + 3 ≤ 3 from by decide) (x' := y') (okp := fun k_ => ((((P0 k_ ∧ k_ < w.heap.size) ∨ (PX k_ ∧ k_ < w.heap.size) ∨ w.heap.size + 1 ≤ k_) ∧ k_ ≠ ga) ∨ w2.heap.size ≤ k_)) HF3.out (fun k_ hk => by rcases hk with hk | hk; exact hk; exact ⟨.inr (.inr (by omega)), by omega⟩));clear hF3 hb3 HN2 HB2 HI HCC HF3 HN3 BQ D0 q0 f0 q1 f1 q2 f2 hFz2 hlz2;obtain ⟨m, hm⟩ : ∃ m, m = l.set j y' := ⟨_, rfl⟩
    have hml0 : m.length = l.length := by rw [hm, List.length_set]
    rw [← hm] at hcut;have HMM := am hm;clear hm;have HC := am hcut;clear hcut;have BB := am (below_set (g := ga) (j := j * 3 + 2) (v := .slice Az2 y'.f2.length cz2) (below_set (g := ga) (j := j * 3 + 1) (v := .int .u64 y'.f1) (below_set (g := ga) (j := j * 3) (v := .string y'.f0) (HB3.out) (by omega)) (by omega)) (by omega));have HNN : Aside0 (Kd.N k67 67 ((((w3).setCell ⟨ga, j * 3, none⟩ (.string y'.f0)).setCell ⟨ga, j * 3 + 1, none⟩ (.int .u64 y'.f1)).setCell ⟨ga, j * 3 + 2, none⟩ (.slice Az2 y'.f2.length cz2)) (w.heap.size + 1) (fun k_ => (P0 k_ ∧ k_ < w.heap.size) ∨ (PX k_ ∧ k_ < w.heap.size) ∨ w.heap.size + 1 ≤ k_) (.slice (some ⟨ga, 0, none⟩) m.length c1) m) := ⟨by rw [hml0, HMM.out]; exact HPS.out.1⟩
    by_cases hm : most < (l.length : Int)
    · obtain ⟨hm0, hr, hmn⟩ := cutF_to HC.out (most.toNat) (by have := HC.out; unfold cutF at this; split at this; omega; cases this)
      subst hr
      have hmm : ((most.toNat : Nat) : Int) = most := by omega
      have hml : most.toNat ≤ c1 := by have := (Kd.N_reads' HNN.out).2.1; omega
      have hmz : (0 : Int) ≤ most := hm0;have HNL := am hmn;clear HC hm0 hml0 hmn
      go_wp2
      go_ret
      refine ⟨_, rfl, ?_, BB.out⟩
      exact Kd.V_mono (ok := fun k_ => (P0 k_ ∧ k_ < w.heap.size) ∨ (PX k_ ∧ k_ < w.heap.size) ∨ w.heap.size + 1 ≤ k_) (V_takenL (Kd.N_V HNN.out) HNL.out) (fun k_ hk => by rcases hk with hk | hk | hk; exact .inl (.inl hk.1); exact .inl (.inr hk.1); exact .inr (by omega))
    · obtain ⟨hm0, hr, hmn⟩ := cutF_to HC.out (l.length) (by omega)
      subst hr
      have hml : l.length ≤ c1 := by have := (Kd.N_reads' HNN.out).2.1; omega
      have hmz : (0 : Int) ≤ (l.length : Int) := by omega
      have HNL := am hmn;clear HC hm0 hml0 hmn
      go_wp2
      go_ret
      refine ⟨_, rfl, ?_, BB.out⟩
      exact Kd.V_mono (ok := fun k_ => (P0 k_ ∧ k_ < w.heap.size) ∨ (PX k_ ∧ k_ < w.heap.size) ∨ w.heap.size + 1 ≤ k_) (V_takenL (Kd.N_V HNN.out) HNL.out) (fun k_ hk => by rcases hk with hk | hk | hk; exact .inl (.inl hk.1); exact .inl (.inr hk.1); exact .inr (by omega))
set_option maxHeartbeats 4000000 in
set_option maxRecDepth 100000 in
theorem PutEp_calls (gc gi : Nat) (lb : Array Value) (ec : ∀ args w, (callFunc gc args).run Try.prog w = .ok (.enter gc args) w) (ei : ∀ args w, (callFunc gi args).run Try.prog w = .ok (.enter gi args) w) (p : S63 → Option Int) (into : S63 → Option S63) (P0 PX : Nat → Prop) (A : Option Addr) (c : Nat) (l : List S63) (x : S63) (Ax1 : Option Addr) (cx1 : Nat) (most : Int) (r : List S63) (w : World)
   (hs : Kd.V k63 63 w w.heap.size P0 (.slice A l.length c) l) (hlx1 : x.f1.length ≤ cx1) (hFx1 : Kd.F k67 w PX Ax1 x.f1.length x.f1)
   (hp : ∀ (W : World) (y : S63) (Ay1 : Option Addr) (cy1 : Nat) (cc : Int), Below w.heap.size w W → y.f1.length ≤ cy1 → Kd.C k67 W Ay1 y.f1.length y.f1 → p y = some cc → Calls Try.prog gc #[.agg #[.int .i64 y.f0, .slice Ay1 y.f1.length cy1], .agg #[.int .i64 x.f0, .slice Ax1 x.f1.length cx1]] W fun e w' => e = .returned (.int .i64 cc) ∧ Below W.heap.size W w')
   (hi : ∀ (W : World) (y : S63) (Ay1 : Option Addr) (cy1 : Nat) (y' : S63) (PY : Nat → Prop), Below w.heap.size w W → y.f1.length ≤ cy1 → Kd.F k67 W PY Ay1 y.f1.length y.f1 → into y = some y' → Calls Try.prog gi (#[.agg #[.int .i64 y.f0, .slice Ay1 y.f1.length cy1]] ++ lb) W fun e w' => ∃ cs' : List Value, e = .returned (.agg cs'.toArray) ∧ Kd.FK k63 w' (fun k_ => PY k_ ∨ W.heap.size ≤ k_) y' cs' ∧ Below W.heap.size W w')
   (h : putF p into most l z63 x = some r) :
   Calls Try.prog 46 #[.slice A l.length c, .agg #[.int .i64 x.f0, .slice Ax1 x.f1.length cx1], .int .i64 most, .func (.func gc) #[] #[], .func (.func gi) #[] lb] w fun e w' => ∃ v, e = .returned v ∧ Kd.V k63 63 w' w.heap.size (fun k_ => (P0 k_ ∨ PX k_) ∨ w.heap.size ≤ k_) v r ∧ Below w.heap.size w w' := by
  have hu := Try.underlying63;have hus := Try.underlying25
  unfold putF at h
  split at h
  case isFalse => cases h
  case isTrue hlen =>
  obtain ⟨⟨i, found⟩, hq, h⟩ := Option.bind_eq_some_iff.1 h;have HQ := am hq;have HH := am h;have HP := am hp;have HI := am hi;have HV := am (Kd.V_bound hs);have HFX1 := am (Kd.F_bound hFx1);have hw0 := am (below_alloc (Below.refl w.heap.size w) (.cells #[.int .i64 x.f0, .slice Ax1 x.f1.length cx1] 63));clear hq h hp hi hs hFx1
  go_enter Try.func46, Try.ntmps46
  go_wp2_with fail
  refine (BSEp_calls gc #[] ec p x Ax1 cx1 A c l i found _ (Kd.C_below (Kd.V_reads' HV.out).2.2 hw0.out) (Kd.V_reads' HV.out).2.1 (by omega) (fun W y Ay1 cy1 cc hb hly1 hCy1 hc => by simpa using HP.out W y Ay1 cy1 cc (below_step hw0.out hb) hly1 hCy1 hc) HQ.out).mono ?_
  rintro e w1 ⟨rfl, hb1⟩
  have C0 := am (blk_below (g := w.heap.size) (o := .cells #[.int .i64 x.f0, .slice Ax1 x.f1.length cx1] 63 (0, 0)) (blk_new _ _) hb1);have HB1 := am (below_step hw0.out hb1)
  have hs1 : w.heap.size + 1 ≤ w1.heap.size := by have := hb1.size; simpa using this
  have HV1 := am (Kd.V_below HV.out HB1.out);clear hb1 HV HQ HP
  go_wp2_with fail
  refine (CloneEp_calls _ A c l w1 (Kd.V_F HV1.out) (Kd.V_reads' HV1.out).2.1 hlen).mono ?_
  rintro e w2 ⟨v0, rfl, HN, hb2⟩
  have D0 := am (blk_below C0.out hb2);have HB2 := am (below_step HB1.out hb2);have hs2 : w.heap.size + 1 ≤ w2.heap.size := Nat.le_trans hs1 hb2.size;have HN2 := am (Kd.N_lower (Kd.N_mono (Kd.N_bound HN) (ok' := fun k_ => (P0 k_ ∧ k_ < w.heap.size) ∨ (PX k_ ∧ k_ < w.heap.size) ∨ w.heap.size + 1 ≤ k_) (fun k_ hk => by rcases hk.1 with hk | hk; exact .inl hk; exact .inr (.inr (by omega)))) hs1);clear HN hb2 C0 HB1 HV1 hs1 hw0;obtain ⟨A1, c1, rfl⟩ := Kd.N_slice HN2.out
  cases found with
  | false =>
    have h := HH.out;clear HH;rw [if_neg (by decide)] at h
    split at h
    case isFalse => cases h
    case isTrue hij =>
    obtain ⟨j, rfl⟩ := Int.eq_ofNat_of_zero_le hij.1
    have hj : j ≤ l.length := by have := hij.2; omega
    clear hij;rw [Int.toNat_natCast] at h;obtain ⟨y', hy', hcut⟩ := Option.bind_eq_some_iff.1 h;clear h;have x0 := blk_cell D0.out 0;have x1 := blk_cell D0.out 1
    go_wp2_with fail
    refine (HI.out w2 x Ax1 cx1 y' (fun k_ => PX k_ ∧ k_ < w.heap.size) HB2.out hlx1 (Kd.F_below HFX1.out HB2.out) hy').mono ?_
    rintro e w3 ⟨cs', rfl, hF3, hb3⟩
    obtain ⟨Az1, cz1, hcz, hlz1, hFz1⟩ := k63_openF hF3;subst hcz;have HB3 := am (below_step HB2.out hb3);have HN3 := am (Kd.N_below HN2.out hb3);have HF3 := am hF3;have hs3 : w2.heap.size ≤ w3.heap.size := hb3.size;have hlt := Kd.N_lt HN2.out;have hbs := Kd.N_base HN2.out;clear hF3 hb3 HN2 HB2 HI hFz1 hlz1
    go_wp2_with fail
    refine (InsEp_N (w.heap.size + 1) (fun k_ => (P0 k_ ∧ k_ < w.heap.size) ∨ (PX k_ ∧ k_ < w.heap.size) ∨ w.heap.size + 1 ≤ k_) (fun k_ => (PX k_ ∧ k_ < w.heap.size) ∨ w2.heap.size ≤ k_) (.slice A1 l.length c1) l y' [.int .i64 y'.f0, .slice Az1 y'.f1.length cz1] j w3.heap.size _ hj (Kd.N_alloc HN3.out _) (Kd.FK_below HF3.out (below_alloc (Below.refl _ _) _)) (fun k_ hk => by rcases hk with hk | hk; exact ⟨.inr (.inl hk), fun he => by have := hbs _ he.symm; omega⟩; exact ⟨.inr (.inr (by omega)), fun he => by have := hlt _ he.symm; omega⟩) (fun k_ hk => .inr (.inr (by simp at hk; omega))) (blk_new _ _) (fun he => by have := hlt _ he; omega) (by simp <;> omega) (by omega)).mono ?_
    rintro e w4 ⟨v1, rfl, HN, hB4, -⟩
    have hml0 : (l.take j ++ [y'] ++ l.drop j).length = l.length + 1 := ins_len _ _ _ hj;obtain ⟨m, hm⟩ : ∃ m, m = l.take j ++ [y'] ++ l.drop j := ⟨_, rfl⟩;rw [← hm] at HN hcut;have HN4 := am HN;have HB4 := am ((below_step HB3.out (below_alloc (Below.refl w3.heap.size w3) (.cells #[.int .i64 y'.f0, .slice Az1 y'.f1.length cz1] 63))).trans (hB4.mono (by omega)));clear hm HN hB4 hlt hbs HN3 HF3 HB3 D0 hml0 x0 x1;obtain ⟨A2, c2, rfl⟩ := Kd.N_slice HN4.out;have HC := am hcut;clear hcut
    by_cases hm : most < (m.length : Int)
    · obtain ⟨hm0, hr, hmn⟩ := cutF_to HC.out (most.toNat) (by have := HC.out; unfold cutF at this; split at this; omega; cases this)
      subst hr
      have hmm : ((most.toNat : Nat) : Int) = most := by omega
      have hml : most.toNat ≤ c2 := by have := (Kd.N_reads' HN4.out).2.1; omega
      have hmz : (0 : Int) ≤ most := hm0;clear HC hm0
      go_wp2
      go_ret
      refine ⟨_, rfl, ?_, HB4.out⟩
      exact Kd.V_mono (ok := fun k_ => (P0 k_ ∧ k_ < w.heap.size) ∨ (PX k_ ∧ k_ < w.heap.size) ∨ w.heap.size + 1 ≤ k_) (V_takenL (Kd.N_V HN4.out) hmn) (fun k_ hk => by rcases hk with hk | hk | hk; exact .inl (.inl hk.1); exact .inl (.inr hk.1); exact .inr (by omega))
    · obtain ⟨hm0, hr, hmn⟩ := cutF_to HC.out (m.length) (by omega)
      subst hr;have hml : m.length ≤ c2 := (Kd.N_reads' HN4.out).2.1
      have hmz : (0 : Int) ≤ (m.length : Int) := by omega
      clear HC hm0
      go_wp2
      go_ret
      refine ⟨_, rfl, ?_, HB4.out⟩
      exact Kd.V_mono (ok := fun k_ => (P0 k_ ∧ k_ < w.heap.size) ∨ (PX k_ ∧ k_ < w.heap.size) ∨ w.heap.size + 1 ≤ k_) (V_takenL (Kd.N_V HN4.out) hmn) (fun k_ hk => by rcases hk with hk | hk | hk; exact .inl (.inl hk.1); exact .inl (.inr hk.1); exact .inr (by omega))
  | true =>
    have h := HH.out;clear HH;rw [if_pos rfl] at h
    split at h
    case isFalse => cases h
    case isTrue hij =>
    obtain ⟨j, rfl⟩ := Int.eq_ofNat_of_zero_le hij.1
    have hj : j < l.length := by have := hij.2; omega
    clear hij;rw [Int.toNat_natCast] at h;obtain ⟨y', hy', hcut⟩ := Option.bind_eq_some_iff.1 h;clear h;obtain ⟨ga, cap, hga, hgb, hgl, -⟩ := Kd.N_form HN2.out (by omega)
    injection hga with hA hcc hcap
    subst hA;subst hcap;have hga2 : w.heap.size + 1 ≤ ga := hgb;obtain ⟨cf, hcl, hF, hcc, hfr⟩ := Kd.N_elem HN2.out z63 (j : Int) (by omega) (by omega);rw [Int.toNat_natCast] at hF;obtain ⟨q, hqq⟩ : ∃ q, q = (l.getD j z63) := ⟨_, rfl⟩;rw [← hqq] at hF hy';obtain ⟨Aq1, cq1, hcq, hlq1, hFq1⟩ := k63_openF hF;subst hcq;have HCC : Aside0 (([.int .i64 q.f0, .slice Aq1 q.f1.length cq1] : List Value).length = k63.sz ∧ ∀ (j_ : Nat) (u : Value), ([.int .i64 q.f0, .slice Aq1 q.f1.length cq1] : List Value)[j_]? = some u → w2.cell? ⟨ga, j * k63.sz + j_, none⟩ = some u) := ⟨hcl, hcc⟩;have q0 : w2.cell? ⟨ga, j * 2, none⟩ = some (.int .i64 q.f0) := hcc 0 _ rfl;have f0 : w2.frozen? ⟨ga, j * 2, none⟩ = false := hfr 0;have q1 : w2.cell? ⟨ga, j * 2 + 1, none⟩ = some (.slice Aq1 q.f1.length cq1) := hcc 1 _ rfl;have f1 : w2.frozen? ⟨ga, j * 2 + 1, none⟩ = false := hfr 1;have d0 : decide ((j : Int) < (l.length : Int)) = true := decide_eq_true (by omega);clear hF hcc hcl hfr hqq
    go_wp2_with fail
    refine (HI.out w2 q Aq1 cq1 y' (fun k_ => ((P0 k_ ∧ k_ < w.heap.size) ∨ (PX k_ ∧ k_ < w.heap.size) ∨ w.heap.size + 1 ≤ k_) ∧ k_ ≠ ga) HB2.out hlq1 hFq1 hy').mono ?_
    rintro e w3 ⟨cs', rfl, hF3, hb3⟩
    obtain ⟨Az1, cz1, hcz, hlz1, hFz1⟩ := k63_openF hF3;subst hcz;have HB3 := am (below_step HB2.out hb3);have HF3 := am hF3;have HN3 := am (Kd.N_below HN2.out hb3);have BQ := am hb3;obtain ⟨cf3, -, -, -, hfr3⟩ := Kd.N_elem HN3.out z63 (j : Int) (by omega) (by omega);have p0 := pw_cell_below hb3 q0;have g0 : w3.frozen? ⟨ga, j * 2, none⟩ = false := hfr3 0;have p1 := pw_cell_below hb3 q1;have g1 : w3.frozen? ⟨ga, j * 2 + 1, none⟩ = false := hfr3 1;clear hfr3;have HPS := am (Kd.N_seg HN3.out (j : Int) (by omega) (by omega) (c := [.int .i64 q.f0, .slice Aq1 q.f1.length cq1]) (seg := [.int .i64 y'.f0, .slice Az1 y'.f1.length cz1]) (j := 0) HCC.out.1 (fun j_ u hu => pw_cell_below BQ.out (HCC.out.2 j_ u hu)) (show 0 + 2 ≤ 2 from by decide) (x' := y') (okp := fun k_ => ((((P0 k_ ∧ k_ < w.heap.size) ∨ (PX k_ ∧ k_ < w.heap.size) ∨ w.heap.size + 1 ≤ k_) ∧ k_ ≠ ga) ∨ w2.heap.size ≤ k_)) HF3.out (fun k_ hk => by rcases hk with hk | hk; exact hk; exact ⟨.inr (.inr (by omega)), by omega⟩));clear hF3 hb3 HN2 HB2 HI HCC HF3 HN3 BQ D0 q0 f0 q1 f1 hFz1 hlz1;obtain ⟨m, hm⟩ : ∃ m, m = l.set j y' := ⟨_, rfl⟩
    have hml0 : m.length = l.length := by rw [hm, List.length_set]
    rw [← hm] at hcut;have HMM := am hm;clear hm;have HC := am hcut;clear hcut;have BB := am (below_set (g := ga) (j := j * 2 + 1) (v := .slice Az1 y'.f1.length cz1) (below_set (g := ga) (j := j * 2) (v := .int .i64 y'.f0) (HB3.out) (by omega)) (by omega));have HNN : Aside0 (Kd.N k63 63 (((w3).setCell ⟨ga, j * 2, none⟩ (.int .i64 y'.f0)).setCell ⟨ga, j * 2 + 1, none⟩ (.slice Az1 y'.f1.length cz1)) (w.heap.size + 1) (fun k_ => (P0 k_ ∧ k_ < w.heap.size) ∨ (PX k_ ∧ k_ < w.heap.size) ∨ w.heap.size + 1 ≤ k_) (.slice (some ⟨ga, 0, none⟩) m.length c1) m) := ⟨by rw [hml0, HMM.out]; exact HPS.out.1⟩
    by_cases hm : most < (l.length : Int)
    · obtain ⟨hm0, hr, hmn⟩ := cutF_to HC.out (most.toNat) (by have := HC.out; unfold cutF at this; split at this; omega; cases this)
      subst hr
      have hmm : ((most.toNat : Nat) : Int) = most := by omega
      have hml : most.toNat ≤ c1 := by have := (Kd.N_reads' HNN.out).2.1; omega
      have hmz : (0 : Int) ≤ most := hm0;have HNL := am hmn;clear HC hm0 hml0 hmn
      go_wp2
      go_ret
      refine ⟨_, rfl, ?_, BB.out⟩
      exact Kd.V_mono (ok := fun k_ => (P0 k_ ∧ k_ < w.heap.size) ∨ (PX k_ ∧ k_ < w.heap.size) ∨ w.heap.size + 1 ≤ k_) (V_takenL (Kd.N_V HNN.out) HNL.out) (fun k_ hk => by rcases hk with hk | hk | hk; exact .inl (.inl hk.1); exact .inl (.inr hk.1); exact .inr (by omega))
    · obtain ⟨hm0, hr, hmn⟩ := cutF_to HC.out (l.length) (by omega)
      subst hr
      have hml : l.length ≤ c1 := by have := (Kd.N_reads' HNN.out).2.1; omega
      have hmz : (0 : Int) ≤ (l.length : Int) := by omega
      have HNL := am hmn;clear HC hm0 hml0 hmn
      go_wp2
      go_ret
      refine ⟨_, rfl, ?_, BB.out⟩
      exact Kd.V_mono (ok := fun k_ => (P0 k_ ∧ k_ < w.heap.size) ∨ (PX k_ ∧ k_ < w.heap.size) ∨ w.heap.size + 1 ≤ k_) (V_takenL (Kd.N_V HNN.out) HNL.out) (fun k_ hk => by rcases hk with hk | hk | hk; exact .inl (.inl hk.1); exact .inl (.inr hk.1); exact .inr (by omega))
def inBk (k : Nat) (M : Int) (tr : S91) (y : S84) : Option S84 := (putF (fun t => pTr k t tr) some M y.f1 z91 tr).bind fun l => some ⟨y.f0, l⟩
def inLb (k : Nat) (M v : Int) (tr : S91) (y : S67) : Option S67 := (putF (fun t => pBk t ⟨v, []⟩) (inBk k M tr) 64 y.f2 z84 ⟨v, []⟩).bind fun l => some ⟨y.f0, y.f1, l⟩
def inEp (k : Nat) (a b L M v : Int) (n : ByteArray) (tr : S91) (y : S63) : Option S63 := (sip_Sum.f k a b n).bind fun u => (putF (fun t => pLb k t ⟨n, u, []⟩) (inLb k M v tr) L y.f1 z67 ⟨n, u, []⟩).bind fun l => some ⟨y.f0, l⟩
theorem inBk_leo (k : Nat) (M : Int) (tr : S91) (y : S84) : LeO (inBk k M tr y) (inBk (k + 1) M tr y) := LeO.bind (putF_leo (fun t => t_byTrace.mono _ _ _ _ k) (fun _ => LeO.refl _) _ _ _ _) (fun _ => LeO.refl _)
theorem inLb_leo (k : Nat) (M v : Int) (tr : S91) (y : S67) : LeO (inLb k M v tr y) (inLb (k + 1) M v tr y) := LeO.bind (putF_leo (fun t => LeO.refl _) (fun y => inBk_leo k M tr y) _ _ _ _) (fun _ => LeO.refl _)
theorem inEp_leo (k : Nat) (a b L M v : Int) (n : ByteArray) (tr : S91) (y : S63) : LeO (inEp k a b L M v n tr y) (inEp (k + 1) a b L M v n tr y) :=
  LeO.bind (sip_Sum.mono _ _ _ k) (fun _ => LeO.bind (putF_leo (fun t => t_byLabel.mono _ _ _ _ _ _ k) (fun y => inLb_leo k M v tr y) _ _ _ _) (fun _ => LeO.refl _))
set_option maxHeartbeats 1000000 in
set_option maxRecDepth 100000 in
theorem C39_calls (y : S91) (w : World) : Calls Try.prog 39 #[.agg #[.string y.f0, .int .u64 y.f1]] w fun e w' => e = .returned (.agg #[.string y.f0, .int .u64 y.f1]) ∧ Below w.heap.size w w' := by
  have hu := Try.underlying91
  go_enter Try.func39, Try.ntmps39
  go_wp2
  refine bodyPost_ret (v := .agg #[.string y.f0, .int .u64 y.f1]) ?_ rfl ⟨rfl, below_alloc (below_alloc (Below.refl _ _) _) _⟩
  refine results_cell_row rfl _ _ (w.heap.size + 1) 91 _ (0, 0) _ ?_ (blk_newAt3 _ _ (by simp)) hu rfl ?_
  · rfl
  · kernel_rfl
set_option maxHeartbeats 4000000 in
set_option maxRecDepth 100000 in
theorem C36_calls (k : Nat) (a b E L M W : Int) (VE : Value) (tr : S91) (TB SB : Nat) (y : S84) (Ay1 : Option Addr) (cy1 : Nat) (y' : S84) (PY : Nat → Prop) (w : World) (hT : w.heap[TB]? = some (.cells #[.string tr.f0, .int .u64 tr.f1] 91 (0, 0))) (hS : w.heap[SB]? = some (.cells #[.int .u64 a, .int .u64 b, .int .i64 E, .int .i64 L, .int .i64 M, .int .i64 W, VE] 27 (0, 0))) (hly1 : y.f1.length ≤ cy1) (hFy1 : Kd.F k91 w PY Ay1 y.f1.length y.f1) (h : inBk k M tr y = some y') :
    Calls Try.prog 36 #[.agg #[.int .i64 y.f0, .slice Ay1 y.f1.length cy1], .pointer (some ⟨TB, 0, none⟩), .pointer (some ⟨SB, 0, none⟩)] w fun e w' => ∃ cs' : List Value, e = .returned (.agg cs'.toArray) ∧ Kd.FK k84 w' (fun k_ => PY k_ ∨ w.heap.size ≤ k_) y' cs' ∧ Below w.heap.size w w' := by
  have hu := Try.underlying84;have hu27 := Try.underlying27;have hu91 := Try.underlying91;have hu29 := Try.underlying29;have HW : Below w.heap.size w ((w.alloc (.cells #[.int .i64 y.f0, .slice Ay1 y.f1.length cy1] 84)).alloc (.cells #[.int .i64 0, .slice none 0 0] 84)) := below_alloc (below_alloc (Below.refl _ _) _) _;have tb0 := pw_cell_below HW (blk_cell hT 0);have tb1 := pw_cell_below HW (blk_cell hT 1);have sb4 := pw_cell_below HW (blk_cell hS 4);have ec : ∀ args w, (callFunc 38 args).run Try.prog w = .ok (.enter 38 args) w := enter_at Try.func38 (by kernel_rfl) rfl;have ei : ∀ args w, (callFunc 39 args).run Try.prog w = .ok (.enter 39 args) w := enter_at Try.func39 (by kernel_rfl) rfl;obtain ⟨r2, hr, h⟩ := Option.bind_eq_some_iff.1 h;obtain rfl := Option.some.inj h;have HR := am hr;clear hr h;have HFB := am (Kd.F_bound hFy1);have HWB := am HW;clear hFy1 HW
  go_enter Try.func36, Try.ntmps36
  go_wp2_with fail
  obtain ⟨w1, hw1⟩ : ∃ w1, w1 = (w.alloc (.cells #[.int .i64 y.f0, .slice Ay1 y.f1.length cy1] 84)).alloc (.cells #[.int .i64 0, .slice none 0 0] 84) := ⟨_, rfl⟩;have HB1 : Aside0 (Below w.heap.size w w1) := ⟨by rw [hw1]; exact HWB.out⟩;have B0 : Aside0 (w1.heap[w.heap.size]? = some (.cells #[.int .i64 y.f0, .slice Ay1 y.f1.length cy1] 84 (0, 0))) := ⟨by rw [hw1]; exact blk_alloc (blk_new _ _) _⟩;have B1 : Aside0 (w1.heap[w.heap.size + 1]? = some (.cells #[.int .i64 0, .slice none 0 0] 84 (0, 0))) := ⟨by rw [hw1]; exact blk_newAt3 _ _ (by simp)⟩
  have hs1 : w.heap.size + 1 + 1 ≤ w1.heap.size := by rw [hw1]; simp
  rw [← hw1];clear hw1 HWB
  refine (PutTr_calls 38 39 #[] ec ei (fun t => pTr k t tr) some _ (fun _ => False) Ay1 cy1 y.f1 tr M r2 w1 (Kd.V_mk hly1 (Kd.F_below HFB.out HB1.out)) (fun W y cc hb hc => t_byTrace.calls k _ _ _ _ cc W hc) (fun W y y' PY hb hy => by obtain rfl := Option.some.inj hy; exact (C39_calls y W).mono (fun e w' he => ⟨[_, _], he.1, k91_mkF _ _ _, he.2⟩)) HR.out).mono ?_
  rintro e w2 ⟨v2, rfl, hv2, hb2⟩
  obtain ⟨A2, c2, rfl⟩ := Kd.V_slice hv2;have HV2 := am hv2;have D0 := am (blk_below B0.out hb2);have D1 := am (blk_below B1.out hb2);have HB2 := am (below_step HB1.out hb2);clear hv2 hb2 B0 B1 HB1 HFB;have s0 := blk_cell D0.out 0;have z0 := blk_frozen D0.out 0;have t0 := blk_cell D1.out 0;have yy0 := blk_frozen D1.out 0;have s1 := blk_cell D0.out 1;have z1 := blk_frozen D0.out 1;have t1 := blk_cell D1.out 1;have yy1 := blk_frozen D1.out 1
  have HF : Aside0 (∀ W_ : World, W_ = ((w2.setCell ⟨w.heap.size, 1, none⟩ (.slice A2 r2.length c2)).setCell ⟨w.heap.size + 1, 0, none⟩ (.int .i64 y.f0)).setCell ⟨w.heap.size + 1, 1, none⟩ (.slice A2 r2.length c2) →
      W_.heap[w.heap.size + 1]? = some (.cells #[.int .i64 y.f0, .slice A2 r2.length c2] 84 (0, 0)) ∧ Kd.FK k84 W_ (fun k_ => (PY k_ ∨ w.heap.size ≤ k_)) ⟨y.f0, r2⟩ [.int .i64 y.f0, .slice A2 r2.length c2] ∧ Below w.heap.size w W_) := ⟨fun W_ hW => by
    subst hW;have hF2 : Kd.F k91 w2 (fun k_ => (PY k_ ∧ k_ < w.heap.size) ∨ w.heap.size + 1 + 1 ≤ k_) A2 r2.length r2 := Kd.F_mono (Kd.V_F HV2.out) (fun k_ hk => by rcases hk with (hk | hk) | hk; exact .inl hk; exact hk.elim; exact .inr (by omega))
    refine ⟨blk_put (blk_put (cs' := #[.int .i64 y.f0, .slice none 0 0]) (blk_far D1.out (by simp <;> omega) _) 0 _ rfl) 1 _ rfl, ?_, below_set (below_set (below_set HB2.out (Nat.le_refl _)) (by omega)) (by omega)⟩
    refine k84_mkF _ _ _ (Kd.V_reads' HV2.out).2.1 (Kd.F_mono (ok := fun k_ => (PY k_ ∧ k_ < w.heap.size) ∨ w.heap.size + 1 + 1 ≤ k_) ?_ (fun k_ hk => by rcases hk with hk | hk; exact .inl hk.1; exact .inr (by omega)))
    refine Kd.F_far (Kd.F_far (Kd.F_far (hF2) ?_ _) ?_ _) ?_ _ <;> (intro k_ hk; simp only [ne_eq]; rcases hk with hk | hk <;> first | omega | (have := hk.2; omega))⟩
  go_wp2
  obtain ⟨f1, f2, f3⟩ := HF.out _ rfl
  refine bodyPost_ret (v := .agg #[.int .i64 y.f0, .slice A2 r2.length c2]) ?_ rfl ⟨_, rfl, f2, f3⟩
  refine results_cell_row rfl _ _ (w.heap.size + 1) 84 _ (0, 0) _ ?_ f1 hu rfl ?_
  · rfl
  · kernel_rfl
set_option maxHeartbeats 4000000 in
set_option maxRecDepth 100000 in
theorem C40_calls (k : Nat) (a b E L M W : Int) (VE : Value) (tr : S91) (t v : Int) (n id : ByteArray) (TB SB RB IB : Nat) (y : S67) (Ay2 : Option Addr) (cy2 : Nat) (y' : S67) (PY : Nat → Prop) (w : World) (hT : w.heap[TB]? = some (.cells #[.string tr.f0, .int .u64 tr.f1] 91 (0, 0))) (hS : w.heap[SB]? = some (.cells #[.int .u64 a, .int .u64 b, .int .i64 E, .int .i64 L, .int .i64 M, .int .i64 W, VE] 27 (0, 0))) (hR : w.heap[RB]? = some (.cells #[.int .i64 t, .string n, .int .i64 v, .string id] 29 (0, 0))) (hI : w.heap[IB]? = some (.cells #[.func (.func 36) #[] #[.pointer (some ⟨TB, 0, none⟩), .pointer (some ⟨SB, 0, none⟩)]] 96 (0, 0))) (hly2 : y.f2.length ≤ cy2) (hFy2 : Kd.F k84 w PY Ay2 y.f2.length y.f2) (h : inLb k M v tr y = some y') :
    Calls Try.prog 40 #[.agg #[.string y.f0, .int .u64 y.f1, .slice Ay2 y.f2.length cy2], .pointer (some ⟨RB, 0, none⟩), .pointer (some ⟨IB, 0, none⟩)] w fun e w' => ∃ cs' : List Value, e = .returned (.agg cs'.toArray) ∧ Kd.FK k67 w' (fun k_ => PY k_ ∨ w.heap.size ≤ k_) y' cs' ∧ Below w.heap.size w w' := by
  have hu := Try.underlying67;have hu27 := Try.underlying27;have hu91 := Try.underlying91;have hu29 := Try.underlying29;have HW : Below w.heap.size w ((w.alloc (.cells #[.string y.f0, .int .u64 y.f1, .slice Ay2 y.f2.length cy2] 67)).alloc (.cells #[.string ⟨#[]⟩, .int .u64 0, .slice none 0 0] 67)) := below_alloc (below_alloc (Below.refl _ _) _) _;have HT1 := am (blk_below hT HW);have HS1 := am (blk_below hS HW);have HR1 := am (blk_below hR HW);have HI1 := am (blk_below hI HW);have rb2 := pw_cell_below HW (blk_cell hR 2);have ib0 := pw_cell_below HW (blk_cell hI 0);have ec : ∀ args w, (callFunc 42 args).run Try.prog w = .ok (.enter 42 args) w := enter_at Try.func42 (by kernel_rfl) rfl;have ei : ∀ args w, (callFunc 36 args).run Try.prog w = .ok (.enter 36 args) w := enter_at Try.func36 (by kernel_rfl) rfl;obtain ⟨r2, hr, h⟩ := Option.bind_eq_some_iff.1 h;obtain rfl := Option.some.inj h;have HR := am hr;clear hr h;have HFB := am (Kd.F_bound hFy2);have HWB := am HW;clear hFy2 HW
  go_enter Try.func40, Try.ntmps40
  go_wp2_with fail
  obtain ⟨w1, hw1⟩ : ∃ w1, w1 = (w.alloc (.cells #[.string y.f0, .int .u64 y.f1, .slice Ay2 y.f2.length cy2] 67)).alloc (.cells #[.string ⟨#[]⟩, .int .u64 0, .slice none 0 0] 67) := ⟨_, rfl⟩;have HB1 : Aside0 (Below w.heap.size w w1) := ⟨by rw [hw1]; exact HWB.out⟩;have B0 : Aside0 (w1.heap[w.heap.size]? = some (.cells #[.string y.f0, .int .u64 y.f1, .slice Ay2 y.f2.length cy2] 67 (0, 0))) := ⟨by rw [hw1]; exact blk_alloc (blk_new _ _) _⟩;have B1 : Aside0 (w1.heap[w.heap.size + 1]? = some (.cells #[.string ⟨#[]⟩, .int .u64 0, .slice none 0 0] 67 (0, 0))) := ⟨by rw [hw1]; exact blk_newAt3 _ _ (by simp)⟩
  have hs1 : w.heap.size + 1 + 1 ≤ w1.heap.size := by rw [hw1]; simp
  rw [← hw1] at HT1 HS1 HR1 HI1 ⊢;clear hw1 HWB
  refine (PutBk_calls 42 36 #[.pointer (some ⟨TB, 0, none⟩), .pointer (some ⟨SB, 0, none⟩)] ec ei (fun t => pBk t ⟨v, []⟩) (inBk k M tr) _ (fun _ => False) Ay2 cy2 y.f2 ⟨v, []⟩ none 0 64 r2 w1 (Kd.V_mk hly2 (Kd.F_below HFB.out HB1.out)) (Nat.le_refl 0) (Kd.F_nil _ _ _) (fun W y Ay1 cy1 cc hb hly1 hCy1 hc => t_byBucket.calls _ Ay1 cy1 _ _ none 0 [] cc W hCy1 hly1 (Kd.C_nil _ _) (Nat.le_refl 0) hc) (fun W_ y Ay1 cy1 y' PY hb hly1 hFy1 hy => by simpa using C36_calls k a b E L M W VE tr TB SB y Ay1 cy1 y' PY W_ (blk_below HT1.out hb) (blk_below HS1.out hb) hly1 hFy1 hy) HR.out).mono ?_
  rintro e w2 ⟨v2, rfl, hv2, hb2⟩
  obtain ⟨A2, c2, rfl⟩ := Kd.V_slice hv2;have HV2 := am hv2;have D0 := am (blk_below B0.out hb2);have D1 := am (blk_below B1.out hb2);have HB2 := am (below_step HB1.out hb2);clear hv2 hb2 B0 B1 HB1 HFB;have s0 := blk_cell D0.out 0;have z0 := blk_frozen D0.out 0;have t0 := blk_cell D1.out 0;have yy0 := blk_frozen D1.out 0;have s1 := blk_cell D0.out 1;have z1 := blk_frozen D0.out 1;have t1 := blk_cell D1.out 1;have yy1 := blk_frozen D1.out 1;have s2 := blk_cell D0.out 2;have z2 := blk_frozen D0.out 2;have t2 := blk_cell D1.out 2;have yy2 := blk_frozen D1.out 2
  have HF : Aside0 (∀ W_ : World, W_ = (((w2.setCell ⟨w.heap.size, 2, none⟩ (.slice A2 r2.length c2)).setCell ⟨w.heap.size + 1, 0, none⟩ (.string y.f0)).setCell ⟨w.heap.size + 1, 1, none⟩ (.int .u64 y.f1)).setCell ⟨w.heap.size + 1, 2, none⟩ (.slice A2 r2.length c2) →
      W_.heap[w.heap.size + 1]? = some (.cells #[.string y.f0, .int .u64 y.f1, .slice A2 r2.length c2] 67 (0, 0)) ∧ Kd.FK k67 W_ (fun k_ => (PY k_ ∨ w.heap.size ≤ k_)) ⟨y.f0, y.f1, r2⟩ [.string y.f0, .int .u64 y.f1, .slice A2 r2.length c2] ∧ Below w.heap.size w W_) := ⟨fun W_ hW => by
    subst hW;have hF2 : Kd.F k84 w2 (fun k_ => (PY k_ ∧ k_ < w.heap.size) ∨ w.heap.size + 1 + 1 ≤ k_) A2 r2.length r2 := Kd.F_mono (Kd.V_F HV2.out) (fun k_ hk => by rcases hk with (hk | hk) | hk; exact .inl hk; exact hk.elim; exact .inr (by omega))
    refine ⟨blk_put (blk_put (cs' := #[.string y.f0, .int .u64 y.f1, .slice none 0 0]) (blk_put (cs' := #[.string y.f0, .int .u64 0, .slice none 0 0]) (blk_far D1.out (by simp <;> omega) _) 0 _ rfl) 1 _ rfl) 2 _ rfl, ?_, below_set (below_set (below_set (below_set HB2.out (Nat.le_refl _)) (by omega)) (by omega)) (by omega)⟩
    refine k67_mkF _ _ _ (Kd.V_reads' HV2.out).2.1 (Kd.F_mono (ok := fun k_ => (PY k_ ∧ k_ < w.heap.size) ∨ w.heap.size + 1 + 1 ≤ k_) ?_ (fun k_ hk => by rcases hk with hk | hk; exact .inl hk.1; exact .inr (by omega)))
    refine Kd.F_far (Kd.F_far (Kd.F_far (Kd.F_far (hF2) ?_ _) ?_ _) ?_ _) ?_ _ <;> (intro k_ hk; simp only [ne_eq]; rcases hk with hk | hk <;> first | omega | (have := hk.2; omega))⟩
  go_wp2
  obtain ⟨f1, f2, f3⟩ := HF.out _ rfl
  refine bodyPost_ret (v := .agg #[.string y.f0, .int .u64 y.f1, .slice A2 r2.length c2]) ?_ rfl ⟨_, rfl, f2, f3⟩
  refine results_cell_row rfl _ _ (w.heap.size + 1) 67 _ (0, 0) _ ?_ f1 hu rfl ?_
  · rfl
  · kernel_rfl
set_option maxHeartbeats 4000000 in
set_option maxRecDepth 100000 in
theorem C43_calls (k : Nat) (a b E L M W : Int) (VE : Value) (tr : S91) (t v : Int) (n id : ByteArray) (TB SB RB IB LX : Nat) (y : S63) (Ay1 : Option Addr) (cy1 : Nat) (y' : S63) (PY : Nat → Prop) (w : World) (hT : w.heap[TB]? = some (.cells #[.string tr.f0, .int .u64 tr.f1] 91 (0, 0))) (hS : w.heap[SB]? = some (.cells #[.int .u64 a, .int .u64 b, .int .i64 E, .int .i64 L, .int .i64 M, .int .i64 W, VE] 27 (0, 0))) (hR : w.heap[RB]? = some (.cells #[.int .i64 t, .string n, .int .i64 v, .string id] 29 (0, 0))) (hI : w.heap[IB]? = some (.cells #[.func (.func 36) #[] #[.pointer (some ⟨TB, 0, none⟩), .pointer (some ⟨SB, 0, none⟩)]] 96 (0, 0))) (hL : w.heap[LX]? = some (.cells #[.func (.func 40) #[] #[.pointer (some ⟨RB, 0, none⟩), .pointer (some ⟨IB, 0, none⟩)]] 99 (0, 0))) (hly1 : y.f1.length ≤ cy1) (hFy1 : Kd.F k67 w PY Ay1 y.f1.length y.f1) (h : inEp k a b L M v n tr y = some y') :
    Calls Try.prog 43 #[.agg #[.int .i64 y.f0, .slice Ay1 y.f1.length cy1], .pointer (some ⟨RB, 0, none⟩), .pointer (some ⟨SB, 0, none⟩), .pointer (some ⟨LX, 0, none⟩)] w fun e w' => ∃ cs' : List Value, e = .returned (.agg cs'.toArray) ∧ Kd.FK k63 w' (fun k_ => PY k_ ∨ w.heap.size ≤ k_) y' cs' ∧ Below w.heap.size w w' := by
  have hu := Try.underlying63;have hu27 := Try.underlying27;have hu91 := Try.underlying91;have hu29 := Try.underlying29;have HW : Below w.heap.size w ((w.alloc (.cells #[.int .i64 y.f0, .slice Ay1 y.f1.length cy1] 63)).alloc (.cells #[.int .i64 0, .slice none 0 0] 63)) := below_alloc (below_alloc (Below.refl _ _) _) _;have HT1 := am (blk_below hT HW);have HS1 := am (blk_below hS HW);have HR1 := am (blk_below hR HW);have HI1 := am (blk_below hI HW);have HL1 := am (blk_below hL HW);have ec : ∀ args w, (callFunc 45 args).run Try.prog w = .ok (.enter 45 args) w := enter_at Try.func45 (by kernel_rfl) rfl;have ei : ∀ args w, (callFunc 40 args).run Try.prog w = .ok (.enter 40 args) w := enter_at Try.func40 (by kernel_rfl) rfl;obtain ⟨u, hu0, h⟩ := Option.bind_eq_some_iff.1 h;obtain ⟨r2, hr, h⟩ := Option.bind_eq_some_iff.1 h;obtain rfl := Option.some.inj h;have HU := am hu0;have HR2 := am hr;clear hr h hu0;have HFB := am (Kd.F_bound hFy1);have HWB := am HW;clear hFy1 HW
  go_enter Try.func43, Try.ntmps43
  go_wp2_with fail
  obtain ⟨w1, hw1⟩ : ∃ w1, w1 = (w.alloc (.cells #[.int .i64 y.f0, .slice Ay1 y.f1.length cy1] 63)).alloc (.cells #[.int .i64 0, .slice none 0 0] 63) := ⟨_, rfl⟩;have HB1 : Aside0 (Below w.heap.size w w1) := ⟨by rw [hw1]; exact HWB.out⟩;have B0 : Aside0 (w1.heap[w.heap.size]? = some (.cells #[.int .i64 y.f0, .slice Ay1 y.f1.length cy1] 63 (0, 0))) := ⟨by rw [hw1]; exact blk_alloc (blk_new _ _) _⟩;have B1 : Aside0 (w1.heap[w.heap.size + 1]? = some (.cells #[.int .i64 0, .slice none 0 0] 63 (0, 0))) := ⟨by rw [hw1]; exact blk_newAt3 _ _ (by simp)⟩
  have hs1 : w.heap.size + 1 + 1 ≤ w1.heap.size := by rw [hw1]; simp
  rw [← hw1] at HT1 HS1 HR1 HI1 HL1 ⊢;clear hw1 HWB;have HS := am hs1
  refine start_ (n := 16) (S := fun w' => w'.cell? ⟨w.heap.size, 1, none⟩ = some (.slice Ay1 y.f1.length cy1) ∧ w'.cell? ⟨RB, 1, none⟩ = some (.string n) ∧ w'.cell? ⟨SB, 0, none⟩ = some (.int .u64 a) ∧ w'.cell? ⟨SB, 1, none⟩ = some (.int .u64 b) ∧ w'.cell? ⟨SB, 3, none⟩ = some (.int .i64 L) ∧ w'.cell? ⟨LX, 0, none⟩ = some (.func (.func 40) #[] #[.pointer (some ⟨RB, 0, none⟩), .pointer (some ⟨IB, 0, none⟩)])) (ds := [15]) #[false, false, false, false, false, false, false, false, false, false, false, false, false, false, false, false] (by kernel_rfl) rfl rfl ⟨blk_cell B0.out 1, blk_cell HR1.out 1, blk_cell HS1.out 0, blk_cell HS1.out 1, blk_cell HS1.out 3, blk_cell HL1.out 0⟩ (fun hHeld => ?_)
  refine pu 0 ?_;refine pu 2 ?_;refine pu 4 ?_;refine pu 6 ?_;refine pu 10 ?_;refine ta 1 hHeld ?_;refine ta 3 hHeld ?_;refine ta 5 hHeld ?_;refine ta 7 hHeld ?_;refine ta 11 hHeld ?_;refine ta 12 hHeld ?_
  refine on1 8 (fun K hK => ?_)
  refine goes_ Try.func35 (by kernel_rfl) rfl #[.agg #[.int .u64 a, .int .u64 b], .string n] (by rfl) rfl rfl (by simp only [List.map_toArray, List.map_cons, List.map_nil]; rfl) ?_
  with_reducible refine (sip_Sum.calls k a b n u _ HU.out).mono ?_
  rintro e w3 ⟨rfl, hb3⟩
  refine ⟨_, rfl, ?_⟩
  have HB3 := am (below_step (below_drew1 HB1.out) hb3);have B03 := am (blk_below (blk_drew B0.out) hb3);have B13 := am (blk_below (blk_drew B1.out) hb3);have HT3 := am (blk_below (blk_drew HT1.out) hb3);have HS3 := am (blk_below (blk_drew HS1.out) hb3);have HR3 := am (blk_below (blk_drew HR1.out) hb3);have HI3 := am (blk_below (blk_drew HI1.out) hb3)
  refine hK.out _ _ ⟨pw_cell_below hb3 (hHeld.1), pw_cell_below hb3 (hHeld.2.1), pw_cell_below hb3 (hHeld.2.2.1), pw_cell_below hb3 (hHeld.2.2.2.1), pw_cell_below hb3 (hHeld.2.2.2.2.1), pw_cell_below hb3 (hHeld.2.2.2.2.2)⟩ (fun hHeld => ?_)
  clear hK K;refine nm ?_;refine pu 9 ?_
  refine on1 13 (fun K hK => ?_)
  refine goes_ Try.func44 (by kernel_rfl) rfl #[.slice Ay1 y.f1.length cy1, .agg #[.string n, .int .u64 u, .slice none 0 0], .int .i64 L, .func (.func 45) #[] #[], .func (.func 40) #[] #[.pointer (some ⟨RB, 0, none⟩), .pointer (some ⟨IB, 0, none⟩)]] (by rfl) rfl rfl (by simp only [List.map_toArray, List.map_cons, List.map_nil]; rfl) ?_
  refine (PutLb_calls 45 40 #[.pointer (some ⟨RB, 0, none⟩), .pointer (some ⟨IB, 0, none⟩)] ec ei (fun t => pLb k t ⟨n, u, []⟩) (inLb k M v tr) _ (fun _ => False) Ay1 cy1 y.f1 ⟨n, u, []⟩ none 0 L r2 w3 (Kd.V_mk hly1 (Kd.F_below HFB.out HB3.out)) (Nat.le_refl 0) (Kd.F_nil _ _ _) (fun W y Ay2 cy2 cc hb hly2 hCy2 hc => t_byLabel.calls k _ _ Ay2 cy2 _ _ _ none 0 [] cc W hCy2 hly2 (Kd.C_nil _ _) (Nat.le_refl 0) hc) (fun W_ y Ay2 cy2 y' PY hb hly2 hFy2 hy => by simpa using C40_calls k a b E L M W VE tr t v n id TB SB RB IB y Ay2 cy2 y' PY W_ (blk_below HT3.out hb) (blk_below HS3.out hb) (blk_below HR3.out hb) (blk_below HI3.out hb) hly2 hFy2 hy) HR2.out).mono ?_
  rintro e w2 ⟨v2, rfl, hv2, hb2⟩
  refine ⟨_, rfl, ?_⟩
  obtain ⟨A2, c2, rfl⟩ := Kd.V_slice hv2;have HV2 := am hv2;have D0 := am (blk_below B03.out hb2);have D1 := am (blk_below B13.out hb2);have HB2 := am (below_step HB3.out hb2);have s0 := blk_cell D0.out 0;have z0 := blk_frozen D0.out 0;have t0 := blk_cell D1.out 0;have yy0 := blk_frozen D1.out 0;have s1 := blk_cell D0.out 1;have z1 := blk_frozen D0.out 1;have t1 := blk_cell D1.out 1;have yy1 := blk_frozen D1.out 1
  refine hK.out _ _ ⟨pw_cell_below hb2 (hHeld.1), pw_cell_below hb2 (hHeld.2.1), pw_cell_below hb2 (hHeld.2.2.1), pw_cell_below hb2 (hHeld.2.2.2.1), pw_cell_below hb2 (hHeld.2.2.2.2.1), pw_cell_below hb2 (hHeld.2.2.2.2.2)⟩ (fun hHeld => ?_)
  clear hK K;refine nm ?_;refine pu 14 ?_
  refine last_ (i := 15) (N := none) #[true, true, true, true, true, true, true, true, true, true, true, true, true, true, true, true] rfl rfl (by kernel_rfl) (by decide) (fun K hK => ?_)
  refine skip_ (w1 := ?_) (by rfl) rfl ?_ ?_
  rotate_left
  · go_simp
    rfl
  refine hK.out _ _ ?_
  clear hK K
  refine done_ (by kernel_rfl) ?_
  have HF : Aside0 (∀ W_ : World, W_ = ((w2.setCell ⟨w.heap.size, 1, none⟩ (.slice A2 r2.length c2)).setCell ⟨w.heap.size + 1, 0, none⟩ (.int .i64 y.f0)).setCell ⟨w.heap.size + 1, 1, none⟩ (.slice A2 r2.length c2) →
      W_.heap[w.heap.size + 1]? = some (.cells #[.int .i64 y.f0, .slice A2 r2.length c2] 63 (0, 0)) ∧ Kd.FK k63 W_ (fun k_ => (PY k_ ∨ w.heap.size ≤ k_)) ⟨y.f0, r2⟩ [.int .i64 y.f0, .slice A2 r2.length c2] ∧ Below w.heap.size w W_) := ⟨fun W_ hW => by
    subst hW;have hF2 : Kd.F k67 w2 (fun k_ => (PY k_ ∧ k_ < w.heap.size) ∨ w.heap.size + 1 + 1 ≤ k_) A2 r2.length r2 := Kd.F_mono (Kd.V_F HV2.out) (fun k_ hk => by rcases hk with (hk | hk) | hk; exact .inl hk; exact hk.elim; exact .inr (by have h9 : w1.heap.size ≤ w3.heap.size := hb3.size; have := HS.out; omega))
    refine ⟨blk_put (blk_put (cs' := #[.int .i64 y.f0, .slice none 0 0]) (blk_far D1.out (by simp <;> omega) _) 0 _ rfl) 1 _ rfl, ?_, below_set (below_set (below_set HB2.out (Nat.le_refl _)) (by omega)) (by omega)⟩
    refine k63_mkF _ _ _ (Kd.V_reads' HV2.out).2.1 (Kd.F_mono (ok := fun k_ => (PY k_ ∧ k_ < w.heap.size) ∨ w.heap.size + 1 + 1 ≤ k_) ?_ (fun k_ hk => by rcases hk with hk | hk; exact .inl hk.1; exact .inr (by omega)))
    refine Kd.F_far (Kd.F_far (Kd.F_far (hF2) ?_ _) ?_ _) ?_ _ <;> (intro k_ hk; simp only [ne_eq]; rcases hk with hk | hk <;> first | omega | (have := hk.2; omega))⟩
  go_wp2
  obtain ⟨f1, f2, f3⟩ := HF.out _ rfl
  refine bodyPost_ret (v := .agg #[.int .i64 y.f0, .slice A2 r2.length c2]) ?_ rfl ⟨_, rfl, f2, f3⟩
  refine results_cell_row rfl _ _ (w.heap.size + 1) 63 _ (0, 0) _ ?_ f1 hu rfl ?_
  · rfl
  · kernel_rfl
theorem sto_func {P : Program} {w : World} {a : Addr} {m : Mode} (fn : Fn) (first captured : Array Value) : (store a (.func fn first captured) m).run P w = stored P w a (.func fn first captured) m := run_store P w a _ m rfl
attribute [local go_sem] sto_func
def t_add.f (k : Nat) (a b E L M W : Int) (l : List S63) (t : Int) (n : ByteArray) (v : Int) (id : ByteArray) : Option (Int × Int × Int × Int × Int × Int × List S63) :=
  (t_raised.f a b E L M W l (wrap64 (wrap64 (t - E) + 1))).bind fun s =>
    if t < s.2.2.2.2.2.1 then some s else (sip_Sum.f k s.1 s.2.1 id).bind fun u =>
      (putF (fun e => pEp e ⟨t, []⟩) (inEp k s.1 s.2.1 s.2.2.2.1 s.2.2.2.2.1 v n ⟨id, u⟩) s.2.2.1 s.2.2.2.2.2.2 z63 ⟨t, []⟩).bind fun l' => some (s.1, s.2.1, s.2.2.1, s.2.2.2.1, s.2.2.2.2.1, s.2.2.2.2.2.1, l')
theorem t_add.mono : ∀ a0 a1 a2 a3 a4 a5 a6 a7 a8 a9 a10 k, LeO (t_add.f k a0 a1 a2 a3 a4 a5 a6 a7 a8 a9 a10) (t_add.f (k + 1) a0 a1 a2 a3 a4 a5 a6 a7 a8 a9 a10) := by
  intro a0 a1 a2 a3 a4 a5 a6 a7 a8 a9 a10 k
  exact LeO.bind (LeO.refl _) (fun s => LeO.ite (LeO.refl _) (LeO.bind (sip_Sum.mono _ _ _ k) (fun u => LeO.bind (putF_leo (fun _ => LeO.refl _) (fun y => inEp_leo k _ _ _ _ _ _ _ y) _ _ _ _) (fun _ => LeO.refl _))))
set_option maxHeartbeats 4000000 in
set_option maxRecDepth 100000 in
theorem t_add.calls (k : Nat) (a b E L M W : Int) (P0 : Nat → Prop) (A : Option Addr) (c : Nat) (l : List S63) (t : Int) (n : ByteArray) (v : Int) (id : ByteArray) (q1 q2 q3 q4 q5 q6 : Int) (q7 : List S63) (w : World) (hs : Kd.V k63 63 w w.heap.size (fun k_ => P0 k_) (.slice A l.length c) l) (h : t_add.f k a b E L M W l t n v id = some (q1, q2, q3, q4, q5, q6, q7)) :
    Calls Try.prog 26 #[.agg #[.int .u64 a, .int .u64 b, .int .i64 E, .int .i64 L, .int .i64 M, .int .i64 W, .slice A l.length c], .agg #[.int .i64 t, .string n, .int .i64 v, .string id]] w fun e w' => ∃ v6_ : Value, e = .returned (.agg #[.int .u64 q1, .int .u64 q2, .int .i64 q3, .int .i64 q4, .int .i64 q5, .int .i64 q6, v6_]) ∧ Kd.V k63 63 w' w.heap.size (fun k_ => (P0 k_ ∨ w.heap.size ≤ k_)) v6_ q7 ∧ Below w.heap.size w w' := by
  have hu27 := Try.underlying27;have hu29 := Try.underlying29;have hu63 := Try.underlying63;have hu91 := Try.underlying91;obtain ⟨⟨r1, r2, r3, r4, r5, r6, r7⟩, ht, h2⟩ := Option.bind_eq_some_iff.1 h
  simp only at h2
  have HH := am h2;have HT := am ht;have HV := am (Kd.V_bound hs);clear hs h h2 ht
  go_enter Try.func26, Try.ntmps26
  go_wp2_with fail
  obtain ⟨w1, hw1⟩ : ∃ w1, w1 = ((w.alloc (.cells #[.int .u64 a, .int .u64 b, .int .i64 E, .int .i64 L, .int .i64 M, .int .i64 W, .slice A l.length c] 27)).alloc (.cells #[.int .i64 t, .string n, .int .i64 v, .string id] 29)).alloc (.cells #[.int .u64 0, .int .u64 0, .int .i64 0, .int .i64 0, .int .i64 0, .int .i64 0, .slice none 0 0] 27) := ⟨_, rfl⟩;rw [← hw1];have B0 : Aside0 (w1.heap[w.heap.size]? = some (.cells #[.int .u64 a, .int .u64 b, .int .i64 E, .int .i64 L, .int .i64 M, .int .i64 W, .slice A l.length c] 27 (0, 0))) := ⟨by rw [hw1]; exact blk_alloc (blk_alloc (blk_new _ _) _) _⟩;have B1 : Aside0 (w1.heap[w.heap.size + 1]? = some (.cells #[.int .i64 t, .string n, .int .i64 v, .string id] 29 (0, 0))) := ⟨by rw [hw1]; exact blk_alloc (blk_newAt3 _ _ (by simp)) _⟩;have B2 : Aside0 (w1.heap[w.heap.size + 1 + 1]? = some (.cells #[.int .u64 0, .int .u64 0, .int .i64 0, .int .i64 0, .int .i64 0, .int .i64 0, .slice none 0 0] 27 (0, 0))) := ⟨by rw [hw1]; exact blk_newAt3 _ _ (by simp)⟩;have HB1 : Aside0 (Below w.heap.size w w1) := ⟨by rw [hw1]; exact below_alloc (below_alloc (below_alloc (Below.refl _ _) _) _) _⟩
  have hs1 : w.heap.size + 1 + 1 + 1 ≤ w1.heap.size := by rw [hw1]; simp
  clear hw1
  refine (t_raised.calls a b E L M W _ A c l _ r1 r2 r3 r4 r5 r6 r7 w1 (Kd.V_mk (Kd.V_reads' HV.out).2.1 (Kd.F_below (Kd.V_F HV.out) HB1.out)) HT.out).mono ?_
  rintro e w2 ⟨v6, rfl, hv, hb2⟩
  obtain ⟨A2, c2, rfl⟩ := Kd.V_slice hv;have HV2 : Aside0 (Kd.V k63 63 w2 w.heap.size (fun k_ => (P0 k_ ∧ k_ < w.heap.size) ∨ w.heap.size + 1 + 1 + 1 ≤ k_) (.slice A2 r7.length c2) r7) := ⟨Kd.V_mk (Kd.V_reads' hv).2.1 (Kd.F_mono (Kd.V_F hv) (fun k_ hk => by rcases hk with hk | hk; exact .inl hk; exact .inr (by omega)))⟩;have D0 := am (blk_below B0.out hb2);have D1 := am (blk_below B1.out hb2);have D2 := am (blk_below B2.out hb2);have HB2 := am (below_step HB1.out hb2);have hs2 : w.heap.size + 1 + 1 + 1 ≤ w2.heap.size := Nat.le_trans hs1 hb2.size;clear hv hb2 B0 B1 B2 HB1 HV HT hs1;have s0 := blk_cell D0.out 0;have z0 := blk_frozen D0.out 0;have s1 := blk_cell D0.out 1;have z1 := blk_frozen D0.out 1;have s2 := blk_cell D0.out 2;have z2 := blk_frozen D0.out 2;have s3 := blk_cell D0.out 3;have z3 := blk_frozen D0.out 3;have s4 := blk_cell D0.out 4;have z4 := blk_frozen D0.out 4;have s5 := blk_cell D0.out 5;have z5 := blk_frozen D0.out 5;have s6 := blk_cell D0.out 6;have z6 := blk_frozen D0.out 6
  go_wp2_with (
    with_reducible refine gate_store (t := 27) (p := 2) rfl ?_
    refine store_event (t := 27) (p := 2) (v := ?vo_1) (w1 := (((((((w2).setCell ⟨w.heap.size, 0, none⟩ (.int .u64 r1)).setCell ⟨w.heap.size, 1, none⟩ (.int .u64 r2)).setCell ⟨w.heap.size, 2, none⟩ (.int .i64 r3)).setCell ⟨w.heap.size, 3, none⟩ (.int .i64 r4)).setCell ⟨w.heap.size, 4, none⟩ (.int .i64 r5)).setCell ⟨w.heap.size, 5, none⟩ (.int .i64 r6)).setCell ⟨w.heap.size, 6, none⟩ (.slice A2 r7.length c2)) ?hg ?ho ?hn ?hr ?_; (case ho => rfl); (case hg => rfl); (case hn => rfl); (case hr => first | (go_simp; done) | (go_simp; rfl))
    intro w3 hw
    have E0 : Aside0 (w3.heap[w.heap.size]? = some (.cells #[.int .u64 r1, .int .u64 r2, .int .i64 r3, .int .i64 r4, .int .i64 r5, .int .i64 r6, .slice A2 r7.length c2] 27 (0, 0))) := ⟨by rw [hw]; exact blk_put (blk_put (cs' := #[.int .u64 r1, .int .u64 r2, .int .i64 r3, .int .i64 r4, .int .i64 r5, .int .i64 r6, .slice A l.length c]) (blk_put (cs' := #[.int .u64 r1, .int .u64 r2, .int .i64 r3, .int .i64 r4, .int .i64 r5, .int .i64 W, .slice A l.length c]) (blk_put (cs' := #[.int .u64 r1, .int .u64 r2, .int .i64 r3, .int .i64 r4, .int .i64 M, .int .i64 W, .slice A l.length c]) (blk_put (cs' := #[.int .u64 r1, .int .u64 r2, .int .i64 r3, .int .i64 L, .int .i64 M, .int .i64 W, .slice A l.length c]) (blk_put (cs' := #[.int .u64 r1, .int .u64 r2, .int .i64 E, .int .i64 L, .int .i64 M, .int .i64 W, .slice A l.length c]) (blk_put (cs' := #[.int .u64 r1, .int .u64 b, .int .i64 E, .int .i64 L, .int .i64 M, .int .i64 W, .slice A l.length c]) (D0.out) 0 _ rfl) 1 _ rfl) 2 _ rfl) 3 _ rfl) 4 _ rfl) 5 _ rfl) 6 _ rfl⟩;have E1 : Aside0 (w3.heap[w.heap.size + 1]? = some (.cells #[.int .i64 t, .string n, .int .i64 v, .string id] 29 (0, 0))) := ⟨by rw [hw]; exact blk_far (blk_far (blk_far (blk_far (blk_far (blk_far (blk_far (D1.out) (by simp only [ne_eq]; omega) _) (by simp only [ne_eq]; omega) _) (by simp only [ne_eq]; omega) _) (by simp only [ne_eq]; omega) _) (by simp only [ne_eq]; omega) _) (by simp only [ne_eq]; omega) _) (by simp only [ne_eq]; omega) _⟩;have E2 : Aside0 (w3.heap[w.heap.size + 1 + 1]? = some (.cells #[.int .u64 0, .int .u64 0, .int .i64 0, .int .i64 0, .int .i64 0, .int .i64 0, .slice none 0 0] 27 (0, 0))) := ⟨by rw [hw]; exact blk_far (blk_far (blk_far (blk_far (blk_far (blk_far (blk_far (D2.out) (by simp only [ne_eq]; omega) _) (by simp only [ne_eq]; omega) _) (by simp only [ne_eq]; omega) _) (by simp only [ne_eq]; omega) _) (by simp only [ne_eq]; omega) _) (by simp only [ne_eq]; omega) _) (by simp only [ne_eq]; omega) _⟩;have HB3 : Aside0 (Below w.heap.size w w3) := ⟨by rw [hw]; exact below_set (below_set (below_set (below_set (below_set (below_set (below_set (HB2.out) (Nat.le_refl _)) (Nat.le_refl _)) (Nat.le_refl _)) (Nat.le_refl _)) (Nat.le_refl _)) (Nat.le_refl _)) (Nat.le_refl _)⟩
    have HV3 : Aside0 (Kd.V k63 63 w3 w.heap.size (fun k_ => (P0 k_ ∧ k_ < w.heap.size) ∨ w.heap.size + 1 + 1 + 1 ≤ k_) (.slice A2 r7.length c2) r7) := ⟨by
      rw [hw]
      refine Kd.V_far (Kd.V_far (Kd.V_far (Kd.V_far (Kd.V_far (Kd.V_far (Kd.V_far (HV2.out) ?_ _) ?_ _) ?_ _) ?_ _) ?_ _) ?_ _) ?_ _ <;> (intro k_ hk; simp only [ne_eq]; rcases hk with hk | hk <;> first | omega | (have := hk.2; omega))⟩
    have hs3 : w.heap.size + 1 + 1 + 1 ≤ w3.heap.size := by rw [hw]; simp [World.setCell]; omega
    clear hw HB2 HV2 D0 D1 D2 hs2 s0 z0 s1 z1 s2 z2 s3 z3 s4 z4 s5 z5 s6 z6;have ea0 := blk_cell E0.out 0;have ea1 := blk_cell E0.out 1;have ea2 := blk_cell E0.out 2;have ea3 := blk_cell E0.out 3;have ea4 := blk_cell E0.out 4;have ea5 := blk_cell E0.out 5;have ea6 := blk_cell E0.out 6;have z6 := blk_frozen E0.out 6;have eb0 := blk_cell E1.out 0;have eb1 := blk_cell E1.out 1;have eb2 := blk_cell E1.out 2;have eb3 := blk_cell E1.out 3;have ec0 := blk_cell E2.out 0;have zc0 := blk_frozen E2.out 0;have ec1 := blk_cell E2.out 1;have zc1 := blk_frozen E2.out 1;have ec2 := blk_cell E2.out 2;have zc2 := blk_frozen E2.out 2;have ec3 := blk_cell E2.out 3;have zc3 := blk_frozen E2.out 3;have ec4 := blk_cell E2.out 4;have zc4 := blk_frozen E2.out 4;have ec5 := blk_cell E2.out 5;have zc5 := blk_frozen E2.out 5;have ec6 := blk_cell E2.out 6;have zc6 := blk_frozen E2.out 6
    )
  · have hc : t < r6 := by assumption
    have h := HH.out;rw [if_pos hc] at h
    simp only [Option.some.injEq, Prod.mk.injEq] at h
    obtain ⟨rfl, rfl, rfl, rfl, rfl, rfl, rfl⟩ := h
    have HF : Aside0 (∀ W_ : World, W_ = (((((((w3).setCell ⟨w.heap.size + 1 + 1, 0, none⟩ (.int .u64 r1)).setCell ⟨w.heap.size + 1 + 1, 1, none⟩ (.int .u64 r2)).setCell ⟨w.heap.size + 1 + 1, 2, none⟩ (.int .i64 r3)).setCell ⟨w.heap.size + 1 + 1, 3, none⟩ (.int .i64 r4)).setCell ⟨w.heap.size + 1 + 1, 4, none⟩ (.int .i64 r5)).setCell ⟨w.heap.size + 1 + 1, 5, none⟩ (.int .i64 r6)).setCell ⟨w.heap.size + 1 + 1, 6, none⟩ (.slice A2 r7.length c2) →
        W_.heap[w.heap.size + 1 + 1]? = some (.cells #[.int .u64 r1, .int .u64 r2, .int .i64 r3, .int .i64 r4, .int .i64 r5, .int .i64 r6, .slice A2 r7.length c2] 27 (0, 0)) ∧ Kd.V k63 63 W_ w.heap.size (fun k_ => (P0 k_ ∨ w.heap.size ≤ k_)) (.slice A2 r7.length c2) r7 ∧ Below w.heap.size w W_) := ⟨fun W_ hW => by
      subst hW
      refine ⟨blk_put (blk_put (cs' := #[.int .u64 r1, .int .u64 r2, .int .i64 r3, .int .i64 r4, .int .i64 r5, .int .i64 r6, .slice none 0 0]) (blk_put (cs' := #[.int .u64 r1, .int .u64 r2, .int .i64 r3, .int .i64 r4, .int .i64 r5, .int .i64 0, .slice none 0 0]) (blk_put (cs' := #[.int .u64 r1, .int .u64 r2, .int .i64 r3, .int .i64 r4, .int .i64 0, .int .i64 0, .slice none 0 0]) (blk_put (cs' := #[.int .u64 r1, .int .u64 r2, .int .i64 r3, .int .i64 0, .int .i64 0, .int .i64 0, .slice none 0 0]) (blk_put (cs' := #[.int .u64 r1, .int .u64 r2, .int .i64 0, .int .i64 0, .int .i64 0, .int .i64 0, .slice none 0 0]) (blk_put (cs' := #[.int .u64 r1, .int .u64 0, .int .i64 0, .int .i64 0, .int .i64 0, .int .i64 0, .slice none 0 0]) (E2.out) 0 _ rfl) 1 _ rfl) 2 _ rfl) 3 _ rfl) 4 _ rfl) 5 _ rfl) 6 _ rfl, ?_, below_set (below_set (below_set (below_set (below_set (below_set (below_set (HB3.out) (by omega)) (by omega)) (by omega)) (by omega)) (by omega)) (by omega)) (by omega)⟩
      refine Kd.V_mono (ok := fun k_ => (P0 k_ ∧ k_ < w.heap.size) ∨ w.heap.size + 1 + 1 + 1 ≤ k_) ?_ (fun k_ hk => by rcases hk with hk | hk; exact .inl hk.1; exact .inr (by omega))
      refine Kd.V_far (Kd.V_far (Kd.V_far (Kd.V_far (Kd.V_far (Kd.V_far (Kd.V_far (HV3.out) ?_ _) ?_ _) ?_ _) ?_ _) ?_ _) ?_ _) ?_ _ <;> (intro k_ hk; simp only [ne_eq]; rcases hk with hk | hk <;> first | omega | (have := hk.2; omega))⟩
    obtain ⟨f1, f2, f3⟩ := HF.out _ rfl
    refine bodyPost_ret (v := .agg #[.int .u64 r1, .int .u64 r2, .int .i64 r3, .int .i64 r4, .int .i64 r5, .int .i64 r6, .slice A2 r7.length c2]) ?_ rfl ⟨_, rfl, f2, f3⟩
    refine results_cell_row rfl _ _ (w.heap.size + 1 + 1) 27 _ (0, 0) _ ?_ f1 hu27 rfl ?_
    · rfl
    · kernel_rfl
  · have hc : r6 ≤ t := by assumption
    have h := HH.out;rw [if_neg (by omega)] at h;obtain ⟨u, hu0, h⟩ := Option.bind_eq_some_iff.1 h;obtain ⟨l', hl0, h⟩ := Option.bind_eq_some_iff.1 h
    simp only [Option.some.injEq, Prod.mk.injEq] at h
    obtain ⟨rfl, rfl, rfl, rfl, rfl, rfl, rfl⟩ := h;have HU := am hu0;have HL := am hl0;have HBB := am (Below.refl w3.heap.size w3);clear hu0 hl0 HH
    refine start_ (n := 10) (S := fun w' => w'.cell? ⟨w.heap.size + 1, 3, none⟩ = some (.string id) ∧ w'.cell? ⟨w.heap.size, 0, none⟩ = some (.int .u64 r1) ∧ w'.cell? ⟨w.heap.size, 1, none⟩ = some (.int .u64 r2)) (ds := [9]) #[false, false, false, false, false, false, false, false, false, false] (by kernel_rfl) rfl rfl ⟨blk_cell E1.out 3, blk_cell E0.out 0, blk_cell E0.out 1⟩ (fun hHeld => ?_)
    refine pu 0 ?_;refine pu 2 ?_;refine pu 4 ?_;refine ta 1 hHeld ?_;refine ta 3 hHeld ?_;refine ta 5 hHeld ?_
    refine join_ (σ := Nat) 1 #[true, true, true, true, true, true, true, true, true, false] (fun s_ => [(29, .int .u64 u), (30, .agg #[.string id, .int .u64 u]), (5, .pointer (some ⟨s_, 0, none⟩))]) (fun s_ w' => (w'.cell? ⟨w.heap.size + 1, 3, none⟩ = some (.string id) ∧ w'.cell? ⟨w.heap.size, 0, none⟩ = some (.int .u64 r1) ∧ w'.cell? ⟨w.heap.size, 1, none⟩ = some (.int .u64 r2)) ∧ w'.heap[s_]? = some (.cells #[.string ⟨#[]⟩, .int .u64 0] 91 (0, 0)) ∧ w3.heap.size ≤ s_ ∧ Below w3.heap.size w3 w') ?_ ?_
    rotate_left
    · intro hCont
      refine two_ (i := 6) (j := 8) (Ni := some 29) (Nj := some 5) #[true, true, true, true, true, true, true, false, false, false] #[true, true, true, true, true, true, false, false, true, false] rfl rfl rfl rfl (by kernel_rfl) (by decide) (by decide) (fun K hK => ?_) (fun K hK => ?_)
      · skip
        refine goes_ Try.func35 (by kernel_rfl) rfl #[.agg #[.int .u64 r1, .int .u64 r2], .string id] (by rfl) rfl rfl (by simp only [List.map_toArray, List.map_cons, List.map_nil]; rfl) ?_
        with_reducible refine (sip_Sum.calls k r1 r2 id u _ HU.out).mono ?_
        rintro e w9 ⟨rfl, hb3⟩
        refine ⟨_, rfl, ?_⟩
        replace HBB := am (below_step (by repeat (first | (with_reducible first | exact HBB.out | apply below_alloc | apply pw_below_drewN | apply below_drew1) | exact HBB.out)) hb3);clear hb3
        refine hK.out _ _ ⟨pw_cell_below HBB.out (blk_cell E1.out 3), pw_cell_below HBB.out (blk_cell E0.out 0), pw_cell_below HBB.out (blk_cell E0.out 1)⟩ (fun hHeld => ?_)
        clear hK K;refine nm ?_;refine pu 7 ?_
        refine on1 8 (fun K hK => ?_)
        refine bx 5 #[.string ⟨#[]⟩, .int .u64 0] 91 ?_
        intro gb hg w9 hbox hb3
        have n0_ := am (below_step (by repeat (first | (with_reducible first | exact HBB.out | apply below_alloc | apply pw_below_drewN | apply below_drew1) | exact HBB.out)) hb3);have GE : Aside0 (w3.heap.size ≤ gb) := ⟨by rw [hg]; exact HBB.out.size⟩;have BKX := am hbox;clear HBB;have HBB := n0_;clear n0_ hb3 hbox hg
        refine hK.out _ _ ⟨pw_cell_below HBB.out (blk_cell E1.out 3), pw_cell_below HBB.out (blk_cell E0.out 0), pw_cell_below HBB.out (blk_cell E0.out 1)⟩ (fun hHeld => ?_)
        clear hK K;refine nm ?_
        exact nj (hCont gb _ ⟨hHeld, BKX.out, GE.out, HBB.out⟩)
      · skip
        refine bx 5 #[.string ⟨#[]⟩, .int .u64 0] 91 ?_
        intro gb hg w9 hbox hb3
        have n0_ := am (below_step (by repeat (first | (with_reducible first | exact HBB.out | apply below_alloc | apply pw_below_drewN | apply below_drew1) | exact HBB.out)) hb3);have GE : Aside0 (w3.heap.size ≤ gb) := ⟨by rw [hg]; exact HBB.out.size⟩;have BKX := am hbox;clear HBB;have HBB := n0_;clear n0_ hb3 hbox hg
        refine hK.out _ _ ⟨pw_cell_below HBB.out (blk_cell E1.out 3), pw_cell_below HBB.out (blk_cell E0.out 0), pw_cell_below HBB.out (blk_cell E0.out 1)⟩ (fun hHeld => ?_)
        clear hK K;refine nm ?_
        refine on1 6 (fun K hK => ?_)
        refine goes_ Try.func35 (by kernel_rfl) rfl #[.agg #[.int .u64 r1, .int .u64 r2], .string id] (by rfl) rfl rfl (by simp only [List.map_toArray, List.map_cons, List.map_nil]; rfl) ?_
        with_reducible refine (sip_Sum.calls k r1 r2 id u _ HU.out).mono ?_
        rintro e w9 ⟨rfl, hb3⟩
        refine ⟨_, rfl, ?_⟩
        have n0_ := am (below_step (by repeat (first | (with_reducible first | exact HBB.out | apply below_alloc | apply pw_below_drewN | apply below_drew1) | exact HBB.out)) hb3);have n1_ := am (blk_below BKX.out hb3);clear BKX;have BKX := n1_;clear n1_ HBB;have HBB := n0_;clear n0_ hb3
        refine hK.out _ _ ⟨pw_cell_below HBB.out (blk_cell E1.out 3), pw_cell_below HBB.out (blk_cell E0.out 0), pw_cell_below HBB.out (blk_cell E0.out 1)⟩ (fun hHeld => ?_)
        clear hK K;refine nm ?_;refine pu 7 ?_
        exact nj (hCont gb _ ⟨hHeld, BKX.out, GE.out, HBB.out⟩)
    rintro gb w4 ⟨hHeld, hbk, hge, hbb⟩
    have BKX := am hbk;have GE := am hge;clear HBB;have HBB := am hbb;clear hbk hge hbb;have b0 := blk_cell BKX.out 0;have b1 := blk_cell BKX.out 1;have f0 := blk_frozen BKX.out 0;have f1 := blk_frozen BKX.out 1
    refine norm_ (a' := ?_) ?_ ?_
    rotate_left
    · simp only [putAll, Act.put, List.setIfInBounds_toArray, List.set_cons_zero, List.set_cons_succ]
      rfl
    refine last_ (i := 9) (N := none) #[true, true, true, true, true, true, true, true, true, true] rfl rfl (by kernel_rfl) (by decide) (fun K hK => ?_)
    refine skip_ (w1 := ?_) (by rfl) rfl ?_ ?_
    rotate_left
    · go_simp
      rfl
    refine hK.out _ _ ?_
    clear hK K
    refine done_ (by kernel_rfl) ?_
    have hge := GE.out;have hbs := HBB.out.size;have hlt := blk_lt BKX.out;obtain ⟨w5, hw5⟩ : ∃ w5, w5 = (w4.setCell ⟨gb, 0, none⟩ (.string id)).setCell ⟨gb, 1, none⟩ (.int .u64 u) := ⟨_, rfl⟩;have G0 : Aside0 (w5.heap[w.heap.size]? = some (.cells #[.int .u64 r1, .int .u64 r2, .int .i64 r3, .int .i64 r4, .int .i64 r5, .int .i64 r6, .slice A2 r7.length c2] 27 (0, 0))) := ⟨by rw [hw5]; exact blk_far (blk_far (blk_below E0.out HBB.out) (by simp only [ne_eq]; omega) _) (by simp only [ne_eq]; omega) _⟩;have G1 : Aside0 (w5.heap[w.heap.size + 1]? = some (.cells #[.int .i64 t, .string n, .int .i64 v, .string id] 29 (0, 0))) := ⟨by rw [hw5]; exact blk_far (blk_far (blk_below E1.out HBB.out) (by simp only [ne_eq]; omega) _) (by simp only [ne_eq]; omega) _⟩;have G2 : Aside0 (w5.heap[w.heap.size + 1 + 1]? = some (.cells #[.int .u64 0, .int .u64 0, .int .i64 0, .int .i64 0, .int .i64 0, .int .i64 0, .slice none 0 0] 27 (0, 0))) := ⟨by rw [hw5]; exact blk_far (blk_far (blk_below E2.out HBB.out) (by simp only [ne_eq]; omega) _) (by simp only [ne_eq]; omega) _⟩;have GT : Aside0 (w5.heap[gb]? = some (.cells #[.string id, .int .u64 u] 91 (0, 0))) := ⟨by rw [hw5]; exact blk_put (cs' := #[.string id, .int .u64 u]) (blk_put (cs' := #[.string id, .int .u64 0]) BKX.out 0 _ rfl) 1 _ rfl⟩;have HB5 : Aside0 (Below w.heap.size w w5) := ⟨by rw [hw5]; exact below_set (below_set (below_step HB3.out HBB.out) (by omega)) (by omega)⟩
    have HV5 : Aside0 (Kd.V k63 63 w5 w.heap.size (fun k_ => ((P0 k_ ∧ k_ < w.heap.size) ∨ w.heap.size + 1 + 1 + 1 ≤ k_) ∧ k_ < w3.heap.size) (.slice A2 r7.length c2) r7) := ⟨by
      rw [hw5]
      refine Kd.V_far (Kd.V_far (Kd.V_below (Kd.V_bound HV3.out) HBB.out) ?_ _) ?_ _ <;> (intro k_ hk; simp only [ne_eq]; have := hk.2; omega)⟩
    have hs5 : w.heap.size + 1 + 1 + 1 ≤ w5.heap.size := by have h9 : w5.heap.size = w4.heap.size := by rw [hw5]; simp [World.setCell]
                                                            omega
    rw [← hw5];clear hw5 hHeld b0 b1 f0 f1 BKX HBB GE HB3 HV3 E0 E1 E2 hge hbs hlt hs3 ea0 ec0 zc0 ea1 ec1 zc1 ea2 ec2 zc2 ea3 ec3 zc3 ea4 ec4 zc4 ea5 ec5 zc5 ea6 ec6 zc6 z6 eb0 eb1 eb2 eb3;have HW : Below w5.heap.size w5 ((w5.alloc (.cells #[.func (.func 36) #[] #[.pointer (some ⟨gb, 0, none⟩), .pointer (some ⟨w.heap.size, 0, none⟩)]] 96)).alloc (.cells #[.func (.func 40) #[] #[.pointer (some ⟨w.heap.size + 1, 0, none⟩), .pointer (some ⟨w5.heap.size, 0, none⟩)]] 99)) := below_alloc (below_alloc (Below.refl _ _) _) _
    have ga : ∀ o, (w5.alloc o).cell? ⟨w.heap.size, 6, none⟩ = some (.slice A2 r7.length c2) := fun o => pw_cell_below (below_alloc (Below.refl _ _) o) (blk_cell G0.out 6)
    have ga6 := pw_cell_below HW (blk_cell G0.out 6);have ga2 := pw_cell_below HW (blk_cell G0.out 2);have gb0 := pw_cell_below HW (blk_cell G1.out 0);have HWW := am HW;clear HW ga;have ec : ∀ args w, (callFunc 30 args).run Try.prog w = .ok (.enter 30 args) w := enter_at Try.func30 (by kernel_rfl) rfl;have ei : ∀ args w, (callFunc 43 args).run Try.prog w = .ok (.enter 43 args) w := enter_at Try.func43 (by kernel_rfl) rfl
    go_wp2_with fail
    obtain ⟨w6, hw6⟩ : ∃ w6, w6 = (w5.alloc (.cells #[.func (.func 36) #[] #[.pointer (some ⟨gb, 0, none⟩), .pointer (some ⟨w.heap.size, 0, none⟩)]] 96)).alloc (.cells #[.func (.func 40) #[] #[.pointer (some ⟨w.heap.size + 1, 0, none⟩), .pointer (some ⟨w5.heap.size, 0, none⟩)]] 99) := ⟨_, rfl⟩;have HB6 : Aside0 (Below w5.heap.size w5 w6) := ⟨by rw [hw6]; exact HWW.out⟩;have HI6 : Aside0 (w6.heap[w5.heap.size]? = some (.cells #[.func (.func 36) #[] #[.pointer (some ⟨gb, 0, none⟩), .pointer (some ⟨w.heap.size, 0, none⟩)]] 96 (0, 0))) := ⟨by rw [hw6]; exact blk_alloc (blk_new _ _) _⟩;have HL6 : Aside0 (w6.heap[w5.heap.size + 1]? = some (.cells #[.func (.func 40) #[] #[.pointer (some ⟨w.heap.size + 1, 0, none⟩), .pointer (some ⟨w5.heap.size, 0, none⟩)]] 99 (0, 0))) := ⟨by rw [hw6]; exact blk_newAt3 _ _ (by simp)⟩;rw [← hw6] at ga6 ga2 gb0 ⊢;clear hw6 HWW;have hs6 := HB6.out.size
    refine (PutEp_calls 30 43 #[.pointer (some ⟨w.heap.size + 1, 0, none⟩), .pointer (some ⟨w.heap.size, 0, none⟩), .pointer (some ⟨w5.heap.size + 1, 0, none⟩)] ec ei (fun e => pEp e ⟨t, []⟩) (inEp k r1 r2 r4 r5 v n ⟨id, u⟩) _ (fun _ => False) A2 c2 r7 ⟨t, []⟩ none 0 r3 l' w6 (Kd.V_mk (Kd.V_reads' HV5.out).2.1 (Kd.F_below (Kd.V_F HV5.out) HB6.out)) (Nat.le_refl 0) (Kd.F_nil _ _ _) (fun W y Ay1 cy1 cc hb hly1 hCy1 hc => t_byEpoch.calls _ Ay1 cy1 _ _ none 0 [] cc W hCy1 hly1 (Kd.C_nil _ _) (Nat.le_refl 0) hc) (fun W_ y Ay1 cy1 y' PY hb hly1 hFy1 hy => by simpa using C43_calls k r1 r2 r3 r4 r5 r6 (.slice A2 r7.length c2) ⟨id, u⟩ t v n id gb w.heap.size (w.heap.size + 1) w5.heap.size (w5.heap.size + 1) y Ay1 cy1 y' PY W_ (blk_below (blk_below GT.out HB6.out) hb) (blk_below (blk_below G0.out HB6.out) hb) (blk_below (blk_below G1.out HB6.out) hb) (blk_below HI6.out hb) (blk_below HL6.out hb) hly1 hFy1 hy) HL.out).mono ?_
    rintro e w7 ⟨v8, rfl, hv8, hb7⟩
    obtain ⟨A8, c8, rfl⟩ := Kd.V_slice hv8;have K0 := am (blk_below (blk_below G0.out HB6.out) hb7);have K2 := am (blk_below (blk_below G2.out HB6.out) hb7);have HB7 := am (below_step (below_step HB5.out HB6.out) hb7);have HV7 : Aside0 (Kd.V k63 63 w7 w.heap.size (fun k_ => (P0 k_ ∧ k_ < w.heap.size) ∨ w.heap.size + 1 + 1 + 1 ≤ k_) (.slice A8 l'.length c8) l') := ⟨Kd.V_mk (Kd.V_reads' hv8).2.1 (Kd.F_mono (Kd.V_F hv8) (fun k_ hk => by rcases hk with (hk | hk) | hk; exact hk.1; exact hk.elim; exact .inr (by omega)))⟩;clear hv8 hb7 ga6 ga2 gb0 HI6 HL6 HB6 HV5 HB5 G0 G1 G2 GT HU HL;have k0 := blk_cell K0.out 0;have k1 := blk_cell K0.out 1;have k2 := blk_cell K0.out 2;have k3 := blk_cell K0.out 3;have k4 := blk_cell K0.out 4;have k5 := blk_cell K0.out 5;have k6 := blk_cell K0.out 6;have zk6 := blk_frozen K0.out 6;have m0 := blk_cell K2.out 0;have zm0 := blk_frozen K2.out 0;have m1 := blk_cell K2.out 1;have zm1 := blk_frozen K2.out 1;have m2 := blk_cell K2.out 2;have zm2 := blk_frozen K2.out 2;have m3 := blk_cell K2.out 3;have zm3 := blk_frozen K2.out 3;have m4 := blk_cell K2.out 4;have zm4 := blk_frozen K2.out 4;have m5 := blk_cell K2.out 5;have zm5 := blk_frozen K2.out 5;have m6 := blk_cell K2.out 6;have zm6 := blk_frozen K2.out 6
    have HF : Aside0 (∀ W_ : World, W_ = (((((((w7.setCell ⟨w.heap.size, 6, none⟩ (.slice A8 l'.length c8)).setCell ⟨w.heap.size + 1 + 1, 0, none⟩ (.int .u64 r1)).setCell ⟨w.heap.size + 1 + 1, 1, none⟩ (.int .u64 r2)).setCell ⟨w.heap.size + 1 + 1, 2, none⟩ (.int .i64 r3)).setCell ⟨w.heap.size + 1 + 1, 3, none⟩ (.int .i64 r4)).setCell ⟨w.heap.size + 1 + 1, 4, none⟩ (.int .i64 r5)).setCell ⟨w.heap.size + 1 + 1, 5, none⟩ (.int .i64 r6)).setCell ⟨w.heap.size + 1 + 1, 6, none⟩ (.slice A8 l'.length c8) →
        W_.heap[w.heap.size + 1 + 1]? = some (.cells #[.int .u64 r1, .int .u64 r2, .int .i64 r3, .int .i64 r4, .int .i64 r5, .int .i64 r6, .slice A8 l'.length c8] 27 (0, 0)) ∧ Kd.V k63 63 W_ w.heap.size (fun k_ => (P0 k_ ∨ w.heap.size ≤ k_)) (.slice A8 l'.length c8) l' ∧ Below w.heap.size w W_) := ⟨fun W_ hW => by
      subst hW
      refine ⟨blk_put (blk_put (cs' := #[.int .u64 r1, .int .u64 r2, .int .i64 r3, .int .i64 r4, .int .i64 r5, .int .i64 r6, .slice none 0 0]) (blk_put (cs' := #[.int .u64 r1, .int .u64 r2, .int .i64 r3, .int .i64 r4, .int .i64 r5, .int .i64 0, .slice none 0 0]) (blk_put (cs' := #[.int .u64 r1, .int .u64 r2, .int .i64 r3, .int .i64 r4, .int .i64 0, .int .i64 0, .slice none 0 0]) (blk_put (cs' := #[.int .u64 r1, .int .u64 r2, .int .i64 r3, .int .i64 0, .int .i64 0, .int .i64 0, .slice none 0 0]) (blk_put (cs' := #[.int .u64 r1, .int .u64 r2, .int .i64 0, .int .i64 0, .int .i64 0, .int .i64 0, .slice none 0 0]) (blk_put (cs' := #[.int .u64 r1, .int .u64 0, .int .i64 0, .int .i64 0, .int .i64 0, .int .i64 0, .slice none 0 0]) ((blk_far K2.out (by simp only [ne_eq]; omega) _)) 0 _ rfl) 1 _ rfl) 2 _ rfl) 3 _ rfl) 4 _ rfl) 5 _ rfl) 6 _ rfl, ?_, below_set (below_set (below_set (below_set (below_set (below_set (below_set (below_set HB7.out (Nat.le_refl _)) (by omega)) (by omega)) (by omega)) (by omega)) (by omega)) (by omega)) (by omega)⟩
      refine Kd.V_mono (ok := fun k_ => (P0 k_ ∧ k_ < w.heap.size) ∨ w.heap.size + 1 + 1 + 1 ≤ k_) ?_ (fun k_ hk => by rcases hk with hk | hk; exact .inl hk.1; exact .inr (by omega))
      refine Kd.V_far (Kd.V_far (Kd.V_far (Kd.V_far (Kd.V_far (Kd.V_far (Kd.V_far (Kd.V_far (HV7.out) ?_ _) ?_ _) ?_ _) ?_ _) ?_ _) ?_ _) ?_ _) ?_ _ <;> (intro k_ hk; simp only [ne_eq]; rcases hk with hk | hk <;> first | omega | (have := hk.2; omega))⟩
    go_wp2
    obtain ⟨f1, f2, f3⟩ := HF.out _ rfl
    refine bodyPost_ret (v := .agg #[.int .u64 r1, .int .u64 r2, .int .i64 r3, .int .i64 r4, .int .i64 r5, .int .i64 r6, .slice A8 l'.length c8]) ?_ rfl ⟨_, rfl, f2, f3⟩
    refine results_cell_row rfl _ _ (w.heap.size + 1 + 1) 27 _ (0, 0) _ ?_ f1 hu27 rfl ?_
    · rfl
    · kernel_rfl
end Go.Proofs.Ytagcobdpojeiiaa.H
