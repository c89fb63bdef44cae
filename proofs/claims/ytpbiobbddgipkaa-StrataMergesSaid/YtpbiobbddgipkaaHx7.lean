import Derived.Test.YtpbiobbddgipkaaHx4
namespace Go.Proofs.Ytpbiobbddgipkaa.H
open Go.RowKit Go.Proofs.YtpbiobbddgipkaaW.PrintWords Go.Proofs.YtpbiobbddgipkaaW.PrintLast Go.Proofs.YtpbiobbddgipkaaW.PrintMore Go.Proofs.YtpbiobbddgipkaaW.Sq
attribute [local go_sem] max2_int min2_int max_two min_two max_three min_three max_four min_four
set_option linter.unusedVariables false
set_option linter.unusedSimpArgs false
set_option maxHeartbeats 400000000
set_option maxRecDepth 100000

def b_Entry_47.f (a : List S87) : Option (List S87) := if a.length < 1099511627776 then some a else none
theorem b_Entry_47.calls (A0 : Option Addr) (c0 : Nat) (l0 r : List S87) (w : World) (aa : Kd.C k87 w A0 l0.length l0) (ae : l0.length ≤ c0) (h : b_Entry_47.f l0 = some r) :
  Calls Try.prog 47 #[.slice A0 l0.length c0] w fun e w' => ∃ ac : Value, e = .returned ac ∧ Kd.R k87 87 w' w.heap.size (fun _ => True) ac r ∧ Below w.heap.size w w' := by
 unfold b_Entry_47.f at h
 by_cases hl : l0.length < 1099511627776
 case neg => rw [if_neg hl] at h; cases h
 rw [if_pos hl] at h;obtain rfl := Option.some.inj h;clear h;have HR := am aa;have HL := am (show l0.length * 40 ≤ 140737488355328 by omega);clear hl
 cases A0 with
 | none =>
  have h0 : l0 = [] := by
   rcases Nat.eq_zero_or_pos l0.length with h0 | h0
   ·exact List.eq_nil_of_length_eq_zero h0
   ·obtain ⟨ad, he, _⟩ := aa.2.2 h0;cases he
  clear aa HL;subst h0
  have HE : ∀ W : World, (binOp .eql 38 (.slice none 0 c0) (.slice none 0 0)).run Try.prog W = .ok (.bool true) W := fun W => Lib.run_eql_slice_nil W 38 87 none _ c0 0 0 Try.underlying38
  go_enter Try.func47, Try.ntmps47;go_wp2;go_ret;exact ⟨_, rfl, Kd.R_nil _ _ _ _ _, Below.refl _ _⟩
 | some ad =>
  clear aa
  have HE : ∀ W : World, (binOp .eql 38 (.slice (some ad) l0.length c0) (.slice none 0 0)).run Try.prog W = .ok (.bool false) W := fun W => Lib.run_eql_slice_nil W 38 87 (some ad) l0.length c0 0 0 Try.underlying38
  go_enter Try.func47, Try.ntmps47;go_wp2_with (((with_reducible refine gate_builtin (b := .append) (xs := #[.tmp 5, .tmp 6]) rfl ?_); at_builtin; refine Kd.R_append_rows k87 (Rr := k87.K w) (w0 := w) w.heap.size rfl (.tmp 5) (.tmp 6) 38 87 (.agg #[.string ⟨#[]⟩, .int .u64 0, .int .u64 0, .int .u64 0]) 40 rfl Try.underlying38 (by kernel_rfl) rfl (by decide) (by omega) (.slice (some ⟨w.heap.size, 0, none⟩) 0 0) [] l0 (some ad) l0.length c0 (fun _ => True) (fun k_ => k_ ≠ w.heap.size) rfl rfl ?aO ?aC ?aK ?aP ?aF ?aB ?aS ?aL ?_; (case aO => exact ⟨fun _ _ => trivial, [], World.ownsRow_lit (base := w.heap.size) (e := 87) (size := 4) w #[] 0 (Nat.le_refl _) (by decide) rfl, Reps.none _ _⟩); (case aC => exact Kd.C_below HR.out (below_alloc (Below.refl _ _) _)); (case aK => intro x cs hK; obtain rfl := k87_open hK; exact k87_mkM _ _ _ x); (case aP => exact fun k_ hk_ => ⟨trivial, fun e => hk_ (by simpa [Value.ownBlock] using e)⟩); (case aF => exact fun _ _ => trivial); (case aB => exact below_alloc (Below.refl _ _) _); (case aS => exact (below_alloc (Below.refl _ _) _).size); (case aL => simpa using HL.out); intro v1 w1 hr hb hg hat; have HN1 := am hr; have HB1 := am hb; clear hr hb hg hat));go_ret;exact ⟨_, rfl, by have h := HN1.out; rwa [List.nil_append] at h, HB1.out⟩
theorem enter_at {P : Program} {f : FuncId} {fn : Func} {c : Code} (hf : P.funcs[f]? = some fn) (hn : (fn.name == "runtime.NumGoroutine") = false) (hb : fn.body = some c) (args : Array Value) (w : World) : (callFunc f args).run P w = .ok (.enter f args) w := by
 have h1 : fn.name ≠ "runtime.NumGoroutine" := by simpa using hn
 simp [callFunc, hf, h1, hb, mark]
def idxF {α : Type} (p : α → Option Bool) : List α → Int → Option Int
 | [], _ => some (-1)
 | x :: l, i => (p x).bind fun b => if b = true then some i else idxF p l (i + 1)
theorem idxF_at {α : Type} (p : α → Option Bool) (l : List α) (d : α) (i : Int) (h0 : 0 ≤ i) (h1 : i < l.length) (r : Int) (h : idxF p (l.drop i.toNat) i = some r) :
  ∃ b, p (l.getD i.toNat d) = some b ∧ ((b = true ∧ r = i) ∨ (b = false ∧ idxF p (l.drop (i + 1).toNat) (i + 1) = some r)) := by
 have hn : i.toNat < l.length := by omega
 rw [List.drop_eq_getElem_cons hn, idxF, Option.bind_eq_some_iff] at h;obtain ⟨b, hb, h⟩ := h;refine ⟨b, by rw [List.getD_eq_getElem?_getD, List.getElem?_eq_getElem hn]; exact hb, ?_⟩
 cases b with
 | true => exact .inl ⟨rfl, by simpa using h.symm⟩
 | false => exact .inr ⟨rfl, by rw [show (i + 1).toNat = i.toNat + 1 from by omega]; simpa using h⟩
theorem idxF_end {α : Type} (p : α → Option Bool) (l : List α) (i : Int) (h1 : ¬ i < l.length) (r : Int) (h : idxF p (l.drop i.toNat) i = some r) : r = -1 := by
 rw [List.drop_of_length_le (by omega), idxF] at h;exact (Option.some.inj h).symm
def anyF {α : Type} (p : α → Option Bool) (l : List α) : Option Bool := (idxF p l 0).bind fun i => some (decide (i ≥ 0))
theorem idxF_leo {α : Type} {p q : α → Option Bool} (h : ∀ x, LeO (p x) (q x)) : ∀ (l : List α) (i : Int), LeO (idxF p l i) (idxF q l i)
 | [], _ => LeO.refl _
 | x :: l, i => LeO.bind (h x) (fun b => LeO.ite (LeO.refl _) (idxF_leo h l (i + 1)))
theorem anyF_leo {α : Type} {p q : α → Option Bool} (h : ∀ x, LeO (p x) (q x)) (l : List α) : LeO (anyF p l) (anyF q l) := LeO.bind (idxF_leo h l 0) (fun _ => LeO.refl _)
def bsF {α : Type} (p : α → Option Int) (l : List α) (d : α) : Nat → Int → Int → Option Int
 | 0, i, j => if i < j then none else some i
 | n + 1, i, j => if i < j then (p (l.getD ((i + j) / 2).toNat d)).bind fun c => if c < 0 then bsF p l d n ((i + j) / 2 + 1) j else bsF p l d n i ((i + j) / 2) else some i
def bsT {α : Type} (p : α → Option Int) (l : List α) (d : α) : Option (Int × Bool) :=
 (bsF p l d l.length 0 l.length).bind fun i => if i < l.length then (p (l.getD i.toNat d)).bind fun c => some (i, decide (c = 0)) else some (i, false)
theorem bsF_leo {α : Type} {p q : α → Option Int} (h : ∀ x, LeO (p x) (q x)) (l : List α) (d : α) : ∀ n i j, LeO (bsF p l d n i j) (bsF q l d n i j)
 | 0, _, _ => LeO.refl _
 | n + 1, _, _ => LeO.ite (LeO.bind (h _) (fun c => LeO.ite (bsF_leo h l d n _ _) (bsF_leo h l d n _ _))) (LeO.refl _)
theorem bsT_leo {α : Type} {p q : α → Option Int} (h : ∀ x, LeO (p x) (q x)) (l : List α) (d : α) : LeO (bsT p l d) (bsT q l d) :=
 LeO.bind (bsF_leo h l d _ _ _) (fun _ => LeO.ite (LeO.bind (h _) (fun _ => LeO.refl _)) (LeO.refl _))
theorem bsF_step {α : Type} {p : α → Option Int} {l : List α} {d : α} {n : Nat} {i j r : Int} (h : bsF p l d n i j = some r) (hij : i < j) :
  ∃ m c, n = m + 1 ∧ p (l.getD ((i + j) / 2).toNat d) = some c ∧ ((c < 0 ∧ bsF p l d m ((i + j) / 2 + 1) j = some r) ∨ (¬ c < 0 ∧ bsF p l d m i ((i + j) / 2) = some r)) := by
 cases n with
 | zero => rw [bsF, if_pos hij] at h; cases h
 | succ m =>
  rw [bsF, if_pos hij, Option.bind_eq_some_iff] at h;obtain ⟨c, hc, h⟩ := h;refine ⟨m, c, rfl, hc, ?_⟩
  split at h
  ·exact .inl ⟨by assumption, h⟩
  ·exact .inr ⟨by assumption, h⟩
theorem bsF_end {α : Type} {p : α → Option Int} {l : List α} {d : α} {n : Nat} {i j r : Int} (h : bsF p l d n i j = some r) (hij : ¬ i < j) : r = i := by
 cases n <;> (rw [bsF, if_neg hij] at h; exact (Option.some.inj h).symm)
theorem BinarySearchFunc_calls (g : Nat) (lb : Array Value) (eg : ∀ args w, (callFunc g args).run Try.prog w = .ok (.enter g args) w) (p : S87 → Option Int) (x0 : ByteArray) (x1 x2 x3 : Int) (A0 : Option Addr) (c0 : Nat) (l0 : List S87) (r : Int) (b : Bool) (w : World)
  (hr0 : Kd.C k87 w A0 l0.length l0) (hc0 : l0.length ≤ c0) (hn : l0.length < 4611686018427387904)
  (hp : ∀ (W : World) (y : S87) (c : Int), Below w.heap.size w W → p y = some c → Calls Try.prog g (#[.agg #[.string y.f0, .int .u64 y.f1, .int .u64 y.f2.f0, .int .u64 y.f2.f1], .agg #[.string x0, .int .u64 x1, .int .u64 x2, .int .u64 x3]] ++ lb) W fun e w' => e = .returned (.int .i64 c) ∧ Below W.heap.size W w')
  (h : bsT p l0 z87 = some (r, b)) :
  Calls Try.prog 48 #[.slice A0 l0.length c0, .agg #[.string x0, .int .u64 x1, .int .u64 x2, .int .u64 x3], .func (.func g) #[] lb] w fun e w' => e = .returned (.tuple #[.int .i64 r, .bool b]) ∧ Below w.heap.size w w' := by
 obtain ⟨r0, h1, h2⟩ := Option.bind_eq_some_iff.1 h;clear h;have H1 := am h1;clear h1;have H2 := am h2;clear h2;have HP := am hp;clear hp;have HR := am hr0;clear hr0;have hu := Try.underlying87;go_enter Try.func48, Try.ntmps48;go_wp2
 go_loopg [9, 10] l0.length (fun gg s9 s10 wr => ∃ i j : Nat, s9 = .int .i64 i ∧ s10 = .int .i64 j ∧ i ≤ j ∧ j ≤ l0.length ∧ j - i ≤ gg ∧ Aside0 (Below w.heap.size w wr) ∧ Aside0 (wr.heap[w.heap.size]? = some (.cells #[.string x0, .int .u64 x1, .int .u64 x2, .int .u64 x3] 87 (0, 0))) ∧ Aside0 (∃ n, bsF p l0 z87 n i j = some r0))
 case atStart => exact ⟨0, l0.length, rfl, rfl, by omega, by omega, by omega, ⟨below_alloc (Below.refl _ w) _⟩, ⟨blk_new _ _⟩, ⟨_, H1.out⟩⟩
 case round =>
  clear H1;obtain ⟨i, j, rfl, rfl, hij, hjl, hg, BW, BX, HH⟩ := hrel;have hb : w.heap.size < wr.heap.size := blk_lt BX.out;have xc0 := blk_cell BX.out 0;have xc1 := blk_cell BX.out 1;have xc2 := blk_cell BX.out 2;have xc3 := blk_cell BX.out 3
  by_cases hlt : i < j
  ·obtain ⟨n, hF⟩ := HH.out;clear HH;obtain ⟨m, c, rfl, hc, hn'⟩ := bsF_step hF (by omega);have HN := am hn';clear hn' hF
   have e2 : ((i : Int) + (j : Int)) / 2 = (((i + j) / 2 : Nat) : Int) := by omega
   rw [e2] at hc HN;rw [show (((i + j) / 2 : Nat) : Int).toNat = (i + j) / 2 from by omega] at hc
   have hh : (i + j) / 2 < l0.length := by omega
   have hq1 : i ≤ (i + j) / 2 := by omega
   have hq2 : (i + j) / 2 < j := by omega
   obtain ⟨ad, e, hx0, hx1, hx2, hx3⟩ := at_T87 (Kd.C_below HR.out BW.out) (((i + j) / 2 : Nat) : Int) (by omega) (by omega);cases e
   simp only [Int.toNat_natCast] at hx0 hx1 hx2 hx3;have HC := am (HP.out wr.drew (rd_T87 l0 (((i + j) / 2 : Nat) : Int)) c (below_drew1 BW.out) hc);clear hc;have E2 := am e2;clear e2
   by_cases hc0 : c < 0
   ·have d0 : decide (c < 0) = true := decide_eq_true hc0;go_wp2_with fail;rw [E2.out];clear E2;generalize (i + j) / 2 = q at *
    go_region_held3 (fun w' => w'.cell? ⟨w.heap.size, 0, none⟩ = some (.string x0) ∧ w'.cell? ⟨w.heap.size, 1, none⟩ = some (.int .u64 x1) ∧ w'.cell? ⟨w.heap.size, 2, none⟩ = some (.int .u64 x2) ∧ w'.cell? ⟨w.heap.size, 3, none⟩ = some (.int .u64 x3) ∧ w'.cell? (ad.add (q * 4)) = some (.string (rd_T87 l0 q).f0) ∧ w'.cell? ⟨(ad.add (q * 4)).block, (ad.add (q * 4)).off + 1, none⟩ = some (.int .u64 (rd_T87 l0 q).f1) ∧ w'.cell? ⟨(ad.add (q * 4)).block, (ad.add (q * 4)).off + 2, none⟩ = some (.int .u64 (rd_T87 l0 q).f2.f0) ∧ w'.cell? ⟨(ad.add (q * 4)).block, (ad.add (q * 4)).off + 3, none⟩ = some (.int .u64 (rd_T87 l0 q).f2.f1)) (go_keep) ((refine HC.out.mono ?_; rintro e w' ⟨rfl, hb'⟩; have yhx0 := (hb'.cell (World.block_lt_of_cell? wr.drew _ hx0)).trans hx0; have yhx1 := (hb'.cell (World.block_lt_of_cell? wr.drew _ hx1)).trans hx1; have yhx2 := (hb'.cell (World.block_lt_of_cell? wr.drew _ hx2)).trans hx2; have yhx3 := (hb'.cell (World.block_lt_of_cell? wr.drew _ hx3)).trans hx3; have yxc0 := (hb'.cell (World.block_lt_of_cell? wr.drew _ xc0)).trans xc0; have yxc1 := (hb'.cell (World.block_lt_of_cell? wr.drew _ xc1)).trans xc1; have yxc2 := (hb'.cell (World.block_lt_of_cell? wr.drew _ xc2)).trans xc2; have yxc3 := (hb'.cell (World.block_lt_of_cell? wr.drew _ xc3)).trans xc3))
    go_wp2
    go_roundg (j - (q + 1))
    case measure => omega
    case rel => exact ⟨q + 1, j, by simp, rfl, by omega, hjl, Nat.le_refl _, ⟨below_then (below_drew1 BW.out) (below_drew1 BW.out).size hb'⟩, ⟨blk_below (blk_drew BX.out) hb'⟩, ⟨m, by rcases HN.out with h | h <;> first | exact h.2 | exact absurd hc0 (by omega)⟩⟩
   ·have d0 : decide (c < 0) = false := decide_eq_false hc0;go_wp2_with fail;rw [E2.out];clear E2;generalize (i + j) / 2 = q at *
    go_region_held3 (fun w' => w'.cell? ⟨w.heap.size, 0, none⟩ = some (.string x0) ∧ w'.cell? ⟨w.heap.size, 1, none⟩ = some (.int .u64 x1) ∧ w'.cell? ⟨w.heap.size, 2, none⟩ = some (.int .u64 x2) ∧ w'.cell? ⟨w.heap.size, 3, none⟩ = some (.int .u64 x3) ∧ w'.cell? (ad.add (q * 4)) = some (.string (rd_T87 l0 q).f0) ∧ w'.cell? ⟨(ad.add (q * 4)).block, (ad.add (q * 4)).off + 1, none⟩ = some (.int .u64 (rd_T87 l0 q).f1) ∧ w'.cell? ⟨(ad.add (q * 4)).block, (ad.add (q * 4)).off + 2, none⟩ = some (.int .u64 (rd_T87 l0 q).f2.f0) ∧ w'.cell? ⟨(ad.add (q * 4)).block, (ad.add (q * 4)).off + 3, none⟩ = some (.int .u64 (rd_T87 l0 q).f2.f1)) (go_keep) ((refine HC.out.mono ?_; rintro e w' ⟨rfl, hb'⟩; have yhx0 := (hb'.cell (World.block_lt_of_cell? wr.drew _ hx0)).trans hx0; have yhx1 := (hb'.cell (World.block_lt_of_cell? wr.drew _ hx1)).trans hx1; have yhx2 := (hb'.cell (World.block_lt_of_cell? wr.drew _ hx2)).trans hx2; have yhx3 := (hb'.cell (World.block_lt_of_cell? wr.drew _ hx3)).trans hx3; have yxc0 := (hb'.cell (World.block_lt_of_cell? wr.drew _ xc0)).trans xc0; have yxc1 := (hb'.cell (World.block_lt_of_cell? wr.drew _ xc1)).trans xc1; have yxc2 := (hb'.cell (World.block_lt_of_cell? wr.drew _ xc2)).trans xc2; have yxc3 := (hb'.cell (World.block_lt_of_cell? wr.drew _ xc3)).trans xc3))
    go_wp2
    go_roundg (q - i)
    case measure => omega
    case rel => exact ⟨i, q, rfl, by simp, by omega, by omega, Nat.le_refl _, ⟨below_then (below_drew1 BW.out) (below_drew1 BW.out).size hb'⟩, ⟨blk_below (blk_drew BX.out) hb'⟩, ⟨m, by rcases HN.out with h | h <;> first | exact h.2 | exact absurd h.1 (by omega)⟩⟩
  ·obtain rfl : j = i := by omega
   obtain ⟨n, hF⟩ := HH.out;clear HH;have er := bsF_end hF (by omega);subst er;clear hF
   by_cases hl : j < l0.length
   ·have h2 := H2.out;clear H2;rw [if_pos (by omega), Option.bind_eq_some_iff] at h2;obtain ⟨c, hc, h2⟩ := h2;rw [Int.toNat_natCast] at hc;simp only [Option.some.injEq, Prod.mk.injEq] at h2
    obtain ⟨rfl, rfl⟩ := h2;obtain ⟨ad, e, hx0, hx1, hx2, hx3⟩ := at_T87 (Kd.C_below HR.out BW.out) (j : Int) (by omega) (by omega);cases e
    simp only [Int.toNat_natCast] at hx0 hx1 hx2 hx3;have HC := am (HP.out wr.drew (rd_T87 l0 (j : Int)) c (below_drew1 BW.out) hc);clear hc;have d0 : decide ((j : Int) < (l0.length : Int)) = true := decide_eq_true (by omega);go_wp2_with fail
    go_region_held3 (fun w' => w'.cell? ⟨w.heap.size, 0, none⟩ = some (.string x0) ∧ w'.cell? ⟨w.heap.size, 1, none⟩ = some (.int .u64 x1) ∧ w'.cell? ⟨w.heap.size, 2, none⟩ = some (.int .u64 x2) ∧ w'.cell? ⟨w.heap.size, 3, none⟩ = some (.int .u64 x3) ∧ w'.cell? (ad.add (j * 4)) = some (.string (rd_T87 l0 j).f0) ∧ w'.cell? ⟨(ad.add (j * 4)).block, (ad.add (j * 4)).off + 1, none⟩ = some (.int .u64 (rd_T87 l0 j).f1) ∧ w'.cell? ⟨(ad.add (j * 4)).block, (ad.add (j * 4)).off + 2, none⟩ = some (.int .u64 (rd_T87 l0 j).f2.f0) ∧ w'.cell? ⟨(ad.add (j * 4)).block, (ad.add (j * 4)).off + 3, none⟩ = some (.int .u64 (rd_T87 l0 j).f2.f1)) (go_keep) ((refine HC.out.mono ?_; rintro e w' ⟨rfl, hb'⟩; have yhx0 := (hb'.cell (World.block_lt_of_cell? wr.drew _ hx0)).trans hx0; have yhx1 := (hb'.cell (World.block_lt_of_cell? wr.drew _ hx1)).trans hx1; have yhx2 := (hb'.cell (World.block_lt_of_cell? wr.drew _ hx2)).trans hx2; have yhx3 := (hb'.cell (World.block_lt_of_cell? wr.drew _ hx3)).trans hx3; have yxc0 := (hb'.cell (World.block_lt_of_cell? wr.drew _ xc0)).trans xc0; have yxc1 := (hb'.cell (World.block_lt_of_cell? wr.drew _ xc1)).trans xc1; have yxc2 := (hb'.cell (World.block_lt_of_cell? wr.drew _ xc2)).trans xc2; have yxc3 := (hb'.cell (World.block_lt_of_cell? wr.drew _ xc3)).trans xc3))
    go_wp2;go_ret2;exact ⟨rfl, below_then (below_drew1 BW.out) (below_drew1 BW.out).size hb'⟩
   ·have h2 := H2.out;clear H2;rw [if_neg (by omega)] at h2;simp only [Option.some.injEq, Prod.mk.injEq] at h2;obtain ⟨rfl, rfl⟩ := h2;have d0 : decide ((j : Int) < (l0.length : Int)) = false := decide_eq_false (by omega);go_wp2
    go_region
    go_wp2;go_ret2;exact ⟨rfl, below_drew1 BW.out⟩


def wide_kept.f (a b : Int) (c : Bool) : Option (Int × Int × Bool) := if c = true then (some (0, 0, false)) else (some (a, b, true))
theorem wide_kept.calls (ad ae : Int) (a1 : Bool) (r1 r2 : Int) (r3 : Bool) (w : World) (h : wide_kept.f ad ae a1 = some (r1, r2, r3)) :
  Calls Try.prog 63 #[.agg #[.int .u64 ad, .int .u64 ae], .bool a1] w fun e w' => e = .returned (.tuple #[.agg #[.int .u64 r1, .int .u64 r2], .bool r3]) ∧ Below w.heap.size w w' := by
 have hu65 := Try.underlying65;have HB := am (Below.refl w.heap.size w);unfold wide_kept.f at h;have H := h;clear h
 by_cases c3 : a1 = true
 ·subst c3;rw [if_pos rfl] at H;obtain ⟨rfl, rfl, rfl⟩ := J3 H;go_enter Try.func63, Try.ntmps63;go_wp2_with (first | (refine bE 2 #[.int .u64 ad, .int .u64 ae] 65 ?_; intro ai hg w4 aa hb; have aj := gq hg HB; replace HB := lb HB hb; clear hb hg) | (refine bE 4 #[.int .u64 0, .int .u64 0] 65 ?_; intro af hg w5 ac hb; have ak := gq hg HB; replace HB := lb HB hb; obtain ⟨ag, ah, au, av⟩ := pm hg aa; replace aa := kb aa hb; clear hb hg; have ap := g2 ac));refine bodyPost_ret (results_ct rfl _ _ _ _ _ _ _ rfl (s2 rfl ac).out Try.underlying65 rfl (by kernel_rfl)) rfl ?_;exact ey (h := pb HB)
 replace c3 := nt c3;subst c3;rw [if_neg nf] at H;obtain ⟨rfl, rfl, rfl⟩ := J3 H;go_enter Try.func63, Try.ntmps63;go_wp2_with (first | (refine bE 2 #[.int .u64 ad, .int .u64 ae] 65 ?_; intro ai hg w8 aa hb; have aj := gq hg HB; replace HB := lb HB hb; clear hb hg) | (refine bE 4 #[.int .u64 0, .int .u64 0] 65 ?_; intro af hg w9 ac hb; have ak := gq hg HB; replace HB := lb HB hb; obtain ⟨ag, ah, aq, ar⟩ := pm hg aa; replace aa := kb aa hb; clear hb hg; have an := g2 aa; have ao := g2 ac));refine bodyPost_ret (results_ct rfl _ _ _ _ _ _ _ rfl (s2 rfl ac).out Try.underlying65 rfl (by kernel_rfl)) rfl ?_;exact ey (h := pb HB)
def wide_Add.f (a b c d : Int) : Option (Int × Int × Bool) :=
 if 0 ≤ a ∧ a < 18446744073709551616 ∧ 0 ≤ b ∧ b < 18446744073709551616 ∧ 0 ≤ c ∧ c < 18446744073709551616 ∧ 0 ≤ d ∧ d < 18446744073709551616 then
  (if a + c + (b + d) / 18446744073709551616 < 18446744073709551616 then some (a + c + (b + d) / 18446744073709551616, (b + d) % 18446744073709551616, true) else some (0, 0, false)) else none
theorem blk_newAt3 (w : World) (o : Obj) {g : Nat} (h : g = w.heap.size) : (w.alloc o).heap[g]? = some o := by subst h; exact blk_new _ _
theorem wide_Add.calls (ad aa ae ac r1 r2 : Int) (r3 : Bool) (w : World) (h : wide_Add.f ad aa ae ac = some (r1, r2, r3)) :
  Calls Try.prog 49 #[.agg #[.int .u64 ad, .int .u64 aa], .agg #[.int .u64 ae, .int .u64 ac]] w fun e w' => e = .returned (.tuple #[.agg #[.int .u64 r1, .int .u64 r2], .bool r3]) ∧ Below w.heap.size w w' := by
 have hu := Try.underlying65
 have hx : ∀ (x y c : Int), 0 ≤ x → 0 ≤ y → 0 ≤ c → c ≤ 1 → ∀ W : World, (callFunc 62 #[.int .u64 x, .int .u64 y, .int .u64 c]).run Try.prog W = .ok (.value (.tuple #[.int .u64 ((x + y + c) % 18446744073709551616), .int .u64 ((x + y + c) / 18446744073709551616)])) W := fun x y c h0 h1 h2 h3 W => by
  rw [run_callFunc_extern Try.func62 (by kernel_rfl) (by kernel_rfl) (by kernel_rfl) (e := add64Entry) (by kernel_rfl), run_add64 x y c h0 h1 h2 h3]
  rfl
 unfold wide_Add.f at h
 split at h
 case isFalse => cases h
 case isTrue hb =>
  obtain ⟨b0, b1, b2, b3, b4, b5, b6, b7⟩ := hb;have y1 := hx aa ac 0 b2 b6 (by omega) (by omega);have y2 := hx ad ae ((aa + ac) / 18446744073709551616) b0 b4 (by omega) (by omega);rw [Int.add_zero] at y1;clear hx
  split at h
  case isTrue ho =>
   simp only [Option.some.injEq, Prod.mk.injEq] at h;obtain ⟨rfl, rfl, rfl⟩ := h;rw [Int.emod_eq_of_lt (by omega) ho, Int.ediv_eq_zero_of_lt (by omega) ho] at y2;generalize ad + ae + (aa + ac) / 18446744073709551616 = s at y2 ⊢;generalize (aa + ac) / 18446744073709551616 = c at y1 y2;generalize (aa + ac) % 18446744073709551616 = t at y1 ⊢;clear b0 b1 b2 b3 b4 b5 b6 b7 ho;go_enter Try.func49, Try.ntmps49;go_wp2_with (first | simp only [y1] | simp only [y2] | (go_at_call 63; refine (wide_kept.calls s t false s t true _ rfl).mono ?_; rintro e w' ⟨rfl, hb⟩; have kR := blk_below (g := w.heap.size + 1 + 1) (o := .cells #[.int .u64 0, .int .u64 0] 65 (0, 0)) (by (with_reducible repeat (first | refine blk_drewN ?_ _ | refine blk_drew ?_)); exact blk_newAt3 _ _ (by simp)) hb; have r0 := blk_cell kR 0; have r1 := blk_cell kR 1; have z0 := blk_frozen kR 0; have z1 := blk_frozen kR 1));refine bodyPost_ret (v := .tuple #[.agg #[.int .u64 s, .int .u64 t], .bool true]) ?_ rfl ⟨rfl, ?_⟩
   ·refine results_ct (fn := Try.f49) (p := 4) (u := 5) rfl _ _ (w.heap.size + 1 + 1) 65 _ (0, 0) _ ?_ ?_ hu rfl ?_
    ·rfl
    ·exact blk_put (blk_put (cs' := #[.int .u64 s, .int .u64 0]) kR 0 _ rfl) 1 _ rfl
    ·kernel_rfl
   ·exact below_set (below_set (below_then (by repeat (first | exact Below.refl _ _ | apply below_alloc)) (by simp <;> omega) hb) (by omega)) (by omega)
  case isFalse ho =>
   simp only [Option.some.injEq, Prod.mk.injEq] at h;obtain ⟨rfl, rfl, rfl⟩ := h;obtain ⟨s, hs⟩ : ∃ s, s = (ad + ae + (aa + ac) / 18446744073709551616) % 18446744073709551616 := ⟨_, rfl⟩;rw [← hs, show (ad + ae + (aa + ac) / 18446744073709551616) / 18446744073709551616 = 1 by omega] at y2;generalize (aa + ac) / 18446744073709551616 = c at y1 y2;generalize (aa + ac) % 18446744073709551616 = t at y1 ⊢;clear b0 b1 b2 b3 b4 b5 b6 b7 ho hs;go_enter Try.func49, Try.ntmps49;go_wp2_with (first | simp only [y1] | simp only [y2] | (go_at_call 63; refine (wide_kept.calls s t true 0 0 false _ rfl).mono ?_; rintro e w' ⟨rfl, hb⟩; have kR := blk_below (g := w.heap.size + 1 + 1) (o := .cells #[.int .u64 0, .int .u64 0] 65 (0, 0)) (by (with_reducible repeat (first | refine blk_drewN ?_ _ | refine blk_drew ?_)); exact blk_newAt3 _ _ (by simp)) hb; have r0 := blk_cell kR 0; have r1 := blk_cell kR 1; have z0 := blk_frozen kR 0; have z1 := blk_frozen kR 1));refine bodyPost_ret (v := .tuple #[.agg #[.int .u64 0, .int .u64 0], .bool false]) ?_ rfl ⟨rfl, ?_⟩;rotate_left
   ·exact below_set (below_set (below_then (by repeat (first | exact Below.refl _ _ | apply below_alloc)) (by simp <;> omega) hb) (by omega)) (by omega)
   refine results_ct (fn := Try.f49) (p := 4) (u := 5) rfl _ _ (w.heap.size + 1 + 1) 65 _ (0, 0) _ ?_ ?_ hu rfl ?_
   ·rfl
   ·exact blk_put (blk_put (cs' := #[.int .u64 0, .int .u64 0]) kR 0 _ rfl) 1 _ rfl
   kernel_rfl




section
variable {P : Program}
theorem run_copyK (w : World) (dT sT ty elem : TypeId) (k b o dLen dCap : Nat) (a : Addr) (sLen sCap : Nat) (cs : List Value) (hu : P.underlying dT = some (.slice elem)) (hs : (P.info? elem).map (·.size) = some k) (hn : cs.length = Nat.min sLen dLen * k)
  (hsrc : ∀ j v, cs[j]? = some v → w.cell? (a.add j) = some v) (hc : ∀ j, j < cs.length → (w.cell? ⟨b, o + j, none⟩).isSome = true) (hf : ∀ j, j < cs.length → w.frozen? ⟨b, o + j, none⟩ = false) (h1 : ∀ v ∈ cs, v.oneCell' = true) :
  (Builtin.copy_ #[dT, sT] ty #[.slice (some ⟨b, o, none⟩) dLen dCap, .slice (some a) sLen sCap]).run P w = .ok (goInt (Nat.min sLen dLen)) (w.setCells b o cs) := by
 have hl := run_loadCells_list (P := P) w a cs hsrc;have hst := run_storeCells_cells (P := P) b o cs 0 w (by simpa using hc) (by simpa using hf) h1
 cases hq : P.info? elem with
 | none => simp [hq] at hs
 | some i =>
  have hi : i.size = k := by simpa [hq] using hs
  simp [Builtin.copy_, run_underlying hu, Builtin.lenOf, Builtin.firstCells, sizeOf, typeInfo, hq, hi, ← hn, hl, hst]
theorem copy_wp (w : World) {o : Oper} {a : Act} {K : Act → World → Prop} {Q : Exit → Act → World → Prop} (d s : Operand) (t t' : TypeId) (ho : o.op = .call { callee := .builtin .copy, args := #[d, s], argTypes := #[t, t'] }) (v u : Value) (hd : a.eval d = v) (hs : a.eval s = u) {v' : Value} {w' : World}
  (hr : (Builtin.copy_ #[t, t'] o.type #[v, u]).run P w = .ok v' w') (h : K (a.put o.dst v') w') : o.wp P a w K Q := by
 unfold Oper.wp execOp
 simp only [ho, resolve, invoke, builtin, Sem.run_bind, Sem.run_pure, Result.andThen_ok, List.map_toArray, List.map_cons, List.map_nil, hd, hs, hr];exact h
theorem copy_list (w : World) {ops : Array Oper} {rest : List Oper} {o : Oper} {a : Act} {Q : Exit → Act → World → Prop} (hgd : o.guard = none) (d s : Operand) (t t' : TypeId) (ho : o.op = .call { callee := .builtin .copy, args := #[d, s], argTypes := #[t, t'] }) (v u : Value) (hd : a.eval d = v) (hs : a.eval s = u) {v' : Value} {w' : World}
  (hr : (Builtin.copy_ #[t, t'] o.type #[v, u]).run P w = .ok v' w') (h : wpList P ops Q rest (a.put o.dst v') w') : wpList P ops Q (o :: rest) a w :=
 wpList_plain hgd fun _ hK => copy_wp w d s t t' ho v u hd hs hr (hK _ _ h)
theorem copy_step {ops : Array Oper} {o : Oper} {a : Act} {w : World} {K : Act → World → Prop} {Q : Exit → Act → World → Prop} {E : Prop} (hg : o.guard = none) (d x : Operand) (dT sT : TypeId) (hop : o.op = Op.call { callee := Callee.builtin Builtin.copy, args := #[d, x], argTypes := #[dT, sT] })
  (v u : Value) (hd : a.eval d = v) (hx : a.eval x = u) {v' : Value} {w' : World} (hr : (Builtin.copy_ #[dT, sT] o.type #[v, u]).run P w = .ok v' w') (hK : K (a.put o.dst v') w') : if Region.wanted o (yielded ops a.tmps) = true then Oper.wp P o a w K Q else E := by
 rw [if_pos (by simp [Region.wanted, hg])];exact copy_wp w d x dT sT hop v u hd hx hr hK
end
theorem setCells_heap (b : Nat) : ∀ (vs : List Value) (o : Nat) (w : World) (k : Nat), k ≠ b → (w.setCells b o vs).heap[k]? = w.heap[k]?
 | [], _, _, _, _ => rfl
 | v :: r, o, w, k, h => by rw [World.setCells, setCells_heap b r (o + 1) _ k h]; exact Below.heap_setCell w ⟨b, o, none⟩ v k h
theorem setCells_size (b : Nat) : ∀ (vs : List Value) (o : Nat) (w : World), (w.setCells b o vs).heap.size = w.heap.size
 | [], _, _ => rfl
 | v :: r, o, w => by rw [World.setCells, setCells_size b r (o + 1)]; simp [World.setCell]
theorem setCells_below {B : Nat} {w0 : World} (b : Nat) (hb : B ≤ b) : ∀ (vs : List Value) (o : Nat) (w : World), Below B w0 w → Below B w0 (w.setCells b o vs)
 | [], _, _, h => h
 | v :: r, o, w, h => by rw [World.setCells]; exact setCells_below b hb r (o + 1) _ (h.setCell hb v)
theorem setCells_blk (b : Nat) (t : TypeId) : ∀ (vs : List Value) (o : Nat) (w : World) (cur : Array Value), w.heap[b]? = some (.cells cur t (0, 0)) → o + vs.length ≤ cur.size →
  ∃ cur', (w.setCells b o vs).heap[b]? = some (.cells cur' t (0, 0)) ∧ cur'.size = cur.size ∧ cur'.toList = cur.toList.take o ++ vs ++ cur.toList.drop (o + vs.length)
 | [], o, w, cur, h, hl => ⟨cur, h, rfl, by simp⟩
 | v :: r, o, w, cur, h, hl => by
  rw [List.length_cons] at hl;obtain ⟨cur', h1, h2, h3⟩ := setCells_blk b t r (o + 1) (w.setCell ⟨b, o, none⟩ v) (cur.setIfInBounds o v) (blk_set h o v) (by rw [Array.size_setIfInBounds]; omega);refine ⟨cur', by rw [World.setCells]; exact h1, by rw [h2, Array.size_setIfInBounds], ?_⟩;rw [h3, Array.toList_setIfInBounds, List.length_cons]
  have hol : o < cur.toList.length := by rw [Array.length_toList]; omega
  have e1 : (cur.toList.set o v).take (o + 1) = cur.toList.take o ++ [v] := by
   rw [List.take_set, List.take_succ_eq_append_getElem hol, List.set_append_right _ _ (by rw [List.length_take]; omega)]
   have hm : min o cur.size = o := by omega
   simp [hm]
  rw [e1, List.drop_set_of_lt (by omega), show o + 1 + r.length = o + (r.length + 1) by omega]
  simp
theorem shift_list (cur cs xs : List Value) (k i n : Nat) (hi : i < n) (hcs : cur.take (n * k) = cs) (hn : n * k ≤ cur.length) (hx : xs.length = k) (c1 c2 : List Value) (h1 : c1 = cur.take ((i + 1) * k) ++ cs.drop (i * k) ++ cur.drop ((i + 1) * k + (cs.drop (i * k)).length)) (h2 : c2 = c1.take (i * k) ++ xs ++ c1.drop (i * k + xs.length)) :
  c2.take ((n + 1) * k) = cs.take (i * k) ++ xs ++ cs.drop (i * k) := by
 have hik : i * k + k ≤ n * k := by have := Nat.mul_le_mul_right k (show i + 1 ≤ n from hi); rwa [Nat.succ_mul] at this
 have hl : cs.length = n * k := by rw [← hcs, List.length_take]; omega
 have e0 : (i + 1) * k = i * k + k := Nat.succ_mul _ _;have e1 : (n + 1) * k = n * k + k := Nat.succ_mul _ _
 have l0 : (cur.take ((i + 1) * k)).length = i * k + k := by rw [List.length_take, e0]; omega
 have a1 : c1.take (i * k) = cs.take (i * k) := by
  rw [h1, List.append_assoc, List.take_append_of_le_length (by omega), List.take_take, ← hcs, List.take_take]
  congr 1
  omega
 have a2 : c1.drop (i * k + xs.length) = cs.drop (i * k) ++ cur.drop ((i + 1) * k + (cs.drop (i * k)).length) := by
  rw [h1, List.append_assoc, hx, ← l0, List.drop_left]
 rw [h2, a1, a2, ← List.append_assoc, e1]
 have l1 : (cs.take (i * k) ++ xs ++ cs.drop (i * k)).length = n * k + k := by simp only [List.length_append, List.length_take, List.length_drop, hx, hl]; omega
 rw [← l1, List.take_left]
theorem zeroCells_size (z : Array Value) (n : Nat) : (Builtin.zeroCells z n).size = n * z.size := by simp [Builtin.zeroCells]
theorem setCells_drew (b : Nat) : ∀ (vs : List Value) (o : Nat) (w : World), (w.setCells b o vs).drew = w.drew.setCells b o vs
 | [], _, _ => rfl
 | v :: r, o, w => by rw [World.setCells, World.setCells, setCells_drew b r]; rfl
theorem grow_list (row cs xs : List Value) (k i n : Nat) (hi : i < n) (hn : cs.length = n * k) (hr : row.take (i * k) = cs.take (i * k)) (hrl : (n + 1) * k ≤ row.length) (hx : xs.length = k) (c1 c2 : List Value) (h1 : c1 = row.take (i * k) ++ xs ++ row.drop (i * k + xs.length)) (h2 : c2 = c1.take ((i + 1) * k) ++ cs.drop (i * k) ++ c1.drop ((i + 1) * k + (cs.drop (i * k)).length)) :
  c2.take ((n + 1) * k) = cs.take (i * k) ++ xs ++ cs.drop (i * k) := by
 have hik : i * k + k ≤ n * k := by have := Nat.mul_le_mul_right k (show i + 1 ≤ n from hi); rwa [Nat.succ_mul] at this
 have e0 : (i + 1) * k = i * k + k := Nat.succ_mul _ _;have e1 : (n + 1) * k = n * k + k := Nat.succ_mul _ _
 have l0 : (cs.take (i * k) ++ xs).length = (i + 1) * k := by rw [List.length_append, List.length_take, hx, e0]; omega
 have a1 : c1.take ((i + 1) * k) = cs.take (i * k) ++ xs := by rw [h1, hr, ← l0, List.take_left]
 have l1 : (cs.take (i * k) ++ xs ++ cs.drop (i * k)).length = (n + 1) * k := by rw [List.length_append, l0, List.length_drop, hn, e0, e1]; omega
 rw [h2, a1, ← l1, List.take_left]
def flat {α : Type} (enc : α → List Value) (xs : List α) : List Value := xs.flatMap enc
section
variable {α : Type} {enc : α → List Value} {k : Nat}
theorem flat_len (hl : ∀ x, (enc x).length = k) : ∀ (xs : List α), (flat enc xs).length = xs.length * k
 | [] => by simp [flat]
 | x :: r => by
  have h := flat_len hl r
  unfold flat at h ⊢
  rw [List.flatMap_cons, List.length_append, hl, h, List.length_cons, Nat.succ_mul, Nat.add_comm]
theorem flat_drop (hl : ∀ x, (enc x).length = k) : ∀ (i : Nat) (xs : List α), (flat enc xs).drop (i * k) = flat enc (xs.drop i)
 | 0, xs => by simp
 | i + 1, [] => by simp [flat]
 | i + 1, x :: r => by
  have h := flat_drop hl i r;rw [List.drop_succ_cons, ← h]
  unfold flat
  rw [List.flatMap_cons, Nat.succ_mul, Nat.add_comm, ← hl x, ← List.drop_drop, List.drop_left]
theorem flat_take (hl : ∀ x, (enc x).length = k) : ∀ (i : Nat) (xs : List α), (flat enc xs).take (i * k) = flat enc (xs.take i)
 | 0, xs => by simp [flat]
 | i + 1, [] => by simp [flat]
 | i + 1, x :: r => by
  have h := flat_take hl i r;rw [List.take_succ_cons]
  unfold flat at h ⊢
  rw [List.flatMap_cons, List.flatMap_cons, Nat.succ_mul, Nat.add_comm, ← hl x, List.take_length_add_append, hl x, h]
theorem flat_append (xs ys : List α) : flat enc (xs ++ ys) = flat enc xs ++ flat enc ys := by simp [flat]
theorem flat_one (x : α) : flat enc [x] = enc x := by simp [flat]
theorem flat_ins (hl : ∀ x, (enc x).length = k) (i : Nat) (xs : List α) (x : α) : (flat enc xs).take (i * k) ++ enc x ++ (flat enc xs).drop (i * k) = flat enc (xs.take i ++ [x] ++ xs.drop i) := by
 rw [flat_append, flat_append, flat_one, flat_take hl, flat_drop hl]
theorem flat_at (hl : ∀ x, (enc x).length = k) {xs : List α} {j : Nat} {x : α} (h : xs[j]? = some x) : ((flat enc xs).drop (j * k)).take k = enc x := by
 obtain ⟨hj, e⟩ := List.getElem?_eq_some_iff.1 h;rw [flat_drop hl, List.drop_eq_getElem_cons hj, e]
 unfold flat
 rw [List.flatMap_cons, ← hl x, List.take_left]
theorem flat_of (hl : ∀ x, (enc x).length = k) : ∀ (xs : List α) (cs : List Value), cs.length = xs.length * k → (∀ j x, xs[j]? = some x → (cs.drop (j * k)).take k = enc x) → cs = flat enc xs
 | [], cs, h, _ => by
  have : cs = [] := List.eq_nil_of_length_eq_zero (by simpa using h);rw [this]; rfl
 | x :: r, cs, h, hx => by
  have h0 := hx 0 x rfl;simp only [Nat.zero_mul, List.drop_zero] at h0
  have hr := flat_of hl r (cs.drop k) (by rw [List.length_drop, h, List.length_cons, Nat.succ_mul]; omega) (fun j y hy => by
   have := hx (j + 1) y (by simpa using hy)
   rwa [Nat.succ_mul, Nat.add_comm, ← List.drop_drop] at this)
  unfold flat at hr ⊢
  rw [List.flatMap_cons, ← hr, ← h0, List.take_append_drop]
end
section
variable {α : Type} {d : Kd α} {enc : α → List Value}
theorem own_of_R (hl : ∀ x, (enc x).length = d.sz) (hM : ∀ {w base ok x cs}, d.M w base ok x cs → cs = enc x) {e base : Nat} {ok : Nat → Prop} {w : World} {v : Value} {xs : List α} (h : d.R e w base ok v xs) : w.ownsRow base e d.sz v xs.length (flat enc xs) := by
 obtain ⟨_, inner, ho, hr⟩ := h;rw [← flat_of hl xs inner hr.1 (fun j x hj => hM (hr.2 j x hj))];exact ho
theorem R_of_own (hl : ∀ x, (enc x).length = d.sz) (hM : ∀ w base ok x, d.M w base ok x (enc x)) {e base : Nat} {w : World} {v : Value} {xs : List α} (h : w.ownsRow base e d.sz v xs.length (flat enc xs)) : d.R e w base (fun _ => True) v xs :=
 ⟨fun _ _ => trivial, flat enc xs, h, flat_len hl xs, fun j x hj => by rw [flat_at hl hj]; exact hM _ _ _ x⟩
end
theorem Insert_end (base : Nat) (v : Value) (n : Nat) (cs xs : List Value) (vb : Nat) (w : World) (hown : w.ownsRow base 87 4 v n cs) (hx : w.heap[vb]? = some (.cells xs.toArray 87 (0, 0))) (hxl : xs.length = 4) (h1x : ∀ u ∈ xs, u.oneCell' = true)
  (hl : (n + 1) * 40 ≤ 140737488355328) (hb : base ≤ w.heap.size) :
  Calls Try.prog 50 #[v, .int .i64 n, .slice (some ⟨vb, 0, none⟩) 1 1] w fun e w' => ∃ v1, e = .returned v1 ∧ w'.ownsRow base 87 4 v1 (n + 1) (cs ++ xs) ∧ w.grownBy w' v.ownBlock ∧ (v1.ownBlock = v.ownBlock ∨ v1.ownBlock = some w.heap.size) := by
 obtain ⟨i0, hi0, hz⟩ : ∃ i0, Try.prog.info? 87 = some i0 ∧ i0.zero = some (.agg #[.string ⟨#[]⟩, .int .u64 0, .int .u64 0, .int .u64 0]) ∧ i0.size = 4 ∧ i0.bytes = 40 := by
  have h : (Try.prog.info? 87).map (fun i => (i.zero, i.size, i.bytes)) = some (some (.agg #[.string ⟨#[]⟩, .int .u64 0, .int .u64 0, .int .u64 0]), 4, 40) := by kernel_rfl
  obtain ⟨i0, h0, h1⟩ := Option.map_eq_some_iff.1 h;simp only [Prod.mk.injEq] at h1;exact ⟨i0, h0, h1⟩
 have hu := Try.underlying38
 have hnews : ∀ j u, xs[j]? = some u → w.cell? ((⟨vb, 0, none⟩ : Addr).add j) = some u := fun j u hj => by rw [add_at, Nat.zero_add, blk_cell hx]; simpa using hj
 have HO := am hown
 obtain ⟨A, c, rfl⟩ : ∃ A c, v = .slice A n c := by
  rcases hown.2 with ⟨rfl, rfl⟩ | ⟨g, cap, cur, rfl, _⟩
  ·exact ⟨_, _, rfl⟩
  ·exact ⟨_, _, rfl⟩
 have hc : n ≤ c := own_le hown;clear hown;have HI := am (And.intro hi0 hz);clear hi0 hz hx
 cases A with
 | none =>
  have h0 : n = 0 ∧ c = 0 := by
   rcases HO.out.2 with ⟨h, h2⟩ | ⟨g, cap, cur, h, _⟩
   ·injection h with _ _ h3; exact ⟨h2, h3⟩
   ·injection h with h _ _; cases h
  obtain ⟨rfl, rfl⟩ := h0;go_enter Try.func50, Try.ntmps50;go_wp2_with (at_builtin; refine wpList_append_own_at w rfl (.tmp 23) (.tmp 24) 38 rfl base 87 i0 _ 4 40 hu HI.out.1 HI.out.2.1 HI.out.2.2.1 HI.out.2.2.2 rfl (by decide) _ _ _ rfl HO.out ⟨vb, 0, none⟩ 1 1 xs rfl (by omega) hnews h1x (by unfold maxLen; omega) hl hb ?_; rintro v1 w1 ho1 hg1 _ hat1);go_ret;exact ⟨_, rfl, ho1, hg1, hat1⟩
 | some ad =>
  obtain ⟨g, rfl⟩ : ∃ g, ad = ⟨g, 0, none⟩ := by
   rcases HO.out.2 with ⟨h, _⟩ | ⟨g, cap, cur, h, _⟩
   ·injection h with h; cases h
   ·injection h with h; injection h with h; exact ⟨g, h⟩
  go_enter Try.func50, Try.ntmps50;go_wp2_with (at_builtin; refine wpList_append_own_at w rfl (.tmp 23) (.tmp 24) 38 rfl base 87 i0 _ 4 40 hu HI.out.1 HI.out.2.1 HI.out.2.2.1 HI.out.2.2.2 rfl (by decide) _ _ _ rfl HO.out ⟨vb, 0, none⟩ 1 1 xs rfl (by omega) hnews h1x (by unfold maxLen; omega) hl hb ?_; rintro v1 w1 ho1 hg1 _ hat1)
  all_goals (go_ret; exact ⟨_, rfl, ho1, hg1, hat1⟩)
theorem Insert_shift (base g i n c vb : Nat) (cs xs : List Value) (w : World) (hi : i < n) (hroom : n + 1 ≤ c) (hown : w.ownsRow base 87 4 (.slice (some ⟨g, 0, none⟩) n c) n cs) (hx : w.heap[vb]? = some (.cells xs.toArray 87 (0, 0))) (hxl : xs.length = 4) (h1c : ∀ u ∈ cs, u.oneCell' = true) (h1x : ∀ u ∈ xs, u.oneCell' = true) (hvb : vb ≠ g) (hb : base ≤ w.heap.size) :
  Calls Try.prog 50 #[.slice (some ⟨g, 0, none⟩) n c, .int .i64 i, .slice (some ⟨vb, 0, none⟩) 1 1] w fun e w' => e = .returned (.slice (some ⟨g, 0, none⟩) (n + 1) c) ∧ w'.ownsRow base 87 4 (.slice (some ⟨g, 0, none⟩) (n + 1) c) (n + 1) (cs.take (i * 4) ++ xs ++ cs.drop (i * 4)) ∧ Below base w w' ∧ (∀ k, k ≠ g → w'.heap[k]? = w.heap[k]?) := by
 have hu := Try.underlying38
 obtain ⟨cap, cur, hbg, hgc, hncap, hcm, hcs, htk, hcl⟩ : ∃ cap cur, base ≤ g ∧ w.heap[g]? = some (.cells cur 87 (0, 0)) ∧ n ≤ cap ∧ cap ≤ maxLen ∧ cur.size = cap * 4 ∧ cur.toList.take (n * 4) = cs ∧ cap = c := by
  rcases hown.2 with ⟨h, _⟩ | ⟨g', cap, cur, h, h1, h2, h3, h4, h5, h6⟩
  ·injection h with h; cases h
  ·injection h with h _ h7; injection h with h; injection h with h; subst h; exact ⟨cap, cur, h1, h2, h3, h4, h5, h6, h7.symm⟩
 subst hcl;have hcl : cs.length = n * 4 := hown.1
 have hov : ∀ lb cb, (callFunc 64 #[.slice (some ⟨vb, 0, none⟩) 1 1, .slice (some ⟨g, (i + 1) * 4, none⟩) lb cb]).run Try.prog w = .ok (.value (.bool false)) w := fun lb cb => by
  rw [run_callFunc_extern Try.func64 (by kernel_rfl) (by kernel_rfl) (by kernel_rfl) (e := Extern.SlicesOverlaps.overlaps #[38, 38] #[4]) (by kernel_rfl),
   Lib.run_overlaps_apart w 38 4 87 hu 4 (fun W => by
    obtain ⟨i0, h0, h1⟩ := Option.map_eq_some_iff.1 (show (Try.prog.info? 87).map (·.size) = some 4 by kernel_rfl)
    simp [Go.sizeOf, typeInfo, h0, h1]) ⟨vb, 0, none⟩ ⟨g, (i + 1) * 4, none⟩ 1 1 lb cb hvb 87 87 4 (cap * 4) (by simp [World.shape?, hx, hxl]) (by simp [World.shape?, hgc, hcs]) (by omega) (blk_frozen hx 0) (blk_frozen hx 4)]
  rfl
 have hsz : (Try.prog.info? 87).map (·.size) = some 4 := by kernel_rfl
 have hcs' : ∀ j v, cs[j]? = some v → cur[j]? = some v := fun j v hj => by
  rw [← htk, List.getElem?_take] at hj
  split at hj
  ·simpa using hj
  ·cases hj
 have hdl : (cs.drop (i * 4)).length = (n - i) * 4 := by rw [List.length_drop, hcl, Nat.sub_mul]
 have hcp1 : ∀ ty dc sc, (Builtin.copy_ #[38, 38] ty #[.slice (some ⟨g, (i + 1) * 4, none⟩) (n - i) dc, .slice (some ⟨g, i * 4, none⟩) (n + 1 - i) sc]).run Try.prog w.drew = .ok (goInt (Nat.min (n + 1 - i) (n - i))) (w.drew.setCells g ((i + 1) * 4) (cs.drop (i * 4))) := fun ty dc sc =>
  run_copyK w.drew 38 38 ty 87 4 g ((i + 1) * 4) (n - i) dc ⟨g, i * 4, none⟩ (n + 1 - i) sc (cs.drop (i * 4)) hu hsz
   (by rw [hdl]; congr 1; simp only [Nat.min_def]; split <;> omega)
   (fun j v hj => by
    rw [List.getElem?_drop] at hj;rw [add_at, blk_cell (blk_drew hgc)]
    exact hcs' _ v hj)
   (fun j hj => by
    rw [hdl] at hj
    rw [blk_cell (blk_drew hgc), Array.getElem?_eq_getElem (by rw [hcs]; omega)]; rfl)
   (fun j hj => blk_frozen (blk_drew hgc) _) (fun v hv => h1c v (List.mem_of_mem_drop hv))
 obtain ⟨cur1, hg1, hs1, hl1⟩ := setCells_blk g 87 (cs.drop (i * 4)) ((i + 1) * 4) w.drew cur (blk_drew hgc) (by rw [hdl, hcs]; omega)
 have hx1 : (w.drew.setCells g ((i + 1) * 4) (cs.drop (i * 4))).heap[vb]? = some (.cells xs.toArray 87 (0, 0)) := by rw [setCells_heap g _ _ _ vb hvb]; exact hx
 have HF : Aside0 (World.ownsRow ((w.drew.setCells g ((i + 1) * 4) (cs.drop (i * 4))).setCells g (i * 4) xs) base 87 4 (.slice (some ⟨g, 0, none⟩) (n + 1) cap) (n + 1) (cs.take (i * 4) ++ xs ++ cs.drop (i * 4))) := ⟨by
  obtain ⟨cur2, hg2, hs2, hl2⟩ := setCells_blk g 87 xs (i * 4) _ cur1 hg1 (by rw [hxl, hs1, hcs]; omega);refine ⟨by simp only [List.length_append, List.length_take, List.length_drop, hxl, hcl]; omega, .inr ⟨g, cap, cur2, rfl, hbg, hg2, hroom, hcm, by rw [hs2, hs1, hcs], ?_⟩⟩
  exact shift_list cur.toList cs xs 4 i n hi htk (by rw [Array.length_toList, hcs]; omega) hxl cur1.toList cur2.toList hl1 hl2⟩
 obtain ⟨W1, hW1⟩ : ∃ W1, W1 = w.drew.setCells g ((i + 1) * 4) (cs.drop (i * 4)) := ⟨_, rfl⟩;rw [← hW1] at hcp1 hg1 hx1
 have hcp2 : ∀ (W : World), W.heap = W1.heap → ∀ ty dc, (Builtin.copy_ #[38, 38] ty #[.slice (some ⟨g, i * 4, none⟩) (n + 1 - i) dc, .slice (some ⟨vb, 0, none⟩) 1 1]).run Try.prog W = .ok (goInt (Nat.min 1 (n + 1 - i))) (W.setCells g (i * 4) xs) := fun W hW ty dc => by
  have hgW : W.heap[g]? = some (.cells cur1 87 (0, 0)) := by rw [hW]; exact hg1
  have hxW : W.heap[vb]? = some (.cells xs.toArray 87 (0, 0)) := by rw [hW]; exact hx1
  exact run_copyK W 38 38 ty 87 4 g (i * 4) (n + 1 - i) dc ⟨vb, 0, none⟩ 1 1 xs hu hsz (by rw [hxl]; simp only [Nat.min_def]; split <;> omega)
   (fun j v hj => by rw [add_at, Nat.zero_add, blk_cell hxW]; simpa using hj)
   (fun j hj => by rw [blk_cell hgW, Array.getElem?_eq_getElem (by rw [hs1, hcs]; omega)]; rfl)
   (fun j hj => blk_frozen hgW _) h1x
 have HX := am hx;have HG := am hgc;have HG1 := am hg1;have HO := am hown;clear hx hgc hown hg1 hx1
 have hz2 : ¬ ((i : Int) = (n : Int)) := by omega
 have hb1 : (0 : Int) ≤ (i : Int) + 1 := by omega
 have htn : ((i : Int) + 1).toNat = i + 1 := by omega
 have hin : i ≤ n := by omega
 have hb2 : ¬ (cap = i + 1) := by omega
 have hb3 : (i : Int) ≤ (n : Int) + 1 := by omega
 have hb4 : ¬ (cap = i) := by omega
 have hc63 : cap ≤ 9223372036854775807 := by unfold maxLen at hcm; omega
 clear hcm;go_enter Try.func50, Try.ntmps50;go_wp2_with (simp only [hov])
 have hw1 : IntKind.i64.wrap ((i : Int) + 1) = (i : Int) + 1 := by rw [IntKind.wrap_i64]; omega
 go_region_law (refine copy_step rfl _ _ 38 38 rfl _ _ (by simp [Act.eval, Act.put]) (by simp [Act.eval, Act.put]) (hcp1 _ _ _) ?_)
 go_wp2_with (at_builtin; refine copy_list _ rfl _ _ 38 38 rfl _ _ rfl rfl (hcp2 _ rfl _ _) ?_);go_ret;exact ⟨rfl, HF.out, setCells_below g hbg _ _ _ (setCells_below g hbg _ _ _ (below_drew1 (Below.refl _ _))), fun k hk => by rw [setCells_heap g _ _ _ k hk, setCells_heap g _ _ _ k hk]; rfl⟩
theorem Insert_grow (base g i n cap vb : Nat) (cs xs : List Value) (w : World) (hi : i < n) (hroom : cap < n + 1) (hown : w.ownsRow base 87 4 (.slice (some ⟨g, 0, none⟩) n cap) n cs) (hx : w.heap[vb]? = some (.cells xs.toArray 87 (0, 0))) (hxl : xs.length = 4) (h1c : ∀ u ∈ cs, u.oneCell' = true) (h1x : ∀ u ∈ xs, u.oneCell' = true) (hb : base ≤ w.heap.size) (hl : (n + 1) * 40 ≤ 140737488355328) :
  Calls Try.prog 50 #[.slice (some ⟨g, 0, none⟩) n cap, .int .i64 i, .slice (some ⟨vb, 0, none⟩) 1 1] w fun e w' => ∃ G, e = .returned (.slice (some ⟨w.heap.size, 0, none⟩) (n + 1) G) ∧ w'.ownsRow base 87 4 (.slice (some ⟨w.heap.size, 0, none⟩) (n + 1) G) (n + 1) (cs.take (i * 4) ++ xs ++ cs.drop (i * 4)) ∧ Below w.heap.size w w' := by
 have hu := Try.underlying38;have hu3 := Try.underlying3
 obtain ⟨i0, hi0, hz0, hzs, hzb⟩ : ∃ i0, Try.prog.info? 87 = some i0 ∧ i0.zero = some (.agg #[.string ⟨#[]⟩, .int .u64 0, .int .u64 0, .int .u64 0]) ∧ i0.size = 4 ∧ i0.bytes = 40 := by
  have h : (Try.prog.info? 87).map (fun i => (i.zero, i.size, i.bytes)) = some (some (.agg #[.string ⟨#[]⟩, .int .u64 0, .int .u64 0, .int .u64 0]), 4, 40) := by kernel_rfl
  obtain ⟨i0, h0, h1⟩ := Option.map_eq_some_iff.1 h;simp only [Prod.mk.injEq] at h1;exact ⟨i0, h0, h1⟩
 obtain ⟨cur, hbg, hgc, hncap, hcm, hcs, htk⟩ : ∃ cur, base ≤ g ∧ w.heap[g]? = some (.cells cur 87 (0, 0)) ∧ n ≤ cap ∧ cap ≤ maxLen ∧ cur.size = cap * 4 ∧ cur.toList.take (n * 4) = cs := by
  rcases hown.2 with ⟨h, _⟩ | ⟨g', cap', cur, h, h1, h2, h3, h4, h5, h6⟩
  ·injection h with h; cases h
  ·injection h with h _ h7; injection h with h; injection h with h; subst h; subst h7; exact ⟨cur, h1, h2, h3, h4, h5, h6⟩
 have hcl : cs.length = n * 4 := hown.1
 have hcs' : ∀ j v, cs[j]? = some v → cur[j]? = some v := fun j v hj => by
  rw [← htk, List.getElem?_take] at hj
  split at hj
  ·simpa using hj
  ·cases hj
 have hsz : (Try.prog.info? 87).map (·.size) = some 4 := by rw [hi0]; simp [hzs]
 have hold : (Builtin.firstCells i0.size i (.slice (some ⟨g, 0, none⟩) i cap)).run Try.prog w.drew = .ok (cs.take (i * 4)).toArray w.drew := by
  rw [hzs]
  exact run_firstCells_some w.drew 4 i ⟨g, 0, none⟩ i cap (cs.take (i * 4)) (by rw [List.length_take]; omega) (fun j v hj => by
   rw [List.getElem?_take] at hj
   split at hj
   ·rw [add_at, Nat.zero_add, blk_cell (blk_drew hgc)]; exact hcs' _ v hj
   ·cases hj)
 have hkk : (n : Int) + 1 - (i : Int) = ((n + 1 - i : Nat) : Int) := by omega
 have hik : i + (n + 1 - i) = n + 1 := by omega
 have hrz : ∀ ty, (Builtin.append_ #[38, 3] ty #[.slice (some ⟨g, 0, none⟩) i cap, .int .i64 ((n : Int) + 1 - (i : Int))]).run Try.prog w = .ok (.slice (some ⟨w.heap.size, 0, none⟩) (n + 1) (grownCap w (n + 1) cap 87)) (w.drew.alloc (.cells ((cs.take (i * 4)).toArray ++ Builtin.zeroCells (Value.cells (.agg #[.string ⟨#[]⟩, .int .u64 0, .int .u64 0, .int .u64 0])) (n + 1 - i) ++ Builtin.zeroCells (Value.cells (.agg #[.string ⟨#[]⟩, .int .u64 0, .int .u64 0, .int .u64 0])) (grownCap w (n + 1) cap 87 - (n + 1))) 87)) := fun ty => by
  have h := Lib.run_append_grow_zeros w 38 3 ty 87 i0 _ .i64 .i64 hu hu3 hi0 hz0 (some ⟨g, 0, none⟩) i cap (cs.take (i * 4)) hold (n + 1 - i) (by omega) (by omega) (by omega) (by omega) (by rw [hzb]; omega) (by rw [hzb, hik]; exact growslice_fits hroom hl);rw [hik] at h;rw [hkk];exact h
 obtain ⟨G, hG⟩ : ∃ G, G = grownCap w (n + 1) cap 87 := ⟨_, rfl⟩;obtain ⟨ROW, hROW⟩ : ∃ ROW : Array Value, ROW = (cs.take (i * 4)).toArray ++ Builtin.zeroCells (Value.cells (.agg #[.string ⟨#[]⟩, .int .u64 0, .int .u64 0, .int .u64 0])) (n + 1 - i) ++ Builtin.zeroCells (Value.cells (.agg #[.string ⟨#[]⟩, .int .u64 0, .int .u64 0, .int .u64 0])) (G - (n + 1)) := ⟨_, rfl⟩
 have hGn : n + 1 ≤ G := by rw [hG]; exact grownCap_ge w _ _ _
 have hGm : G ≤ maxLen := by rw [hG]; exact grownCap_le_maxLen w (n + 1) cap 87 (by unfold maxLen; omega)
 rw [← hG, ← hROW] at hrz;have hcy : (Value.cells (.agg #[.string ⟨#[]⟩, .int .u64 0, .int .u64 0, .int .u64 0])).size = 4 := rfl
 have htl : (cs.take (i * 4)).length = i * 4 := by rw [List.length_take]; omega
 have hRs : ROW.size = G * 4 := by
  rw [hROW, Array.size_append, Array.size_append, zeroCells_size, zeroCells_size, hcy, List.size_toArray, htl]
  omega
 have hRt : ROW.toList.take (i * 4) = cs.take (i * 4) := by
  rw [hROW, Array.toList_append, Array.toList_append, List.append_assoc];exact (congrArg (fun q => List.take q _) htl.symm).trans (List.take_left ..)
 have hgw : g < w.heap.size := blk_lt hgc;have hvw : vb < w.heap.size := blk_lt hx;obtain ⟨W1, hW1⟩ : ∃ W1, W1 = w.drew.alloc (.cells ROW 87) := ⟨_, rfl⟩
 have hN : W1.heap[w.heap.size]? = some (.cells ROW 87 (0, 0)) := by rw [hW1]; exact blk_new w.drew _
 have hg1 : W1.heap[g]? = some (.cells cur 87 (0, 0)) := by rw [hW1]; exact blk_alloc (blk_drew hgc) _
 have hx1 : W1.heap[vb]? = some (.cells xs.toArray 87 (0, 0)) := by rw [hW1]; exact blk_alloc (blk_drew hx) _
 have hB1 : Below w.heap.size w W1 := by rw [hW1]; exact below_alloc (below_drew1 (Below.refl _ _)) _
 have hdl : (cs.drop (i * 4)).length = (n - i) * 4 := by rw [List.length_drop, hcl, Nat.sub_mul]
 obtain ⟨cur1, hN1, hs1, hl1⟩ := setCells_blk w.heap.size 87 xs (i * 4) W1 ROW hN (by rw [hxl, hRs]; omega);obtain ⟨cur2, hN2, hs2, hl2⟩ := setCells_blk w.heap.size 87 (cs.drop (i * 4)) ((i + 1) * 4) _ cur1 hN1 (by rw [hdl, hs1, hRs]; omega)
 have hg2 : (W1.setCells w.heap.size (i * 4) xs).heap[g]? = some (.cells cur 87 (0, 0)) := by rw [setCells_heap _ _ _ _ g (by omega)]; exact hg1
 have hcpA : ∀ (W : World), W.heap = W1.heap → ∀ ty dc, (Builtin.copy_ #[38, 38] ty #[.slice (some ⟨w.heap.size, i * 4, none⟩) (n + 1 - i) dc, .slice (some ⟨vb, 0, none⟩) 1 1]).run Try.prog W = .ok (goInt (Nat.min 1 (n + 1 - i))) (W.setCells w.heap.size (i * 4) xs) := fun W hW ty dc => by
  have hgW : W.heap[w.heap.size]? = some (.cells ROW 87 (0, 0)) := by rw [hW]; exact hN
  have hxW : W.heap[vb]? = some (.cells xs.toArray 87 (0, 0)) := by rw [hW]; exact hx1
  exact run_copyK W 38 38 ty 87 4 w.heap.size (i * 4) (n + 1 - i) dc ⟨vb, 0, none⟩ 1 1 xs hu hsz (by rw [hxl]; simp only [Nat.min_def]; split <;> omega)
   (fun j v hj => by rw [add_at, Nat.zero_add, blk_cell hxW]; simpa using hj)
   (fun j hj => by rw [blk_cell hgW, Array.getElem?_eq_getElem (by rw [hRs]; omega)]; rfl)
   (fun j hj => blk_frozen hgW _) h1x
 have hcpB : ∀ (W : World), W.heap = (W1.setCells w.heap.size (i * 4) xs).heap → ∀ ty dc sc, (Builtin.copy_ #[38, 38] ty #[.slice (some ⟨w.heap.size, (i + 1) * 4, none⟩) (n - i) dc, .slice (some ⟨g, i * 4, none⟩) (n - i) sc]).run Try.prog W = .ok (goInt (Nat.min (n - i) (n - i))) (W.setCells w.heap.size ((i + 1) * 4) (cs.drop (i * 4))) := fun W hW ty dc sc => by
  have hNW : W.heap[w.heap.size]? = some (.cells cur1 87 (0, 0)) := by rw [hW]; exact hN1
  have hgW : W.heap[g]? = some (.cells cur 87 (0, 0)) := by rw [hW]; exact hg2
  exact run_copyK W 38 38 ty 87 4 w.heap.size ((i + 1) * 4) (n - i) dc ⟨g, i * 4, none⟩ (n - i) sc (cs.drop (i * 4)) hu hsz
   (by rw [hdl]; congr 1; simp only [Nat.min_def]; split <;> omega)
   (fun j v hj => by
    rw [List.getElem?_drop] at hj;rw [add_at, blk_cell hgW]
    exact hcs' _ v hj)
   (fun j hj => by
    rw [hdl] at hj
    rw [blk_cell hNW, Array.getElem?_eq_getElem (by rw [hs1, hRs]; omega)]; rfl)
   (fun j hj => blk_frozen hNW _) (fun v hv => h1c v (List.mem_of_mem_drop hv))
 have HF : Aside0 (World.ownsRow ((W1.setCells w.heap.size (i * 4) xs).setCells w.heap.size ((i + 1) * 4) (cs.drop (i * 4))) base 87 4 (.slice (some ⟨w.heap.size, 0, none⟩) (n + 1) G) (n + 1) (cs.take (i * 4) ++ xs ++ cs.drop (i * 4))) := ⟨by
  refine ⟨by simp only [List.length_append, List.length_take, List.length_drop, hxl, hcl]; omega, .inr ⟨w.heap.size, G, cur2, rfl, hb, hN2, hGn, hGm, by rw [hs2, hs1, hRs], ?_⟩⟩
  exact grow_list ROW.toList cs xs 4 i n hi hcl hRt (by rw [Array.length_toList, hRs]; omega) hxl cur1.toList cur2.toList hl1 hl2⟩
 have HB := am (setCells_below w.heap.size (Nat.le_refl _) (cs.drop (i * 4)) ((i + 1) * 4) _ (setCells_below w.heap.size (Nat.le_refl _) xs (i * 4) W1 hB1))
 have hz2 : ¬ ((i : Int) = (n : Int)) := by omega
 have hz3 : (cap : Int) < (n : Int) + 1 := by omega
 have hb1 : (0 : Int) ≤ (i : Int) + 1 := by omega
 have htn : ((i : Int) + 1).toNat = i + 1 := by omega
 have hin : i ≤ n := by omega
 have hGi : ¬ (G = i) := by omega
 have hGim : ¬ (G = i + 1) := by omega
 have hci : ¬ (cap = i) := by omega
 have hb3 : (i : Int) ≤ (n : Int) + 1 := by omega
 have hb5 : (i : Int) ≤ (n : Int) := by omega
 have hG63 : G ≤ 9223372036854775807 := by unfold maxLen at hGm; omega
 subst hW1;clear hcm hGm hkk hik hold hROW hG hRs hRt hN hg1 hx1 hN1 hN2 hl1 hl2 hs1 hs2 hg2 hB1 hgc hx hown hi0 hz0 hzs hzb hsz hcs' htl hcy
 have hA := fun ty dc => hcpA ((w.alloc (.cells ROW 87)).drew) rfl ty dc
 have hB := fun ty dc sc => hcpB (((w.alloc (.cells ROW 87)).drew.setCells w.heap.size (i * 4) xs).drew) rfl ty dc sc
 clear hcpA hcpB
 have hw1 : IntKind.i64.wrap ((i : Int) + 1) = (i : Int) + 1 := by rw [IntKind.wrap_i64]; omega
 go_enter Try.func50, Try.ntmps50;go_wp2_with (at_builtin; refine Lib.wpList_append_run _ rfl _ _ _ _ rfl _ _ rfl rfl _ _ (hrz _) ?_)
 go_region_law fail
 go_wp2;go_ret;rw [← setCells_drew];exact ⟨G, rfl, HF.out, HB.out.drew⟩
theorem Insert_calls (base : Nat) (v : Value) (n i : Nat) (cs xs : List Value) (vb : Nat) (w : World) (hi : i ≤ n) (hown : w.ownsRow base 87 4 v n cs) (hx : w.heap[vb]? = some (.cells xs.toArray 87 (0, 0))) (hxl : xs.length = 4) (h1c : ∀ u ∈ cs, u.oneCell' = true) (h1x : ∀ u ∈ xs, u.oneCell' = true) (hvb : v.ownBlock ≠ some vb) (hb : base ≤ w.heap.size) (hl : (n + 1) * 40 ≤ 140737488355328) :
  Calls Try.prog 50 #[v, .int .i64 i, .slice (some ⟨vb, 0, none⟩) 1 1] w fun e w' => ∃ v1, e = .returned v1 ∧ w'.ownsRow base 87 4 v1 (n + 1) (cs.take (i * 4) ++ xs ++ cs.drop (i * 4)) ∧ Below base w w' ∧ (∀ k, k < w.heap.size → some k ≠ v.ownBlock → w'.heap[k]? = w.heap[k]?) ∧ (v1.ownBlock = v.ownBlock ∨ ∃ b, v1.ownBlock = some b ∧ w.heap.size ≤ b) := by
 rcases Nat.lt_or_ge i n with hin | hin
 ·obtain ⟨g, cap, cur, rfl, hbg, hgc, _⟩ : ∃ g cap cur, v = .slice (some ⟨g, 0, none⟩) n cap ∧ base ≤ g ∧ w.heap[g]? = some (.cells cur 87 (0, 0)) ∧ n ≤ cap := by
   rcases hown.2 with ⟨_, h⟩ | ⟨g, cap, cur, h, h1, h2, h3, _⟩
   ·omega
   ·exact ⟨g, cap, cur, h, h1, h2, h3⟩
  have hvg : vb ≠ g := fun he => hvb (by rw [he]; rfl)
  rcases Nat.lt_or_ge cap (n + 1) with hc | hc
  ·refine (Insert_grow base g i n cap vb cs xs w hin hc hown hx hxl h1c h1x hb hl).mono ?_;rintro e w' ⟨G, rfl, ho, hB⟩;exact ⟨_, rfl, ho, hB.mono hb, fun k hk _ => hB.block k hk, .inr ⟨_, rfl, Nat.le_refl _⟩⟩
  ·refine (Insert_shift base g i n cap vb cs xs w hin hc hown hx hxl h1c h1x hvg hb).mono ?_;rintro e w' ⟨rfl, ho, hB, hk⟩;exact ⟨_, rfl, ho, hB, fun k _ hk' => hk k (fun he => hk' (by rw [he]; rfl)), .inl rfl⟩
 ·obtain rfl : i = n := by omega
  refine (Insert_end base v i cs xs vb w hown hx hxl h1x hl hb).mono ?_;rintro e w' ⟨v1, rfl, ho, hg, ha⟩;refine ⟨v1, rfl, by rw [← hown.1, List.take_length, List.drop_length, List.append_nil]; exact ho, (Below.refl base w).grown hg hb (own_base hown), fun k hk hk' => hg.block k hk hk', ?_⟩
  rcases ha with ha | ha
  ·exact .inl ha
  ·exact .inr ⟨_, ha, Nat.le_refl _⟩
set_option maxHeartbeats 400000000
set_option maxRecDepth 100000

def cells87 (x : S87) : List Value := [.string x.f0, .int .u64 x.f1, .int .u64 x.f2.f0, .int .u64 x.f2.f1]
def b_add.cut (a0_0 a0_1 a0_2 : Int) (m : List S87) : Option (Int × Int × Int × List S87 × Int) :=
  if 0 ≤ min (m.length : Int) (wrap64 (a0_2 + 1)) then some (a0_0, a0_1, a0_2, m.take (min (m.length : Int) (wrap64 (a0_2 + 1))).toNat, 0) else none
def b_add.f (k : Nat) (a b c : Int) (d : List S87) (e : ByteArray) (g h i : Int) : Option (Int × Int × Int × List S87 × Int) :=
  if d.length < 1000000 then
    (bsT (fun y => b_compare.f k y.f0 y.f1 y.f2.f0 y.f2.f1 e g h i) d z87).bind fun q =>
      if q.2 = true then
        (if 0 ≤ q.1 ∧ q.1 < d.length then
          (wide_Add.f (rd_T87 d q.1).f2.f0 (rd_T87 d q.1).f2.f1 h i).bind fun n =>
            if n.2.2 = true then b_add.cut a b c (d.set q.1.toNat ⟨(rd_T87 d q.1).f0, (rd_T87 d q.1).f1, ⟨n.1, n.2.1⟩⟩) else some (a, b, c, d, 12)
        else none)
      else (if 0 ≤ q.1 ∧ q.1 ≤ d.length then b_add.cut a b c (d.take q.1.toNat ++ [⟨e, g, ⟨h, i⟩⟩] ++ d.drop q.1.toNat) else none)
  else none
theorem b_add.mono : ∀ a0 a1 a2 a3 a4 a5 a6 a7 k, LeO (b_add.f k a0 a1 a2 a3 a4 a5 a6 a7) (b_add.f (k + 1) a0 a1 a2 a3 a4 a5 a6 a7) := by
  intro a0 a1 a2 a3 a4 a5 a6 a7 k
  unfold b_add.f
  exact LeO.ite (LeO.bind (bsT_leo (fun y => b_compare.mono _ _ _ _ _ _ _ _ k) _ _) (fun _ => LeO.refl _)) (LeO.refl _)
theorem cells87_one (l : List S87) : ∀ u ∈ flat cells87 l, u.oneCell' = true := by
  intro u hu;obtain ⟨x, _, hx⟩ := List.mem_flatMap.1 hu;simp only [cells87, List.mem_cons, List.not_mem_nil, or_false] at hx
  rcases hx with rfl | rfl | rfl | rfl <;> rfl
theorem V_taken {α : Type} {d : Kd α} {e : Nat} {W : World} {base : Nat} {ok : Nat → Prop} {A : Option Addr} {c n : Nat} {xs : List α} (h : Kd.V d e W base ok (.slice A xs.length c) xs) (hn : n ≤ xs.length) : Kd.V d e W base ok (.slice A n c) (xs.take n) := by
  have hl : (xs.take n).length = n := by rw [List.length_take]; omega
  have h2 := Kd.V_mk (e := e) (base := base) (c := c) (by rw [hl]; exact Nat.le_trans hn (Kd.V_at h).2.1) (Kd.F_take (Kd.V_at h).2.2 hn);rwa [hl] at h2
theorem k87_flat : ∀ x : S87, (cells87 x).length = k87.sz := fun _ => rfl
theorem k87_isM {w : World} {base : Nat} {ok : Nat → Prop} {x : S87} {cs : List Value} (h : k87.M w base ok x cs) : cs = cells87 x := k87_openM h
theorem b_add.calls (k : Nat) (ad ae ac : Int) (an : Nat → Prop) (ah : Option Addr) (ai : Nat) (aa : List S87) (aj : ByteArray) (ak af ag r1 r2 r3 : Int) (r4 : List S87) (r5 : Int) (w : World) (aq : Kd.V k87 87 w w.heap.size (fun k_ => an k_) (.slice ah aa.length ai) aa) (h : b_add.f k ad ae ac aa aj ak af ag = some (r1, r2, r3, r4, r5)) :
    Calls Try.prog 32 #[.agg #[.int .u64 ad, .int .u64 ae, .int .i64 ac, .slice ah aa.length ai], .agg #[.string aj, .int .u64 ak, .int .u64 af, .int .u64 ag]] w fun e w' => ∃ av : Value, e = .returned (.tuple #[.agg #[.int .u64 r1, .int .u64 r2, .int .i64 r3, av], .int .i64 r5]) ∧ Kd.V k87 87 w' w.heap.size (fun k_ => (an k_ ∨ w.heap.size ≤ k_)) av r4 ∧ Below w.heap.size w w' := by
  have hu40 := Try.underlying40;have hu87 := Try.underlying87;have hu65 := Try.underlying65
  unfold b_add.f at h
  split at h
  case isFalse => cases h
  case isTrue hlen =>
  obtain ⟨q, hq, h⟩ := Option.bind_eq_some_iff.1 h;obtain ⟨i, found⟩ := q;have HQ := am hq;have HH := am h;clear hq h;have HV := am (Kd.V_bound aq);clear aq;have eg : ∀ args w, (callFunc 46 args).run Try.prog w = .ok (.enter 46 args) w := enter_at Try.func46 (by kernel_rfl) rfl;go_enter Try.func32, Try.ntmps32;go_wp2_with fail;refine (b_Entry_47.calls ah ai aa aa _ (Kd.C_below (Kd.V_reads' HV.out).2.2 (by repeat (first | exact Below.refl _ _ | apply below_alloc))) (Kd.V_reads' HV.out).2.1 (by unfold b_Entry_47.f; rw [if_pos (by omega)])).mono ?_;rintro e w1 ⟨v0, rfl, HR, hb1⟩;have B0 := am (blk_below (g := w.heap.size) (o := .cells #[.int .u64 ad, .int .u64 ae, .int .i64 ac, .slice ah aa.length ai] 40 (0, 0)) (blk_alloc (blk_alloc (blk_new _ _) _) _) hb1);have B1 := am (blk_below (g := w.heap.size + 1) (o := .cells #[.string aj, .int .u64 ak, .int .u64 af, .int .u64 ag] 87 (0, 0)) (blk_alloc (blk_newAt3 _ _ (by simp)) _) hb1);have B2 := am (blk_below (g := w.heap.size + 1 + 1) (o := .cells #[.int .u64 0, .int .u64 0, .int .i64 0, .slice none 0 0] 40 (0, 0)) (blk_newAt3 _ _ (by simp)) hb1);have HB := am (below_step (w := w) (by repeat (first | exact Below.refl _ _ | apply below_alloc)) hb1)
  have aw : w.heap.size + 1 + 1 + 1 ≤ w1.heap.size := by have := hb1.size; simpa using this
  have HV1 := am (Kd.V_below HV.out HB.out);have ap := am (Kd.R_lower HR (show w.heap.size + 1 + 1 + 1 ≤ _ by simp));clear HR hb1 HV;obtain ⟨A1, c1, rfl⟩ := Kd.R_slice ap.out;have ax := (Kd.R_reads' ap.out).2.1;have x0 := blk_cell B1.out 0;have x1 := blk_cell B1.out 1;have x2 := blk_cell B1.out 2;have x3 := blk_cell B1.out 3;go_wp2_with fail;refine (BinarySearchFunc_calls 46 #[] eg (fun y => b_compare.f k y.f0 y.f1 y.f2.f0 y.f2.f1 aj ak af ag) aj ak af ag A1 c1 aa i found w1 (Kd.R_reads' ap.out).2.2 ax (by omega) (fun W y c _ hc => by simpa using b_compare.calls k _ _ _ _ _ _ _ _ c W hc) HQ.out).mono ?_;rintro e w2 ⟨rfl, hb2⟩;have az : w.heap.size + 1 + 1 + 1 ≤ w2.heap.size := Nat.le_trans aw hb2.size;have C0 := am (blk_below B0.out hb2);have C1 := am (blk_below B1.out hb2);have C2 := am (blk_below B2.out hb2);have HB2 := am (below_step HB.out hb2);have HV2 := am (Kd.V_below HV1.out hb2);have ao := am (Kd.R_below ap.out hb2);clear hb2 aw B0 B1 B2 HB HV1 ap x0 x1 x2 x3 HQ;have x0 := blk_cell C1.out 0;have x1 := blk_cell C1.out 1;have x2 := blk_cell C1.out 2;have x3 := blk_cell C1.out 3;have s0 := blk_cell C0.out 0;have s1 := blk_cell C0.out 1;have s2 := blk_cell C0.out 2;have s3 := blk_cell C0.out 3
  cases found with
  | false =>
    have h := HH.out;clear HH;rw [if_neg (by decide)] at h
    split at h
    case isFalse => cases h
    case isTrue hi =>
    obtain ⟨j, rfl⟩ := Int.eq_ofNat_of_zero_le hi.1
    have hj : j ≤ aa.length := by have := hi.2; omega
    clear hi;rw [Int.toNat_natCast] at h
    unfold b_add.cut at h
    split at h
    case isFalse => cases h
    case isTrue hm =>
    simp only [Option.some.injEq, Prod.mk.injEq] at h;obtain ⟨rfl, rfl, rfl, h4, rfl⟩ := h;have H4 := am h4;have HM := am hm;clear h4 hm;go_wp2_with fail;have hlt := Kd.R_lt ao.out;have hbs := Kd.R_base ao.out;refine (Insert_calls (w.heap.size + 1 + 1 + 1) (.slice A1 aa.length c1) aa.length j (flat cells87 aa) (cells87 ⟨aj, ak, ⟨af, ag⟩⟩) w2.heap.size _ hj (own_of_R k87_flat k87_isM (Kd.R_alloc ao.out _)) (blk_new _ _) rfl (cells87_one aa) (fun u hu => cells87_one [⟨aj, ak, ⟨af, ag⟩⟩] u (by rw [flat_one]; exact hu)) (fun he => Nat.lt_irrefl _ (hlt _ he)) (by simp <;> omega) (by omega)).mono ?_;rintro e w3 ⟨v1, rfl, ho, hB3, hk3, hat⟩;rw [flat_ins (k := 4) (fun _ => rfl)] at ho
    have hml : (aa.take j ++ [(⟨aj, ak, ⟨af, ag⟩⟩ : S87)] ++ aa.drop j).length = aa.length + 1 := by simp only [List.length_append, List.length_take, List.length_drop, List.length_singleton]; omega
    obtain ⟨m, hm⟩ : ∃ m, m = aa.take j ++ [(⟨aj, ak, ⟨af, ag⟩⟩ : S87)] ++ aa.drop j := ⟨_, rfl⟩;rw [← hm] at ho hml H4 HM;rw [← hml] at ho;have au := am (R_of_own k87_flat (fun W b o x => k87_mkM W b o x) ho);have E0 := am ((hk3 w.heap.size (by simp <;> omega) (fun he => by have := hbs _ he.symm; omega)).trans (blk_alloc C0.out _));have E2 := am ((hk3 (w.heap.size + 1 + 1) (by simp <;> omega) (fun he => by have := hbs _ he.symm; omega)).trans (blk_alloc C2.out _));have HB3 := am ((HB2.out.alloc (by omega) _).trans (hB3.mono (by omega)));clear hm ho hk3 hB3 hat hlt hbs C0 C1 C2 HB2 HV2 ao x0 x1 x2 x3 s0 s1 s2 s3;obtain ⟨A2, c2, rfl⟩ := Kd.R_slice au.out;have aA := (Kd.R_reads' au.out).2.1;obtain ⟨K, hK⟩ : ∃ K, K = wrap64 (ac + 1) := ⟨_, rfl⟩;have s0 := blk_cell E0.out 0;have s1 := blk_cell E0.out 1;have s2 := blk_cell E0.out 2;have s3 := blk_cell E0.out 3;have z3 := blk_frozen E0.out 3;have t0 := blk_cell E2.out 0;have y0 := blk_frozen E2.out 0;have t1 := blk_cell E2.out 1;have y1 := blk_frozen E2.out 1;have t2 := blk_cell E2.out 2;have y2 := blk_frozen E2.out 2;have t3 := blk_cell E2.out 3;have y3 := blk_frozen E2.out 3;have hm0 := HM.out
    have HF : Aside0 (∀ mm : Nat, mm = (min (m.length : Int) (wrap64 (ac + 1))).toNat → ∀ W : World, W = ((((w3.setCell ⟨w.heap.size, 3, none⟩ (.slice A2 mm c2)).setCell ⟨w.heap.size + 1 + 1, 0, none⟩ (.int .u64 ad)).setCell ⟨w.heap.size + 1 + 1, 1, none⟩ (.int .u64 ae)).setCell ⟨w.heap.size + 1 + 1, 2, none⟩ (.int .i64 ac)).setCell ⟨w.heap.size + 1 + 1, 3, none⟩ (.slice A2 mm c2) →
        W.heap[w.heap.size + 1 + 1]? = some (.cells #[.int .u64 ad, .int .u64 ae, .int .i64 ac, .slice A2 mm c2] 40 (0, 0)) ∧ Kd.V k87 87 W w.heap.size (fun k_ => (an k_ ∨ w.heap.size ≤ k_)) (.slice A2 mm c2) r4 ∧ Below w.heap.size w W) := ⟨fun mm hmm W hW => by
      subst hW
      have hml2 : mm ≤ m.length := by omega
      have hV : Kd.V k87 87 w3 w.heap.size (fun k_ => w.heap.size + 1 + 1 + 1 ≤ k_) (.slice A2 m.length c2) m := Kd.R_V (Kd.R_mono (Kd.R_bound au.out) (fun k_ hk => hk.2.1));have h4 := H4.out;rw [← hmm] at h4;subst h4;refine ⟨blk_put (blk_put (blk_put (blk_put (cs' := #[.int .u64 ad, .int .u64 0, .int .i64 0, .slice none 0 0]) (blk_far E2.out (by simp <;> omega) _) 0 _ rfl) (cs' := #[.int .u64 ad, .int .u64 ae, .int .i64 0, .slice none 0 0]) 1 _ rfl) (cs' := #[.int .u64 ad, .int .u64 ae, .int .i64 ac, .slice none 0 0]) 2 _ rfl) 3 _ rfl, ?_, below_set (below_set (below_set (below_set (below_set HB3.out (Nat.le_refl _)) (by omega)) (by omega)) (by omega)) (by omega)⟩;refine Kd.V_mono (ok := fun k_ => w.heap.size + 1 + 1 + 1 ≤ k_) (V_taken ?_ hml2) (fun k_ hk => .inr (by omega))
      refine Kd.V_far (Kd.V_far (Kd.V_far (Kd.V_far (Kd.V_far hV ?_ _) ?_ _) ?_ _) ?_ _) ?_ _ <;> (intro k_ hk; simp only [ne_eq]; omega)⟩
    go_wp2_with fail
    all_goals first
      | (obtain ⟨f1, f2, f3⟩ := HF.out (aa.length + 1) (by omega) _ rfl
         refine bodyPost_ret (v := .tuple #[.agg #[.int .u64 ad, .int .u64 ae, .int .i64 ac, .slice A2 (aa.length + 1) c2], .int .i64 0]) ?_ rfl ⟨.slice A2 (aa.length + 1) c2, rfl, f2, f3⟩;refine results_ct (fn := Try.f32) (p := 4) (u := 5) rfl _ _ (w.heap.size + 1 + 1) 40 _ (0, 0) _ ?_ f1 hu40 rfl ?_
         · rfl
         · kernel_rfl)
      | (obtain ⟨f1, f2, f3⟩ := HF.out (wrap64 (ac + 1)).toNat (by omega) _ rfl
         refine bodyPost_ret (v := .tuple #[.agg #[.int .u64 ad, .int .u64 ae, .int .i64 ac, .slice A2 (wrap64 (ac + 1)).toNat c2], .int .i64 0]) ?_ rfl ⟨.slice A2 (wrap64 (ac + 1)).toNat c2, rfl, f2, f3⟩;refine results_ct (fn := Try.f32) (p := 4) (u := 5) rfl _ _ (w.heap.size + 1 + 1) 40 _ (0, 0) _ ?_ f1 hu40 rfl ?_
         · rfl
         · kernel_rfl)
  | true =>
    have h := HH.out;clear HH;rw [if_pos rfl] at h
    split at h
    case isFalse => cases h
    case isTrue hi =>
    obtain ⟨j, rfl⟩ := Int.eq_ofNat_of_zero_le hi.1
    have hj : j < aa.length := by have := hi.2; omega
    clear hi;rw [Int.toNat_natCast] at h;obtain ⟨n, hn, h⟩ := Option.bind_eq_some_iff.1 h;obtain ⟨n1, n2, n3⟩ := n;obtain ⟨x, hx⟩ : ∃ x, x = rd_T87 aa (j : Int) := ⟨_, rfl⟩;rw [← hx] at hn h;have HN := am hn;have HH := am h;clear h hn;obtain ⟨ga, cap, e, hga0, hga1, hgt⟩ := Kd.R_form ao.out (by omega)
    obtain ⟨rfl, rfl⟩ : A1 = some ⟨ga, 0, none⟩ ∧ c1 = cap := by injection e with e1 e2 e3; exact ⟨e1, e3⟩
    clear e hgt;obtain ⟨cf, hcl, hM, hcc, hfr⟩ := Kd.R_elem ao.out z87 (j : Int) (by omega) (by omega);obtain rfl := k87_openM hM;have hcc2 := hcc 2 _ rfl;have hcc3 := hcc 3 _ rfl;have hX : aa.getD (j : Int).toNat z87 = x := hx.symm;have y0 : Aside0 (w2.cell? ⟨ga, j * 4 + 2, none⟩ = some (.int .u64 x.f2.f0)) := ⟨by rw [← hX]; exact hcc2⟩;have y1 : Aside0 (w2.cell? ⟨ga, j * 4 + 2 + 1, none⟩ = some (.int .u64 x.f2.f1)) := ⟨by rw [← hX]; exact hcc3⟩;have y2 := am x2;have y3 := am x3;clear hcc2 hcc3 hcc hfr hcl hM hX;have HX := am hx;clear hx;have HBB := am (Below.refl w2.heap.size w2)
    have d1 : (0 : Int) ≤ (j : Int) := by omega
    have d2 : (j : Int) < (aa.length : Int) := by omega
    clear x0 x1 x2 x3 s0 s1 s2 s3;go_wp2_with fail;refine start_ (n := 14) (S := fun w' => w'.cell? ⟨ga, j * 4 + 2, none⟩ = some (.int .u64 x.f2.f0) ∧ w'.cell? ⟨ga, j * 4 + 2 + 1, none⟩ = some (.int .u64 x.f2.f1) ∧ w'.cell? ⟨w.heap.size + 1, 2, none⟩ = some (.int .u64 af) ∧ w'.cell? ⟨w.heap.size + 1, 3, none⟩ = some (.int .u64 ag)) (ds := [12]) #[bF, bF, bF, bF, bF, bF, bF, bF, bF, bF, bF, bF, bF, bF] (by kernel_rfl) rfl rfl ⟨y0.out, y1.out, y2.out, y3.out⟩ (fun hh => ?_);refine pure_ (i := 0) (N := some 22) (v := ?_) (a' := ?_) #[bT, bF, bF, bF, bF, bF, bF, bF, bF, bF, bF, bF, bF, bF] rfl rfl (by kernel_rfl) (fun _ _ _ h => h) (Or.inl ⟨by rfl, ?_⟩) ?_ ?_;rotate_left
    · intro w'
      go_simp
      with_reducible rfl
    rotate_left
    · simp only [Act.put, List.setIfInBounds_toArray, List.set_cons_zero, List.set_cons_succ, i64_w, i32_w]
      rfl
    refine pure_ (i := 1) (N := some 23) (v := ?_) (a' := ?_) #[bT, bT, bF, bF, bF, bF, bF, bF, bF, bF, bF, bF, bF, bF] rfl rfl (by kernel_rfl) (fun _ _ _ h => h) (Or.inl ⟨by rfl, ?_⟩) ?_ ?_;rotate_left
    · intro w'
      go_simp
      with_reducible rfl
    rotate_left
    · simp only [Act.put, List.setIfInBounds_toArray, List.set_cons_zero, List.set_cons_succ, i64_w, i32_w]
      rfl
    refine pure_ (i := 2) (N := some 24) (v := ?_) (a' := ?_) #[bT, bT, bT, bF, bF, bF, bF, bF, bF, bF, bF, bF, bF, bF] rfl rfl (by kernel_rfl) (fun _ _ _ h => h) (Or.inl ⟨by rfl, ?_⟩) ?_ ?_;rotate_left
    · intro w'
      go_simp
      with_reducible rfl
    rotate_left
    · simp only [Act.put, List.setIfInBounds_toArray, List.set_cons_zero, List.set_cons_succ, i64_w, i32_w]
      rfl
    refine pure_ (i := 3) (N := some 25) (v := ?_) (a' := ?_) #[bT, bT, bT, bT, bF, bF, bF, bF, bF, bF, bF, bF, bF, bF] rfl rfl (by kernel_rfl) (fun _ _ _ h => h) (Or.inl ⟨by rfl, ?_⟩) ?_ ?_;rotate_left
    · intro w'
      go_simp
      with_reducible rfl
    rotate_left
    · simp only [Act.put, List.setIfInBounds_toArray, List.set_cons_zero, List.set_cons_succ, i64_w, i32_w]
      rfl
    refine pure_ (i := 5) (N := some 27) (v := ?_) (a' := ?_) #[bT, bT, bT, bT, bF, bT, bF, bF, bF, bF, bF, bF, bF, bF] rfl rfl (by kernel_rfl) (fun _ _ _ h => h) (Or.inl ⟨by rfl, ?_⟩) ?_ ?_;rotate_left
    · intro w'
      go_simp
      with_reducible rfl
    rotate_left
    · simp only [Act.put, List.setIfInBounds_toArray, List.set_cons_zero, List.set_cons_succ, i64_w, i32_w]
      rfl
    refine take_ (i := 4) (N := some 26) (v := ?_) (a' := ?_) #[bT, bT, bT, bT, bT, bT, bF, bF, bF, bF, bF, bF, bF, bF] rfl rfl (by kernel_rfl) (fun _ _ _ h => h) (Or.inl ⟨by rfl, ?_⟩) hh ?_ ?_;rotate_left
    · rintro w' ⟨s0, s1, s2, s3⟩
      go_simp
      with_reducible rfl
    rotate_left
    · simp only [Act.put, List.setIfInBounds_toArray, List.set_cons_zero, List.set_cons_succ, i64_w, i32_w]
      rfl
    refine take_ (i := 6) (N := some 28) (v := ?_) (a' := ?_) #[bT, bT, bT, bT, bT, bT, bT, bF, bF, bF, bF, bF, bF, bF] rfl rfl (by kernel_rfl) (fun _ _ _ h => h) (Or.inl ⟨by rfl, ?_⟩) hh ?_ ?_;rotate_left
    · rintro w' ⟨s0, s1, s2, s3⟩
      go_simp
      with_reducible rfl
    rotate_left
    · simp only [Act.put, List.setIfInBounds_toArray, List.set_cons_zero, List.set_cons_succ, i64_w, i32_w]
      rfl
    refine jn (σ := Nat) 2 #[bT, bT, bT, bT, bT, bT, bT, bT, bT, bT, bT, bT, bF, bF] (fun s_ => [(29, .tuple #[.agg #[.int .u64 n1, .int .u64 n2], .bool n3]), (21, .tuple #[.agg #[.int .u64 n1, .int .u64 n2], .bool n3]), (30, .agg #[.int .u64 n1, .int .u64 n2]), (31, .bool n3), (9, .pointer (some ⟨s_, 0, none⟩))]) (fun s_ w' => w'.heap[s_]? = some (.cells #[.int .u64 0, .int .u64 0] 65 (0, 0)) ∧ w2.heap.size ≤ s_ ∧ Below w2.heap.size w2 w') ?_ ?_;rotate_left
    · intro hCont
      refine two_ (i := 7) (j := 11) (Ni := some 29) (Nj := some 9) #[bT, bT, bT, bT, bT, bT, bT, bT, bF, bF, bF, bF, bF, bF] #[bT, bT, bT, bT, bT, bT, bT, bF, bF, bF, bF, bT, bF, bF] rfl rfl rfl rfl (by kernel_rfl) (by decide) (by decide) (fun K hK => ?_) (fun K hK => ?_)
      · skip
        refine goes_ Try.func49 (by kernel_rfl) rfl #[.agg #[.int .u64 x.f2.f0, .int .u64 x.f2.f1], .agg #[.int .u64 af, .int .u64 ag]] (by rfl) rfl rfl (by simp only [List.map_toArray, List.map_cons, List.map_nil]; rfl) ?_;(with_reducible refine (wide_Add.calls x.f2.f0 x.f2.f1 af ag n1 n2 n3 _ HN.out).mono ?_);rintro e w3 ⟨rfl, hb3⟩;refine ⟨_, rfl, ?_⟩;replace HBB := lB HBB hb3;clear hb3;refine hK.out _ _ ⟨hQ HBB y0.out, hQ HBB y1.out, hQ HBB y2.out, hQ HBB y3.out⟩ (fun hh => ?_);clear hK K;refine nm ?_;refine pure_ (i := 8) (N := some 21) (v := ?_) (a' := ?_) #[bT, bT, bT, bT, bT, bT, bT, bT, bT, bF, bF, bF, bF, bF] rfl rfl (by kernel_rfl) (fun _ _ _ h => h) (Or.inl ⟨by rfl, ?_⟩) ?_ ?_;rotate_left
        · intro w'
          go_simp
          with_reducible rfl
        rotate_left
        · simp only [Act.put, List.setIfInBounds_toArray, List.set_cons_zero, List.set_cons_succ, i64_w, i32_w]
          rfl
        refine pure_ (i := 9) (N := some 30) (v := ?_) (a' := ?_) #[bT, bT, bT, bT, bT, bT, bT, bT, bT, bT, bF, bF, bF, bF] rfl rfl (by kernel_rfl) (fun _ _ _ h => h) (Or.inl ⟨by rfl, ?_⟩) ?_ ?_;rotate_left
        · intro w'
          go_simp
          with_reducible rfl
        rotate_left
        · simp only [Act.put, List.setIfInBounds_toArray, List.set_cons_zero, List.set_cons_succ, i64_w, i32_w]
          rfl
        refine pure_ (i := 10) (N := some 31) (v := ?_) (a' := ?_) #[bT, bT, bT, bT, bT, bT, bT, bT, bT, bT, bT, bF, bF, bF] rfl rfl (by kernel_rfl) (fun _ _ _ h => h) (Or.inl ⟨by rfl, ?_⟩) ?_ ?_;rotate_left
        · intro w'
          go_simp
          with_reducible rfl
        rotate_left
        · simp only [Act.put, List.setIfInBounds_toArray, List.set_cons_zero, List.set_cons_succ, i64_w, i32_w]
          rfl
        refine one_ (i := 11) (N := some 9) #[bT, bT, bT, bT, bT, bT, bT, bT, bT, bT, bT, bT, bF, bF] rfl rfl (by kernel_rfl) (by decide) (fun K hK => ?_);refine bx 9 #[.int .u64 0, .int .u64 0] 65 ?_;intro gb hg w3 hbox hb3;have n0_ := lB HBB hb3;have GE : Aside0 (w2.heap.size ≤ gb) := ⟨by rw [hg]; exact HBB.out.size⟩;have BK := am hbox;clear HBB;have HBB := n0_;clear n0_ hb3 hbox hg;refine hK.out _ _ ⟨hQ HBB y0.out, hQ HBB y1.out, hQ HBB y2.out, hQ HBB y3.out⟩ (fun hh => ?_);clear hK K;refine nm ?_;exact nj (hCont gb _ ⟨hh, BK.out, GE.out, HBB.out⟩)
      · skip
        refine bx 9 #[.int .u64 0, .int .u64 0] 65 ?_;intro gb hg w3 hbox hb3;have n0_ := lB HBB hb3;have GE : Aside0 (w2.heap.size ≤ gb) := ⟨by rw [hg]; exact HBB.out.size⟩;have BK := am hbox;clear HBB;have HBB := n0_;clear n0_ hb3 hbox hg;refine hK.out _ _ ⟨hQ HBB y0.out, hQ HBB y1.out, hQ HBB y2.out, hQ HBB y3.out⟩ (fun hh => ?_);clear hK K;refine nm ?_;refine one_ (i := 7) (N := some 29) #[bT, bT, bT, bT, bT, bT, bT, bT, bF, bF, bF, bT, bF, bF] rfl rfl (by kernel_rfl) (by decide) (fun K hK => ?_);refine goes_ Try.func49 (by kernel_rfl) rfl #[.agg #[.int .u64 x.f2.f0, .int .u64 x.f2.f1], .agg #[.int .u64 af, .int .u64 ag]] (by rfl) rfl rfl (by simp only [List.map_toArray, List.map_cons, List.map_nil]; rfl) ?_;(with_reducible refine (wide_Add.calls x.f2.f0 x.f2.f1 af ag n1 n2 n3 _ HN.out).mono ?_);rintro e w3 ⟨rfl, hb3⟩;refine ⟨_, rfl, ?_⟩;have n0_ := lB HBB hb3;have n1_ := am (blk_below BK.out hb3);clear BK;have BK := n1_;clear n1_ HBB;have HBB := n0_;clear n0_ hb3;refine hK.out _ _ ⟨hQ HBB y0.out, hQ HBB y1.out, hQ HBB y2.out, hQ HBB y3.out⟩ (fun hh => ?_);clear hK K;refine nm ?_;refine pure_ (i := 8) (N := some 21) (v := ?_) (a' := ?_) #[bT, bT, bT, bT, bT, bT, bT, bT, bT, bF, bF, bT, bF, bF] rfl rfl (by kernel_rfl) (fun _ _ _ h => h) (Or.inl ⟨by rfl, ?_⟩) ?_ ?_;rotate_left
        · intro w'
          go_simp
          with_reducible rfl
        rotate_left
        · simp only [Act.put, List.setIfInBounds_toArray, List.set_cons_zero, List.set_cons_succ, i64_w, i32_w]
          rfl
        refine pure_ (i := 9) (N := some 30) (v := ?_) (a' := ?_) #[bT, bT, bT, bT, bT, bT, bT, bT, bT, bT, bF, bT, bF, bF] rfl rfl (by kernel_rfl) (fun _ _ _ h => h) (Or.inl ⟨by rfl, ?_⟩) ?_ ?_;rotate_left
        · intro w'
          go_simp
          with_reducible rfl
        rotate_left
        · simp only [Act.put, List.setIfInBounds_toArray, List.set_cons_zero, List.set_cons_succ, i64_w, i32_w]
          rfl
        refine pure_ (i := 10) (N := some 31) (v := ?_) (a' := ?_) #[bT, bT, bT, bT, bT, bT, bT, bT, bT, bT, bT, bT, bF, bF] rfl rfl (by kernel_rfl) (fun _ _ _ h => h) (Or.inl ⟨by rfl, ?_⟩) ?_ ?_;rotate_left
        · intro w'
          go_simp
          with_reducible rfl
        rotate_left
        · simp only [Act.put, List.setIfInBounds_toArray, List.set_cons_zero, List.set_cons_succ, i64_w, i32_w]
          rfl
        exact nj (hCont gb _ ⟨hh, BK.out, GE.out, HBB.out⟩)
    rintro gb w4 ⟨hh, hbk, hge, hbb⟩;have BK := am hbk;have GE := am hge;clear HBB;have HBB := am hbb;clear hbk hge hbb;have b0 := blk_cell BK.out 0;have b1 := blk_cell BK.out 1;have f0 := blk_frozen BK.out 0;have f1 := blk_frozen BK.out 1;refine norm_ (a' := ?_) ?_ ?_;rotate_left
    · simp only [putAll, Act.put, List.setIfInBounds_toArray, List.set_cons_zero, List.set_cons_succ]
      rfl
    refine last_ (i := 12) (N := none) #[bT, bT, bT, bT, bT, bT, bT, bT, bT, bT, bT, bT, bT, bF] rfl rfl (by kernel_rfl) (by decide) (fun K hK => ?_);refine skip_ (w1 := ?_) (by rfl) rfl ?_ ?_;rotate_left
    · go_simp
      rfl
    refine hK.out _ _ ?_;clear hK K;refine pure_ (i := 13) (N := some 10) (v := ?_) (a' := ?_) #[bT, bT, bT, bT, bT, bT, bT, bT, bT, bT, bT, bT, bT, bT] rfl rfl (by kernel_rfl) (fun _ _ _ h => h) (Or.inl ⟨by rfl, ?_⟩) ?_ ?_;rotate_left
    · intro w'
      go_simp
      with_reducible rfl
    rotate_left
    · simp only [Act.put, List.setIfInBounds_toArray, List.set_cons_zero, List.set_cons_succ, i64_w, i32_w]
      rfl
    refine done_ (by kernel_rfl) ?_
    have hne2 : w.heap.size + 1 + 1 < gb := by have := GE.out; omega
    have E0 := am (blk_far (blk_far (blk_below C0.out HBB.out) (p := ⟨gb, 0, none⟩) (by simp <;> omega) (.int .u64 n1)) (p := ⟨gb, 1, none⟩) (by simp <;> omega) (.int .u64 n2));have E2 := am (blk_far (blk_far (blk_below C2.out HBB.out) (p := ⟨gb, 0, none⟩) (by simp <;> omega) (.int .u64 n1)) (p := ⟨gb, 1, none⟩) (by simp <;> omega) (.int .u64 n2));have EG := am (blk_put (cs' := #[.int .u64 n1, .int .u64 n2]) (blk_put (cs' := #[.int .u64 n1, .int .u64 0]) BK.out 0 (.int .u64 n1) rfl) 1 (.int .u64 n2) rfl);have HB5 := am (below_set (g := gb) (j := 1) (v := .int .u64 n2) (below_set (g := gb) (j := 0) (v := .int .u64 n1) (below_step HB2.out HBB.out) (by omega)) (by omega));have HV5 := am (Kd.V_far (Kd.V_far (Kd.V_below HV2.out HBB.out) (p := ⟨gb, 0, none⟩) (fun k_ hk => by have := hk.2; simp only [ne_eq]; omega) (.int .u64 n1)) (p := ⟨gb, 1, none⟩) (fun k_ hk => by have := hk.2; simp only [ne_eq]; omega) (.int .u64 n2));have ar := am (Kd.R_far (Kd.R_far (Kd.R_below (Kd.R_bound ao.out) HBB.out) (p := ⟨gb, 0, none⟩) (fun k_ hk => by have := hk.2.2.1; have := GE.out; simp only [ne_eq]; omega) (.int .u64 n1)) (p := ⟨gb, 1, none⟩) (fun k_ hk => by have := hk.2.2.1; have := GE.out; simp only [ne_eq]; omega) (.int .u64 n2));clear b0 b1 f0 f1 hh BK HBB C0 C1 C2 HB2 HV2 ao y0 y1 y2 y3;generalize ((w4.setCell ⟨gb, 0, none⟩ (.int .u64 n1)).setCell ⟨gb, 1, none⟩ (.int .u64 n2)) = w5 at E0 E2 EG HB5 HV5 ar ⊢;have s0 := blk_cell E0.out 0;have s1 := blk_cell E0.out 1;have s2 := blk_cell E0.out 2;have s3 := blk_cell E0.out 3;have t0 := blk_cell E2.out 0;have y0 := blk_frozen E2.out 0;have t1 := blk_cell E2.out 1;have y1 := blk_frozen E2.out 1;have t2 := blk_cell E2.out 2;have y2 := blk_frozen E2.out 2;have t3 := blk_cell E2.out 3;have y3 := blk_frozen E2.out 3
    cases n3 with
    | false =>
      have h := HH.out;clear HH;rw [if_neg (by decide)] at h;simp only [Option.some.injEq, Prod.mk.injEq] at h;obtain ⟨rfl, rfl, rfl, rfl, rfl⟩ := h
      have HF : Aside0 (∀ W : World, W = (((w5.setCell ⟨w.heap.size + 1 + 1, 0, none⟩ (.int .u64 ad)).setCell ⟨w.heap.size + 1 + 1, 1, none⟩ (.int .u64 ae)).setCell ⟨w.heap.size + 1 + 1, 2, none⟩ (.int .i64 ac)).setCell ⟨w.heap.size + 1 + 1, 3, none⟩ (.slice ah aa.length ai) →
          W.heap[w.heap.size + 1 + 1]? = some (.cells #[.int .u64 ad, .int .u64 ae, .int .i64 ac, .slice ah aa.length ai] 40 (0, 0)) ∧ Kd.V k87 87 W w.heap.size (fun k_ => (an k_ ∨ w.heap.size ≤ k_)) (.slice ah aa.length ai) aa ∧ Below w.heap.size w W) := ⟨fun W hW => by
        subst hW;refine ⟨blk_put (blk_put (blk_put (blk_put (cs' := #[.int .u64 ad, .int .u64 0, .int .i64 0, .slice none 0 0]) E2.out 0 _ rfl) (cs' := #[.int .u64 ad, .int .u64 ae, .int .i64 0, .slice none 0 0]) 1 _ rfl) (cs' := #[.int .u64 ad, .int .u64 ae, .int .i64 ac, .slice none 0 0]) 2 _ rfl) 3 _ rfl, ?_, below_set (below_set (below_set (below_set HB5.out (by omega)) (by omega)) (by omega)) (by omega)⟩;refine Kd.V_mono (ok := fun k_ => an k_ ∧ k_ < w.heap.size) ?_ (fun k_ hk => .inl hk.1)
        refine Kd.V_far (Kd.V_far (Kd.V_far (Kd.V_far HV5.out ?_ _) ?_ _) ?_ _) ?_ _ <;> (intro k_ hk; have := hk.2; simp only [ne_eq]; omega)⟩
      go_wp2_with fail;obtain ⟨f1, f2, f3⟩ := HF.out _ rfl;refine bodyPost_ret (v := .tuple #[.agg #[.int .u64 ad, .int .u64 ae, .int .i64 ac, .slice ah aa.length ai], .int .i64 12]) ?_ rfl ⟨.slice ah aa.length ai, rfl, f2, f3⟩;refine results_ct (fn := Try.f32) (p := 4) (u := 5) rfl _ _ (w.heap.size + 1 + 1) 40 _ (0, 0) _ ?_ f1 hu40 rfl ?_
      · rfl
      · kernel_rfl
    | true =>
      have h := HH.out;clear HH;rw [if_pos rfl] at h
      unfold b_add.cut at h
      split at h
      case isFalse => cases h
      case isTrue hm =>
      simp only [Option.some.injEq, Prod.mk.injEq] at h;obtain ⟨rfl, rfl, rfl, h4, rfl⟩ := h;have H4 := am h4;have HM := am hm;clear h4 hm;have g0 := blk_cell EG.out 0;have g1 := blk_cell EG.out 1;clear s0 s1 s2 s3 t0 t1 t2 t3 y0 y1 y2 y3;obtain ⟨cf, hcl, hM, hcc, hfr⟩ := Kd.R_elem ar.out z87 (j : Int) (by omega) (by omega);obtain rfl := k87_openM hM;have hX : aa.getD (j : Int).toNat z87 = x := HX.out.symm;rw [hX] at hcc hcl;have HC := am (And.intro hcl hcc);have HFR := am hfr;clear hcl hcc hfr hM hX;have HP := am (Kd.R_seg ar.out (j : Int) (by omega) (by omega) (seg := [.int .u64 n1, .int .u64 n2]) (j := 2) HC.out.1 HC.out.2 (show 2 + 2 ≤ 4 from by decide) (x' := ⟨x.f0, x.f1, ⟨n1, n2⟩⟩) (okp := fun _ => False) (k87_mkM _ _ _ ⟨x.f0, x.f1, ⟨n1, n2⟩⟩) (fun _ hk => hk.elim));have q2 : w5.cell? ⟨ga, j * 4 + 2, none⟩ = some (.int .u64 x.f2.f0) := HC.out.2 2 _ rfl;have q3 : w5.cell? ⟨ga, j * 4 + 2 + 1, none⟩ = some (.int .u64 x.f2.f1) := HC.out.2 3 _ rfl;have q4 : w5.frozen? ⟨ga, j * 4 + 2, none⟩ = false := HFR.out 2;have q5 : w5.frozen? ⟨ga, j * 4 + 2 + 1, none⟩ = false := HFR.out 3;clear HC HFR;obtain ⟨m, hm⟩ : ∃ m, m = aa.set j ⟨x.f0, x.f1, ⟨n1, n2⟩⟩ := ⟨_, rfl⟩
      have hml : m.length = aa.length := by rw [hm, List.length_set]
      rw [← hm] at H4 HM;have HMM := am hm;clear hm
      go_wp2_with (
        (with_reducible refine gate_store (t := 65) (p := 39) rfl ?_);refine store_event (t := 65) (p := 39) (v := ?vo_1) (w1 := (w5.setCell ⟨ga, j * 4 + 2, none⟩ (.int .u64 n1)).setCell ⟨ga, j * 4 + 2 + 1, none⟩ (.int .u64 n2)) ?hg ?ho ?hn ?hr ?_; (case ho => rfl); (case hg => rfl); (case hn => rfl); (case hr => first | (go_simp; done) | (go_simp; rfl));intro w6 hw;have hg6 : w5.grownBy w6 (some ga) := (by rw [hw]; exact HP.out.2);have ay : Aside0 (Kd.R k87 87 w6 (w.heap.size + 1 + 1 + 1) _ (.slice (some ⟨ga, 0, none⟩) m.length c1) m) := ⟨by rw [hw, hml, HMM.out]; exact HP.out.1⟩;have HB6 : Aside0 (Below w.heap.size w w6) := ⟨by rw [hw]; exact below_set (below_set HB5.out (by omega)) (by omega)⟩;have F0 := am (blk_grown E0.out hg6 (by simp only [ne_eq, Option.some.injEq]; omega));have F2 := am (blk_grown E2.out hg6 (by simp only [ne_eq, Option.some.injEq]; omega));clear hw hg6 HP q2 q3 q4 q5 g0 g1 ar HV5 HB5 E0 E2 EG HMM;obtain ⟨K, hK⟩ : ∃ K, K = wrap64 (ac + 1) := ⟨_, rfl⟩;have s0 := blk_cell F0.out 0;have s1 := blk_cell F0.out 1;have s2 := blk_cell F0.out 2;have s3 := blk_cell F0.out 3;have z3 := blk_frozen F0.out 3;have t0 := blk_cell F2.out 0;have y0 := blk_frozen F2.out 0;have t1 := blk_cell F2.out 1;have y1 := blk_frozen F2.out 1;have t2 := blk_cell F2.out 2;have y2 := blk_frozen F2.out 2;have t3 := blk_cell F2.out 3;have y3 := blk_frozen F2.out 3;have hm0 := HM.out
        have HF : Aside0 (∀ mm : Nat, mm = (min (m.length : Int) (wrap64 (ac + 1))).toNat → ∀ W : World, W = ((((w6.setCell ⟨w.heap.size, 3, none⟩ (.slice (some ⟨ga, 0, none⟩) mm c1)).setCell ⟨w.heap.size + 1 + 1, 0, none⟩ (.int .u64 ad)).setCell ⟨w.heap.size + 1 + 1, 1, none⟩ (.int .u64 ae)).setCell ⟨w.heap.size + 1 + 1, 2, none⟩ (.int .i64 ac)).setCell ⟨w.heap.size + 1 + 1, 3, none⟩ (.slice (some ⟨ga, 0, none⟩) mm c1) →
            W.heap[w.heap.size + 1 + 1]? = some (.cells #[.int .u64 ad, .int .u64 ae, .int .i64 ac, .slice (some ⟨ga, 0, none⟩) mm c1] 40 (0, 0)) ∧ Kd.V k87 87 W w.heap.size (fun k_ => (an k_ ∨ w.heap.size ≤ k_)) (.slice (some ⟨ga, 0, none⟩) mm c1) r4 ∧ Below w.heap.size w W) := ⟨fun mm hmm W hW => by
          subst hW
          have hml2 : mm ≤ m.length := by omega
          have hV : Kd.V k87 87 w6 w.heap.size (fun k_ => w.heap.size + 1 + 1 + 1 ≤ k_) (.slice (some ⟨ga, 0, none⟩) m.length c1) m := Kd.R_V (Kd.R_mono (Kd.R_bound ay.out) (fun k_ hk => hk.2.1));have h4 := H4.out;rw [← hmm] at h4;subst h4;refine ⟨blk_put (blk_put (blk_put (blk_put (cs' := #[.int .u64 ad, .int .u64 0, .int .i64 0, .slice none 0 0]) (blk_far F2.out (by simp <;> omega) _) 0 _ rfl) (cs' := #[.int .u64 ad, .int .u64 ae, .int .i64 0, .slice none 0 0]) 1 _ rfl) (cs' := #[.int .u64 ad, .int .u64 ae, .int .i64 ac, .slice none 0 0]) 2 _ rfl) 3 _ rfl, ?_, below_set (below_set (below_set (below_set (below_set HB6.out (Nat.le_refl _)) (by omega)) (by omega)) (by omega)) (by omega)⟩;refine Kd.V_mono (ok := fun k_ => w.heap.size + 1 + 1 + 1 ≤ k_) (V_taken ?_ hml2) (fun k_ hk => .inr (by omega))
          refine Kd.V_far (Kd.V_far (Kd.V_far (Kd.V_far (Kd.V_far hV ?_ _) ?_ _) ?_ _) ?_ _) ?_ _ <;> (intro k_ hk; simp only [ne_eq]; omega)⟩
      )
      all_goals first
        | (obtain ⟨f1, f2, f3⟩ := HF.out aa.length (by omega) _ rfl
           refine bodyPost_ret (v := .tuple #[.agg #[.int .u64 ad, .int .u64 ae, .int .i64 ac, .slice (some ⟨ga, 0, none⟩) aa.length c1], .int .i64 0]) ?_ rfl ⟨.slice (some ⟨ga, 0, none⟩) aa.length c1, rfl, f2, f3⟩;refine results_ct (fn := Try.f32) (p := 4) (u := 5) rfl _ _ (w.heap.size + 1 + 1) 40 _ (0, 0) _ ?_ f1 hu40 rfl ?_
           · rfl
           · kernel_rfl)
        | (obtain ⟨f1, f2, f3⟩ := HF.out (wrap64 (ac + 1)).toNat (by omega) _ rfl
           refine bodyPost_ret (v := .tuple #[.agg #[.int .u64 ad, .int .u64 ae, .int .i64 ac, .slice (some ⟨ga, 0, none⟩) (wrap64 (ac + 1)).toNat c1], .int .i64 0]) ?_ rfl ⟨.slice (some ⟨ga, 0, none⟩) (wrap64 (ac + 1)).toNat c1, rfl, f2, f3⟩;refine results_ct (fn := Try.f32) (p := 4) (u := 5) rfl _ _ (w.heap.size + 1 + 1) 40 _ (0, 0) _ ?_ f1 hu40 rfl ?_
           · rfl
           · kernel_rfl)
def b_Add.f (k : Nat) (a b c : Int) (d : List (S87)) (e : ByteArray) (g : Int) : Option (Int × Int × Int × (List (S87)) × Int) := (b_Right.f k a b c d).bind fun h => (if h = true then (if (e.size : Int) > 64 then (some (a, b, c, d, 5)) else (if g = 0 then (some (a, b, c, d, 7)) else ((sip_Sum.f k a b e).bind fun i => ((wide_Of.f g).bind fun j => ((b_add.f k a b c d e i j.1 j.2).bind fun l => (some (l.1, l.2.1, l.2.2.1, l.2.2.2.1, l.2.2.2.2))))))) else (some (a, b, c, d, 1)))
theorem b_Add.mono : ∀ a0 a1 a2 a3 a4 a5 k, LeO (b_Add.f k a0 a1 a2 a3 a4 a5) (b_Add.f (k + 1) a0 a1 a2 a3 a4 a5) := by
  intro a0 a1 a2 a3 a4 a5 k
  unfold b_Add.f
  with_reducible repeat' first | apply b_Right.mono | apply b_add.mono | apply sip_Sum.mono | exact LeO.refl _ | exact LeO.none _ | refine LeO.ite ?_ ?_ | refine LeO.bind ?_ (fun _ => ?_)
def b_Add.T7 : DT := (true, [dz, dz, dz, dd [2], dz, dd [3, 4], dz, ([6, 5], [6]), dd [1, 5, 7], ([0, 8, 7], [0, 8]), dd [9], dd [9], ([10, 9, 0, 1, 2, 3, 4, 5, 6, 7, 8, 9, 10, 11], [10]), ([11, 12, 0, 1, 2, 3, 4, 5, 6, 7, 8, 9, 10, 11, 12], [11])])
def b_Add.B7 : List Nat := [0, 0, 0, 4, 0, 28, 0, 124, 254, 511, 1023, 1023, 4095, 8191]
theorem b_Add.tab7 : rtab .any (opsOf Try.f13 7) = b_Add.T7 := by kernel_rfl
theorem b_Add.bits7 : waitsOk b_Add.T7.2 b_Add.B7 = true := by kernel_rfl
theorem b_Add.calls (k : Nat) (af ag ah : Int) (ar : Nat → Prop) (an : Option Addr) (ao : Nat) (ae : List (S87)) (a1 : ByteArray) (a2 r1 r2 r3 : Int) (r4 : List (S87)) (r5 : Int) (w : World) (aL : Kd.V k87 87 w w.heap.size (fun k_ => ar k_) (.slice an ae.length ao) ae) (h : b_Add.f k af ag ah ae a1 a2 = some (r1, r2, r3, r4, r5)) :
    Calls Try.prog 13 #[.agg #[.int .u64 af, .int .u64 ag, .int .i64 ah, .slice an ae.length ao], .string a1, .int .u64 a2] w fun e w' => ∃ aO : Value, e = .returned (.tuple #[.agg #[.int .u64 r1, .int .u64 r2, .int .i64 r3, aO], .int .i64 r5]) ∧ Kd.V k87 87 w' w.heap.size (fun k_ => (ar k_ ∨ w.heap.size ≤ k_)) aO r4 ∧ Below w.heap.size w w' := by
  have hu40 := Try.underlying40;have hu24 := Try.underlying24;have hu87 := Try.underlying87;have aa := am (show Kd.V k87 87 w w.heap.size (fun k_ => (ar k_ ∨ w.heap.size ≤ k_)) (.slice an ae.length ao) ae from Kd.V_mono aL (fun k_ hk => .inl hk));have HB := am (Below.refl w.heap.size w);unfold b_Add.f at h;have H := h;clear h;replace H := Option.bind_eq_some_iff.mp H;obtain ⟨aF, aP, H⟩ := H;replace H : (if aF = true then (if (a1.size : Int) > 64 then (some (af, ag, ah, ae, 5)) else (if a2 = 0 then (some (af, ag, ah, ae, 7)) else ((sip_Sum.f k af ag a1).bind fun aq => ((wide_Of.f a2).bind fun bt183 => ((b_add.f k af ag ah ae a1 aq bt183.1 bt183.2).bind fun bt185 => (some (bt185.1, bt185.2.1, bt185.2.2.1, bt185.2.2.2.1, bt185.2.2.2.2))))))) else (some (af, ag, ah, ae, 1))) = some (r1, r2, r3, r4, r5) := H;have A4 := am aP;clear aP
  by_cases c5 : aF = true
  · subst c5
    rw [if_pos rfl] at H
    by_cases c6 : (a1.size : Int) > 64
    · rw [if_pos c6] at H
      have aR : decide (64 < (a1.size : Int)) = true := decide_eq_true c6;have aS : decide (64 < a1.size) = true := decide_eq_true (by omega);clear c6;obtain ⟨rfl, rfl, rfl, rfl, rfl⟩ := J5 H;go_enter Try.func13, Try.ntmps13;go_wp2_with (first | (refine bE 3 #[.int .u64 af, .int .u64 ag, .int .i64 ah, .slice an ae.length ao] 40 ?_; intro ap hg w7 ac hb; replace aa := ve aa hg hb; have av := gq hg HB; replace HB := lb HB hb; clear hb hg) | (refine bE 6 #[.int .u64 0, .int .u64 0, .int .i64 0, .slice none 0 0] 40 ?_; intro ak hg w8 ad hb; replace aa := ve aa hg hb; have aw := gq hg HB; replace HB := lb HB hb; obtain ⟨ai, aj, bq, br⟩ := pm hg ac; replace ac := kb ac hb; clear hb hg; have aV := g4 ac) | (refine gl (some 10) Try.func31 #[.agg #[.int .u64 af, .int .u64 ag, .int .i64 ah, .slice an ae.length ao]] ?_; (with_reducible refine (b_Right.calls k af ag ah _ _ ae true _ ?side1 ?side2 A4.out).mono ?_); (case side1 => exact pc (Kd.V_reads' aa.out).2.2); (case side2 => exact (Kd.V_reads' aa.out).2.1); rintro e bA ⟨rfl, hb⟩; refine ⟨_, rfl, ?_⟩; replace aa := vb aa hb; replace ac := kb ac hb; replace ad := kb ad hb; replace HB := lb HB hb; clear hb; have aW := g4 ac; have aX := g4 ad));refine bodyPost_ret (results_ct rfl _ _ _ _ _ _ _ rfl (s4 rfl ad).out Try.underlying40 rfl (by kernel_rfl)) rfl ?_;exact ⟨_, ey (h := ⟨Kd.V_mono (vf (f4 rfl) aa fun _ hk => hk.2).out (fun _ hk => hk.1.1), pb HB⟩)⟩
    · rw [if_neg c6] at H
      have aR : decide (64 < (a1.size : Int)) = false := decide_eq_false c6;have aS : decide (64 < a1.size) = false := decide_eq_false (by omega);clear c6
      by_cases au : a2 = 0
      · rw [if_pos au] at H
        have aM := beq_iff_eq.mpr au;have aN := bne_eq_false_iff_eq.mpr au;clear au;obtain ⟨rfl, rfl, rfl, rfl, rfl⟩ := J5 H;go_enter Try.func13, Try.ntmps13;go_wp2_with (first | (refine bE 3 #[.int .u64 af, .int .u64 ag, .int .i64 ah, .slice an ae.length ao] 40 ?_; intro ap hg bB ac hb; replace aa := ve aa hg hb; have av := gq hg HB; replace HB := lb HB hb; clear hb hg) | (refine bE 6 #[.int .u64 0, .int .u64 0, .int .i64 0, .slice none 0 0] 40 ?_; intro ak hg bC ad hb; replace aa := ve aa hg hb; have aw := gq hg HB; replace HB := lb HB hb; obtain ⟨ai, aj, bg, bh⟩ := pm hg ac; replace ac := kb ac hb; clear hb hg; have aY := g4 ac) | (refine gl (some 10) Try.func31 #[.agg #[.int .u64 af, .int .u64 ag, .int .i64 ah, .slice an ae.length ao]] ?_; (with_reducible refine (b_Right.calls k af ag ah _ _ ae true _ ?side1 ?side2 A4.out).mono ?_); (case side1 => exact pc (Kd.V_reads' aa.out).2.2); (case side2 => exact (Kd.V_reads' aa.out).2.1); rintro e bD ⟨rfl, hb⟩; refine ⟨_, rfl, ?_⟩; replace aa := vb aa hb; replace ac := kb ac hb; replace ad := kb ad hb; replace HB := lb HB hb; clear hb; have aZ := g4 ac; have a0 := g4 ad));refine bodyPost_ret (results_ct rfl _ _ _ _ _ _ _ rfl (s4 rfl ad).out Try.underlying40 rfl (by kernel_rfl)) rfl ?_;exact ⟨_, ey (h := ⟨Kd.V_mono (vf (f4 rfl) aa fun _ hk => hk.2).out (fun _ hk => hk.1.1), pb HB⟩)⟩
      · rw [if_neg au] at H
        have aM := beq_eq_false_iff_ne.mpr au;have aN := bne_iff_ne.mpr au;replace H := Option.bind_eq_some_iff.mp H;obtain ⟨aq, aG, H⟩ := H;replace H : ((wide_Of.f a2).bind fun bt183 => ((b_add.f k af ag ah ae a1 aq bt183.1 bt183.2).bind fun bt185 => (some (bt185.1, bt185.2.1, bt185.2.2.1, bt185.2.2.2.1, bt185.2.2.2.2)))) = some (r1, r2, r3, r4, r5) := H;have ba := am aG;clear aG;replace H := Option.bind_eq_some_iff.mp H;obtain ⟨⟨ax, ay⟩, aH, H⟩ := H;replace H : ((b_add.f k af ag ah ae a1 aq ax ay).bind fun bt185 => (some (bt185.1, bt185.2.1, bt185.2.2.1, bt185.2.2.2.1, bt185.2.2.2.2))) = some (r1, r2, r3, r4, r5) := H;have bb := am aH;clear aH;replace H := Option.bind_eq_some_iff.mp H;obtain ⟨⟨az, aA, aB, aC, aI⟩, aJ, H⟩ := H;replace H : (some (az, aA, aB, aC, aI)) = some (r1, r2, r3, r4, r5) := H;have bc := am aJ;clear aJ;obtain ⟨rfl, rfl, rfl, rfl, rfl⟩ := J5 H;go_enter Try.func13, Try.ntmps13
        try go_wp2_with (first | (refine bE 3 #[.int .u64 af, .int .u64 ag, .int .i64 ah, .slice an ae.length ao] 40 ?_; intro ap hg bG ac hb; replace aa := ve aa hg hb; have av := gq hg HB; replace HB := lb HB hb; clear hb hg) | (refine bE 6 #[.int .u64 0, .int .u64 0, .int .i64 0, .slice none 0 0] 40 ?_; intro ak hg bH ad hb; replace aa := ve aa hg hb; have aw := gq hg HB; replace HB := lb HB hb; obtain ⟨ai, aj, bi, bj⟩ := pm hg ac; replace ac := kb ac hb; clear hb hg; have a3 := g4 ac) | (refine gl (some 10) Try.func31 #[.agg #[.int .u64 af, .int .u64 ag, .int .i64 ah, .slice an ae.length ao]] ?_; (with_reducible refine (b_Right.calls k af ag ah _ _ ae true _ ?side1 ?side2 A4.out).mono ?_); (case side1 => exact pc (Kd.V_reads' aa.out).2.2); (case side2 => exact (Kd.V_reads' aa.out).2.1); rintro e bd ⟨rfl, hb⟩; refine ⟨_, rfl, ?_⟩; replace aa := vb aa hb; replace ac := kb ac hb; replace ad := kb ad hb; replace HB := lb HB hb; clear hb))
        replace aa := am (Kd.V_drew aa.out);replace ac := am (blk_drew ac.out);replace ad := am (blk_drew ad.out);replace HB := am (below_drew1 HB.out);refine start_ (n := 14) (S := fun w' => ci w' ap 0 .u64 af ∧ ci w' ap 1 .u64 ag ∧ ci w' ap 2 .i64 ah ∧ w'.cell? ⟨ap, 3, none⟩ = some (.slice an ae.length ao)) (ds := []) #[bF, bF, bF, bF, bF, bF, bF, bF, bF, bF, bF, bF, bF, bF] (by kernel_rfl) rfl rfl (Q4 ac) (fun hh => ?_); refine with_tabW b_Add.tab7 b_Add.bits7 (fun HT_ HW_ => ?_);generalize bd.drew = bI at aa ac ad HB hh ⊢;refine P2 1 2 ?_;refine P2 4 6 ?_;refine ta 0 hh ?_;refine ta 3 hh ?_;refine on1 5 (fun K hK => ?_);refine gs Try.func33 #[.agg #[.int .u64 af, .int .u64 ag], .string a1] ?_;(with_reducible refine (sip_Sum.calls k af ag a1 aq _ ba.out).mono ?_);rintro e bJ ⟨rfl, hb⟩;refine ⟨_, rfl, ?_⟩;replace aa := vb aa hb;replace ac := kb ac hb;replace ad := kb ad hb;replace HB := lb HB hb;clear hb;refine hK.out _ _ (Q4 ac) (fun hh => ?_);clear hK K;refine nm ?_;refine on1 7 (fun K hK => ?_);refine gs Try.func24 #[.int .u64 a2] ?_;(with_reducible refine (wide_Of.calls a2 ax ay _ bb.out).mono ?_);rintro e bK ⟨rfl, hb⟩;refine ⟨_, rfl, ?_⟩;replace aa := vb aa hb;replace ac := kb ac hb;replace ad := kb ad hb;replace HB := lb HB hb;clear hb;refine hK.out _ _ (Q4 ac) (fun hh => ?_);clear hK K;refine nm ?_;refine pu 8 ?_;refine on1 9 (fun K hK => ?_);refine gs Try.func32 #[.agg #[.int .u64 af, .int .u64 ag, .int .i64 ah, .slice an ae.length ao], .agg #[.string a1, .int .u64 aq, .int .u64 ax, .int .u64 ay]] ?_;(with_reducible refine (b_add.calls k af ag ah (fun k_ => (((ar k_ ∨ w.heap.size ≤ k_) ∧ k_ ≠ ap) ∧ k_ ≠ ak)) _ _ ae a1 aq ax ay az aA aB aC aI _ ?side1 bc.out).mono ?_);(case side1 => exact aa.out);rintro e aD ⟨bs, rfl, aQ, hb⟩;refine ⟨_, rfl, ?_⟩;replace aa := vb aa hb;have aE := am (Kd.V_lower (Kd.V_mono (ok' := fun k_ => (ar k_ ∨ w.heap.size ≤ k_) ∧ k_ ≠ ap ∧ k_ ≠ ak) aQ (fun k_ hk_ => ⟨Or.elim hk_ (fun hs_ => hs_.1.1) (fun hn_ => (.inr (Nat.le_trans (below_size (pb HB)) hn_))), hk_.elim (·.1.2) (nb ac k_ ·), hk_.elim (·.2) (nb ad k_ ·)⟩)) (below_size (pb HB)));replace ac := kb ac hb;replace ad := kb ad hb;replace HB := lb HB hb;clear hb aQ;obtain ⟨aT, aU, aK⟩ := Kd.V_slice aE.out;(first | subst aK | (injection aK with f1_ f2_ f3_; have f4_ := f1_.symm; have f5_ := f3_.symm; clear f1_ f2_ f3_; subst f4_; subst f5_));refine hK.out _ _ (Q4 ac) (fun hh => ?_);clear hK K;refine nm ?_;refine P2 10 11 ?_;refine one_ (i := 12) (N := none) #[bT, bT, bT, bT, bT, bT, bT, bT, bT, bT, bT, bT, bT, bF] rfl rfl (one_of HT_.out (by kernel_rfl)) (by decide) (fun K hK => ?_);have bu : aD.cell? ⟨ak, 0, none⟩ = some (.int .u64 0) := ce ad 0;have bk := blk_frozen ad.out 0;have a4 := ai.out;have hms34_0 := aj.out;have bv : aD.cell? ⟨ak, 1, none⟩ = some (.int .u64 0) := ce ad 1;have bl := blk_frozen ad.out 1;have a5 := ai.out;have hms35_0 := aj.out;have bw : aD.cell? ⟨ak, 2, none⟩ = some (.int .i64 0) := ce ad 2;have bm := blk_frozen ad.out 2;have a6 := ai.out;have hms36_0 := aj.out;have bz : aD.cell? ⟨ak, 3, none⟩ = some (.slice none 0 0) := ce ad 3;have bn := blk_frozen ad.out 3;have a7 := ai.out;have hms38_0 := aj.out;refine skip_ (w1 := ?_) (by rfl) rfl ?_ ?_;rotate_left
        · go_simp
          rfl
        refine hK.out _ _ ⟨(q4 ai.out hh.1), (q4 ai.out hh.2.1), (q4 ai.out hh.2.2.1), (q4 ai.out hh.2.2.2)⟩ (fun hh => ?_);clear hK K;refine pu 13 ?_;refine done_ (done_of HT_.out (by kernel_rfl)) ?_
        try go_wp2
        refine bodyPost_ret (results_ct rfl _ _ _ _ _ _ _ rfl (s4 rfl ad).out Try.underlying40 rfl (by kernel_rfl)) rfl ?_;exact ⟨_, ey (h := ⟨Kd.V_mono (vf (f4 rfl) aE fun _ hk => hk.2.2).out (fun _ hk => hk.1), pb HB⟩)⟩
  · replace c5 := Bool.eq_false_iff.mpr c5
    subst c5;rw [if_neg nf] at H;obtain ⟨rfl, rfl, rfl, rfl, rfl⟩ := J5 H;go_enter Try.func13, Try.ntmps13;go_wp2_with (first | (refine bE 3 #[.int .u64 af, .int .u64 ag, .int .i64 ah, .slice an ae.length ao] 40 ?_; intro ap hg bL ac hb; replace aa := ve aa hg hb; have av := gq hg HB; replace HB := lb HB hb; clear hb hg) | (refine bE 6 #[.int .u64 0, .int .u64 0, .int .i64 0, .slice none 0 0] 40 ?_; intro ak hg bM ad hb; replace aa := ve aa hg hb; have aw := gq hg HB; replace HB := lb HB hb; obtain ⟨ai, aj, bo, bp⟩ := pm hg ac; replace ac := kb ac hb; clear hb hg; have a8 := g4 ac) | (refine gl (some 10) Try.func31 #[.agg #[.int .u64 af, .int .u64 ag, .int .i64 ah, .slice an ae.length ao]] ?_; (with_reducible refine (b_Right.calls k af ag ah _ _ ae false _ ?side1 ?side2 A4.out).mono ?_); (case side1 => exact pc (Kd.V_reads' aa.out).2.2); (case side2 => exact (Kd.V_reads' aa.out).2.1); rintro e bN ⟨rfl, hb⟩; refine ⟨_, rfl, ?_⟩; replace aa := vb aa hb; replace ac := kb ac hb; replace ad := kb ad hb; replace HB := lb HB hb; clear hb; have a9 := g4 ac; have a_ := g4 ad));refine bodyPost_ret (results_ct rfl _ _ _ _ _ _ _ rfl (s4 rfl ad).out Try.underlying40 rfl (by kernel_rfl)) rfl ?_;exact ⟨_, ey (h := ⟨Kd.V_mono (vf (f4 rfl) aa fun _ hk => hk.2).out (fun _ hk => hk.1.1), pb HB⟩)⟩
end Go.Proofs.Ytpbiobbddgipkaa.H
