import Derived.Test.YtmfffbafldbihaaHx0
namespace Go.Proofs.Ytmfffbafldbihaa.H
open Go.RowKit Go.Proofs.YtmfffbafldbihaaW.PrintWords Go.Proofs.YtmfffbafldbihaaW.PrintLast Go.Proofs.YtmfffbafldbihaaW.PrintMore Go.Proofs.YtmfffbafldbihaaW.Sq
attribute [local go_sem] max2_int min2_int max_two min_two max_three min_three max_four min_four
set_option linter.unusedVariables false
set_option linter.unusedSimpArgs false

def bottom_Entry_32.f (l0 : List S62) : Option (List S62) := if l0.length < 1099511627776 then some l0 else none
set_option maxHeartbeats 1000000 in
theorem bottom_Entry_32.calls (A0 : Option Addr) (c0 : Nat) (l0 : List S62) (r : List S62) (w : World) (aa : Kd.C k62 w A0 l0.length l0) (ae : l0.length ≤ c0) (h : bottom_Entry_32.f l0 = some r) :
  Calls Try.prog 32 #[.slice A0 l0.length c0] w fun e w' => ∃ ac : Value, e = .returned ac ∧ Kd.R k62 62 w' w.heap.size (fun _ => True) ac r ∧ Below w.heap.size w w' := by
 unfold bottom_Entry_32.f at h
 by_cases hl : l0.length < 1099511627776
 case neg => rw [if_neg hl] at h; cases h
 rw [if_pos hl] at h;obtain rfl := Option.some.inj h;clear h;have HR := am aa;have HL := am (show l0.length * 40 ≤ 140737488355328 by omega);clear hl
 cases A0 with
 | none =>
  have h0 : l0 = [] := by
   rcases Nat.eq_zero_or_pos l0.length with h0 | h0
   ·exact List.eq_nil_of_length_eq_zero h0
   ·obtain ⟨ad, he, _⟩ := aa.2.2 h0;cases he
  clear aa HL;subst h0
  have HE : ∀ W : World, (binOp .eql 25 (.slice none 0 c0) (.slice none 0 0)).run Try.prog W = .ok (.bool true) W := fun W => Lib.run_eql_slice_nil W 25 62 none _ c0 0 0 Try.underlying25
  go_enter Try.func32, Try.ntmps32
  go_wp2
  go_ret
  exact ⟨_, rfl, Kd.R_nil _ _ _ _ _, Below.refl _ _⟩
 | some ad =>
  clear aa
  have HE : ∀ W : World, (binOp .eql 25 (.slice (some ad) l0.length c0) (.slice none 0 0)).run Try.prog W = .ok (.bool false) W := fun W => Lib.run_eql_slice_nil W 25 62 (some ad) l0.length c0 0 0 Try.underlying25
  go_enter Try.func32, Try.ntmps32
  go_wp2_with (((with_reducible refine gate_builtin (b := .append) (xs := #[.tmp 5, .tmp 6]) rfl ?_); at_builtin; refine Kd.R_append_rows k62 (Rr := k62.K w) (w0 := w) w.heap.size rfl (.tmp 5) (.tmp 6) 25 62 (.agg #[.string ⟨#[]⟩, .int .u64 0, .int .u64 0, .int .u64 0]) 40 rfl Try.underlying25 info62 rfl (by decide) (by omega) (.slice (some ⟨w.heap.size, 0, none⟩) 0 0) [] l0 (some ad) l0.length c0 (fun _ => True) (fun k_ => k_ ≠ w.heap.size) rfl rfl ?aO ?aC ?aK ?aP ?aF ?aB ?aS ?aL ?_; (case aO => exact ⟨fun _ _ => trivial, [], World.ownsRow_lit (base := w.heap.size) (e := 62) (size := 4) w #[] 0 (Nat.le_refl _) (by decide) rfl, Reps.none _ _⟩); (case aC => exact Kd.C_below HR.out (below_alloc (Below.refl _ _) _)); (case aK => intro x cs hK; obtain rfl := k62_open hK; exact k62_mkM _ _ _ x); (case aP => exact fun k_ hk_ => ⟨trivial, fun e => hk_ (by simpa [Value.ownBlock] using e)⟩); (case aF => exact fun _ _ => trivial); (case aB => exact below_alloc (Below.refl _ _) _); (case aS => exact (below_alloc (Below.refl _ _) _).size); (case aL => simpa using HL.out); intro v1 w1 hr hb hg hat; have HN1 := am hr; have HB1 := am hb; clear hr hb hg hat))
  go_ret
  exact ⟨_, rfl, by have h := HN1.out; rwa [List.nil_append] at h, HB1.out⟩
def cmp_Or_int.l0 : Nat → Int → List Int → Int → Int → Option (Int)
 | 0, _, _, _, _ => none
 | k + 1, x3, x6, x7, x8 => if x8 < x7 then (if 0 ≤ x8 then (if x8 < (x6.length : Int) then (if (rd x6 x8) = x3 then (cmp_Or_int.l0 k x3 x6 x7 (wrap64 (x8 + 1))) else (some (rd x6 x8))) else (none)) else (none)) else (some x3)
def cmp_Or_int.f (k : Nat) (l0 : List Int) : Option (Int) := cmp_Or_int.l0 k 0 l0 (l0.length : Int) 0
theorem cmp_Or_int.mono_l : ∀ k, (∀ y0 y1 y2 y3, LeO (cmp_Or_int.l0 k y0 y1 y2 y3) (cmp_Or_int.l0 (k + 1) y0 y1 y2 y3))
 | 0 => fun _ _ _ _ r h => by simp [cmp_Or_int.l0] at h
 | k + 1 => by
  have ih0 := cmp_Or_int.mono_l k
  ·intro y0 y1 y2 y3
   unfold cmp_Or_int.l0
   repeat' first
   | (with_reducible exact ih0 _ _ _ _)
   | (with_reducible exact LeO.refl _)
   | (with_reducible exact LeO.none _)
   | (with_reducible refine LeO.ite ?_ ?_)
   | (with_reducible refine LeO.bind ?_ (fun _ => ?_))
theorem cmp_Or_int.mono : ∀ a0 k, LeO (cmp_Or_int.f k a0) (cmp_Or_int.f (k + 1) a0) := by
 intro a0 k
 have ih0 := cmp_Or_int.mono_l k
 unfold cmp_Or_int.f
 repeat' first
   | (with_reducible exact ih0 _ _ _ _)
   | (with_reducible exact LeO.refl _)
   | (with_reducible exact LeO.none _)
   | (with_reducible refine LeO.ite ?_ ?_)
   | (with_reducible refine LeO.bind ?_ (fun _ => ?_))
set_option maxHeartbeats 8000000 in
set_option maxRecDepth 100000 in
theorem cmp_Or_int.calls (k : Nat) (A0 : Option Addr) (c0 : Nat) (l0 : List Int) (r : Int) (w : World) (ah : Kd.C (Kd.int .i64) w A0 l0.length l0) (ai : l0.length ≤ c0) (h : cmp_Or_int.f k l0 = some r) :
  Calls Try.prog 45 #[.slice A0 l0.length c0] w fun e w' => e = .returned (.int .i64 r) ∧ Drawn0 w w' := by
 have aj := am ah;have ar := am ai;clear ah ai;have H : (cmp_Or_int.l0 k 0 l0 (l0.length : Int) 0) = some r := h;clear h;have H' := am H;clear H
 go_enter Try.func45, Try.ntmps45
 go_wp2
 go_loopg [8] k (fun kq v8 w' => ∃ (aa : Int), v8 = .int .i64 aa ∧ Aside0 (cmp_Or_int.l0 kq 0 l0 (l0.length : Int) aa = some r) ∧ Aside0 (kq ≤ k) ∧ Drawn0 w w')
 case atStart => exact ⟨(0), (by first | rfl | (simp; done) | (simp [*]; done)), H', ⟨Nat.le_refl _⟩, by repeat (first | exact Drawn0.refl _ | apply Drawn0.step)⟩
 case round =>
  clear H';obtain ⟨aa, rfl, HA, HK1, ⟨m1, rfl⟩⟩ := hrel
  cases gk with
  | zero => exact absurd HA.out (by simp [cmp_Or_int.l0])
  | succ k1 =>
   have H := HA.out;clear HA
   simp only [cmp_Or_int.l0] at H
   by_cases c2 : aa < (l0.length : Int)
   ·rw [if_pos c2] at H;have ak : decide (aa < (l0.length : Int)) = true := decide_eq_true c2;clear c2
    by_cases c3 : 0 ≤ aa
    ·rw [if_pos c3] at H;have ap : decide (0 ≤ aa) = true := decide_eq_true c3;clear c3
     by_cases c4 : aa < (l0.length : Int)
     ·rw [if_pos c4] at H;have aq : decide (aa < (l0.length : Int)) = true := decide_eq_true c4;clear c4
      by_cases c5 : (rd l0 aa) = 0
      ·rw [if_pos c5] at H;have an : ((rd l0 aa) == 0) = true := beq_iff_eq.mpr c5;have ao : ((rd l0 aa) != 0) = false := bne_eq_false_iff_eq.mpr c5;clear c5;have H' := am H;clear H;have ac : 0 ≤ (aa : Int) := of_decide_eq_true (by first | (with_reducible assumption) | assumption);have ad : aa < (l0.length : Int) := of_decide_eq_true (by first | (with_reducible assumption) | assumption);obtain ⟨ag, ae, af⟩ := Kd.at_int aj.out aa ac ad;cases ae;replace ac := eq_true ac;replace ad := eq_true ad
       go_wp2
       go_roundg k1
       case measure => have := HK1.out; omega
       case rel => exact ⟨(wrap64 (aa + 1)), (by first | rfl | (simp; done) | (simp [*]; done)), H', ⟨by have := HK1.out; omega⟩, by repeat (first | exact Drawn0.refl _ | apply Drawn0.step)⟩
      ·rw [if_neg c5] at H;have an : ((rd l0 aa) == 0) = false := beq_eq_false_iff_ne.mpr c5;have ao : ((rd l0 aa) != 0) = true := bne_iff_ne.mpr c5;obtain rfl := Option.some.inj H;have ac : 0 ≤ (aa : Int) := of_decide_eq_true (by first | (with_reducible assumption) | assumption);have ad : aa < (l0.length : Int) := of_decide_eq_true (by first | (with_reducible assumption) | assumption);obtain ⟨ag, ae, af⟩ := Kd.at_int aj.out aa ac ad;cases ae;replace ac := eq_true ac;replace ad := eq_true ad
       go_wp2
       go_ret
       exact ⟨by first | rfl | (simp; done) | (simp [*]; done), by repeat (first | exact Drawn0.refl _ | apply Drawn0.step)⟩
     ·rw [if_neg c4] at H;exact absurd H (by simp)
    ·rw [if_neg c3] at H;exact absurd H (by simp)
   ·rw [if_neg c2] at H;have ak : decide (aa < (l0.length : Int)) = false := decide_eq_false c2;clear c2;obtain rfl := Option.some.inj H
    go_wp2
    go_ret
    exact ⟨by first | rfl | (simp; done) | (simp [*]; done), by repeat (first | exact Drawn0.refl _ | apply Drawn0.step)⟩
def cmp_isNaN_uint64.f (a0 : Int) : Option (Bool) := some (a0 != a0)
set_option maxHeartbeats 8000000 in
set_option maxRecDepth 100000 in
theorem cmp_isNaN_uint64.calls (a0 : Int) (r : Bool) (w : World) (h : cmp_isNaN_uint64.f a0 = some r) :
  Calls Try.prog 58 #[.int .u64 a0] w fun e w' => e = .returned (.bool r) ∧ Drawn0 w w' := by
 have H : (some (a0 != a0)) = some r := h;clear h;obtain rfl := Option.some.inj H
 go_enter Try.func58, Try.ntmps58
 go_wp2
 go_ret
 exact ⟨by first | rfl | (simp; done) | (simp [*]; done), by repeat (first | exact Drawn0.refl _ | apply Drawn0.step)⟩

def cmp_Compare_uint64.f (a0 : Int) (a1 : Int) : Option (Int) := (cmp_isNaN_uint64.f a0).bind fun t102 => ((cmp_isNaN_uint64.f a1).bind fun t103 => (if t102 = true then (if t103 = true then (some 0) else (some (-1))) else (if t103 = true then (some 1) else (if a0 < a1 then (some (-1)) else (if a0 > a1 then (some 1) else (some 0))))))
set_option maxHeartbeats 8000000 in
set_option maxRecDepth 100000 in
theorem cmp_Compare_uint64.calls (a0 : Int) (a1 : Int) (r : Int) (w : World) (h : cmp_Compare_uint64.f a0 a1 = some r) :
  Calls Try.prog 46 #[.int .u64 a0, .int .u64 a1] w fun e w' => e = .returned (.int .i64 r) ∧ Drawn0 w w' := by
 have H : ((cmp_isNaN_uint64.f a0).bind fun ac => ((cmp_isNaN_uint64.f a1).bind fun aa => (if ac = true then (if aa = true then (some 0) else (some (-1))) else (if aa = true then (some 1) else (if a0 < a1 then (some (-1)) else (if a0 > a1 then (some 1) else (some 0))))))) = some r := h;clear h;replace H := Option.bind_eq_some_iff.mp H;obtain ⟨ac, ad, H⟩ := H
 try dsimp only at H
 have A3 := am ad;clear ad;replace H := Option.bind_eq_some_iff.mp H;obtain ⟨aa, ae, H⟩ := H
 try dsimp only at H
 have A4 := am ae;clear ae
 by_cases c5 : ac = true
 ·subst c5
  have H1 : (if aa = true then (some 0) else (some (-1))) = some r := by rw [if_pos rfl] at H; exact H
  clear H;have H := H1;clear H1
  by_cases c6 : aa = true
  ·subst c6
   have H1 : (some 0) = some r := by rw [if_pos rfl] at H; exact H
   clear H;have H := H1;clear H1;obtain rfl := Option.some.inj H
   go_enter Try.func46, Try.ntmps46
   go_wp2_with (first | ((with_reducible refine gate_callee (f := 58) rfl ?_); refine gl (some 8) Try.func58 #[.int .u64 a0] ?_; (with_reducible refine (cmp_isNaN_uint64.calls a0 true _ A3.out).mono ?_); rintro e w' ⟨rfl, ⟨nd, rfl⟩⟩; refine ⟨_, rfl, ?_⟩) | ((with_reducible refine gate_callee (f := 58) rfl ?_); refine gl (some 10) Try.func58 #[.int .u64 a1] ?_; (with_reducible refine (cmp_isNaN_uint64.calls a1 true _ A4.out).mono ?_); rintro e w' ⟨rfl, ⟨nd, rfl⟩⟩; refine ⟨_, rfl, ?_⟩))
   go_ret
   exact ⟨by first | rfl | (simp; done) | (simp [*]; done), by repeat (first | exact Drawn0.refl _ | apply Drawn0.step)⟩
  replace c6 := Bool.eq_false_iff.mpr c6;subst c6
  have H1 : (some (-1)) = some r := by rw [if_neg (show ¬ (false = true) by decide)] at H; exact H
  clear H;have H := H1;clear H1;obtain rfl := Option.some.inj H
  go_enter Try.func46, Try.ntmps46
  go_wp2_with (first | ((with_reducible refine gate_callee (f := 58) rfl ?_); refine gl (some 8) Try.func58 #[.int .u64 a0] ?_; (with_reducible refine (cmp_isNaN_uint64.calls a0 true _ A3.out).mono ?_); rintro e w' ⟨rfl, ⟨nd, rfl⟩⟩; refine ⟨_, rfl, ?_⟩) | ((with_reducible refine gate_callee (f := 58) rfl ?_); refine gl (some 10) Try.func58 #[.int .u64 a1] ?_; (with_reducible refine (cmp_isNaN_uint64.calls a1 false _ A4.out).mono ?_); rintro e w' ⟨rfl, ⟨nd, rfl⟩⟩; refine ⟨_, rfl, ?_⟩))
  go_ret
  exact ⟨by first | rfl | (simp; done) | (simp [*]; done), by repeat (first | exact Drawn0.refl _ | apply Drawn0.step)⟩
 replace c5 := Bool.eq_false_iff.mpr c5;subst c5
 have H1 : (if aa = true then (some 1) else (if a0 < a1 then (some (-1)) else (if a0 > a1 then (some 1) else (some 0)))) = some r := by rw [if_neg (show ¬ (false = true) by decide)] at H; exact H
 clear H;have H := H1;clear H1
 by_cases c7 : aa = true
 ·subst c7
  have H1 : (some 1) = some r := by rw [if_pos rfl] at H; exact H
  clear H;have H := H1;clear H1;obtain rfl := Option.some.inj H
  go_enter Try.func46, Try.ntmps46
  go_wp2_with (first | ((with_reducible refine gate_callee (f := 58) rfl ?_); refine gl (some 8) Try.func58 #[.int .u64 a0] ?_; (with_reducible refine (cmp_isNaN_uint64.calls a0 false _ A3.out).mono ?_); rintro e w' ⟨rfl, ⟨nd, rfl⟩⟩; refine ⟨_, rfl, ?_⟩) | ((with_reducible refine gate_callee (f := 58) rfl ?_); refine gl (some 10) Try.func58 #[.int .u64 a1] ?_; (with_reducible refine (cmp_isNaN_uint64.calls a1 true _ A4.out).mono ?_); rintro e w' ⟨rfl, ⟨nd, rfl⟩⟩; refine ⟨_, rfl, ?_⟩))
  go_ret
  exact ⟨by first | rfl | (simp; done) | (simp [*]; done), by repeat (first | exact Drawn0.refl _ | apply Drawn0.step)⟩
 replace c7 := Bool.eq_false_iff.mpr c7;subst c7
 have H1 : (if a0 < a1 then (some (-1)) else (if a0 > a1 then (some 1) else (some 0))) = some r := by rw [if_neg (show ¬ (false = true) by decide)] at H; exact H
 clear H;have H := H1;clear H1
 by_cases c8 : a0 < a1
 ·rw [if_pos c8] at H;have af : decide (a0 < a1) = true := decide_eq_true c8;clear c8;obtain rfl := Option.some.inj H
  go_enter Try.func46, Try.ntmps46
  go_wp2_with (first | ((with_reducible refine gate_callee (f := 58) rfl ?_); refine gl (some 8) Try.func58 #[.int .u64 a0] ?_; (with_reducible refine (cmp_isNaN_uint64.calls a0 false _ A3.out).mono ?_); rintro e w' ⟨rfl, ⟨nd, rfl⟩⟩; refine ⟨_, rfl, ?_⟩) | ((with_reducible refine gate_callee (f := 58) rfl ?_); refine gl (some 10) Try.func58 #[.int .u64 a1] ?_; (with_reducible refine (cmp_isNaN_uint64.calls a1 false _ A4.out).mono ?_); rintro e w' ⟨rfl, ⟨nd, rfl⟩⟩; refine ⟨_, rfl, ?_⟩))
  go_ret
  exact ⟨by first | rfl | (simp; done) | (simp [*]; done), by repeat (first | exact Drawn0.refl _ | apply Drawn0.step)⟩
 rw [if_neg c8] at H;have af : decide (a0 < a1) = false := decide_eq_false c8;clear c8
 by_cases c9 : a0 > a1
 ·rw [if_pos c9] at H;have ag : decide (a1 < a0) = true := decide_eq_true c9;clear c9;obtain rfl := Option.some.inj H
  go_enter Try.func46, Try.ntmps46
  go_wp2_with (first | ((with_reducible refine gate_callee (f := 58) rfl ?_); refine gl (some 8) Try.func58 #[.int .u64 a0] ?_; (with_reducible refine (cmp_isNaN_uint64.calls a0 false _ A3.out).mono ?_); rintro e w' ⟨rfl, ⟨nd, rfl⟩⟩; refine ⟨_, rfl, ?_⟩) | ((with_reducible refine gate_callee (f := 58) rfl ?_); refine gl (some 10) Try.func58 #[.int .u64 a1] ?_; (with_reducible refine (cmp_isNaN_uint64.calls a1 false _ A4.out).mono ?_); rintro e w' ⟨rfl, ⟨nd, rfl⟩⟩; refine ⟨_, rfl, ?_⟩))
  go_ret
  exact ⟨by first | rfl | (simp; done) | (simp [*]; done), by repeat (first | exact Drawn0.refl _ | apply Drawn0.step)⟩
 rw [if_neg c9] at H;have ag : decide (a1 < a0) = false := decide_eq_false c9;clear c9;obtain rfl := Option.some.inj H
 go_enter Try.func46, Try.ntmps46
 go_wp2_with (first | ((with_reducible refine gate_callee (f := 58) rfl ?_); refine gl (some 8) Try.func58 #[.int .u64 a0] ?_; (with_reducible refine (cmp_isNaN_uint64.calls a0 false _ A3.out).mono ?_); rintro e w' ⟨rfl, ⟨nd, rfl⟩⟩; refine ⟨_, rfl, ?_⟩) | ((with_reducible refine gate_callee (f := 58) rfl ?_); refine gl (some 10) Try.func58 #[.int .u64 a1] ?_; (with_reducible refine (cmp_isNaN_uint64.calls a1 false _ A4.out).mono ?_); rintro e w' ⟨rfl, ⟨nd, rfl⟩⟩; refine ⟨_, rfl, ?_⟩))
 go_ret
 exact ⟨by first | rfl | (simp; done) | (simp [*]; done), by repeat (first | exact Drawn0.refl _ | apply Drawn0.step)⟩

def bytealg_CompareString.f (a0 a1 : ByteArray) : Option Int := some (Lib.compareBytes a0.data.toList a1.data.toList)
theorem bytealg_CompareString.calls (a0 a1 : ByteArray) (r : Int) (w : World) (h : bytealg_CompareString.f a0 a1 = some r) :
  Calls Try.prog 59 #[.string a0, .string a1] w fun e w' => e = .returned (.int .i64 r) ∧ Drawn0 w w' := by
 obtain rfl := Option.some.inj h;clear h
 have hx : ∀ W : World, (callFunc 62 #[.string a0, .string a1]).run Try.prog W = .ok (.value (.int .i64 (Lib.compareBytes a0.data.toList a1.data.toList))) W := fun W => by
  rw [run_callFunc_extern Try.func62 (by kernel_rfl) (by kernel_rfl) (by kernel_rfl) (e := Extern.BytealgCompare.compare) (by kernel_rfl), Lib.run_compareString]
  rfl
 go_enter Try.func59, Try.ntmps59
 go_wp2_with (simp only [hx])
 go_ret
 exact ⟨rfl, ⟨0, rfl⟩⟩

def strings_Compare.f (a0 : ByteArray) (a1 : ByteArray) : Option (Int) := (bytealg_CompareString.f a0 a1).bind fun t104 => (some t104)
set_option maxHeartbeats 8000000 in
set_option maxRecDepth 100000 in
theorem strings_Compare.calls (a0 : ByteArray) (a1 : ByteArray) (r : Int) (w : World) (h : strings_Compare.f a0 a1 = some r) :
  Calls Try.prog 47 #[.string a0, .string a1] w fun e w' => e = .returned (.int .i64 r) ∧ Drawn0 w w' := by
 have H : ((bytealg_CompareString.f a0 a1).bind fun aa => (some aa)) = some r := h;clear h;replace H := Option.bind_eq_some_iff.mp H;obtain ⟨aa, ac, H⟩ := H
 try dsimp only at H
 have A3 := am ac;clear ac;obtain rfl := Option.some.inj H
 go_enter Try.func47, Try.ntmps47
 go_wp2_with (first | ((with_reducible refine gate_callee (f := 59) rfl ?_); refine gl (some 7) Try.func59 #[.string a0, .string a1] ?_; (with_reducible refine (bytealg_CompareString.calls a0 a1 aa _ A3.out).mono ?_); rintro e w' ⟨rfl, ⟨nd, rfl⟩⟩; refine ⟨_, rfl, ?_⟩))
 go_ret
 exact ⟨by first | rfl | (simp; done) | (simp [*]; done), by repeat (first | exact Drawn0.refl _ | apply Drawn0.step)⟩

def bottom_compare.f (k : Nat) (a0_0 : ByteArray) (a0_1 : Int) (a0_2 : Int) (a0_3 : Int) (a1_0 : ByteArray) (a1_1 : Int) (a1_2 : Int) (a1_3 : Int) : Option (Int) := (cmp_Compare_uint64.f a0_1 a1_1).bind fun t107 => ((strings_Compare.f a0_0 a1_0).bind fun t108 => ((cmp_Or_int.f k (([t107, t108] : List Int))).bind fun t112 => (some t112)))
theorem bottom_compare.mono : ∀ a0 a1 a2 a3 a4 a5 a6 a7 k, LeO (bottom_compare.f k a0 a1 a2 a3 a4 a5 a6 a7) (bottom_compare.f (k + 1) a0 a1 a2 a3 a4 a5 a6 a7) := by
 intro a0 a1 a2 a3 a4 a5 a6 a7 k
 unfold bottom_compare.f
 repeat' first
   | (with_reducible exact cmp_Or_int.mono _ _)
   | (with_reducible exact LeO.refl _)
   | (with_reducible exact LeO.none _)
   | (with_reducible refine LeO.ite ?_ ?_)
   | (with_reducible refine LeO.bind ?_ (fun _ => ?_))
def bottom_compare.T1 : Bool × List (List Nat × List Nat) := (true, [([], []), ([0], [0]), ([], []), ([2], [2]), ([1, 3], [1, 3]), ([], []), ([5], [5]), ([], []), ([7], [7]), ([6, 8, 4], [6, 8]), ([4, 9], [4, 9]), ([10, 9], [10]), ([11, 11, 0, 1, 2, 3, 4, 5, 6, 7, 8, 9, 10, 11], [11])])
def bottom_compare.B1 : List Nat := [0, 1, 0, 4, 15, 0, 32, 0, 128, 511, 1023, 2047, 4095]
theorem bottom_compare.tab1 : rtab .any (opsOf Try.f33 1) = bottom_compare.T1 := by kernel_rfl
theorem bottom_compare.bits1 : waitsOk bottom_compare.T1.2 bottom_compare.B1 = true := by kernel_rfl
set_option maxHeartbeats 8000000 in
set_option maxRecDepth 100000 in
theorem bottom_compare.calls (k : Nat) (af : ByteArray) (ag : Int) (ap : Int) (aq : Int) (ah : ByteArray) (ai : Int) (ar : Int) (au : Int) (r : Int) (w : World) (h : bottom_compare.f k af ag ap aq ah ai ar au = some r) :
  Calls Try.prog 33 #[.agg #[.string af, .int .u64 ag, .int .u64 ap, .int .u64 aq], .agg #[.string ah, .int .u64 ai, .int .u64 ar, .int .u64 au]] w fun e w' => e = .returned (.int .i64 r) ∧ Below w.heap.size w w' := by
 have hu62 := Try.underlying62;have HB := am (Below.refl w.heap.size w);have H : ((cmp_Compare_uint64.f ag ai).bind fun ad => ((strings_Compare.f af ah).bind fun ae => ((cmp_Or_int.f k (([ad, ae] : List Int))).bind fun an => (some an)))) = some r := h;clear h;replace H := Option.bind_eq_some_iff.mp H;obtain ⟨ad, ay, H⟩ := H
 try dsimp only at H
 have A3 := am ay;clear ay;replace H := Option.bind_eq_some_iff.mp H;obtain ⟨ae, az, H⟩ := H
 try dsimp only at H
 have A4 := am az;clear az;obtain ⟨aw, hy109⟩ : ∃ y_ : List Int, y_ = (([ad, ae] : List Int)) := ⟨_, rfl⟩
 replace H : ((cmp_Or_int.f k aw).bind fun an => (some an)) = some r := by first | (rw [hy109]; with_reducible exact H) | (have H2_ := (Option.bind_some _ _).symm.trans H; rw [hy109]; with_reducible exact H2_) | (have H2_ := (Option.bind_some _ _).symm.trans H; with_reducible exact H2_) | with_reducible exact H | (rw [hy109]; exact H) | exact H
 have Ny109 := am hy109;clear hy109;replace H := Option.bind_eq_some_iff.mp H;obtain ⟨an, aA, H⟩ := H
 try dsimp only at H
 have A5 := am aA;clear aA;obtain rfl := Option.some.inj H
 go_enter Try.func33, Try.ntmps33
 try go_wp2_with (first | ((with_reducible refine gate_dst (N := 2) rfl ?_); refine be 2 #[.string af, .int .u64 ag, .int .u64 ap, .int .u64 aq] 62 ?_; intro aj hg w6 hbox hb; have aa := am (hbox); have aF := gq hg HB; have aG := gq hg HB; replace HB := lb HB hb; clear hb hbox hg) | ((with_reducible refine gate_dst (N := 3) rfl ?_); refine be 3 #[.string ah, .int .u64 ai, .int .u64 ar, .int .u64 au] 62 ?_; intro ak hg w7 hbox hb; have ac := am (hbox); have aH := gq hg HB; have aI := gq hg HB; replace HB := lb HB hb; obtain ⟨aB, aC, -, -⟩ := pm hg aa; replace aa := kb aa hb; clear hb hbox hg))
 replace aa := am (blk_drew aa.out);replace ac := am (blk_drew ac.out);replace HB := am (below_drew1 HB.out)
 refine start_ (n := 13) (S := fun w' => w'.cell? ⟨aj, 0, none⟩ = some (.string af) ∧ w'.cell? ⟨aj, 1, none⟩ = some (.int .u64 ag) ∧ w'.cell? ⟨aj, 2, none⟩ = some (.int .u64 ap) ∧ w'.cell? ⟨aj, 3, none⟩ = some (.int .u64 aq) ∧ w'.cell? ⟨ak, 0, none⟩ = some (.string ah) ∧ w'.cell? ⟨ak, 1, none⟩ = some (.int .u64 ai) ∧ w'.cell? ⟨ak, 2, none⟩ = some (.int .u64 ar) ∧ w'.cell? ⟨ak, 3, none⟩ = some (.int .u64 au)) (ds := []) #[false, false, false, false, false, false, false, false, false, false, false, false, false] (by kernel_rfl) rfl rfl ⟨ce aa 0, ce aa 1, ce aa 2, ce aa 3, ce ac 0, ce ac 1, ce ac 2, ce ac 3⟩ (fun hHeld => ?_); refine with_tabW bottom_compare.tab1 bottom_compare.bits1 (fun HT_ HW_ => ?_)
 generalize w7.drew = w8 at aa ac HB hHeld ⊢
 refine pu 0 ?_
 refine pu 2 ?_
 refine pu 5 ?_
 refine pu 7 ?_
 refine ta 1 hHeld ?_
 refine ta 3 hHeld ?_
 refine ta 6 hHeld ?_
 refine ta 8 hHeld ?_
 refine on1 4 (fun K hK => ?_)
 refine gs Try.func46 #[.int .u64 ag, .int .u64 ai] ?_
 with_reducible refine (cmp_Compare_uint64.calls ag ai ad _ A3.out).mono ?_
 rintro e w' ⟨rfl, ⟨nd, rfl⟩⟩
 refine ⟨_, rfl, ?_⟩
 refine hK.out _ _ ⟨ce aa 0, ce aa 1, ce aa 2, ce aa 3, ce ac 0, ce ac 1, ce ac 2, ce ac 3⟩ (fun hHeld => ?_)
 clear hK K
 refine nm ?_
 refine on1 9 (fun K hK => ?_)
 refine gs Try.func47 #[.string af, .string ah] ?_
 with_reducible refine (strings_Compare.calls af ah ae _ A4.out).mono ?_
 rintro e w' ⟨rfl, ⟨nd, rfl⟩⟩
 refine ⟨_, rfl, ?_⟩
 refine hK.out _ _ ⟨ce aa 0, ce aa 1, ce aa 2, ce aa 3, ce ac 0, ce ac 1, ce ac 2, ce ac 3⟩ (fun hHeld => ?_)
 clear hK K
 refine nm ?_
 refine on1 10 (fun K hK => ?_)
 refine Kd.R_lit_step (Kd.int .i64) _ 3 ?hg (N := 15) ?hd (xs := ([ad, ae] : List Int)) (inner := [.int .i64 ad, .int .i64 ae]) (ok := fun _ => True) (okp := fun _ => True) ?hr ?hp (fun _ hk => hk) trivial (Below.refl _ _) (Nat.le_refl _) (by simp) ?_; (case hd => rfl); (case hg => rfl); (case hr => first | (go_simp; done) | (go_simp; rfl)); (case hp => exact (Reps.one (show Kd.M (Kd.int .i64) _ _ _ ad [.int .i64 ad] from rfl) (Reps.one (show Kd.M (Kd.int .i64) _ _ _ ae [.int .i64 ae] from rfl) (Reps.none _ _))))
 intro aJ w9 ao hb hg_ hnew_
 clear hg_ hnew_
 (first | rw [← Ny109.out] at ao | (simp only [Int.reduceToNat] at ao; rw [← Ny109.out] at ao))
 have av := am (Kd.R_lower ao (below_size (pb HB)));replace aa := kb aa hb;replace ac := kb ac hb;replace HB := lb HB hb;clear hb ao;obtain ⟨aD, aE, ax⟩ := Kd.R_slice av.out
 (first | subst ax | (injection ax with f1_ f2_ f3_; have f4_ := f1_.symm; have f5_ := f3_.symm; clear f1_ f2_ f3_; subst f4_; subst f5_))
 refine hK.out _ _ ⟨ce aa 0, ce aa 1, ce aa 2, ce aa 3, ce ac 0, ce ac 1, ce ac 2, ce ac 3⟩ (fun hHeld => ?_)
 clear hK K
 refine nm ?_
 refine on1 11 (fun K hK => ?_)
 refine gs Try.func45 #[.slice aD aw.length aE] ?_
 with_reducible refine (cmp_Or_int.calls k _ _ aw an _ ?side1 ?side2 A5.out).mono ?_
 (case side1 => repeat (first | exact (Kd.R_reads' av.out).2.2 | (with_reducible refine Kd.C_alloc ?_ _) | (with_reducible refine Kd.C_drewN ?_ _) | (with_reducible refine Kd.C_drew ?_)))
 (case side2 => exact (Kd.R_reads' av.out).2.1)
 rintro e w' ⟨rfl, ⟨nd, rfl⟩⟩
 refine ⟨_, rfl, ?_⟩
 refine hK.out _ _ ⟨ce aa 0, ce aa 1, ce aa 2, ce aa 3, ce ac 0, ce ac 1, ce ac 2, ce ac 3⟩ (fun hHeld => ?_)
 clear hK K
 refine nm ?_
 refine pu 12 ?_
 refine done_ (done_of HT_.out (by kernel_rfl)) ?_
 try go_wp2
 go_ret
 exact ⟨by first | rfl | (simp [errW_none, errW_some] <;> rfl) | (simp [*, errW_none, errW_some] <;> rfl), pb HB⟩

theorem enter_at {P : Program} {f : FuncId} {fn : Func} {c : Code} (hf : P.funcs[f]? = some fn) (hn : (fn.name == "runtime.NumGoroutine") = false) (hb : fn.body = some c) (args : Array Value) (w : World) : (callFunc f args).run P w = .ok (.enter f args) w := by
 have h1 : fn.name ≠ "runtime.NumGoroutine" := by simpa using hn
 simp [callFunc, hf, h1, hb, mark]
def idxF {α : Type} (p : α → Option Bool) : List α → Int → Option Int
 | [], _ => some (-1)
 | x :: l, i => (p x).bind fun b => if b = true then some i else idxF p l (i + 1)
theorem idxF_at {α : Type} (p : α → Option Bool) (l : List α) (d : α) (i : Int) (h0 : 0 ≤ i) (h1 : i < l.length) (r : Int) (h : idxF p (l.drop i.toNat) i = some r) :
  ∃ b, p (l.getD i.toNat d) = some b ∧ ((b = true ∧ r = i) ∨ (b = false ∧ idxF p (l.drop (i + 1).toNat) (i + 1) = some r)) := by
 have hn : i.toNat < l.length := by omega
 rw [List.drop_eq_getElem_cons hn, idxF, Option.bind_eq_some_iff] at h;obtain ⟨b, hb, h⟩ := h
 refine ⟨b, by rw [List.getD_eq_getElem?_getD, List.getElem?_eq_getElem hn]; exact hb, ?_⟩
 cases b with
 | true => exact .inl ⟨rfl, by simpa using h.symm⟩
 | false => exact .inr ⟨rfl, by rw [show (i + 1).toNat = i.toNat + 1 from by omega]; simpa using h⟩
theorem idxF_end {α : Type} (p : α → Option Bool) (l : List α) (i : Int) (h1 : ¬ i < l.length) (r : Int) (h : idxF p (l.drop i.toNat) i = some r) : r = -1 := by
 rw [List.drop_of_length_le (by omega), idxF] at h
 exact (Option.some.inj h).symm
def anyF {α : Type} (p : α → Option Bool) (l : List α) : Option Bool := (idxF p l 0).bind fun i => some (decide (i ≥ 0))
theorem idxF_leo {α : Type} {p q : α → Option Bool} (h : ∀ x, LeO (p x) (q x)) : ∀ (l : List α) (i : Int), LeO (idxF p l i) (idxF q l i)
 | [], _ => LeO.refl _
 | x :: l, i => LeO.bind (h x) (fun b => LeO.ite (LeO.refl _) (idxF_leo h l (i + 1)))
theorem anyF_leo {α : Type} {p q : α → Option Bool} (h : ∀ x, LeO (p x) (q x)) (l : List α) : LeO (anyF p l) (anyF q l) := LeO.bind (idxF_leo h l 0) (fun _ => LeO.refl _)
def bsF {α : Type} (p : α → Option Int) (l : List α) (d : α) : Nat → Int → Int → Option Int
 | 0, i, j => if i < j then none else some i
 | n + 1, i, j => if i < j then (p (l.getD ((i + j) / 2).toNat d)).bind fun c => if c < 0 then bsF p l d n ((i + j) / 2 + 1) j else bsF p l d n i ((i + j) / 2) else some i
def bsT {α : Type} (p : α → Option Int) (l : List α) (d : α) : Option (Int × Bool) :=
 (bsF p l d l.length 0 l.length).bind fun i => if i < l.length then (p (l.getD i.toNat d)).bind fun c => some (i, decide (c = 0)) else some (i, false)
theorem bsF_leo {α : Type} {p q : α → Option Int} (h : ∀ x, LeO (p x) (q x)) (l : List α) (d : α) : ∀ n i j, LeO (bsF p l d n i j) (bsF q l d n i j)
 | 0, _, _ => LeO.refl _
 | n + 1, _, _ => LeO.ite (LeO.bind (h _) (fun c => LeO.ite (bsF_leo h l d n _ _) (bsF_leo h l d n _ _))) (LeO.refl _)
theorem bsT_leo {α : Type} {p q : α → Option Int} (h : ∀ x, LeO (p x) (q x)) (l : List α) (d : α) : LeO (bsT p l d) (bsT q l d) :=
 LeO.bind (bsF_leo h l d _ _ _) (fun _ => LeO.ite (LeO.bind (h _) (fun _ => LeO.refl _)) (LeO.refl _))
theorem bsF_step {α : Type} {p : α → Option Int} {l : List α} {d : α} {n : Nat} {i j r : Int} (h : bsF p l d n i j = some r) (hij : i < j) :
  ∃ m c, n = m + 1 ∧ p (l.getD ((i + j) / 2).toNat d) = some c ∧ ((c < 0 ∧ bsF p l d m ((i + j) / 2 + 1) j = some r) ∨ (¬ c < 0 ∧ bsF p l d m i ((i + j) / 2) = some r)) := by
 cases n with
 | zero => rw [bsF, if_pos hij] at h; cases h
 | succ m =>
  rw [bsF, if_pos hij, Option.bind_eq_some_iff] at h;obtain ⟨c, hc, h⟩ := h
  refine ⟨m, c, rfl, hc, ?_⟩
  split at h
  ·exact .inl ⟨by assumption, h⟩
  ·exact .inr ⟨by assumption, h⟩
theorem bsF_end {α : Type} {p : α → Option Int} {l : List α} {d : α} {n : Nat} {i j r : Int} (h : bsF p l d n i j = some r) (hij : ¬ i < j) : r = i := by
 cases n <;> (rw [bsF, if_neg hij] at h; exact (Option.some.inj h).symm)
set_option maxHeartbeats 4000000 in
theorem BinarySearchFunc_calls (g : Nat) (lb : Array Value) (eg : ∀ args w, (callFunc g args).run Try.prog w = .ok (.enter g args) w) (p : S62 → Option Int) (x0 : ByteArray) (x1 : Int) (x2 : Int) (x3 : Int) (A0 : Option Addr) (c0 : Nat) (l0 : List S62) (r : Int) (b : Bool) (w : World)
  (hr0 : Kd.C k62 w A0 l0.length l0) (hc0 : l0.length ≤ c0) (hn : l0.length < 4611686018427387904)
  (hp : ∀ (W : World) (y : S62) (c : Int), Below w.heap.size w W → p y = some c → Calls Try.prog g (#[.agg #[.string y.f0, .int .u64 y.f1, .int .u64 y.f2.f0, .int .u64 y.f2.f1], .agg #[.string x0, .int .u64 x1, .int .u64 x2, .int .u64 x3]] ++ lb) W fun e w' => e = .returned (.int .i64 c) ∧ Below W.heap.size W w')
  (h : bsT p l0 z62 = some (r, b)) :
  Calls Try.prog 37 #[.slice A0 l0.length c0, .agg #[.string x0, .int .u64 x1, .int .u64 x2, .int .u64 x3], .func (.func g) #[] lb] w fun e w' => e = .returned (.tuple #[.int .i64 r, .bool b]) ∧ Below w.heap.size w w' := by
 obtain ⟨r0, h1, h2⟩ := Option.bind_eq_some_iff.1 h;clear h;have H1 := am h1;clear h1;have H2 := am h2;clear h2;have HP := am hp;clear hp;have HR := am hr0;clear hr0;have hu := Try.underlying62
 go_enter Try.func37, Try.ntmps37
 go_wp2
 go_loopg [9, 10] l0.length (fun gg s9 s10 wr => ∃ i j : Nat, s9 = .int .i64 i ∧ s10 = .int .i64 j ∧ i ≤ j ∧ j ≤ l0.length ∧ j - i ≤ gg ∧ Aside0 (Below w.heap.size w wr) ∧ Aside0 (wr.heap[w.heap.size]? = some (.cells #[.string x0, .int .u64 x1, .int .u64 x2, .int .u64 x3] 62 (0, 0))) ∧ Aside0 (∃ n, bsF p l0 z62 n i j = some r0))
 case atStart => exact ⟨0, l0.length, rfl, rfl, by omega, by omega, by omega, ⟨below_alloc (Below.refl _ w) _⟩, ⟨blk_new _ _⟩, ⟨_, H1.out⟩⟩
 case round =>
  clear H1;obtain ⟨i, j, rfl, rfl, hij, hjl, hg, BW, BX, HH⟩ := hrel;have hb : w.heap.size < wr.heap.size := blk_lt BX.out;have xc0 := blk_cell BX.out 0;have xc1 := blk_cell BX.out 1;have xc2 := blk_cell BX.out 2;have xc3 := blk_cell BX.out 3
  by_cases hlt : i < j
  ·obtain ⟨n, hF⟩ := HH.out;clear HH;obtain ⟨m, c, rfl, hc, hn'⟩ := bsF_step hF (by omega);have HN := am hn';clear hn' hF
   have e2 : ((i : Int) + (j : Int)) / 2 = (((i + j) / 2 : Nat) : Int) := by omega
   rw [e2] at hc HN;rw [show (((i + j) / 2 : Nat) : Int).toNat = (i + j) / 2 from by omega] at hc
   have hh : (i + j) / 2 < l0.length := by omega
   have hq1 : i ≤ (i + j) / 2 := by omega
   have hq2 : (i + j) / 2 < j := by omega
   obtain ⟨ad, e, hx0, hx1, hx2, hx3⟩ := at_T62 (Kd.C_below HR.out BW.out) (((i + j) / 2 : Nat) : Int) (by omega) (by omega);cases e
   simp only [Int.toNat_natCast] at hx0 hx1 hx2 hx3
   have HC := am (HP.out wr.drew (rd_T62 l0 (((i + j) / 2 : Nat) : Int)) c (below_drew1 BW.out) hc);clear hc;have E2 := am e2;clear e2
   by_cases hc0 : c < 0
   ·have d0 : decide (c < 0) = true := decide_eq_true hc0
    go_wp2_with fail
    rw [E2.out];clear E2
    generalize (i + j) / 2 = q at *
    go_region_held3 (fun w' => w'.cell? ⟨w.heap.size, 0, none⟩ = some (.string x0) ∧ w'.cell? ⟨w.heap.size, 1, none⟩ = some (.int .u64 x1) ∧ w'.cell? ⟨w.heap.size, 2, none⟩ = some (.int .u64 x2) ∧ w'.cell? ⟨w.heap.size, 3, none⟩ = some (.int .u64 x3) ∧ w'.cell? (ad.add (q * 4)) = some (.string (rd_T62 l0 q).f0) ∧ w'.cell? ⟨(ad.add (q * 4)).block, (ad.add (q * 4)).off + 1, none⟩ = some (.int .u64 (rd_T62 l0 q).f1) ∧ w'.cell? ⟨(ad.add (q * 4)).block, (ad.add (q * 4)).off + 2, none⟩ = some (.int .u64 (rd_T62 l0 q).f2.f0) ∧ w'.cell? ⟨(ad.add (q * 4)).block, (ad.add (q * 4)).off + 3, none⟩ = some (.int .u64 (rd_T62 l0 q).f2.f1)) (go_keep) ((refine HC.out.mono ?_; rintro e w' ⟨rfl, hb'⟩; have yhx0 := (hb'.cell (World.block_lt_of_cell? wr.drew _ hx0)).trans hx0; have yhx1 := (hb'.cell (World.block_lt_of_cell? wr.drew _ hx1)).trans hx1; have yhx2 := (hb'.cell (World.block_lt_of_cell? wr.drew _ hx2)).trans hx2; have yhx3 := (hb'.cell (World.block_lt_of_cell? wr.drew _ hx3)).trans hx3; have yxc0 := (hb'.cell (World.block_lt_of_cell? wr.drew _ xc0)).trans xc0; have yxc1 := (hb'.cell (World.block_lt_of_cell? wr.drew _ xc1)).trans xc1; have yxc2 := (hb'.cell (World.block_lt_of_cell? wr.drew _ xc2)).trans xc2; have yxc3 := (hb'.cell (World.block_lt_of_cell? wr.drew _ xc3)).trans xc3))
    go_wp2
    go_roundg (j - (q + 1))
    case measure => omega
    case rel => exact ⟨q + 1, j, by simp, rfl, by omega, hjl, Nat.le_refl _, ⟨below_then (below_drew1 BW.out) (below_drew1 BW.out).size hb'⟩, ⟨blk_below (blk_drew BX.out) hb'⟩, ⟨m, by rcases HN.out with h | h <;> first | exact h.2 | exact absurd hc0 (by omega)⟩⟩
   ·have d0 : decide (c < 0) = false := decide_eq_false hc0
    go_wp2_with fail
    rw [E2.out];clear E2
    generalize (i + j) / 2 = q at *
    go_region_held3 (fun w' => w'.cell? ⟨w.heap.size, 0, none⟩ = some (.string x0) ∧ w'.cell? ⟨w.heap.size, 1, none⟩ = some (.int .u64 x1) ∧ w'.cell? ⟨w.heap.size, 2, none⟩ = some (.int .u64 x2) ∧ w'.cell? ⟨w.heap.size, 3, none⟩ = some (.int .u64 x3) ∧ w'.cell? (ad.add (q * 4)) = some (.string (rd_T62 l0 q).f0) ∧ w'.cell? ⟨(ad.add (q * 4)).block, (ad.add (q * 4)).off + 1, none⟩ = some (.int .u64 (rd_T62 l0 q).f1) ∧ w'.cell? ⟨(ad.add (q * 4)).block, (ad.add (q * 4)).off + 2, none⟩ = some (.int .u64 (rd_T62 l0 q).f2.f0) ∧ w'.cell? ⟨(ad.add (q * 4)).block, (ad.add (q * 4)).off + 3, none⟩ = some (.int .u64 (rd_T62 l0 q).f2.f1)) (go_keep) ((refine HC.out.mono ?_; rintro e w' ⟨rfl, hb'⟩; have yhx0 := (hb'.cell (World.block_lt_of_cell? wr.drew _ hx0)).trans hx0; have yhx1 := (hb'.cell (World.block_lt_of_cell? wr.drew _ hx1)).trans hx1; have yhx2 := (hb'.cell (World.block_lt_of_cell? wr.drew _ hx2)).trans hx2; have yhx3 := (hb'.cell (World.block_lt_of_cell? wr.drew _ hx3)).trans hx3; have yxc0 := (hb'.cell (World.block_lt_of_cell? wr.drew _ xc0)).trans xc0; have yxc1 := (hb'.cell (World.block_lt_of_cell? wr.drew _ xc1)).trans xc1; have yxc2 := (hb'.cell (World.block_lt_of_cell? wr.drew _ xc2)).trans xc2; have yxc3 := (hb'.cell (World.block_lt_of_cell? wr.drew _ xc3)).trans xc3))
    go_wp2
    go_roundg (q - i)
    case measure => omega
    case rel => exact ⟨i, q, rfl, by simp, by omega, by omega, Nat.le_refl _, ⟨below_then (below_drew1 BW.out) (below_drew1 BW.out).size hb'⟩, ⟨blk_below (blk_drew BX.out) hb'⟩, ⟨m, by rcases HN.out with h | h <;> first | exact h.2 | exact absurd h.1 (by omega)⟩⟩
  ·obtain rfl : j = i := by omega
   obtain ⟨n, hF⟩ := HH.out;clear HH;have er := bsF_end hF (by omega);subst er;clear hF
   by_cases hl : j < l0.length
   ·have h2 := H2.out;clear H2;rw [if_pos (by omega), Option.bind_eq_some_iff] at h2;obtain ⟨c, hc, h2⟩ := h2;rw [Int.toNat_natCast] at hc
    simp only [Option.some.injEq, Prod.mk.injEq] at h2
    obtain ⟨rfl, rfl⟩ := h2;obtain ⟨ad, e, hx0, hx1, hx2, hx3⟩ := at_T62 (Kd.C_below HR.out BW.out) (j : Int) (by omega) (by omega);cases e
    simp only [Int.toNat_natCast] at hx0 hx1 hx2 hx3
    have HC := am (HP.out wr.drew (rd_T62 l0 (j : Int)) c (below_drew1 BW.out) hc);clear hc;have d0 : decide ((j : Int) < (l0.length : Int)) = true := decide_eq_true (by omega)
    go_wp2_with fail
    go_region_held3 (fun w' => w'.cell? ⟨w.heap.size, 0, none⟩ = some (.string x0) ∧ w'.cell? ⟨w.heap.size, 1, none⟩ = some (.int .u64 x1) ∧ w'.cell? ⟨w.heap.size, 2, none⟩ = some (.int .u64 x2) ∧ w'.cell? ⟨w.heap.size, 3, none⟩ = some (.int .u64 x3) ∧ w'.cell? (ad.add (j * 4)) = some (.string (rd_T62 l0 j).f0) ∧ w'.cell? ⟨(ad.add (j * 4)).block, (ad.add (j * 4)).off + 1, none⟩ = some (.int .u64 (rd_T62 l0 j).f1) ∧ w'.cell? ⟨(ad.add (j * 4)).block, (ad.add (j * 4)).off + 2, none⟩ = some (.int .u64 (rd_T62 l0 j).f2.f0) ∧ w'.cell? ⟨(ad.add (j * 4)).block, (ad.add (j * 4)).off + 3, none⟩ = some (.int .u64 (rd_T62 l0 j).f2.f1)) (go_keep) ((refine HC.out.mono ?_; rintro e w' ⟨rfl, hb'⟩; have yhx0 := (hb'.cell (World.block_lt_of_cell? wr.drew _ hx0)).trans hx0; have yhx1 := (hb'.cell (World.block_lt_of_cell? wr.drew _ hx1)).trans hx1; have yhx2 := (hb'.cell (World.block_lt_of_cell? wr.drew _ hx2)).trans hx2; have yhx3 := (hb'.cell (World.block_lt_of_cell? wr.drew _ hx3)).trans hx3; have yxc0 := (hb'.cell (World.block_lt_of_cell? wr.drew _ xc0)).trans xc0; have yxc1 := (hb'.cell (World.block_lt_of_cell? wr.drew _ xc1)).trans xc1; have yxc2 := (hb'.cell (World.block_lt_of_cell? wr.drew _ xc2)).trans xc2; have yxc3 := (hb'.cell (World.block_lt_of_cell? wr.drew _ xc3)).trans xc3))
    go_wp2
    go_ret2
    exact ⟨rfl, below_then (below_drew1 BW.out) (below_drew1 BW.out).size hb'⟩
   ·have h2 := H2.out;clear H2;rw [if_neg (by omega)] at h2
    simp only [Option.some.injEq, Prod.mk.injEq] at h2
    obtain ⟨rfl, rfl⟩ := h2;have d0 : decide ((j : Int) < (l0.length : Int)) = false := decide_eq_false (by omega)
    go_wp2
    go_region
    go_wp2
    go_ret2
    exact ⟨rfl, below_drew1 BW.out⟩


def wide_kept.f (a0_0 : Int) (a0_1 : Int) (a1 : Bool) : Option (Int × Int × Bool) := if a1 = true then (some (0, 0, false)) else (some (a0_0, a0_1, true))
set_option maxHeartbeats 8000000 in
set_option maxRecDepth 100000 in
theorem wide_kept.calls (ac : Int) (ad : Int) (a1 : Bool) (r1 : Int) (r2 : Int) (r3 : Bool) (w : World) (h : wide_kept.f ac ad a1 = some (r1, r2, r3)) :
  Calls Try.prog 51 #[.agg #[.int .u64 ac, .int .u64 ad], .bool a1] w fun e w' => e = .returned (.tuple #[.agg #[.int .u64 r1, .int .u64 r2], .bool r3]) ∧ Below w.heap.size w w' := by
 have hu50 := Try.underlying50;have HB := am (Below.refl w.heap.size w);have H : (if a1 = true then (some (0, 0, false)) else (some (ac, ad, true))) = some (r1, r2, r3) := h;clear h
 by_cases c3 : a1 = true
 ·subst c3
  have H1 : (some (0, 0, false)) = some (r1, r2, r3) := by rw [if_pos rfl] at H; exact H
  clear H;have H := H1;clear H1
  simp only [Option.some.injEq, Prod.mk.injEq] at H
  obtain ⟨rfl, rfl, rfl⟩ := H
  go_enter Try.func51, Try.ntmps51
  go_wp2_with (first | ((with_reducible refine gate_dst (N := 2) rfl ?_); refine be 2 #[.int .u64 ac, .int .u64 ad] 50 ?_; intro ai hg w4 hbox hb; have aa := am (hbox); have aj := gq hg HB; have ak := gq hg HB; replace HB := lb HB hb; clear hb hbox hg) | ((with_reducible refine gate_dst (N := 4) rfl ?_); refine be 4 #[.int .u64 0, .int .u64 0] 50 ?_; intro af hg w5 hbox hb; have ae := am (hbox); have an := gq hg HB; have ao := gq hg HB; replace HB := lb HB hb; obtain ⟨ag, ah, aF, aG⟩ := pm hg aa; replace aa := kb aa hb; clear hb hbox hg; obtain ⟨az, aA, aB, aC⟩ := g2 ae))
  refine bodyPost_ret (results_ct rfl _ _ af 50 #[.int .u64 0, .int .u64 0] (0, 0) _ rfl (by refine pk ?_; refine blk_put (cs := #[.int .u64 0, .int .u64 0]) ?_ 1 _ rfl; refine pk ?_; refine blk_put (cs := #[.int .u64 0, .int .u64 0]) ?_ 0 _ rfl; refine pk ?_; exact ae.out) Try.underlying50 rfl (by kernel_rfl)) rfl ?_
  exact ⟨by first | rfl | (simp [errW_none, errW_some] <;> rfl) | (simp [*, errW_none, errW_some] <;> rfl), pb HB⟩
 replace c3 := Bool.eq_false_iff.mpr c3;subst c3
 have H1 : (some (ac, ad, true)) = some (r1, r2, r3) := by rw [if_neg (show ¬ (false = true) by decide)] at H; exact H
 clear H;have H := H1;clear H1
 simp only [Option.some.injEq, Prod.mk.injEq] at H
 obtain ⟨rfl, rfl, rfl⟩ := H
 go_enter Try.func51, Try.ntmps51
 go_wp2_with (first | ((with_reducible refine gate_dst (N := 2) rfl ?_); refine be 2 #[.int .u64 ac, .int .u64 ad] 50 ?_; intro ai hg w8 hbox hb; have aa := am (hbox); have aj := gq hg HB; have ak := gq hg HB; replace HB := lb HB hb; clear hb hbox hg) | ((with_reducible refine gate_dst (N := 4) rfl ?_); refine be 4 #[.int .u64 0, .int .u64 0] 50 ?_; intro af hg w9 hbox hb; have ae := am (hbox); have an := gq hg HB; have ao := gq hg HB; replace HB := lb HB hb; obtain ⟨ag, ah, aD, aE⟩ := pm hg aa; replace aa := kb aa hb; clear hb hbox hg; obtain ⟨ap, aq, ar, au⟩ := g2 aa; obtain ⟨av, aw, ax, ay⟩ := g2 ae))
 refine bodyPost_ret (results_ct rfl _ _ af 50 #[.int .u64 ac, .int .u64 ad] (0, 0) _ rfl (by refine pk ?_; refine blk_put (cs := #[.int .u64 ac, .int .u64 0]) ?_ 1 _ rfl; refine pk ?_; refine blk_put (cs := #[.int .u64 0, .int .u64 0]) ?_ 0 _ rfl; refine pk ?_; exact ae.out) Try.underlying50 rfl (by kernel_rfl)) rfl ?_
 exact ⟨by first | rfl | (simp [errW_none, errW_some] <;> rfl) | (simp [*, errW_none, errW_some] <;> rfl), pb HB⟩
def wide_Add.f (a0_0 a0_1 a1_0 a1_1 : Int) : Option (Int × Int × Bool) :=
 if 0 ≤ a0_0 ∧ a0_0 < 18446744073709551616 ∧ 0 ≤ a0_1 ∧ a0_1 < 18446744073709551616 ∧ 0 ≤ a1_0 ∧ a1_0 < 18446744073709551616 ∧ 0 ≤ a1_1 ∧ a1_1 < 18446744073709551616 then
  (if a0_0 + a1_0 + (a0_1 + a1_1) / 18446744073709551616 < 18446744073709551616 then some (a0_0 + a1_0 + (a0_1 + a1_1) / 18446744073709551616, (a0_1 + a1_1) % 18446744073709551616, true) else some (0, 0, false)) else none
theorem blk_newAt3 (w : World) (o : Obj) {g : Nat} (h : g = w.heap.size) : (w.alloc o).heap[g]? = some o := by subst h; exact blk_new _ _
set_option maxRecDepth 100000 in
theorem wide_Add.calls (ad aa ae ac r1 r2 : Int) (r3 : Bool) (w : World) (h : wide_Add.f ad aa ae ac = some (r1, r2, r3)) :
  Calls Try.prog 38 #[.agg #[.int .u64 ad, .int .u64 aa], .agg #[.int .u64 ae, .int .u64 ac]] w fun e w' => e = .returned (.tuple #[.agg #[.int .u64 r1, .int .u64 r2], .bool r3]) ∧ Below w.heap.size w w' := by
 have hu := Try.underlying50
 have hx : ∀ (x y c : Int), 0 ≤ x → 0 ≤ y → 0 ≤ c → c ≤ 1 → ∀ W : World, (callFunc 50 #[.int .u64 x, .int .u64 y, .int .u64 c]).run Try.prog W = .ok (.value (.tuple #[.int .u64 ((x + y + c) % 18446744073709551616), .int .u64 ((x + y + c) / 18446744073709551616)])) W := fun x y c h0 h1 h2 h3 W => by
  rw [run_callFunc_extern Try.func50 (by kernel_rfl) (by kernel_rfl) (by kernel_rfl) (e := add64Entry) (by kernel_rfl), run_add64 x y c h0 h1 h2 h3]
  rfl
 unfold wide_Add.f at h
 split at h
 case isFalse => cases h
 case isTrue hb =>
  obtain ⟨b0, b1, b2, b3, b4, b5, b6, b7⟩ := hb;have y1 := hx aa ac 0 b2 b6 (by omega) (by omega);have y2 := hx ad ae ((aa + ac) / 18446744073709551616) b0 b4 (by omega) (by omega);rw [Int.add_zero] at y1;clear hx
  split at h
  case isTrue ho =>
   simp only [Option.some.injEq, Prod.mk.injEq] at h
   obtain ⟨rfl, rfl, rfl⟩ := h;rw [Int.emod_eq_of_lt (by omega) ho, Int.ediv_eq_zero_of_lt (by omega) ho] at y2
   generalize ad + ae + (aa + ac) / 18446744073709551616 = s at y2 ⊢
   generalize (aa + ac) / 18446744073709551616 = c at y1 y2
   generalize (aa + ac) % 18446744073709551616 = t at y1 ⊢
   clear b0 b1 b2 b3 b4 b5 b6 b7 ho
   go_enter Try.func38, Try.ntmps38
   go_wp2_with (first | simp only [y1] | simp only [y2] | (go_at_call 51; refine (wide_kept.calls s t false s t true _ rfl).mono ?_; rintro e w' ⟨rfl, hb⟩; have kR := blk_below (g := w.heap.size + 1 + 1) (o := .cells #[.int .u64 0, .int .u64 0] 50 (0, 0)) (by (with_reducible repeat (first | refine blk_drewN ?_ _ | refine blk_drew ?_)); exact blk_newAt3 _ _ (by simp)) hb; have r0 := blk_cell kR 0; have r1 := blk_cell kR 1; have z0 := blk_frozen kR 0; have z1 := blk_frozen kR 1))
   refine bodyPost_ret (v := .tuple #[.agg #[.int .u64 s, .int .u64 t], .bool true]) ?_ rfl ⟨rfl, ?_⟩
   ·refine results_ct (fn := Try.f38) (p := 4) (u := 5) rfl _ _ (w.heap.size + 1 + 1) 50 _ (0, 0) _ ?_ ?_ hu rfl ?_
    ·rfl
    ·exact blk_put (blk_put (cs' := #[.int .u64 s, .int .u64 0]) kR 0 _ rfl) 1 _ rfl
    ·kernel_rfl
   ·exact below_set (below_set (below_then (by repeat (first | exact Below.refl _ _ | apply below_alloc)) (by simp <;> omega) hb) (by omega)) (by omega)
  case isFalse ho =>
   simp only [Option.some.injEq, Prod.mk.injEq] at h
   obtain ⟨rfl, rfl, rfl⟩ := h;obtain ⟨s, hs⟩ : ∃ s, s = (ad + ae + (aa + ac) / 18446744073709551616) % 18446744073709551616 := ⟨_, rfl⟩;rw [← hs, show (ad + ae + (aa + ac) / 18446744073709551616) / 18446744073709551616 = 1 by omega] at y2
   generalize (aa + ac) / 18446744073709551616 = c at y1 y2
   generalize (aa + ac) % 18446744073709551616 = t at y1 ⊢
   clear b0 b1 b2 b3 b4 b5 b6 b7 ho hs
   go_enter Try.func38, Try.ntmps38
   go_wp2_with (first | simp only [y1] | simp only [y2] | (go_at_call 51; refine (wide_kept.calls s t true 0 0 false _ rfl).mono ?_; rintro e w' ⟨rfl, hb⟩; have kR := blk_below (g := w.heap.size + 1 + 1) (o := .cells #[.int .u64 0, .int .u64 0] 50 (0, 0)) (by (with_reducible repeat (first | refine blk_drewN ?_ _ | refine blk_drew ?_)); exact blk_newAt3 _ _ (by simp)) hb; have r0 := blk_cell kR 0; have r1 := blk_cell kR 1; have z0 := blk_frozen kR 0; have z1 := blk_frozen kR 1))
   refine bodyPost_ret (v := .tuple #[.agg #[.int .u64 0, .int .u64 0], .bool false]) ?_ rfl ⟨rfl, ?_⟩
   rotate_left
   ·exact below_set (below_set (below_then (by repeat (first | exact Below.refl _ _ | apply below_alloc)) (by simp <;> omega) hb) (by omega)) (by omega)
   refine results_ct (fn := Try.f38) (p := 4) (u := 5) rfl _ _ (w.heap.size + 1 + 1) 50 _ (0, 0) _ ?_ ?_ hu rfl ?_
   ·rfl
   ·exact blk_put (blk_put (cs' := #[.int .u64 0, .int .u64 0]) kR 0 _ rfl) 1 _ rfl
   kernel_rfl




end Go.Proofs.Ytmfffbafldbihaa.H
