import Derived.Test.YtagcobdpojeiiaaHx0
namespace Go.Proofs.Ytagcobdpojeiiaa.H
open Go.RowKit Go.Proofs.YtagcobdpojeiiaaW.PrintWords Go.Proofs.YtagcobdpojeiiaaW.PrintLast Go.Proofs.YtagcobdpojeiiaaW.PrintMore Go.Proofs.YtagcobdpojeiiaaW.Sq
attribute [local go_sem] max2_int min2_int max_two min_two max_three min_three max_four min_four
set_option linter.unusedVariables false
set_option linter.unusedSimpArgs false

def sip_right.f (a0_0 : Int) (a0_1 : Int) (a0_2 : Int) (a0_3 : Int) (a0_4 : ByteArray) (a0_5 : Int) : Option (Bool) := if a0_5 ≥ 0 then (some ((a0_4.size : Int) == (Int.tmod a0_5 8))) else (some false)
set_option maxHeartbeats 8000000 in
set_option maxRecDepth 100000 in
theorem sip_right.calls (a0_0 : Int) (a0_1 : Int) (a0_2 : Int) (a0_3 : Int) (a0_4 : ByteArray) (a0_5 : Int) (r : Bool) (w : World) (h : sip_right.f a0_0 a0_1 a0_2 a0_3 a0_4 a0_5 = some r) :
  Calls Try.prog 81 #[.agg #[.int .u64 a0_0, .int .u64 a0_1, .int .u64 a0_2, .int .u64 a0_3, .string a0_4, .int .i64 a0_5]] w fun e w' => e = .returned (.bool r) ∧ Below w.heap.size w w' := by
 have hu116 := Try.underlying116;have HB := am (Below.refl w.heap.size w);have H : (if a0_5 ≥ 0 then (some ((a0_4.size : Int) == (Int.tmod a0_5 8))) else (some false)) = some r := h;clear h
 by_cases c2 : a0_5 ≥ 0
 ·rw [if_pos c2] at H;have c2b0 : decide (0 ≤ a0_5) = true := decide_eq_true c2;clear c2;obtain rfl := Option.some.inj H
  go_enter Try.func81, Try.ntmps81
  go_wp2_with (first | ((with_reducible refine gate_dst (N := 1) rfl ?_); (try (refine gate_guard (by rfl) ?_; dsimp only)); refine be 1 #[.int .u64 a0_0, .int .u64 a0_1, .int .u64 a0_2, .int .u64 a0_3, .string a0_4, .int .i64 a0_5] 116 ?_; intro gb101 hg w3 hbox hb; have BK101 := am (hbox); have GW101 := gq hg HB; have GE101 := gq hg HB; replace HB := lb HB hb; clear hb hbox hg; obtain ⟨hcz4_0, hcz4_1, hcz4_2, hcz4_3, hcz4_4, hcz4_5, hfz4_0, hfz4_1, hfz4_2, hfz4_3, hfz4_4, hfz4_5⟩ := g6 BK101))
  go_ret
  exact ey (h := pb HB)
 rw [if_neg c2] at H;have c2b0 : decide (0 ≤ a0_5) = false := decide_eq_false c2;clear c2;obtain rfl := Option.some.inj H
 go_enter Try.func81, Try.ntmps81
 go_wp2_with (first | ((with_reducible refine gate_dst (N := 1) rfl ?_); (try (refine gate_guard (by rfl) ?_; dsimp only)); refine be 1 #[.int .u64 a0_0, .int .u64 a0_1, .int .u64 a0_2, .int .u64 a0_3, .string a0_4, .int .i64 a0_5] 116 ?_; intro gb101 hg w5 hbox hb; have BK101 := am (hbox); have GW101 := gq hg HB; have GE101 := gq hg HB; replace HB := lb HB hb; clear hb hbox hg; obtain ⟨hcz6_0, hcz6_1, hcz6_2, hcz6_3, hcz6_4, hcz6_5, hfz6_0, hfz6_1, hfz6_2, hfz6_3, hfz6_4, hfz6_5⟩ := g6 BK101))
 go_ret
 exact ey (h := pb HB)
def bits_RotateLeft64.f (a0 : Int) (a1 : Int) : Option (Int) := if 0 ≤ (Go.bits .and .u64 (IntKind.u64.wrap (a1)) 63) then (if 0 ≤ (IntKind.u64.wrap (64 - (Go.bits .and .u64 (IntKind.u64.wrap (a1)) 63))) then (some (Go.bits .or .u64 (shl .u64 a0 (Go.bits .and .u64 (IntKind.u64.wrap (a1)) 63)) (shr .u64 a0 (IntKind.u64.wrap (64 - (Go.bits .and .u64 (IntKind.u64.wrap (a1)) 63)))))) else (none)) else (none)
set_option maxHeartbeats 8000000 in
set_option maxRecDepth 100000 in
theorem bits_RotateLeft64.calls (a0 : Int) (a1 : Int) (r : Int) (w : World) (h : bits_RotateLeft64.f a0 a1 = some r) :
  Calls Try.prog 98 #[.int .u64 a0, .int .i64 a1] w fun e w' => e = .returned (.int .u64 r) ∧ Drawn0 w w' := by
 have H : (if 0 ≤ (Go.bits .and .u64 (IntKind.u64.wrap (a1)) 63) then (if 0 ≤ (IntKind.u64.wrap (64 - (Go.bits .and .u64 (IntKind.u64.wrap (a1)) 63))) then (some (Go.bits .or .u64 (shl .u64 a0 (Go.bits .and .u64 (IntKind.u64.wrap (a1)) 63)) (shr .u64 a0 (IntKind.u64.wrap (64 - (Go.bits .and .u64 (IntKind.u64.wrap (a1)) 63)))))) else (none)) else (none)) = some r := h;clear h;obtain ⟨ji3, hji3⟩ : ∃ j_ : Int, (Go.bits .and .u64 (IntKind.u64.wrap (a1)) 63) = j_ := ⟨_, rfl⟩
 replace H : (if 0 ≤ (ji3) then (if 0 ≤ (IntKind.u64.wrap (64 - (ji3))) then (some (Go.bits .or .u64 (shl .u64 a0 (ji3)) (shr .u64 a0 (IntKind.u64.wrap (64 - (ji3)))))) else (none)) else (none)) = some r := by first | (rw [hji3] at H; exact H) | (simp only [hji3] at H ⊢; exact H)
 by_cases c4 : 0 ≤ (ji3)
 rotate_left
 ·rw [if_neg c4] at H;exact absurd H (by simp)
 rw [if_pos c4] at H;have c4b0 := eq_true c4;have c4b1 : decide (0 ≤ (ji3)) = true := decide_eq_true c4;clear c4;obtain ⟨ji5, hji5⟩ : ∃ j_ : Int, (shl .u64 a0 (ji3)) = j_ := ⟨_, rfl⟩
 replace H : (if 0 ≤ (IntKind.u64.wrap (64 - (ji3))) then (some (Go.bits .or .u64 (ji5) (shr .u64 a0 (IntKind.u64.wrap (64 - (ji3)))))) else (none)) = some r := by first | (rw [hji5] at H; exact H) | (simp only [hji5] at H ⊢; exact H)
 have hji5_ : (IntKind.u64.wrap (a0 * 2 ^ min (ji3).toNat 64)) = ji5 := hji5;have hji5z : (ji3) ≤ 64 → (IntKind.u64.wrap (a0 * 2 ^ (ji3).toNat)) = ji5 := shl_small hji5;obtain ⟨ji6, hji6⟩ : ∃ j_ : Int, (IntKind.u64.wrap (64 - (ji3))) = j_ := ⟨_, rfl⟩
 replace H : (if 0 ≤ (ji6) then (some (Go.bits .or .u64 (ji5) (shr .u64 a0 (ji6)))) else (none)) = some r := by first | (rw [hji6] at H; exact H) | (simp only [hji6] at H ⊢; exact H)
 by_cases c7 : 0 ≤ (ji6)
 rotate_left
 ·rw [if_neg c7] at H;exact absurd H (by simp)
 rw [if_pos c7] at H;have c7b0 := eq_true c7;have c7b1 : decide (0 ≤ (ji6)) = true := decide_eq_true c7;clear c7;obtain ⟨ji8, hji8⟩ : ∃ j_ : Int, (shr .u64 a0 (ji6)) = j_ := ⟨_, rfl⟩
 replace H : (some (Go.bits .or .u64 (ji5) (ji8))) = some r := by first | (rw [hji8] at H; exact H) | (simp only [hji8] at H ⊢; exact H)
 have hji8_ : (a0 / 2 ^ min (ji6).toNat 64) = ji8 := hji8;have hji8z : (ji6) ≤ 64 → (a0 / 2 ^ (ji6).toNat) = ji8 := shr_small hji8;obtain rfl := Option.some.inj H
 go_enter Try.func98, Try.ntmps98
 go_wp2
 go_ret
 exact ⟨by first | rfl | (simp; done) | (simp only [← hji3, ← hji5, ← hji6, ← hji8] <;> (first | rfl | (simp; done) | (simp [show ∀ j_ : Int, shl .u64 0 j_ = 0 from fun j_ => by unfold shl; rw [Int.zero_mul]; decide]; done))) | (simp [*]; done), by repeat (first | exact Drawn0.refl _ | apply Drawn0.step)⟩
def sip_turn.f (a0_0 : Int) (a0_1 : Int) (a0_2 : Int) (a0_3 : Int) : Option (Int × Int × Int × Int) := (bits_RotateLeft64.f a0_1 13).bind fun t104 => ((bits_RotateLeft64.f (IntKind.u64.wrap (a0_0 + a0_1)) 32).bind fun t105 => ((bits_RotateLeft64.f a0_3 16).bind fun t106 => ((bits_RotateLeft64.f (Go.bits .xor .u64 t106 (IntKind.u64.wrap (a0_2 + a0_3))) 21).bind fun t107 => ((bits_RotateLeft64.f (Go.bits .xor .u64 t104 (IntKind.u64.wrap (a0_0 + a0_1))) 17).bind fun t108 => ((bits_RotateLeft64.f (IntKind.u64.wrap ((IntKind.u64.wrap (a0_2 + a0_3)) + (Go.bits .xor .u64 t104 (IntKind.u64.wrap (a0_0 + a0_1))))) 32).bind fun t109 => (some (IntKind.u64.wrap (t105 + (Go.bits .xor .u64 t106 (IntKind.u64.wrap (a0_2 + a0_3)))), Go.bits .xor .u64 t108 (IntKind.u64.wrap ((IntKind.u64.wrap (a0_2 + a0_3)) + (Go.bits .xor .u64 t104 (IntKind.u64.wrap (a0_0 + a0_1))))), t109, Go.bits .xor .u64 t107 (IntKind.u64.wrap (t105 + (Go.bits .xor .u64 t106 (IntKind.u64.wrap (a0_2 + a0_3))))))))))))
set_option maxHeartbeats 8000000 in
set_option maxRecDepth 100000 in
theorem sip_turn.calls (a0_0 : Int) (a0_1 : Int) (a0_2 : Int) (a0_3 : Int) (r1 : Int) (r2 : Int) (r3 : Int) (r4 : Int) (w : World) (h : sip_turn.f a0_0 a0_1 a0_2 a0_3 = some (r1, r2, r3, r4)) :
  Calls Try.prog 84 #[.agg #[.int .u64 a0_0, .int .u64 a0_1, .int .u64 a0_2, .int .u64 a0_3]] w fun e w' => e = .returned (.agg #[.int .u64 r1, .int .u64 r2, .int .u64 r3, .int .u64 r4]) ∧ Below w.heap.size w w' := by
 have hu114 := Try.underlying114;have HB := am (Below.refl w.heap.size w);have H : ((bits_RotateLeft64.f a0_1 13).bind fun t104 => ((bits_RotateLeft64.f (IntKind.u64.wrap (a0_0 + a0_1)) 32).bind fun t105 => ((bits_RotateLeft64.f a0_3 16).bind fun t106 => ((bits_RotateLeft64.f (Go.bits .xor .u64 t106 (IntKind.u64.wrap (a0_2 + a0_3))) 21).bind fun t107 => ((bits_RotateLeft64.f (Go.bits .xor .u64 t104 (IntKind.u64.wrap (a0_0 + a0_1))) 17).bind fun t108 => ((bits_RotateLeft64.f (IntKind.u64.wrap ((IntKind.u64.wrap (a0_2 + a0_3)) + (Go.bits .xor .u64 t104 (IntKind.u64.wrap (a0_0 + a0_1))))) 32).bind fun t109 => (some (IntKind.u64.wrap (t105 + (Go.bits .xor .u64 t106 (IntKind.u64.wrap (a0_2 + a0_3)))), Go.bits .xor .u64 t108 (IntKind.u64.wrap ((IntKind.u64.wrap (a0_2 + a0_3)) + (Go.bits .xor .u64 t104 (IntKind.u64.wrap (a0_0 + a0_1))))), t109, Go.bits .xor .u64 t107 (IntKind.u64.wrap (t105 + (Go.bits .xor .u64 t106 (IntKind.u64.wrap (a0_2 + a0_3))))))))))))) = some (r1, r2, r3, r4) := h;clear h;replace H := Option.bind_eq_some_iff.mp H;obtain ⟨t104, A20, H⟩ := H
 try dsimp only at H
 have A2 := am A20;clear A20;replace H := Option.bind_eq_some_iff.mp H;obtain ⟨t105, A30, H⟩ := H
 try dsimp only at H
 have A3 := am A30;clear A30;replace H := Option.bind_eq_some_iff.mp H;obtain ⟨t106, A40, H⟩ := H
 try dsimp only at H
 have A4 := am A40;clear A40;replace H := Option.bind_eq_some_iff.mp H;obtain ⟨t107, A50, H⟩ := H
 try dsimp only at H
 have A5 := am A50;clear A50;replace H := Option.bind_eq_some_iff.mp H;obtain ⟨t108, A60, H⟩ := H
 try dsimp only at H
 have A6 := am A60;clear A60;replace H := Option.bind_eq_some_iff.mp H;obtain ⟨t109, A70, H⟩ := H
 try dsimp only at H
 have A7 := am A70;clear A70
 simp only [Option.some.injEq, Prod.mk.injEq] at H
 obtain ⟨rfl, rfl, rfl, rfl⟩ := H
 go_enter Try.func84, Try.ntmps84
 go_wp2_with (first | ((with_reducible refine gate_dst (N := 1) rfl ?_); refine be 1 #[.int .u64 a0_0, .int .u64 a0_1, .int .u64 a0_2, .int .u64 a0_3] 114 ?_; intro gb102 hg w8 hbox hb; have BK102 := am (hbox); have GW102 := gq hg HB; have GE102 := gq hg HB; replace HB := lb HB hb; clear hb hbox hg) | ((with_reducible refine gate_dst (N := 2) rfl ?_); refine be 2 #[.int .u64 0, .int .u64 0, .int .u64 0, .int .u64 0] 114 ?_; intro gb103 hg w9 hbox hb; have BK103 := am (hbox); have GW103 := gq hg HB; have GE103 := gq hg HB; replace HB := lb HB hb; obtain ⟨NB102_103, NB103_102, hnb10, hnc10⟩ := pm hg BK102; replace BK102 := kb BK102 hb; clear hb hbox hg; obtain ⟨hcz11_0, hcz11_1, hcz11_2, hcz11_3, hfz11_0, hfz11_1, hfz11_2, hfz11_3⟩ := g4 BK102) | (go_at_call 98; (with_reducible refine (bits_RotateLeft64.calls a0_1 13 t104 _ A2.out).mono ?_); rintro e w' ⟨rfl, ⟨nd, rfl⟩⟩; (try first | exact ⟨rfl, _, World.drewN_drewN _ _ _⟩ | exact ⟨rfl, _, Eq.trans (World.drewN_drewN _ _ _) (congrArg (World.drewN _) (Nat.add_assoc _ _ _))⟩)) | (go_at_call 98; (with_reducible refine (bits_RotateLeft64.calls (IntKind.u64.wrap (a0_0 + a0_1)) 32 t105 _ A3.out).mono ?_); rintro e w' ⟨rfl, ⟨nd, rfl⟩⟩; (try first | exact ⟨rfl, _, World.drewN_drewN _ _ _⟩ | exact ⟨rfl, _, Eq.trans (World.drewN_drewN _ _ _) (congrArg (World.drewN _) (Nat.add_assoc _ _ _))⟩)) | (go_at_call 98; (with_reducible refine (bits_RotateLeft64.calls a0_3 16 t106 _ A4.out).mono ?_); rintro e w' ⟨rfl, ⟨nd, rfl⟩⟩; (try first | exact ⟨rfl, _, World.drewN_drewN _ _ _⟩ | exact ⟨rfl, _, Eq.trans (World.drewN_drewN _ _ _) (congrArg (World.drewN _) (Nat.add_assoc _ _ _))⟩)) | (go_at_call 98; (with_reducible refine (bits_RotateLeft64.calls (Go.bits .xor .u64 t106 (IntKind.u64.wrap (a0_2 + a0_3))) 21 t107 _ A5.out).mono ?_); rintro e w' ⟨rfl, ⟨nd, rfl⟩⟩; (try first | exact ⟨rfl, _, World.drewN_drewN _ _ _⟩ | exact ⟨rfl, _, Eq.trans (World.drewN_drewN _ _ _) (congrArg (World.drewN _) (Nat.add_assoc _ _ _))⟩)) | (go_at_call 98; (with_reducible refine (bits_RotateLeft64.calls (Go.bits .xor .u64 t104 (IntKind.u64.wrap (a0_0 + a0_1))) 17 t108 _ A6.out).mono ?_); rintro e w' ⟨rfl, ⟨nd, rfl⟩⟩; (try first | exact ⟨rfl, _, World.drewN_drewN _ _ _⟩ | exact ⟨rfl, _, Eq.trans (World.drewN_drewN _ _ _) (congrArg (World.drewN _) (Nat.add_assoc _ _ _))⟩)) | (go_at_call 98; (with_reducible refine (bits_RotateLeft64.calls (IntKind.u64.wrap ((IntKind.u64.wrap (a0_2 + a0_3)) + (Go.bits .xor .u64 t104 (IntKind.u64.wrap (a0_0 + a0_1))))) 32 t109 _ A7.out).mono ?_); rintro e w' ⟨rfl, ⟨nd, rfl⟩⟩; (try first | exact ⟨rfl, _, World.drewN_drewN _ _ _⟩ | exact ⟨rfl, _, Eq.trans (World.drewN_drewN _ _ _) (congrArg (World.drewN _) (Nat.add_assoc _ _ _))⟩); obtain ⟨hcz12_0, hcz12_1, hcz12_2, hcz12_3, hfz12_0, hfz12_1, hfz12_2, hfz12_3⟩ := g4 BK103))
 repeat (go_quiet (first | ((with_reducible refine gate_dst (N := 1) rfl ?_); refine be 1 #[.int .u64 a0_0, .int .u64 a0_1, .int .u64 a0_2, .int .u64 a0_3] 114 ?_; intro gb102 hg w8 hbox hb; have BK102 := am (hbox); have GW102 := gq hg HB; have GE102 := gq hg HB; replace HB := lb HB hb; clear hb hbox hg) | ((with_reducible refine gate_dst (N := 2) rfl ?_); refine be 2 #[.int .u64 0, .int .u64 0, .int .u64 0, .int .u64 0] 114 ?_; intro gb103 hg w9 hbox hb; have BK103 := am (hbox); have GW103 := gq hg HB; have GE103 := gq hg HB; replace HB := lb HB hb; obtain ⟨NB102_103, NB103_102, hnb10, hnc10⟩ := pm hg BK102; replace BK102 := kb BK102 hb; clear hb hbox hg; obtain ⟨hcz11_0, hcz11_1, hcz11_2, hcz11_3, hfz11_0, hfz11_1, hfz11_2, hfz11_3⟩ := g4 BK102) | (go_at_call 98; (with_reducible refine (bits_RotateLeft64.calls a0_1 13 t104 _ A2.out).mono ?_); rintro e w' ⟨rfl, ⟨nd, rfl⟩⟩; (try first | exact ⟨rfl, _, World.drewN_drewN _ _ _⟩ | exact ⟨rfl, _, Eq.trans (World.drewN_drewN _ _ _) (congrArg (World.drewN _) (Nat.add_assoc _ _ _))⟩)) | (go_at_call 98; (with_reducible refine (bits_RotateLeft64.calls (IntKind.u64.wrap (a0_0 + a0_1)) 32 t105 _ A3.out).mono ?_); rintro e w' ⟨rfl, ⟨nd, rfl⟩⟩; (try first | exact ⟨rfl, _, World.drewN_drewN _ _ _⟩ | exact ⟨rfl, _, Eq.trans (World.drewN_drewN _ _ _) (congrArg (World.drewN _) (Nat.add_assoc _ _ _))⟩)) | (go_at_call 98; (with_reducible refine (bits_RotateLeft64.calls a0_3 16 t106 _ A4.out).mono ?_); rintro e w' ⟨rfl, ⟨nd, rfl⟩⟩; (try first | exact ⟨rfl, _, World.drewN_drewN _ _ _⟩ | exact ⟨rfl, _, Eq.trans (World.drewN_drewN _ _ _) (congrArg (World.drewN _) (Nat.add_assoc _ _ _))⟩)) | (go_at_call 98; (with_reducible refine (bits_RotateLeft64.calls (Go.bits .xor .u64 t106 (IntKind.u64.wrap (a0_2 + a0_3))) 21 t107 _ A5.out).mono ?_); rintro e w' ⟨rfl, ⟨nd, rfl⟩⟩; (try first | exact ⟨rfl, _, World.drewN_drewN _ _ _⟩ | exact ⟨rfl, _, Eq.trans (World.drewN_drewN _ _ _) (congrArg (World.drewN _) (Nat.add_assoc _ _ _))⟩)) | (go_at_call 98; (with_reducible refine (bits_RotateLeft64.calls (Go.bits .xor .u64 t104 (IntKind.u64.wrap (a0_0 + a0_1))) 17 t108 _ A6.out).mono ?_); rintro e w' ⟨rfl, ⟨nd, rfl⟩⟩; (try first | exact ⟨rfl, _, World.drewN_drewN _ _ _⟩ | exact ⟨rfl, _, Eq.trans (World.drewN_drewN _ _ _) (congrArg (World.drewN _) (Nat.add_assoc _ _ _))⟩)) | (go_at_call 98; (with_reducible refine (bits_RotateLeft64.calls (IntKind.u64.wrap ((IntKind.u64.wrap (a0_2 + a0_3)) + (Go.bits .xor .u64 t104 (IntKind.u64.wrap (a0_0 + a0_1))))) 32 t109 _ A7.out).mono ?_); rintro e w' ⟨rfl, ⟨nd, rfl⟩⟩; (try first | exact ⟨rfl, _, World.drewN_drewN _ _ _⟩ | exact ⟨rfl, _, Eq.trans (World.drewN_drewN _ _ _) (congrArg (World.drewN _) (Nat.add_assoc _ _ _))⟩); obtain ⟨hcz12_0, hcz12_1, hcz12_2, hcz12_3, hfz12_0, hfz12_1, hfz12_2, hfz12_3⟩ := g4 BK103)); try go_wp2_with (first | ((with_reducible refine gate_dst (N := 1) rfl ?_); refine be 1 #[.int .u64 a0_0, .int .u64 a0_1, .int .u64 a0_2, .int .u64 a0_3] 114 ?_; intro gb102 hg w8 hbox hb; have BK102 := am (hbox); have GW102 := gq hg HB; have GE102 := gq hg HB; replace HB := lb HB hb; clear hb hbox hg) | ((with_reducible refine gate_dst (N := 2) rfl ?_); refine be 2 #[.int .u64 0, .int .u64 0, .int .u64 0, .int .u64 0] 114 ?_; intro gb103 hg w9 hbox hb; have BK103 := am (hbox); have GW103 := gq hg HB; have GE103 := gq hg HB; replace HB := lb HB hb; obtain ⟨NB102_103, NB103_102, hnb10, hnc10⟩ := pm hg BK102; replace BK102 := kb BK102 hb; clear hb hbox hg; obtain ⟨hcz11_0, hcz11_1, hcz11_2, hcz11_3, hfz11_0, hfz11_1, hfz11_2, hfz11_3⟩ := g4 BK102) | (go_at_call 98; (with_reducible refine (bits_RotateLeft64.calls a0_1 13 t104 _ A2.out).mono ?_); rintro e w' ⟨rfl, ⟨nd, rfl⟩⟩; (try first | exact ⟨rfl, _, World.drewN_drewN _ _ _⟩ | exact ⟨rfl, _, Eq.trans (World.drewN_drewN _ _ _) (congrArg (World.drewN _) (Nat.add_assoc _ _ _))⟩)) | (go_at_call 98; (with_reducible refine (bits_RotateLeft64.calls (IntKind.u64.wrap (a0_0 + a0_1)) 32 t105 _ A3.out).mono ?_); rintro e w' ⟨rfl, ⟨nd, rfl⟩⟩; (try first | exact ⟨rfl, _, World.drewN_drewN _ _ _⟩ | exact ⟨rfl, _, Eq.trans (World.drewN_drewN _ _ _) (congrArg (World.drewN _) (Nat.add_assoc _ _ _))⟩)) | (go_at_call 98; (with_reducible refine (bits_RotateLeft64.calls a0_3 16 t106 _ A4.out).mono ?_); rintro e w' ⟨rfl, ⟨nd, rfl⟩⟩; (try first | exact ⟨rfl, _, World.drewN_drewN _ _ _⟩ | exact ⟨rfl, _, Eq.trans (World.drewN_drewN _ _ _) (congrArg (World.drewN _) (Nat.add_assoc _ _ _))⟩)) | (go_at_call 98; (with_reducible refine (bits_RotateLeft64.calls (Go.bits .xor .u64 t106 (IntKind.u64.wrap (a0_2 + a0_3))) 21 t107 _ A5.out).mono ?_); rintro e w' ⟨rfl, ⟨nd, rfl⟩⟩; (try first | exact ⟨rfl, _, World.drewN_drewN _ _ _⟩ | exact ⟨rfl, _, Eq.trans (World.drewN_drewN _ _ _) (congrArg (World.drewN _) (Nat.add_assoc _ _ _))⟩)) | (go_at_call 98; (with_reducible refine (bits_RotateLeft64.calls (Go.bits .xor .u64 t104 (IntKind.u64.wrap (a0_0 + a0_1))) 17 t108 _ A6.out).mono ?_); rintro e w' ⟨rfl, ⟨nd, rfl⟩⟩; (try first | exact ⟨rfl, _, World.drewN_drewN _ _ _⟩ | exact ⟨rfl, _, Eq.trans (World.drewN_drewN _ _ _) (congrArg (World.drewN _) (Nat.add_assoc _ _ _))⟩)) | (go_at_call 98; (with_reducible refine (bits_RotateLeft64.calls (IntKind.u64.wrap ((IntKind.u64.wrap (a0_2 + a0_3)) + (Go.bits .xor .u64 t104 (IntKind.u64.wrap (a0_0 + a0_1))))) 32 t109 _ A7.out).mono ?_); rintro e w' ⟨rfl, ⟨nd, rfl⟩⟩; (try first | exact ⟨rfl, _, World.drewN_drewN _ _ _⟩ | exact ⟨rfl, _, Eq.trans (World.drewN_drewN _ _ _) (congrArg (World.drewN _) (Nat.add_assoc _ _ _))⟩); obtain ⟨hcz12_0, hcz12_1, hcz12_2, hcz12_3, hfz12_0, hfz12_1, hfz12_2, hfz12_3⟩ := g4 BK103)))
 refine bodyPost_ret (results_cell_row rfl _ _ gb103 114 #[.int .u64 (IntKind.u64.wrap (t105 + (Go.bits .xor .u64 t106 (IntKind.u64.wrap (a0_2 + a0_3))))), .int .u64 (Go.bits .xor .u64 t108 (IntKind.u64.wrap ((IntKind.u64.wrap (a0_2 + a0_3)) + (Go.bits .xor .u64 t104 (IntKind.u64.wrap (a0_0 + a0_1)))))), .int .u64 t109, .int .u64 (Go.bits .xor .u64 t107 (IntKind.u64.wrap (t105 + (Go.bits .xor .u64 t106 (IntKind.u64.wrap (a0_2 + a0_3))))))] (0, 0) _ rfl ((s4 rfl BK103).out) Try.underlying114 rfl (by kernel_rfl)) rfl ?_
 exact ey (h := pb HB)

def sip_take.f (a0_0 : Int) (a0_1 : Int) (a0_2 : Int) (a0_3 : Int) (a1 : Int) : Option (Int × Int × Int × Int) := (sip_turn.f a0_0 a0_1 a0_2 (Go.bits .xor .u64 a0_3 a1)).bind fun bt112 => ((sip_turn.f bt112.1 bt112.2.1 bt112.2.2.1 bt112.2.2.2).bind fun bt116 => (some (Go.bits .xor .u64 bt116.1 a1, bt116.2.1, bt116.2.2.1, bt116.2.2.2)))
set_option maxHeartbeats 8000000 in
set_option maxRecDepth 100000 in
theorem sip_take.calls (a0_0 : Int) (a0_1 : Int) (a0_2 : Int) (a0_3 : Int) (a1 : Int) (r1 : Int) (r2 : Int) (r3 : Int) (r4 : Int) (w : World) (h : sip_take.f a0_0 a0_1 a0_2 a0_3 a1 = some (r1, r2, r3, r4)) :
  Calls Try.prog 82 #[.agg #[.int .u64 a0_0, .int .u64 a0_1, .int .u64 a0_2, .int .u64 a0_3], .int .u64 a1] w fun e w' => e = .returned (.agg #[.int .u64 r1, .int .u64 r2, .int .u64 r3, .int .u64 r4]) ∧ Below w.heap.size w w' := by
 have hu114 := Try.underlying114;have HB := am (Below.refl w.heap.size w);have H : ((sip_turn.f a0_0 a0_1 a0_2 (Go.bits .xor .u64 a0_3 a1)).bind fun bt112 => ((sip_turn.f bt112.1 bt112.2.1 bt112.2.2.1 bt112.2.2.2).bind fun bt116 => (some (Go.bits .xor .u64 bt116.1 a1, bt116.2.1, bt116.2.2.1, bt116.2.2.2)))) = some (r1, r2, r3, r4) := h;clear h;replace H := Option.bind_eq_some_iff.mp H;obtain ⟨⟨t112, t113, t114, t115⟩, A30, H⟩ := H
 try dsimp only at H
 have A3 := am A30;clear A30;replace H := Option.bind_eq_some_iff.mp H;obtain ⟨⟨t116, t117, t118, t119⟩, A40, H⟩ := H
 try dsimp only at H
 have A4 := am A40;clear A40
 simp only [Option.some.injEq, Prod.mk.injEq] at H
 obtain ⟨rfl, rfl, rfl, rfl⟩ := H
 go_enter Try.func82, Try.ntmps82
 go_wp2_with (first | ((with_reducible refine gate_dst (N := 2) rfl ?_); refine be 2 #[.int .u64 a0_0, .int .u64 a0_1, .int .u64 a0_2, .int .u64 a0_3] 114 ?_; intro gb110 hg w5 hbox hb; have BK110 := am (hbox); have GW110 := gq hg HB; have GE110 := gq hg HB; replace HB := lb HB hb; clear hb hbox hg) | ((with_reducible refine gate_dst (N := 4) rfl ?_); refine be 4 #[.int .u64 0, .int .u64 0, .int .u64 0, .int .u64 0] 114 ?_; intro gb111 hg w6 hbox hb; have BK111 := am (hbox); have GW111 := gq hg HB; have GE111 := gq hg HB; replace HB := lb HB hb; obtain ⟨NB110_111, NB111_110, hnb7, hnc7⟩ := pm hg BK110; replace BK110 := kb BK110 hb; clear hb hbox hg; obtain ⟨hcz8_0, hcz8_1, hcz8_2, hcz8_3, hfz8_0, hfz8_1, hfz8_2, hfz8_3⟩ := g4 BK110) | ((with_reducible refine gate_callee (f := 84) rfl ?_); refine gl (some 11) Try.func84 #[.agg #[.int .u64 a0_0, .int .u64 a0_1, .int .u64 a0_2, .int .u64 (Go.bits .xor .u64 a0_3 a1)]] ?_; (with_reducible refine (sip_turn.calls a0_0 a0_1 a0_2 (Go.bits .xor .u64 a0_3 a1) t112 t113 t114 t115 _ A3.out).mono ?_); rintro e w9 ⟨rfl, hb⟩; refine ⟨_, rfl, ?_⟩; replace BK110 := am (blk_below (g := gb110) (o := .cells #[.int .u64 a0_0, .int .u64 a0_1, .int .u64 a0_2, .int .u64 (Go.bits .xor .u64 a0_3 a1)] 114 (0, 0)) (by refine pk ?_; refine blk_put (cs := #[.int .u64 a0_0, .int .u64 a0_1, .int .u64 a0_2, .int .u64 a0_3]) ?_ 3 _ rfl; refine pk ?_; exact BK110.out) hb); replace BK111 := am (blk_below (g := gb111) (o := .cells #[.int .u64 0, .int .u64 0, .int .u64 0, .int .u64 0] 114 (0, 0)) ((bf (f1 rfl) BK111 NB111_110.out).out) hb); replace HB := lb HB hb; (try clear hb); (try clear hb2); (try clear hk); (try clear hi)) | ((with_reducible refine gate_callee (f := 84) rfl ?_); refine gl (some 12) Try.func84 #[.agg #[.int .u64 t112, .int .u64 t113, .int .u64 t114, .int .u64 t115]] ?_; (with_reducible refine (sip_turn.calls t112 t113 t114 t115 t116 t117 t118 t119 _ A4.out).mono ?_); rintro e w10 ⟨rfl, hb⟩; refine ⟨_, rfl, ?_⟩; replace BK110 := kb BK110 hb; replace BK111 := kb BK111 hb; replace HB := lb HB hb; (try clear hb); (try clear hb2); (try clear hk); (try clear hi); obtain ⟨hcz11_0, hcz11_1, hcz11_2, hcz11_3, hfz11_0, hfz11_1, hfz11_2, hfz11_3⟩ := g4 BK110; obtain ⟨hcz12_0, hcz12_1, hcz12_2, hcz12_3, hfz12_0, hfz12_1, hfz12_2, hfz12_3⟩ := g4 BK111))
 refine bodyPost_ret (results_cell_row rfl _ _ gb111 114 #[.int .u64 (Go.bits .xor .u64 t116 a1), .int .u64 t117, .int .u64 t118, .int .u64 t119] (0, 0) _ rfl ((s4 rfl (bf (f5 rfl) BK111 NB111_110.out)).out) Try.underlying114 rfl (by kernel_rfl)) rfl ?_
 exact ey (h := pb HB)

def sip_number.l0 : Nat → ByteArray → Int → Int → Int → Option (Int)
 | 0, _, _, _, _ => none
 | k + 1, x0, x2, x5, x6 => if x6 < x5 then (if 0 ≤ x6 then (if x6 < (x0.size : Int) then (if 0 ≤ (wrap64 (8 * x6)) then (sip_number.l0 k x0 (Go.bits .or .u64 x2 (shl .u64 (IntKind.u64.wrap (bt x0 x6)) (wrap64 (8 * x6)))) x5 (wrap64 (x6 + 1))) else (none)) else (none)) else (none)) else (some x2)
def sip_number.f (k : Nat) (a0 : ByteArray) : Option (Int) := sip_number.l0 k a0 0 (a0.size : Int) 0
theorem sip_number.mono_l : ∀ k, (∀ y0 y1 y2 y3, LeO (sip_number.l0 k y0 y1 y2 y3) (sip_number.l0 (k + 1) y0 y1 y2 y3))
 | 0 => fun _ _ _ _ r h => by simp [sip_number.l0] at h
 | k + 1 => by
  have ih0 := sip_number.mono_l k
  ·intro y0 y1 y2 y3
   unfold sip_number.l0
   repeat' first
   | (with_reducible exact ih0 _ _ _ _)
   | (with_reducible exact LeO.refl _)
   | (with_reducible exact LeO.none _)
   | (with_reducible refine LeO.ite ?_ ?_)
   | (with_reducible refine LeO.bind ?_ (fun _ => ?_))
theorem sip_number.mono : ∀ a0 k, LeO (sip_number.f k a0) (sip_number.f (k + 1) a0) := by
 intro a0 k
 have ih0 := sip_number.mono_l k
 unfold sip_number.f
 repeat' first
   | (with_reducible exact ih0 _ _ _ _)
   | (with_reducible exact LeO.refl _)
   | (with_reducible exact LeO.none _)
   | (with_reducible refine LeO.ite ?_ ?_)
   | (with_reducible refine LeO.bind ?_ (fun _ => ?_))
set_option maxHeartbeats 8000000 in
set_option maxRecDepth 100000 in
theorem sip_number.calls (k : Nat) (a0 : ByteArray) (r : Int) (w : World) (h : sip_number.f k a0 = some r) :
  Calls Try.prog 83 #[.string a0] w fun e w' => e = .returned (.int .u64 r) ∧ Drawn0 w w' := by
 have H : (sip_number.l0 k a0 0 (a0.size : Int) 0) = some r := h;clear h;have H' := am H;clear H
 go_enter Try.func83, Try.ntmps83
 go_wp2
 go_loopg [2, 6] k (fun kq v2 v6 w' => ∃ (x2_1 : Int) (x6_1 : Int), v2 = .int .u64 x2_1 ∧ v6 = .int .i64 x6_1 ∧ Aside0 (sip_number.l0 kq a0 x2_1 (a0.size : Int) x6_1 = some r) ∧ Aside0 (kq ≤ k) ∧ Drawn0 w w')
 case atStart => exact ⟨(0), (0), eR, eR, H', ⟨Nat.le_refl _⟩, by repeat (first | exact Drawn0.refl _ | apply Drawn0.step)⟩
 case round =>
  clear H';obtain ⟨x2_1, x6_1, rfl, rfl, HA, HK1, ⟨m1, rfl⟩⟩ := hrel
  cases gk with
  | zero => exact absurd HA.out (by simp [sip_number.l0])
  | succ k1 =>
   have H := HA.out;clear HA
   simp only [sip_number.l0] at H
   by_cases c2 : x6_1 < (a0.size : Int)
   ·rw [if_pos c2] at H;have c2b0 : decide (x6_1 < (a0.size : Int)) = true := decide_eq_true c2;clear c2
    by_cases c3 : 0 ≤ x6_1
    ·rw [if_pos c3] at H;have c3b0 : decide (0 ≤ x6_1) = true := decide_eq_true c3;clear c3
     by_cases c4 : x6_1 < (a0.size : Int)
     ·rw [if_pos c4] at H;have c4b0 : decide (x6_1 < (a0.size : Int)) = true := decide_eq_true c4;clear c4;obtain ⟨ji6, hji6⟩ : ∃ j_ : Int, (wrap64 (8 * x6_1)) = j_ := ⟨_, rfl⟩
      replace H : (if 0 ≤ (ji6) then (sip_number.l0 k1 a0 (Go.bits .or .u64 x2_1 (shl .u64 (IntKind.u64.wrap (bt a0 x6_1)) (ji6))) (a0.size : Int) (wrap64 (x6_1 + 1))) else (none)) = some r := by first | (rw [hji6] at H; exact H) | (simp only [hji6] at H ⊢; exact H)
      have hji6w : (IntKind.i64.wrap (8 * x6_1)) = ji6 := (i64_w _).trans hji6
      by_cases c7 : 0 ≤ (ji6)
      ·rw [if_pos c7] at H;have c7b0 := eq_true c7;have c7b1 : decide (0 ≤ (ji6)) = true := decide_eq_true c7;clear c7;obtain ⟨ji8, hji8⟩ : ∃ j_ : Int, (shl .u64 (IntKind.u64.wrap (bt a0 x6_1)) (ji6)) = j_ := ⟨_, rfl⟩
       replace H : (sip_number.l0 k1 a0 (Go.bits .or .u64 x2_1 (ji8)) (a0.size : Int) (wrap64 (x6_1 + 1))) = some r := by first | (rw [hji8] at H; exact H) | (simp only [hji8] at H ⊢; exact H)
       have hji8_ : (IntKind.u64.wrap ((IntKind.u64.wrap (bt a0 x6_1)) * 2 ^ min (ji6).toNat 64)) = ji8 := hji8;have hji8z : (ji6) ≤ 64 → (IntKind.u64.wrap ((IntKind.u64.wrap (bt a0 x6_1)) * 2 ^ (ji6).toNat)) = ji8 := shl_small hji8;have H' := am H;clear H;have p5 : 0 ≤ (x6_1 : Int) := od;have q5 : x6_1 < (a0.size : Int) := od;have hx5 := bt_at a0 x6_1;replace p5 := eq_true p5;replace q5 := eq_true q5
       go_wp2
       go_roundg k1
       case measure => have := HK1.out; omega
       case rel => exact ⟨(Go.bits .or .u64 x2_1 (ji8)), (wrap64 (x6_1 + 1)), (by first | rfl | (simp; done) | (simp only [← hji8] <;> (first | rfl | (simp; done) | (simp [show ∀ j_ : Int, shl .u64 0 j_ = 0 from fun j_ => by unfold shl; rw [Int.zero_mul]; decide]; done))) | (simp [*]; done)), eR, H', ⟨by have := HK1.out; omega⟩, by repeat (first | exact Drawn0.refl _ | apply Drawn0.step)⟩
      ·rw [if_neg c7] at H;exact absurd H (by simp)
     ·rw [if_neg c4] at H;exact absurd H (by simp)
    ·rw [if_neg c3] at H;exact absurd H (by simp)
   ·rw [if_neg c2] at H;have c2b0 : decide (x6_1 < (a0.size : Int)) = false := decide_eq_false c2;clear c2;obtain rfl := Option.some.inj H
    go_wp2
    go_ret
    exact ⟨by first | rfl | (simp; done) | (simp [*]; done), by repeat (first | exact Drawn0.refl _ | apply Drawn0.step)⟩
def sip_Done.l0 : Nat → Int → Int → Int → Int → Int → Option (Int)
 | 0, _, _, _, _, _ => none
 | k + 1, x22, x128000, x128001, x128002, x128003 => if x22 < 4 then ((sip_turn.f x128000 x128001 x128002 x128003).bind fun bt128 => (sip_Done.l0 k (wrap64 (x22 + 1)) bt128.1 bt128.2.1 bt128.2.2.1 bt128.2.2.2)) else (some (Go.bits .xor .u64 (Go.bits .xor .u64 (Go.bits .xor .u64 x128000 x128001) x128002) x128003))
def sip_Done.f (k : Nat) (a0_0 : Int) (a0_1 : Int) (a0_2 : Int) (a0_3 : Int) (a0_4 : ByteArray) (a0_5 : Int) : Option (Int) := (sip_right.f a0_0 a0_1 a0_2 a0_3 a0_4 a0_5).bind fun t121 => (if t121 = true then ((sip_number.f k a0_4).bind fun t122 => ((sip_take.f a0_0 a0_1 a0_2 a0_3 (Go.bits .or .u64 t122 (IntKind.u64.wrap ((IntKind.u64.wrap (a0_5)) * 72057594037927936)))).bind fun bt123 => (sip_Done.l0 k 0 bt123.1 bt123.2.1 (Go.bits .xor .u64 bt123.2.2.1 255) bt123.2.2.2))) else (some 0))
theorem sip_Done.mono_l : ∀ k, (∀ y0 y1 y2 y3 y4, LeO (sip_Done.l0 k y0 y1 y2 y3 y4) (sip_Done.l0 (k + 1) y0 y1 y2 y3 y4))
 | 0 => fun _ _ _ _ _ r h => by simp [sip_Done.l0] at h
 | k + 1 => by
  have ih0 := sip_Done.mono_l k
  ·intro y0 y1 y2 y3 y4
   unfold sip_Done.l0
   repeat' first
   | (with_reducible exact ih0 _ _ _ _ _)
   | (with_reducible exact sip_number.mono _ _)
   | (with_reducible exact LeO.refl _)
   | (with_reducible exact LeO.none _)
   | (with_reducible refine LeO.ite ?_ ?_)
   | (with_reducible refine LeO.bind ?_ (fun _ => ?_))
theorem sip_Done.mono : ∀ a0 a1 a2 a3 a4 a5 k, LeO (sip_Done.f k a0 a1 a2 a3 a4 a5) (sip_Done.f (k + 1) a0 a1 a2 a3 a4 a5) := by
 intro a0 a1 a2 a3 a4 a5 k
 have ih0 := sip_Done.mono_l k
 unfold sip_Done.f
 repeat' first
   | (with_reducible exact ih0 _ _ _ _ _)
   | (with_reducible exact sip_number.mono _ _)
   | (with_reducible exact LeO.refl _)
   | (with_reducible exact LeO.none _)
   | (with_reducible refine LeO.ite ?_ ?_)
   | (with_reducible refine LeO.bind ?_ (fun _ => ?_))
def sip_Done.T3 : Bool × List (List Nat × List Nat) := (true, [([], []), ([0], [0]), ([], []), ([2], [2]), ([3], [3]), ([], []), ([5], [5]), ([6], [6]), ([7], [7]), ([4, 8], [4, 8]), ([1, 9, 4], [1, 9]), ([], []), ([11, 10, 10, 0, 1, 2, 3, 4, 5, 6, 7, 8, 9, 10, 11], [10, 11])])
def sip_Done.B3 : List Nat := [0, 1, 0, 4, 12, 0, 32, 96, 224, 508, 1023, 0, 4095]
theorem sip_Done.tab3 : rtab .any (opsOf Try.f56 3) = sip_Done.T3 := by kernel_rfl
theorem sip_Done.bits3 : waitsOk sip_Done.T3.2 sip_Done.B3 = true := by kernel_rfl
set_option maxHeartbeats 8000000 in
set_option maxRecDepth 100000 in
theorem sip_Done.calls (k : Nat) (a0_0 : Int) (a0_1 : Int) (a0_2 : Int) (a0_3 : Int) (a0_4 : ByteArray) (a0_5 : Int) (r : Int) (w : World) (h : sip_Done.f k a0_0 a0_1 a0_2 a0_3 a0_4 a0_5 = some r) :
  Calls Try.prog 56 #[.agg #[.int .u64 a0_0, .int .u64 a0_1, .int .u64 a0_2, .int .u64 a0_3, .string a0_4, .int .i64 a0_5]] w fun e w' => e = .returned (.int .u64 r) ∧ Below w.heap.size w w' := by
 have hu116 := Try.underlying116;have hu114 := Try.underlying114;have HB := am (Below.refl w.heap.size w);have H : ((sip_right.f a0_0 a0_1 a0_2 a0_3 a0_4 a0_5).bind fun t121 => (if t121 = true then ((sip_number.f k a0_4).bind fun t122 => ((sip_take.f a0_0 a0_1 a0_2 a0_3 (Go.bits .or .u64 t122 (IntKind.u64.wrap ((IntKind.u64.wrap (a0_5)) * 72057594037927936)))).bind fun bt123 => (sip_Done.l0 k 0 bt123.1 bt123.2.1 (Go.bits .xor .u64 bt123.2.2.1 255) bt123.2.2.2))) else (some 0))) = some r := h;clear h;replace H := Option.bind_eq_some_iff.mp H;obtain ⟨t121, A20, H⟩ := H
 try dsimp only at H
 have A2 := am A20;clear A20
 by_cases c3 : t121 = true
 rotate_left
 ·replace c3 := Bool.eq_false_iff.mpr c3;subst c3
  have H1 : (some 0) = some r := by rw [if_neg (show ¬ (false = true) by decide)] at H; exact H
  clear H;have H := H1;clear H1;obtain rfl := Option.some.inj H
  go_enter Try.func56, Try.ntmps56
  go_wp2_with (first | ((with_reducible refine gate_dst (N := 1) rfl ?_); refine be 1 #[.int .u64 a0_0, .int .u64 a0_1, .int .u64 a0_2, .int .u64 a0_3, .string a0_4, .int .i64 a0_5] 116 ?_; intro gb120 hg w27 hbox hb; have BK120 := am (hbox); have GW120 := gq hg HB; have GE120 := gq hg HB; replace HB := lb HB hb; clear hb hbox hg; obtain ⟨hcz28_0, hcz28_1, hcz28_2, hcz28_3, hcz28_4, hcz28_5, hfz28_0, hfz28_1, hfz28_2, hfz28_3, hfz28_4, hfz28_5⟩ := g6 BK120) | ((with_reducible refine gate_callee (f := 81) rfl ?_); refine gl (some 5) Try.func81 #[.agg #[.int .u64 a0_0, .int .u64 a0_1, .int .u64 a0_2, .int .u64 a0_3, .string a0_4, .int .i64 a0_5]] ?_; (with_reducible refine (sip_right.calls a0_0 a0_1 a0_2 a0_3 a0_4 a0_5 false _ A2.out).mono ?_); rintro e w29 ⟨rfl, hb⟩; refine ⟨_, rfl, ?_⟩; replace BK120 := kb BK120 hb; replace HB := lb HB hb; (try clear hb); (try clear hb2); (try clear hk); (try clear hi)))
  go_ret
  exact ey (h := pb HB)
 subst c3
 have H1 : ((sip_number.f k a0_4).bind fun t122 => ((sip_take.f a0_0 a0_1 a0_2 a0_3 (Go.bits .or .u64 t122 (IntKind.u64.wrap ((IntKind.u64.wrap (a0_5)) * 72057594037927936)))).bind fun bt123 => (sip_Done.l0 k 0 bt123.1 bt123.2.1 (Go.bits .xor .u64 bt123.2.2.1 255) bt123.2.2.2))) = some r := by rw [if_pos rfl] at H; exact H
 clear H;have H := H1;clear H1;replace H := Option.bind_eq_some_iff.mp H;obtain ⟨t122, A40, H⟩ := H
 try dsimp only at H
 have A4 := am A40;clear A40;replace H := Option.bind_eq_some_iff.mp H;obtain ⟨⟨t123, t124, t125, t126⟩, A50, H⟩ := H
 try dsimp only at H
 have A5 := am A50;clear A50;have H' := am H;clear H
 go_enter Try.func56, Try.ntmps56
 try go_wp2_with (first | ((with_reducible refine gate_dst (N := 1) rfl ?_); refine be 1 #[.int .u64 a0_0, .int .u64 a0_1, .int .u64 a0_2, .int .u64 a0_3, .string a0_4, .int .i64 a0_5] 116 ?_; intro gb120 hg w6 hbox hb; have BK120 := am (hbox); have GW120 := gq hg HB; have GE120 := gq hg HB; replace HB := lb HB hb; clear hb hbox hg; obtain ⟨hcz7_0, hcz7_1, hcz7_2, hcz7_3, hcz7_4, hcz7_5, hfz7_0, hfz7_1, hfz7_2, hfz7_3, hfz7_4, hfz7_5⟩ := g6 BK120) | ((with_reducible refine gate_callee (f := 81) rfl ?_); refine gl (some 5) Try.func81 #[.agg #[.int .u64 a0_0, .int .u64 a0_1, .int .u64 a0_2, .int .u64 a0_3, .string a0_4, .int .i64 a0_5]] ?_; (with_reducible refine (sip_right.calls a0_0 a0_1 a0_2 a0_3 a0_4 a0_5 true _ A2.out).mono ?_); rintro e w8 ⟨rfl, hb⟩; refine ⟨_, rfl, ?_⟩; replace BK120 := kb BK120 hb; replace HB := lb HB hb; (try clear hb); (try clear hb2); (try clear hk); (try clear hi)))
 replace BK120 := am (blk_drew BK120.out);replace HB := am (below_drew1 HB.out)
 refine start_ (n := 13) (S := fun w' => w'.cell? ⟨gb120, 0, none⟩ = some (.int .u64 a0_0) ∧ w'.cell? ⟨gb120, 1, none⟩ = some (.int .u64 a0_1) ∧ w'.cell? ⟨gb120, 2, none⟩ = some (.int .u64 a0_2) ∧ w'.cell? ⟨gb120, 3, none⟩ = some (.int .u64 a0_3) ∧ w'.cell? ⟨gb120, 4, none⟩ = some (.string a0_4) ∧ w'.cell? ⟨gb120, 5, none⟩ = some (.int .i64 a0_5)) (ds := []) #[false, false, false, false, false, false, false, false, false, false, false, false, false] (by kernel_rfl) rfl rfl (Q6 BK120) (fun hHeld => ?_); refine with_tabW sip_Done.tab3 sip_Done.bits3 (fun HT_ HW_ => ?_)
 generalize w8.drew = w9 at BK120 HB hHeld ⊢
 refine pu 0 ?_;refine pu 2 ?_;refine pu 5 ?_;refine ta 1 hHeld ?_;refine ta 3 hHeld ?_;refine ta 6 hHeld ?_;refine pu 7 ?_;refine pu 8 ?_
 refine join_ (σ := Nat) 1 #[true, true, true, true, true, true, true, true, true, true, true, true, false] (fun s_ => [(11, .int .u64 t122), (17, .agg #[.int .u64 t123, .int .u64 t124, .int .u64 t125, .int .u64 t126]), (3, .pointer (some ⟨s_, 0, none⟩)), (16, .int .u64 (Go.bits .or .u64 t122 (IntKind.u64.wrap ((IntKind.u64.wrap (a0_5)) * 72057594037927936))))]) (fun s_ w' => (w'.cell? ⟨gb120, 0, none⟩ = some (.int .u64 a0_0) ∧ w'.cell? ⟨gb120, 1, none⟩ = some (.int .u64 a0_1) ∧ w'.cell? ⟨gb120, 2, none⟩ = some (.int .u64 a0_2) ∧ w'.cell? ⟨gb120, 3, none⟩ = some (.int .u64 a0_3) ∧ w'.cell? ⟨gb120, 4, none⟩ = some (.string a0_4) ∧ w'.cell? ⟨gb120, 5, none⟩ = some (.int .i64 a0_5)) ∧ (w'.heap[gb120]? = some (.cells #[.int .u64 a0_0, .int .u64 a0_1, .int .u64 a0_2, .int .u64 a0_3, .string a0_4, .int .i64 a0_5] 116 (0, 0))) ∧ (w'.heap[s_]? = some (.cells #[.int .u64 0, .int .u64 0, .int .u64 0, .int .u64 0] 114 (0, 0))) ∧ (w.heap.size ≤ s_) ∧ (w.heap.size ≤ s_) ∧ (gb120 ≠ s_) ∧ (s_ ≠ gb120) ∧ (Below w.heap.size w w')) ?_ ?_
 ·rintro gb127 w12 ⟨hS_, h0_, h1_, h2_, h3_, h4_, h5_, h6_⟩
  (try dsimp only at h0_ h1_ h2_ h3_ h4_ h5_ h6_);replace BK120 := am h0_;have BK127 := am h1_;have GW127 := am h2_;have GE127 := am h3_;have NB120_127 := am h4_;have NB127_120 := am h5_;replace HB := am h6_;clear h0_ h1_ h2_ h3_ h4_ h5_ h6_;have hHeld : w12.cell? ⟨gb120, 0, none⟩ = some (.int .u64 a0_0) ∧ w12.cell? ⟨gb120, 1, none⟩ = some (.int .u64 a0_1) ∧ w12.cell? ⟨gb120, 2, none⟩ = some (.int .u64 a0_2) ∧ w12.cell? ⟨gb120, 3, none⟩ = some (.int .u64 a0_3) ∧ w12.cell? ⟨gb120, 4, none⟩ = some (.string a0_4) ∧ w12.cell? ⟨gb120, 5, none⟩ = some (.int .i64 a0_5) := hS_
  refine norm_ (a' := ?_) ?_ ?_
  rotate_left
  ·simp only [putAll, Act.put, List.setIfInBounds_toArray, List.set_cons_zero, List.set_cons_succ]
   rfl
  refine one_ (i := 12) (N := none) #[true, true, true, true, true, true, true, true, true, true, true, true, true] rfl rfl (one_of HT_.out (by kernel_rfl)) (by decide) (fun K hK => ?_)
  have hs13 : w12.cell? ⟨gb127, 0, none⟩ = some (.int .u64 0) := ce BK127 0;have hfs13 := blk_frozen BK127.out 0;have hns13_0 := NB120_127.out;have hms13_0 := NB127_120.out;have hs14 : w12.cell? ⟨gb127, 1, none⟩ = some (.int .u64 0) := ce BK127 1;have hfs14 := blk_frozen BK127.out 1;have hns14_0 := NB120_127.out;have hms14_0 := NB127_120.out;have hs15 : w12.cell? ⟨gb127, 2, none⟩ = some (.int .u64 0) := ce BK127 2;have hfs15 := blk_frozen BK127.out 2;have hns15_0 := NB120_127.out;have hms15_0 := NB127_120.out;have hs16 : w12.cell? ⟨gb127, 3, none⟩ = some (.int .u64 0) := ce BK127 3;have hfs16 := blk_frozen BK127.out 3;have hns16_0 := NB120_127.out;have hms16_0 := NB127_120.out
  refine skip_ (w1 := ?_) (by rfl) rfl ?_ ?_
  rotate_left
  ·go_simp
   rfl
  refine hK.out _ _ ⟨(q4 NB120_127.out hHeld.1), (q4 NB120_127.out hHeld.2.1), (q4 NB120_127.out hHeld.2.2.1), (q4 NB120_127.out hHeld.2.2.2.1), (q4 NB120_127.out hHeld.2.2.2.2.1), (q4 NB120_127.out hHeld.2.2.2.2.2)⟩ (fun hHeld => ?_)
  clear hK K
  refine done_ (done_of HT_.out (by kernel_rfl)) ?_
  have hnb17 := NB127_120.out;have hnc17 := NB120_127.out;obtain ⟨hcz18_0, hcz18_1, hcz18_2, hcz18_3, hfz18_0, hfz18_1, hfz18_2, hfz18_3⟩ := g4 BK127
  try go_wp2
  go_loopg [22] k (fun kq v22 w' => ∃ (x22_1 : Int) (x128000_1 : Int) (x128001_1 : Int) (x128002_1 : Int) (x128003_1 : Int), v22 = .int .i64 x22_1 ∧ Aside0 (sip_Done.l0 kq x22_1 x128000_1 x128001_1 x128002_1 x128003_1 = some r) ∧ Aside0 (kq ≤ k) ∧ Aside0 (w'.heap[gb120]? = some (.cells #[.int .u64 a0_0, .int .u64 a0_1, .int .u64 a0_2, .int .u64 a0_3, .string a0_4, .int .i64 a0_5] 116 (0, 0))) ∧ Aside0 (w'.heap[gb127]? = some (.cells #[.int .u64 x128000_1, .int .u64 x128001_1, .int .u64 x128002_1, .int .u64 x128003_1] 114 (0, 0))) ∧ Aside0 (Below w.heap.size w w'))
  case atStart => exact ⟨(0), (t123), (t124), (Go.bits .xor .u64 t125 255), (t126), eR, H', ⟨Nat.le_refl _⟩, ⟨(bf (f5 rfl) BK120 NB120_127.out).out⟩, ⟨by refine pk ?_; refine blk_put (cs := #[.int .u64 t123, .int .u64 t124, .int .u64 t125, .int .u64 t126]) ?_ 2 _ rfl; refine pk ?_; refine blk_put (cs := #[.int .u64 t123, .int .u64 t124, .int .u64 t125, .int .u64 0]) ?_ 3 _ rfl; refine pk ?_; refine blk_put (cs := #[.int .u64 t123, .int .u64 t124, .int .u64 0, .int .u64 0]) ?_ 2 _ rfl; refine pk ?_; refine blk_put (cs := #[.int .u64 t123, .int .u64 0, .int .u64 0, .int .u64 0]) ?_ 1 _ rfl; refine pk ?_; refine blk_put (cs := #[.int .u64 0, .int .u64 0, .int .u64 0, .int .u64 0]) ?_ 0 _ rfl; refine pk ?_; exact BK127.out⟩, ⟨pb HB⟩⟩
  case round =>
   clear H';(try clear c1);(try clear p2);(try clear c3);(try clear c5);(try clear c8);(try clear c17);(try clear hcz18_0 hcz18_1 hcz18_2 hcz18_3);(try clear hcz7_0 hcz7_1 hcz7_2 hcz7_3 hcz7_4 hcz7_5);(try clear hfz18_0 hfz18_1 hfz18_2 hfz18_3);(try clear hfz7_0 hfz7_1 hfz7_2 hfz7_3 hfz7_4 hfz7_5);obtain ⟨x22_1, x128000_1, x128001_1, x128002_1, x128003_1, rfl, HA, HK1, BK120, BK127, HB⟩ := hrel
   cases gk with
   | zero => exact absurd HA.out (by simp [sip_Done.l0])
   | succ k1 =>
    have H := HA.out;clear HA
    simp only [sip_Done.l0] at H
    by_cases c19 : x22_1 < 4
    ·rw [if_pos c19] at H;have c19b0 : decide (x22_1 < 4) = true := decide_eq_true c19;clear c19;replace H := Option.bind_eq_some_iff.mp H;obtain ⟨⟨t128, t129, t130, t131⟩, A200, H⟩ := H
     try dsimp only at H
     have A20 := am A200;clear A200;have H' := am H;clear H;have hnb21 := NB127_120.out;have hnc21 := NB120_127.out;obtain ⟨hcz22_0, hcz22_1, hcz22_2, hcz22_3, hfz22_0, hfz22_1, hfz22_2, hfz22_3⟩ := g4 BK127
     go_wp2_with (first | ((with_reducible refine gate_callee (f := 84) rfl ?_); refine gl (some 25) Try.func84 #[.agg #[.int .u64 x128000_1, .int .u64 x128001_1, .int .u64 x128002_1, .int .u64 x128003_1]] ?_; (with_reducible refine (sip_turn.calls x128000_1 x128001_1 x128002_1 x128003_1 t128 t129 t130 t131 _ A20.out).mono ?_); rintro e w23 ⟨rfl, hb⟩; refine ⟨_, rfl, ?_⟩; replace BK120 := kb BK120 hb; replace BK127 := kb BK127 hb; replace HB := lb HB hb; (try clear hb); (try clear hb2); (try clear hk); (try clear hi); obtain ⟨hcz24_0, hcz24_1, hcz24_2, hcz24_3, hfz24_0, hfz24_1, hfz24_2, hfz24_3⟩ := g4 BK127))
     go_roundg k1
     case measure => have := HK1.out; omega
     case rel => exact ⟨(wrap64 (x22_1 + 1)), (t128), (t129), (t130), (t131), eR, H', ⟨by have := HK1.out; omega⟩, ⟨(bf (f4 rfl) BK120 NB120_127.out).out⟩, ⟨(s4 rfl BK127).out⟩, ⟨pb HB⟩⟩
    ·rw [if_neg c19] at H;have c19b0 : decide (x22_1 < 4) = false := decide_eq_false c19;clear c19;obtain rfl := Option.some.inj H;have hnb25 := NB127_120.out;have hnc25 := NB120_127.out;obtain ⟨hcz26_0, hcz26_1, hcz26_2, hcz26_3, hfz26_0, hfz26_1, hfz26_2, hfz26_3⟩ := g4 BK127
     go_wp2
     go_ret
     exact ey (h := pb HB)
 intro hCont
 refine two_ (i := 4) (j := 11) (Ni := some 11) (Nj := some 3) #[true, true, true, true, true, true, true, true, true, false, false, false, false] #[true, true, true, true, false, true, true, true, true, false, false, true, false] rfl rfl rfl rfl (two_of HT_.out (by kernel_rfl)) (by decide) (by decide) (fun K hK => ?_) (fun K hK => ?_)
 rotate_left
 ·skip
  refine bx 3 #[.int .u64 0, .int .u64 0, .int .u64 0, .int .u64 0] 114 ?_
  intro gb127 hg w10 hbox hb
  have BK127 := am (hbox);have GW127 := gq hg HB;have GE127 := gq hg HB;replace HB := lb HB hb;obtain ⟨NB120_127, NB127_120, -, -⟩ := pm hg BK120;replace BK120 := kb BK120 hb;clear hb hbox hg
  refine hK.out _ _ (Q6 BK120) (fun hHeld => ?_)
  clear hK K;refine nm ?_
  refine on1 4 (fun K hK => ?_)
  refine gs Try.func83 #[.string a0_4] ?_
  with_reducible refine (sip_number.calls k a0_4 t122 _ A4.out).mono ?_
  rintro e w' ⟨rfl, ⟨nd, rfl⟩⟩
  refine ⟨_, rfl, ?_⟩
  refine hK.out _ _ (Q6 BK120) (fun hHeld => ?_)
  clear hK K;refine nm ?_;refine pu 9 ?_
  refine on1 10 (fun K hK => ?_)
  refine gs Try.func82 #[.agg #[.int .u64 a0_0, .int .u64 a0_1, .int .u64 a0_2, .int .u64 a0_3], .int .u64 (Go.bits .or .u64 t122 (IntKind.u64.wrap ((IntKind.u64.wrap (a0_5)) * 72057594037927936)))] ?_
  with_reducible refine (sip_take.calls a0_0 a0_1 a0_2 a0_3 (Go.bits .or .u64 t122 (IntKind.u64.wrap ((IntKind.u64.wrap (a0_5)) * 72057594037927936))) t123 t124 t125 t126 _ A5.out).mono ?_
  rintro e w11 ⟨rfl, hb⟩
  refine ⟨_, rfl, ?_⟩
  replace BK120 := kb BK120 hb;replace BK127 := kb BK127 hb;replace HB := lb HB hb
  (try clear hb)
  (try clear hb2)
  (try clear hk)
  (try clear hi)
  refine hK.out _ _ (Q6 BK120) (fun hHeld => ?_)
  clear hK K;refine nm ?_
  exact nj (hCont (gb127) _ ⟨hHeld, (pk BK120.out), (pk BK127.out), GW127.out, GE127.out, NB120_127.out, NB127_120.out, (pb HB)⟩)
 skip
 refine gs Try.func83 #[.string a0_4] ?_
 with_reducible refine (sip_number.calls k a0_4 t122 _ A4.out).mono ?_
 rintro e w' ⟨rfl, ⟨nd, rfl⟩⟩
 refine ⟨_, rfl, ?_⟩
 refine hK.out _ _ (Q6 BK120) (fun hHeld => ?_)
 clear hK K;refine nm ?_;refine pu 9 ?_
 refine two_ (i := 10) (j := 11) (Ni := some 17) (Nj := some 3) #[true, true, true, true, true, true, true, true, true, true, true, false, false] #[true, true, true, true, true, true, true, true, true, true, false, true, false] rfl rfl rfl rfl (two_of HT_.out (by kernel_rfl)) (by decide) (by decide) (fun K hK => ?_) (fun K hK => ?_)
 ·skip
  refine gs Try.func82 #[.agg #[.int .u64 a0_0, .int .u64 a0_1, .int .u64 a0_2, .int .u64 a0_3], .int .u64 (Go.bits .or .u64 t122 (IntKind.u64.wrap ((IntKind.u64.wrap (a0_5)) * 72057594037927936)))] ?_
  with_reducible refine (sip_take.calls a0_0 a0_1 a0_2 a0_3 (Go.bits .or .u64 t122 (IntKind.u64.wrap ((IntKind.u64.wrap (a0_5)) * 72057594037927936))) t123 t124 t125 t126 _ A5.out).mono ?_
  rintro e w10 ⟨rfl, hb⟩
  refine ⟨_, rfl, ?_⟩
  replace BK120 := kb BK120 hb;replace HB := lb HB hb
  (try clear hb)
  (try clear hb2)
  (try clear hk)
  (try clear hi)
  refine hK.out _ _ (Q6 BK120) (fun hHeld => ?_)
  clear hK K;refine nm ?_
  refine on1 11 (fun K hK => ?_)
  refine bx 3 #[.int .u64 0, .int .u64 0, .int .u64 0, .int .u64 0] 114 ?_
  intro gb127 hg w11 hbox hb
  have BK127 := am (hbox);have GW127 := gq hg HB;have GE127 := gq hg HB;replace HB := lb HB hb;obtain ⟨NB120_127, NB127_120, -, -⟩ := pm hg BK120;replace BK120 := kb BK120 hb;clear hb hbox hg
  refine hK.out _ _ (Q6 BK120) (fun hHeld => ?_)
  clear hK K;refine nm ?_
  exact nj (hCont (gb127) _ ⟨hHeld, (pk BK120.out), (pk BK127.out), GW127.out, GE127.out, NB120_127.out, NB127_120.out, (pb HB)⟩)
 skip
 refine bx 3 #[.int .u64 0, .int .u64 0, .int .u64 0, .int .u64 0] 114 ?_
 intro gb127 hg w10 hbox hb
 have BK127 := am (hbox);have GW127 := gq hg HB;have GE127 := gq hg HB;replace HB := lb HB hb;obtain ⟨NB120_127, NB127_120, -, -⟩ := pm hg BK120;replace BK120 := kb BK120 hb;clear hb hbox hg
 refine hK.out _ _ (Q6 BK120) (fun hHeld => ?_)
 clear hK K;refine nm ?_
 refine on1 10 (fun K hK => ?_)
 refine gs Try.func82 #[.agg #[.int .u64 a0_0, .int .u64 a0_1, .int .u64 a0_2, .int .u64 a0_3], .int .u64 (Go.bits .or .u64 t122 (IntKind.u64.wrap ((IntKind.u64.wrap (a0_5)) * 72057594037927936)))] ?_
 with_reducible refine (sip_take.calls a0_0 a0_1 a0_2 a0_3 (Go.bits .or .u64 t122 (IntKind.u64.wrap ((IntKind.u64.wrap (a0_5)) * 72057594037927936))) t123 t124 t125 t126 _ A5.out).mono ?_
 rintro e w11 ⟨rfl, hb⟩
 refine ⟨_, rfl, ?_⟩
 replace BK120 := kb BK120 hb;replace BK127 := kb BK127 hb;replace HB := lb HB hb
 (try clear hb)
 (try clear hb2)
 (try clear hk)
 (try clear hi)
 refine hK.out _ _ (Q6 BK120) (fun hHeld => ?_)
 clear hK K;refine nm ?_
 exact nj (hCont (gb127) _ ⟨hHeld, (pk BK120.out), (pk BK127.out), GW127.out, GE127.out, NB120_127.out, NB127_120.out, (pb HB)⟩)
end Go.Proofs.Ytagcobdpojeiiaa.H
