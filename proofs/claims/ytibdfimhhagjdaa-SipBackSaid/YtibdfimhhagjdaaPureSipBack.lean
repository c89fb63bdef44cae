/- The law SipBack, in plain Lean: eight bytes taken keep unlike states unlike. -/
import Derived.Test.YtibdfimhhagjdaaHqSipBack
import Derived.Test.YtibdfimhhagjdaaSipMore
import Derived.Test.YtibdfimhhagjdaaHx4
import Derived.Laws.Bits64
set_option linter.unusedVariables false
namespace Go.Proofs.Ytibdfimhhagjdaa.Pure
open Go.RowKit Go.Proofs.Ytibdfimhhagjdaa.H Go.Proofs.YtibdfimhhagjdaaW.PrintWords Go.Proofs.YtibdfimhhagjdaaW.PrintMore Go.Proofs.Ytibdfimhhagjdaa.Sip

theorem awakeB (k : Nat) (hk : 20 ≤ k) : samphirelaw05_awake.f k = some true := by
  obtain ⟨h1, h2⟩ := awake_eq k hk
  unfold samphirelaw05_awake.f
  rw [h1, Option.bind_some, if_pos rfl, h2, Option.bind_some]
  rfl
def In (x : Int) : Prop := 0 ≤ x ∧ x < 18446744073709551616
theorem in_xr (x y : Int) : In (xr x y) := bits_range .xor x y
theorem in_wr (x : Int) : In (wr x) := wr_range x
theorem in_rotl (x n : Int) : In (rotl x n) := bits_range .or _ _
theorem xr_inj {x x' y : Int} (hx : In x) (hx' : In x') (hy : In y) (h : xr x y = xr x' y) : x = x' := by
  obtain ⟨a, rfl⟩ := Int.eq_ofNat_of_zero_le hx.1
  obtain ⟨a', rfl⟩ := Int.eq_ofNat_of_zero_le hx'.1
  obtain ⟨b, rfl⟩ := Int.eq_ofNat_of_zero_le hy.1
  have ha := hx.2
  have ha' := hx'.2
  have hb := hy.2
  unfold xr at h
  rw [bits_xor_u64_nat a b (by omega) (by omega), bits_xor_u64_nat a' b (by omega) (by omega)] at h
  have h2 : a ^^^ b = a' ^^^ b := by omega
  have h3 : (a ^^^ b) ^^^ b = (a' ^^^ b) ^^^ b := by rw [h2]
  rw [Nat.xor_assoc, Nat.xor_self, Nat.xor_zero, Nat.xor_assoc, Nat.xor_self, Nat.xor_zero] at h3
  omega
theorem wr_inj {x x' y : Int} (hx : In x) (hx' : In x') (h : wr (x + y) = wr (x' + y)) : x = x' := by
  rw [wr_eq, wr_eq] at h
  have := hx.1
  have := hx.2
  have := hx'.1
  have := hx'.2
  omega
theorem rotl_sum (x : Int) (hx : In x) (n : Nat) (h0 : 0 < n) (h1 : n < 64) : rotl x n = (x * 2 ^ n) % 18446744073709551616 + x / 2 ^ (64 - n) := by
  have hp : (0 : Int) < 2 ^ n := Int.pow_pos (by omega)
  have hq : (0 : Int) < 2 ^ (64 - n) := Int.pow_pos (by omega)
  have h64 : (2 : Int) ^ (64 - n) * 2 ^ n = 18446744073709551616 := by
    rw [← Int.pow_add, show 64 - n + n = 64 from by omega]
    decide
  have e1 : shl .u64 x n = (x * 2 ^ n) % 18446744073709551616 := by
    unfold shl
    have : IntKind.u64.bits = 64 := rfl
    rw [this, show min (n : Int).toNat 64 = n from by omega, IntKind.wrap_u64]
  have e2 : shr .u64 x (64 - n) = x / 2 ^ (64 - n) := by
    unfold shr
    have : IntKind.u64.bits = 64 := rfl
    rw [this, show min (64 - (n : Int)).toNat 64 = 64 - n from by omega]
  have hm : (x * 2 ^ n) % 18446744073709551616 % 2 ^ n = 0 := by
    rw [← h64, Int.emod_emod_of_dvd _ (Int.dvd_mul_left _ _)]
    exact Int.mul_emod_left _ _
  have hd : x / 2 ^ (64 - n) < 2 ^ n := by
    refine Int.ediv_lt_of_lt_mul hq ?_
    rw [Int.mul_comm, h64]
    exact hx.2
  have hd0 : 0 ≤ x / 2 ^ (64 - n) := Int.ediv_nonneg hx.1 (by omega)
  have hl : x / 2 ^ (64 - n) < 18446744073709551616 := by
    have : (2 : Int) ^ n ≤ 2 ^ (64 - n) * 2 ^ n := by
      have h2 : (1 : Int) * 2 ^ n ≤ 2 ^ (64 - n) * 2 ^ n := Int.mul_le_mul_of_nonneg_right (by omega) (by omega)
      omega
    omega
  unfold rotl
  rw [e1, e2, bits_join .u64 64 (Nat.le_refl _) (fun n a b => by rw [IntKind.wrap_u64]; omega) n _ _ (Int.emod_nonneg _ (by decide)) hm (Int.emod_lt_of_pos _ (by decide)) hd0 hd hl]
theorem rotl_inj (n : Nat) (h0 : 0 < n) (h1 : n < 64) {x y : Int} (hx : In x) (hy : In y) (h : rotl x n = rotl y n) : x = y := by
  rw [rotl_sum x hx n h0 h1, rotl_sum y hy n h0 h1] at h
  have hp : (0 : Int) < 2 ^ n := Int.pow_pos (by omega)
  have hq : (0 : Int) < 2 ^ (64 - n) := Int.pow_pos (by omega)
  have h64 : (2 : Int) ^ (64 - n) * 2 ^ n = 18446744073709551616 := by
    rw [← Int.pow_add, show 64 - n + n = 64 from by omega]
    decide
  have key : ∀ z : Int, In z → (z * 2 ^ n) % 18446744073709551616 = (z % 2 ^ (64 - n)) * 2 ^ n ∧ 0 ≤ z / 2 ^ (64 - n) ∧ z / 2 ^ (64 - n) < 2 ^ n := by
    intro z hz
    refine ⟨?_, Int.ediv_nonneg hz.1 (by omega), ?_⟩
    · rw [← h64, Int.mul_comm z, Int.mul_comm (2 ^ (64 - n)) (2 ^ n), Int.mul_emod_mul_of_pos _ _ hp, Int.mul_comm]
    · refine Int.ediv_lt_of_lt_mul hq ?_
      rw [Int.mul_comm, h64]
      exact hz.2
  obtain ⟨ex, x0, x1⟩ := key x hx
  obtain ⟨ey, y0, y1⟩ := key y hy
  rw [ex, ey] at h
  have hmod : x / 2 ^ (64 - n) = y / 2 ^ (64 - n) := by
    have hh := congrArg (· % (2 : Int) ^ n) h
    simp only [Int.add_emod, Int.mul_emod_left, Int.zero_add, Int.emod_emod] at hh
    rwa [Int.emod_eq_of_lt x0 x1, Int.emod_eq_of_lt y0 y1] at hh
  have hdiv : x % 2 ^ (64 - n) = y % 2 ^ (64 - n) := by
    rw [hmod] at h
    exact Int.eq_of_mul_eq_mul_right (Int.ne_of_gt hp) (by omega)
  rw [← Int.mul_ediv_add_emod x (2 ^ (64 - n)), ← Int.mul_ediv_add_emod y (2 ^ (64 - n)), hmod, hdiv]
theorem turn_inj {a b c d a' b' c' d' : Int} (ha : In a) (hb : In b) (hc : In c) (hd : In d) (ha' : In a') (hb' : In b') (hc' : In c') (hd' : In d') (h : turn (a, b, c, d) = turn (a', b', c', d')) : a = a' ∧ b = b' ∧ c = c' ∧ d = d' := by
  simp only [turn, Prod.mk.injEq] at h
  obtain ⟨h1, h2, h3, h4⟩ := h
  have c2 := rotl_inj 32 (by omega) (by omega) (in_wr _) (in_wr _) h3
  rw [c2] at h2
  have b1 := rotl_inj 17 (by omega) (by omega) (in_xr _ _) (in_xr _ _) (xr_inj (in_rotl _ _) (in_rotl _ _) (in_wr _) h2)
  rw [b1] at c2
  have c1 := wr_inj (in_wr _) (in_wr _) c2
  rw [h1] at h4
  have d1 := rotl_inj 21 (by omega) (by omega) (in_xr _ _) (in_xr _ _) (xr_inj (in_rotl _ _) (in_rotl _ _) (in_wr _) h4)
  rw [d1] at h1
  have a2 := wr_inj (in_rotl _ _) (in_rotl _ _) h1
  have a1 := rotl_inj 32 (by omega) (by omega) (in_wr _) (in_wr _) a2
  rw [a1] at b1
  have eb := rotl_inj 13 (by omega) (by omega) hb hb' (xr_inj (in_rotl _ _) (in_rotl _ _) (in_wr _) b1)
  rw [c1] at d1
  have ed := rotl_inj 16 (by omega) (by omega) hd hd' (xr_inj (in_rotl _ _) (in_rotl _ _) (in_wr _) d1)
  rw [eb] at a1
  rw [ed] at c1
  exact ⟨wr_inj ha ha' a1, eb, wr_inj hc hc' c1, ed⟩
theorem in_turn (v : W4) : In (turn v).1 ∧ In (turn v).2.1 ∧ In (turn v).2.2.1 ∧ In (turn v).2.2.2 := ⟨in_wr _, in_xr _ _, in_rotl _ _, in_xr _ _⟩
theorem take_inj {a b c d a' b' c' d' n : Int} (hn : In n) (ha : In a) (hb : In b) (hc : In c) (hd : In d) (ha' : In a') (hb' : In b') (hc' : In c') (hd' : In d') (h : take (a, b, c, d) n = take (a', b', c', d') n) : a = a' ∧ b = b' ∧ c = c' ∧ d = d' := by
  unfold take at h
  simp only at h
  have i1 := in_turn (a, b, c, xr d n)
  have i1' := in_turn (a', b', c', xr d' n)
  have inj1 := @turn_inj a b c (xr d n) a' b' c' (xr d' n) ha hb hc (in_xr _ _) ha' hb' hc' (in_xr _ _)
  generalize turn (a, b, c, xr d n) = u at h i1 inj1
  generalize turn (a', b', c', xr d' n) = u' at h i1' inj1
  obtain ⟨u0, u1, u2, u3⟩ := u
  obtain ⟨u0', u1', u2', u3'⟩ := u'
  simp only at i1 i1'
  have i2 := in_turn (u0, u1, u2, u3)
  have i2' := in_turn (u0', u1', u2', u3')
  have inj2 := @turn_inj u0 u1 u2 u3 u0' u1' u2' u3' i1.1 i1.2.1 i1.2.2.1 i1.2.2.2 i1'.1 i1'.2.1 i1'.2.2.1 i1'.2.2.2
  generalize turn (u0, u1, u2, u3) = t at h i2 inj2
  generalize turn (u0', u1', u2', u3') = t' at h i2' inj2
  obtain ⟨t0, t1, t2, t3⟩ := t
  obtain ⟨t0', t1', t2', t3'⟩ := t'
  simp only [Prod.mk.injEq] at h
  obtain ⟨h0, h1, h2, h3⟩ := h
  have e0 : t0 = t0' := xr_inj i2.1 i2'.1 hn h0
  obtain ⟨v0, v1, v2, v3⟩ := inj2 (by rw [e0, h1, h2, h3])
  obtain ⟨q0, q1, q2, q3⟩ := inj1 (by rw [v0, v1, v2, v3])
  exact ⟨q0, q1, q2, xr_inj hd hd' hn q3⟩
theorem back_end (k : Nat) (hk : 30 ≤ k) (n a b c d a' b' c' d' : Int) (ha : In a) (hb : In b) (hc : In c) (hd : In d) (ha' : In a') (hb' : In b') (hc' : In c') (hd' : In d') (l : List UInt8) (hl : l.length = 8) :
    samphirelaw05_SipBack.l0 (k + 1) n (mkB l) 8 a b c d a' b' c' d' = some true := by
  have w1 := write_wt (a, b, c, d) [] l 0 (by omega) rfl (by omega) (by simp only [List.length_nil]; omega) k (by simp only [List.length_nil]; omega)
  have w2 := write_wt (a', b', c', d') [] l 0 (by omega) rfl (by omega) (by simp only [List.length_nil]; omega) k (by simp only [List.length_nil]; omega)
  have hr := num_range (l.take 8)
  have hlt : (l.take 8).length = 8 := by rw [List.length_take]; omega
  rw [hlt] at hr
  have h8 : (256 : Int) ^ 8 = 18446744073709551616 := by decide
  have hn : In (num (l.take 8)) := ⟨hr.1, by omega⟩
  have ewt : ∀ v : W4, wt v [] l = (take v (num (l.take 8)), []) := by
    intro v
    unfold wt
    rw [List.nil_append, hl]
    show (absorb 1 v l, l.drop 8) = _
    rw [List.drop_of_length_le (by omega)]
    rfl
  rw [ewt] at w1 w2
  have inj := @take_inj a b c d a' b' c' d' (num (l.take 8)) hn ha hb hc hd ha' hb' hc' hd'
  have cong : a = a' ∧ b = b' ∧ c = c' ∧ d = d' → take (a, b, c, d) (num (l.take 8)) = take (a', b', c', d') (num (l.take 8)) := by
    rintro ⟨rfl, rfl, rfl, rfl⟩
    rfl
  rw [samphirelaw05_SipBack.l0, if_neg (by decide), show (⟨#[]⟩ : ByteArray) = mkB [] from rfl, w1, Option.bind_some, w2, Option.bind_some]
  generalize take (a, b, c, d) (num (l.take 8)) = u at inj cong ⊢
  generalize take (a', b', c', d') (num (l.take 8)) = u' at inj cong ⊢
  obtain ⟨u0, u1, u2, u3⟩ := u
  obtain ⟨u0', u1', u2', u3'⟩ := u'
  simp only [Prod.mk.injEq] at inj cong ⊢
  have hb : ((u0 == u0' && (u1 == u1' && (u2 == u2' && (u3 == u3')))) == (a == a' && (b == b' && (c == c' && (d == d'))))) = true := by
    rw [beq_iff_eq, Bool.eq_iff_iff]
    simp only [Bool.and_eq_true, beq_iff_eq]
    exact ⟨inj, cong⟩
  rw [if_pos hb, if_pos (by rw [hl]; rfl), if_pos (show (mkB []).toList = [] by unfold mkB ByteArray.toList ByteArray.toList.loop; rfl), awakeB k (by omega)]
  rfl
theorem back_loop (n a b c d a' b' c' d' : Int) (ha : In a) (hb : In b) (hc : In c) (hd : In d) (ha' : In a') (hb' : In b') (hc' : In c') (hd' : In d') : ∀ (m i k : Nat) (s : ByteArray), i + m = 8 → s.size = i → 40 + m < k →
    samphirelaw05_SipBack.l0 k n s i a b c d a' b' c' d' = some true := by
  intro m
  induction m with
  | zero =>
    intro i k s hi hs hk
    obtain ⟨k, rfl⟩ : ∃ q, k = q + 1 := ⟨k - 1, by omega⟩
    obtain rfl : i = 8 := by omega
    rw [mkB_eq s]
    exact back_end k (by omega) n a b c d a' b' c' d' ha hb hc hd ha' hb' hc' hd' s.data.toList (by rw [size_list]; exact hs)
  | succ m ih =>
    intro i k s hi hs hk
    obtain ⟨k, rfl⟩ : ∃ q, k = q + 1 := ⟨k - 1, by omega⟩
    have e1 : wrap64 (8 * (i : Int)) = ((8 * i : Nat) : Int) := by rw [wrap64_id (by omega) (by omega)]; omega
    have e2 : wrap64 ((i : Int) + 1) = ((i + 1 : Nat) : Int) := by rw [wrap64_id (by omega) (by omega)]; omega
    have hz : (strOfNums ([(shr .u64 n ((8 * i : Nat) : Int)) % 256] : List Int)).size = 1 := strOfNums_size _
    rw [samphirelaw05_SipBack.l0, if_pos (by omega)]
    simp only [e1, e2, Option.bind_some]
    rw [if_pos (by omega), if_pos (by rw [hz, hs]; omega)]
    exact ih (i + 1) k _ (by omega) (by rw [ByteArray.size_append, hz, hs]) (by omega)
theorem SipBack : H.samphirelaw05_SipBack.Pure := by
  intro x y n hx hy hn
  refine ⟨100, ?_⟩
  unfold H.samphirelaw05_SipBack.f
  have g : ∀ z : Int, Ok22 z → In z := fun z h => ⟨h.1, by have := h.2; omega⟩
  exact back_loop n _ _ _ _ _ _ _ _ (g _ hx.1) (g _ hx.2.1) (g _ hx.2.2.1) (g _ hx.2.2.2) (g _ hy.1) (g _ hy.2.1) (g _ hy.2.2.1) (g _ hy.2.2.2) 8 0 100 ⟨#[]⟩ (by omega) rfl (by omega)
end Go.Proofs.Ytibdfimhhagjdaa.Pure
