import Derived.Test.YtmfffbafldbihaaHx0
import Derived.Test.YtmfffbafldbihaaHx4
namespace Go.Proofs.Ytmfffbafldbihaa.H
open Go.RowKit Go.Proofs.YtmfffbafldbihaaW.PrintWords Go.Proofs.YtmfffbafldbihaaW.PrintLast Go.Proofs.YtmfffbafldbihaaW.PrintMore Go.Proofs.YtmfffbafldbihaaW.Sq
attribute [local go_sem] max2_int min2_int max_two min_two max_three min_three max_four min_four
set_option linter.unusedVariables false
set_option linter.unusedSimpArgs false

theorem dig_calls (a0 a1 : Int) (w : World) :
  Calls Try.prog 43 #[.agg #[.int .u64 a0, .int .u64 a1]] w fun e w' => e = .returned (.agg #[.int .u64 (a1.tmod 65536), .int .u64 ((a1 / 65536).tmod 65536), .int .u64 ((a1 / 4294967296).tmod 65536), .int .u64 ((a1 / 281474976710656).tmod 65536), .int .u64 (a0.tmod 65536), .int .u64 ((a0 / 65536).tmod 65536), .int .u64 ((a0 / 4294967296).tmod 65536), .int .u64 ((a0 / 281474976710656).tmod 65536)]) ∧ Below w.heap.size w w' := by
 have hu := Try.underlying88
 go_enter Try.func43, Try.ntmps43
 go_wp2
 refine wp_loop_rounds 5 ?_
 rw [rounds_succ]
 go_wp2
 rw [rounds_succ]
 go_wp2
 rw [rounds_succ]
 go_wp2
 rw [rounds_succ]
 go_wp2
 rw [rounds_succ]
 go_wp2
 refine bodyPost_ret (v := .agg #[.int .u64 (a1.tmod 65536), .int .u64 ((a1 / 65536).tmod 65536), .int .u64 ((a1 / 4294967296).tmod 65536), .int .u64 ((a1 / 281474976710656).tmod 65536), .int .u64 (a0.tmod 65536), .int .u64 ((a0 / 65536).tmod 65536), .int .u64 ((a0 / 4294967296).tmod 65536), .int .u64 ((a0 / 281474976710656).tmod 65536)]) ?_ rfl ⟨rfl, by repeat (first | exact Below.refl _ _ | apply below_alloc)⟩
 refine results_cell_row rfl _ _ (w.heap.size + 1) 88 _ (0, 0) _ rfl ?_ hu rfl ?_
 ·exact (heap_alloc_old _ _ (by simp)).trans (heap_alloc2_new _ _ _)
 ·kernel_rfl
theorem rounds_gen {P : Program} {c : Code} {Q : Exit → Act → World → Prop} {n : Nat} {a : Act} {w : World} (F : World → Prop) (hF : F w) (h : ∀ W, F W → Code.rounds P c Q n a W) : Code.rounds P c Q n a w := h w hF
theorem blk_newAt (w : World) (o : Obj) {g : Nat} (h : g = w.heap.size) : (w.alloc o).heap[g]? = some o := by subst h; exact blk_new _ _
def dnm (a d : Int) : Int := IntKind.u64.wrap (IntKind.u64.wrap (a * 65536) + d)
theorem num_calls (d0 d1 d2 d3 d4 d5 d6 d7 : Int) (w : World) :
  Calls Try.prog 44 #[.agg #[.int .u64 d0, .int .u64 d1, .int .u64 d2, .int .u64 d3, .int .u64 d4, .int .u64 d5, .int .u64 d6, .int .u64 d7]] w fun e w' => e = .returned (.agg #[.int .u64 (dnm (dnm (dnm (dnm 0 d7) d6) d5) d4), .int .u64 (dnm (dnm (dnm (dnm 0 d3) d2) d1) d0)]) ∧ Below w.heap.size w w' := by
 have hu := Try.underlying88;have hu50 := Try.underlying50
 go_enter Try.func44, Try.ntmps44
 go_wp2
 refine wp_loop_rounds 5 ?_
 refine rounds_gen (fun W => ∃ lo hi : Int, W.heap[w.heap.size + 1 + 1]? = some (.cells #[.int .u64 hi, .int .u64 lo] 50 (0, 0)) ∧ W.heap[w.heap.size]? = some (.cells #[.int .u64 d0, .int .u64 d1, .int .u64 d2, .int .u64 d3, .int .u64 d4, .int .u64 d5, .int .u64 d6, .int .u64 d7] 88 (0, 0)) ∧ W.heap[w.heap.size + 1]? = some (.cells #[.int .u64 0, .int .u64 0] 50 (0, 0)) ∧ Below w.heap.size w W ∧ Aside0 (lo = 0 ∧ hi = 0)) ⟨0, 0, blk_newAt _ _ (by simp), blk_alloc (blk_alloc (blk_new _ _) _) _, blk_alloc (blk_newAt _ _ (by simp)) _, by repeat (first | exact Below.refl _ _ | apply below_alloc), ⟨rfl, rfl⟩⟩ ?_
 rintro W0 ⟨lo0, hi0, hr, hd, hs, hB, E0⟩
 have HB := am hB;clear hB;have c0 := blk_cell hr 0;have c1 := blk_cell hr 1;have c2 := blk_cell hd 3;have c3 := blk_cell hd 7;have z0 := blk_frozen hr 0;have z1 := blk_frozen hr 1;rw [rounds_succ]
 go_wp2
 go_region
 go_wp2
 go_region
 go_wp2
 clear c0 c1 c2 c3 z0 z1
 refine rounds_gen (fun W => ∃ lo hi : Int, W.heap[w.heap.size + 1 + 1]? = some (.cells #[.int .u64 hi, .int .u64 lo] 50 (0, 0)) ∧ W.heap[w.heap.size]? = some (.cells #[.int .u64 d0, .int .u64 d1, .int .u64 d2, .int .u64 d3, .int .u64 d4, .int .u64 d5, .int .u64 d6, .int .u64 d7] 88 (0, 0)) ∧ W.heap[w.heap.size + 1]? = some (.cells #[.int .u64 0, .int .u64 0] 50 (0, 0)) ∧ Below w.heap.size w W ∧ Aside0 (lo = dnm 0 d3 ∧ hi = dnm 0 d7)) ⟨IntKind.u64.wrap (IntKind.u64.wrap (lo0 * 65536) + d3), IntKind.u64.wrap (IntKind.u64.wrap (hi0 * 65536) + d7), blk_drew (blk_drew (blk_put (blk_put (cs' := #[.int .u64 hi0, .int .u64 (IntKind.u64.wrap (IntKind.u64.wrap (lo0 * 65536) + d3))]) hr 1 _ rfl) 0 _ rfl)), blk_drew (blk_drew (blk_far (blk_far hd (by simp <;> omega) _) (by simp <;> omega) _)), blk_drew (blk_drew (blk_far (blk_far hs (by simp <;> omega) _) (by simp <;> omega) _)), below_drew1 (below_drew1 (below_set (below_set HB.out (by omega)) (by omega))), ⟨by rw [E0.out.1]; rfl, by rw [E0.out.2]; rfl⟩⟩ ?_
 clear hr hd hs HB E0
 rintro W1 ⟨lo1, hi1, hr, hd, hs, hB, E1⟩
 have HB := am hB;clear hB;have c0 := blk_cell hr 0;have c1 := blk_cell hr 1;have c2 := blk_cell hd 2;have c3 := blk_cell hd 6;have z0 := blk_frozen hr 0;have z1 := blk_frozen hr 1;rw [rounds_succ]
 go_wp2
 go_region
 go_wp2
 go_region
 go_wp2
 clear c0 c1 c2 c3 z0 z1
 refine rounds_gen (fun W => ∃ lo hi : Int, W.heap[w.heap.size + 1 + 1]? = some (.cells #[.int .u64 hi, .int .u64 lo] 50 (0, 0)) ∧ W.heap[w.heap.size]? = some (.cells #[.int .u64 d0, .int .u64 d1, .int .u64 d2, .int .u64 d3, .int .u64 d4, .int .u64 d5, .int .u64 d6, .int .u64 d7] 88 (0, 0)) ∧ W.heap[w.heap.size + 1]? = some (.cells #[.int .u64 0, .int .u64 0] 50 (0, 0)) ∧ Below w.heap.size w W ∧ Aside0 (lo = dnm (dnm 0 d3) d2 ∧ hi = dnm (dnm 0 d7) d6)) ⟨IntKind.u64.wrap (IntKind.u64.wrap (lo1 * 65536) + d2), IntKind.u64.wrap (IntKind.u64.wrap (hi1 * 65536) + d6), blk_drew (blk_drew (blk_put (blk_put (cs' := #[.int .u64 hi1, .int .u64 (IntKind.u64.wrap (IntKind.u64.wrap (lo1 * 65536) + d2))]) hr 1 _ rfl) 0 _ rfl)), blk_drew (blk_drew (blk_far (blk_far hd (by simp <;> omega) _) (by simp <;> omega) _)), blk_drew (blk_drew (blk_far (blk_far hs (by simp <;> omega) _) (by simp <;> omega) _)), below_drew1 (below_drew1 (below_set (below_set HB.out (by omega)) (by omega))), ⟨by rw [E1.out.1]; rfl, by rw [E1.out.2]; rfl⟩⟩ ?_
 clear hr hd hs HB E1
 rintro W2 ⟨lo2, hi2, hr, hd, hs, hB, E2⟩
 have HB := am hB;clear hB;have c0 := blk_cell hr 0;have c1 := blk_cell hr 1;have c2 := blk_cell hd 1;have c3 := blk_cell hd 5;have z0 := blk_frozen hr 0;have z1 := blk_frozen hr 1;rw [rounds_succ]
 go_wp2
 go_region
 go_wp2
 go_region
 go_wp2
 clear c0 c1 c2 c3 z0 z1
 refine rounds_gen (fun W => ∃ lo hi : Int, W.heap[w.heap.size + 1 + 1]? = some (.cells #[.int .u64 hi, .int .u64 lo] 50 (0, 0)) ∧ W.heap[w.heap.size]? = some (.cells #[.int .u64 d0, .int .u64 d1, .int .u64 d2, .int .u64 d3, .int .u64 d4, .int .u64 d5, .int .u64 d6, .int .u64 d7] 88 (0, 0)) ∧ W.heap[w.heap.size + 1]? = some (.cells #[.int .u64 0, .int .u64 0] 50 (0, 0)) ∧ Below w.heap.size w W ∧ Aside0 (lo = dnm (dnm (dnm 0 d3) d2) d1 ∧ hi = dnm (dnm (dnm 0 d7) d6) d5)) ⟨IntKind.u64.wrap (IntKind.u64.wrap (lo2 * 65536) + d1), IntKind.u64.wrap (IntKind.u64.wrap (hi2 * 65536) + d5), blk_drew (blk_drew (blk_put (blk_put (cs' := #[.int .u64 hi2, .int .u64 (IntKind.u64.wrap (IntKind.u64.wrap (lo2 * 65536) + d1))]) hr 1 _ rfl) 0 _ rfl)), blk_drew (blk_drew (blk_far (blk_far hd (by simp <;> omega) _) (by simp <;> omega) _)), blk_drew (blk_drew (blk_far (blk_far hs (by simp <;> omega) _) (by simp <;> omega) _)), below_drew1 (below_drew1 (below_set (below_set HB.out (by omega)) (by omega))), ⟨by rw [E2.out.1]; rfl, by rw [E2.out.2]; rfl⟩⟩ ?_
 clear hr hd hs HB E2
 rintro W3 ⟨lo3, hi3, hr, hd, hs, hB, E3⟩
 have HB := am hB;clear hB;have c0 := blk_cell hr 0;have c1 := blk_cell hr 1;have c2 := blk_cell hd 0;have c3 := blk_cell hd 4;have z0 := blk_frozen hr 0;have z1 := blk_frozen hr 1;rw [rounds_succ]
 go_wp2
 go_region
 go_wp2
 go_region
 go_wp2
 clear c0 c1 c2 c3 z0 z1
 refine rounds_gen (fun W => ∃ lo hi : Int, W.heap[w.heap.size + 1 + 1]? = some (.cells #[.int .u64 hi, .int .u64 lo] 50 (0, 0)) ∧ W.heap[w.heap.size]? = some (.cells #[.int .u64 d0, .int .u64 d1, .int .u64 d2, .int .u64 d3, .int .u64 d4, .int .u64 d5, .int .u64 d6, .int .u64 d7] 88 (0, 0)) ∧ W.heap[w.heap.size + 1]? = some (.cells #[.int .u64 0, .int .u64 0] 50 (0, 0)) ∧ Below w.heap.size w W ∧ Aside0 (lo = dnm (dnm (dnm (dnm 0 d3) d2) d1) d0 ∧ hi = dnm (dnm (dnm (dnm 0 d7) d6) d5) d4)) ⟨IntKind.u64.wrap (IntKind.u64.wrap (lo3 * 65536) + d0), IntKind.u64.wrap (IntKind.u64.wrap (hi3 * 65536) + d4), blk_drew (blk_drew (blk_put (blk_put (cs' := #[.int .u64 hi3, .int .u64 (IntKind.u64.wrap (IntKind.u64.wrap (lo3 * 65536) + d0))]) hr 1 _ rfl) 0 _ rfl)), blk_drew (blk_drew (blk_far (blk_far hd (by simp <;> omega) _) (by simp <;> omega) _)), blk_drew (blk_drew (blk_far (blk_far hs (by simp <;> omega) _) (by simp <;> omega) _)), below_drew1 (below_drew1 (below_set (below_set HB.out (by omega)) (by omega))), ⟨by rw [E3.out.1]; rfl, by rw [E3.out.2]; rfl⟩⟩ ?_
 clear hr hd hs HB E3
 rintro W4 ⟨lo4, hi4, hr, hd, hs, hB, E4⟩
 have HB := am hB;clear hB;have c0 := blk_cell hr 0;have c1 := blk_cell hr 1;have c2 := blk_cell hs 0;have c3 := blk_cell hs 1;have z0 := blk_frozen hs 0;have z1 := blk_frozen hs 1;rw [rounds_succ]
 go_wp2
 refine bodyPost_ret (v := .agg #[.int .u64 hi4, .int .u64 lo4]) ?_ rfl ⟨by rw [E4.out.1, E4.out.2], ?_⟩
 ·refine results_cell_row rfl _ _ (w.heap.size + 1) 50 _ (0, 0) _ rfl ?_ hu50 rfl ?_
  ·exact blk_put (blk_put (cs' := #[.int .u64 hi4, .int .u64 0]) hs 0 _ rfl) 1 _ rfl
  ·kernel_rfl
 ·exact below_set (below_set HB.out (by omega)) (by omega)
theorem dnm_eq (a d : Int) (h0 : 0 ≤ a) (h1 : 0 ≤ d) (h2 : a * 65536 + d < 18446744073709551616) : dnm a d = a * 65536 + d := by
 unfold dnm
 have e1 : IntKind.u64.wrap (a * 65536) = a * 65536 := Go.IntWalk.u64_in _ ⟨by omega, by omega⟩;rw [e1]
 exact Go.IntWalk.u64_in _ ⟨by omega, by omega⟩
theorem run_exec_store {P : Program} {a : Act} {oi : Oper} {t : TypeId} {p x : Operand} (ho : oi.op = .store t p x) {q u : Value} {w w1 : World} (hp : a.eval p = q) (hx : a.eval x = u) (hrun : (Instr.storeAt t q u).run P w = .ok () w1) : (execOp a.eval oi).run P w = .ok .skip w1 := by
 unfold execOp
 simp only [ho, hp, hx, Sem.run_bind, Sem.run_pure, Result.andThen_ok, hrun]
theorem st8 (x0 x1 x2 x3 x4 x5 x6 x7 : Int) : (Value.agg #[Value.int .u64 x0, Value.int .u64 x1, Value.int .u64 x2, Value.int .u64 x3, Value.int .u64 x4, Value.int .u64 x5, Value.int .u64 x6, Value.int .u64 x7]).cells.toList = [Value.int .u64 x0, Value.int .u64 x1, Value.int .u64 x2, Value.int .u64 x3, Value.int .u64 x4, Value.int .u64 x5, Value.int .u64 x6, Value.int .u64 x7] := by simp [Value.cells]
theorem st8b (x0 x1 x2 x3 x4 x5 x6 x7 : Int) : ∀ q ∈ [Value.int .u64 x0, Value.int .u64 x1, Value.int .u64 x2, Value.int .u64 x3, Value.int .u64 x4, Value.int .u64 x5, Value.int .u64 x6, Value.int .u64 x7], q.oneCell' = true := by
 intro q hq
 simp only [List.mem_cons, List.not_mem_nil, or_false] at hq
 rcases hq with rfl | rfl | rfl | rfl | rfl | rfl | rfl | rfl <;> rfl
theorem st8c : (Try.prog.info? 88).map (·.size) = some 8 := by kernel_rfl
theorem run_st8 (x0 x1 x2 x3 x4 x5 x6 x7 : Int) {w : World} {g : Nat} {cur : Array Value} {e : TypeId} (hh : w.heap[g]? = some (.cells cur e (0, 0))) (hc : cur.size = 8) : (Instr.storeAt 88 (.pointer (some ⟨g, 0, none⟩)) (.agg #[Value.int .u64 x0, Value.int .u64 x1, Value.int .u64 x2, Value.int .u64 x3, Value.int .u64 x4, Value.int .u64 x5, Value.int .u64 x6, Value.int .u64 x7])).run Try.prog w = .ok () (w.setCells g 0 [Value.int .u64 x0, Value.int .u64 x1, Value.int .u64 x2, Value.int .u64 x3, Value.int .u64 x4, Value.int .u64 x5, Value.int .u64 x6, Value.int .u64 x7]) :=
 run_store_run 88 _ _ hh (st8 ..) st8c (by rw [hc]; exact Nat.le_refl 8) (st8b x0 x1 x2 x3 x4 x5 x6 x7)
theorem st8_row {w w1 : World} {g : Nat} {d0 d1 d2 d3 d4 d5 d6 d7 e0 e1 e2 e3 e4 e5 e6 e7 : Value} {t : TypeId} (h : w.heap[g]? = some (.cells #[e0, e1, e2, e3, e4, e5, e6, e7] t (0, 0))) (hw : w1 = w.setCells g 0 [d0, d1, d2, d3, d4, d5, d6, d7]) : w1.heap[g]? = some (.cells #[d0, d1, d2, d3, d4, d5, d6, d7] t (0, 0)) := by
 subst hw
 exact blk_put (blk_put (blk_put (blk_put (blk_put (blk_put (blk_put (blk_put (cs' := #[d0, e1, e2, e3, e4, e5, e6, e7]) h 0 _ rfl) (cs' := #[d0, d1, e2, e3, e4, e5, e6, e7]) 1 _ rfl) (cs' := #[d0, d1, d2, e3, e4, e5, e6, e7]) 2 _ rfl) (cs' := #[d0, d1, d2, d3, e4, e5, e6, e7]) 3 _ rfl) (cs' := #[d0, d1, d2, d3, d4, e5, e6, e7]) 4 _ rfl) (cs' := #[d0, d1, d2, d3, d4, d5, e6, e7]) 5 _ rfl) (cs' := #[d0, d1, d2, d3, d4, d5, d6, e7]) 6 _ rfl) 7 _ rfl
theorem st8_far {w w1 : World} {g k : Nat} {vs : List Value} (hw : w1 = w.setCells g 0 vs) (hk : k ≠ g) : w1.heap[k]? = w.heap[k]? := by
 subst hw
 exact setCells_far vs 0 k hk
theorem below_cells {w : World} {g : Nat} (hg : w.heap.size ≤ g) : ∀ (vs : List Value) (o : Nat) {W : World}, Below w.heap.size w W → Below w.heap.size w (W.setCells g o vs)
 | [], _, _, h => h
 | _ :: r, _, _, h => below_cells hg r _ (below_set h hg)
theorem digs {a x0 x1 x2 x3 : Int} (h0 : 0 ≤ a) (h1 : a < 18446744073709551616) (e0 : x0 = a.tmod 65536) (e1 : x1 = (a / 65536).tmod 65536) (e2 : x2 = (a / 4294967296).tmod 65536) (e3 : x3 = (a / 281474976710656).tmod 65536) :
  a = x0 + 65536 * x1 + 4294967296 * x2 + 281474976710656 * x3 ∧ (0 ≤ x0 ∧ x0 < 65536) ∧ (0 ≤ x1 ∧ x1 < 65536) ∧ (0 ≤ x2 ∧ x2 < 65536) ∧ (0 ≤ x3 ∧ x3 < 65536) := by
 rw [Int.tmod_eq_emod_of_nonneg (by omega)] at e0 e1 e2 e3
 refine ⟨?_, ?_, ?_, ?_, ?_⟩ <;> omega
theorem rnd {x y o n z o' : Int} (hx : 0 ≤ x ∧ x < 65536) (hy : 0 ≤ y ∧ y < 65536) (ho : 0 ≤ o ∧ o ≤ 1) (h : IntKind.u64.wrap (IntKind.u64.wrap (x + y) + o) = n ∧ n.tmod 65536 = z ∧ IntKind.u64.wrap (n.tdiv 65536) = o') :
  x + y + o = z + 65536 * o' ∧ (0 ≤ z ∧ z < 65536) ∧ (0 ≤ o' ∧ o' ≤ 1) := by
 obtain ⟨h1, h2, h3⟩ := h;rw [Go.IntWalk.u64_in (x + y) ⟨by omega, by omega⟩, Go.IntWalk.u64_in _ ⟨by omega, by omega⟩] at h1;rw [Int.tmod_eq_emod_of_nonneg (by omega)] at h2;rw [Go.IntWalk.u64_quo _ _ ⟨by omega, by omega, by omega⟩] at h3
 refine ⟨?_, ?_, ?_⟩ <;> omega
theorem dnm4 {z0 z1 z2 z3 : Int} (h0 : 0 ≤ z0 ∧ z0 < 65536) (h1 : 0 ≤ z1 ∧ z1 < 65536) (h2 : 0 ≤ z2 ∧ z2 < 65536) (h3 : 0 ≤ z3 ∧ z3 < 65536) : dnm (dnm (dnm (dnm 0 z3) z2) z1) z0 = z0 + 65536 * z1 + 4294967296 * z2 + 281474976710656 * z3 := by
 rw [dnm_eq 0 z3 (by omega) (by omega) (by omega), dnm_eq _ z2 (by omega) (by omega) (by omega), dnm_eq _ z1 (by omega) (by omega) (by omega), dnm_eq _ z0 (by omega) (by omega) (by omega)]
 omega
theorem sum4 {a b o c x0 x1 x2 x3 y0 y1 y2 y3 z0 z1 z2 z3 c1 c2 c3 : Int} (hx : a = x0 + 65536 * x1 + 4294967296 * x2 + 281474976710656 * x3) (hy : b = y0 + 65536 * y1 + 4294967296 * y2 + 281474976710656 * y3) (r0 : x0 + y0 + o = z0 + 65536 * c1) (r1 : x1 + y1 + c1 = z1 + 65536 * c2) (r2 : x2 + y2 + c2 = z2 + 65536 * c3) (r3 : x3 + y3 + c3 = z3 + 65536 * c) :
  a + b + o = z0 + 65536 * z1 + 4294967296 * z2 + 281474976710656 * z3 + 18446744073709551616 * c := by omega
theorem ref_sum {a0 a1 b0 b1 x0 x1 x2 x3 x4 x5 x6 x7 y0 y1 y2 y3 y4 y5 y6 y7 n0 n1 n2 n3 n4 n5 n6 n7 z0 z1 z2 z3 z4 z5 z6 z7 o1 o2 o3 o4 o5 o6 o7 o8 : Int}
  (h0 : 0 ≤ a0) (h1 : a0 < 18446744073709551616) (h2 : 0 ≤ a1) (h3 : a1 < 18446744073709551616) (h4 : 0 ≤ b0) (h5 : b0 < 18446744073709551616) (h6 : 0 ≤ b1) (h7 : b1 < 18446744073709551616)
  (hx : x0 = a1.tmod 65536 ∧ x1 = (a1 / 65536).tmod 65536 ∧ x2 = (a1 / 4294967296).tmod 65536 ∧ x3 = (a1 / 281474976710656).tmod 65536 ∧ x4 = a0.tmod 65536 ∧ x5 = (a0 / 65536).tmod 65536 ∧ x6 = (a0 / 4294967296).tmod 65536 ∧ x7 = (a0 / 281474976710656).tmod 65536)
  (hy : y0 = b1.tmod 65536 ∧ y1 = (b1 / 65536).tmod 65536 ∧ y2 = (b1 / 4294967296).tmod 65536 ∧ y3 = (b1 / 281474976710656).tmod 65536 ∧ y4 = b0.tmod 65536 ∧ y5 = (b0 / 65536).tmod 65536 ∧ y6 = (b0 / 4294967296).tmod 65536 ∧ y7 = (b0 / 281474976710656).tmod 65536)
  (k0 : IntKind.u64.wrap (IntKind.u64.wrap (x0 + y0)) = n0 ∧ n0.tmod 65536 = z0 ∧ IntKind.u64.wrap (n0.tdiv 65536) = o1)
  (k1 : IntKind.u64.wrap (IntKind.u64.wrap (x1 + y1) + o1) = n1 ∧ n1.tmod 65536 = z1 ∧ IntKind.u64.wrap (n1.tdiv 65536) = o2)
  (k2 : IntKind.u64.wrap (IntKind.u64.wrap (x2 + y2) + o2) = n2 ∧ n2.tmod 65536 = z2 ∧ IntKind.u64.wrap (n2.tdiv 65536) = o3)
  (k3 : IntKind.u64.wrap (IntKind.u64.wrap (x3 + y3) + o3) = n3 ∧ n3.tmod 65536 = z3 ∧ IntKind.u64.wrap (n3.tdiv 65536) = o4)
  (k4 : IntKind.u64.wrap (IntKind.u64.wrap (x4 + y4) + o4) = n4 ∧ n4.tmod 65536 = z4 ∧ IntKind.u64.wrap (n4.tdiv 65536) = o5)
  (k5 : IntKind.u64.wrap (IntKind.u64.wrap (x5 + y5) + o5) = n5 ∧ n5.tmod 65536 = z5 ∧ IntKind.u64.wrap (n5.tdiv 65536) = o6)
  (k6 : IntKind.u64.wrap (IntKind.u64.wrap (x6 + y6) + o6) = n6 ∧ n6.tmod 65536 = z6 ∧ IntKind.u64.wrap (n6.tdiv 65536) = o7)
  (k7 : IntKind.u64.wrap (IntKind.u64.wrap (x7 + y7) + o7) = n7 ∧ n7.tmod 65536 = z7 ∧ IntKind.u64.wrap (n7.tdiv 65536) = o8) :
  (o8 = 0 ∧ a0 + b0 + (a1 + b1) / 18446744073709551616 < 18446744073709551616 ∧ dnm (dnm (dnm (dnm 0 z7) z6) z5) z4 = a0 + b0 + (a1 + b1) / 18446744073709551616 ∧ dnm (dnm (dnm (dnm 0 z3) z2) z1) z0 = (a1 + b1) % 18446744073709551616) ∨ (o8 = 1 ∧ ¬ a0 + b0 + (a1 + b1) / 18446744073709551616 < 18446744073709551616) := by
 obtain ⟨A1, ax0, ax1, ax2, ax3⟩ := digs h2 h3 hx.1 hx.2.1 hx.2.2.1 hx.2.2.2.1;obtain ⟨A0, ax4, ax5, ax6, ax7⟩ := digs h0 h1 hx.2.2.2.2.1 hx.2.2.2.2.2.1 hx.2.2.2.2.2.2.1 hx.2.2.2.2.2.2.2;obtain ⟨B1, by0, by1, by2, by3⟩ := digs h6 h7 hy.1 hy.2.1 hy.2.2.1 hy.2.2.2.1;obtain ⟨B0, by4, by5, by6, by7⟩ := digs h4 h5 hy.2.2.2.2.1 hy.2.2.2.2.2.1 hy.2.2.2.2.2.2.1 hy.2.2.2.2.2.2.2;obtain ⟨r0, z0b, c1⟩ := rnd (o := 0) ax0 by0 ⟨by omega, by omega⟩ (by simpa using k0);obtain ⟨r1, z1b, c2⟩ := rnd ax1 by1 c1 k1;obtain ⟨r2, z2b, c3⟩ := rnd ax2 by2 c2 k2;obtain ⟨r3, z3b, c4⟩ := rnd ax3 by3 c3 k3;obtain ⟨r4, z4b, c5⟩ := rnd ax4 by4 c4 k4;obtain ⟨r5, z5b, c6⟩ := rnd ax5 by5 c5 k5;obtain ⟨r6, z6b, c7⟩ := rnd ax6 by6 c6 k6;obtain ⟨r7, z7b, c8⟩ := rnd ax7 by7 c7 k7;have S1 := sum4 A1 B1 r0 r1 r2 r3;have S0 := sum4 A0 B0 r4 r5 r6 r7;rw [dnm4 z4b z5b z6b z7b, dnm4 z0b z1b z2b z3b];clear hx hy k0 k1 k2 k3 k4 k5 k6 k7 r0 r1 r2 r3 r4 r5 r6 r7 A1 A0 B1 B0 ax0 ax1 ax2 ax3 ax4 ax5 ax6 ax7 by0 by1 by2 by3 by4 by5 by6 by7
 have Z1 : 0 ≤ z0 + 65536 * z1 + 4294967296 * z2 + 281474976710656 * z3 ∧ z0 + 65536 * z1 + 4294967296 * z2 + 281474976710656 * z3 < 18446744073709551616 := by omega
 have Z0 : 0 ≤ z4 + 65536 * z5 + 4294967296 * z6 + 281474976710656 * z7 ∧ z4 + 65536 * z5 + 4294967296 * z6 + 281474976710656 * z7 < 18446744073709551616 := by omega
 generalize z0 + 65536 * z1 + 4294967296 * z2 + 281474976710656 * z3 = L at *
 generalize z4 + 65536 * z5 + 4294967296 * z6 + 281474976710656 * z7 = G at *
 have hd : (a1 + b1) / 18446744073709551616 = o4 := by omega
 have hm : (a1 + b1) % 18446744073709551616 = L := by omega
 rw [hd, hm]
 by_cases h8 : o8 = 0
 ·left; refine ⟨h8, ?_, ?_, rfl⟩ <;> omega
 ·right; refine ⟨?_, ?_⟩ <;> omega
def r01_Add.f (a0_0 a0_1 a1_0 a1_1 : Int) : Option (Int × Int × Bool) :=
 if 0 ≤ a0_0 ∧ a0_0 < 18446744073709551616 ∧ 0 ≤ a0_1 ∧ a0_1 < 18446744073709551616 ∧ 0 ≤ a1_0 ∧ a1_0 < 18446744073709551616 ∧ 0 ≤ a1_1 ∧ a1_1 < 18446744073709551616 then
  (if a0_0 + a1_0 + (a0_1 + a1_1) / 18446744073709551616 < 18446744073709551616 then some (a0_0 + a1_0 + (a0_1 + a1_1) / 18446744073709551616, (a0_1 + a1_1) % 18446744073709551616, true) else some (0, 0, false)) else none
set_option maxRecDepth 100000 in
set_option maxHeartbeats 4000000 in
theorem r01_Add.calls (ad ae aa ac r1 r2 : Int) (r3 : Bool) (w : World) (h : r01_Add.f ad ae aa ac = some (r1, r2, r3)) :
  Calls Try.prog 31 #[.agg #[.int .u64 ad, .int .u64 ae], .agg #[.int .u64 aa, .int .u64 ac]] w fun e w' => e = .returned (.tuple #[.agg #[.int .u64 r1, .int .u64 r2], .bool r3]) ∧ Below w.heap.size w w' := by
 have hu := Try.underlying88;have hu50 := Try.underlying50
 unfold r01_Add.f at h
 split at h
 case isFalse => cases h
 case isTrue hb =>
 have HDA := am (fun W => dig_calls ad ae W);have HDB := am (fun W => dig_calls aa ac W);have HBD := am hb;have HH := am h;clear hb h;obtain ⟨x0, ai⟩ : ∃ x, x = ae.tmod 65536 := ⟨_, rfl⟩;obtain ⟨x1, aj⟩ : ∃ x, x = (ae / 65536).tmod 65536 := ⟨_, rfl⟩;obtain ⟨x2, ak⟩ : ∃ x, x = (ae / 4294967296).tmod 65536 := ⟨_, rfl⟩;obtain ⟨x3, an⟩ : ∃ x, x = (ae / 281474976710656).tmod 65536 := ⟨_, rfl⟩;obtain ⟨x4, ao⟩ : ∃ x, x = ad.tmod 65536 := ⟨_, rfl⟩;obtain ⟨x5, ap⟩ : ∃ x, x = (ad / 65536).tmod 65536 := ⟨_, rfl⟩;obtain ⟨x6, aq⟩ : ∃ x, x = (ad / 4294967296).tmod 65536 := ⟨_, rfl⟩;obtain ⟨x7, ar⟩ : ∃ x, x = (ad / 281474976710656).tmod 65536 := ⟨_, rfl⟩;obtain ⟨y0, hy0⟩ : ∃ x, x = ac.tmod 65536 := ⟨_, rfl⟩;obtain ⟨y1, hy1⟩ : ∃ x, x = (ac / 65536).tmod 65536 := ⟨_, rfl⟩;obtain ⟨y2, hy2⟩ : ∃ x, x = (ac / 4294967296).tmod 65536 := ⟨_, rfl⟩;obtain ⟨y3, hy3⟩ : ∃ x, x = (ac / 281474976710656).tmod 65536 := ⟨_, rfl⟩;obtain ⟨y4, hy4⟩ : ∃ x, x = aa.tmod 65536 := ⟨_, rfl⟩;obtain ⟨y5, hy5⟩ : ∃ x, x = (aa / 65536).tmod 65536 := ⟨_, rfl⟩;obtain ⟨y6, hy6⟩ : ∃ x, x = (aa / 4294967296).tmod 65536 := ⟨_, rfl⟩;obtain ⟨y7, hy7⟩ : ∃ x, x = (aa / 281474976710656).tmod 65536 := ⟨_, rfl⟩;rw [← ai, ← aj, ← ak, ← an, ← ao, ← ap, ← aq, ← ar] at HDA;rw [← hy0, ← hy1, ← hy2, ← hy3, ← hy4, ← hy5, ← hy6, ← hy7] at HDB;have HX := am (And.intro ai (And.intro aj (And.intro ak (And.intro an (And.intro ao (And.intro ap (And.intro aq ar)))))));have HY := am (And.intro hy0 (And.intro hy1 (And.intro hy2 (And.intro hy3 (And.intro hy4 (And.intro hy5 (And.intro hy6 hy7)))))));clear ai aj ak an ao ap aq ar hy0 hy1 hy2 hy3 hy4 hy5 hy6 hy7
 go_enter Try.func31, Try.ntmps31
 go_wp2_with fail
 have q0 := am (blk_alloc (blk_alloc (blk_new w (.cells #[.int .u64 ad, .int .u64 ae] 50 (0, 0))) (.cells #[.int .u64 aa, .int .u64 ac] 50 (0, 0))) (.cells #[.int .u64 0, .int .u64 0] 50 (0, 0)));have q1 := am (blk_alloc (blk_newAt3 (w.alloc (.cells #[.int .u64 ad, .int .u64 ae] 50 (0, 0))) (.cells #[.int .u64 aa, .int .u64 ac] 50 (0, 0)) (g := w.heap.size + 1) (by simp)) (.cells #[.int .u64 0, .int .u64 0] 50 (0, 0)));have q2 := am (blk_newAt3 ((w.alloc (.cells #[.int .u64 ad, .int .u64 ae] 50 (0, 0))).alloc (.cells #[.int .u64 aa, .int .u64 ac] 50 (0, 0))) (.cells #[.int .u64 0, .int .u64 0] 50 (0, 0)) (g := w.heap.size + 1 + 1) (by simp));have HB0 := am (below_alloc (below_alloc (below_alloc (Below.refl w.heap.size w) (.cells #[.int .u64 ad, .int .u64 ae] 50 (0, 0))) (.cells #[.int .u64 aa, .int .u64 ac] 50 (0, 0))) (.cells #[.int .u64 0, .int .u64 0] 50 (0, 0)))
 generalize hW : (((w.alloc (.cells #[.int .u64 ad, .int .u64 ae] 50 (0, 0))).alloc (.cells #[.int .u64 aa, .int .u64 ac] 50 (0, 0))).alloc (.cells #[.int .u64 0, .int .u64 0] 50 (0, 0))) = w2 at q0 q1 q2 HB0 ⊢
 have au : Aside0 (w.heap.size + 1 + 1 + 1 ≤ w2.heap.size) := ⟨by rw [← hW]; simp⟩;clear hW;have z0 := am (blk_cell q0.out 0);have z1 := am (blk_cell q0.out 1);have z2 := am (blk_cell q1.out 0);have z3 := am (blk_cell q1.out 1);have HBB := am (Below.refl w2.heap.size w2)
 refine start_ (n := 8) (S := fun w' => w'.cell? ⟨w.heap.size, 0, none⟩ = some (.int .u64 ad) ∧ w'.cell? ⟨w.heap.size, 1, none⟩ = some (.int .u64 ae) ∧ w'.cell? ⟨w.heap.size + 1, 0, none⟩ = some (.int .u64 aa) ∧ w'.cell? ⟨w.heap.size + 1, 1, none⟩ = some (.int .u64 ac)) (ds := [6, 7]) #[false, false, false, false, false, false, false, false] (by kernel_rfl) rfl rfl ⟨z0.out, z1.out, z2.out, z3.out⟩ (fun hHeld => ?_)
 refine take_ (i := 0) (N := some 11) (v := ?_) (a' := ?_) #[true, false, false, false, false, false, false, false] rfl rfl (by kernel_rfl) (fun _ _ _ h => h) (Or.inl ⟨by rfl, ?_⟩) hHeld ?_ ?_
 rotate_left
 ·rintro w' ⟨s0, s1, s2, s3⟩
  go_simp
  with_reducible rfl
 rotate_left
 ·simp only [Act.put, List.setIfInBounds_toArray, List.set_cons_zero, List.set_cons_succ, i64_w, i32_w]
  rfl
 refine take_ (i := 2) (N := some 13) (v := ?_) (a' := ?_) #[true, false, true, false, false, false, false, false] rfl rfl (by kernel_rfl) (fun _ _ _ h => h) (Or.inl ⟨by rfl, ?_⟩) hHeld ?_ ?_
 rotate_left
 ·rintro w' ⟨s0, s1, s2, s3⟩
  go_simp
  with_reducible rfl
 rotate_left
 ·simp only [Act.put, List.setIfInBounds_toArray, List.set_cons_zero, List.set_cons_succ, i64_w, i32_w]
  rfl
 refine join_ (σ := Nat × Nat) 2 #[true, true, true, true, true, true, false, false] (fun s_ => [(12, .agg #[.int .u64 x0, .int .u64 x1, .int .u64 x2, .int .u64 x3, .int .u64 x4, .int .u64 x5, .int .u64 x6, .int .u64 x7]), (14, .agg #[.int .u64 y0, .int .u64 y1, .int .u64 y2, .int .u64 y3, .int .u64 y4, .int .u64 y5, .int .u64 y6, .int .u64 y7]), (6, .pointer (some ⟨s_.1, 0, none⟩)), (7, .pointer (some ⟨s_.2, 0, none⟩))]) (fun s_ w' => (w'.cell? ⟨w.heap.size, 0, none⟩ = some (.int .u64 ad) ∧ w'.cell? ⟨w.heap.size, 1, none⟩ = some (.int .u64 ae) ∧ w'.cell? ⟨w.heap.size + 1, 0, none⟩ = some (.int .u64 aa) ∧ w'.cell? ⟨w.heap.size + 1, 1, none⟩ = some (.int .u64 ac)) ∧ w'.heap[s_.1]? = some (.cells #[.int .u64 0, .int .u64 0, .int .u64 0, .int .u64 0, .int .u64 0, .int .u64 0, .int .u64 0, .int .u64 0] 88 (0, 0)) ∧ w'.heap[s_.2]? = some (.cells #[.int .u64 0, .int .u64 0, .int .u64 0, .int .u64 0, .int .u64 0, .int .u64 0, .int .u64 0, .int .u64 0] 88 (0, 0)) ∧ s_.1 ≠ s_.2 ∧ w2.heap.size ≤ s_.1 ∧ w2.heap.size ≤ s_.2 ∧ Below w2.heap.size w2 w') ?_ ?_
 ·rintro ⟨gx, gy⟩ w4 ⟨hHeld, hbx, hby, hne, hgx, hgy, hbb⟩
  have BX := am hbx;have BY := am hby;have NE := am hne;have GX := am hgx;have GY := am hgy;clear HBB;have HBB := am hbb;clear hbx hby hne hgx hgy hbb;have HBA := am (below_step HB0.out HBB.out);have GXW : Aside0 (w.heap.size + 1 + 1 + 1 ≤ gx) := ⟨by have := GX.out; have := au.out; omega⟩;have GYW : Aside0 (w.heap.size + 1 + 1 + 1 ≤ gy) := ⟨by have := GY.out; have := au.out; omega⟩;have af := am (blk_below q2.out HBB.out)
  refine norm_ (a' := ?_) ?_ ?_
  rotate_left
  ·simp only [putAll, Act.put, List.setIfInBounds_toArray, List.set_cons_zero, List.set_cons_succ]
   rfl
  refine last_ (i := 6) (N := none) #[true, true, true, true, true, true, true, false] rfl rfl (by kernel_rfl) (by decide) (fun K hK => ?_)
  obtain ⟨w5, ag⟩ : ∃ W, W = w4.setCells gx 0 [.int .u64 x0, .int .u64 x1, .int .u64 x2, .int .u64 x3, .int .u64 x4, .int .u64 x5, .int .u64 x6, .int .u64 x7] := ⟨_, rfl⟩
  refine skip_ (w1 := w5) (by rfl) rfl ?_ ?_
  ·rw [ag]
   exact run_exec_store (t := 88) (p := .tmp 6) (x := .tmp 12) rfl rfl rfl (run_st8 x0 x1 x2 x3 x4 x5 x6 x7 BX.out rfl)
  have n0_ := am (st8_row BX.out ag);have n1_ := am ((st8_far ag NE.out.symm).trans BY.out);have n2_ : Aside0 (Below w.heap.size w w5) := ⟨by rw [ag]; exact below_cells (by have := GXW.out; omega) _ _ HBA.out⟩;have n3_ := am ((st8_far ag (by have := GXW.out; omega)).trans af.out);clear BX BY HBA af ag;have af := n3_;clear n3_;have BX := n0_;have BY := n1_;have HBA := n2_;clear n0_ n1_ n2_
  refine hK.out _ _ ?_
  clear hK K
  refine last_ (i := 7) (N := none) #[true, true, true, true, true, true, true, true] rfl rfl (by kernel_rfl) (by decide) (fun K hK => ?_)
  obtain ⟨w6, ah⟩ : ∃ W, W = w5.setCells gy 0 [.int .u64 y0, .int .u64 y1, .int .u64 y2, .int .u64 y3, .int .u64 y4, .int .u64 y5, .int .u64 y6, .int .u64 y7] := ⟨_, rfl⟩
  refine skip_ (w1 := w6) (by rfl) rfl ?_ ?_
  ·rw [ah]
   exact run_exec_store (t := 88) (p := .tmp 7) (x := .tmp 14) rfl rfl rfl (run_st8 y0 y1 y2 y3 y4 y5 y6 y7 BY.out rfl)
  have n0_ := am (st8_row BY.out ah);have n1_ := am ((st8_far ah NE.out).trans BX.out);have n2_ : Aside0 (Below w.heap.size w w6) := ⟨by rw [ah]; exact below_cells (by have := GYW.out; omega) _ _ HBA.out⟩;have n3_ := am ((st8_far ah (by have := GYW.out; omega)).trans af.out);clear BY BX HBA af ah;have af := n3_;clear n3_;have BY := n0_;have BX := n1_;have HBA := n2_;clear n0_ n1_ n2_
  refine hK.out _ _ ?_
  clear hK K
  refine done_ (by kernel_rfl) ?_
  clear HBB GX GY q0 q1 q2 HB0 au HDA HDB
  go_wp2_with fail
  refine wp_loop_rounds 9 ?_
  have QR := af;clear af
  as_aux_lemma =>
   have p0 := blk_cell BX.out 0;have p1 := blk_cell BY.out 0;have f0 := blk_frozen BX.out 0;rw [rounds_succ]
   go_wp2
   go_region
   go_wp2
   clear p0 p1 f0
   generalize hn : IntKind.u64.wrap (IntKind.u64.wrap (x0 + y0)) = n0
   generalize hz : n0.tmod 65536 = z0
   generalize ho : IntKind.u64.wrap (n0.tdiv 65536) = o1
   have HN0 := am (And.intro hn (And.intro hz ho));clear hn hz ho;have n0_ := am (blk_drew (blk_put (cs' := #[.int .u64 z0, .int .u64 x1, .int .u64 x2, .int .u64 x3, .int .u64 x4, .int .u64 x5, .int .u64 x6, .int .u64 x7]) BX.out 0 (.int .u64 z0) rfl)); have n1_ := am (blk_drew (blk_far BY.out (p := ⟨gx, 0, none⟩) NE.out.symm (.int .u64 z0))); have n2_ := am (blk_drew (blk_far QR.out (p := ⟨gx, 0, none⟩) (by have := GXW.out; simp only [ne_eq]; omega) (.int .u64 z0))); have n3_ := am (below_drew1 (below_set (g := gx) (j := 0) (v := .int .u64 z0) HBA.out (by have := GXW.out; omega)))
   generalize (w6.setCell ⟨gx, 0, none⟩ (.int .u64 z0)).drew = v0 at n0_ n1_ n2_ n3_ ⊢
   clear BX BY QR HBA;have BX := n0_;have BY := n1_;have QR := n2_;have HBA := n3_;clear n0_ n1_ n2_ n3_
   as_aux_lemma =>
    have p0 := blk_cell BX.out 1;have p1 := blk_cell BY.out 1;have f0 := blk_frozen BX.out 1;rw [rounds_succ]
    go_wp2
    go_region
    go_wp2
    clear p0 p1 f0
    generalize hn : IntKind.u64.wrap (IntKind.u64.wrap (x1 + y1) + o1) = n1
    generalize hz : n1.tmod 65536 = z1
    generalize ho : IntKind.u64.wrap (n1.tdiv 65536) = o2
    have HN1 := am (And.intro hn (And.intro hz ho));clear hn hz ho;have n0_ := am (blk_drew (blk_put (cs' := #[.int .u64 z0, .int .u64 z1, .int .u64 x2, .int .u64 x3, .int .u64 x4, .int .u64 x5, .int .u64 x6, .int .u64 x7]) BX.out 1 (.int .u64 z1) rfl)); have n1_ := am (blk_drew (blk_far BY.out (p := ⟨gx, 1, none⟩) NE.out.symm (.int .u64 z1))); have n2_ := am (blk_drew (blk_far QR.out (p := ⟨gx, 1, none⟩) (by have := GXW.out; simp only [ne_eq]; omega) (.int .u64 z1))); have n3_ := am (below_drew1 (below_set (g := gx) (j := 1) (v := .int .u64 z1) HBA.out (by have := GXW.out; omega)))
    generalize (v0.setCell ⟨gx, 1, none⟩ (.int .u64 z1)).drew = v1 at n0_ n1_ n2_ n3_ ⊢
    clear BX BY QR HBA;have BX := n0_;have BY := n1_;have QR := n2_;have HBA := n3_;clear n0_ n1_ n2_ n3_
    as_aux_lemma =>
     have p0 := blk_cell BX.out 2;have p1 := blk_cell BY.out 2;have f0 := blk_frozen BX.out 2;rw [rounds_succ]
     go_wp2
     go_region
     go_wp2
     clear p0 p1 f0
     generalize hn : IntKind.u64.wrap (IntKind.u64.wrap (x2 + y2) + o2) = n2
     generalize hz : n2.tmod 65536 = z2
     generalize ho : IntKind.u64.wrap (n2.tdiv 65536) = o3
     have HN2 := am (And.intro hn (And.intro hz ho));clear hn hz ho;have n0_ := am (blk_drew (blk_put (cs' := #[.int .u64 z0, .int .u64 z1, .int .u64 z2, .int .u64 x3, .int .u64 x4, .int .u64 x5, .int .u64 x6, .int .u64 x7]) BX.out 2 (.int .u64 z2) rfl)); have n1_ := am (blk_drew (blk_far BY.out (p := ⟨gx, 2, none⟩) NE.out.symm (.int .u64 z2))); have n2_ := am (blk_drew (blk_far QR.out (p := ⟨gx, 2, none⟩) (by have := GXW.out; simp only [ne_eq]; omega) (.int .u64 z2))); have n3_ := am (below_drew1 (below_set (g := gx) (j := 2) (v := .int .u64 z2) HBA.out (by have := GXW.out; omega)))
     generalize (v1.setCell ⟨gx, 2, none⟩ (.int .u64 z2)).drew = v2 at n0_ n1_ n2_ n3_ ⊢
     clear BX BY QR HBA;have BX := n0_;have BY := n1_;have QR := n2_;have HBA := n3_;clear n0_ n1_ n2_ n3_
     as_aux_lemma =>
      have p0 := blk_cell BX.out 3;have p1 := blk_cell BY.out 3;have f0 := blk_frozen BX.out 3;rw [rounds_succ]
      go_wp2
      go_region
      go_wp2
      clear p0 p1 f0
      generalize hn : IntKind.u64.wrap (IntKind.u64.wrap (x3 + y3) + o3) = n3
      generalize hz : n3.tmod 65536 = z3
      generalize ho : IntKind.u64.wrap (n3.tdiv 65536) = o4
      have HN3 := am (And.intro hn (And.intro hz ho));clear hn hz ho;have n0_ := am (blk_drew (blk_put (cs' := #[.int .u64 z0, .int .u64 z1, .int .u64 z2, .int .u64 z3, .int .u64 x4, .int .u64 x5, .int .u64 x6, .int .u64 x7]) BX.out 3 (.int .u64 z3) rfl)); have n1_ := am (blk_drew (blk_far BY.out (p := ⟨gx, 3, none⟩) NE.out.symm (.int .u64 z3))); have n2_ := am (blk_drew (blk_far QR.out (p := ⟨gx, 3, none⟩) (by have := GXW.out; simp only [ne_eq]; omega) (.int .u64 z3))); have n3_ := am (below_drew1 (below_set (g := gx) (j := 3) (v := .int .u64 z3) HBA.out (by have := GXW.out; omega)))
      generalize (v2.setCell ⟨gx, 3, none⟩ (.int .u64 z3)).drew = v3 at n0_ n1_ n2_ n3_ ⊢
      clear BX BY QR HBA;have BX := n0_;have BY := n1_;have QR := n2_;have HBA := n3_;clear n0_ n1_ n2_ n3_
      as_aux_lemma =>
       have p0 := blk_cell BX.out 4;have p1 := blk_cell BY.out 4;have f0 := blk_frozen BX.out 4;rw [rounds_succ]
       go_wp2
       go_region
       go_wp2
       clear p0 p1 f0
       generalize hn : IntKind.u64.wrap (IntKind.u64.wrap (x4 + y4) + o4) = n4
       generalize hz : n4.tmod 65536 = z4
       generalize ho : IntKind.u64.wrap (n4.tdiv 65536) = o5
       have HN4 := am (And.intro hn (And.intro hz ho));clear hn hz ho;have n0_ := am (blk_drew (blk_put (cs' := #[.int .u64 z0, .int .u64 z1, .int .u64 z2, .int .u64 z3, .int .u64 z4, .int .u64 x5, .int .u64 x6, .int .u64 x7]) BX.out 4 (.int .u64 z4) rfl)); have n1_ := am (blk_drew (blk_far BY.out (p := ⟨gx, 4, none⟩) NE.out.symm (.int .u64 z4))); have n2_ := am (blk_drew (blk_far QR.out (p := ⟨gx, 4, none⟩) (by have := GXW.out; simp only [ne_eq]; omega) (.int .u64 z4))); have n3_ := am (below_drew1 (below_set (g := gx) (j := 4) (v := .int .u64 z4) HBA.out (by have := GXW.out; omega)))
       generalize (v3.setCell ⟨gx, 4, none⟩ (.int .u64 z4)).drew = v4 at n0_ n1_ n2_ n3_ ⊢
       clear BX BY QR HBA;have BX := n0_;have BY := n1_;have QR := n2_;have HBA := n3_;clear n0_ n1_ n2_ n3_
       as_aux_lemma =>
        have p0 := blk_cell BX.out 5;have p1 := blk_cell BY.out 5;have f0 := blk_frozen BX.out 5;rw [rounds_succ]
        go_wp2
        go_region
        go_wp2
        clear p0 p1 f0
        generalize hn : IntKind.u64.wrap (IntKind.u64.wrap (x5 + y5) + o5) = n5
        generalize hz : n5.tmod 65536 = z5
        generalize ho : IntKind.u64.wrap (n5.tdiv 65536) = o6
        have HN5 := am (And.intro hn (And.intro hz ho));clear hn hz ho;have n0_ := am (blk_drew (blk_put (cs' := #[.int .u64 z0, .int .u64 z1, .int .u64 z2, .int .u64 z3, .int .u64 z4, .int .u64 z5, .int .u64 x6, .int .u64 x7]) BX.out 5 (.int .u64 z5) rfl)); have n1_ := am (blk_drew (blk_far BY.out (p := ⟨gx, 5, none⟩) NE.out.symm (.int .u64 z5))); have n2_ := am (blk_drew (blk_far QR.out (p := ⟨gx, 5, none⟩) (by have := GXW.out; simp only [ne_eq]; omega) (.int .u64 z5))); have n3_ := am (below_drew1 (below_set (g := gx) (j := 5) (v := .int .u64 z5) HBA.out (by have := GXW.out; omega)))
        generalize (v4.setCell ⟨gx, 5, none⟩ (.int .u64 z5)).drew = v5 at n0_ n1_ n2_ n3_ ⊢
        clear BX BY QR HBA;have BX := n0_;have BY := n1_;have QR := n2_;have HBA := n3_;clear n0_ n1_ n2_ n3_
        as_aux_lemma =>
         have p0 := blk_cell BX.out 6;have p1 := blk_cell BY.out 6;have f0 := blk_frozen BX.out 6;rw [rounds_succ]
         go_wp2
         go_region
         go_wp2
         clear p0 p1 f0
         generalize hn : IntKind.u64.wrap (IntKind.u64.wrap (x6 + y6) + o6) = n6
         generalize hz : n6.tmod 65536 = z6
         generalize ho : IntKind.u64.wrap (n6.tdiv 65536) = o7
         have HN6 := am (And.intro hn (And.intro hz ho));clear hn hz ho;have n0_ := am (blk_drew (blk_put (cs' := #[.int .u64 z0, .int .u64 z1, .int .u64 z2, .int .u64 z3, .int .u64 z4, .int .u64 z5, .int .u64 z6, .int .u64 x7]) BX.out 6 (.int .u64 z6) rfl)); have n1_ := am (blk_drew (blk_far BY.out (p := ⟨gx, 6, none⟩) NE.out.symm (.int .u64 z6))); have n2_ := am (blk_drew (blk_far QR.out (p := ⟨gx, 6, none⟩) (by have := GXW.out; simp only [ne_eq]; omega) (.int .u64 z6))); have n3_ := am (below_drew1 (below_set (g := gx) (j := 6) (v := .int .u64 z6) HBA.out (by have := GXW.out; omega)))
         generalize (v5.setCell ⟨gx, 6, none⟩ (.int .u64 z6)).drew = v6 at n0_ n1_ n2_ n3_ ⊢
         clear BX BY QR HBA;have BX := n0_;have BY := n1_;have QR := n2_;have HBA := n3_;clear n0_ n1_ n2_ n3_
         as_aux_lemma =>
          have p0 := blk_cell BX.out 7;have p1 := blk_cell BY.out 7;have f0 := blk_frozen BX.out 7;rw [rounds_succ]
          go_wp2
          go_region
          go_wp2
          clear p0 p1 f0
          generalize hn : IntKind.u64.wrap (IntKind.u64.wrap (x7 + y7) + o7) = n7
          generalize hz : n7.tmod 65536 = z7
          generalize ho : IntKind.u64.wrap (n7.tdiv 65536) = o8
          have HN7 := am (And.intro hn (And.intro hz ho));clear hn hz ho;have n0_ := am (blk_drew (blk_put (cs' := #[.int .u64 z0, .int .u64 z1, .int .u64 z2, .int .u64 z3, .int .u64 z4, .int .u64 z5, .int .u64 z6, .int .u64 z7]) BX.out 7 (.int .u64 z7) rfl)); have n1_ := am (blk_drew (blk_far BY.out (p := ⟨gx, 7, none⟩) NE.out.symm (.int .u64 z7))); have n2_ := am (blk_drew (blk_far QR.out (p := ⟨gx, 7, none⟩) (by have := GXW.out; simp only [ne_eq]; omega) (.int .u64 z7))); have n3_ := am (below_drew1 (below_set (g := gx) (j := 7) (v := .int .u64 z7) HBA.out (by have := GXW.out; omega)))
          generalize (v6.setCell ⟨gx, 7, none⟩ (.int .u64 z7)).drew = v7 at n0_ n1_ n2_ n3_ ⊢
          clear BX BY QR HBA;have BX := n0_;have BY := n1_;have QR := n2_;have HBA := n3_;clear n0_ n1_ n2_ n3_
          as_aux_lemma =>
           have SUM := ref_sum HBD.out.1 HBD.out.2.1 HBD.out.2.2.1 HBD.out.2.2.2.1 HBD.out.2.2.2.2.1 HBD.out.2.2.2.2.2.1 HBD.out.2.2.2.2.2.2.1 HBD.out.2.2.2.2.2.2.2 HX.out HY.out HN0.out HN1.out HN2.out HN3.out HN4.out HN5.out HN6.out HN7.out;have R0 := blk_cell QR.out 0;have R1 := blk_cell QR.out 1;have R2 := blk_frozen QR.out 0;have R3 := blk_frozen QR.out 1;have g0 := blk_cell BX.out 0;have g1 := blk_cell BX.out 1;have g2 := blk_cell BX.out 2;have g3 := blk_cell BX.out 3;have g4 := blk_cell BX.out 4;have g5 := blk_cell BX.out 5;have g6 := blk_cell BX.out 6;have g7 := blk_cell BX.out 7;clear HBD HX HY HN0 HN1 HN2 HN3 HN4 HN5 HN6 HN7;have h := HH.out;clear HH
           rcases SUM with ⟨ho, hs, e1, e2⟩ | ⟨ho, hs⟩
           rotate_left
           ·rw [if_neg hs] at h
            simp only [Option.some.injEq, Prod.mk.injEq] at h
            obtain ⟨rfl, rfl, rfl⟩ := h;clear hs;subst ho;rw [rounds_succ]
            go_wp2_with fail
            refine bodyPost_ret (v := .tuple #[.agg #[.int .u64 0, .int .u64 0], .bool false]) ?_ rfl ⟨rfl, ?_⟩
            rotate_left
            ·exact below_set (below_set HBA.out (by omega)) (by omega)
            refine results_ct (fn := Try.f31) (p := 4) (u := 5) rfl _ _ (w.heap.size + 1 + 1) 50 _ (0, 0) _ ?_ ?_ hu50 rfl ?_
            ·rfl
            ·exact blk_put (blk_put (cs' := #[.int .u64 0, .int .u64 0]) QR.out 0 _ rfl) 1 _ rfl
            kernel_rfl
           rw [if_pos hs, ← e1, ← e2] at h
           simp only [Option.some.injEq, Prod.mk.injEq] at h
           obtain ⟨h1, h2, rfl⟩ := h;have H1 := am h1;have H2 := am h2;clear h1 h2 hs e1 e2;subst ho;rw [rounds_succ]
           go_wp2_with fail
           refine (num_calls z0 z1 z2 z3 z4 z5 z6 z7 _).mono ?_
           rintro e w9 ⟨rfl, hb9⟩
           rw [H1.out, H2.out];have Q9 := am (blk_below QR.out hb9);have B9 := am (below_step HBA.out hb9);clear hb9 g0 g1 g2 g3 g4 g5 g6 g7 R0 R1 R2 R3 BX BY QR HBA H1 H2;have R0 := blk_cell Q9.out 0;have R1 := blk_cell Q9.out 1;have R2 := blk_frozen Q9.out 0;have R3 := blk_frozen Q9.out 1
           go_wp2_with fail
           refine bodyPost_ret (v := .tuple #[.agg #[.int .u64 r1, .int .u64 r2], .bool true]) ?_ rfl ⟨rfl, ?_⟩
           rotate_left
           ·exact below_set (below_set B9.out (by omega)) (by omega)
           refine results_ct (fn := Try.f31) (p := 4) (u := 5) rfl _ _ (w.heap.size + 1 + 1) 50 _ (0, 0) _ ?_ ?_ hu50 rfl ?_
           ·rfl
           ·exact blk_put (blk_put (cs' := #[.int .u64 r1, .int .u64 0]) Q9.out 0 _ rfl) 1 _ rfl
           kernel_rfl
 intro hCont
 refine three_ (i := 1) (j := 4) (k := 5) (Ni := some 12) (Nj := some 6) (Nk := some 7) #[true, true, true, false, false, false, false, false] #[true, false, true, false, true, false, false, false] #[true, false, true, false, false, true, false, false] rfl rfl rfl rfl rfl rfl (by kernel_rfl) (by decide) (by decide) (by decide) (fun K hK => ?_) (fun K hK => ?_) (fun K hK => ?_)
 ·skip
  refine goes_ Try.func43 (by kernel_rfl) rfl #[.agg #[.int .u64 ad, .int .u64 ae]] (by rfl) rfl rfl (by simp only [List.map_toArray, List.map_cons, List.map_nil]; rfl) ?_
  with_reducible refine (HDA.out _).mono ?_
  rintro e w3 ⟨rfl, hb3⟩
  refine ⟨_, rfl, ?_⟩
  replace HBB := am (below_step (by repeat (first | (with_reducible first | exact HBB.out | apply below_alloc | apply pw_below_drewN | apply below_drew1) | exact HBB.out)) hb3);clear hb3
  refine hK.out _ _ ⟨pw_cell_below HBB.out z0.out, pw_cell_below HBB.out z1.out, pw_cell_below HBB.out z2.out, pw_cell_below HBB.out z3.out⟩ (fun hHeld => ?_)
  clear hK K
  refine nm ?_
  refine three_ (i := 3) (j := 4) (k := 5) (Ni := some 14) (Nj := some 6) (Nk := some 7) #[true, true, true, true, false, false, false, false] #[true, true, true, false, true, false, false, false] #[true, true, true, false, false, true, false, false] rfl rfl rfl rfl rfl rfl (by kernel_rfl) (by decide) (by decide) (by decide) (fun K hK => ?_) (fun K hK => ?_) (fun K hK => ?_)
  ·skip
   refine goes_ Try.func43 (by kernel_rfl) rfl #[.agg #[.int .u64 aa, .int .u64 ac]] (by rfl) rfl rfl (by simp only [List.map_toArray, List.map_cons, List.map_nil]; rfl) ?_
   with_reducible refine (HDB.out _).mono ?_
   rintro e w3 ⟨rfl, hb3⟩
   refine ⟨_, rfl, ?_⟩
   replace HBB := am (below_step (by repeat (first | (with_reducible first | exact HBB.out | apply below_alloc | apply pw_below_drewN | apply below_drew1) | exact HBB.out)) hb3);clear hb3
   refine hK.out _ _ ⟨pw_cell_below HBB.out z0.out, pw_cell_below HBB.out z1.out, pw_cell_below HBB.out z2.out, pw_cell_below HBB.out z3.out⟩ (fun hHeld => ?_)
   clear hK K
   refine nm ?_
   refine two_ (i := 4) (j := 5) (Ni := some 6) (Nj := some 7) #[true, true, true, true, true, false, false, false] #[true, true, true, true, false, true, false, false] rfl rfl rfl rfl (by kernel_rfl) (by decide) (by decide) (fun K hK => ?_) (fun K hK => ?_)
   ·skip
    refine bx 6 #[.int .u64 0, .int .u64 0, .int .u64 0, .int .u64 0, .int .u64 0, .int .u64 0, .int .u64 0, .int .u64 0] 88 ?_
    intro gx hg w3 hbox hb3
    have n0_ := am (below_step (by repeat (first | (with_reducible first | exact HBB.out | apply below_alloc | apply pw_below_drewN | apply below_drew1) | exact HBB.out)) hb3);have GX : Aside0 (w2.heap.size ≤ gx) := ⟨by rw [hg]; exact HBB.out.size⟩;have BX := am hbox;clear hbox hg HBB;have HBB := n0_;clear n0_ hb3
    refine hK.out _ _ ⟨pw_cell_below HBB.out z0.out, pw_cell_below HBB.out z1.out, pw_cell_below HBB.out z2.out, pw_cell_below HBB.out z3.out⟩ (fun hHeld => ?_)
    clear hK K
    refine nm ?_
    refine one_ (i := 5) (N := some 7) #[true, true, true, true, true, true, false, false] rfl rfl (by kernel_rfl) (by decide) (fun K hK => ?_)
    refine bx 7 #[.int .u64 0, .int .u64 0, .int .u64 0, .int .u64 0, .int .u64 0, .int .u64 0, .int .u64 0, .int .u64 0] 88 ?_
    intro gy hg w3 hbox hb3
    have n0_ := am (below_step (by repeat (first | (with_reducible first | exact HBB.out | apply below_alloc | apply pw_below_drewN | apply below_drew1) | exact HBB.out)) hb3);have GY : Aside0 (w2.heap.size ≤ gy) := ⟨by rw [hg]; exact HBB.out.size⟩;have NE : Aside0 (gx ≠ gy) := ⟨by rw [hg]; exact Nat.ne_of_lt (blk_lt BX.out)⟩;have n1_ := am (blk_below BX.out hb3);clear BX;have BX := n1_;clear n1_;have BY := am hbox;clear hbox hg HBB;have HBB := n0_;clear n0_ hb3
    refine hK.out _ _ ⟨pw_cell_below HBB.out z0.out, pw_cell_below HBB.out z1.out, pw_cell_below HBB.out z2.out, pw_cell_below HBB.out z3.out⟩ (fun hHeld => ?_)
    clear hK K
    refine nm ?_
    exact nj (hCont (gx, gy) _ ⟨hHeld, BX.out, BY.out, NE.out, GX.out, GY.out, HBB.out⟩)
   skip
   refine bx 7 #[.int .u64 0, .int .u64 0, .int .u64 0, .int .u64 0, .int .u64 0, .int .u64 0, .int .u64 0, .int .u64 0] 88 ?_
   intro gy hg w3 hbox hb3
   have n0_ := am (below_step (by repeat (first | (with_reducible first | exact HBB.out | apply below_alloc | apply pw_below_drewN | apply below_drew1) | exact HBB.out)) hb3);have GY : Aside0 (w2.heap.size ≤ gy) := ⟨by rw [hg]; exact HBB.out.size⟩;have BY := am hbox;clear hbox hg HBB;have HBB := n0_;clear n0_ hb3
   refine hK.out _ _ ⟨pw_cell_below HBB.out z0.out, pw_cell_below HBB.out z1.out, pw_cell_below HBB.out z2.out, pw_cell_below HBB.out z3.out⟩ (fun hHeld => ?_)
   clear hK K
   refine nm ?_
   refine one_ (i := 4) (N := some 6) #[true, true, true, true, true, true, false, false] rfl rfl (by kernel_rfl) (by decide) (fun K hK => ?_)
   refine bx 6 #[.int .u64 0, .int .u64 0, .int .u64 0, .int .u64 0, .int .u64 0, .int .u64 0, .int .u64 0, .int .u64 0] 88 ?_
   intro gx hg w3 hbox hb3
   have n0_ := am (below_step (by repeat (first | (with_reducible first | exact HBB.out | apply below_alloc | apply pw_below_drewN | apply below_drew1) | exact HBB.out)) hb3);have GX : Aside0 (w2.heap.size ≤ gx) := ⟨by rw [hg]; exact HBB.out.size⟩;have NE : Aside0 (gx ≠ gy) := ⟨by rw [hg]; exact Nat.ne_of_gt (blk_lt BY.out)⟩;have n1_ := am (blk_below BY.out hb3);clear BY;have BY := n1_;clear n1_;have BX := am hbox;clear hbox hg HBB;have HBB := n0_;clear n0_ hb3
   refine hK.out _ _ ⟨pw_cell_below HBB.out z0.out, pw_cell_below HBB.out z1.out, pw_cell_below HBB.out z2.out, pw_cell_below HBB.out z3.out⟩ (fun hHeld => ?_)
   clear hK K
   refine nm ?_
   exact nj (hCont (gx, gy) _ ⟨hHeld, BX.out, BY.out, NE.out, GX.out, GY.out, HBB.out⟩)
  ·skip
   refine bx 6 #[.int .u64 0, .int .u64 0, .int .u64 0, .int .u64 0, .int .u64 0, .int .u64 0, .int .u64 0, .int .u64 0] 88 ?_
   intro gx hg w3 hbox hb3
   have n0_ := am (below_step (by repeat (first | (with_reducible first | exact HBB.out | apply below_alloc | apply pw_below_drewN | apply below_drew1) | exact HBB.out)) hb3);have GX : Aside0 (w2.heap.size ≤ gx) := ⟨by rw [hg]; exact HBB.out.size⟩;have BX := am hbox;clear hbox hg HBB;have HBB := n0_;clear n0_ hb3
   refine hK.out _ _ ⟨pw_cell_below HBB.out z0.out, pw_cell_below HBB.out z1.out, pw_cell_below HBB.out z2.out, pw_cell_below HBB.out z3.out⟩ (fun hHeld => ?_)
   clear hK K
   refine nm ?_
   refine two_ (i := 3) (j := 5) (Ni := some 14) (Nj := some 7) #[true, true, true, true, true, false, false, false] #[true, true, true, false, true, true, false, false] rfl rfl rfl rfl (by kernel_rfl) (by decide) (by decide) (fun K hK => ?_) (fun K hK => ?_)
   ·skip
    refine goes_ Try.func43 (by kernel_rfl) rfl #[.agg #[.int .u64 aa, .int .u64 ac]] (by rfl) rfl rfl (by simp only [List.map_toArray, List.map_cons, List.map_nil]; rfl) ?_
    with_reducible refine (HDB.out _).mono ?_
    rintro e w3 ⟨rfl, hb3⟩
    refine ⟨_, rfl, ?_⟩
    have n0_ := am (below_step (by repeat (first | (with_reducible first | exact HBB.out | apply below_alloc | apply pw_below_drewN | apply below_drew1) | exact HBB.out)) hb3);have n1_ := am (blk_below BX.out hb3);clear BX;have BX := n1_;clear n1_ HBB;have HBB := n0_;clear n0_ hb3
    refine hK.out _ _ ⟨pw_cell_below HBB.out z0.out, pw_cell_below HBB.out z1.out, pw_cell_below HBB.out z2.out, pw_cell_below HBB.out z3.out⟩ (fun hHeld => ?_)
    clear hK K
    refine nm ?_
    refine one_ (i := 5) (N := some 7) #[true, true, true, true, true, true, false, false] rfl rfl (by kernel_rfl) (by decide) (fun K hK => ?_)
    refine bx 7 #[.int .u64 0, .int .u64 0, .int .u64 0, .int .u64 0, .int .u64 0, .int .u64 0, .int .u64 0, .int .u64 0] 88 ?_
    intro gy hg w3 hbox hb3
    have n0_ := am (below_step (by repeat (first | (with_reducible first | exact HBB.out | apply below_alloc | apply pw_below_drewN | apply below_drew1) | exact HBB.out)) hb3);have GY : Aside0 (w2.heap.size ≤ gy) := ⟨by rw [hg]; exact HBB.out.size⟩;have NE : Aside0 (gx ≠ gy) := ⟨by rw [hg]; exact Nat.ne_of_lt (blk_lt BX.out)⟩;have n1_ := am (blk_below BX.out hb3);clear BX;have BX := n1_;clear n1_;have BY := am hbox;clear hbox hg HBB;have HBB := n0_;clear n0_ hb3
    refine hK.out _ _ ⟨pw_cell_below HBB.out z0.out, pw_cell_below HBB.out z1.out, pw_cell_below HBB.out z2.out, pw_cell_below HBB.out z3.out⟩ (fun hHeld => ?_)
    clear hK K
    refine nm ?_
    exact nj (hCont (gx, gy) _ ⟨hHeld, BX.out, BY.out, NE.out, GX.out, GY.out, HBB.out⟩)
   skip
   refine bx 7 #[.int .u64 0, .int .u64 0, .int .u64 0, .int .u64 0, .int .u64 0, .int .u64 0, .int .u64 0, .int .u64 0] 88 ?_
   intro gy hg w3 hbox hb3
   have n0_ := am (below_step (by repeat (first | (with_reducible first | exact HBB.out | apply below_alloc | apply pw_below_drewN | apply below_drew1) | exact HBB.out)) hb3);have GY : Aside0 (w2.heap.size ≤ gy) := ⟨by rw [hg]; exact HBB.out.size⟩;have NE : Aside0 (gx ≠ gy) := ⟨by rw [hg]; exact Nat.ne_of_lt (blk_lt BX.out)⟩;have n1_ := am (blk_below BX.out hb3);clear BX;have BX := n1_;clear n1_;have BY := am hbox;clear hbox hg HBB;have HBB := n0_;clear n0_ hb3
   refine hK.out _ _ ⟨pw_cell_below HBB.out z0.out, pw_cell_below HBB.out z1.out, pw_cell_below HBB.out z2.out, pw_cell_below HBB.out z3.out⟩ (fun hHeld => ?_)
   clear hK K
   refine nm ?_
   refine one_ (i := 3) (N := some 14) #[true, true, true, true, true, true, false, false] rfl rfl (by kernel_rfl) (by decide) (fun K hK => ?_)
   refine goes_ Try.func43 (by kernel_rfl) rfl #[.agg #[.int .u64 aa, .int .u64 ac]] (by rfl) rfl rfl (by simp only [List.map_toArray, List.map_cons, List.map_nil]; rfl) ?_
   with_reducible refine (HDB.out _).mono ?_
   rintro e w3 ⟨rfl, hb3⟩
   refine ⟨_, rfl, ?_⟩
   have n0_ := am (below_step (by repeat (first | (with_reducible first | exact HBB.out | apply below_alloc | apply pw_below_drewN | apply below_drew1) | exact HBB.out)) hb3);have n1_ := am (blk_below BX.out hb3);clear BX;have BX := n1_;clear n1_;have n1_ := am (blk_below BY.out hb3);clear BY;have BY := n1_;clear n1_ HBB;have HBB := n0_;clear n0_ hb3
   refine hK.out _ _ ⟨pw_cell_below HBB.out z0.out, pw_cell_below HBB.out z1.out, pw_cell_below HBB.out z2.out, pw_cell_below HBB.out z3.out⟩ (fun hHeld => ?_)
   clear hK K
   refine nm ?_
   exact nj (hCont (gx, gy) _ ⟨hHeld, BX.out, BY.out, NE.out, GX.out, GY.out, HBB.out⟩)
  skip
  refine bx 7 #[.int .u64 0, .int .u64 0, .int .u64 0, .int .u64 0, .int .u64 0, .int .u64 0, .int .u64 0, .int .u64 0] 88 ?_
  intro gy hg w3 hbox hb3
  have n0_ := am (below_step (by repeat (first | (with_reducible first | exact HBB.out | apply below_alloc | apply pw_below_drewN | apply below_drew1) | exact HBB.out)) hb3);have GY : Aside0 (w2.heap.size ≤ gy) := ⟨by rw [hg]; exact HBB.out.size⟩;have BY := am hbox;clear hbox hg HBB;have HBB := n0_;clear n0_ hb3
  refine hK.out _ _ ⟨pw_cell_below HBB.out z0.out, pw_cell_below HBB.out z1.out, pw_cell_below HBB.out z2.out, pw_cell_below HBB.out z3.out⟩ (fun hHeld => ?_)
  clear hK K
  refine nm ?_
  refine two_ (i := 3) (j := 4) (Ni := some 14) (Nj := some 6) #[true, true, true, true, false, true, false, false] #[true, true, true, false, true, true, false, false] rfl rfl rfl rfl (by kernel_rfl) (by decide) (by decide) (fun K hK => ?_) (fun K hK => ?_)
  ·skip
   refine goes_ Try.func43 (by kernel_rfl) rfl #[.agg #[.int .u64 aa, .int .u64 ac]] (by rfl) rfl rfl (by simp only [List.map_toArray, List.map_cons, List.map_nil]; rfl) ?_
   with_reducible refine (HDB.out _).mono ?_
   rintro e w3 ⟨rfl, hb3⟩
   refine ⟨_, rfl, ?_⟩
   have n0_ := am (below_step (by repeat (first | (with_reducible first | exact HBB.out | apply below_alloc | apply pw_below_drewN | apply below_drew1) | exact HBB.out)) hb3);have n1_ := am (blk_below BY.out hb3);clear BY;have BY := n1_;clear n1_ HBB;have HBB := n0_;clear n0_ hb3
   refine hK.out _ _ ⟨pw_cell_below HBB.out z0.out, pw_cell_below HBB.out z1.out, pw_cell_below HBB.out z2.out, pw_cell_below HBB.out z3.out⟩ (fun hHeld => ?_)
   clear hK K
   refine nm ?_
   refine one_ (i := 4) (N := some 6) #[true, true, true, true, true, true, false, false] rfl rfl (by kernel_rfl) (by decide) (fun K hK => ?_)
   refine bx 6 #[.int .u64 0, .int .u64 0, .int .u64 0, .int .u64 0, .int .u64 0, .int .u64 0, .int .u64 0, .int .u64 0] 88 ?_
   intro gx hg w3 hbox hb3
   have n0_ := am (below_step (by repeat (first | (with_reducible first | exact HBB.out | apply below_alloc | apply pw_below_drewN | apply below_drew1) | exact HBB.out)) hb3);have GX : Aside0 (w2.heap.size ≤ gx) := ⟨by rw [hg]; exact HBB.out.size⟩;have NE : Aside0 (gx ≠ gy) := ⟨by rw [hg]; exact Nat.ne_of_gt (blk_lt BY.out)⟩;have n1_ := am (blk_below BY.out hb3);clear BY;have BY := n1_;clear n1_;have BX := am hbox;clear hbox hg HBB;have HBB := n0_;clear n0_ hb3
   refine hK.out _ _ ⟨pw_cell_below HBB.out z0.out, pw_cell_below HBB.out z1.out, pw_cell_below HBB.out z2.out, pw_cell_below HBB.out z3.out⟩ (fun hHeld => ?_)
   clear hK K
   refine nm ?_
   exact nj (hCont (gx, gy) _ ⟨hHeld, BX.out, BY.out, NE.out, GX.out, GY.out, HBB.out⟩)
  skip
  refine bx 6 #[.int .u64 0, .int .u64 0, .int .u64 0, .int .u64 0, .int .u64 0, .int .u64 0, .int .u64 0, .int .u64 0] 88 ?_
  intro gx hg w3 hbox hb3
  have n0_ := am (below_step (by repeat (first | (with_reducible first | exact HBB.out | apply below_alloc | apply pw_below_drewN | apply below_drew1) | exact HBB.out)) hb3);have GX : Aside0 (w2.heap.size ≤ gx) := ⟨by rw [hg]; exact HBB.out.size⟩;have NE : Aside0 (gx ≠ gy) := ⟨by rw [hg]; exact Nat.ne_of_gt (blk_lt BY.out)⟩;have n1_ := am (blk_below BY.out hb3);clear BY;have BY := n1_;clear n1_;have BX := am hbox;clear hbox hg HBB;have HBB := n0_;clear n0_ hb3
  refine hK.out _ _ ⟨pw_cell_below HBB.out z0.out, pw_cell_below HBB.out z1.out, pw_cell_below HBB.out z2.out, pw_cell_below HBB.out z3.out⟩ (fun hHeld => ?_)
  clear hK K
  refine nm ?_
  refine one_ (i := 3) (N := some 14) #[true, true, true, true, true, true, false, false] rfl rfl (by kernel_rfl) (by decide) (fun K hK => ?_)
  refine goes_ Try.func43 (by kernel_rfl) rfl #[.agg #[.int .u64 aa, .int .u64 ac]] (by rfl) rfl rfl (by simp only [List.map_toArray, List.map_cons, List.map_nil]; rfl) ?_
  with_reducible refine (HDB.out _).mono ?_
  rintro e w3 ⟨rfl, hb3⟩
  refine ⟨_, rfl, ?_⟩
  have n0_ := am (below_step (by repeat (first | (with_reducible first | exact HBB.out | apply below_alloc | apply pw_below_drewN | apply below_drew1) | exact HBB.out)) hb3);have n1_ := am (blk_below BX.out hb3);clear BX;have BX := n1_;clear n1_;have n1_ := am (blk_below BY.out hb3);clear BY;have BY := n1_;clear n1_ HBB;have HBB := n0_;clear n0_ hb3
  refine hK.out _ _ ⟨pw_cell_below HBB.out z0.out, pw_cell_below HBB.out z1.out, pw_cell_below HBB.out z2.out, pw_cell_below HBB.out z3.out⟩ (fun hHeld => ?_)
  clear hK K
  refine nm ?_
  exact nj (hCont (gx, gy) _ ⟨hHeld, BX.out, BY.out, NE.out, GX.out, GY.out, HBB.out⟩)
 ·skip
  refine bx 6 #[.int .u64 0, .int .u64 0, .int .u64 0, .int .u64 0, .int .u64 0, .int .u64 0, .int .u64 0, .int .u64 0] 88 ?_
  intro gx hg w3 hbox hb3
  have n0_ := am (below_step (by repeat (first | (with_reducible first | exact HBB.out | apply below_alloc | apply pw_below_drewN | apply below_drew1) | exact HBB.out)) hb3);have GX : Aside0 (w2.heap.size ≤ gx) := ⟨by rw [hg]; exact HBB.out.size⟩;have BX := am hbox;clear hbox hg HBB;have HBB := n0_;clear n0_ hb3
  refine hK.out _ _ ⟨pw_cell_below HBB.out z0.out, pw_cell_below HBB.out z1.out, pw_cell_below HBB.out z2.out, pw_cell_below HBB.out z3.out⟩ (fun hHeld => ?_)
  clear hK K
  refine nm ?_
  refine two_ (i := 1) (j := 5) (Ni := some 12) (Nj := some 7) #[true, true, true, false, true, false, false, false] #[true, false, true, false, true, true, false, false] rfl rfl rfl rfl (by kernel_rfl) (by decide) (by decide) (fun K hK => ?_) (fun K hK => ?_)
  rotate_left
  ·skip
   refine bx 7 #[.int .u64 0, .int .u64 0, .int .u64 0, .int .u64 0, .int .u64 0, .int .u64 0, .int .u64 0, .int .u64 0] 88 ?_
   intro gy hg w3 hbox hb3
   have n0_ := am (below_step (by repeat (first | (with_reducible first | exact HBB.out | apply below_alloc | apply pw_below_drewN | apply below_drew1) | exact HBB.out)) hb3);have GY : Aside0 (w2.heap.size ≤ gy) := ⟨by rw [hg]; exact HBB.out.size⟩;have NE : Aside0 (gx ≠ gy) := ⟨by rw [hg]; exact Nat.ne_of_lt (blk_lt BX.out)⟩;have n1_ := am (blk_below BX.out hb3);clear BX;have BX := n1_;clear n1_;have BY := am hbox;clear hbox hg HBB;have HBB := n0_;clear n0_ hb3
   refine hK.out _ _ ⟨pw_cell_below HBB.out z0.out, pw_cell_below HBB.out z1.out, pw_cell_below HBB.out z2.out, pw_cell_below HBB.out z3.out⟩ (fun hHeld => ?_)
   clear hK K
   refine nm ?_
   refine one_ (i := 1) (N := some 12) #[true, true, true, false, true, true, false, false] rfl rfl (by kernel_rfl) (by decide) (fun K hK => ?_)
   refine goes_ Try.func43 (by kernel_rfl) rfl #[.agg #[.int .u64 ad, .int .u64 ae]] (by rfl) rfl rfl (by simp only [List.map_toArray, List.map_cons, List.map_nil]; rfl) ?_
   with_reducible refine (HDA.out _).mono ?_
   rintro e w3 ⟨rfl, hb3⟩
   refine ⟨_, rfl, ?_⟩
   have n0_ := am (below_step (by repeat (first | (with_reducible first | exact HBB.out | apply below_alloc | apply pw_below_drewN | apply below_drew1) | exact HBB.out)) hb3);have n1_ := am (blk_below BX.out hb3);clear BX;have BX := n1_;clear n1_;have n1_ := am (blk_below BY.out hb3);clear BY;have BY := n1_;clear n1_ HBB;have HBB := n0_;clear n0_ hb3
   refine hK.out _ _ ⟨pw_cell_below HBB.out z0.out, pw_cell_below HBB.out z1.out, pw_cell_below HBB.out z2.out, pw_cell_below HBB.out z3.out⟩ (fun hHeld => ?_)
   clear hK K
   refine nm ?_
   refine one_ (i := 3) (N := some 14) #[true, true, true, true, true, true, false, false] rfl rfl (by kernel_rfl) (by decide) (fun K hK => ?_)
   refine goes_ Try.func43 (by kernel_rfl) rfl #[.agg #[.int .u64 aa, .int .u64 ac]] (by rfl) rfl rfl (by simp only [List.map_toArray, List.map_cons, List.map_nil]; rfl) ?_
   with_reducible refine (HDB.out _).mono ?_
   rintro e w3 ⟨rfl, hb3⟩
   refine ⟨_, rfl, ?_⟩
   have n0_ := am (below_step (by repeat (first | (with_reducible first | exact HBB.out | apply below_alloc | apply pw_below_drewN | apply below_drew1) | exact HBB.out)) hb3);have n1_ := am (blk_below BX.out hb3);clear BX;have BX := n1_;clear n1_;have n1_ := am (blk_below BY.out hb3);clear BY;have BY := n1_;clear n1_ HBB;have HBB := n0_;clear n0_ hb3
   refine hK.out _ _ ⟨pw_cell_below HBB.out z0.out, pw_cell_below HBB.out z1.out, pw_cell_below HBB.out z2.out, pw_cell_below HBB.out z3.out⟩ (fun hHeld => ?_)
   clear hK K
   refine nm ?_
   exact nj (hCont (gx, gy) _ ⟨hHeld, BX.out, BY.out, NE.out, GX.out, GY.out, HBB.out⟩)
  skip
  refine goes_ Try.func43 (by kernel_rfl) rfl #[.agg #[.int .u64 ad, .int .u64 ae]] (by rfl) rfl rfl (by simp only [List.map_toArray, List.map_cons, List.map_nil]; rfl) ?_
  with_reducible refine (HDA.out _).mono ?_
  rintro e w3 ⟨rfl, hb3⟩
  refine ⟨_, rfl, ?_⟩
  have n0_ := am (below_step (by repeat (first | (with_reducible first | exact HBB.out | apply below_alloc | apply pw_below_drewN | apply below_drew1) | exact HBB.out)) hb3);have n1_ := am (blk_below BX.out hb3);clear BX;have BX := n1_;clear n1_ HBB;have HBB := n0_;clear n0_ hb3
  refine hK.out _ _ ⟨pw_cell_below HBB.out z0.out, pw_cell_below HBB.out z1.out, pw_cell_below HBB.out z2.out, pw_cell_below HBB.out z3.out⟩ (fun hHeld => ?_)
  clear hK K
  refine nm ?_
  refine two_ (i := 3) (j := 5) (Ni := some 14) (Nj := some 7) #[true, true, true, true, true, false, false, false] #[true, true, true, false, true, true, false, false] rfl rfl rfl rfl (by kernel_rfl) (by decide) (by decide) (fun K hK => ?_) (fun K hK => ?_)
  ·skip
   refine goes_ Try.func43 (by kernel_rfl) rfl #[.agg #[.int .u64 aa, .int .u64 ac]] (by rfl) rfl rfl (by simp only [List.map_toArray, List.map_cons, List.map_nil]; rfl) ?_
   with_reducible refine (HDB.out _).mono ?_
   rintro e w3 ⟨rfl, hb3⟩
   refine ⟨_, rfl, ?_⟩
   have n0_ := am (below_step (by repeat (first | (with_reducible first | exact HBB.out | apply below_alloc | apply pw_below_drewN | apply below_drew1) | exact HBB.out)) hb3);have n1_ := am (blk_below BX.out hb3);clear BX;have BX := n1_;clear n1_ HBB;have HBB := n0_;clear n0_ hb3
   refine hK.out _ _ ⟨pw_cell_below HBB.out z0.out, pw_cell_below HBB.out z1.out, pw_cell_below HBB.out z2.out, pw_cell_below HBB.out z3.out⟩ (fun hHeld => ?_)
   clear hK K
   refine nm ?_
   refine one_ (i := 5) (N := some 7) #[true, true, true, true, true, true, false, false] rfl rfl (by kernel_rfl) (by decide) (fun K hK => ?_)
   refine bx 7 #[.int .u64 0, .int .u64 0, .int .u64 0, .int .u64 0, .int .u64 0, .int .u64 0, .int .u64 0, .int .u64 0] 88 ?_
   intro gy hg w3 hbox hb3
   have n0_ := am (below_step (by repeat (first | (with_reducible first | exact HBB.out | apply below_alloc | apply pw_below_drewN | apply below_drew1) | exact HBB.out)) hb3);have GY : Aside0 (w2.heap.size ≤ gy) := ⟨by rw [hg]; exact HBB.out.size⟩;have NE : Aside0 (gx ≠ gy) := ⟨by rw [hg]; exact Nat.ne_of_lt (blk_lt BX.out)⟩;have n1_ := am (blk_below BX.out hb3);clear BX;have BX := n1_;clear n1_;have BY := am hbox;clear hbox hg HBB;have HBB := n0_;clear n0_ hb3
   refine hK.out _ _ ⟨pw_cell_below HBB.out z0.out, pw_cell_below HBB.out z1.out, pw_cell_below HBB.out z2.out, pw_cell_below HBB.out z3.out⟩ (fun hHeld => ?_)
   clear hK K
   refine nm ?_
   exact nj (hCont (gx, gy) _ ⟨hHeld, BX.out, BY.out, NE.out, GX.out, GY.out, HBB.out⟩)
  skip
  refine bx 7 #[.int .u64 0, .int .u64 0, .int .u64 0, .int .u64 0, .int .u64 0, .int .u64 0, .int .u64 0, .int .u64 0] 88 ?_
  intro gy hg w3 hbox hb3
  have n0_ := am (below_step (by repeat (first | (with_reducible first | exact HBB.out | apply below_alloc | apply pw_below_drewN | apply below_drew1) | exact HBB.out)) hb3);have GY : Aside0 (w2.heap.size ≤ gy) := ⟨by rw [hg]; exact HBB.out.size⟩;have NE : Aside0 (gx ≠ gy) := ⟨by rw [hg]; exact Nat.ne_of_lt (blk_lt BX.out)⟩;have n1_ := am (blk_below BX.out hb3);clear BX;have BX := n1_;clear n1_;have BY := am hbox;clear hbox hg HBB;have HBB := n0_;clear n0_ hb3
  refine hK.out _ _ ⟨pw_cell_below HBB.out z0.out, pw_cell_below HBB.out z1.out, pw_cell_below HBB.out z2.out, pw_cell_below HBB.out z3.out⟩ (fun hHeld => ?_)
  clear hK K
  refine nm ?_
  refine one_ (i := 3) (N := some 14) #[true, true, true, true, true, true, false, false] rfl rfl (by kernel_rfl) (by decide) (fun K hK => ?_)
  refine goes_ Try.func43 (by kernel_rfl) rfl #[.agg #[.int .u64 aa, .int .u64 ac]] (by rfl) rfl rfl (by simp only [List.map_toArray, List.map_cons, List.map_nil]; rfl) ?_
  with_reducible refine (HDB.out _).mono ?_
  rintro e w3 ⟨rfl, hb3⟩
  refine ⟨_, rfl, ?_⟩
  have n0_ := am (below_step (by repeat (first | (with_reducible first | exact HBB.out | apply below_alloc | apply pw_below_drewN | apply below_drew1) | exact HBB.out)) hb3);have n1_ := am (blk_below BX.out hb3);clear BX;have BX := n1_;clear n1_;have n1_ := am (blk_below BY.out hb3);clear BY;have BY := n1_;clear n1_ HBB;have HBB := n0_;clear n0_ hb3
  refine hK.out _ _ ⟨pw_cell_below HBB.out z0.out, pw_cell_below HBB.out z1.out, pw_cell_below HBB.out z2.out, pw_cell_below HBB.out z3.out⟩ (fun hHeld => ?_)
  clear hK K
  refine nm ?_
  exact nj (hCont (gx, gy) _ ⟨hHeld, BX.out, BY.out, NE.out, GX.out, GY.out, HBB.out⟩)
 skip
 refine bx 7 #[.int .u64 0, .int .u64 0, .int .u64 0, .int .u64 0, .int .u64 0, .int .u64 0, .int .u64 0, .int .u64 0] 88 ?_
 intro gy hg w3 hbox hb3
 have n0_ := am (below_step (by repeat (first | (with_reducible first | exact HBB.out | apply below_alloc | apply pw_below_drewN | apply below_drew1) | exact HBB.out)) hb3);have GY : Aside0 (w2.heap.size ≤ gy) := ⟨by rw [hg]; exact HBB.out.size⟩;have BY := am hbox;clear hbox hg HBB;have HBB := n0_;clear n0_ hb3
 refine hK.out _ _ ⟨pw_cell_below HBB.out z0.out, pw_cell_below HBB.out z1.out, pw_cell_below HBB.out z2.out, pw_cell_below HBB.out z3.out⟩ (fun hHeld => ?_)
 clear hK K
 refine nm ?_
 refine two_ (i := 1) (j := 4) (Ni := some 12) (Nj := some 6) #[true, true, true, false, false, true, false, false] #[true, false, true, false, true, true, false, false] rfl rfl rfl rfl (by kernel_rfl) (by decide) (by decide) (fun K hK => ?_) (fun K hK => ?_)
 rotate_left
 ·skip
  refine bx 6 #[.int .u64 0, .int .u64 0, .int .u64 0, .int .u64 0, .int .u64 0, .int .u64 0, .int .u64 0, .int .u64 0] 88 ?_
  intro gx hg w3 hbox hb3
  have n0_ := am (below_step (by repeat (first | (with_reducible first | exact HBB.out | apply below_alloc | apply pw_below_drewN | apply below_drew1) | exact HBB.out)) hb3);have GX : Aside0 (w2.heap.size ≤ gx) := ⟨by rw [hg]; exact HBB.out.size⟩;have NE : Aside0 (gx ≠ gy) := ⟨by rw [hg]; exact Nat.ne_of_gt (blk_lt BY.out)⟩;have n1_ := am (blk_below BY.out hb3);clear BY;have BY := n1_;clear n1_;have BX := am hbox;clear hbox hg HBB;have HBB := n0_;clear n0_ hb3
  refine hK.out _ _ ⟨pw_cell_below HBB.out z0.out, pw_cell_below HBB.out z1.out, pw_cell_below HBB.out z2.out, pw_cell_below HBB.out z3.out⟩ (fun hHeld => ?_)
  clear hK K
  refine nm ?_
  refine one_ (i := 1) (N := some 12) #[true, true, true, false, true, true, false, false] rfl rfl (by kernel_rfl) (by decide) (fun K hK => ?_)
  refine goes_ Try.func43 (by kernel_rfl) rfl #[.agg #[.int .u64 ad, .int .u64 ae]] (by rfl) rfl rfl (by simp only [List.map_toArray, List.map_cons, List.map_nil]; rfl) ?_
  with_reducible refine (HDA.out _).mono ?_
  rintro e w3 ⟨rfl, hb3⟩
  refine ⟨_, rfl, ?_⟩
  have n0_ := am (below_step (by repeat (first | (with_reducible first | exact HBB.out | apply below_alloc | apply pw_below_drewN | apply below_drew1) | exact HBB.out)) hb3);have n1_ := am (blk_below BX.out hb3);clear BX;have BX := n1_;clear n1_;have n1_ := am (blk_below BY.out hb3);clear BY;have BY := n1_;clear n1_ HBB;have HBB := n0_;clear n0_ hb3
  refine hK.out _ _ ⟨pw_cell_below HBB.out z0.out, pw_cell_below HBB.out z1.out, pw_cell_below HBB.out z2.out, pw_cell_below HBB.out z3.out⟩ (fun hHeld => ?_)
  clear hK K
  refine nm ?_
  refine one_ (i := 3) (N := some 14) #[true, true, true, true, true, true, false, false] rfl rfl (by kernel_rfl) (by decide) (fun K hK => ?_)
  refine goes_ Try.func43 (by kernel_rfl) rfl #[.agg #[.int .u64 aa, .int .u64 ac]] (by rfl) rfl rfl (by simp only [List.map_toArray, List.map_cons, List.map_nil]; rfl) ?_
  with_reducible refine (HDB.out _).mono ?_
  rintro e w3 ⟨rfl, hb3⟩
  refine ⟨_, rfl, ?_⟩
  have n0_ := am (below_step (by repeat (first | (with_reducible first | exact HBB.out | apply below_alloc | apply pw_below_drewN | apply below_drew1) | exact HBB.out)) hb3);have n1_ := am (blk_below BX.out hb3);clear BX;have BX := n1_;clear n1_;have n1_ := am (blk_below BY.out hb3);clear BY;have BY := n1_;clear n1_ HBB;have HBB := n0_;clear n0_ hb3
  refine hK.out _ _ ⟨pw_cell_below HBB.out z0.out, pw_cell_below HBB.out z1.out, pw_cell_below HBB.out z2.out, pw_cell_below HBB.out z3.out⟩ (fun hHeld => ?_)
  clear hK K
  refine nm ?_
  exact nj (hCont (gx, gy) _ ⟨hHeld, BX.out, BY.out, NE.out, GX.out, GY.out, HBB.out⟩)
 skip
 refine goes_ Try.func43 (by kernel_rfl) rfl #[.agg #[.int .u64 ad, .int .u64 ae]] (by rfl) rfl rfl (by simp only [List.map_toArray, List.map_cons, List.map_nil]; rfl) ?_
 with_reducible refine (HDA.out _).mono ?_
 rintro e w3 ⟨rfl, hb3⟩
 refine ⟨_, rfl, ?_⟩
 have n0_ := am (below_step (by repeat (first | (with_reducible first | exact HBB.out | apply below_alloc | apply pw_below_drewN | apply below_drew1) | exact HBB.out)) hb3);have n1_ := am (blk_below BY.out hb3);clear BY;have BY := n1_;clear n1_ HBB;have HBB := n0_;clear n0_ hb3
 refine hK.out _ _ ⟨pw_cell_below HBB.out z0.out, pw_cell_below HBB.out z1.out, pw_cell_below HBB.out z2.out, pw_cell_below HBB.out z3.out⟩ (fun hHeld => ?_)
 clear hK K
 refine nm ?_
 refine two_ (i := 3) (j := 4) (Ni := some 14) (Nj := some 6) #[true, true, true, true, false, true, false, false] #[true, true, true, false, true, true, false, false] rfl rfl rfl rfl (by kernel_rfl) (by decide) (by decide) (fun K hK => ?_) (fun K hK => ?_)
 ·skip
  refine goes_ Try.func43 (by kernel_rfl) rfl #[.agg #[.int .u64 aa, .int .u64 ac]] (by rfl) rfl rfl (by simp only [List.map_toArray, List.map_cons, List.map_nil]; rfl) ?_
  with_reducible refine (HDB.out _).mono ?_
  rintro e w3 ⟨rfl, hb3⟩
  refine ⟨_, rfl, ?_⟩
  have n0_ := am (below_step (by repeat (first | (with_reducible first | exact HBB.out | apply below_alloc | apply pw_below_drewN | apply below_drew1) | exact HBB.out)) hb3);have n1_ := am (blk_below BY.out hb3);clear BY;have BY := n1_;clear n1_ HBB;have HBB := n0_;clear n0_ hb3
  refine hK.out _ _ ⟨pw_cell_below HBB.out z0.out, pw_cell_below HBB.out z1.out, pw_cell_below HBB.out z2.out, pw_cell_below HBB.out z3.out⟩ (fun hHeld => ?_)
  clear hK K
  refine nm ?_
  refine one_ (i := 4) (N := some 6) #[true, true, true, true, true, true, false, false] rfl rfl (by kernel_rfl) (by decide) (fun K hK => ?_)
  refine bx 6 #[.int .u64 0, .int .u64 0, .int .u64 0, .int .u64 0, .int .u64 0, .int .u64 0, .int .u64 0, .int .u64 0] 88 ?_
  intro gx hg w3 hbox hb3
  have n0_ := am (below_step (by repeat (first | (with_reducible first | exact HBB.out | apply below_alloc | apply pw_below_drewN | apply below_drew1) | exact HBB.out)) hb3);have GX : Aside0 (w2.heap.size ≤ gx) := ⟨by rw [hg]; exact HBB.out.size⟩;have NE : Aside0 (gx ≠ gy) := ⟨by rw [hg]; exact Nat.ne_of_gt (blk_lt BY.out)⟩;have n1_ := am (blk_below BY.out hb3);clear BY;have BY := n1_;clear n1_;have BX := am hbox;clear hbox hg HBB;have HBB := n0_;clear n0_ hb3
  refine hK.out _ _ ⟨pw_cell_below HBB.out z0.out, pw_cell_below HBB.out z1.out, pw_cell_below HBB.out z2.out, pw_cell_below HBB.out z3.out⟩ (fun hHeld => ?_)
  clear hK K
  refine nm ?_
  exact nj (hCont (gx, gy) _ ⟨hHeld, BX.out, BY.out, NE.out, GX.out, GY.out, HBB.out⟩)
 skip
 refine bx 6 #[.int .u64 0, .int .u64 0, .int .u64 0, .int .u64 0, .int .u64 0, .int .u64 0, .int .u64 0, .int .u64 0] 88 ?_
 intro gx hg w3 hbox hb3
 have n0_ := am (below_step (by repeat (first | (with_reducible first | exact HBB.out | apply below_alloc | apply pw_below_drewN | apply below_drew1) | exact HBB.out)) hb3);have GX : Aside0 (w2.heap.size ≤ gx) := ⟨by rw [hg]; exact HBB.out.size⟩;have NE : Aside0 (gx ≠ gy) := ⟨by rw [hg]; exact Nat.ne_of_gt (blk_lt BY.out)⟩;have n1_ := am (blk_below BY.out hb3);clear BY;have BY := n1_;clear n1_;have BX := am hbox;clear hbox hg HBB;have HBB := n0_;clear n0_ hb3
 refine hK.out _ _ ⟨pw_cell_below HBB.out z0.out, pw_cell_below HBB.out z1.out, pw_cell_below HBB.out z2.out, pw_cell_below HBB.out z3.out⟩ (fun hHeld => ?_)
 clear hK K
 refine nm ?_
 refine one_ (i := 3) (N := some 14) #[true, true, true, true, true, true, false, false] rfl rfl (by kernel_rfl) (by decide) (fun K hK => ?_)
 refine goes_ Try.func43 (by kernel_rfl) rfl #[.agg #[.int .u64 aa, .int .u64 ac]] (by rfl) rfl rfl (by simp only [List.map_toArray, List.map_cons, List.map_nil]; rfl) ?_
 with_reducible refine (HDB.out _).mono ?_
 rintro e w3 ⟨rfl, hb3⟩
 refine ⟨_, rfl, ?_⟩
 have n0_ := am (below_step (by repeat (first | (with_reducible first | exact HBB.out | apply below_alloc | apply pw_below_drewN | apply below_drew1) | exact HBB.out)) hb3);have n1_ := am (blk_below BX.out hb3);clear BX;have BX := n1_;clear n1_;have n1_ := am (blk_below BY.out hb3);clear BY;have BY := n1_;clear n1_ HBB;have HBB := n0_;clear n0_ hb3
 refine hK.out _ _ ⟨pw_cell_below HBB.out z0.out, pw_cell_below HBB.out z1.out, pw_cell_below HBB.out z2.out, pw_cell_below HBB.out z3.out⟩ (fun hHeld => ?_)
 clear hK K
 refine nm ?_
 exact nj (hCont (gx, gy) _ ⟨hHeld, BX.out, BY.out, NE.out, GX.out, GY.out, HBB.out⟩)
end Go.Proofs.Ytmfffbafldbihaa.H
