import Derived.Test.YtpbiobbddgipkaaHx9
namespace Go.Proofs.Ytpbiobbddgipkaa.H
open Go.RowKit Go.Proofs.YtpbiobbddgipkaaW.PrintWords Go.Proofs.YtpbiobbddgipkaaW.PrintLast Go.Proofs.YtpbiobbddgipkaaW.PrintMore Go.Proofs.YtpbiobbddgipkaaW.Sq
attribute [local go_sem] max2_int min2_int max_two min_two max_three min_three max_four min_four
set_option linter.unusedVariables false
set_option linter.unusedSimpArgs false
set_option maxHeartbeats 400000000
set_option maxRecDepth 100000

theorem Insert_endL (base : Nat) (v : Value) (n : Nat) (cs xs : List Value) (vb : Nat) (w : World) (hown : w.ownsRow base 42 6 v n cs) (hx : w.heap[vb]? = some (.cells xs.toArray 42 (0, 0))) (hxl : xs.length = 6) (h1x : ∀ u ∈ xs, u.oneCell' = true)
  (hl : (n + 1) * 72 ≤ 140737488355328) (hb : base ≤ w.heap.size) :
  Calls Try.prog 44 #[v, .int .i64 n, .slice (some ⟨vb, 0, none⟩) 1 1] w fun e w' => ∃ v1, e = .returned v1 ∧ w'.ownsRow base 42 6 v1 (n + 1) (cs ++ xs) ∧ w.grownBy w' v.ownBlock ∧ (v1.ownBlock = v.ownBlock ∨ v1.ownBlock = some w.heap.size) := by
 obtain ⟨i0, hi0, hz⟩ : ∃ i0, Try.prog.info? 42 = some i0 ∧ i0.zero = some (.agg #[.string ⟨#[]⟩, .int .u64 0, .int .u64 0, .int .u64 0, .int .i64 0, .slice none 0 0]) ∧ i0.size = 6 ∧ i0.bytes = 72 := by
  have h : (Try.prog.info? 42).map (fun i => (i.zero, i.size, i.bytes)) = some (some (.agg #[.string ⟨#[]⟩, .int .u64 0, .int .u64 0, .int .u64 0, .int .i64 0, .slice none 0 0]), 6, 72) := by kernel_rfl
  obtain ⟨i0, h0, h1⟩ := Option.map_eq_some_iff.1 h;simp only [Prod.mk.injEq] at h1;exact ⟨i0, h0, h1⟩
 have hu := Try.underlying26
 have hnews : ∀ j u, xs[j]? = some u → w.cell? ((⟨vb, 0, none⟩ : Addr).add j) = some u := fun j u hj => by rw [add_at, Nat.zero_add, blk_cell hx]; simpa using hj
 have HO := am hown
 obtain ⟨A, c, rfl⟩ : ∃ A c, v = .slice A n c := by
  rcases hown.2 with ⟨rfl, rfl⟩ | ⟨g, cap, cur, rfl, _⟩
  ·exact ⟨_, _, rfl⟩
  ·exact ⟨_, _, rfl⟩
 have hc : n ≤ c := own_le hown;clear hown;have HI := am (And.intro hi0 hz);clear hi0 hz hx
 cases A with
 | none =>
  have h0 : n = 0 ∧ c = 0 := by
   rcases HO.out.2 with ⟨h, h2⟩ | ⟨g, cap, cur, h, _⟩
   ·injection h with _ _ h3; exact ⟨h2, h3⟩
   ·injection h with h _ _; cases h
  obtain ⟨rfl, rfl⟩ := h0;go_enter Try.func44, Try.ntmps44;go_wp2_with (at_builtin; refine wpList_append_own_at w rfl (.tmp 23) (.tmp 24) 26 rfl base 42 i0 _ 6 72 hu HI.out.1 HI.out.2.1 HI.out.2.2.1 HI.out.2.2.2 rfl (by decide) _ _ _ rfl HO.out ⟨vb, 0, none⟩ 1 1 xs rfl (by omega) hnews h1x (by unfold maxLen; omega) hl hb ?_; rintro v1 w1 ho1 hg1 _ hat1);go_ret;exact ⟨_, rfl, ho1, hg1, hat1⟩
 | some ad =>
  obtain ⟨g, rfl⟩ : ∃ g, ad = ⟨g, 0, none⟩ := by
   rcases HO.out.2 with ⟨h, _⟩ | ⟨g, cap, cur, h, _⟩
   ·injection h with h; cases h
   ·injection h with h; injection h with h; exact ⟨g, h⟩
  go_enter Try.func44, Try.ntmps44;go_wp2_with (at_builtin; refine wpList_append_own_at w rfl (.tmp 23) (.tmp 24) 26 rfl base 42 i0 _ 6 72 hu HI.out.1 HI.out.2.1 HI.out.2.2.1 HI.out.2.2.2 rfl (by decide) _ _ _ rfl HO.out ⟨vb, 0, none⟩ 1 1 xs rfl (by omega) hnews h1x (by unfold maxLen; omega) hl hb ?_; rintro v1 w1 ho1 hg1 _ hat1)
  all_goals (go_ret; exact ⟨_, rfl, ho1, hg1, hat1⟩)
theorem Insert_shiftL (base g i n c vb : Nat) (cs xs : List Value) (w : World) (hi : i < n) (hroom : n + 1 ≤ c) (hown : w.ownsRow base 42 6 (.slice (some ⟨g, 0, none⟩) n c) n cs) (hx : w.heap[vb]? = some (.cells xs.toArray 42 (0, 0))) (hxl : xs.length = 6) (h1c : ∀ u ∈ cs, u.oneCell' = true) (h1x : ∀ u ∈ xs, u.oneCell' = true) (hvb : vb ≠ g) (hb : base ≤ w.heap.size) :
  Calls Try.prog 44 #[.slice (some ⟨g, 0, none⟩) n c, .int .i64 i, .slice (some ⟨vb, 0, none⟩) 1 1] w fun e w' => e = .returned (.slice (some ⟨g, 0, none⟩) (n + 1) c) ∧ w'.ownsRow base 42 6 (.slice (some ⟨g, 0, none⟩) (n + 1) c) (n + 1) (cs.take (i * 6) ++ xs ++ cs.drop (i * 6)) ∧ Below base w w' ∧ (∀ k, k ≠ g → w'.heap[k]? = w.heap[k]?) := by
 have hu := Try.underlying26
 obtain ⟨cap, cur, hbg, hgc, hncap, hcm, hcs, htk, hcl⟩ : ∃ cap cur, base ≤ g ∧ w.heap[g]? = some (.cells cur 42 (0, 0)) ∧ n ≤ cap ∧ cap ≤ maxLen ∧ cur.size = cap * 6 ∧ cur.toList.take (n * 6) = cs ∧ cap = c := by
  rcases hown.2 with ⟨h, _⟩ | ⟨g', cap, cur, h, h1, h2, h3, h4, h5, h6⟩
  ·injection h with h; cases h
  ·injection h with h _ h7; injection h with h; injection h with h; subst h; exact ⟨cap, cur, h1, h2, h3, h4, h5, h6, h7.symm⟩
 subst hcl;have hcl : cs.length = n * 6 := hown.1
 have hov : ∀ lb cb, (callFunc 60 #[.slice (some ⟨vb, 0, none⟩) 1 1, .slice (some ⟨g, (i + 1) * 6, none⟩) lb cb]).run Try.prog w = .ok (.value (.bool false)) w := fun lb cb => by
  rw [run_callFunc_extern Try.func60 (by kernel_rfl) (by kernel_rfl) (by kernel_rfl) (e := Extern.SlicesOverlaps.overlaps #[26, 26] #[4]) (by kernel_rfl),
   Lib.run_overlaps_apart w 26 4 42 hu 6 (fun W => by
    obtain ⟨i0, h0, h1⟩ := Option.map_eq_some_iff.1 (show (Try.prog.info? 42).map (·.size) = some 6 by kernel_rfl)
    simp [Go.sizeOf, typeInfo, h0, h1]) ⟨vb, 0, none⟩ ⟨g, (i + 1) * 6, none⟩ 1 1 lb cb hvb 42 42 6 (cap * 6) (by simp [World.shape?, hx, hxl]) (by simp [World.shape?, hgc, hcs]) (by omega) (blk_frozen hx 0) (blk_frozen hx 6)]
  rfl
 have hsz : (Try.prog.info? 42).map (·.size) = some 6 := by kernel_rfl
 have hcs' : ∀ j v, cs[j]? = some v → cur[j]? = some v := fun j v hj => by
  rw [← htk, List.getElem?_take] at hj
  split at hj
  ·simpa using hj
  ·cases hj
 have hdl : (cs.drop (i * 6)).length = (n - i) * 6 := by rw [List.length_drop, hcl, Nat.sub_mul]
 have hcp1 : ∀ ty dc sc, (Builtin.copy_ #[26, 26] ty #[.slice (some ⟨g, (i + 1) * 6, none⟩) (n - i) dc, .slice (some ⟨g, i * 6, none⟩) (n + 1 - i) sc]).run Try.prog w.drew = .ok (goInt (Nat.min (n + 1 - i) (n - i))) (w.drew.setCells g ((i + 1) * 6) (cs.drop (i * 6))) := fun ty dc sc =>
  run_copyK w.drew 26 26 ty 42 6 g ((i + 1) * 6) (n - i) dc ⟨g, i * 6, none⟩ (n + 1 - i) sc (cs.drop (i * 6)) hu hsz
   (by rw [hdl]; congr 1; simp only [Nat.min_def]; split <;> omega)
   (fun j v hj => by
    rw [List.getElem?_drop] at hj;rw [add_at, blk_cell (blk_drew hgc)]
    exact hcs' _ v hj)
   (fun j hj => by
    rw [hdl] at hj
    rw [blk_cell (blk_drew hgc), Array.getElem?_eq_getElem (by rw [hcs]; omega)]; rfl)
   (fun j hj => blk_frozen (blk_drew hgc) _) (fun v hv => h1c v (List.mem_of_mem_drop hv))
 obtain ⟨cur1, hg1, hs1, hl1⟩ := setCells_blk g 42 (cs.drop (i * 6)) ((i + 1) * 6) w.drew cur (blk_drew hgc) (by rw [hdl, hcs]; omega)
 have hx1 : (w.drew.setCells g ((i + 1) * 6) (cs.drop (i * 6))).heap[vb]? = some (.cells xs.toArray 42 (0, 0)) := by rw [setCells_heap g _ _ _ vb hvb]; exact hx
 have HF : Aside0 (World.ownsRow ((w.drew.setCells g ((i + 1) * 6) (cs.drop (i * 6))).setCells g (i * 6) xs) base 42 6 (.slice (some ⟨g, 0, none⟩) (n + 1) cap) (n + 1) (cs.take (i * 6) ++ xs ++ cs.drop (i * 6))) := ⟨by
  obtain ⟨cur2, hg2, hs2, hl2⟩ := setCells_blk g 42 xs (i * 6) _ cur1 hg1 (by rw [hxl, hs1, hcs]; omega);refine ⟨by simp only [List.length_append, List.length_take, List.length_drop, hxl, hcl]; omega, .inr ⟨g, cap, cur2, rfl, hbg, hg2, hroom, hcm, by rw [hs2, hs1, hcs], ?_⟩⟩
  exact shift_list cur.toList cs xs 6 i n hi htk (by rw [Array.length_toList, hcs]; omega) hxl cur1.toList cur2.toList hl1 hl2⟩
 obtain ⟨W1, hW1⟩ : ∃ W1, W1 = w.drew.setCells g ((i + 1) * 6) (cs.drop (i * 6)) := ⟨_, rfl⟩;rw [← hW1] at hcp1 hg1 hx1
 have hcp2 : ∀ (W : World), W.heap = W1.heap → ∀ ty dc, (Builtin.copy_ #[26, 26] ty #[.slice (some ⟨g, i * 6, none⟩) (n + 1 - i) dc, .slice (some ⟨vb, 0, none⟩) 1 1]).run Try.prog W = .ok (goInt (Nat.min 1 (n + 1 - i))) (W.setCells g (i * 6) xs) := fun W hW ty dc => by
  have hgW : W.heap[g]? = some (.cells cur1 42 (0, 0)) := by rw [hW]; exact hg1
  have hxW : W.heap[vb]? = some (.cells xs.toArray 42 (0, 0)) := by rw [hW]; exact hx1
  exact run_copyK W 26 26 ty 42 6 g (i * 6) (n + 1 - i) dc ⟨vb, 0, none⟩ 1 1 xs hu hsz (by rw [hxl]; simp only [Nat.min_def]; split <;> omega)
   (fun j v hj => by rw [add_at, Nat.zero_add, blk_cell hxW]; simpa using hj)
   (fun j hj => by rw [blk_cell hgW, Array.getElem?_eq_getElem (by rw [hs1, hcs]; omega)]; rfl)
   (fun j hj => blk_frozen hgW _) h1x
 have HX := am hx;have HG := am hgc;have HG1 := am hg1;have HO := am hown;clear hx hgc hown hg1 hx1
 have hz2 : ¬ ((i : Int) = (n : Int)) := by omega
 have hb1 : (0 : Int) ≤ (i : Int) + 1 := by omega
 have htn : ((i : Int) + 1).toNat = i + 1 := by omega
 have hin : i ≤ n := by omega
 have hb2 : ¬ (cap = i + 1) := by omega
 have hb3 : (i : Int) ≤ (n : Int) + 1 := by omega
 have hb4 : ¬ (cap = i) := by omega
 have hc63 : cap ≤ 9223372036854775807 := by unfold maxLen at hcm; omega
 clear hcm;go_enter Try.func44, Try.ntmps44;go_wp2_with (simp only [hov])
 have hw1 : IntKind.i64.wrap ((i : Int) + 1) = (i : Int) + 1 := by rw [IntKind.wrap_i64]; omega
 go_region_law (refine copy_step rfl _ _ 26 26 rfl _ _ (by simp [Act.eval, Act.put]) (by simp [Act.eval, Act.put]) (hcp1 _ _ _) ?_)
 go_wp2_with (at_builtin; refine copy_list _ rfl _ _ 26 26 rfl _ _ rfl rfl (hcp2 _ rfl _ _) ?_);go_ret;exact ⟨rfl, HF.out, setCells_below g hbg _ _ _ (setCells_below g hbg _ _ _ (below_drew1 (Below.refl _ _))), fun k hk => by rw [setCells_heap g _ _ _ k hk, setCells_heap g _ _ _ k hk]; rfl⟩
theorem Insert_growL (base g i n cap vb : Nat) (cs xs : List Value) (w : World) (hi : i < n) (hroom : cap < n + 1) (hown : w.ownsRow base 42 6 (.slice (some ⟨g, 0, none⟩) n cap) n cs) (hx : w.heap[vb]? = some (.cells xs.toArray 42 (0, 0))) (hxl : xs.length = 6) (h1c : ∀ u ∈ cs, u.oneCell' = true) (h1x : ∀ u ∈ xs, u.oneCell' = true) (hb : base ≤ w.heap.size) (hl : (n + 1) * 72 ≤ 140737488355328) :
  Calls Try.prog 44 #[.slice (some ⟨g, 0, none⟩) n cap, .int .i64 i, .slice (some ⟨vb, 0, none⟩) 1 1] w fun e w' => ∃ G, e = .returned (.slice (some ⟨w.heap.size, 0, none⟩) (n + 1) G) ∧ w'.ownsRow base 42 6 (.slice (some ⟨w.heap.size, 0, none⟩) (n + 1) G) (n + 1) (cs.take (i * 6) ++ xs ++ cs.drop (i * 6)) ∧ Below w.heap.size w w' := by
 have hu := Try.underlying26;have hu3 := Try.underlying3
 obtain ⟨i0, hi0, hz0, hzs, hzb⟩ : ∃ i0, Try.prog.info? 42 = some i0 ∧ i0.zero = some (.agg #[.string ⟨#[]⟩, .int .u64 0, .int .u64 0, .int .u64 0, .int .i64 0, .slice none 0 0]) ∧ i0.size = 6 ∧ i0.bytes = 72 := by
  have h : (Try.prog.info? 42).map (fun i => (i.zero, i.size, i.bytes)) = some (some (.agg #[.string ⟨#[]⟩, .int .u64 0, .int .u64 0, .int .u64 0, .int .i64 0, .slice none 0 0]), 6, 72) := by kernel_rfl
  obtain ⟨i0, h0, h1⟩ := Option.map_eq_some_iff.1 h;simp only [Prod.mk.injEq] at h1;exact ⟨i0, h0, h1⟩
 obtain ⟨cur, hbg, hgc, hncap, hcm, hcs, htk⟩ : ∃ cur, base ≤ g ∧ w.heap[g]? = some (.cells cur 42 (0, 0)) ∧ n ≤ cap ∧ cap ≤ maxLen ∧ cur.size = cap * 6 ∧ cur.toList.take (n * 6) = cs := by
  rcases hown.2 with ⟨h, _⟩ | ⟨g', cap', cur, h, h1, h2, h3, h4, h5, h6⟩
  ·injection h with h; cases h
  ·injection h with h _ h7; injection h with h; injection h with h; subst h; subst h7; exact ⟨cur, h1, h2, h3, h4, h5, h6⟩
 have hcl : cs.length = n * 6 := hown.1
 have hcs' : ∀ j v, cs[j]? = some v → cur[j]? = some v := fun j v hj => by
  rw [← htk, List.getElem?_take] at hj
  split at hj
  ·simpa using hj
  ·cases hj
 have hsz : (Try.prog.info? 42).map (·.size) = some 6 := by rw [hi0]; simp [hzs]
 have hold : (Builtin.firstCells i0.size i (.slice (some ⟨g, 0, none⟩) i cap)).run Try.prog w.drew = .ok (cs.take (i * 6)).toArray w.drew := by
  rw [hzs]
  exact run_firstCells_some w.drew 6 i ⟨g, 0, none⟩ i cap (cs.take (i * 6)) (by rw [List.length_take]; omega) (fun j v hj => by
   rw [List.getElem?_take] at hj
   split at hj
   ·rw [add_at, Nat.zero_add, blk_cell (blk_drew hgc)]; exact hcs' _ v hj
   ·cases hj)
 have hkk : (n : Int) + 1 - (i : Int) = ((n + 1 - i : Nat) : Int) := by omega
 have hik : i + (n + 1 - i) = n + 1 := by omega
 have hrz : ∀ ty, (Builtin.append_ #[26, 3] ty #[.slice (some ⟨g, 0, none⟩) i cap, .int .i64 ((n : Int) + 1 - (i : Int))]).run Try.prog w = .ok (.slice (some ⟨w.heap.size, 0, none⟩) (n + 1) (grownCap w (n + 1) cap 42)) (w.drew.alloc (.cells ((cs.take (i * 6)).toArray ++ Builtin.zeroCells (Value.cells (.agg #[.string ⟨#[]⟩, .int .u64 0, .int .u64 0, .int .u64 0, .int .i64 0, .slice none 0 0])) (n + 1 - i) ++ Builtin.zeroCells (Value.cells (.agg #[.string ⟨#[]⟩, .int .u64 0, .int .u64 0, .int .u64 0, .int .i64 0, .slice none 0 0])) (grownCap w (n + 1) cap 42 - (n + 1))) 42)) := fun ty => by
  have h := Lib.run_append_grow_zeros w 26 3 ty 42 i0 _ .i64 .i64 hu hu3 hi0 hz0 (some ⟨g, 0, none⟩) i cap (cs.take (i * 6)) hold (n + 1 - i) (by omega) (by omega) (by omega) (by omega) (by rw [hzb]; omega) (by rw [hzb, hik]; exact growslice_fits hroom hl);rw [hik] at h;rw [hkk];exact h
 obtain ⟨G, hG⟩ : ∃ G, G = grownCap w (n + 1) cap 42 := ⟨_, rfl⟩;obtain ⟨ROW, hROW⟩ : ∃ ROW : Array Value, ROW = (cs.take (i * 6)).toArray ++ Builtin.zeroCells (Value.cells (.agg #[.string ⟨#[]⟩, .int .u64 0, .int .u64 0, .int .u64 0, .int .i64 0, .slice none 0 0])) (n + 1 - i) ++ Builtin.zeroCells (Value.cells (.agg #[.string ⟨#[]⟩, .int .u64 0, .int .u64 0, .int .u64 0, .int .i64 0, .slice none 0 0])) (G - (n + 1)) := ⟨_, rfl⟩
 have hGn : n + 1 ≤ G := by rw [hG]; exact grownCap_ge w _ _ _
 have hGm : G ≤ maxLen := by rw [hG]; exact grownCap_le_maxLen w (n + 1) cap 42 (by unfold maxLen; omega)
 rw [← hG, ← hROW] at hrz;have hcy : (Value.cells (.agg #[.string ⟨#[]⟩, .int .u64 0, .int .u64 0, .int .u64 0, .int .i64 0, .slice none 0 0])).size = 6 := rfl
 have htl : (cs.take (i * 6)).length = i * 6 := by rw [List.length_take]; omega
 have hRs : ROW.size = G * 6 := by
  rw [hROW, Array.size_append, Array.size_append, zeroCells_size, zeroCells_size, hcy, List.size_toArray, htl]
  omega
 have hRt : ROW.toList.take (i * 6) = cs.take (i * 6) := by
  rw [hROW, Array.toList_append, Array.toList_append, List.append_assoc];exact (congrArg (fun q => List.take q _) htl.symm).trans (List.take_left ..)
 have hgw : g < w.heap.size := blk_lt hgc;have hvw : vb < w.heap.size := blk_lt hx;obtain ⟨W1, hW1⟩ : ∃ W1, W1 = w.drew.alloc (.cells ROW 42) := ⟨_, rfl⟩
 have hN : W1.heap[w.heap.size]? = some (.cells ROW 42 (0, 0)) := by rw [hW1]; exact blk_new w.drew _
 have hg1 : W1.heap[g]? = some (.cells cur 42 (0, 0)) := by rw [hW1]; exact blk_alloc (blk_drew hgc) _
 have hx1 : W1.heap[vb]? = some (.cells xs.toArray 42 (0, 0)) := by rw [hW1]; exact blk_alloc (blk_drew hx) _
 have hB1 : Below w.heap.size w W1 := by rw [hW1]; exact below_alloc (below_drew1 (Below.refl _ _)) _
 have hdl : (cs.drop (i * 6)).length = (n - i) * 6 := by rw [List.length_drop, hcl, Nat.sub_mul]
 obtain ⟨cur1, hN1, hs1, hl1⟩ := setCells_blk w.heap.size 42 xs (i * 6) W1 ROW hN (by rw [hxl, hRs]; omega);obtain ⟨cur2, hN2, hs2, hl2⟩ := setCells_blk w.heap.size 42 (cs.drop (i * 6)) ((i + 1) * 6) _ cur1 hN1 (by rw [hdl, hs1, hRs]; omega)
 have hg2 : (W1.setCells w.heap.size (i * 6) xs).heap[g]? = some (.cells cur 42 (0, 0)) := by rw [setCells_heap _ _ _ _ g (by omega)]; exact hg1
 have hcpA : ∀ (W : World), W.heap = W1.heap → ∀ ty dc, (Builtin.copy_ #[26, 26] ty #[.slice (some ⟨w.heap.size, i * 6, none⟩) (n + 1 - i) dc, .slice (some ⟨vb, 0, none⟩) 1 1]).run Try.prog W = .ok (goInt (Nat.min 1 (n + 1 - i))) (W.setCells w.heap.size (i * 6) xs) := fun W hW ty dc => by
  have hgW : W.heap[w.heap.size]? = some (.cells ROW 42 (0, 0)) := by rw [hW]; exact hN
  have hxW : W.heap[vb]? = some (.cells xs.toArray 42 (0, 0)) := by rw [hW]; exact hx1
  exact run_copyK W 26 26 ty 42 6 w.heap.size (i * 6) (n + 1 - i) dc ⟨vb, 0, none⟩ 1 1 xs hu hsz (by rw [hxl]; simp only [Nat.min_def]; split <;> omega)
   (fun j v hj => by rw [add_at, Nat.zero_add, blk_cell hxW]; simpa using hj)
   (fun j hj => by rw [blk_cell hgW, Array.getElem?_eq_getElem (by rw [hRs]; omega)]; rfl)
   (fun j hj => blk_frozen hgW _) h1x
 have hcpB : ∀ (W : World), W.heap = (W1.setCells w.heap.size (i * 6) xs).heap → ∀ ty dc sc, (Builtin.copy_ #[26, 26] ty #[.slice (some ⟨w.heap.size, (i + 1) * 6, none⟩) (n - i) dc, .slice (some ⟨g, i * 6, none⟩) (n - i) sc]).run Try.prog W = .ok (goInt (Nat.min (n - i) (n - i))) (W.setCells w.heap.size ((i + 1) * 6) (cs.drop (i * 6))) := fun W hW ty dc sc => by
  have hNW : W.heap[w.heap.size]? = some (.cells cur1 42 (0, 0)) := by rw [hW]; exact hN1
  have hgW : W.heap[g]? = some (.cells cur 42 (0, 0)) := by rw [hW]; exact hg2
  exact run_copyK W 26 26 ty 42 6 w.heap.size ((i + 1) * 6) (n - i) dc ⟨g, i * 6, none⟩ (n - i) sc (cs.drop (i * 6)) hu hsz
   (by rw [hdl]; congr 1; simp only [Nat.min_def]; split <;> omega)
   (fun j v hj => by
    rw [List.getElem?_drop] at hj;rw [add_at, blk_cell hgW]
    exact hcs' _ v hj)
   (fun j hj => by
    rw [hdl] at hj
    rw [blk_cell hNW, Array.getElem?_eq_getElem (by rw [hs1, hRs]; omega)]; rfl)
   (fun j hj => blk_frozen hNW _) (fun v hv => h1c v (List.mem_of_mem_drop hv))
 have HF : Aside0 (World.ownsRow ((W1.setCells w.heap.size (i * 6) xs).setCells w.heap.size ((i + 1) * 6) (cs.drop (i * 6))) base 42 6 (.slice (some ⟨w.heap.size, 0, none⟩) (n + 1) G) (n + 1) (cs.take (i * 6) ++ xs ++ cs.drop (i * 6))) := ⟨by
  refine ⟨by simp only [List.length_append, List.length_take, List.length_drop, hxl, hcl]; omega, .inr ⟨w.heap.size, G, cur2, rfl, hb, hN2, hGn, hGm, by rw [hs2, hs1, hRs], ?_⟩⟩
  exact grow_list ROW.toList cs xs 6 i n hi hcl hRt (by rw [Array.length_toList, hRs]; omega) hxl cur1.toList cur2.toList hl1 hl2⟩
 have HB := am (setCells_below w.heap.size (Nat.le_refl _) (cs.drop (i * 6)) ((i + 1) * 6) _ (setCells_below w.heap.size (Nat.le_refl _) xs (i * 6) W1 hB1))
 have hz2 : ¬ ((i : Int) = (n : Int)) := by omega
 have hz3 : (cap : Int) < (n : Int) + 1 := by omega
 have hb1 : (0 : Int) ≤ (i : Int) + 1 := by omega
 have htn : ((i : Int) + 1).toNat = i + 1 := by omega
 have hin : i ≤ n := by omega
 have hGi : ¬ (G = i) := by omega
 have hGim : ¬ (G = i + 1) := by omega
 have hci : ¬ (cap = i) := by omega
 have hb3 : (i : Int) ≤ (n : Int) + 1 := by omega
 have hb5 : (i : Int) ≤ (n : Int) := by omega
 have hG63 : G ≤ 9223372036854775807 := by unfold maxLen at hGm; omega
 subst hW1;clear hcm hGm hkk hik hold hROW hG hRs hRt hN hg1 hx1 hN1 hN2 hl1 hl2 hs1 hs2 hg2 hB1 hgc hx hown hi0 hz0 hzs hzb hsz hcs' htl hcy
 have hA := fun ty dc => hcpA ((w.alloc (.cells ROW 42)).drew) rfl ty dc
 have hB := fun ty dc sc => hcpB (((w.alloc (.cells ROW 42)).drew.setCells w.heap.size (i * 6) xs).drew) rfl ty dc sc
 clear hcpA hcpB
 have hw1 : IntKind.i64.wrap ((i : Int) + 1) = (i : Int) + 1 := by rw [IntKind.wrap_i64]; omega
 go_enter Try.func44, Try.ntmps44;go_wp2_with (at_builtin; refine Lib.wpList_append_run _ rfl _ _ _ _ rfl _ _ rfl rfl _ _ (hrz _) ?_)
 go_region_law fail
 go_wp2;go_ret;rw [← setCells_drew];exact ⟨G, rfl, HF.out, HB.out.drew⟩
theorem Insert_callsL (base : Nat) (v : Value) (n i : Nat) (cs xs : List Value) (vb : Nat) (w : World) (hi : i ≤ n) (hown : w.ownsRow base 42 6 v n cs) (hx : w.heap[vb]? = some (.cells xs.toArray 42 (0, 0))) (hxl : xs.length = 6) (h1c : ∀ u ∈ cs, u.oneCell' = true) (h1x : ∀ u ∈ xs, u.oneCell' = true) (hvb : v.ownBlock ≠ some vb) (hb : base ≤ w.heap.size) (hl : (n + 1) * 72 ≤ 140737488355328) :
  Calls Try.prog 44 #[v, .int .i64 i, .slice (some ⟨vb, 0, none⟩) 1 1] w fun e w' => ∃ v1, e = .returned v1 ∧ w'.ownsRow base 42 6 v1 (n + 1) (cs.take (i * 6) ++ xs ++ cs.drop (i * 6)) ∧ Below base w w' ∧ (∀ k, k < w.heap.size → some k ≠ v.ownBlock → w'.heap[k]? = w.heap[k]?) ∧ (v1.ownBlock = v.ownBlock ∨ ∃ b, v1.ownBlock = some b ∧ w.heap.size ≤ b) := by
 rcases Nat.lt_or_ge i n with hin | hin
 ·obtain ⟨g, cap, cur, rfl, hbg, hgc, _⟩ : ∃ g cap cur, v = .slice (some ⟨g, 0, none⟩) n cap ∧ base ≤ g ∧ w.heap[g]? = some (.cells cur 42 (0, 0)) ∧ n ≤ cap := by
   rcases hown.2 with ⟨_, h⟩ | ⟨g, cap, cur, h, h1, h2, h3, _⟩
   ·omega
   ·exact ⟨g, cap, cur, h, h1, h2, h3⟩
  have hvg : vb ≠ g := fun he => hvb (by rw [he]; rfl)
  rcases Nat.lt_or_ge cap (n + 1) with hc | hc
  ·refine (Insert_growL base g i n cap vb cs xs w hin hc hown hx hxl h1c h1x hb hl).mono ?_;rintro e w' ⟨G, rfl, ho, hB⟩;exact ⟨_, rfl, ho, hB.mono hb, fun k hk _ => hB.block k hk, .inr ⟨_, rfl, Nat.le_refl _⟩⟩
  ·refine (Insert_shiftL base g i n cap vb cs xs w hin hc hown hx hxl h1c h1x hvg hb).mono ?_;rintro e w' ⟨rfl, ho, hB, hk⟩;exact ⟨_, rfl, ho, hB, fun k _ hk' => hk k (fun he => hk' (by rw [he]; rfl)), .inl rfl⟩
 ·obtain rfl : i = n := by omega
  refine (Insert_endL base v i cs xs vb w hown hx hxl h1x hl hb).mono ?_;rintro e w' ⟨v1, rfl, ho, hg, ha⟩;refine ⟨v1, rfl, by rw [← hown.1, List.take_length, List.drop_length, List.append_nil]; exact ho, (Below.refl base w).grown hg hb (own_base hown), fun k hk hk' => hg.block k hk hk', ?_⟩
  rcases ha with ha | ha
  ·exact .inl ha
  ·exact .inr ⟨_, ha, Nat.le_refl _⟩
theorem ins_get {α : Type} (l : List α) (x : α) (i : Nat) (hi : i ≤ l.length) (j : Nat) : (l.take i ++ [x] ++ l.drop i)[j]? = if j < i then l[j]? else if j = i then some x else l[j - 1]? := by
 have ht : (l.take i).length = i := by rw [List.length_take]; omega
 rw [List.append_assoc]
 split
 ·rename_i h
  rw [List.getElem?_append_left (by omega), List.getElem?_take_of_lt h]
 ·rename_i h
  rw [List.getElem?_append_right (by omega), ht]
  split
  ·rename_i h2
   subst h2
   simp
  ·rename_i h2
   rw [show j - i = (j - i - 1) + 1 by omega, List.singleton_append, List.getElem?_cons_succ, List.getElem?_drop]
   congr 1
   omega
theorem ins_len {α : Type} (l : List α) (x : α) (i : Nat) (hi : i ≤ l.length) : (l.take i ++ [x] ++ l.drop i).length = l.length + 1 := by
 simp only [List.length_append, List.length_take, List.length_drop, List.length_singleton]; omega
theorem reps_ins {R : List Value → List Value → Prop} {sz : Nat} {rows : List (List Value)} {inner cs : List Value} (i : Nat) (hi : i ≤ rows.length) (h : Reps R sz rows inner) (hc : R cs cs) (hcl : cs.length = sz) :
  Reps R sz (rows.take i ++ [cs] ++ rows.drop i) (inner.take (i * sz) ++ cs ++ inner.drop (i * sz)) := by
 have hn : inner.length = rows.length * sz := h.1;have hik : i * sz ≤ rows.length * sz := Nat.mul_le_mul_right _ hi
 have htl : (inner.take (i * sz)).length = i * sz := by rw [List.length_take]; omega
 refine ⟨by rw [ins_len _ _ _ hi]; simp only [List.length_append, List.length_take, List.length_drop, hcl]; rw [Nat.succ_mul]; omega, fun j x hj => ?_⟩;rw [ins_get _ _ _ hi] at hj;rw [List.append_assoc]
 split at hj
 ·rename_i hlt
  have h2 := h.2 j x hj
  have hm : j * sz + sz ≤ i * sz := by have := Nat.mul_le_mul_right sz (show j + 1 ≤ i from hlt); rwa [Nat.succ_mul] at this
  rw [List.drop_append_of_le_length (by omega), List.take_append_of_le_length (by rw [List.length_drop]; omega), List.drop_take, List.take_take, show min sz (i * sz - j * sz) = sz by omega];exact h2
 ·split at hj
  ·rename_i he
   subst he;injection hj with hj;subst hj
   have e1 : (inner.take (j * sz) ++ (cs ++ inner.drop (j * sz))).drop (j * sz) = cs ++ inner.drop (j * sz) := by
    have := List.drop_left (l₁ := inner.take (j * sz)) (l₂ := cs ++ inner.drop (j * sz));rwa [htl] at this
   rw [e1, ← hcl, List.take_left];exact hc
  ·rename_i h1 h2
   have h3 := h.2 (j - 1) x hj
   have e0 : j * sz = i * sz + (sz + (j - 1 - i) * sz) := by
    rw [show j = i + (1 + (j - 1 - i)) by omega, Nat.add_mul, Nat.add_mul, Nat.one_mul]
    congr 3
    omega
   have e1 : (inner.take (i * sz) ++ (cs ++ inner.drop (i * sz))).drop (j * sz) = inner.drop ((j - 1) * sz) := by
    have hd := List.drop_left (l₁ := inner.take (i * sz)) (l₂ := cs ++ inner.drop (i * sz));rw [htl] at hd;have hd2 := List.drop_left (l₁ := cs) (l₂ := inner.drop (i * sz));rw [hcl] at hd2;rw [e0, ← List.drop_drop, hd, ← List.drop_drop, hd2, List.drop_drop]
    congr 1
    rw [← Nat.add_mul]
    congr 1
    omega
   rw [e1];exact h3
theorem N_inserted {α : Type} {d : Kd α} {e base : Nat} {ok okp : Nat → Prop} {W w1 : World} {v v1 : Value} {xs : List α} {x : α} {rows : List (List Value)} {inner cs : List Value} (i : Nat) (hi : i ≤ xs.length)
  (h0 : ∀ k, v.ownBlock = some k → ok k) (hl : rows.length = xs.length) (hr : Reps ((Kd.raw d.sz).M W base (fun k => some k = v.ownBlock ∧ some k ≠ v.ownBlock)) d.sz rows inner) (hf : ∀ (j : Nat) (x : α) (c : List Value), xs[j]? = some x → rows[j]? = some c → Kd.FK d W (fun k => ok k ∧ some k ≠ v.ownBlock) x c)
  (hp : Kd.FK d W okp x cs) (hokp : ∀ k, okp k → ok k ∧ some k ≠ v.ownBlock) (hfresh : ∀ k, W.heap.size ≤ k → ok k)
  (ho : w1.ownsRow base e d.sz v1 (xs.length + 1) (inner.take (i * d.sz) ++ cs ++ inner.drop (i * d.sz)))
  (hk : ∀ k, k < W.heap.size → some k ≠ v.ownBlock → w1.heap[k]? = W.heap[k]?)
  (hat : v1.ownBlock = v.ownBlock ∨ ∃ b, v1.ownBlock = some b ∧ W.heap.size ≤ b) : Kd.N d e w1 base ok v1 (xs.take i ++ [x] ++ xs.drop i) := by
 have hne : ∀ k, some k ≠ v.ownBlock → k < W.heap.size → some k ≠ v1.ownBlock := by
  intro k hk hlt
  rcases hat with hat | ⟨b, hb, hle⟩
  ·rw [hat]; exact hk
  ·rw [hb];intro he;injection he with he
   omega
 have step : ∀ {x : α} {c : List Value} {o : Nat → Prop}, Kd.FK d W o x c → (∀ k, o k → ok k ∧ some k ≠ v.ownBlock) → Kd.FK d w1 (fun k => ok k ∧ some k ≠ v1.ownBlock) x c := by
  intro x c o hq ho;exact Kd.FK_mono (Kd.FK_step (Kd.FK_bound hq) (fun k hk' hlt => hk k hlt (ho k hk'.1).2)) (fun k hk => ⟨(ho k hk.1).1, hne k (ho k hk.1).2 hk.2⟩)
 have hcl := d.K_len (Kd.FK_now hp);refine ⟨fun k hk => ?_, rows.take i ++ [cs] ++ rows.drop i, by rw [ins_len _ _ _ (by omega), ins_len _ _ _ hi, hl], ⟨fun k hk => hk.symm, inner.take (i * d.sz) ++ cs ++ inner.drop (i * d.sz), by rw [ins_len _ _ _ (by omega), hl]; exact ho, reps_ins i (by omega) hr (Kd.FK_raw hp) hcl⟩, fun j y c hy hc => ?_⟩
 ·rcases hat with hat | ⟨b, hb, hle⟩
  ·exact h0 k (hat ▸ hk)
  ·rw [hb] at hk;injection hk with hk;exact hfresh k (by omega)
 ·rw [ins_get _ _ _ hi] at hy;rw [ins_get _ _ _ (by omega)] at hc
  split at hy
  ·rename_i h1
   rw [if_pos h1] at hc;exact step (hf j y c hy hc) (fun _ hk => hk)
  ·rename_i h1
   rw [if_neg h1] at hc
   split at hy
   ·rename_i h2
    rw [if_pos h2] at hc;injection hy with hy;injection hc with hc;subst hy hc;exact step hp hokp
   ·rename_i h2
    rw [if_neg h2] at hc;exact step (hf _ y c hy hc) (fun _ hk => hk)
theorem InsertL_N (base : Nat) (ok okp : Nat → Prop) (v : Value) (xs : List S42) (x : S42) (cs : List Value) (i vb : Nat) (w : World) (hi : i ≤ xs.length) (hN : Kd.N k42 42 w base ok v xs) (hp : Kd.FK k42 w okp x cs) (hokp : ∀ k, okp k → ok k ∧ some k ≠ v.ownBlock) (hfresh : ∀ k, w.heap.size ≤ k → ok k)
  (hx : w.heap[vb]? = some (.cells cs.toArray 42 (0, 0))) (hvb : v.ownBlock ≠ some vb) (hb : base ≤ w.heap.size) (hl : (xs.length + 1) * 72 ≤ 140737488355328) :
  Calls Try.prog 44 #[v, .int .i64 i, .slice (some ⟨vb, 0, none⟩) 1 1] w fun e w' => ∃ v1, e = .returned v1 ∧ Kd.N k42 42 w' base ok v1 (xs.take i ++ [x] ++ xs.drop i) ∧ Below base w w' ∧ (∀ k, k < w.heap.size → some k ≠ v.ownBlock → w'.heap[k]? = w.heap[k]?) := by
 obtain ⟨h0, rows, hrl, ⟨hv, inner, ho, hr⟩, hf⟩ := hN
 have h1c : ∀ u ∈ inner, u.oneCell' = true := by
  intro u hu;obtain ⟨j, hj, rfl⟩ := List.mem_iff_getElem.1 hu;have hn : inner.length = rows.length * 6 := hr.1
  have hjr : j / 6 < rows.length := by omega
  have h2 : ∀ u ∈ (inner.drop (j / 6 * 6)).take 6, u.oneCell' = true := (hr.2 (j / 6) _ (List.getElem?_eq_getElem hjr)).2.2;exact h2 _ (List.mem_of_getElem? (i := j % 6) (by rw [List.getElem?_take_of_lt (by omega), List.getElem?_drop, show j / 6 * 6 + j % 6 = j by omega]; exact List.getElem?_eq_getElem hj))
 refine (Insert_callsL base v xs.length i inner cs vb w hi (hrl ▸ ho) hx (k42.K_len (Kd.FK_now hp)) h1c (k42.K_one (Kd.FK_now hp)) hvb hb hl).mono ?_;rintro e w' ⟨v1, rfl, ho1, hB, hk, hat⟩;exact ⟨v1, rfl, N_inserted i hi h0 hrl hr hf hp hokp hfresh ho1 hk hat, hB, hk⟩

def s_put.cut (a0_0 a0_1 a0_2 a0_3 : Int) (m : List S42) : Option (Int × Int × Int × Int × List S42) :=
 if 0 ≤ min (m.length : Int) a0_2 then some (a0_0, a0_1, a0_2, a0_3, m.take (min (m.length : Int) a0_2).toNat) else none
def s_put.f (k : Nat) (a b c d : Int) (e : List S42) (g : ByteArray) (h i j l : Int) (m : List S87) : Option (Int × Int × Int × Int × List S42) :=
 (s_Label_42.f k e g h i j l m).bind fun q =>
  if q.2 = true then
   (if 0 ≤ q.1 ∧ q.1 < e.length then s_put.cut a b c d (e.set q.1.toNat ⟨g, h, ⟨⟨i, j⟩, l, m⟩⟩) else none)
  else (if 0 ≤ q.1 ∧ q.1 ≤ e.length then s_put.cut a b c d (e.take q.1.toNat ++ [⟨g, h, ⟨⟨i, j⟩, l, m⟩⟩] ++ e.drop q.1.toNat) else none)
theorem s_put.mono : ∀ a0 a1 a2 a3 a4 a5 a6 a7 a8 a9 a10 k, LeO (s_put.f k a0 a1 a2 a3 a4 a5 a6 a7 a8 a9 a10) (s_put.f (k + 1) a0 a1 a2 a3 a4 a5 a6 a7 a8 a9 a10) := by
 intro a0 a1 a2 a3 a4 a5 a6 a7 a8 a9 a10 k;exact LeO.bind (s_Label_42.mono _ _ _ _ _ _ _ k) (fun _ => LeO.refl _)
theorem V_takenL {α : Type} {d : Kd α} {e : Nat} {W : World} {base : Nat} {ok : Nat → Prop} {A : Option Addr} {c n : Nat} {xs : List α} (h : Kd.V d e W base ok (.slice A xs.length c) xs) (hn : n ≤ xs.length) : Kd.V d e W base ok (.slice A n c) (xs.take n) := by
 have hl : (xs.take n).length = n := by rw [List.length_take]; omega
 have h2 := Kd.V_mk (e := e) (base := base) (c := c) (by rw [hl]; exact Nat.le_trans hn (Kd.V_at h).2.1) (Kd.F_take (Kd.V_at h).2.2 hn);rwa [hl] at h2
theorem s_put.calls (k : Nat) (ad ae ac ai : Int) (ah : Nat → Prop) (au : Option Addr) (av : Nat) (aa : List S42) (aj : ByteArray) (ak an ao ap : Int) (af : Nat → Prop) (aq : Option Addr) (ar : Nat) (ag : List S87) (r1 r2 r3 r4 : Int) (r5 : List S42) (w : World) (aw : Kd.V k42 42 w w.heap.size (fun k_ => ah k_) (.slice au aa.length av) aa) (ax : Kd.V k87 87 w w.heap.size (fun k_ => af k_) (.slice aq ag.length ar) ag) (h : s_put.f k ad ae ac ai aa aj ak an ao ap ag = some (r1, r2, r3, r4, r5)) :
  Calls Try.prog 29 #[.agg #[.int .u64 ad, .int .u64 ae, .int .i64 ac, .int .i64 ai, .slice au aa.length av], .agg #[.string aj, .int .u64 ak, .int .u64 an, .int .u64 ao, .int .i64 ap, .slice aq ag.length ar]] w fun e w' => ∃ aA : Value, e = .returned (.agg #[.int .u64 r1, .int .u64 r2, .int .i64 r3, .int .i64 r4, aA]) ∧ Kd.V k42 42 w' w.heap.size (fun k_ => ((ah k_ ∨ af k_) ∨ w.heap.size ≤ k_)) aA r5 ∧ Below w.heap.size w w' := by
 have hu28 := Try.underlying28;have hu42 := Try.underlying42
 unfold s_put.f at h
 obtain ⟨q, hq, h⟩ := Option.bind_eq_some_iff.1 h;obtain ⟨i, found⟩ := q
 have hlen : aa.length < 1000000 := by
  unfold s_Label_42.f at hq
  split at hq
  ·assumption
  ·cases hq
 have HQ := am hq;have HH := am h;clear hq h;have HV := am (Kd.V_bound aw);have HX := am (Kd.V_bound ax);clear aw ax;go_enter Try.func29, Try.ntmps29;go_wp2_with fail;refine (s_Label_42.calls k au av aa aj ak an ao ap aq ar ag i found _ (Kd.C_below (Kd.V_reads' HV.out).2.2 (by repeat (first | exact Below.refl _ _ | apply below_alloc))) (Kd.V_reads' HV.out).2.1 (Kd.C_below (Kd.V_reads' HX.out).2.2 (by repeat (first | exact Below.refl _ _ | apply below_alloc))) (Kd.V_reads' HX.out).2.1 HQ.out).mono ?_;rintro e w1 ⟨rfl, hb1⟩;have B0 := am (blk_below (g := w.heap.size) (o := .cells #[.int .u64 ad, .int .u64 ae, .int .i64 ac, .int .i64 ai, .slice au aa.length av] 28 (0, 0)) (blk_alloc (blk_alloc (blk_new _ _) _) _) hb1);have B1 := am (blk_below (g := w.heap.size + 1) (o := .cells #[.string aj, .int .u64 ak, .int .u64 an, .int .u64 ao, .int .i64 ap, .slice aq ag.length ar] 42 (0, 0)) (blk_alloc (blk_newAt3 _ _ (by simp)) _) hb1);have B2 := am (blk_below (g := w.heap.size + 1 + 1) (o := .cells #[.int .u64 0, .int .u64 0, .int .i64 0, .int .i64 0, .slice none 0 0] 28 (0, 0)) (blk_newAt3 _ _ (by simp)) hb1);have HB := am (below_step (w := w) (by repeat (first | exact Below.refl _ _ | apply below_alloc)) hb1)
 have ay : w.heap.size + 1 + 1 + 1 ≤ w1.heap.size := by have := hb1.size; simpa using this
 have HV1 := am (Kd.V_below HV.out HB.out);have aB := am (Kd.V_below HX.out HB.out);clear hb1 HV HX HQ;have s0 := blk_cell B0.out 0;have s1 := blk_cell B0.out 1;have s2 := blk_cell B0.out 2;have s3 := blk_cell B0.out 3;have s4 := blk_cell B0.out 4;go_wp2_with fail;refine (CloneL_calls _ au av aa w1 (Kd.V_F HV1.out) (Kd.V_reads' HV1.out).2.1 hlen).mono ?_;rintro e w2 ⟨v0, rfl, HR, hb2⟩;have aC : w.heap.size + 1 + 1 + 1 ≤ w2.heap.size := Nat.le_trans ay hb2.size;have C0 := am (blk_below B0.out hb2);have C1 := am (blk_below B1.out hb2);have C2 := am (blk_below B2.out hb2);have HB2 := am (below_step HB.out hb2);have az := am (Kd.V_below aB.out hb2);have HN2 := am (Kd.N_lower (Kd.N_mono (Kd.N_bound HR) (ok' := fun k_ => (ah k_ ∧ k_ < w.heap.size) ∨ w.heap.size + 1 + 1 + 1 ≤ k_) (fun k_ hk => by rcases hk.1 with hk | hk; exact .inl hk; exact .inr (by omega))) ay);clear HR hb2 ay B0 B1 B2 HB HV1 aB s0 s1 s2 s3 s4;obtain ⟨A1, c1, rfl⟩ := Kd.N_slice HN2.out;have aD := (Kd.N_reads' HN2.out).2.1;have HXF := am (k42_mkF w2 (fun k_ => af k_ ∧ k_ < w.heap.size) (⟨aj, ak, ⟨⟨an, ao⟩, ap, ag⟩⟩ : S42) (Kd.V_reads' az.out).2.1 (Kd.V_F az.out));clear az;have x0 := blk_cell C1.out 0;have x1 := blk_cell C1.out 1;have x2 := blk_cell C1.out 2;have x3 := blk_cell C1.out 3;have x4 := blk_cell C1.out 4;have x5 := blk_cell C1.out 5
 cases found with
 | false =>
  have h := HH.out;clear HH;rw [if_neg (by decide)] at h
  split at h
  case isFalse => cases h
  case isTrue hi =>
  obtain ⟨j, rfl⟩ := Int.eq_ofNat_of_zero_le hi.1
  have hj : j ≤ aa.length := by have := hi.2; omega
  clear hi;rw [Int.toNat_natCast] at h
  unfold s_put.cut at h
  split at h
  case isFalse => cases h
  case isTrue hm =>
  simp only [Option.some.injEq, Prod.mk.injEq] at h;obtain ⟨rfl, rfl, rfl, rfl, h4⟩ := h;have H4 := am h4;have HM := am hm;clear h4 hm;go_wp2_with fail;have hlt := Kd.N_lt HN2.out;have hbs := Kd.N_base HN2.out;refine (InsertL_N (w.heap.size + 1 + 1 + 1) (fun k_ => (ah k_ ∧ k_ < w.heap.size) ∨ (af k_ ∧ k_ < w.heap.size) ∨ w.heap.size + 1 + 1 + 1 ≤ k_) (fun k_ => af k_ ∧ k_ < w.heap.size) (.slice A1 aa.length c1) aa ⟨aj, ak, ⟨⟨an, ao⟩, ap, ag⟩⟩ [.string aj, .int .u64 ak, .int .u64 an, .int .u64 ao, .int .i64 ap, .slice aq ag.length ar] j w2.heap.size _ hj (Kd.N_alloc (Kd.N_mono HN2.out (fun k_ hk => hk.elim .inl (fun h => .inr (.inr h)))) _) (Kd.FK_below HXF.out (below_alloc (Below.refl _ _) _)) (fun k_ hk => ⟨.inr (.inl hk), fun he => by have := hbs _ he.symm; omega⟩) (fun k_ hk => .inr (.inr (by simp at hk; omega))) (blk_new _ _) (fun he => Nat.lt_irrefl _ (hlt _ he)) (by simp <;> omega) (by omega)).mono ?_;rintro e w3 ⟨v1, rfl, HN, hB3, hk3⟩;have hml : (aa.take j ++ [(⟨aj, ak, ⟨⟨an, ao⟩, ap, ag⟩⟩ : S42)] ++ aa.drop j).length = aa.length + 1 := ins_len _ _ _ hj;obtain ⟨m, hm⟩ : ∃ m, m = aa.take j ++ [(⟨aj, ak, ⟨⟨an, ao⟩, ap, ag⟩⟩ : S42)] ++ aa.drop j := ⟨_, rfl⟩;rw [← hm] at HN hml H4 HM;have HN3 := am HN;have E0 := am ((hk3 w.heap.size (by simp <;> omega) (fun he => by have := hbs _ he.symm; omega)).trans (blk_alloc C0.out _));have E2 := am ((hk3 (w.heap.size + 1 + 1) (by simp <;> omega) (fun he => by have := hbs _ he.symm; omega)).trans (blk_alloc C2.out _));have HB3 := am ((HB2.out.alloc (by omega) _).trans (hB3.mono (by omega)));clear hm HN hk3 hB3 hlt hbs C0 C1 C2 HB2 HN2 HXF x0 x1 x2 x3 x4 x5;obtain ⟨A2, c2, rfl⟩ := Kd.N_slice HN3.out;have aE := (Kd.N_reads' HN3.out).2.1;have s0 := blk_cell E0.out 0;have s1 := blk_cell E0.out 1;have s2 := blk_cell E0.out 2;have s3 := blk_cell E0.out 3;have s4 := blk_cell E0.out 4;have z4 := blk_frozen E0.out 4;have t0 := blk_cell E2.out 0;have y0 := blk_frozen E2.out 0;have t1 := blk_cell E2.out 1;have y1 := blk_frozen E2.out 1;have t2 := blk_cell E2.out 2;have y2 := blk_frozen E2.out 2;have t3 := blk_cell E2.out 3;have y3 := blk_frozen E2.out 3;have t4 := blk_cell E2.out 4;have y4 := blk_frozen E2.out 4;have hm0 := HM.out
  have HF : Aside0 (∀ mm : Nat, mm = (min (m.length : Int) ac).toNat → ∀ W : World, W = (((((w3.setCell ⟨w.heap.size, 4, none⟩ (.slice A2 mm c2)).setCell ⟨w.heap.size + 1 + 1, 0, none⟩ (.int .u64 ad)).setCell ⟨w.heap.size + 1 + 1, 1, none⟩ (.int .u64 ae)).setCell ⟨w.heap.size + 1 + 1, 2, none⟩ (.int .i64 ac)).setCell ⟨w.heap.size + 1 + 1, 3, none⟩ (.int .i64 ai)).setCell ⟨w.heap.size + 1 + 1, 4, none⟩ (.slice A2 mm c2) →
    W.heap[w.heap.size + 1 + 1]? = some (.cells #[.int .u64 ad, .int .u64 ae, .int .i64 ac, .int .i64 ai, .slice A2 mm c2] 28 (0, 0)) ∧ Kd.V k42 42 W w.heap.size (fun k_ => ((ah k_ ∨ af k_) ∨ w.heap.size ≤ k_)) (.slice A2 mm c2) r5 ∧ Below w.heap.size w W) := ⟨fun mm hmm W hW => by
   subst hW
   have hml2 : mm ≤ m.length := by omega
   have hV : Kd.V k42 42 w3 w.heap.size (fun k_ => (ah k_ ∧ k_ < w.heap.size) ∨ (af k_ ∧ k_ < w.heap.size) ∨ w.heap.size + 1 + 1 + 1 ≤ k_) (.slice A2 m.length c2) m := Kd.N_V HN3.out;have h4 := H4.out;rw [← hmm] at h4;subst h4;refine ⟨blk_put (blk_put (blk_put (blk_put (blk_put (cs' := #[.int .u64 ad, .int .u64 0, .int .i64 0, .int .i64 0, .slice none 0 0]) (blk_far E2.out (by simp <;> omega) _) 0 _ rfl) (cs' := #[.int .u64 ad, .int .u64 ae, .int .i64 0, .int .i64 0, .slice none 0 0]) 1 _ rfl) (cs' := #[.int .u64 ad, .int .u64 ae, .int .i64 ac, .int .i64 0, .slice none 0 0]) 2 _ rfl) (cs' := #[.int .u64 ad, .int .u64 ae, .int .i64 ac, .int .i64 ai, .slice none 0 0]) 3 _ rfl) 4 _ rfl, ?_, below_set (below_set (below_set (below_set (below_set (below_set HB3.out (Nat.le_refl _)) (by omega)) (by omega)) (by omega)) (by omega)) (by omega)⟩;refine Kd.V_mono (ok := fun k_ => (ah k_ ∧ k_ < w.heap.size) ∨ (af k_ ∧ k_ < w.heap.size) ∨ w.heap.size + 1 + 1 + 1 ≤ k_) (V_takenL ?_ hml2) (fun k_ hk => by rcases hk with hk | hk | hk; exact .inl (.inl hk.1); exact .inl (.inr hk.1); exact .inr (by omega))
   refine Kd.V_far (Kd.V_far (Kd.V_far (Kd.V_far (Kd.V_far (Kd.V_far hV ?_ _) ?_ _) ?_ _) ?_ _) ?_ _) ?_ _ <;> (intro k_ hk; simp only [ne_eq]; rcases hk with hk | hk | hk <;> first | omega | (have := hk.2; omega))⟩
  go_wp2_with fail
  case inl =>
   obtain ⟨f1, f2, f3⟩ := HF.out ac.toNat (by omega) _ rfl;refine bodyPost_ret (v := .agg #[.int .u64 ad, .int .u64 ae, .int .i64 ac, .int .i64 ai, .slice A2 ac.toNat c2]) ?_ rfl ⟨.slice A2 ac.toNat c2, rfl, f2, f3⟩;refine results_cell_row rfl _ _ (w.heap.size + 1 + 1) 28 _ (0, 0) _ ?_ f1 hu28 rfl ?_
   ·rfl
   ·kernel_rfl
  case inr =>
   obtain ⟨f1, f2, f3⟩ := HF.out (aa.length + 1) (by omega) _ rfl;refine bodyPost_ret (v := .agg #[.int .u64 ad, .int .u64 ae, .int .i64 ac, .int .i64 ai, .slice A2 (aa.length + 1) c2]) ?_ rfl ⟨.slice A2 (aa.length + 1) c2, rfl, f2, f3⟩;refine results_cell_row rfl _ _ (w.heap.size + 1 + 1) 28 _ (0, 0) _ ?_ f1 hu28 rfl ?_
   ·rfl
   ·kernel_rfl
 | true =>
  have h := HH.out;clear HH;rw [if_pos rfl] at h
  split at h
  case isFalse => cases h
  case isTrue hi =>
  obtain ⟨j, rfl⟩ := Int.eq_ofNat_of_zero_le hi.1
  have hj : j < aa.length := by have := hi.2; omega
  clear hi;rw [Int.toNat_natCast] at h
  unfold s_put.cut at h
  split at h
  case isFalse => cases h
  case isTrue hm =>
  simp only [Option.some.injEq, Prod.mk.injEq] at h;obtain ⟨rfl, rfl, rfl, rfl, h4⟩ := h;have H4 := am h4;have HM := am hm;clear h4 hm;obtain ⟨ga, cap, hga, hgb, hgl, -⟩ := Kd.N_form HN2.out (by omega);injection hga with hA hcc hcap;subst hA;subst hcap;have hga2 : w.heap.size + 1 + 1 + 1 ≤ ga := hgb;obtain ⟨cf, hcl, hM, hcc, hfr⟩ := Kd.N_elem HN2.out z42 (j : Int) (by omega) (by omega);have HC := am (And.intro hcl hcc);have HFR := am hfr;have hcl6 : cf.length = 6 := hcl
  have q : ∀ p, p < 6 → ∃ u, w2.cell? ⟨ga, j * 6 + p, none⟩ = some u := fun p hp => ⟨cf[p]'(by omega), HC.out.2 p _ (List.getElem?_eq_getElem (by omega))⟩
  obtain ⟨u0, q0⟩ := q 0 (by decide);obtain ⟨u1, q1⟩ := q 1 (by decide);obtain ⟨u2, q2⟩ := q 2 (by decide);obtain ⟨u3, q3⟩ := q 3 (by decide);obtain ⟨u4, q4⟩ := q 4 (by decide);obtain ⟨u5, q5⟩ := q 5 (by decide);have f0 : w2.frozen? ⟨ga, j * 6 + 0, none⟩ = false := HFR.out 0;have f1 : w2.frozen? ⟨ga, j * 6 + 1, none⟩ = false := HFR.out 1;have f2 : w2.frozen? ⟨ga, j * 6 + 2, none⟩ = false := HFR.out 2;have f3 : w2.frozen? ⟨ga, j * 6 + 3, none⟩ = false := HFR.out 3;have f4 : w2.frozen? ⟨ga, j * 6 + 4, none⟩ = false := HFR.out 4;have f5 : w2.frozen? ⟨ga, j * 6 + 5, none⟩ = false := HFR.out 5;have HP := am (Kd.N_seg (Kd.N_mono HN2.out (ok' := fun k_ => (ah k_ ∧ k_ < w.heap.size) ∨ (af k_ ∧ k_ < w.heap.size) ∨ w.heap.size + 1 + 1 + 1 ≤ k_) (fun k_ hk => hk.elim .inl (fun h => .inr (.inr h)))) (j : Int) (by omega) (by omega) (c := cf) (seg := [.string aj, .int .u64 ak, .int .u64 an, .int .u64 ao, .int .i64 ap, .slice aq ag.length ar]) (j := 0) HC.out.1 HC.out.2 (show 0 + 6 ≤ 6 from by decide) (x' := ⟨aj, ak, ⟨⟨an, ao⟩, ap, ag⟩⟩) (okp := fun k_ => af k_ ∧ k_ < w.heap.size) (by rw [List.take_zero, List.drop_of_length_le (by rw [hcl6]; exact Nat.le_refl 6), List.append_nil, List.nil_append]; exact HXF.out) (fun k_ hk => ⟨.inr (.inl hk), fun he => by have := hk.2; omega⟩));clear HC HFR hM hcl hcc hfr q hcl6 HXF;simp only [Nat.add_zero] at q0 f0;obtain ⟨m, hm⟩ : ∃ m, m = aa.set j ⟨aj, ak, ⟨⟨an, ao⟩, ap, ag⟩⟩ := ⟨_, rfl⟩
  have hml : m.length = aa.length := by rw [hm, List.length_set]
  rw [← hm] at H4 HM;have HMM := am hm;clear hm;have d0 : decide ((j : Int) < (aa.length : Int)) = true := decide_eq_true (by omega)
  go_wp2_with (
   (with_reducible refine gate_store (t := 42) (p := 22) rfl ?_);refine store_event (t := 42) (p := 22) (v := ?vo_1) (w1 := (((((w2.setCell ⟨ga, j * 6, none⟩ (.string aj)).setCell ⟨ga, j * 6 + 1, none⟩ (.int .u64 ak)).setCell ⟨ga, j * 6 + 2, none⟩ (.int .u64 an)).setCell ⟨ga, j * 6 + 3, none⟩ (.int .u64 ao)).setCell ⟨ga, j * 6 + 4, none⟩ (.int .i64 ap)).setCell ⟨ga, j * 6 + 5, none⟩ (.slice aq ag.length ar)) ?hg ?ho ?hn ?hr ?_; (case ho => rfl); (case hg => rfl); (case hn => rfl); (case hr => first | (go_simp; done) | (go_simp; rfl));intro w6 hw;have hg6 : w2.grownBy w6 (some ga) := (by rw [hw]; exact HP.out.2);have HN6 : Aside0 (Kd.N k42 42 w6 (w.heap.size + 1 + 1 + 1) _ (.slice (some ⟨ga, 0, none⟩) m.length c1) m) := ⟨by rw [hw, hml, HMM.out]; exact HP.out.1⟩;have HB6 : Aside0 (Below w.heap.size w w6) := ⟨by rw [hw]; exact below_set (below_set (below_set (below_set (below_set (below_set HB2.out (by omega)) (by omega)) (by omega)) (by omega)) (by omega)) (by omega)⟩;have F0 := am (blk_grown C0.out hg6 (by simp only [ne_eq, Option.some.injEq]; omega));have F2 := am (blk_grown C2.out hg6 (by simp only [ne_eq, Option.some.injEq]; omega));clear hw hg6 HP q0 q1 q2 q3 q4 q5 f0 f1 f2 f3 f4 f5 x0 x1 x2 x3 x4 x5 HN2 HB2 C0 C1 C2 HMM;have s0 := blk_cell F0.out 0;have s1 := blk_cell F0.out 1;have s2 := blk_cell F0.out 2;have s3 := blk_cell F0.out 3;have s4 := blk_cell F0.out 4;have z4 := blk_frozen F0.out 4;have t0 := blk_cell F2.out 0;have y0 := blk_frozen F2.out 0;have t1 := blk_cell F2.out 1;have y1 := blk_frozen F2.out 1;have t2 := blk_cell F2.out 2;have y2 := blk_frozen F2.out 2;have t3 := blk_cell F2.out 3;have y3 := blk_frozen F2.out 3;have t4 := blk_cell F2.out 4;have y4 := blk_frozen F2.out 4;have hm0 := HM.out
   have HF : Aside0 (∀ mm : Nat, mm = (min (m.length : Int) ac).toNat → ∀ W : World, W = (((((w6.setCell ⟨w.heap.size, 4, none⟩ (.slice (some ⟨ga, 0, none⟩) mm c1)).setCell ⟨w.heap.size + 1 + 1, 0, none⟩ (.int .u64 ad)).setCell ⟨w.heap.size + 1 + 1, 1, none⟩ (.int .u64 ae)).setCell ⟨w.heap.size + 1 + 1, 2, none⟩ (.int .i64 ac)).setCell ⟨w.heap.size + 1 + 1, 3, none⟩ (.int .i64 ai)).setCell ⟨w.heap.size + 1 + 1, 4, none⟩ (.slice (some ⟨ga, 0, none⟩) mm c1) →
     W.heap[w.heap.size + 1 + 1]? = some (.cells #[.int .u64 ad, .int .u64 ae, .int .i64 ac, .int .i64 ai, .slice (some ⟨ga, 0, none⟩) mm c1] 28 (0, 0)) ∧ Kd.V k42 42 W w.heap.size (fun k_ => ((ah k_ ∨ af k_) ∨ w.heap.size ≤ k_)) (.slice (some ⟨ga, 0, none⟩) mm c1) r5 ∧ Below w.heap.size w W) := ⟨fun mm hmm W hW => by
    subst hW
    have hml2 : mm ≤ m.length := by omega
    have hV : Kd.V k42 42 w6 w.heap.size (fun k_ => (ah k_ ∧ k_ < w.heap.size) ∨ (af k_ ∧ k_ < w.heap.size) ∨ w.heap.size + 1 + 1 + 1 ≤ k_) (.slice (some ⟨ga, 0, none⟩) m.length c1) m := Kd.N_V HN6.out;have h4 := H4.out;rw [← hmm] at h4;subst h4;refine ⟨blk_put (blk_put (blk_put (blk_put (blk_put (cs' := #[.int .u64 ad, .int .u64 0, .int .i64 0, .int .i64 0, .slice none 0 0]) (blk_far F2.out (by simp <;> omega) _) 0 _ rfl) (cs' := #[.int .u64 ad, .int .u64 ae, .int .i64 0, .int .i64 0, .slice none 0 0]) 1 _ rfl) (cs' := #[.int .u64 ad, .int .u64 ae, .int .i64 ac, .int .i64 0, .slice none 0 0]) 2 _ rfl) (cs' := #[.int .u64 ad, .int .u64 ae, .int .i64 ac, .int .i64 ai, .slice none 0 0]) 3 _ rfl) 4 _ rfl, ?_, below_set (below_set (below_set (below_set (below_set (below_set HB6.out (Nat.le_refl _)) (by omega)) (by omega)) (by omega)) (by omega)) (by omega)⟩;refine Kd.V_mono (ok := fun k_ => (ah k_ ∧ k_ < w.heap.size) ∨ (af k_ ∧ k_ < w.heap.size) ∨ w.heap.size + 1 + 1 + 1 ≤ k_) (V_takenL ?_ hml2) (fun k_ hk => by rcases hk with hk | hk | hk; exact .inl (.inl hk.1); exact .inl (.inr hk.1); exact .inr (by omega))
    refine Kd.V_far (Kd.V_far (Kd.V_far (Kd.V_far (Kd.V_far (Kd.V_far hV ?_ _) ?_ _) ?_ _) ?_ _) ?_ _) ?_ _ <;> (intro k_ hk; simp only [ne_eq]; rcases hk with hk | hk | hk <;> first | omega | (have := hk.2; omega))⟩
  )
  case inl =>
   obtain ⟨f1, f2, f3⟩ := HF.out ac.toNat (by omega) _ rfl;refine bodyPost_ret (v := .agg #[.int .u64 ad, .int .u64 ae, .int .i64 ac, .int .i64 ai, .slice (some ⟨ga, 0, none⟩) ac.toNat c1]) ?_ rfl ⟨.slice (some ⟨ga, 0, none⟩) ac.toNat c1, rfl, f2, f3⟩;refine results_cell_row rfl _ _ (w.heap.size + 1 + 1) 28 _ (0, 0) _ ?_ f1 hu28 rfl ?_
   ·rfl
   ·kernel_rfl
  case inr =>
   obtain ⟨f1, f2, f3⟩ := HF.out aa.length (by omega) _ rfl;refine bodyPost_ret (v := .agg #[.int .u64 ad, .int .u64 ae, .int .i64 ac, .int .i64 ai, .slice (some ⟨ga, 0, none⟩) aa.length c1]) ?_ rfl ⟨.slice (some ⟨ga, 0, none⟩) aa.length c1, rfl, f2, f3⟩;refine results_cell_row rfl _ _ (w.heap.size + 1 + 1) 28 _ (0, 0) _ ?_ f1 hu28 rfl ?_
   ·rfl
   ·kernel_rfl
def s_Add.f (k : Nat) (a b c d : Int) (e : List (S42)) (g h : ByteArray) (i : Int) : Option (Int × Int × Int × Int × (List (S42)) × Int) := (s_Right.f k a b c d e).bind fun j => (if j = true then (if (g.size : Int) > 64 then (some (a, b, c, d, e, 5)) else ((s_find.f k a b c d e g).bind fun l => ((b_Add.f k l.2.2.1 l.2.2.2.1 l.2.2.2.2.1 l.2.2.2.2.2.1 h i).bind fun m => (if m.2.2.2.2 = 0 then ((s_put.f k a b c d e l.1 l.2.1 m.1 m.2.1 m.2.2.1 m.2.2.2.1).bind fun n => (some (n.1, n.2.1, n.2.2.1, n.2.2.2.1, n.2.2.2.2, 0))) else (some (a, b, c, d, e, m.2.2.2.2)))))) else (some (a, b, c, d, e, 1)))
theorem s_Add.mono : ∀ a0 a1 a2 a3 a4 a5 a6 a7 k, LeO (s_Add.f k a0 a1 a2 a3 a4 a5 a6 a7) (s_Add.f (k + 1) a0 a1 a2 a3 a4 a5 a6 a7) := by
 intro a0 a1 a2 a3 a4 a5 a6 a7 k
 unfold s_Add.f
 with_reducible repeat' first | apply b_Add.mono | apply s_Right.mono | apply s_find.mono | apply s_put.mono | exact LeO.refl _ | exact LeO.none _ | refine LeO.ite ?_ ?_ | refine LeO.bind ?_ (fun _ => ?_)
theorem s_Add.calls (k : Nat) (ai aj ak an : Int) (aq : Nat → Prop) (au : Option Addr) (av : Nat) (ah : List (S42)) (a1 a2 : ByteArray) (a3 r1 r2 r3 r4 : Int) (r5 : List (S42)) (r6 : Int) (w : World) (bg : Kd.V k42 42 w w.heap.size (fun k_ => aq k_) (.slice au ah.length av) ah) (h : s_Add.f k ai aj ak an ah a1 a2 a3 = some (r1, r2, r3, r4, r5, r6)) :
  Calls Try.prog 10 #[.agg #[.int .u64 ai, .int .u64 aj, .int .i64 ak, .int .i64 an, .slice au ah.length av], .string a1, .string a2, .int .u64 a3] w fun e w' => ∃ bl : Value, e = .returned (.tuple #[.agg #[.int .u64 r1, .int .u64 r2, .int .i64 r3, .int .i64 r4, bl], .int .i64 r6]) ∧ Kd.V k42 42 w' w.heap.size (fun k_ => (aq k_ ∨ w.heap.size ≤ k_)) bl r5 ∧ Below w.heap.size w w' := by
 have hu28 := Try.underlying28;have hu42 := Try.underlying42;have hu40 := Try.underlying40;have aa := am (show Kd.V k42 42 w w.heap.size (fun k_ => (aq k_ ∨ w.heap.size ≤ k_)) (.slice au ah.length av) ah from Kd.V_mono bg (fun k_ hk => .inl hk));have HB := am (Below.refl w.heap.size w);unfold s_Add.f at h;have H := h;clear h;obtain ⟨bo, A5, H⟩ := ob H;(try dsimp only at H)
 by_cases c6 : bo = true
 rotate_left
 ·replace c6 := nt c6;subst c6;rw [if_neg nf] at H;obtain ⟨rfl, rfl, rfl, rfl, rfl, rfl⟩ := J6 H;go_enter Try.func10, Try.ntmps10;go_wp2_with (first | (refine bE 4 #[.int .u64 ai, .int .u64 aj, .int .i64 ak, .int .i64 an, .slice au ah.length av] 28 ?_; intro ar hg cE ac hb; replace aa := ve aa hg hb; have aU := gq hg HB; replace HB := lb HB hb; clear hb hg) | (refine bE 8 #[.int .u64 0, .int .u64 0, .int .i64 0, .int .i64 0, .slice none 0 0] 28 ?_; intro ao hg cF ad hb; replace aa := ve aa hg hb; have aV := gq hg HB; replace HB := lb HB hb; obtain ⟨aJ, aK, b7, b8⟩ := pm hg ac; replace ac := kb ac hb; clear hb hg; have bD := g5 ac) | (refine gl (some 16) Try.func20 #[.agg #[.int .u64 ai, .int .u64 aj, .int .i64 ak, .int .i64 an, .slice au ah.length av]] ?_; (with_reducible refine (s_Right.calls k ai aj ak an _ _ ah false _ ?side1 ?side2 A5.out).mono ?_); (case side1 => exact pc (Kd.V_reads' aa.out).2.2); (case side2 => exact (Kd.V_reads' aa.out).2.1); rintro e cG ⟨rfl, hb⟩; refine ⟨_, rfl, ?_⟩; replace aa := vb aa hb; replace ac := kb ac hb; replace ad := kb ad hb; replace HB := lb HB hb; clear hb; have bF := g5 ac; have bG := g5 ad));refine bodyPost_ret (results_ct rfl _ _ _ _ _ _ _ rfl (s5 rfl ad).out Try.underlying28 rfl (by kernel_rfl)) rfl ?_;exact ⟨_, ey (h := ⟨Kd.V_mono (vf (f5 rfl) aa fun _ hk => hk.2).out (fun _ hk => hk.1.1), pb HB⟩)⟩
 subst c6;rw [if_pos rfl] at H
 by_cases c7 : (a1.size : Int) > 64
 ·rw [if_pos c7] at H;have bp : decide (64 < (a1.size : Int)) = true := decide_eq_true c7;have bq : decide (64 < a1.size) = true := decide_eq_true (by omega);clear c7;obtain ⟨rfl, rfl, rfl, rfl, rfl, rfl⟩ := J6 H;go_enter Try.func10, Try.ntmps10;go_wp2_with (first | (refine bE 4 #[.int .u64 ai, .int .u64 aj, .int .i64 ak, .int .i64 an, .slice au ah.length av] 28 ?_; intro ar hg w8 ac hb; replace aa := ve aa hg hb; have aU := gq hg HB; replace HB := lb HB hb; clear hb hg) | (refine bE 8 #[.int .u64 0, .int .u64 0, .int .i64 0, .int .i64 0, .slice none 0 0] 28 ?_; intro ao hg w9 ad hb; replace aa := ve aa hg hb; have aV := gq hg HB; replace HB := lb HB hb; obtain ⟨aJ, aK, b9, b_⟩ := pm hg ac; replace ac := kb ac hb; clear hb hg; have bH := g5 ac) | (refine gl (some 16) Try.func20 #[.agg #[.int .u64 ai, .int .u64 aj, .int .i64 ak, .int .i64 an, .slice au ah.length av]] ?_; (with_reducible refine (s_Right.calls k ai aj ak an _ _ ah true _ ?side1 ?side2 A5.out).mono ?_); (case side1 => exact pc (Kd.V_reads' aa.out).2.2); (case side2 => exact (Kd.V_reads' aa.out).2.1); rintro e cH ⟨rfl, hb⟩; refine ⟨_, rfl, ?_⟩; replace aa := vb aa hb; replace ac := kb ac hb; replace ad := kb ad hb; replace HB := lb HB hb; clear hb; have bI := g5 ac; have bJ := g5 ad));refine bodyPost_ret (results_ct rfl _ _ _ _ _ _ _ rfl (s5 rfl ad).out Try.underlying28 rfl (by kernel_rfl)) rfl ?_;exact ⟨_, ey (h := ⟨Kd.V_mono (vf (f5 rfl) aa fun _ hk => hk.2).out (fun _ hk => hk.1.1), pb HB⟩)⟩
 rw [if_neg c7] at H;have bp : decide (64 < (a1.size : Int)) = false := decide_eq_false c7;have bq : decide (64 < a1.size) = false := decide_eq_false (by omega);clear c7;obtain ⟨⟨ay, az, aH, aF, aA, ax, a7⟩, bm, H⟩ := ob H;(try dsimp only at H);obtain ⟨⟨aG, aI, aL, aN, a5⟩, bn, H⟩ := ob H;(try dsimp only at H)
 by_cases aT : a5 = 0
 rotate_left
 ·rw [if_neg aT] at H;have bh := beq_eq_false_iff_ne.mpr aT;have bi := bne_iff_ne.mpr aT;obtain ⟨rfl, rfl, rfl, rfl, rfl, rfl⟩ := J6 H;go_enter Try.func10, Try.ntmps10;go_wp2_with (first | (refine bE 4 #[.int .u64 ai, .int .u64 aj, .int .i64 ak, .int .i64 an, .slice au ah.length av] 28 ?_; intro ar hg cI ac hb; replace aa := ve aa hg hb; have aU := gq hg HB; replace HB := lb HB hb; clear hb hg) | (refine bE 8 #[.int .u64 0, .int .u64 0, .int .i64 0, .int .i64 0, .slice none 0 0] 28 ?_; intro ao hg cJ ad hb; replace aa := ve aa hg hb; have aV := gq hg HB; replace HB := lb HB hb; obtain ⟨aJ, aK, ca, cb⟩ := pm hg ac; replace ac := kb ac hb; clear hb hg; have bK := g5 ac) | (refine gl (some 16) Try.func20 #[.agg #[.int .u64 ai, .int .u64 aj, .int .i64 ak, .int .i64 an, .slice au ah.length av]] ?_; (with_reducible refine (s_Right.calls k ai aj ak an _ _ ah true _ ?side1 ?side2 A5.out).mono ?_); (case side1 => exact pc (Kd.V_reads' aa.out).2.2); (case side2 => exact (Kd.V_reads' aa.out).2.1); rintro e cK ⟨rfl, hb⟩; refine ⟨_, rfl, ?_⟩; replace aa := vb aa hb; replace ac := kb ac hb; replace ad := kb ad hb; replace HB := lb HB hb; clear hb; have bL := g5 ac) | (refine gl (some 27) Try.func28 #[.agg #[.int .u64 ai, .int .u64 aj, .int .i64 ak, .int .i64 an, .slice au ah.length av], .string a1] ?_; (with_reducible refine (s_find.calls k ai aj ak an (fun k_ => (((aq k_ ∨ w.heap.size ≤ k_) ∧ k_ ≠ ar) ∧ k_ ≠ ao)) _ _ ah a1 ay az aH aF aA ax a7 _ ?side1 bm.out).mono ?_); (case side1 => exact aa.out); rintro e cL ⟨br, rfl, aB, hb⟩; refine ⟨_, rfl, ?_⟩; replace aa := vb aa hb; have ae := am (Kd.V_lower (Kd.V_mono (ok' := fun k_ => (aq k_ ∨ w.heap.size ≤ k_) ∧ k_ ≠ ar ∧ k_ ≠ ao) aB (fun k_ hk_ => ⟨Or.elim hk_ (fun hs_ => hs_.1.1) (fun hn_ => (.inr (Nat.le_trans (below_size (pb HB)) hn_))), hk_.elim (·.1.2) (nb ac k_ ·), hk_.elim (·.2) (nb ad k_ ·)⟩)) (below_size (pb HB))); replace ac := kb ac hb; replace ad := kb ad hb; replace HB := lb HB hb; clear hb aB) | (refine bE 10 #[.string (⟨#[]⟩ : ByteArray), .int .u64 0, .int .u64 0, .int .u64 0, .int .i64 0, .slice none 0 0] 42 ?_; intro ag hg b1 af hb; replace aa := ve aa hg hb; replace ae := ve ae hg hb; have bj := gq hg HB; replace HB := lb HB hb; obtain ⟨aC, aY, cc, cd⟩ := pm hg ac; replace ac := kb ac hb; obtain ⟨aD, aZ, cf, cg⟩ := pm hg ad; replace ad := kb ad hb; clear hb hg; have bM := g6 af; obtain ⟨a8, a9, bs⟩ := Kd.V_slice ae.out; subst bs) | ((with_reducible refine gate_store (t := 42) (p := 10) rfl ?_); refine store_event (t := 42) (p := 10) (v := ?vo_w61) (w1 := ((((((b1.setCell ⟨ag, 0, none⟩ (.string ay)).setCell ⟨ag, 1, none⟩ (.int .u64 az)).setCell ⟨ag, 2, none⟩ (.int .u64 aH)).setCell ⟨ag, 3, none⟩ (.int .u64 aF)).setCell ⟨ag, 4, none⟩ (.int .i64 aA)).setCell ⟨ag, 5, none⟩ (.slice a8 ax.length a9))) ?hg ?ho ?hn ?hr ?_; (case ho => rfl); (case hg => rfl); (case hn => rfl); (case hr => first | (go_simp; done) | (go_simp; rfl)); intro cM hw; replace aa := vf (f6 hw) aa (fun _ hk => hk.2); replace ae := vf (f6 hw) ae (fun _ hk => hk.2); replace ac := bf (f6 hw) ac aC.out; replace ad := bf (f6 hw) ad aD.out; replace af := s6 hw af; replace HB := lf (f6 hw) HB; (try simp only [and_assoc] at aa ae); clear hw; have bN := g6 af) | (refine gl (some 35) Try.func13 #[.agg #[.int .u64 aH, .int .u64 aF, .int .i64 aA, .slice a8 ax.length a9], .string a2, .int .u64 a3] ?_; (with_reducible refine (b_Add.calls k aH aF aA (fun k_ => ((aq k_ ∨ w.heap.size ≤ k_) ∧ (k_ ≠ ar ∧ (k_ ≠ ao ∧ k_ ≠ ag)))) _ _ ax a2 a3 aG aI aL aN a5 _ ?side1 bn.out).mono ?_); (case side1 => exact ae.out); rintro e cN ⟨bu, rfl, aB, hb⟩; refine ⟨_, rfl, ?_⟩; replace aa := vb aa hb; replace ae := vb ae hb; have ap := am (Kd.V_lower (Kd.V_mono (ok' := fun k_ => (aq k_ ∨ w.heap.size ≤ k_) ∧ k_ ≠ ar ∧ k_ ≠ ao ∧ k_ ≠ ag) aB (fun k_ hk_ => ⟨Or.elim hk_ (fun hs_ => hs_.1) (fun hn_ => (.inr (Nat.le_trans (below_size (pb HB)) hn_))), hk_.elim (·.2.1) (nb ac k_ ·), hk_.elim (·.2.2.1) (nb ad k_ ·), hk_.elim (·.2.2.2) (nb af k_ ·)⟩)) (below_size (pb HB))); replace ac := kb ac hb; replace ad := kb ad hb; replace af := kb af hb; replace HB := lb HB hb; clear hb aB) | (refine bE 12 #[.int .u64 0, .int .u64 0, .int .i64 0, .slice none 0 0] 40 ?_; intro aE hg cO aw hb; replace aa := ve aa hg hb; replace ae := ve ae hg hb; replace ap := ve ap hg hb; have bk := gq hg HB; replace HB := lb HB hb; obtain ⟨aQ, a0, ch, ci⟩ := pm hg ac; replace ac := kb ac hb; obtain ⟨aM, a4, cj, ck⟩ := pm hg ad; replace ad := kb ad hb; obtain ⟨aR, aS, cl, cm⟩ := pm hg af; replace af := kb af hb; clear hb hg; have bO := g4 aw; obtain ⟨cB, cC, bv⟩ := Kd.V_slice ap.out; subst bv; have bP := g5 ac; have bQ := g5 ad));refine bodyPost_ret (results_ct rfl _ _ ao 28 #[.int .u64 ai, .int .u64 aj, .int .i64 ak, .int .i64 an, .slice au ah.length av] (0, 0) _ rfl ((s5 rfl (bf (f4 rfl) ad aM.out)).out) Try.underlying28 rfl (by kernel_rfl)) rfl ?_;exact ⟨_, ey (h := ⟨Kd.V_mono (vf (f5 rfl) (vf (f4 rfl) aa fun _ hk => hk.2) fun _ hk => hk.1.2.2.1).out (fun _ hk => hk.1.1), pb HB⟩)⟩
 rw [if_pos aT] at H;have bh := beq_iff_eq.mpr aT;have bi := bne_eq_false_iff_eq.mpr aT;clear aT;obtain ⟨⟨a_, ba, bb, bc, bd⟩, b2, H⟩ := ob H;(try dsimp only at H);obtain ⟨rfl, rfl, rfl, rfl, rfl, rfl⟩ := J6 H;go_enter Try.func10, Try.ntmps10;go_wp2_with (first | (refine bE 4 #[.int .u64 ai, .int .u64 aj, .int .i64 ak, .int .i64 an, .slice au ah.length av] 28 ?_; intro ar hg cP ac hb; replace aa := ve aa hg hb; have aU := gq hg HB; replace HB := lb HB hb; clear hb hg) | (refine bE 8 #[.int .u64 0, .int .u64 0, .int .i64 0, .int .i64 0, .slice none 0 0] 28 ?_; intro ao hg cQ ad hb; replace aa := ve aa hg hb; have aV := gq hg HB; replace HB := lb HB hb; obtain ⟨aJ, aK, cn, cp⟩ := pm hg ac; replace ac := kb ac hb; clear hb hg; have bR := g5 ac) | (refine gl (some 16) Try.func20 #[.agg #[.int .u64 ai, .int .u64 aj, .int .i64 ak, .int .i64 an, .slice au ah.length av]] ?_; (with_reducible refine (s_Right.calls k ai aj ak an _ _ ah true _ ?side1 ?side2 A5.out).mono ?_); (case side1 => exact pc (Kd.V_reads' aa.out).2.2); (case side2 => exact (Kd.V_reads' aa.out).2.1); rintro e cR ⟨rfl, hb⟩; refine ⟨_, rfl, ?_⟩; replace aa := vb aa hb; replace ac := kb ac hb; replace ad := kb ad hb; replace HB := lb HB hb; clear hb; have bS := g5 ac) | (refine gl (some 27) Try.func28 #[.agg #[.int .u64 ai, .int .u64 aj, .int .i64 ak, .int .i64 an, .slice au ah.length av], .string a1] ?_; (with_reducible refine (s_find.calls k ai aj ak an (fun k_ => (((aq k_ ∨ w.heap.size ≤ k_) ∧ k_ ≠ ar) ∧ k_ ≠ ao)) _ _ ah a1 ay az aH aF aA ax a7 _ ?side1 bm.out).mono ?_); (case side1 => exact aa.out); rintro e cS ⟨br, rfl, aB, hb⟩; refine ⟨_, rfl, ?_⟩; replace aa := vb aa hb; have ae := am (Kd.V_lower (Kd.V_mono (ok' := fun k_ => (aq k_ ∨ w.heap.size ≤ k_) ∧ k_ ≠ ar ∧ k_ ≠ ao) aB (fun k_ hk_ => ⟨Or.elim hk_ (fun hs_ => hs_.1.1) (fun hn_ => (.inr (Nat.le_trans (below_size (pb HB)) hn_))), hk_.elim (·.1.2) (nb ac k_ ·), hk_.elim (·.2) (nb ad k_ ·)⟩)) (below_size (pb HB))); replace ac := kb ac hb; replace ad := kb ad hb; replace HB := lb HB hb; clear hb aB) | (refine bE 10 #[.string (⟨#[]⟩ : ByteArray), .int .u64 0, .int .u64 0, .int .u64 0, .int .i64 0, .slice none 0 0] 42 ?_; intro ag hg b3 af hb; replace aa := ve aa hg hb; replace ae := ve ae hg hb; have bj := gq hg HB; replace HB := lb HB hb; obtain ⟨aC, aY, cq, cr⟩ := pm hg ac; replace ac := kb ac hb; obtain ⟨aD, aZ, ct, cu⟩ := pm hg ad; replace ad := kb ad hb; clear hb hg; have bT := g6 af; obtain ⟨aO, aP, bw⟩ := Kd.V_slice ae.out; subst bw) | ((with_reducible refine gate_store (t := 42) (p := 10) rfl ?_); refine store_event (t := 42) (p := 10) (v := ?vo_w31) (w1 := ((((((b3.setCell ⟨ag, 0, none⟩ (.string ay)).setCell ⟨ag, 1, none⟩ (.int .u64 az)).setCell ⟨ag, 2, none⟩ (.int .u64 aH)).setCell ⟨ag, 3, none⟩ (.int .u64 aF)).setCell ⟨ag, 4, none⟩ (.int .i64 aA)).setCell ⟨ag, 5, none⟩ (.slice aO ax.length aP))) ?hg ?ho ?hn ?hr ?_; (case ho => rfl); (case hg => rfl); (case hn => rfl); (case hr => first | (go_simp; done) | (go_simp; rfl)); intro cT hw; replace aa := vf (f6 hw) aa (fun _ hk => hk.2); replace ae := vf (f6 hw) ae (fun _ hk => hk.2); replace ac := bf (f6 hw) ac aC.out; replace ad := bf (f6 hw) ad aD.out; replace af := s6 hw af; replace HB := lf (f6 hw) HB; (try simp only [and_assoc] at aa ae); clear hw; have bU := g6 af) | (refine gl (some 35) Try.func13 #[.agg #[.int .u64 aH, .int .u64 aF, .int .i64 aA, .slice aO ax.length aP], .string a2, .int .u64 a3] ?_; (with_reducible refine (b_Add.calls k aH aF aA (fun k_ => ((aq k_ ∨ w.heap.size ≤ k_) ∧ (k_ ≠ ar ∧ (k_ ≠ ao ∧ k_ ≠ ag)))) _ _ ax a2 a3 aG aI aL aN a5 _ ?side1 bn.out).mono ?_); (case side1 => exact ae.out); rintro e cU ⟨bu, rfl, aB, hb⟩; refine ⟨_, rfl, ?_⟩; replace aa := vb aa hb; replace ae := vb ae hb; have ap := am (Kd.V_lower (Kd.V_mono (ok' := fun k_ => (aq k_ ∨ w.heap.size ≤ k_) ∧ k_ ≠ ar ∧ k_ ≠ ao ∧ k_ ≠ ag) aB (fun k_ hk_ => ⟨Or.elim hk_ (fun hs_ => hs_.1) (fun hn_ => (.inr (Nat.le_trans (below_size (pb HB)) hn_))), hk_.elim (·.2.1) (nb ac k_ ·), hk_.elim (·.2.2.1) (nb ad k_ ·), hk_.elim (·.2.2.2) (nb af k_ ·)⟩)) (below_size (pb HB))); replace ac := kb ac hb; replace ad := kb ad hb; replace af := kb af hb; replace HB := lb HB hb; clear hb aB) | (refine bE 12 #[.int .u64 0, .int .u64 0, .int .i64 0, .slice none 0 0] 40 ?_; intro aE hg b4 aw hb; replace aa := ve aa hg hb; replace ae := ve ae hg hb; replace ap := ve ap hg hb; have bk := gq hg HB; replace HB := lb HB hb; obtain ⟨aQ, a0, cv, cw⟩ := pm hg ac; replace ac := kb ac hb; obtain ⟨aM, a4, cx, cy⟩ := pm hg ad; replace ad := kb ad hb; obtain ⟨aR, aS, cz, cA⟩ := pm hg af; replace af := kb af hb; clear hb hg; have bV := g4 aw; obtain ⟨aW, aX, bz⟩ := Kd.V_slice ap.out; subst bz) | ((with_reducible refine gate_store (t := 40) (p := 12) rfl ?_); refine store_event (t := 40) (p := 12) (v := ?vo_w40) (w1 := ((((b4.setCell ⟨aE, 0, none⟩ (.int .u64 aG)).setCell ⟨aE, 1, none⟩ (.int .u64 aI)).setCell ⟨aE, 2, none⟩ (.int .i64 aL)).setCell ⟨aE, 3, none⟩ (.slice aW aN.length aX))) ?hg ?ho ?hn ?hr ?_; (case ho => rfl); (case hg => rfl); (case hn => rfl); (case hr => first | (go_simp; done) | (go_simp; rfl)); intro b5 hw; replace aa := vf (f4 hw) aa (fun _ hk => hk.2); replace ae := vf (f4 hw) ae (fun _ hk => hk.2); replace ap := vf (f4 hw) ap (fun _ hk => hk.2); replace ac := bf (f4 hw) ac aQ.out; replace ad := bf (f4 hw) ad aM.out; replace af := bf (f4 hw) af aR.out; replace aw := s4 hw aw; replace HB := lf (f4 hw) HB; (try simp only [and_assoc] at aa ae ap); clear hw; have bW := g4 aw; have bX := g6 af) | ((with_reducible refine gate_store (t := 40) (p := 43) rfl ?_); refine store_event (t := 40) (p := 43) (v := ?vo_w43) (w1 := ((((b5.setCell ⟨ag, 2, none⟩ (.int .u64 aG)).setCell ⟨ag, 3, none⟩ (.int .u64 aI)).setCell ⟨ag, 4, none⟩ (.int .i64 aL)).setCell ⟨ag, 5, none⟩ (.slice aW aN.length aX))) ?hg ?ho ?hn ?hr ?_; (case ho => rfl); (case hg => rfl); (case hn => rfl); (case hr => first | (go_simp; done) | (go_simp; rfl)); intro b6 hw; replace aa := vf (f4 hw) aa (fun _ hk => hk.2.2.2.1); replace ae := vf (f4 hw) ae (fun _ hk => hk.2.2.2.1); replace ap := vf (f4 hw) ap (fun _ hk => hk.2.2.2.1); replace ac := bf (f4 hw) ac aC.out; replace ad := bf (f4 hw) ad aD.out; replace af : Aside0 (b6.heap[ag]? = some (.cells #[.string ay, .int .u64 az, .int .u64 aG, .int .u64 aI, .int .i64 aL, .slice aW aN.length aX] 42 (0, 0))) := ⟨(by rw [hw]; exact (by refine pk ?_; refine blk_put (cs := #[.string ay, .int .u64 az, .int .u64 aG, .int .u64 aI, .int .i64 aL, .slice aO ax.length aP]) ?_ 5 _ rfl; refine pk ?_; refine blk_put (cs := #[.string ay, .int .u64 az, .int .u64 aG, .int .u64 aI, .int .i64 aA, .slice aO ax.length aP]) ?_ 4 _ rfl; refine pk ?_; refine blk_put (cs := #[.string ay, .int .u64 az, .int .u64 aG, .int .u64 aF, .int .i64 aA, .slice aO ax.length aP]) ?_ 3 _ rfl; refine pk ?_; refine blk_put (cs := #[.string ay, .int .u64 az, .int .u64 aH, .int .u64 aF, .int .i64 aA, .slice aO ax.length aP]) ?_ 2 _ rfl; refine pk ?_; exact af.out))⟩; replace aw := bf (f4 hw) aw aS.out; replace HB := lf (f4 hw) HB; (try simp only [and_assoc] at aa ae ap); clear hw; have bY := g5 ac; have bZ := g6 af) | (refine gl (some 46) Try.func29 #[.agg #[.int .u64 ai, .int .u64 aj, .int .i64 ak, .int .i64 an, .slice au ah.length av], .agg #[.string ay, .int .u64 az, .int .u64 aG, .int .u64 aI, .int .i64 aL, .slice aW aN.length aX]] ?_; (with_reducible refine (s_put.calls k ai aj ak an (fun k_ => ((aq k_ ∨ w.heap.size ≤ k_) ∧ (k_ ≠ ar ∧ (k_ ≠ ao ∧ (k_ ≠ ag ∧ k_ ≠ aE))))) _ _ ah ay az aG aI aL (fun k_ => ((aq k_ ∨ w.heap.size ≤ k_) ∧ (k_ ≠ ar ∧ (k_ ≠ ao ∧ (k_ ≠ ag ∧ k_ ≠ aE))))) _ _ aN a_ ba bb bc bd _ ?side1 ?side2 b2.out).mono ?_); (case side1 => exact aa.out); (case side2 => exact ap.out); rintro e cV ⟨cD, rfl, aB, hb⟩; refine ⟨_, rfl, ?_⟩; replace aa := vb aa hb; replace ae := vb ae hb; replace ap := vb ap hb; have a6 := am (Kd.V_lower (Kd.V_mono (ok' := fun k_ => (aq k_ ∨ w.heap.size ≤ k_) ∧ k_ ≠ ar ∧ k_ ≠ ao ∧ k_ ≠ ag ∧ k_ ≠ aE) aB (fun k_ hk_ => ⟨Or.elim hk_ (fun hs_ => Or.elim hs_ (fun hs_ => hs_.1) (fun hs_ => hs_.1)) (fun hn_ => (.inr (Nat.le_trans (below_size (pb HB)) hn_))), Or.elim hk_ (fun hs_ => Or.elim hs_ (fun hs_ => hs_.2.1) (fun hs_ => hs_.2.1)) (fun hn_ => (nb ac k_ hn_)), Or.elim hk_ (fun hs_ => Or.elim hs_ (fun hs_ => hs_.2.2.1) (fun hs_ => hs_.2.2.1)) (fun hn_ => (nb ad k_ hn_)), Or.elim hk_ (fun hs_ => Or.elim hs_ (fun hs_ => hs_.2.2.2.1) (fun hs_ => hs_.2.2.2.1)) (fun hn_ => (nb af k_ hn_)), Or.elim hk_ (fun hs_ => Or.elim hs_ (fun hs_ => hs_.2.2.2.2) (fun hs_ => hs_.2.2.2.2)) (fun hn_ => (nb aw k_ hn_))⟩)) (below_size (pb HB))); replace ac := kb ac hb; replace ad := kb ad hb; replace af := kb af hb; replace aw := kb aw hb; replace HB := lb HB hb; clear hb aB; have b0 := g5 ad; obtain ⟨bA, bB, bC⟩ := Kd.V_slice a6.out; subst bC));refine bodyPost_ret (results_ct rfl _ _ _ _ _ _ _ rfl (s5 rfl ad).out Try.underlying28 rfl (by kernel_rfl)) rfl ?_;exact ⟨_, ey (h := ⟨Kd.V_mono (vf (f5 rfl) a6 fun _ hk => hk.2.2.1).out (fun _ hk => hk.1), pb HB⟩)⟩
def s_Get.f (k : Nat) (a b c d : Int) (e : List (S42)) (g : ByteArray) : Option (Int × Int × Int × (List (S87)) × Int) := (s_Right.f k a b c d e).bind fun h => (if h = true then ((s_find.f k a b c d e g).bind fun i => (if i.2.2.2.2.2.2 = true then (some (i.2.2.1, i.2.2.2.1, i.2.2.2.2.1, i.2.2.2.2.2.1, 0)) else (some (0, 0, 0, ([] : List (S87)), 3)))) else (some (0, 0, 0, ([] : List (S87)), 1)))
theorem s_Get.mono : ∀ a0 a1 a2 a3 a4 a5 k, LeO (s_Get.f k a0 a1 a2 a3 a4 a5) (s_Get.f (k + 1) a0 a1 a2 a3 a4 a5) := by
 intro a0 a1 a2 a3 a4 a5 k
 unfold s_Get.f
 with_reducible repeat' first | apply s_Right.mono | apply s_find.mono | exact LeO.refl _ | exact LeO.none _ | refine LeO.ite ?_ ?_ | refine LeO.bind ?_ (fun _ => ?_)
theorem s_Get.calls (k : Nat) (af ag ah ai : Int) (ap : Nat → Prop) (ak : Option Addr) (an : Nat) (ae : List (S42)) (a1 : ByteArray) (r1 r2 r3 : Int) (r4 : List (S87)) (r5 : Int) (w : World) (aJ : Kd.V k42 42 w w.heap.size (fun k_ => ap k_) (.slice ak ae.length an) ae) (h : s_Get.f k af ag ah ai ae a1 = some (r1, r2, r3, r4, r5)) :
  Calls Try.prog 14 #[.agg #[.int .u64 af, .int .u64 ag, .int .i64 ah, .int .i64 ai, .slice ak ae.length an], .string a1] w fun e w' => ∃ aM : Value, e = .returned (.tuple #[.agg #[.int .u64 r1, .int .u64 r2, .int .i64 r3, aM], .int .i64 r5]) ∧ Kd.V k87 87 w' w.heap.size (fun k_ => (ap k_ ∨ w.heap.size ≤ k_)) aM r4 ∧ Below w.heap.size w w' := by
 have hu28 := Try.underlying28;have hu40 := Try.underlying40;have hu42 := Try.underlying42;have aa := am (show Kd.V k42 42 w w.heap.size (fun k_ => (ap k_ ∨ w.heap.size ≤ k_)) (.slice ak ae.length an) ae from Kd.V_mono aJ (fun k_ hk => .inl hk));have HB := am (Below.refl w.heap.size w);unfold s_Get.f at h;have H := h;clear h;obtain ⟨aN, A3, H⟩ := ob H;(try dsimp only at H)
 by_cases c4 : aN = true
 ·subst c4;rw [if_pos rfl] at H;obtain ⟨⟨aH, aI, aB, aC, aD, aE, aO⟩, A5, H⟩ := ob H;(try dsimp only at H)
  by_cases c6 : aO = true
  ·subst c6;rw [if_pos rfl] at H;obtain ⟨rfl, rfl, rfl, rfl, rfl⟩ := J5 H;go_enter Try.func14, Try.ntmps14;go_wp2_with (first | (refine bE 2 #[.int .u64 af, .int .u64 ag, .int .i64 ah, .int .i64 ai, .slice ak ae.length an] 28 ?_; intro ar hg w7 ac hb; replace aa := ve aa hg hb; have aF := gq hg HB; replace HB := lb HB hb; clear hb hg) | (refine bE 4 #[.int .u64 0, .int .u64 0, .int .i64 0, .slice none 0 0] 40 ?_; intro aj hg w8 ad hb; replace aa := ve aa hg hb; have aG := gq hg HB; replace HB := lb HB hb; obtain ⟨au, av, bi, bj⟩ := pm hg ac; replace ac := kb ac hb; clear hb hg; have aU := g5 ac) | (refine gl (some 9) Try.func20 #[.agg #[.int .u64 af, .int .u64 ag, .int .i64 ah, .int .i64 ai, .slice ak ae.length an]] ?_; (with_reducible refine (s_Right.calls k af ag ah ai _ _ ae true _ ?side1 ?side2 A3.out).mono ?_); (case side1 => exact pc (Kd.V_reads' aa.out).2.2); (case side2 => exact (Kd.V_reads' aa.out).2.1); rintro e bm ⟨rfl, hb⟩; refine ⟨_, rfl, ?_⟩; replace aa := vb aa hb; replace ac := kb ac hb; replace ad := kb ad hb; replace HB := lb HB hb; clear hb; have aV := g5 ac) | (refine gl (some 15) Try.func28 #[.agg #[.int .u64 af, .int .u64 ag, .int .i64 ah, .int .i64 ai, .slice ak ae.length an], .string a1] ?_; (with_reducible refine (s_find.calls k af ag ah ai (fun k_ => (((ap k_ ∨ w.heap.size ≤ k_) ∧ k_ ≠ ar) ∧ k_ ≠ aj)) _ _ ae a1 aH aI aB aC aD aE true _ ?side1 A5.out).mono ?_); (case side1 => exact aa.out); rintro e bn ⟨aP, rfl, ax, hb⟩; refine ⟨_, rfl, ?_⟩; replace aa := vb aa hb; have ao := am (Kd.V_lower (Kd.V_mono (ok' := fun k_ => (ap k_ ∨ w.heap.size ≤ k_) ∧ k_ ≠ ar ∧ k_ ≠ aj) ax (fun k_ hk_ => ⟨Or.elim hk_ (fun hs_ => hs_.1.1) (fun hn_ => (.inr (Nat.le_trans (below_size (pb HB)) hn_))), hk_.elim (·.1.2) (nb ac k_ ·), hk_.elim (·.2) (nb ad k_ ·)⟩)) (below_size (pb HB))); replace ac := kb ac hb; replace ad := kb ad hb; replace HB := lb HB hb; clear hb ax) | (refine bE 6 #[.string (⟨#[]⟩ : ByteArray), .int .u64 0, .int .u64 0, .int .u64 0, .int .i64 0, .slice none 0 0] 42 ?_; intro aK hg bo aw hb; replace aa := ve aa hg hb; replace ao := ve ao hg hb; have aL := gq hg HB; replace HB := lb HB hb; obtain ⟨ay, az, a5, a6⟩ := pm hg ac; replace ac := kb ac hb; obtain ⟨aq, aA, a7, a8⟩ := pm hg ad; replace ad := kb ad hb; clear hb hg; have aW := g6 aw; obtain ⟨aQ, aR, aS⟩ := Kd.V_slice ao.out; subst aS; have aX := g4 ad));refine bodyPost_ret (results_ct rfl _ _ aj 40 #[.int .u64 aB, .int .u64 aC, .int .i64 aD, .slice aQ aE.length aR] (0, 0) _ rfl ((s4 rfl (bf (f6 rfl) ad aq.out)).out) Try.underlying40 rfl (by kernel_rfl)) rfl ?_;exact ⟨_, ey (h := ⟨Kd.V_mono (vf (f4 rfl) (vf (f6 rfl) ao fun _ hk => hk.2) fun _ hk => hk.1.2.2).out (fun _ hk => hk.1.1), pb HB⟩)⟩
  ·replace c6 := nt c6;subst c6;rw [if_neg nf] at H;obtain ⟨rfl, rfl, rfl, rfl, rfl⟩ := J5 H;go_enter Try.func14, Try.ntmps14;go_wp2_with (first | (refine bE 2 #[.int .u64 af, .int .u64 ag, .int .i64 ah, .int .i64 ai, .slice ak ae.length an] 28 ?_; intro ar hg bp ac hb; replace aa := ve aa hg hb; have aF := gq hg HB; replace HB := lb HB hb; clear hb hg) | (refine bE 4 #[.int .u64 0, .int .u64 0, .int .i64 0, .slice none 0 0] 40 ?_; intro aj hg bq ad hb; replace aa := ve aa hg hb; have aG := gq hg HB; replace HB := lb HB hb; obtain ⟨au, av, a9, a_⟩ := pm hg ac; replace ac := kb ac hb; clear hb hg; have aY := g5 ac) | (refine gl (some 9) Try.func20 #[.agg #[.int .u64 af, .int .u64 ag, .int .i64 ah, .int .i64 ai, .slice ak ae.length an]] ?_; (with_reducible refine (s_Right.calls k af ag ah ai _ _ ae true _ ?side1 ?side2 A3.out).mono ?_); (case side1 => exact pc (Kd.V_reads' aa.out).2.2); (case side2 => exact (Kd.V_reads' aa.out).2.1); rintro e br ⟨rfl, hb⟩; refine ⟨_, rfl, ?_⟩; replace aa := vb aa hb; replace ac := kb ac hb; replace ad := kb ad hb; replace HB := lb HB hb; clear hb; have aZ := g5 ac) | (refine gl (some 15) Try.func28 #[.agg #[.int .u64 af, .int .u64 ag, .int .i64 ah, .int .i64 ai, .slice ak ae.length an], .string a1] ?_; (with_reducible refine (s_find.calls k af ag ah ai (fun k_ => (((ap k_ ∨ w.heap.size ≤ k_) ∧ k_ ≠ ar) ∧ k_ ≠ aj)) _ _ ae a1 aH aI aB aC aD aE false _ ?side1 A5.out).mono ?_); (case side1 => exact aa.out); rintro e bs ⟨aP, rfl, ax, hb⟩; refine ⟨_, rfl, ?_⟩; replace aa := vb aa hb; have ao := am (Kd.V_lower (Kd.V_mono (ok' := fun k_ => (ap k_ ∨ w.heap.size ≤ k_) ∧ k_ ≠ ar ∧ k_ ≠ aj) ax (fun k_ hk_ => ⟨Or.elim hk_ (fun hs_ => hs_.1.1) (fun hn_ => (.inr (Nat.le_trans (below_size (pb HB)) hn_))), hk_.elim (·.1.2) (nb ac k_ ·), hk_.elim (·.2) (nb ad k_ ·)⟩)) (below_size (pb HB))); replace ac := kb ac hb; replace ad := kb ad hb; replace HB := lb HB hb; clear hb ax) | (refine bE 6 #[.string (⟨#[]⟩ : ByteArray), .int .u64 0, .int .u64 0, .int .u64 0, .int .i64 0, .slice none 0 0] 42 ?_; intro aK hg bu aw hb; replace aa := ve aa hg hb; replace ao := ve ao hg hb; have aL := gq hg HB; replace HB := lb HB hb; obtain ⟨ay, az, ba, bb⟩ := pm hg ac; replace ac := kb ac hb; obtain ⟨aq, aA, bc, bd⟩ := pm hg ad; replace ad := kb ad hb; clear hb hg; have a0 := g6 aw; obtain ⟨bk, bl, aT⟩ := Kd.V_slice ao.out; subst aT; have a2 := g4 ad));refine bodyPost_ret (results_ct rfl _ _ aj 40 #[.int .u64 0, .int .u64 0, .int .i64 0, .slice none 0 0] (0, 0) _ rfl ((s4 rfl (bf (f6 rfl) ad aq.out)).out) Try.underlying40 rfl (by kernel_rfl)) rfl ?_;exact ⟨_, ey (h := ⟨Kd.V_nil _ _ _ _ _, pb HB⟩)⟩
 ·replace c4 := nt c4;subst c4;rw [if_neg nf] at H;obtain ⟨rfl, rfl, rfl, rfl, rfl⟩ := J5 H;go_enter Try.func14, Try.ntmps14;go_wp2_with (first | (refine bE 2 #[.int .u64 af, .int .u64 ag, .int .i64 ah, .int .i64 ai, .slice ak ae.length an] 28 ?_; intro ar hg bv ac hb; replace aa := ve aa hg hb; have aF := gq hg HB; replace HB := lb HB hb; clear hb hg) | (refine bE 4 #[.int .u64 0, .int .u64 0, .int .i64 0, .slice none 0 0] 40 ?_; intro aj hg bw ad hb; replace aa := ve aa hg hb; have aG := gq hg HB; replace HB := lb HB hb; obtain ⟨au, av, bg, bh⟩ := pm hg ac; replace ac := kb ac hb; clear hb hg; have a3 := g5 ac) | (refine gl (some 9) Try.func20 #[.agg #[.int .u64 af, .int .u64 ag, .int .i64 ah, .int .i64 ai, .slice ak ae.length an]] ?_; (with_reducible refine (s_Right.calls k af ag ah ai _ _ ae false _ ?side1 ?side2 A3.out).mono ?_); (case side1 => exact pc (Kd.V_reads' aa.out).2.2); (case side2 => exact (Kd.V_reads' aa.out).2.1); rintro e bz ⟨rfl, hb⟩; refine ⟨_, rfl, ?_⟩; replace aa := vb aa hb; replace ac := kb ac hb; replace ad := kb ad hb; replace HB := lb HB hb; clear hb; have a4 := g4 ad));refine bodyPost_ret (results_ct rfl _ _ _ _ _ _ _ rfl (s4 rfl ad).out Try.underlying40 rfl (by kernel_rfl)) rfl ?_;exact ⟨_, ey (h := ⟨Kd.V_nil _ _ _ _ _, pb HB⟩)⟩
set_option maxHeartbeats 400000000
set_option maxRecDepth 100000

def wrapsOne (k : Nat) (la : List S87) (x : S87) : Option Bool :=
 if la.length < 1000000 then
  (bsT (fun y => b_compare.f k y.f0 y.f1 y.f2.f0 y.f2.f1 x.f0 x.f1 x.f2.f0 x.f2.f1) la z87).bind fun q =>
   if q.2 = true then (if 0 ≤ q.1 ∧ q.1 < la.length then (wide_Add.f (rd_T87 la q.1).f2.f0 (rd_T87 la q.1).f2.f1 x.f2.f0 x.f2.f1).bind fun n => some (!n.2.2) else none) else some false
 else none
theorem wrapsOne_leo (k : Nat) (la : List S87) (x : S87) : LeO (wrapsOne k la x) (wrapsOne (k + 1) la x) :=
 LeO.ite (LeO.bind (bsT_leo (fun y => b_compare.mono _ _ _ _ _ _ _ _ k) _ _) (fun _ => LeO.refl _)) (LeO.refl _)
theorem closureWraps (k : Nat) (la : List S87) (A : Option Addr) (c B : Nat) (x : S87) (r : Bool) (w : World) (hB : w.cell? ⟨B, 3, none⟩ = some (.slice A la.length c)) (hc : la.length ≤ c) (hC : Kd.C k87 w A la.length la) (h : wrapsOne k la x = some r) :
  Calls Try.prog 75 #[.agg #[.string x.f0, .int .u64 x.f1, .int .u64 x.f2.f0, .int .u64 x.f2.f1], .pointer (some ⟨B, 0, none⟩)] w fun e w' => e = .returned (.bool r) ∧ Below w.heap.size w w' := by
 have hu87 := Try.underlying87;have hu65 := Try.underlying65;have hlt : B < w.heap.size := World.block_lt_of_cell? w _ hB
 unfold wrapsOne at h
 split at h
 case isFalse => cases h
 case isTrue hlen =>
 obtain ⟨q, hq, h⟩ := Option.bind_eq_some_iff.1 h;obtain ⟨i, found⟩ := q;have HQ := am hq;have HH := am h;have HB := am hB;have HC := am hC;clear hq h hB hC;have eg : ∀ args w, (callFunc 46 args).run Try.prog w = .ok (.enter 46 args) w := enter_at Try.func46 (by kernel_rfl) rfl
 have hB2 : ∀ o, (w.alloc o).cell? ⟨B, 3, none⟩ = some (.slice A la.length c) := fun o => pw_cell_below (below_alloc (Below.refl _ _) o) HB.out
 go_enter Try.func75, Try.ntmps75;go_wp2_with fail;refine (BinarySearchFunc_calls 46 #[] eg (fun y => b_compare.f k y.f0 y.f1 y.f2.f0 y.f2.f1 x.f0 x.f1 x.f2.f0 x.f2.f1) x.f0 x.f1 x.f2.f0 x.f2.f1 A c la i found _ (Kd.C_below HC.out (below_alloc (Below.refl _ _) _)) hc (by omega) (fun W y c _ hc => by simpa using b_compare.calls k _ _ _ _ _ _ _ _ c W hc) HQ.out).mono ?_;rintro e w2 ⟨rfl, hb2⟩;have C0 := am (blk_below (g := w.heap.size) (o := .cells #[.string x.f0, .int .u64 x.f1, .int .u64 x.f2.f0, .int .u64 x.f2.f1] 87 (0, 0)) (blk_new _ _) hb2);have HB2 := am (below_step (below_alloc (Below.refl _ _) _) hb2);have y0 := am (pw_cell_below HB2.out HB.out);have hs2 := HB2.out.size;have HC2 := am (Kd.C_below HC.out HB2.out);clear hb2 hB2 HB HC HQ
 cases found with
 | false =>
  have h := HH.out;clear HH;rw [if_neg (by decide)] at h;obtain rfl := Option.some.inj h;go_wp2;go_ret;exact ⟨rfl, HB2.out⟩
 | true =>
  have h := HH.out;clear HH;rw [if_pos rfl] at h
  split at h
  case isFalse => cases h
  case isTrue hi =>
  obtain ⟨j, rfl⟩ := Int.eq_ofNat_of_zero_le hi.1
  have hj : j < la.length := by have := hi.2; omega
  clear hi;obtain ⟨n, hn, h⟩ := Option.bind_eq_some_iff.1 h;obtain ⟨n1, n2, n3⟩ := n;obtain ⟨y, hy⟩ : ∃ y, y = rd_T87 la (j : Int) := ⟨_, rfl⟩;obtain ⟨ad, e, hx0, hx1, hx2, hx3⟩ := at_T87 HC2.out (j : Int) (by omega) (by omega);rw [← hy] at hn hx2 hx3;obtain rfl := Option.some.inj h;have HN := am hn;clear h hn hy hx0 hx1;cases e;rw [Int.toNat_natCast] at hx2 hx3;have y1 := am hx2;have y2 : Aside0 (w2.cell? ⟨(ad.add (j * 4)).block, (ad.add (j * 4)).off + 2 + 1, none⟩ = some (.int .u64 y.f2.f1)) := ⟨hx3⟩;have y3 : Aside0 (w2.cell? ⟨w.heap.size, 2, none⟩ = some (.int .u64 x.f2.f0)) := ⟨blk_cell C0.out 2⟩;have y4 : Aside0 (w2.cell? ⟨w.heap.size, 3, none⟩ = some (.int .u64 x.f2.f1)) := ⟨blk_cell C0.out 3⟩;clear hx2 hx3 HC2 C0;have HBB := am (Below.refl w2.heap.size w2)
  have d1 : (0 : Int) ≤ (j : Int) := by omega
  have d2 : (j : Int) < (la.length : Int) := by omega
  go_wp2_with fail;refine start_ (n := 15) (S := fun w' => w'.cell? ⟨B, 3, none⟩ = some (.slice (some ad) la.length c) ∧ w'.cell? ⟨(ad.add (j * 4)).block, (ad.add (j * 4)).off + 2, none⟩ = some (.int .u64 y.f2.f0) ∧ w'.cell? ⟨(ad.add (j * 4)).block, (ad.add (j * 4)).off + 2 + 1, none⟩ = some (.int .u64 y.f2.f1) ∧ w'.cell? ⟨w.heap.size, 2, none⟩ = some (.int .u64 x.f2.f0) ∧ w'.cell? ⟨w.heap.size, 3, none⟩ = some (.int .u64 x.f2.f1)) (ds := [13]) #[bF, bF, bF, bF, bF, bF, bF, bF, bF, bF, bF, bF, bF, bF, bF] (by kernel_rfl) rfl rfl ⟨y0.out, y1.out, y2.out, y3.out, y4.out⟩ (fun hd => ?_);refine pure_ (i := 0) (N := some 18) (v := ?_) (a' := ?_) #[bT, bF, bF, bF, bF, bF, bF, bF, bF, bF, bF, bF, bF, bF, bF] rfl rfl (by kernel_rfl) (fun _ _ _ h => h) (Or.inl ⟨by rfl, ?_⟩) ?_ ?_;rotate_left
  ·intro w'
   go_simp
   with_reducible rfl
  rotate_left
  ·simp only [Act.put, List.setIfInBounds_toArray, List.set_cons_zero, List.set_cons_succ, i64_w, i32_w]
   rfl
  refine pure_ (i := 2) (N := some 20) (v := ?_) (a' := ?_) #[bT, bF, bT, bF, bF, bF, bF, bF, bF, bF, bF, bF, bF, bF, bF] rfl rfl (by kernel_rfl) (fun _ _ _ h => h) (Or.inl ⟨by rfl, ?_⟩) ?_ ?_;rotate_left
  ·intro w'
   go_simp
   with_reducible rfl
  rotate_left
  ·simp only [Act.put, List.setIfInBounds_toArray, List.set_cons_zero, List.set_cons_succ, i64_w, i32_w]
   rfl
  refine pure_ (i := 6) (N := some 24) (v := ?_) (a' := ?_) #[bT, bF, bT, bF, bF, bF, bT, bF, bF, bF, bF, bF, bF, bF, bF] rfl rfl (by kernel_rfl) (fun _ _ _ h => h) (Or.inl ⟨by rfl, ?_⟩) ?_ ?_;rotate_left
  ·intro w'
   go_simp
   with_reducible rfl
  rotate_left
  ·simp only [Act.put, List.setIfInBounds_toArray, List.set_cons_zero, List.set_cons_succ, i64_w, i32_w]
   rfl
  refine take_ (i := 1) (N := some 19) (v := ?_) (a' := ?_) #[bT, bT, bT, bF, bF, bF, bT, bF, bF, bF, bF, bF, bF, bF, bF] rfl rfl (by kernel_rfl) (fun _ _ _ h => h) (Or.inl ⟨by rfl, ?_⟩) hd ?_ ?_;rotate_left
  ·rintro w' ⟨s0, s1, s2, s3, s4⟩
   go_simp
   with_reducible rfl
  rotate_left
  ·simp only [Act.put, List.setIfInBounds_toArray, List.set_cons_zero, List.set_cons_succ, i64_w, i32_w]
   rfl
  refine pure_ (i := 3) (N := some 21) (v := ?_) (a' := ?_) #[bT, bT, bT, bT, bF, bF, bT, bF, bF, bF, bF, bF, bF, bF, bF] rfl rfl (by kernel_rfl) (fun _ _ _ h => h) (Or.inl ⟨by rfl, ?_⟩) ?_ ?_;rotate_left
  ·intro w'
   go_simp
   with_reducible rfl
  rotate_left
  ·simp only [Act.put, List.setIfInBounds_toArray, List.set_cons_zero, List.set_cons_succ, i64_w, i32_w]
   rfl
  refine pure_ (i := 4) (N := some 22) (v := ?_) (a' := ?_) #[bT, bT, bT, bT, bT, bF, bT, bF, bF, bF, bF, bF, bF, bF, bF] rfl rfl (by kernel_rfl) (fun _ _ _ h => h) (Or.inl ⟨by rfl, ?_⟩) ?_ ?_;rotate_left
  ·intro w'
   go_simp
   with_reducible rfl
  rotate_left
  ·simp only [Act.put, List.setIfInBounds_toArray, List.set_cons_zero, List.set_cons_succ, i64_w, i32_w]
   rfl
  refine take_ (i := 5) (N := some 23) (v := ?_) (a' := ?_) #[bT, bT, bT, bT, bT, bT, bT, bF, bF, bF, bF, bF, bF, bF, bF] rfl rfl (by kernel_rfl) (fun _ _ _ h => h) (Or.inl ⟨by rfl, ?_⟩) hd ?_ ?_;rotate_left
  ·rintro w' ⟨s0, s1, s2, s3, s4⟩
   go_simp
   with_reducible rfl
  rotate_left
  ·simp only [Act.put, List.setIfInBounds_toArray, List.set_cons_zero, List.set_cons_succ, i64_w, i32_w]
   rfl
  refine take_ (i := 7) (N := some 25) (v := ?_) (a' := ?_) #[bT, bT, bT, bT, bT, bT, bT, bT, bF, bF, bF, bF, bF, bF, bF] rfl rfl (by kernel_rfl) (fun _ _ _ h => h) (Or.inl ⟨by rfl, ?_⟩) hd ?_ ?_;rotate_left
  ·rintro w' ⟨s0, s1, s2, s3, s4⟩
   go_simp
   with_reducible rfl
  rotate_left
  ·simp only [Act.put, List.setIfInBounds_toArray, List.set_cons_zero, List.set_cons_succ, i64_w, i32_w]
   rfl
  refine jn (σ := Nat) 2 #[bT, bT, bT, bT, bT, bT, bT, bT, bT, bT, bT, bT, bT, bF, bF] (fun s_ => [(26, .tuple #[.agg #[.int .u64 n1, .int .u64 n2], .bool n3]), (17, .tuple #[.agg #[.int .u64 n1, .int .u64 n2], .bool n3]), (27, .agg #[.int .u64 n1, .int .u64 n2]), (28, .bool n3), (6, .pointer (some ⟨s_, 0, none⟩))]) (fun s_ w' => w'.heap[s_]? = some (.cells #[.int .u64 0, .int .u64 0] 65 (0, 0)) ∧ w2.heap.size ≤ s_ ∧ Below w2.heap.size w2 w') ?_ ?_;rotate_left
  ·intro hCont;refine two_ (i := 8) (j := 12) (Ni := some 26) (Nj := some 6) #[bT, bT, bT, bT, bT, bT, bT, bT, bT, bF, bF, bF, bF, bF, bF] #[bT, bT, bT, bT, bT, bT, bT, bT, bF, bF, bF, bF, bT, bF, bF] rfl rfl rfl rfl (by kernel_rfl) (by decide) (by decide) (fun K hK => ?_) (fun K hK => ?_)
   ·skip
    refine goes_ Try.func49 (by kernel_rfl) rfl #[.agg #[.int .u64 y.f2.f0, .int .u64 y.f2.f1], .agg #[.int .u64 x.f2.f0, .int .u64 x.f2.f1]] (by rfl) rfl rfl (by simp only [List.map_toArray, List.map_cons, List.map_nil]; rfl) ?_;(with_reducible refine (wide_Add.calls y.f2.f0 y.f2.f1 x.f2.f0 x.f2.f1 n1 n2 n3 _ HN.out).mono ?_);rintro e w3 ⟨rfl, hb3⟩;refine ⟨_, rfl, ?_⟩;replace HBB := lB HBB hb3;clear hb3;refine hK.out _ _ ⟨hQ HBB y0.out, hQ HBB y1.out, hQ HBB y2.out, hQ HBB y3.out, hQ HBB y4.out⟩ (fun hd => ?_);clear hK K;refine nm ?_;refine pure_ (i := 9) (N := some 17) (v := ?_) (a' := ?_) #[bT, bT, bT, bT, bT, bT, bT, bT, bT, bT, bF, bF, bF, bF, bF] rfl rfl (by kernel_rfl) (fun _ _ _ h => h) (Or.inl ⟨by rfl, ?_⟩) ?_ ?_;rotate_left
    ·intro w'
     go_simp
     with_reducible rfl
    rotate_left
    ·simp only [Act.put, List.setIfInBounds_toArray, List.set_cons_zero, List.set_cons_succ, i64_w, i32_w]
     rfl
    refine pure_ (i := 10) (N := some 27) (v := ?_) (a' := ?_) #[bT, bT, bT, bT, bT, bT, bT, bT, bT, bT, bT, bF, bF, bF, bF] rfl rfl (by kernel_rfl) (fun _ _ _ h => h) (Or.inl ⟨by rfl, ?_⟩) ?_ ?_;rotate_left
    ·intro w'
     go_simp
     with_reducible rfl
    rotate_left
    ·simp only [Act.put, List.setIfInBounds_toArray, List.set_cons_zero, List.set_cons_succ, i64_w, i32_w]
     rfl
    refine pure_ (i := 11) (N := some 28) (v := ?_) (a' := ?_) #[bT, bT, bT, bT, bT, bT, bT, bT, bT, bT, bT, bT, bF, bF, bF] rfl rfl (by kernel_rfl) (fun _ _ _ h => h) (Or.inl ⟨by rfl, ?_⟩) ?_ ?_;rotate_left
    ·intro w'
     go_simp
     with_reducible rfl
    rotate_left
    ·simp only [Act.put, List.setIfInBounds_toArray, List.set_cons_zero, List.set_cons_succ, i64_w, i32_w]
     rfl
    refine one_ (i := 12) (N := some 6) #[bT, bT, bT, bT, bT, bT, bT, bT, bT, bT, bT, bT, bT, bF, bF] rfl rfl (by kernel_rfl) (by decide) (fun K hK => ?_);refine bx 6 #[.int .u64 0, .int .u64 0] 65 ?_;intro gb hg w3 hbox hb3;have n0_ := lB HBB hb3;have GE : Aside0 (w2.heap.size ≤ gb) := ⟨by rw [hg]; exact HBB.out.size⟩;have BK := am hbox;clear HBB;have HBB := n0_;clear n0_ hb3 hbox hg;refine hK.out _ _ ⟨hQ HBB y0.out, hQ HBB y1.out, hQ HBB y2.out, hQ HBB y3.out, hQ HBB y4.out⟩ (fun hd => ?_);clear hK K;refine nm ?_;exact nj (hCont gb _ ⟨hd, BK.out, GE.out, HBB.out⟩)
   ·skip
    refine bx 6 #[.int .u64 0, .int .u64 0] 65 ?_;intro gb hg w3 hbox hb3;have n0_ := lB HBB hb3;have GE : Aside0 (w2.heap.size ≤ gb) := ⟨by rw [hg]; exact HBB.out.size⟩;have BK := am hbox;clear HBB;have HBB := n0_;clear n0_ hb3 hbox hg;refine hK.out _ _ ⟨hQ HBB y0.out, hQ HBB y1.out, hQ HBB y2.out, hQ HBB y3.out, hQ HBB y4.out⟩ (fun hd => ?_);clear hK K;refine nm ?_;refine one_ (i := 8) (N := some 26) #[bT, bT, bT, bT, bT, bT, bT, bT, bT, bF, bF, bF, bT, bF, bF] rfl rfl (by kernel_rfl) (by decide) (fun K hK => ?_);refine goes_ Try.func49 (by kernel_rfl) rfl #[.agg #[.int .u64 y.f2.f0, .int .u64 y.f2.f1], .agg #[.int .u64 x.f2.f0, .int .u64 x.f2.f1]] (by rfl) rfl rfl (by simp only [List.map_toArray, List.map_cons, List.map_nil]; rfl) ?_;(with_reducible refine (wide_Add.calls y.f2.f0 y.f2.f1 x.f2.f0 x.f2.f1 n1 n2 n3 _ HN.out).mono ?_);rintro e w3 ⟨rfl, hb3⟩;refine ⟨_, rfl, ?_⟩;have n0_ := lB HBB hb3;have n1_ := am (blk_below BK.out hb3);clear BK;have BK := n1_;clear n1_ HBB;have HBB := n0_;clear n0_ hb3;refine hK.out _ _ ⟨hQ HBB y0.out, hQ HBB y1.out, hQ HBB y2.out, hQ HBB y3.out, hQ HBB y4.out⟩ (fun hd => ?_);clear hK K;refine nm ?_;refine pure_ (i := 9) (N := some 17) (v := ?_) (a' := ?_) #[bT, bT, bT, bT, bT, bT, bT, bT, bT, bT, bF, bF, bT, bF, bF] rfl rfl (by kernel_rfl) (fun _ _ _ h => h) (Or.inl ⟨by rfl, ?_⟩) ?_ ?_;rotate_left
    ·intro w'
     go_simp
     with_reducible rfl
    rotate_left
    ·simp only [Act.put, List.setIfInBounds_toArray, List.set_cons_zero, List.set_cons_succ, i64_w, i32_w]
     rfl
    refine pure_ (i := 10) (N := some 27) (v := ?_) (a' := ?_) #[bT, bT, bT, bT, bT, bT, bT, bT, bT, bT, bT, bF, bT, bF, bF] rfl rfl (by kernel_rfl) (fun _ _ _ h => h) (Or.inl ⟨by rfl, ?_⟩) ?_ ?_;rotate_left
    ·intro w'
     go_simp
     with_reducible rfl
    rotate_left
    ·simp only [Act.put, List.setIfInBounds_toArray, List.set_cons_zero, List.set_cons_succ, i64_w, i32_w]
     rfl
    refine pure_ (i := 11) (N := some 28) (v := ?_) (a' := ?_) #[bT, bT, bT, bT, bT, bT, bT, bT, bT, bT, bT, bT, bT, bF, bF] rfl rfl (by kernel_rfl) (fun _ _ _ h => h) (Or.inl ⟨by rfl, ?_⟩) ?_ ?_;rotate_left
    ·intro w'
     go_simp
     with_reducible rfl
    rotate_left
    ·simp only [Act.put, List.setIfInBounds_toArray, List.set_cons_zero, List.set_cons_succ, i64_w, i32_w]
     rfl
    exact nj (hCont gb _ ⟨hd, BK.out, GE.out, HBB.out⟩)
  rintro gb w4 ⟨hd, hbk, hge, hbb⟩;have BK := am hbk;have GE := am hge;clear HBB;have HBB := am hbb;clear hbk hge hbb;have b0 := blk_cell BK.out 0;have b1 := blk_cell BK.out 1;have f0 := blk_frozen BK.out 0;have f1 := blk_frozen BK.out 1;refine norm_ (a' := ?_) ?_ ?_;rotate_left
  ·simp only [putAll, Act.put, List.setIfInBounds_toArray, List.set_cons_zero, List.set_cons_succ]
   rfl
  refine last_ (i := 13) (N := none) #[bT, bT, bT, bT, bT, bT, bT, bT, bT, bT, bT, bT, bT, bT, bF] rfl rfl (by kernel_rfl) (by decide) (fun K hK => ?_);refine skip_ (w1 := ?_) (by rfl) rfl ?_ ?_;rotate_left
  ·go_simp
   rfl
  refine hK.out _ _ ?_;clear hK K;refine pure_ (i := 14) (N := some 7) (v := ?_) (a' := ?_) #[bT, bT, bT, bT, bT, bT, bT, bT, bT, bT, bT, bT, bT, bT, bT] rfl rfl (by kernel_rfl) (fun _ _ _ h => h) (Or.inl ⟨by rfl, ?_⟩) ?_ ?_;rotate_left
  ·intro w'
   go_simp
   with_reducible rfl
  rotate_left
  ·simp only [Act.put, List.setIfInBounds_toArray, List.set_cons_zero, List.set_cons_succ, i64_w, i32_w]
   rfl
  refine done_ (by kernel_rfl) ?_;have hge := GE.out;have HB5 := am (below_set (g := gb) (j := 1) (v := .int .u64 n2) (below_set (g := gb) (j := 0) (v := .int .u64 n1) (below_step HB2.out HBB.out) (by omega)) (by omega));clear b0 b1 f0 f1 hd BK HBB HB2 y0 y1 y2 y3 y4;generalize ((w4.setCell ⟨gb, 0, none⟩ (.int .u64 n1)).setCell ⟨gb, 1, none⟩ (.int .u64 n2)) = w5 at HB5 ⊢;go_wp2;go_ret;exact ⟨rfl, HB5.out⟩
theorem IndexFunc_calls (g : Nat) (lb : Array Value) (eg : ∀ args w, (callFunc g args).run Try.prog w = .ok (.enter g args) w) (p : S87 → Option Bool) (A0 : Option Addr) (c0 : Nat) (l0 : List S87) (r : Int) (w : World)
  (hr0 : Kd.C k87 w A0 l0.length l0) (hc0 : l0.length ≤ c0)
  (hp : ∀ (W : World) (x : S87) (b : Bool), Below w.heap.size w W → p x = some b → Calls Try.prog g (#[.agg #[.string x.f0, .int .u64 x.f1, .int .u64 x.f2.f0, .int .u64 x.f2.f1]] ++ lb) W fun e w' => e = .returned (.bool b) ∧ Below W.heap.size W w')
  (h : idxF p l0 0 = some r) :
  Calls Try.prog 80 #[.slice A0 l0.length c0, .func (.func g) #[] lb] w fun e w' => e = .returned (.int .i64 r) ∧ Below w.heap.size w w' := by
 have hn : l0.length ≤ 9223372036854775807 := hr0.2.1;have HH := am h;clear h;have HP := am hp;clear hp;have HR := am hr0;clear hr0;go_enter Try.func80, Try.ntmps80;go_wp2
 go_loopg [5, 8] l0.length (fun gg _ s8 wr => ∃ x8 : Int, s8 = .int .i64 x8 ∧ Aside0 (0 ≤ x8 ∧ x8 ≤ l0.length ∧ l0.length - x8.toNat ≤ gg) ∧ Aside0 (Below w.heap.size w wr) ∧ Aside0 (idxF p (l0.drop x8.toNat) x8 = some r))
 case atStart => exact ⟨0, rfl, ⟨by omega⟩, ⟨Below.refl _ w⟩, HH⟩
 case round =>
  clear HH;obtain ⟨x8, rfl, hk, BW, HH⟩ := hrel;obtain ⟨h0, h1, hg⟩ := hk.out;clear hk
  by_cases hlt : x8 < (l0.length : Int)
  ·obtain ⟨b, hb, hbr⟩ := idxF_at p l0 z87 x8 h0 hlt r HH.out;clear HH;obtain ⟨ad, e, hx0, hx1, hx2, hx3⟩ := at_T87 (Kd.C_below HR.out BW.out) x8 h0 hlt;cases e;have HC := am (HP.out wr (rd_T87 l0 x8) b BW.out hb);have HB := am hb;clear hb;have HBR := am hbr;clear hbr;have d0 : decide (0 ≤ x8) = true := decide_eq_true h0;have d1 : decide (x8 < (l0.length : Int)) = true := decide_eq_true hlt
   have w8 : wrap64 (x8 + 1) = x8 + 1 := by unfold wrap64; omega
   cases b with
   | true =>
    go_wp2_with fail;refine HC.out.mono ?_;rintro e w' ⟨rfl, hb'⟩;go_wp2;go_ret;exact ⟨by rw [show r = x8 from by rcases HBR.out with h | h <;> first | exact h.2 | exact absurd h.1 (by decide)]; rfl, below_then BW.out BW.out.size hb'⟩
   | false =>
    go_wp2_with fail;refine HC.out.mono ?_;rintro e w' ⟨rfl, hb'⟩;go_wp2
    go_roundg (l0.length - (x8 + 1).toNat)
    case measure => omega
    case rel => exact ⟨x8 + 1, by simp [w8], ⟨by omega⟩, ⟨below_then BW.out BW.out.size hb'⟩, ⟨by rcases HBR.out with h | h <;> first | exact absurd h.1 (by decide) | exact h.2⟩⟩
  ·have d1 : decide (x8 < (l0.length : Int)) = false := decide_eq_false hlt;have hr := idxF_end p l0 x8 hlt r HH.out;clear HH;subst hr;go_wp2;go_ret;exact ⟨rfl, BW.out⟩
theorem ContainsFunc_calls (g : Nat) (lb : Array Value) (eg : ∀ args w, (callFunc g args).run Try.prog w = .ok (.enter g args) w) (p : S87 → Option Bool) (A0 : Option Addr) (c0 : Nat) (l0 : List S87) (r : Bool) (w : World)
  (hr0 : Kd.C k87 w A0 l0.length l0) (hc0 : l0.length ≤ c0)
  (hp : ∀ (W : World) (x : S87) (b : Bool), Below w.heap.size w W → p x = some b → Calls Try.prog g (#[.agg #[.string x.f0, .int .u64 x.f1, .int .u64 x.f2.f0, .int .u64 x.f2.f1]] ++ lb) W fun e w' => e = .returned (.bool b) ∧ Below W.heap.size W w')
  (h : anyF p l0 = some r) :
  Calls Try.prog 74 #[.slice A0 l0.length c0, .func (.func g) #[] lb] w fun e w' => e = .returned (.bool r) ∧ Below w.heap.size w w' := by
 obtain ⟨i, hi, hr⟩ := Option.bind_eq_some_iff.1 h;clear h;have hR := am (Option.some.inj hr);clear hr;have HC := am (IndexFunc_calls g lb eg p A0 c0 l0 i w hr0 hc0 hp hi);clear hp hi hr0;go_enter Try.func74, Try.ntmps74;go_wp2_with fail;refine HC.out.mono ?_;rintro e w' ⟨rfl, hb⟩;go_wp2;go_ret;exact ⟨by rw [← hR.out]; rfl, hb⟩
def b_wraps.f (k : Nat) (a b c : Int) (d : List S87) (e g h : Int) (i : List S87) : Option Bool := anyF (wrapsOne k d) i
theorem b_wraps.mono : ∀ a0 a1 a2 a3 a4 a5 a6 a7 k, LeO (b_wraps.f k a0 a1 a2 a3 a4 a5 a6 a7) (b_wraps.f (k + 1) a0 a1 a2 a3 a4 a5 a6 a7) := fun _ _ _ a3 _ _ _ a7 k => anyF_leo (wrapsOne_leo k a3) a7
theorem b_wraps.calls (k : Nat) (ah ai aj : Int) (ad : Option Addr) (ae : Nat) (aa : List S87) (ak an ao : Int) (af : Option Addr) (ag : Nat) (ac : List S87) (r : Bool) (w : World) (ap : Kd.C k87 w ad aa.length aa) (au : aa.length ≤ ae) (aq : Kd.C k87 w af ac.length ac) (av : ac.length ≤ ag) (h : b_wraps.f k ah ai aj aa ak an ao ac = some r) :
  Calls Try.prog 59 #[.agg #[.int .u64 ah, .int .u64 ai, .int .i64 aj, .slice ad aa.length ae], .agg #[.int .u64 ak, .int .u64 an, .int .i64 ao, .slice af ac.length ag]] w fun e w' => e = .returned (.bool r) ∧ Below w.heap.size w w' := by
 have hu40 := Try.underlying40;have eg : ∀ args w, (callFunc 75 args).run Try.prog w = .ok (.enter 75 args) w := enter_at Try.func75 (by kernel_rfl) rfl;have HA := am h;have H0 := am ap;have H1 := am aq;clear h ap aq;go_enter Try.func59, Try.ntmps59;go_wp2_with fail;have ar : Below w.heap.size w _ := below_alloc (below_alloc (Below.refl _ _) (.cells #[.int .u64 ah, .int .u64 ai, .int .i64 aj, .slice ad aa.length ae] 40 (0, 0))) (.cells #[.int .u64 ak, .int .u64 an, .int .i64 ao, .slice af ac.length ag] 40 (0, 0));have hcell : World.cell? ((w.alloc (.cells #[.int .u64 ah, .int .u64 ai, .int .i64 aj, .slice ad aa.length ae] 40 (0, 0))).alloc (.cells #[.int .u64 ak, .int .u64 an, .int .i64 ao, .slice af ac.length ag] 40 (0, 0))) ⟨w.heap.size, 3, none⟩ = some (.slice ad aa.length ae) := blk_cell (blk_alloc (blk_new _ _) _) 3;refine (ContainsFunc_calls 75 #[.pointer (some ⟨w.heap.size, 0, none⟩)] eg (wrapsOne k aa) af ag ac r _ (Kd.C_below H1.out ar) av (fun W x b hB hh => closureWraps k aa ad ae w.heap.size x b W (pw_cell_below hB hcell) au (Kd.C_below (Kd.C_below H0.out ar) hB) hh) HA.out).mono ?_;rintro e w3 ⟨rfl, hb3⟩;go_wp2;go_ret;exact ⟨rfl, below_step ar hb3⟩
section
set_option maxHeartbeats 400000000
set_option maxRecDepth 100000

attribute [local go_sem high] eqA24
mutual
def b_Merge.j0 : Nat → Bool → Int → Int → Int → List (S87) → Int → Int → Int → List (S87) → Option (Int × Int × Int × (List (S87)) × Int)
 | 0, _, _, _, _, _, _, _, _, _ => none
 | k + 1, b, c, d, e, g, h, i, j, l => if b = true then (some (0, 0, 0, ([] : List (S87)), 1)) else (if (!(c == h) || (!(d == i))) = true then (some (0, 0, 0, ([] : List (S87)), 9)) else (if e = j then ((b_wraps.f k c d e g h i j l).bind fun a => (if a = true then (some (0, 0, 0, ([] : List (S87)), 12)) else (b_Merge.l0 k l (l.length : Int) 0 c d e g))) else (some (0, 0, 0, ([] : List (S87)), 10))))
def b_Merge.l0 : Nat → List (S87) → Int → Int → Int → Int → Int → List (S87) → Option (Int × Int × Int × (List (S87)) × Int)
 | 0, _, _, _, _, _, _, _ => none
 | k + 1, b, c, d, e, g, h, i => if d < c then (if 0 ≤ d then (if d < (b.length : Int) then ((b_add.f k e g h i ((rd_T87 b d).f0) ((rd_T87 b d).f1) ((rd_T87 b d).f2.f0) ((rd_T87 b d).f2.f1)).bind fun a => (b_Merge.l0 k b c (wrap64 (d + 1)) a.1 a.2.1 a.2.2.1 a.2.2.2.1)) else (none)) else (none)) else (some (e, g, h, i, 0))
end
def b_Merge.f (k : Nat) (a b c : Int) (d : List (S87)) (e g h : Int) (i : List (S87)) : Option (Int × Int × Int × (List (S87)) × Int) := (b_Right.f k a b c d).bind fun j => (if j = true then ((b_Right.f k e g h i).bind fun l => (b_Merge.j0 k (!l) a b c d e g h i)) else (b_Merge.j0 k true a b c d e g h i))
theorem b_Merge.mono_l : ∀ k, (∀ y0 y1 y2 y3 y4 y5 y6 y7 y8, LeO (b_Merge.j0 k y0 y1 y2 y3 y4 y5 y6 y7 y8) (b_Merge.j0 (k + 1) y0 y1 y2 y3 y4 y5 y6 y7 y8)) ∧ (∀ y0 y1 y2 y3 y4 y5 y6, LeO (b_Merge.l0 k y0 y1 y2 y3 y4 y5 y6) (b_Merge.l0 (k + 1) y0 y1 y2 y3 y4 y5 y6))
 | 0 => ⟨fun _ _ _ _ _ _ _ _ _ r h => by simp [b_Merge.j0] at h, fun _ _ _ _ _ _ _ r h => by simp [b_Merge.l0] at h⟩
 | k + 1 => by
  obtain ⟨ih0, ih1⟩ := b_Merge.mono_l k;refine ⟨?_, ?_⟩
  ·intro y0 y1 y2 y3 y4 y5 y6 y7 y8
   unfold b_Merge.j0
   with_reducible repeat' first | apply ih0 | apply ih1 | apply b_Right.mono | apply b_add.mono | apply b_wraps.mono | exact LeO.refl _ | exact LeO.none _ | refine LeO.ite ?_ ?_ | refine LeO.bind ?_ (fun _ => ?_)
  ·intro y0 y1 y2 y3 y4 y5 y6
   unfold b_Merge.l0
   with_reducible repeat' first | apply ih0 | apply ih1 | apply b_Right.mono | apply b_add.mono | apply b_wraps.mono | exact LeO.refl _ | exact LeO.none _ | refine LeO.ite ?_ ?_ | refine LeO.bind ?_ (fun _ => ?_)
theorem b_Merge.mono : ∀ a0 a1 a2 a3 a4 a5 a6 a7 k, LeO (b_Merge.f k a0 a1 a2 a3 a4 a5 a6 a7) (b_Merge.f (k + 1) a0 a1 a2 a3 a4 a5 a6 a7) := by
 intro a0 a1 a2 a3 a4 a5 a6 a7 k;obtain ⟨ih0, ih1⟩ := b_Merge.mono_l k
 unfold b_Merge.f
 with_reducible repeat' first | apply ih0 | apply ih1 | apply b_Right.mono | apply b_add.mono | apply b_wraps.mono | exact LeO.refl _ | exact LeO.none _ | refine LeO.ite ?_ ?_ | refine LeO.bind ?_ (fun _ => ?_)
theorem b_Merge.calls (k : Nat) (ap aq av : Int) (aG : Nat → Prop) (aE : Option Addr) (aF : Nat) (an : List (S87)) (aA aB aD : Int) (aL : Option Addr) (aM : Nat) (af : List (S87)) (r1 r2 r3 : Int) (r4 : List (S87)) (r5 : Int) (w : World) (bB : Kd.V k87 87 w w.heap.size (fun k_ => aG k_) (.slice aE an.length aF) an) (a9 : Kd.C k87 w aL af.length af) (a_ : af.length ≤ aM) (h : b_Merge.f k ap aq av an aA aB aD af = some (r1, r2, r3, r4, r5)) :
  Calls Try.prog 41 #[.agg #[.int .u64 ap, .int .u64 aq, .int .i64 av, .slice aE an.length aF], .agg #[.int .u64 aA, .int .u64 aB, .int .i64 aD, .slice aL af.length aM]] w fun e w' => ∃ bD : Value, e = .returned (.tuple #[.agg #[.int .u64 r1, .int .u64 r2, .int .i64 r3, bD], .int .i64 r5]) ∧ Kd.V k87 87 w' w.heap.size (fun k_ => (aG k_ ∨ w.heap.size ≤ k_)) bD r4 ∧ Below w.heap.size w w' := by
 have hu40 := Try.underlying40;have hu24 := Try.underlying24;have hu87 := Try.underlying87;have ai := am (show Kd.V k87 87 w w.heap.size (fun k_ => (aG k_ ∨ w.heap.size ≤ k_)) (.slice aE an.length aF) an from Kd.V_mono bB (fun k_ hk => .inl hk));have aP := am a9;have aZ := am a_;clear a9 a_;have HB := am (Below.refl w.heap.size w);unfold b_Merge.f at h;have H := h;clear h;have bu := am H;clear H
 go_enter Try.func41, Try.ntmps41;go_upto_region 1 with (first | (refine bE 2 #[.int .u64 ap, .int .u64 aq, .int .i64 av, .slice aE an.length aF] 40 ?_; intro aI hg w4 aa hb; replace ai := ve ai hg hb; have b_ := gq hg HB; replace HB := lb HB hb; clear hb hg) | (refine bE 3 #[.int .u64 aA, .int .u64 aB, .int .i64 aD, .slice aL af.length aM] 40 ?_; intro aJ hg w5 ae hb; replace ai := ve ai hg hb; have ca := gq hg HB; replace HB := lb HB hb; obtain ⟨ao, aj, -, -⟩ := pm hg aa; replace aa := kb aa hb; clear hb hg) | (refine bE 4 #[.int .u64 0, .int .u64 0, .int .i64 0, .slice none 0 0] 40 ?_; intro aC hg w6 ad hb; replace ai := ve ai hg hb; have cb := gq hg HB; replace HB := lb HB hb; obtain ⟨ak, ah, -, -⟩ := pm hg aa; replace aa := kb aa hb; obtain ⟨ar, au, -, -⟩ := pm hg ae; replace ae := kb ae hb; clear hb hg));(try simp only [Act.put, List.setIfInBounds_toArray, List.set_cons_zero, List.set_cons_succ])
 go_cut [8] (fun v8 wc => ∃ (kq : Nat) (a0 : Bool), v8 = .bool a0 ∧ Aside0 (b_Merge.j0 kq a0 ap aq av an aA aB aD af = some (r1, r2, r3, r4, r5)) ∧ Aside0 (kq ≤ k) ∧ Aside0 (Kd.V k87 87 wc w.heap.size (fun k_ => (aG k_ ∨ w.heap.size ≤ k_) ∧ k_ ≠ aI ∧ k_ ≠ aJ ∧ k_ ≠ aC) (.slice aE an.length aF) an) ∧ Aside0 (wc.heap[aI]? = some (.cells #[.int .u64 ap, .int .u64 aq, .int .i64 av, (.slice aE an.length aF)] 40 (0, 0))) ∧ Aside0 (wc.heap[aJ]? = some (.cells #[.int .u64 aA, .int .u64 aB, .int .i64 aD, (.slice aL af.length aM)] 40 (0, 0))) ∧ Aside0 (wc.heap[aC]? = some (.cells #[.int .u64 0, .int .u64 0, .int .i64 0, (.slice none 0 0)] 40 (0, 0))) ∧ Aside0 (Below w.heap.size w wc))
 case first =>
  have H := bu.out;clear bu;obtain ⟨bL, A7, H⟩ := ob H;(try dsimp only at H)
  by_cases c8 : bL = true
  ·subst c8;rw [if_pos rfl] at H;obtain ⟨bv, A9, H⟩ := ob H;(try dsimp only at H);have H' := am H;clear H;have cc := ao.out;have cd := aj.out;have cf := ak.out;have cg := ah.out;have aR := g4 aa;go_wp2_with (first | (refine gl (some 10) Try.func31 #[.agg #[.int .u64 ap, .int .u64 aq, .int .i64 av, .slice aE an.length aF]] ?_; (with_reducible refine (b_Right.calls k ap aq av _ _ an true _ ?side1 ?side2 A7.out).mono ?_); (case side1 => exact pc (Kd.V_reads' ai.out).2.2); (case side2 => exact (Kd.V_reads' ai.out).2.1); rintro e dj ⟨rfl, hb⟩; refine ⟨_, rfl, ?_⟩; replace ai := vb ai hb; replace aa := kb aa hb; replace ae := kb ae hb; replace ad := kb ad hb; replace HB := lb HB hb; clear hb; have ch := ar.out; have ci := au.out; have aS := g4 ae) | (go_at_call 31; (with_reducible refine (b_Right.calls k aA aB aD _ _ af bv _ ?side1 ?side2 A9.out).mono ?_); (case side1 => exact pc (Kd.C_below aP.out HB.out)); (case side2 => exact aZ.out); rintro e dk ⟨rfl, hb⟩; replace ai := vb ai hb; replace aa := kb aa hb; replace ae := kb ae hb; replace ad := kb ad hb; replace HB := lb HB hb; clear hb));go_meet
   case rel => exact ⟨_, (!bv), eR, H', el, ⟨by refine pv ?_; exact Kd.V_mono ai.out (fun _ hk => ⟨hk.1.1.1, ⟨hk.1.1.2, ⟨hk.1.2, hk.2⟩⟩⟩)⟩, ⟨pk aa.out⟩, ⟨pk ae.out⟩, ⟨pk ad.out⟩, ⟨pb HB⟩⟩
  ·replace c8 := nt c8;subst c8;rw [if_neg nf] at H;have H' := am H;clear H;have cj := ao.out;have ck := aj.out;have cl := ak.out;have cm := ah.out;have aT := g4 aa;go_wp2_with (first | (refine gl (some 10) Try.func31 #[.agg #[.int .u64 ap, .int .u64 aq, .int .i64 av, .slice aE an.length aF]] ?_; (with_reducible refine (b_Right.calls k ap aq av _ _ an false _ ?side1 ?side2 A7.out).mono ?_); (case side1 => exact pc (Kd.V_reads' ai.out).2.2); (case side2 => exact (Kd.V_reads' ai.out).2.1); rintro e dl ⟨rfl, hb⟩; refine ⟨_, rfl, ?_⟩; replace ai := vb ai hb; replace aa := kb aa hb; replace ae := kb ae hb; replace ad := kb ad hb; replace HB := lb HB hb; clear hb));go_meet
   case rel => exact ⟨_, (true), eR, H', el, ⟨by refine pv ?_; exact Kd.V_mono ai.out (fun _ hk => ⟨hk.1.1.1, ⟨hk.1.1.2, ⟨hk.1.2, hk.2⟩⟩⟩)⟩, ⟨pk aa.out⟩, ⟨pk ae.out⟩, ⟨pk ad.out⟩, ⟨pb HB⟩⟩
 case rest =>
  clear bu;obtain ⟨kq, a0, rfl, HA, bF, ac, aa, ae, ad, HB⟩ := hcut
  cases kq with
  | zero => exact absurd HA.out (by simp [b_Merge.j0])
  | succ ba =>
   have H := HA.out;clear HA;simp only [b_Merge.j0] at H
   by_cases a1 : a0 = true
   ·subst a1;rw [if_pos rfl] at H;obtain ⟨rfl, rfl, rfl, rfl, rfl⟩ := J5 H;have cn := ah.out;have cp := ak.out;have cq := au.out;have cr := ar.out;have bj := g4 ad;go_wp2;refine bodyPost_ret (results_ct rfl _ _ _ _ _ _ _ rfl (s4 rfl ad).out Try.underlying40 rfl (by kernel_rfl)) rfl ?_;exact ⟨_, ey (h := ⟨Kd.V_nil _ _ _ _ _, pb HB⟩)⟩
   ·replace a1 := nt a1;subst a1;rw [if_neg nf] at H
    by_cases aQ : (!(ap == aA) || (!(aq == aB))) = true
    ·rw [if_pos aQ] at H;have bb : (!(ap == aA) || (!(aq == aB))) = true := aQ;clear aQ;obtain ⟨rfl, rfl, rfl, rfl, rfl⟩ := J5 H;have cs := ao.out;have ct := aj.out;have cu := ak.out;have cv := ah.out;have bk := g4 aa;have cw := ar.out;have cx := au.out;have bl := g4 ae;have bm := g4 ad;go_wp2;refine bodyPost_ret (results_ct rfl _ _ _ _ _ _ _ rfl (s4 rfl ad).out Try.underlying40 rfl (by kernel_rfl)) rfl ?_;exact ⟨_, ey (h := ⟨Kd.V_nil _ _ _ _ _, pb HB⟩)⟩
    ·rw [if_neg aQ] at H
     have bb : (!(ap == aA) || (!(aq == aB))) = false := by simpa using aQ
     clear aQ
     by_cases aO : av = aD
     ·rw [if_pos aO] at H;have bc := beq_iff_eq.mpr aO;have bd := bne_eq_false_iff_eq.mpr aO;clear aO;obtain ⟨bM, bG, H⟩ := ob H;(try dsimp only at H)
      by_cases a2 : bM = true
      ·subst a2;rw [if_pos rfl] at H;obtain ⟨rfl, rfl, rfl, rfl, rfl⟩ := J5 H;have cy := ao.out;have cz := aj.out;have cA := ak.out;have cB := ah.out;have bn := g4 aa;have cC := ar.out;have cD := au.out;have bo := g4 ae;go_wp2_with (first | (refine gl (some 35) Try.func59 #[.agg #[.int .u64 ap, .int .u64 aq, .int .i64 av, .slice aE an.length aF], .agg #[.int .u64 aA, .int .u64 aB, .int .i64 aD, .slice aL af.length aM]] ?_; (with_reducible refine (b_wraps.calls ba ap aq av _ _ an aA aB aD _ _ af true _ ?side1 ?side2 ?side3 ?side4 bG.out).mono ?_); (case side1 => exact pc (Kd.V_reads' ac.out).2.2); (case side2 => exact (Kd.V_reads' ac.out).2.1); (case side3 => exact pc (Kd.C_below aP.out HB.out)); (case side4 => exact aZ.out); rintro e dm ⟨rfl, hb⟩; refine ⟨_, rfl, ?_⟩; replace ac := vb ac hb; replace aa := kb aa hb; replace ae := kb ae hb; replace ad := kb ad hb; replace HB := lb HB hb; clear hb; have bp := g4 ad));refine bodyPost_ret (results_ct rfl _ _ _ _ _ _ _ rfl (s4 rfl ad).out Try.underlying40 rfl (by kernel_rfl)) rfl ?_;exact ⟨_, ey (h := ⟨Kd.V_nil _ _ _ _ _, pb HB⟩)⟩
      ·replace a2 := nt a2;subst a2;rw [if_neg nf] at H;have H' := am H;clear H;have cE := ao.out;have cF := aj.out;have cG := ak.out;have cH := ah.out;have bq := g4 aa;have cI := ar.out;have cJ := au.out;have br := g4 ae;go_wp2_with (first | (refine gl (some 35) Try.func59 #[.agg #[.int .u64 ap, .int .u64 aq, .int .i64 av, .slice aE an.length aF], .agg #[.int .u64 aA, .int .u64 aB, .int .i64 aD, .slice aL af.length aM]] ?_; (with_reducible refine (b_wraps.calls ba ap aq av _ _ an aA aB aD _ _ af false _ ?side1 ?side2 ?side3 ?side4 bG.out).mono ?_); (case side1 => exact pc (Kd.V_reads' ac.out).2.2); (case side2 => exact (Kd.V_reads' ac.out).2.1); (case side3 => exact pc (Kd.C_below aP.out HB.out)); (case side4 => exact aZ.out); rintro e dn ⟨rfl, hb⟩; refine ⟨_, rfl, ?_⟩; replace ac := vb ac hb; replace aa := kb aa hb; replace ae := kb ae hb; replace ad := kb ad hb; replace HB := lb HB hb; clear hb; have bs := g4 ae))
       go_loopg [40] ba (fun kq b7 w' => ∃ (ag aw ax ay : Int) (az : List (S87)) (aN : Value), b7 = .int .i64 ag ∧ Aside0 (b_Merge.l0 kq af (af.length : Int) ag aw ax ay az = some (r1, r2, r3, r4, r5)) ∧ Aside0 (kq ≤ ba) ∧ Aside0 (Kd.V k87 87 w' w.heap.size (fun k_ => (aG k_ ∨ w.heap.size ≤ k_) ∧ k_ ≠ aI ∧ k_ ≠ aJ ∧ k_ ≠ aC) aN az) ∧ Aside0 (w'.heap[aI]? = some (.cells #[.int .u64 aw, .int .u64 ax, .int .i64 ay, aN] 40 (0, 0))) ∧ Aside0 (w'.heap[aJ]? = some (.cells #[.int .u64 aA, .int .u64 aB, .int .i64 aD, (.slice aL af.length aM)] 40 (0, 0))) ∧ Aside0 (w'.heap[aC]? = some (.cells #[.int .u64 0, .int .u64 0, .int .i64 0, (.slice none 0 0)] 40 (0, 0))) ∧ Aside0 (Below w.heap.size w w'))
       case atStart => exact ⟨(0), (ap), (aq), (av), (an), (.slice aE an.length aF), eR, H', ⟨Nat.le_refl _⟩, ⟨pv ac.out⟩, ⟨pk aa.out⟩, ⟨pk ae.out⟩, ⟨pk ad.out⟩, ⟨pb HB⟩⟩
       case round =>
        clear H' bb bc bd bq br bs;obtain ⟨ag, aw, ax, ay, az, aN, rfl, HA, HK2, ac, aa, ae, ad, HB⟩ := hrel
        cases gk with
        | zero => exact absurd HA.out (by simp [b_Merge.l0])
        | succ k2 =>
         have H := HA.out;clear HA;simp only [b_Merge.l0] at H
         by_cases aU : ag < (af.length : Int)
         ·rw [if_pos aU] at H;have bC := decide_eq_true aU;clear aU
          by_cases bg : 0 ≤ ag
          ·rw [if_pos bg] at H;have cK := decide_eq_true bg;clear bg
           by_cases bh : ag < (af.length : Int)
           ·rw [if_pos bh] at H;have cL := decide_eq_true bh;clear bh;obtain ⟨⟨bw, bz, bA, a6, bN⟩, b8, H⟩ := ob H;(try dsimp only at H);have H' := am H;clear H;have a7 : 0 ≤ (ag : Int) := od;have a8 : ag < (af.length : Int) := od;obtain ⟨cM, bO, aV, aW, aX, aY⟩ := at_T87 aP.out ag a7 a8;cases bO;replace aV := hQ HB aV;replace aW := hQ HB aW;replace aX := hQ HB aX;replace aY := hQ HB aY;replace a7 := eq_true a7;replace a8 := eq_true a8
            go_wp2_with (first | (refine bE 7 #[.string (⟨#[]⟩ : ByteArray), .int .u64 0, .int .u64 0, .int .u64 0] 87 ?_; intro aK hg b9 aH hb; replace ac := ve ac hg hb; have cN := gq hg HB; replace HB := lb HB hb; obtain ⟨a3, bH, cO, cP⟩ := pm hg aa; replace aa := kb aa hb; obtain ⟨a4, bI, cQ, cR⟩ := pm hg ae; replace ae := kb ae hb; obtain ⟨a5, bJ, cS, cT⟩ := pm hg ad; replace ad := kb ad hb; clear hb hg; have bY := g4 aH) | ((with_reducible refine gate_store (t := 87) (p := 7) rfl ?_); refine store_event (t := 87) (p := 7) (v := ?vo_w58) (w1 := ((((b9.setCell ⟨aK, 0, none⟩ (.string ((rd_T87 af ag).f0))).setCell ⟨aK, 1, none⟩ (.int .u64 ((rd_T87 af ag).f1))).setCell ⟨aK, 2, none⟩ (.int .u64 ((rd_T87 af ag).f2.f0))).setCell ⟨aK, 3, none⟩ (.int .u64 ((rd_T87 af ag).f2.f1)))) ?hg ?ho ?hn ?hr ?_; (case ho => rfl); (case hg => rfl); (case hn => rfl); (case hr => first | (go_simp; done) | (go_simp; rfl)); intro dp hw; replace ac := vf (f4 hw) ac (fun _ hk => hk.2); replace aa := bf (f4 hw) aa a3.out; replace ae := bf (f4 hw) ae a4.out; replace ad := bf (f4 hw) ad a5.out; replace aH := s4 hw aH; replace HB := lf (f4 hw) HB; (try simp only [and_assoc] at ac); clear hw; have cU := ao.out; have cV := aj.out; have cW := ak.out; have cX := ah.out; have bZ := g4 aa; have b0 := g4 aH; obtain ⟨bP, bQ, bR⟩ := Kd.V_slice ac.out; subst bR) | (refine gl (some 47) Try.func32 #[.agg #[.int .u64 aw, .int .u64 ax, .int .i64 ay, .slice bP az.length bQ], .agg #[.string ((rd_T87 af ag).f0), .int .u64 ((rd_T87 af ag).f1), .int .u64 ((rd_T87 af ag).f2.f0), .int .u64 ((rd_T87 af ag).f2.f1)]] ?_; (with_reducible refine (b_add.calls k2 aw ax ay (fun k_ => ((aG k_ ∨ w.heap.size ≤ k_) ∧ (k_ ≠ aI ∧ (k_ ≠ aJ ∧ (k_ ≠ aC ∧ k_ ≠ aK))))) _ _ az ((rd_T87 af ag).f0) ((rd_T87 af ag).f1) ((rd_T87 af ag).f2.f0) ((rd_T87 af ag).f2.f1) bw bz bA a6 bN _ ?side1 b8.out).mono ?_); (case side1 => exact ac.out); rintro e dq ⟨di, rfl, bK, hb⟩; refine ⟨_, rfl, ?_⟩; replace ac := vb ac hb; have bi := am (Kd.V_lower (Kd.V_mono (ok' := fun k_ => (aG k_ ∨ w.heap.size ≤ k_) ∧ k_ ≠ aI ∧ k_ ≠ aJ ∧ k_ ≠ aC ∧ k_ ≠ aK) bK (fun k_ hk_ => ⟨Or.elim hk_ (fun hs_ => hs_.1) (fun hn_ => (.inr (Nat.le_trans (below_size (pb HB)) hn_))), hk_.elim (·.2.1) (nb aa k_ ·), hk_.elim (·.2.2.1) (nb ae k_ ·), hk_.elim (·.2.2.2.1) (nb ad k_ ·), hk_.elim (·.2.2.2.2) (nb aH k_ ·)⟩)) (below_size (pb HB))); replace aa := kb aa hb; replace ae := kb ae hb; replace ad := kb ad hb; replace aH := kb aH hb; replace HB := lb HB hb; clear hb bK; have b1 := g4 aa; obtain ⟨bS, bT, bU⟩ := Kd.V_slice bi.out; subst bU))
            go_roundg k2
            case measure => have := bF.out; have := HK2.out; omega
            case rel => exact ⟨(wrap64 (ag + 1)), (bw), (bz), (bA), (a6), (.slice bS a6.length bT), eR, H', ⟨by have := bF.out; have := HK2.out; omega⟩, ⟨Kd.V_mono (vf (f4 rfl) bi fun _ hk => hk.2.1).out (fun _ hk => ⟨hk.1, ⟨hk.2.1, ⟨hk.2.2.1, hk.2.2.2.1⟩⟩⟩)⟩, ⟨(s4 rfl aa).out⟩, ⟨(bf (f4 rfl) ae aj.out).out⟩, ⟨(bf (f4 rfl) ad ah.out).out⟩, ⟨pb HB⟩⟩
           ·exact (na bh H).elim
          ·exact (na bg H).elim
         ·rw [if_neg aU] at H;have bC := decide_eq_false aU;clear aU;obtain ⟨rfl, rfl, rfl, rfl, rfl⟩ := J5 H;have cY := ao.out;have cZ := aj.out;have c0 := ak.out;have c_ := ah.out;have b2 := g4 aa;have da := au.out;have db := ar.out;have b3 := g4 ad;obtain ⟨bV, bW, bX⟩ := Kd.V_slice ac.out;subst bX;go_wp2;refine bodyPost_ret (results_ct rfl _ _ _ _ _ _ _ rfl (s4 rfl ad).out Try.underlying40 rfl (by kernel_rfl)) rfl ?_;exact ⟨_, ey (h := ⟨Kd.V_mono (vf (f4 rfl) ac fun _ hk => hk.2.2.2).out (fun _ hk => hk.1), pb HB⟩)⟩
     ·rw [if_neg aO] at H;have bc := beq_eq_false_iff_ne.mpr aO;have bd := bne_iff_ne.mpr aO;obtain ⟨rfl, rfl, rfl, rfl, rfl⟩ := J5 H;have dc := ao.out;have dd := aj.out;have de := ak.out;have df := ah.out;have b4 := g4 aa;have dg := ar.out;have dh := au.out;have b5 := g4 ae;have b6 := g4 ad;go_wp2;refine bodyPost_ret (results_ct rfl _ _ _ _ _ _ _ rfl (s4 rfl ad).out Try.underlying40 rfl (by kernel_rfl)) rfl ?_;exact ⟨_, ey (h := ⟨Kd.V_nil _ _ _ _ _, pb HB⟩)⟩
end
end Go.Proofs.Ytpbiobbddgipkaa.H
