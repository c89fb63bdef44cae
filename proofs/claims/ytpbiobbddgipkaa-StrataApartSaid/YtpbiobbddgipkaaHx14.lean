import Derived.Test.YtpbiobbddgipkaaHx0
import Derived.Test.YtpbiobbddgipkaaHx7
import Derived.Test.YtpbiobbddgipkaaHx8
import Derived.Test.YtpbiobbddgipkaaHx11
import Derived.Test.YtpbiobbddgipkaaHx12
import Derived.Test.YtpbiobbddgipkaaHx13
namespace Go.Proofs.Ytpbiobbddgipkaa.H
open Go.RowKit Go.Proofs.YtpbiobbddgipkaaW.PrintWords Go.Proofs.YtpbiobbddgipkaaW.PrintLast Go.Proofs.YtpbiobbddgipkaaW.PrintMore Go.Proofs.YtpbiobbddgipkaaW.Sq
attribute [local go_sem] max2_int min2_int max_two min_two max_three min_three max_four min_four
set_option linter.unusedVariables false
set_option linter.unusedSimpArgs false

set_option maxHeartbeats 4000000 in
set_option maxRecDepth 100000 in
theorem Insert_endL (base : Nat) (v : Value) (n : Nat) (cs xs : List Value) (vb : Nat) (w : World) (hown : w.ownsRow base 42 6 v n cs) (hx : w.heap[vb]? = some (.cells xs.toArray 42 (0, 0))) (hxl : xs.length = 6) (h1x : ∀ u ∈ xs, u.oneCell' = true)
  (hl : (n + 1) * 72 ≤ 140737488355328) (hb : base ≤ w.heap.size) :
  Calls Try.prog 44 #[v, .int .i64 n, .slice (some ⟨vb, 0, none⟩) 1 1] w fun e w' => ∃ v1, e = .returned v1 ∧ w'.ownsRow base 42 6 v1 (n + 1) (cs ++ xs) ∧ w.grownBy w' v.ownBlock ∧ (v1.ownBlock = v.ownBlock ∨ v1.ownBlock = some w.heap.size) := by
 obtain ⟨i0, hi0, hz⟩ : ∃ i0, Try.prog.info? 42 = some i0 ∧ i0.zero = some (.agg #[.string ⟨#[]⟩, .int .u64 0, .int .u64 0, .int .u64 0, .int .i64 0, .slice none 0 0]) ∧ i0.size = 6 ∧ i0.bytes = 72 := by
  have h : (Try.prog.info? 42).map (fun i => (i.zero, i.size, i.bytes)) = some (some (.agg #[.string ⟨#[]⟩, .int .u64 0, .int .u64 0, .int .u64 0, .int .i64 0, .slice none 0 0]), 6, 72) := by kernel_rfl
  obtain ⟨i0, h0, h1⟩ := Option.map_eq_some_iff.1 h
  simp only [Prod.mk.injEq] at h1
  exact ⟨i0, h0, h1⟩
 have hu := Try.underlying26
 have hnews : ∀ j u, xs[j]? = some u → w.cell? ((⟨vb, 0, none⟩ : Addr).add j) = some u := fun j u hj => by rw [add_at, Nat.zero_add, blk_cell hx]; simpa using hj
 have HO := am hown
 obtain ⟨A, c, rfl⟩ : ∃ A c, v = .slice A n c := by
  rcases hown.2 with ⟨rfl, rfl⟩ | ⟨g, cap, cur, rfl, _⟩
  ·exact ⟨_, _, rfl⟩
  ·exact ⟨_, _, rfl⟩
 have hc : n ≤ c := own_le hown
 clear hown
 have HI := am (And.intro hi0 hz)
 clear hi0 hz hx
 cases A with
 | none =>
  have h0 : n = 0 ∧ c = 0 := by
   rcases HO.out.2 with ⟨h, h2⟩ | ⟨g, cap, cur, h, _⟩
   ·injection h with _ _ h3; exact ⟨h2, h3⟩
   ·injection h with h _ _; cases h
  obtain ⟨rfl, rfl⟩ := h0
  go_enter Try.func44, Try.ntmps44
  go_wp2_with (at_builtin; refine wpList_append_own_at w rfl (.tmp 23) (.tmp 24) 26 rfl base 42 i0 _ 6 72 hu HI.out.1 HI.out.2.1 HI.out.2.2.1 HI.out.2.2.2 rfl (by decide) _ _ _ rfl HO.out ⟨vb, 0, none⟩ 1 1 xs rfl (by omega) hnews h1x (by unfold maxLen; omega) hl hb ?_; rintro v1 w1 ho1 hg1 _ hat1)
  go_ret
  exact ⟨_, rfl, ho1, hg1, hat1⟩
 | some ad =>
  obtain ⟨g, rfl⟩ : ∃ g, ad = ⟨g, 0, none⟩ := by
   rcases HO.out.2 with ⟨h, _⟩ | ⟨g, cap, cur, h, _⟩
   ·injection h with h; cases h
   ·injection h with h; injection h with h; exact ⟨g, h⟩
  go_enter Try.func44, Try.ntmps44
  go_wp2_with (at_builtin; refine wpList_append_own_at w rfl (.tmp 23) (.tmp 24) 26 rfl base 42 i0 _ 6 72 hu HI.out.1 HI.out.2.1 HI.out.2.2.1 HI.out.2.2.2 rfl (by decide) _ _ _ rfl HO.out ⟨vb, 0, none⟩ 1 1 xs rfl (by omega) hnews h1x (by unfold maxLen; omega) hl hb ?_; rintro v1 w1 ho1 hg1 _ hat1)
  all_goals (go_ret; exact ⟨_, rfl, ho1, hg1, hat1⟩)
set_option maxHeartbeats 4000000 in
set_option maxRecDepth 100000 in
theorem Insert_shiftL (base g i n c vb : Nat) (cs xs : List Value) (w : World) (hi : i < n) (hroom : n + 1 ≤ c) (hown : w.ownsRow base 42 6 (.slice (some ⟨g, 0, none⟩) n c) n cs) (hx : w.heap[vb]? = some (.cells xs.toArray 42 (0, 0))) (hxl : xs.length = 6) (h1c : ∀ u ∈ cs, u.oneCell' = true) (h1x : ∀ u ∈ xs, u.oneCell' = true) (hvb : vb ≠ g) (hb : base ≤ w.heap.size) :
  Calls Try.prog 44 #[.slice (some ⟨g, 0, none⟩) n c, .int .i64 i, .slice (some ⟨vb, 0, none⟩) 1 1] w fun e w' => e = .returned (.slice (some ⟨g, 0, none⟩) (n + 1) c) ∧ w'.ownsRow base 42 6 (.slice (some ⟨g, 0, none⟩) (n + 1) c) (n + 1) (cs.take (i * 6) ++ xs ++ cs.drop (i * 6)) ∧ Below base w w' ∧ (∀ k, k ≠ g → w'.heap[k]? = w.heap[k]?) := by
 have hu := Try.underlying26
 obtain ⟨cap, cur, hbg, hgc, hncap, hcm, hcs, htk, hcl⟩ : ∃ cap cur, base ≤ g ∧ w.heap[g]? = some (.cells cur 42 (0, 0)) ∧ n ≤ cap ∧ cap ≤ maxLen ∧ cur.size = cap * 6 ∧ cur.toList.take (n * 6) = cs ∧ cap = c := by
  rcases hown.2 with ⟨h, _⟩ | ⟨g', cap, cur, h, h1, h2, h3, h4, h5, h6⟩
  ·injection h with h; cases h
  ·injection h with h _ h7; injection h with h; injection h with h; subst h; exact ⟨cap, cur, h1, h2, h3, h4, h5, h6, h7.symm⟩
 subst hcl
 have hcl : cs.length = n * 6 := hown.1
 have hov : ∀ lb cb, (callFunc 60 #[.slice (some ⟨vb, 0, none⟩) 1 1, .slice (some ⟨g, (i + 1) * 6, none⟩) lb cb]).run Try.prog w = .ok (.value (.bool false)) w := fun lb cb => by
  rw [run_callFunc_extern Try.func60 (by kernel_rfl) (by kernel_rfl) (by kernel_rfl) (e := Extern.SlicesOverlaps.overlaps #[26, 26] #[4]) (by kernel_rfl),
   Lib.run_overlaps_apart w 26 4 42 hu 6 (fun W => by
    obtain ⟨i0, h0, h1⟩ := Option.map_eq_some_iff.1 (show (Try.prog.info? 42).map (·.size) = some 6 by kernel_rfl)
    simp [Go.sizeOf, typeInfo, h0, h1]) ⟨vb, 0, none⟩ ⟨g, (i + 1) * 6, none⟩ 1 1 lb cb hvb 42 42 6 (cap * 6) (by simp [World.shape?, hx, hxl]) (by simp [World.shape?, hgc, hcs]) (by omega) (blk_frozen hx 0) (blk_frozen hx 6)]
  rfl
 have hsz : (Try.prog.info? 42).map (·.size) = some 6 := by kernel_rfl
 have hcs' : ∀ j v, cs[j]? = some v → cur[j]? = some v := fun j v hj => by
  rw [← htk, List.getElem?_take] at hj
  split at hj
  ·simpa using hj
  ·cases hj
 have hdl : (cs.drop (i * 6)).length = (n - i) * 6 := by rw [List.length_drop, hcl, Nat.sub_mul]
 have hcp1 : ∀ ty dc sc, (Builtin.copy_ #[26, 26] ty #[.slice (some ⟨g, (i + 1) * 6, none⟩) (n - i) dc, .slice (some ⟨g, i * 6, none⟩) (n + 1 - i) sc]).run Try.prog w.drew = .ok (goInt (Nat.min (n + 1 - i) (n - i))) (w.drew.setCells g ((i + 1) * 6) (cs.drop (i * 6))) := fun ty dc sc =>
  run_copyK w.drew 26 26 ty 42 6 g ((i + 1) * 6) (n - i) dc ⟨g, i * 6, none⟩ (n + 1 - i) sc (cs.drop (i * 6)) hu hsz
   (by rw [hdl]; congr 1; simp only [Nat.min_def]; split <;> omega)
   (fun j v hj => by
    rw [List.getElem?_drop] at hj
    rw [add_at, blk_cell (blk_drew hgc)]
    exact hcs' _ v hj)
   (fun j hj => by
    rw [hdl] at hj
    rw [blk_cell (blk_drew hgc), Array.getElem?_eq_getElem (by rw [hcs]; omega)]; rfl)
   (fun j hj => blk_frozen (blk_drew hgc) _) (fun v hv => h1c v (List.mem_of_mem_drop hv))
 obtain ⟨cur1, hg1, hs1, hl1⟩ := setCells_blk g 42 (cs.drop (i * 6)) ((i + 1) * 6) w.drew cur (blk_drew hgc) (by rw [hdl, hcs]; omega)
 have hx1 : (w.drew.setCells g ((i + 1) * 6) (cs.drop (i * 6))).heap[vb]? = some (.cells xs.toArray 42 (0, 0)) := by rw [setCells_heap g _ _ _ vb hvb]; exact hx
 have HF : Aside0 (World.ownsRow ((w.drew.setCells g ((i + 1) * 6) (cs.drop (i * 6))).setCells g (i * 6) xs) base 42 6 (.slice (some ⟨g, 0, none⟩) (n + 1) cap) (n + 1) (cs.take (i * 6) ++ xs ++ cs.drop (i * 6))) := ⟨by
  obtain ⟨cur2, hg2, hs2, hl2⟩ := setCells_blk g 42 xs (i * 6) _ cur1 hg1 (by rw [hxl, hs1, hcs]; omega)
  refine ⟨by simp only [List.length_append, List.length_take, List.length_drop, hxl, hcl]; omega, .inr ⟨g, cap, cur2, rfl, hbg, hg2, hroom, hcm, by rw [hs2, hs1, hcs], ?_⟩⟩
  exact shift_list cur.toList cs xs 6 i n hi htk (by rw [Array.length_toList, hcs]; omega) hxl cur1.toList cur2.toList hl1 hl2⟩
 obtain ⟨W1, hW1⟩ : ∃ W1, W1 = w.drew.setCells g ((i + 1) * 6) (cs.drop (i * 6)) := ⟨_, rfl⟩
 rw [← hW1] at hcp1 hg1 hx1
 have hcp2 : ∀ (W : World), W.heap = W1.heap → ∀ ty dc, (Builtin.copy_ #[26, 26] ty #[.slice (some ⟨g, i * 6, none⟩) (n + 1 - i) dc, .slice (some ⟨vb, 0, none⟩) 1 1]).run Try.prog W = .ok (goInt (Nat.min 1 (n + 1 - i))) (W.setCells g (i * 6) xs) := fun W hW ty dc => by
  have hgW : W.heap[g]? = some (.cells cur1 42 (0, 0)) := by rw [hW]; exact hg1
  have hxW : W.heap[vb]? = some (.cells xs.toArray 42 (0, 0)) := by rw [hW]; exact hx1
  exact run_copyK W 26 26 ty 42 6 g (i * 6) (n + 1 - i) dc ⟨vb, 0, none⟩ 1 1 xs hu hsz (by rw [hxl]; simp only [Nat.min_def]; split <;> omega)
   (fun j v hj => by rw [add_at, Nat.zero_add, blk_cell hxW]; simpa using hj)
   (fun j hj => by rw [blk_cell hgW, Array.getElem?_eq_getElem (by rw [hs1, hcs]; omega)]; rfl)
   (fun j hj => blk_frozen hgW _) h1x
 have HX := am hx
 have HG := am hgc
 have HG1 := am hg1
 have HO := am hown
 clear hx hgc hown hg1 hx1
 have hz2 : ¬ ((i : Int) = (n : Int)) := by omega
 have hb1 : (0 : Int) ≤ (i : Int) + 1 := by omega
 have htn : ((i : Int) + 1).toNat = i + 1 := by omega
 have hin : i ≤ n := by omega
 have hb2 : ¬ (cap = i + 1) := by omega
 have hb3 : (i : Int) ≤ (n : Int) + 1 := by omega
 have hb4 : ¬ (cap = i) := by omega
 have hc63 : cap ≤ 9223372036854775807 := by unfold maxLen at hcm; omega
 clear hcm
 go_enter Try.func44, Try.ntmps44
 go_wp2_with (simp only [hov])
 have hw1 : IntKind.i64.wrap ((i : Int) + 1) = (i : Int) + 1 := by rw [IntKind.wrap_i64]; omega
 go_region_law (refine copy_step rfl _ _ 26 26 rfl _ _ (by simp [Act.eval, Act.put]) (by simp [Act.eval, Act.put]) (hcp1 _ _ _) ?_)
 go_wp2_with (at_builtin; refine copy_list _ rfl _ _ 26 26 rfl _ _ rfl rfl (hcp2 _ rfl _ _) ?_)
 go_ret
 exact ⟨rfl, HF.out, setCells_below g hbg _ _ _ (setCells_below g hbg _ _ _ (below_drew1 (Below.refl _ _))), fun k hk => by rw [setCells_heap g _ _ _ k hk, setCells_heap g _ _ _ k hk]; rfl⟩
set_option maxHeartbeats 4000000 in
set_option maxRecDepth 100000 in
theorem Insert_growL (base g i n cap vb : Nat) (cs xs : List Value) (w : World) (hi : i < n) (hroom : cap < n + 1) (hown : w.ownsRow base 42 6 (.slice (some ⟨g, 0, none⟩) n cap) n cs) (hx : w.heap[vb]? = some (.cells xs.toArray 42 (0, 0))) (hxl : xs.length = 6) (h1c : ∀ u ∈ cs, u.oneCell' = true) (h1x : ∀ u ∈ xs, u.oneCell' = true) (hb : base ≤ w.heap.size) (hl : (n + 1) * 72 ≤ 140737488355328) :
  Calls Try.prog 44 #[.slice (some ⟨g, 0, none⟩) n cap, .int .i64 i, .slice (some ⟨vb, 0, none⟩) 1 1] w fun e w' => ∃ G, e = .returned (.slice (some ⟨w.heap.size, 0, none⟩) (n + 1) G) ∧ w'.ownsRow base 42 6 (.slice (some ⟨w.heap.size, 0, none⟩) (n + 1) G) (n + 1) (cs.take (i * 6) ++ xs ++ cs.drop (i * 6)) ∧ Below w.heap.size w w' := by
 have hu := Try.underlying26
 have hu3 := Try.underlying3
 obtain ⟨i0, hi0, hz0, hzs, hzb⟩ : ∃ i0, Try.prog.info? 42 = some i0 ∧ i0.zero = some (.agg #[.string ⟨#[]⟩, .int .u64 0, .int .u64 0, .int .u64 0, .int .i64 0, .slice none 0 0]) ∧ i0.size = 6 ∧ i0.bytes = 72 := by
  have h : (Try.prog.info? 42).map (fun i => (i.zero, i.size, i.bytes)) = some (some (.agg #[.string ⟨#[]⟩, .int .u64 0, .int .u64 0, .int .u64 0, .int .i64 0, .slice none 0 0]), 6, 72) := by kernel_rfl
  obtain ⟨i0, h0, h1⟩ := Option.map_eq_some_iff.1 h
  simp only [Prod.mk.injEq] at h1
  exact ⟨i0, h0, h1⟩
 obtain ⟨cur, hbg, hgc, hncap, hcm, hcs, htk⟩ : ∃ cur, base ≤ g ∧ w.heap[g]? = some (.cells cur 42 (0, 0)) ∧ n ≤ cap ∧ cap ≤ maxLen ∧ cur.size = cap * 6 ∧ cur.toList.take (n * 6) = cs := by
  rcases hown.2 with ⟨h, _⟩ | ⟨g', cap', cur, h, h1, h2, h3, h4, h5, h6⟩
  ·injection h with h; cases h
  ·injection h with h _ h7; injection h with h; injection h with h; subst h; subst h7; exact ⟨cur, h1, h2, h3, h4, h5, h6⟩
 have hcl : cs.length = n * 6 := hown.1
 have hcs' : ∀ j v, cs[j]? = some v → cur[j]? = some v := fun j v hj => by
  rw [← htk, List.getElem?_take] at hj
  split at hj
  ·simpa using hj
  ·cases hj
 have hsz : (Try.prog.info? 42).map (·.size) = some 6 := by rw [hi0]; simp [hzs]
 have hold : (Builtin.firstCells i0.size i (.slice (some ⟨g, 0, none⟩) i cap)).run Try.prog w.drew = .ok (cs.take (i * 6)).toArray w.drew := by
  rw [hzs]
  exact run_firstCells_some w.drew 6 i ⟨g, 0, none⟩ i cap (cs.take (i * 6)) (by rw [List.length_take]; omega) (fun j v hj => by
   rw [List.getElem?_take] at hj
   split at hj
   ·rw [add_at, Nat.zero_add, blk_cell (blk_drew hgc)]; exact hcs' _ v hj
   ·cases hj)
 have hkk : (n : Int) + 1 - (i : Int) = ((n + 1 - i : Nat) : Int) := by omega
 have hik : i + (n + 1 - i) = n + 1 := by omega
 have hrz : ∀ ty, (Builtin.append_ #[26, 3] ty #[.slice (some ⟨g, 0, none⟩) i cap, .int .i64 ((n : Int) + 1 - (i : Int))]).run Try.prog w = .ok (.slice (some ⟨w.heap.size, 0, none⟩) (n + 1) (grownCap w (n + 1) cap 42)) (w.drew.alloc (.cells ((cs.take (i * 6)).toArray ++ Builtin.zeroCells (Value.cells (.agg #[.string ⟨#[]⟩, .int .u64 0, .int .u64 0, .int .u64 0, .int .i64 0, .slice none 0 0])) (n + 1 - i) ++ Builtin.zeroCells (Value.cells (.agg #[.string ⟨#[]⟩, .int .u64 0, .int .u64 0, .int .u64 0, .int .i64 0, .slice none 0 0])) (grownCap w (n + 1) cap 42 - (n + 1))) 42)) := fun ty => by
  have h := Lib.run_append_grow_zeros w 26 3 ty 42 i0 _ .i64 .i64 hu hu3 hi0 hz0 (some ⟨g, 0, none⟩) i cap (cs.take (i * 6)) hold (n + 1 - i) (by omega) (by omega) (by omega) (by omega) (by rw [hzb]; omega) (by rw [hzb, hik]; exact growslice_fits hroom hl)
  rw [hik] at h
  rw [hkk]
  exact h
 obtain ⟨G, hG⟩ : ∃ G, G = grownCap w (n + 1) cap 42 := ⟨_, rfl⟩
 obtain ⟨ROW, hROW⟩ : ∃ ROW : Array Value, ROW = (cs.take (i * 6)).toArray ++ Builtin.zeroCells (Value.cells (.agg #[.string ⟨#[]⟩, .int .u64 0, .int .u64 0, .int .u64 0, .int .i64 0, .slice none 0 0])) (n + 1 - i) ++ Builtin.zeroCells (Value.cells (.agg #[.string ⟨#[]⟩, .int .u64 0, .int .u64 0, .int .u64 0, .int .i64 0, .slice none 0 0])) (G - (n + 1)) := ⟨_, rfl⟩
 have hGn : n + 1 ≤ G := by rw [hG]; exact grownCap_ge w _ _ _
 have hGm : G ≤ maxLen := by rw [hG]; exact grownCap_le_maxLen w (n + 1) cap 42 (by unfold maxLen; omega)
 rw [← hG, ← hROW] at hrz
 have hcy : (Value.cells (.agg #[.string ⟨#[]⟩, .int .u64 0, .int .u64 0, .int .u64 0, .int .i64 0, .slice none 0 0])).size = 6 := rfl
 have htl : (cs.take (i * 6)).length = i * 6 := by rw [List.length_take]; omega
 have hRs : ROW.size = G * 6 := by
  rw [hROW, Array.size_append, Array.size_append, zeroCells_size, zeroCells_size, hcy, List.size_toArray, htl]
  omega
 have hRt : ROW.toList.take (i * 6) = cs.take (i * 6) := by
  rw [hROW, Array.toList_append, Array.toList_append, List.append_assoc]
  exact (congrArg (fun q => List.take q _) htl.symm).trans (List.take_left ..)
 have hgw : g < w.heap.size := blk_lt hgc
 have hvw : vb < w.heap.size := blk_lt hx
 obtain ⟨W1, hW1⟩ : ∃ W1, W1 = w.drew.alloc (.cells ROW 42) := ⟨_, rfl⟩
 have hN : W1.heap[w.heap.size]? = some (.cells ROW 42 (0, 0)) := by rw [hW1]; exact blk_new w.drew _
 have hg1 : W1.heap[g]? = some (.cells cur 42 (0, 0)) := by rw [hW1]; exact blk_alloc (blk_drew hgc) _
 have hx1 : W1.heap[vb]? = some (.cells xs.toArray 42 (0, 0)) := by rw [hW1]; exact blk_alloc (blk_drew hx) _
 have hB1 : Below w.heap.size w W1 := by rw [hW1]; exact below_alloc (below_drew1 (Below.refl _ _)) _
 have hdl : (cs.drop (i * 6)).length = (n - i) * 6 := by rw [List.length_drop, hcl, Nat.sub_mul]
 obtain ⟨cur1, hN1, hs1, hl1⟩ := setCells_blk w.heap.size 42 xs (i * 6) W1 ROW hN (by rw [hxl, hRs]; omega)
 obtain ⟨cur2, hN2, hs2, hl2⟩ := setCells_blk w.heap.size 42 (cs.drop (i * 6)) ((i + 1) * 6) _ cur1 hN1 (by rw [hdl, hs1, hRs]; omega)
 have hg2 : (W1.setCells w.heap.size (i * 6) xs).heap[g]? = some (.cells cur 42 (0, 0)) := by rw [setCells_heap _ _ _ _ g (by omega)]; exact hg1
 have hcpA : ∀ (W : World), W.heap = W1.heap → ∀ ty dc, (Builtin.copy_ #[26, 26] ty #[.slice (some ⟨w.heap.size, i * 6, none⟩) (n + 1 - i) dc, .slice (some ⟨vb, 0, none⟩) 1 1]).run Try.prog W = .ok (goInt (Nat.min 1 (n + 1 - i))) (W.setCells w.heap.size (i * 6) xs) := fun W hW ty dc => by
  have hgW : W.heap[w.heap.size]? = some (.cells ROW 42 (0, 0)) := by rw [hW]; exact hN
  have hxW : W.heap[vb]? = some (.cells xs.toArray 42 (0, 0)) := by rw [hW]; exact hx1
  exact run_copyK W 26 26 ty 42 6 w.heap.size (i * 6) (n + 1 - i) dc ⟨vb, 0, none⟩ 1 1 xs hu hsz (by rw [hxl]; simp only [Nat.min_def]; split <;> omega)
   (fun j v hj => by rw [add_at, Nat.zero_add, blk_cell hxW]; simpa using hj)
   (fun j hj => by rw [blk_cell hgW, Array.getElem?_eq_getElem (by rw [hRs]; omega)]; rfl)
   (fun j hj => blk_frozen hgW _) h1x
 have hcpB : ∀ (W : World), W.heap = (W1.setCells w.heap.size (i * 6) xs).heap → ∀ ty dc sc, (Builtin.copy_ #[26, 26] ty #[.slice (some ⟨w.heap.size, (i + 1) * 6, none⟩) (n - i) dc, .slice (some ⟨g, i * 6, none⟩) (n - i) sc]).run Try.prog W = .ok (goInt (Nat.min (n - i) (n - i))) (W.setCells w.heap.size ((i + 1) * 6) (cs.drop (i * 6))) := fun W hW ty dc sc => by
  have hNW : W.heap[w.heap.size]? = some (.cells cur1 42 (0, 0)) := by rw [hW]; exact hN1
  have hgW : W.heap[g]? = some (.cells cur 42 (0, 0)) := by rw [hW]; exact hg2
  exact run_copyK W 26 26 ty 42 6 w.heap.size ((i + 1) * 6) (n - i) dc ⟨g, i * 6, none⟩ (n - i) sc (cs.drop (i * 6)) hu hsz
   (by rw [hdl]; congr 1; simp only [Nat.min_def]; split <;> omega)
   (fun j v hj => by
    rw [List.getElem?_drop] at hj
    rw [add_at, blk_cell hgW]
    exact hcs' _ v hj)
   (fun j hj => by
    rw [hdl] at hj
    rw [blk_cell hNW, Array.getElem?_eq_getElem (by rw [hs1, hRs]; omega)]; rfl)
   (fun j hj => blk_frozen hNW _) (fun v hv => h1c v (List.mem_of_mem_drop hv))
 have HF : Aside0 (World.ownsRow ((W1.setCells w.heap.size (i * 6) xs).setCells w.heap.size ((i + 1) * 6) (cs.drop (i * 6))) base 42 6 (.slice (some ⟨w.heap.size, 0, none⟩) (n + 1) G) (n + 1) (cs.take (i * 6) ++ xs ++ cs.drop (i * 6))) := ⟨by
  refine ⟨by simp only [List.length_append, List.length_take, List.length_drop, hxl, hcl]; omega, .inr ⟨w.heap.size, G, cur2, rfl, hb, hN2, hGn, hGm, by rw [hs2, hs1, hRs], ?_⟩⟩
  exact grow_list ROW.toList cs xs 6 i n hi hcl hRt (by rw [Array.length_toList, hRs]; omega) hxl cur1.toList cur2.toList hl1 hl2⟩
 have HB := am (setCells_below w.heap.size (Nat.le_refl _) (cs.drop (i * 6)) ((i + 1) * 6) _ (setCells_below w.heap.size (Nat.le_refl _) xs (i * 6) W1 hB1))
 have hz2 : ¬ ((i : Int) = (n : Int)) := by omega
 have hz3 : (cap : Int) < (n : Int) + 1 := by omega
 have hb1 : (0 : Int) ≤ (i : Int) + 1 := by omega
 have htn : ((i : Int) + 1).toNat = i + 1 := by omega
 have hin : i ≤ n := by omega
 have hGi : ¬ (G = i) := by omega
 have hGim : ¬ (G = i + 1) := by omega
 have hci : ¬ (cap = i) := by omega
 have hb3 : (i : Int) ≤ (n : Int) + 1 := by omega
 have hb5 : (i : Int) ≤ (n : Int) := by omega
 have hG63 : G ≤ 9223372036854775807 := by unfold maxLen at hGm; omega
 subst hW1
 clear hcm hGm hkk hik hold hROW hG hRs hRt hN hg1 hx1 hN1 hN2 hl1 hl2 hs1 hs2 hg2 hB1 hgc hx hown hi0 hz0 hzs hzb hsz hcs' htl hcy
 have hA := fun ty dc => hcpA ((w.alloc (.cells ROW 42)).drew) rfl ty dc
 have hB := fun ty dc sc => hcpB (((w.alloc (.cells ROW 42)).drew.setCells w.heap.size (i * 6) xs).drew) rfl ty dc sc
 clear hcpA hcpB
 have hw1 : IntKind.i64.wrap ((i : Int) + 1) = (i : Int) + 1 := by rw [IntKind.wrap_i64]; omega
 go_enter Try.func44, Try.ntmps44
 go_wp2_with (at_builtin; refine Lib.wpList_append_run _ rfl _ _ _ _ rfl _ _ rfl rfl _ _ (hrz _) ?_)
 go_region_law fail
 go_wp2
 go_ret
 rw [← setCells_drew]
 exact ⟨G, rfl, HF.out, HB.out.drew⟩
theorem Insert_callsL (base : Nat) (v : Value) (n i : Nat) (cs xs : List Value) (vb : Nat) (w : World) (hi : i ≤ n) (hown : w.ownsRow base 42 6 v n cs) (hx : w.heap[vb]? = some (.cells xs.toArray 42 (0, 0))) (hxl : xs.length = 6) (h1c : ∀ u ∈ cs, u.oneCell' = true) (h1x : ∀ u ∈ xs, u.oneCell' = true) (hvb : v.ownBlock ≠ some vb) (hb : base ≤ w.heap.size) (hl : (n + 1) * 72 ≤ 140737488355328) :
  Calls Try.prog 44 #[v, .int .i64 i, .slice (some ⟨vb, 0, none⟩) 1 1] w fun e w' => ∃ v1, e = .returned v1 ∧ w'.ownsRow base 42 6 v1 (n + 1) (cs.take (i * 6) ++ xs ++ cs.drop (i * 6)) ∧ Below base w w' ∧ (∀ k, k < w.heap.size → some k ≠ v.ownBlock → w'.heap[k]? = w.heap[k]?) ∧ (v1.ownBlock = v.ownBlock ∨ ∃ b, v1.ownBlock = some b ∧ w.heap.size ≤ b) := by
 rcases Nat.lt_or_ge i n with hin | hin
 ·obtain ⟨g, cap, cur, rfl, hbg, hgc, _⟩ : ∃ g cap cur, v = .slice (some ⟨g, 0, none⟩) n cap ∧ base ≤ g ∧ w.heap[g]? = some (.cells cur 42 (0, 0)) ∧ n ≤ cap := by
   rcases hown.2 with ⟨_, h⟩ | ⟨g, cap, cur, h, h1, h2, h3, _⟩
   ·omega
   ·exact ⟨g, cap, cur, h, h1, h2, h3⟩
  have hvg : vb ≠ g := fun he => hvb (by rw [he]; rfl)
  rcases Nat.lt_or_ge cap (n + 1) with hc | hc
  ·refine (Insert_growL base g i n cap vb cs xs w hin hc hown hx hxl h1c h1x hb hl).mono ?_
   rintro e w' ⟨G, rfl, ho, hB⟩
   exact ⟨_, rfl, ho, hB.mono hb, fun k hk _ => hB.block k hk, .inr ⟨_, rfl, Nat.le_refl _⟩⟩
  ·refine (Insert_shiftL base g i n cap vb cs xs w hin hc hown hx hxl h1c h1x hvg hb).mono ?_
   rintro e w' ⟨rfl, ho, hB, hk⟩
   exact ⟨_, rfl, ho, hB, fun k _ hk' => hk k (fun he => hk' (by rw [he]; rfl)), .inl rfl⟩
 ·obtain rfl : i = n := by omega
  refine (Insert_endL base v i cs xs vb w hown hx hxl h1x hl hb).mono ?_
  rintro e w' ⟨v1, rfl, ho, hg, ha⟩
  refine ⟨v1, rfl, by rw [← hown.1, List.take_length, List.drop_length, List.append_nil]; exact ho, (Below.refl base w).grown hg hb (own_base hown), fun k hk hk' => hg.block k hk hk', ?_⟩
  rcases ha with ha | ha
  ·exact .inl ha
  ·exact .inr ⟨_, ha, Nat.le_refl _⟩
theorem ins_get {α : Type} (l : List α) (x : α) (i : Nat) (hi : i ≤ l.length) (j : Nat) : (l.take i ++ [x] ++ l.drop i)[j]? = if j < i then l[j]? else if j = i then some x else l[j - 1]? := by
 have ht : (l.take i).length = i := by rw [List.length_take]; omega
 rw [List.append_assoc]
 split
 ·rename_i h
  rw [List.getElem?_append_left (by omega), List.getElem?_take_of_lt h]
 ·rename_i h
  rw [List.getElem?_append_right (by omega), ht]
  split
  ·rename_i h2
   subst h2
   simp
  ·rename_i h2
   rw [show j - i = (j - i - 1) + 1 by omega, List.singleton_append, List.getElem?_cons_succ, List.getElem?_drop]
   congr 1
   omega
theorem ins_len {α : Type} (l : List α) (x : α) (i : Nat) (hi : i ≤ l.length) : (l.take i ++ [x] ++ l.drop i).length = l.length + 1 := by
 simp only [List.length_append, List.length_take, List.length_drop, List.length_singleton]; omega
theorem reps_ins {R : List Value → List Value → Prop} {sz : Nat} {rows : List (List Value)} {inner cs : List Value} (i : Nat) (hi : i ≤ rows.length) (h : Reps R sz rows inner) (hc : R cs cs) (hcl : cs.length = sz) :
  Reps R sz (rows.take i ++ [cs] ++ rows.drop i) (inner.take (i * sz) ++ cs ++ inner.drop (i * sz)) := by
 have hn : inner.length = rows.length * sz := h.1
 have hik : i * sz ≤ rows.length * sz := Nat.mul_le_mul_right _ hi
 have htl : (inner.take (i * sz)).length = i * sz := by rw [List.length_take]; omega
 refine ⟨by rw [ins_len _ _ _ hi]; simp only [List.length_append, List.length_take, List.length_drop, hcl]; rw [Nat.succ_mul]; omega, fun j x hj => ?_⟩
 rw [ins_get _ _ _ hi] at hj
 rw [List.append_assoc]
 split at hj
 ·rename_i hlt
  have h2 := h.2 j x hj
  have hm : j * sz + sz ≤ i * sz := by have := Nat.mul_le_mul_right sz (show j + 1 ≤ i from hlt); rwa [Nat.succ_mul] at this
  rw [List.drop_append_of_le_length (by omega), List.take_append_of_le_length (by rw [List.length_drop]; omega), List.drop_take, List.take_take, show min sz (i * sz - j * sz) = sz by omega]
  exact h2
 ·split at hj
  ·rename_i he
   subst he
   injection hj with hj
   subst hj
   have e1 : (inner.take (j * sz) ++ (cs ++ inner.drop (j * sz))).drop (j * sz) = cs ++ inner.drop (j * sz) := by
    have := List.drop_left (l₁ := inner.take (j * sz)) (l₂ := cs ++ inner.drop (j * sz))
    rwa [htl] at this
   rw [e1, ← hcl, List.take_left]
   exact hc
  ·rename_i h1 h2
   have h3 := h.2 (j - 1) x hj
   have e0 : j * sz = i * sz + (sz + (j - 1 - i) * sz) := by
    rw [show j = i + (1 + (j - 1 - i)) by omega, Nat.add_mul, Nat.add_mul, Nat.one_mul]
    congr 3
    omega
   have e1 : (inner.take (i * sz) ++ (cs ++ inner.drop (i * sz))).drop (j * sz) = inner.drop ((j - 1) * sz) := by
    have hd := List.drop_left (l₁ := inner.take (i * sz)) (l₂ := cs ++ inner.drop (i * sz))
    rw [htl] at hd
    have hd2 := List.drop_left (l₁ := cs) (l₂ := inner.drop (i * sz))
    rw [hcl] at hd2
    rw [e0, ← List.drop_drop, hd, ← List.drop_drop, hd2, List.drop_drop]
    congr 1
    rw [← Nat.add_mul]
    congr 1
    omega
   rw [e1]
   exact h3
theorem N_inserted {α : Type} {d : Kd α} {e base : Nat} {ok okp : Nat → Prop} {W w1 : World} {v v1 : Value} {xs : List α} {x : α} {rows : List (List Value)} {inner cs : List Value} (i : Nat) (hi : i ≤ xs.length)
  (h0 : ∀ k, v.ownBlock = some k → ok k) (hl : rows.length = xs.length) (hr : Reps ((Kd.raw d.sz).M W base (fun k => some k = v.ownBlock ∧ some k ≠ v.ownBlock)) d.sz rows inner) (hf : ∀ (j : Nat) (x : α) (c : List Value), xs[j]? = some x → rows[j]? = some c → Kd.FK d W (fun k => ok k ∧ some k ≠ v.ownBlock) x c)
  (hp : Kd.FK d W okp x cs) (hokp : ∀ k, okp k → ok k ∧ some k ≠ v.ownBlock) (hfresh : ∀ k, W.heap.size ≤ k → ok k)
  (ho : w1.ownsRow base e d.sz v1 (xs.length + 1) (inner.take (i * d.sz) ++ cs ++ inner.drop (i * d.sz)))
  (hk : ∀ k, k < W.heap.size → some k ≠ v.ownBlock → w1.heap[k]? = W.heap[k]?)
  (hat : v1.ownBlock = v.ownBlock ∨ ∃ b, v1.ownBlock = some b ∧ W.heap.size ≤ b) : Kd.N d e w1 base ok v1 (xs.take i ++ [x] ++ xs.drop i) := by
 have hne : ∀ k, some k ≠ v.ownBlock → k < W.heap.size → some k ≠ v1.ownBlock := by
  intro k hk hlt
  rcases hat with hat | ⟨b, hb, hle⟩
  ·rw [hat]; exact hk
  ·rw [hb]
   intro he
   injection he with he
   omega
 have step : ∀ {x : α} {c : List Value} {o : Nat → Prop}, Kd.FK d W o x c → (∀ k, o k → ok k ∧ some k ≠ v.ownBlock) → Kd.FK d w1 (fun k => ok k ∧ some k ≠ v1.ownBlock) x c := by
  intro x c o hq ho
  exact Kd.FK_mono (Kd.FK_step (Kd.FK_bound hq) (fun k hk' hlt => hk k hlt (ho k hk'.1).2)) (fun k hk => ⟨(ho k hk.1).1, hne k (ho k hk.1).2 hk.2⟩)
 have hcl := d.K_len (Kd.FK_now hp)
 refine ⟨fun k hk => ?_, rows.take i ++ [cs] ++ rows.drop i, by rw [ins_len _ _ _ (by omega), ins_len _ _ _ hi, hl], ⟨fun k hk => hk.symm, inner.take (i * d.sz) ++ cs ++ inner.drop (i * d.sz), by rw [ins_len _ _ _ (by omega), hl]; exact ho, reps_ins i (by omega) hr (Kd.FK_raw hp) hcl⟩, fun j y c hy hc => ?_⟩
 ·rcases hat with hat | ⟨b, hb, hle⟩
  ·exact h0 k (hat ▸ hk)
  ·rw [hb] at hk
   injection hk with hk
   exact hfresh k (by omega)
 ·rw [ins_get _ _ _ hi] at hy
  rw [ins_get _ _ _ (by omega)] at hc
  split at hy
  ·rename_i h1
   rw [if_pos h1] at hc
   exact step (hf j y c hy hc) (fun _ hk => hk)
  ·rename_i h1
   rw [if_neg h1] at hc
   split at hy
   ·rename_i h2
    rw [if_pos h2] at hc
    injection hy with hy
    injection hc with hc
    subst hy hc
    exact step hp hokp
   ·rename_i h2
    rw [if_neg h2] at hc
    exact step (hf _ y c hy hc) (fun _ hk => hk)
theorem InsertL_N (base : Nat) (ok okp : Nat → Prop) (v : Value) (xs : List S42) (x : S42) (cs : List Value) (i vb : Nat) (w : World) (hi : i ≤ xs.length) (hN : Kd.N k42 42 w base ok v xs) (hp : Kd.FK k42 w okp x cs) (hokp : ∀ k, okp k → ok k ∧ some k ≠ v.ownBlock) (hfresh : ∀ k, w.heap.size ≤ k → ok k)
  (hx : w.heap[vb]? = some (.cells cs.toArray 42 (0, 0))) (hvb : v.ownBlock ≠ some vb) (hb : base ≤ w.heap.size) (hl : (xs.length + 1) * 72 ≤ 140737488355328) :
  Calls Try.prog 44 #[v, .int .i64 i, .slice (some ⟨vb, 0, none⟩) 1 1] w fun e w' => ∃ v1, e = .returned v1 ∧ Kd.N k42 42 w' base ok v1 (xs.take i ++ [x] ++ xs.drop i) ∧ Below base w w' ∧ (∀ k, k < w.heap.size → some k ≠ v.ownBlock → w'.heap[k]? = w.heap[k]?) := by
 obtain ⟨h0, rows, hrl, ⟨hv, inner, ho, hr⟩, hf⟩ := hN
 have h1c : ∀ u ∈ inner, u.oneCell' = true := by
  intro u hu
  obtain ⟨j, hj, rfl⟩ := List.mem_iff_getElem.1 hu
  have hn : inner.length = rows.length * 6 := hr.1
  have hjr : j / 6 < rows.length := by omega
  have h2 : ∀ u ∈ (inner.drop (j / 6 * 6)).take 6, u.oneCell' = true := (hr.2 (j / 6) _ (List.getElem?_eq_getElem hjr)).2.2
  exact h2 _ (List.mem_of_getElem? (i := j % 6) (by rw [List.getElem?_take_of_lt (by omega), List.getElem?_drop, show j / 6 * 6 + j % 6 = j by omega]; exact List.getElem?_eq_getElem hj))
 refine (Insert_callsL base v xs.length i inner cs vb w hi (hrl ▸ ho) hx (k42.K_len (Kd.FK_now hp)) h1c (k42.K_one (Kd.FK_now hp)) hvb hb hl).mono ?_
 rintro e w' ⟨v1, rfl, ho1, hB, hk, hat⟩
 exact ⟨v1, rfl, N_inserted i hi h0 hrl hr hf hp hokp hfresh ho1 hk hat, hB, hk⟩

def strata_put.cut (a0_0 a0_1 a0_2 a0_3 : Int) (m : List S42) : Option (Int × Int × Int × Int × List S42) :=
 if 0 ≤ min (m.length : Int) a0_2 then some (a0_0, a0_1, a0_2, a0_3, m.take (min (m.length : Int) a0_2).toNat) else none
def strata_put.f (k : Nat) (a0_0 a0_1 a0_2 a0_3 : Int) (l0_4 : List S42) (a1_0 : ByteArray) (a1_1 a1_2 a1_3 a1_4 : Int) (l1_5 : List S87) : Option (Int × Int × Int × Int × List S42) :=
 (strata_Label_42.f k l0_4 a1_0 a1_1 a1_2 a1_3 a1_4 l1_5).bind fun q =>
  if q.2 = true then
   (if 0 ≤ q.1 ∧ q.1 < l0_4.length then strata_put.cut a0_0 a0_1 a0_2 a0_3 (l0_4.set q.1.toNat ⟨a1_0, a1_1, ⟨⟨a1_2, a1_3⟩, a1_4, l1_5⟩⟩) else none)
  else (if 0 ≤ q.1 ∧ q.1 ≤ l0_4.length then strata_put.cut a0_0 a0_1 a0_2 a0_3 (l0_4.take q.1.toNat ++ [⟨a1_0, a1_1, ⟨⟨a1_2, a1_3⟩, a1_4, l1_5⟩⟩] ++ l0_4.drop q.1.toNat) else none)
theorem strata_put.mono : ∀ a0 a1 a2 a3 a4 a5 a6 a7 a8 a9 a10 k, LeO (strata_put.f k a0 a1 a2 a3 a4 a5 a6 a7 a8 a9 a10) (strata_put.f (k + 1) a0 a1 a2 a3 a4 a5 a6 a7 a8 a9 a10) := by
 intro a0 a1 a2 a3 a4 a5 a6 a7 a8 a9 a10 k
 exact LeO.bind (strata_Label_42.mono _ _ _ _ _ _ _ k) (fun _ => LeO.refl _)
theorem V_takenL {α : Type} {d : Kd α} {e : Nat} {W : World} {base : Nat} {ok : Nat → Prop} {A : Option Addr} {c n : Nat} {xs : List α} (h : Kd.V d e W base ok (.slice A xs.length c) xs) (hn : n ≤ xs.length) : Kd.V d e W base ok (.slice A n c) (xs.take n) := by
 have hl : (xs.take n).length = n := by rw [List.length_take]; omega
 have h2 := Kd.V_mk (e := e) (base := base) (c := c) (by rw [hl]; exact Nat.le_trans hn (Kd.V_at h).2.1) (Kd.F_take (Kd.V_at h).2.2 hn)
 rwa [hl] at h2
set_option maxHeartbeats 4000000 in
set_option maxRecDepth 100000 in
theorem strata_put.calls (k : Nat) (a0_0 a0_1 a0_2 a0_3 : Int) (P0_4_ : Nat → Prop) (A0_4 : Option Addr) (c0_4 : Nat) (l0_4 : List S42) (a1_0 : ByteArray) (a1_1 a1_2 a1_3 a1_4 : Int) (P1_5_ : Nat → Prop) (A1_5 : Option Addr) (c1_5 : Nat) (l1_5 : List S87) (r1 r2 r3 r4 : Int) (r5 : List S42) (w : World) (hs0_4 : Kd.V k42 42 w w.heap.size (fun k_ => P0_4_ k_) (.slice A0_4 l0_4.length c0_4) l0_4) (hs1_5 : Kd.V k87 87 w w.heap.size (fun k_ => P1_5_ k_) (.slice A1_5 l1_5.length c1_5) l1_5) (h : strata_put.f k a0_0 a0_1 a0_2 a0_3 l0_4 a1_0 a1_1 a1_2 a1_3 a1_4 l1_5 = some (r1, r2, r3, r4, r5)) :
  Calls Try.prog 29 #[.agg #[.int .u64 a0_0, .int .u64 a0_1, .int .i64 a0_2, .int .i64 a0_3, .slice A0_4 l0_4.length c0_4], .agg #[.string a1_0, .int .u64 a1_1, .int .u64 a1_2, .int .u64 a1_3, .int .i64 a1_4, .slice A1_5 l1_5.length c1_5]] w fun e w' => ∃ v4_ : Value, e = .returned (.agg #[.int .u64 r1, .int .u64 r2, .int .i64 r3, .int .i64 r4, v4_]) ∧ Kd.V k42 42 w' w.heap.size (fun k_ => ((P0_4_ k_ ∨ P1_5_ k_) ∨ w.heap.size ≤ k_)) v4_ r5 ∧ Below w.heap.size w w' := by
 have hu28 := Try.underlying28
 have hu42 := Try.underlying42
 unfold strata_put.f at h
 obtain ⟨q, hq, h⟩ := Option.bind_eq_some_iff.1 h
 obtain ⟨i, found⟩ := q
 have hlen : l0_4.length < 1000000 := by
  unfold strata_Label_42.f at hq
  split at hq
  ·assumption
  ·cases hq
 have HQ := am hq
 have HH := am h
 clear hq h
 have HV := am (Kd.V_bound hs0_4)
 have HX := am (Kd.V_bound hs1_5)
 clear hs0_4 hs1_5
 go_enter Try.func29, Try.ntmps29
 go_wp2_with fail
 refine (strata_Label_42.calls k A0_4 c0_4 l0_4 a1_0 a1_1 a1_2 a1_3 a1_4 A1_5 c1_5 l1_5 i found _ (Kd.C_below (Kd.V_reads' HV.out).2.2 (by repeat (first | exact Below.refl _ _ | apply below_alloc))) (Kd.V_reads' HV.out).2.1 (Kd.C_below (Kd.V_reads' HX.out).2.2 (by repeat (first | exact Below.refl _ _ | apply below_alloc))) (Kd.V_reads' HX.out).2.1 HQ.out).mono ?_
 rintro e w1 ⟨rfl, hb1⟩
 have B0 := am (blk_below (g := w.heap.size) (o := .cells #[.int .u64 a0_0, .int .u64 a0_1, .int .i64 a0_2, .int .i64 a0_3, .slice A0_4 l0_4.length c0_4] 28 (0, 0)) (blk_alloc (blk_alloc (blk_new _ _) _) _) hb1)
 have B1 := am (blk_below (g := w.heap.size + 1) (o := .cells #[.string a1_0, .int .u64 a1_1, .int .u64 a1_2, .int .u64 a1_3, .int .i64 a1_4, .slice A1_5 l1_5.length c1_5] 42 (0, 0)) (blk_alloc (blk_newAt3 _ _ (by simp)) _) hb1)
 have B2 := am (blk_below (g := w.heap.size + 1 + 1) (o := .cells #[.int .u64 0, .int .u64 0, .int .i64 0, .int .i64 0, .slice none 0 0] 28 (0, 0)) (blk_newAt3 _ _ (by simp)) hb1)
 have HB := am (below_step (w := w) (by repeat (first | exact Below.refl _ _ | apply below_alloc)) hb1)
 have hs1 : w.heap.size + 1 + 1 + 1 ≤ w1.heap.size := by have := hb1.size; simpa using this
 have HV1 := am (Kd.V_below HV.out HB.out)
 have HX1 := am (Kd.V_below HX.out HB.out)
 clear hb1 HV HX HQ
 have s0 := blk_cell B0.out 0
 have s1 := blk_cell B0.out 1
 have s2 := blk_cell B0.out 2
 have s3 := blk_cell B0.out 3
 have s4 := blk_cell B0.out 4
 go_wp2_with fail
 refine (CloneL_calls _ A0_4 c0_4 l0_4 w1 (Kd.V_F HV1.out) (Kd.V_reads' HV1.out).2.1 hlen).mono ?_
 rintro e w2 ⟨v0, rfl, HR, hb2⟩
 have hs2 : w.heap.size + 1 + 1 + 1 ≤ w2.heap.size := Nat.le_trans hs1 hb2.size
 have C0 := am (blk_below B0.out hb2)
 have C1 := am (blk_below B1.out hb2)
 have C2 := am (blk_below B2.out hb2)
 have HB2 := am (below_step HB.out hb2)
 have HX2 := am (Kd.V_below HX1.out hb2)
 have HN2 := am (Kd.N_lower (Kd.N_mono (Kd.N_bound HR) (ok' := fun k_ => (P0_4_ k_ ∧ k_ < w.heap.size) ∨ w.heap.size + 1 + 1 + 1 ≤ k_) (fun k_ hk => by rcases hk.1 with hk | hk; exact .inl hk; exact .inr (by omega))) hs1)
 clear HR hb2 hs1 B0 B1 B2 HB HV1 HX1 s0 s1 s2 s3 s4
 obtain ⟨A1, c1, rfl⟩ := Kd.N_slice HN2.out
 have hc1 := (Kd.N_reads' HN2.out).2.1
 have HXF := am (k42_mkF w2 (fun k_ => P1_5_ k_ ∧ k_ < w.heap.size) (⟨a1_0, a1_1, ⟨⟨a1_2, a1_3⟩, a1_4, l1_5⟩⟩ : S42) (Kd.V_reads' HX2.out).2.1 (Kd.V_F HX2.out))
 clear HX2
 have x0 := blk_cell C1.out 0
 have x1 := blk_cell C1.out 1
 have x2 := blk_cell C1.out 2
 have x3 := blk_cell C1.out 3
 have x4 := blk_cell C1.out 4
 have x5 := blk_cell C1.out 5
 cases found with
 | false =>
  have h := HH.out
  clear HH
  rw [if_neg (by decide)] at h
  split at h
  case isFalse => cases h
  case isTrue hi =>
  obtain ⟨j, rfl⟩ := Int.eq_ofNat_of_zero_le hi.1
  have hj : j ≤ l0_4.length := by have := hi.2; omega
  clear hi
  rw [Int.toNat_natCast] at h
  unfold strata_put.cut at h
  split at h
  case isFalse => cases h
  case isTrue hm =>
  simp only [Option.some.injEq, Prod.mk.injEq] at h
  obtain ⟨rfl, rfl, rfl, rfl, h4⟩ := h
  have H4 := am h4
  have HM := am hm
  clear h4 hm
  go_wp2_with fail
  have hlt := Kd.N_lt HN2.out
  have hbs := Kd.N_base HN2.out
  refine (InsertL_N (w.heap.size + 1 + 1 + 1) (fun k_ => (P0_4_ k_ ∧ k_ < w.heap.size) ∨ (P1_5_ k_ ∧ k_ < w.heap.size) ∨ w.heap.size + 1 + 1 + 1 ≤ k_) (fun k_ => P1_5_ k_ ∧ k_ < w.heap.size) (.slice A1 l0_4.length c1) l0_4 ⟨a1_0, a1_1, ⟨⟨a1_2, a1_3⟩, a1_4, l1_5⟩⟩ [.string a1_0, .int .u64 a1_1, .int .u64 a1_2, .int .u64 a1_3, .int .i64 a1_4, .slice A1_5 l1_5.length c1_5] j w2.heap.size _ hj (Kd.N_alloc (Kd.N_mono HN2.out (fun k_ hk => hk.elim .inl (fun h => .inr (.inr h)))) _) (Kd.FK_below HXF.out (below_alloc (Below.refl _ _) _)) (fun k_ hk => ⟨.inr (.inl hk), fun he => by have := hbs _ he.symm; omega⟩) (fun k_ hk => .inr (.inr (by simp at hk; omega))) (blk_new _ _) (fun he => Nat.lt_irrefl _ (hlt _ he)) (by simp <;> omega) (by omega)).mono ?_
  rintro e w3 ⟨v1, rfl, HN, hB3, hk3⟩
  have hml : (l0_4.take j ++ [(⟨a1_0, a1_1, ⟨⟨a1_2, a1_3⟩, a1_4, l1_5⟩⟩ : S42)] ++ l0_4.drop j).length = l0_4.length + 1 := ins_len _ _ _ hj
  obtain ⟨m, hm⟩ : ∃ m, m = l0_4.take j ++ [(⟨a1_0, a1_1, ⟨⟨a1_2, a1_3⟩, a1_4, l1_5⟩⟩ : S42)] ++ l0_4.drop j := ⟨_, rfl⟩
  rw [← hm] at HN hml H4 HM
  have HN3 := am HN
  have E0 := am ((hk3 w.heap.size (by simp <;> omega) (fun he => by have := hbs _ he.symm; omega)).trans (blk_alloc C0.out _))
  have E2 := am ((hk3 (w.heap.size + 1 + 1) (by simp <;> omega) (fun he => by have := hbs _ he.symm; omega)).trans (blk_alloc C2.out _))
  have HB3 := am ((HB2.out.alloc (by omega) _).trans (hB3.mono (by omega)))
  clear hm HN hk3 hB3 hlt hbs C0 C1 C2 HB2 HN2 HXF x0 x1 x2 x3 x4 x5
  obtain ⟨A2, c2, rfl⟩ := Kd.N_slice HN3.out
  have hc2 := (Kd.N_reads' HN3.out).2.1
  have s0 := blk_cell E0.out 0
  have s1 := blk_cell E0.out 1
  have s2 := blk_cell E0.out 2
  have s3 := blk_cell E0.out 3
  have s4 := blk_cell E0.out 4
  have z4 := blk_frozen E0.out 4
  have t0 := blk_cell E2.out 0
  have y0 := blk_frozen E2.out 0
  have t1 := blk_cell E2.out 1
  have y1 := blk_frozen E2.out 1
  have t2 := blk_cell E2.out 2
  have y2 := blk_frozen E2.out 2
  have t3 := blk_cell E2.out 3
  have y3 := blk_frozen E2.out 3
  have t4 := blk_cell E2.out 4
  have y4 := blk_frozen E2.out 4
  have hm0 := HM.out
  have HF : Aside0 (∀ mm : Nat, mm = (min (m.length : Int) a0_2).toNat → ∀ W : World, W = (((((w3.setCell ⟨w.heap.size, 4, none⟩ (.slice A2 mm c2)).setCell ⟨w.heap.size + 1 + 1, 0, none⟩ (.int .u64 a0_0)).setCell ⟨w.heap.size + 1 + 1, 1, none⟩ (.int .u64 a0_1)).setCell ⟨w.heap.size + 1 + 1, 2, none⟩ (.int .i64 a0_2)).setCell ⟨w.heap.size + 1 + 1, 3, none⟩ (.int .i64 a0_3)).setCell ⟨w.heap.size + 1 + 1, 4, none⟩ (.slice A2 mm c2) →
    W.heap[w.heap.size + 1 + 1]? = some (.cells #[.int .u64 a0_0, .int .u64 a0_1, .int .i64 a0_2, .int .i64 a0_3, .slice A2 mm c2] 28 (0, 0)) ∧ Kd.V k42 42 W w.heap.size (fun k_ => ((P0_4_ k_ ∨ P1_5_ k_) ∨ w.heap.size ≤ k_)) (.slice A2 mm c2) r5 ∧ Below w.heap.size w W) := ⟨fun mm hmm W hW => by
   subst hW
   have hml2 : mm ≤ m.length := by omega
   have hV : Kd.V k42 42 w3 w.heap.size (fun k_ => (P0_4_ k_ ∧ k_ < w.heap.size) ∨ (P1_5_ k_ ∧ k_ < w.heap.size) ∨ w.heap.size + 1 + 1 + 1 ≤ k_) (.slice A2 m.length c2) m := Kd.N_V HN3.out
   have h4 := H4.out
   rw [← hmm] at h4
   subst h4
   refine ⟨blk_put (blk_put (blk_put (blk_put (blk_put (cs' := #[.int .u64 a0_0, .int .u64 0, .int .i64 0, .int .i64 0, .slice none 0 0]) (blk_far E2.out (by simp <;> omega) _) 0 _ rfl) (cs' := #[.int .u64 a0_0, .int .u64 a0_1, .int .i64 0, .int .i64 0, .slice none 0 0]) 1 _ rfl) (cs' := #[.int .u64 a0_0, .int .u64 a0_1, .int .i64 a0_2, .int .i64 0, .slice none 0 0]) 2 _ rfl) (cs' := #[.int .u64 a0_0, .int .u64 a0_1, .int .i64 a0_2, .int .i64 a0_3, .slice none 0 0]) 3 _ rfl) 4 _ rfl, ?_, below_set (below_set (below_set (below_set (below_set (below_set HB3.out (Nat.le_refl _)) (by omega)) (by omega)) (by omega)) (by omega)) (by omega)⟩
   refine Kd.V_mono (ok := fun k_ => (P0_4_ k_ ∧ k_ < w.heap.size) ∨ (P1_5_ k_ ∧ k_ < w.heap.size) ∨ w.heap.size + 1 + 1 + 1 ≤ k_) (V_takenL ?_ hml2) (fun k_ hk => by rcases hk with hk | hk | hk; exact .inl (.inl hk.1); exact .inl (.inr hk.1); exact .inr (by omega))
   refine Kd.V_far (Kd.V_far (Kd.V_far (Kd.V_far (Kd.V_far (Kd.V_far hV ?_ _) ?_ _) ?_ _) ?_ _) ?_ _) ?_ _ <;> (intro k_ hk; simp only [ne_eq]; rcases hk with hk | hk | hk <;> first | omega | (have := hk.2; omega))⟩
  go_wp2_with fail
  case inl =>
   obtain ⟨f1, f2, f3⟩ := HF.out a0_2.toNat (by omega) _ rfl
   refine bodyPost_ret (v := .agg #[.int .u64 a0_0, .int .u64 a0_1, .int .i64 a0_2, .int .i64 a0_3, .slice A2 a0_2.toNat c2]) ?_ rfl ⟨.slice A2 a0_2.toNat c2, rfl, f2, f3⟩
   refine results_cell_row rfl _ _ (w.heap.size + 1 + 1) 28 _ (0, 0) _ ?_ f1 hu28 rfl ?_
   ·rfl
   ·kernel_rfl
  case inr =>
   obtain ⟨f1, f2, f3⟩ := HF.out (l0_4.length + 1) (by omega) _ rfl
   refine bodyPost_ret (v := .agg #[.int .u64 a0_0, .int .u64 a0_1, .int .i64 a0_2, .int .i64 a0_3, .slice A2 (l0_4.length + 1) c2]) ?_ rfl ⟨.slice A2 (l0_4.length + 1) c2, rfl, f2, f3⟩
   refine results_cell_row rfl _ _ (w.heap.size + 1 + 1) 28 _ (0, 0) _ ?_ f1 hu28 rfl ?_
   ·rfl
   ·kernel_rfl
 | true =>
  have h := HH.out
  clear HH
  rw [if_pos rfl] at h
  split at h
  case isFalse => cases h
  case isTrue hi =>
  obtain ⟨j, rfl⟩ := Int.eq_ofNat_of_zero_le hi.1
  have hj : j < l0_4.length := by have := hi.2; omega
  clear hi
  rw [Int.toNat_natCast] at h
  unfold strata_put.cut at h
  split at h
  case isFalse => cases h
  case isTrue hm =>
  simp only [Option.some.injEq, Prod.mk.injEq] at h
  obtain ⟨rfl, rfl, rfl, rfl, h4⟩ := h
  have H4 := am h4
  have HM := am hm
  clear h4 hm
  obtain ⟨ga, cap, hga, hgb, hgl, -⟩ := Kd.N_form HN2.out (by omega)
  injection hga with hA hcc hcap
  subst hA
  subst hcap
  have hga2 : w.heap.size + 1 + 1 + 1 ≤ ga := hgb
  obtain ⟨cf, hcl, hM, hcc, hfr⟩ := Kd.N_elem HN2.out z42 (j : Int) (by omega) (by omega)
  have HC := am (And.intro hcl hcc)
  have HFR := am hfr
  have hcl6 : cf.length = 6 := hcl
  have q : ∀ p, p < 6 → ∃ u, w2.cell? ⟨ga, j * 6 + p, none⟩ = some u := fun p hp => ⟨cf[p]'(by omega), HC.out.2 p _ (List.getElem?_eq_getElem (by omega))⟩
  obtain ⟨u0, q0⟩ := q 0 (by decide)
  obtain ⟨u1, q1⟩ := q 1 (by decide)
  obtain ⟨u2, q2⟩ := q 2 (by decide)
  obtain ⟨u3, q3⟩ := q 3 (by decide)
  obtain ⟨u4, q4⟩ := q 4 (by decide)
  obtain ⟨u5, q5⟩ := q 5 (by decide)
  have f0 : w2.frozen? ⟨ga, j * 6 + 0, none⟩ = false := HFR.out 0
  have f1 : w2.frozen? ⟨ga, j * 6 + 1, none⟩ = false := HFR.out 1
  have f2 : w2.frozen? ⟨ga, j * 6 + 2, none⟩ = false := HFR.out 2
  have f3 : w2.frozen? ⟨ga, j * 6 + 3, none⟩ = false := HFR.out 3
  have f4 : w2.frozen? ⟨ga, j * 6 + 4, none⟩ = false := HFR.out 4
  have f5 : w2.frozen? ⟨ga, j * 6 + 5, none⟩ = false := HFR.out 5
  have HP := am (Kd.N_seg (Kd.N_mono HN2.out (ok' := fun k_ => (P0_4_ k_ ∧ k_ < w.heap.size) ∨ (P1_5_ k_ ∧ k_ < w.heap.size) ∨ w.heap.size + 1 + 1 + 1 ≤ k_) (fun k_ hk => hk.elim .inl (fun h => .inr (.inr h)))) (j : Int) (by omega) (by omega) (c := cf) (seg := [.string a1_0, .int .u64 a1_1, .int .u64 a1_2, .int .u64 a1_3, .int .i64 a1_4, .slice A1_5 l1_5.length c1_5]) (j := 0) HC.out.1 HC.out.2 (show 0 + 6 ≤ 6 from by decide) (x' := ⟨a1_0, a1_1, ⟨⟨a1_2, a1_3⟩, a1_4, l1_5⟩⟩) (okp := fun k_ => P1_5_ k_ ∧ k_ < w.heap.size) (by rw [List.take_zero, List.drop_of_length_le (by rw [hcl6]; exact Nat.le_refl 6), List.append_nil, List.nil_append]; exact HXF.out) (fun k_ hk => ⟨.inr (.inl hk), fun he => by have := hk.2; omega⟩))
  clear HC HFR hM hcl hcc hfr q hcl6 HXF
  simp only [Nat.add_zero] at q0 f0
  obtain ⟨m, hm⟩ : ∃ m, m = l0_4.set j ⟨a1_0, a1_1, ⟨⟨a1_2, a1_3⟩, a1_4, l1_5⟩⟩ := ⟨_, rfl⟩
  have hml : m.length = l0_4.length := by rw [hm, List.length_set]
  rw [← hm] at H4 HM
  have HMM := am hm
  clear hm
  have d0 : decide ((j : Int) < (l0_4.length : Int)) = true := decide_eq_true (by omega)
  go_wp2_with (
   with_reducible refine gate_store (t := 42) (p := 22) rfl ?_
   refine store_event (t := 42) (p := 22) (v := ?vo_1) (w1 := (((((w2.setCell ⟨ga, j * 6, none⟩ (.string a1_0)).setCell ⟨ga, j * 6 + 1, none⟩ (.int .u64 a1_1)).setCell ⟨ga, j * 6 + 2, none⟩ (.int .u64 a1_2)).setCell ⟨ga, j * 6 + 3, none⟩ (.int .u64 a1_3)).setCell ⟨ga, j * 6 + 4, none⟩ (.int .i64 a1_4)).setCell ⟨ga, j * 6 + 5, none⟩ (.slice A1_5 l1_5.length c1_5)) ?hg ?ho ?hn ?hr ?_; (case ho => rfl); (case hg => rfl); (case hn => rfl); (case hr => first | (go_simp; done) | (go_simp; rfl))
   intro w6 hw
   have hg6 : w2.grownBy w6 (some ga) := (by rw [hw]; exact HP.out.2)
   have HN6 : Aside0 (Kd.N k42 42 w6 (w.heap.size + 1 + 1 + 1) _ (.slice (some ⟨ga, 0, none⟩) m.length c1) m) := ⟨by rw [hw, hml, HMM.out]; exact HP.out.1⟩
   have HB6 : Aside0 (Below w.heap.size w w6) := ⟨by rw [hw]; exact below_set (below_set (below_set (below_set (below_set (below_set HB2.out (by omega)) (by omega)) (by omega)) (by omega)) (by omega)) (by omega)⟩
   have F0 := am (blk_grown C0.out hg6 (by simp only [ne_eq, Option.some.injEq]; omega))
   have F2 := am (blk_grown C2.out hg6 (by simp only [ne_eq, Option.some.injEq]; omega))
   clear hw hg6 HP q0 q1 q2 q3 q4 q5 f0 f1 f2 f3 f4 f5 x0 x1 x2 x3 x4 x5 HN2 HB2 C0 C1 C2 HMM
   have s0 := blk_cell F0.out 0
   have s1 := blk_cell F0.out 1
   have s2 := blk_cell F0.out 2
   have s3 := blk_cell F0.out 3
   have s4 := blk_cell F0.out 4
   have z4 := blk_frozen F0.out 4
   have t0 := blk_cell F2.out 0
   have y0 := blk_frozen F2.out 0
   have t1 := blk_cell F2.out 1
   have y1 := blk_frozen F2.out 1
   have t2 := blk_cell F2.out 2
   have y2 := blk_frozen F2.out 2
   have t3 := blk_cell F2.out 3
   have y3 := blk_frozen F2.out 3
   have t4 := blk_cell F2.out 4
   have y4 := blk_frozen F2.out 4
   have hm0 := HM.out
   have HF : Aside0 (∀ mm : Nat, mm = (min (m.length : Int) a0_2).toNat → ∀ W : World, W = (((((w6.setCell ⟨w.heap.size, 4, none⟩ (.slice (some ⟨ga, 0, none⟩) mm c1)).setCell ⟨w.heap.size + 1 + 1, 0, none⟩ (.int .u64 a0_0)).setCell ⟨w.heap.size + 1 + 1, 1, none⟩ (.int .u64 a0_1)).setCell ⟨w.heap.size + 1 + 1, 2, none⟩ (.int .i64 a0_2)).setCell ⟨w.heap.size + 1 + 1, 3, none⟩ (.int .i64 a0_3)).setCell ⟨w.heap.size + 1 + 1, 4, none⟩ (.slice (some ⟨ga, 0, none⟩) mm c1) →
     W.heap[w.heap.size + 1 + 1]? = some (.cells #[.int .u64 a0_0, .int .u64 a0_1, .int .i64 a0_2, .int .i64 a0_3, .slice (some ⟨ga, 0, none⟩) mm c1] 28 (0, 0)) ∧ Kd.V k42 42 W w.heap.size (fun k_ => ((P0_4_ k_ ∨ P1_5_ k_) ∨ w.heap.size ≤ k_)) (.slice (some ⟨ga, 0, none⟩) mm c1) r5 ∧ Below w.heap.size w W) := ⟨fun mm hmm W hW => by
    subst hW
    have hml2 : mm ≤ m.length := by omega
    have hV : Kd.V k42 42 w6 w.heap.size (fun k_ => (P0_4_ k_ ∧ k_ < w.heap.size) ∨ (P1_5_ k_ ∧ k_ < w.heap.size) ∨ w.heap.size + 1 + 1 + 1 ≤ k_) (.slice (some ⟨ga, 0, none⟩) m.length c1) m := Kd.N_V HN6.out
    have h4 := H4.out
    rw [← hmm] at h4
    subst h4
    refine ⟨blk_put (blk_put (blk_put (blk_put (blk_put (cs' := #[.int .u64 a0_0, .int .u64 0, .int .i64 0, .int .i64 0, .slice none 0 0]) (blk_far F2.out (by simp <;> omega) _) 0 _ rfl) (cs' := #[.int .u64 a0_0, .int .u64 a0_1, .int .i64 0, .int .i64 0, .slice none 0 0]) 1 _ rfl) (cs' := #[.int .u64 a0_0, .int .u64 a0_1, .int .i64 a0_2, .int .i64 0, .slice none 0 0]) 2 _ rfl) (cs' := #[.int .u64 a0_0, .int .u64 a0_1, .int .i64 a0_2, .int .i64 a0_3, .slice none 0 0]) 3 _ rfl) 4 _ rfl, ?_, below_set (below_set (below_set (below_set (below_set (below_set HB6.out (Nat.le_refl _)) (by omega)) (by omega)) (by omega)) (by omega)) (by omega)⟩
    refine Kd.V_mono (ok := fun k_ => (P0_4_ k_ ∧ k_ < w.heap.size) ∨ (P1_5_ k_ ∧ k_ < w.heap.size) ∨ w.heap.size + 1 + 1 + 1 ≤ k_) (V_takenL ?_ hml2) (fun k_ hk => by rcases hk with hk | hk | hk; exact .inl (.inl hk.1); exact .inl (.inr hk.1); exact .inr (by omega))
    refine Kd.V_far (Kd.V_far (Kd.V_far (Kd.V_far (Kd.V_far (Kd.V_far hV ?_ _) ?_ _) ?_ _) ?_ _) ?_ _) ?_ _ <;> (intro k_ hk; simp only [ne_eq]; rcases hk with hk | hk | hk <;> first | omega | (have := hk.2; omega))⟩
  )
  case inl =>
   obtain ⟨f1, f2, f3⟩ := HF.out a0_2.toNat (by omega) _ rfl
   refine bodyPost_ret (v := .agg #[.int .u64 a0_0, .int .u64 a0_1, .int .i64 a0_2, .int .i64 a0_3, .slice (some ⟨ga, 0, none⟩) a0_2.toNat c1]) ?_ rfl ⟨.slice (some ⟨ga, 0, none⟩) a0_2.toNat c1, rfl, f2, f3⟩
   refine results_cell_row rfl _ _ (w.heap.size + 1 + 1) 28 _ (0, 0) _ ?_ f1 hu28 rfl ?_
   ·rfl
   ·kernel_rfl
  case inr =>
   obtain ⟨f1, f2, f3⟩ := HF.out l0_4.length (by omega) _ rfl
   refine bodyPost_ret (v := .agg #[.int .u64 a0_0, .int .u64 a0_1, .int .i64 a0_2, .int .i64 a0_3, .slice (some ⟨ga, 0, none⟩) l0_4.length c1]) ?_ rfl ⟨.slice (some ⟨ga, 0, none⟩) l0_4.length c1, rfl, f2, f3⟩
   refine results_cell_row rfl _ _ (w.heap.size + 1 + 1) 28 _ (0, 0) _ ?_ f1 hu28 rfl ?_
   ·rfl
   ·kernel_rfl
def strata_Add.f (k : Nat) (a0_0 : Int) (a0_1 : Int) (a0_2 : Int) (a0_3 : Int) (l0_4 : List (S42)) (a1 : ByteArray) (a2 : ByteArray) (a3 : Int) : Option (Int × Int × Int × Int × (List (S42)) × Int) := (strata_Right.f k a0_0 a0_1 a0_2 a0_3 l0_4).bind fun t228 => (if t228 = true then (if (a1.size : Int) > 64 then (some (a0_0, a0_1, a0_2, a0_3, l0_4, 5)) else ((strata_find.f k a0_0 a0_1 a0_2 a0_3 l0_4 a1).bind fun bt229 => ((bottom_Add.f k bt229.2.2.1 bt229.2.2.2.1 bt229.2.2.2.2.1 bt229.2.2.2.2.2.1 a2 a3).bind fun bt239 => (if bt239.2.2.2.2 = 0 then ((strata_put.f k a0_0 a0_1 a0_2 a0_3 l0_4 bt229.1 bt229.2.1 bt239.1 bt239.2.1 bt239.2.2.1 bt239.2.2.2.1).bind fun bt247 => (some (bt247.1, bt247.2.1, bt247.2.2.1, bt247.2.2.2.1, bt247.2.2.2.2, 0))) else (some (a0_0, a0_1, a0_2, a0_3, l0_4, bt239.2.2.2.2)))))) else (some (a0_0, a0_1, a0_2, a0_3, l0_4, 1)))
theorem strata_Add.mono : ∀ a0 a1 a2 a3 a4 a5 a6 a7 k, LeO (strata_Add.f k a0 a1 a2 a3 a4 a5 a6 a7) (strata_Add.f (k + 1) a0 a1 a2 a3 a4 a5 a6 a7) := by
 intro a0 a1 a2 a3 a4 a5 a6 a7 k
 unfold strata_Add.f
 repeat' first
   | (with_reducible exact bottom_Add.mono _ _ _ _ _ _ _)
   | (with_reducible exact strata_Right.mono _ _ _ _ _ _)
   | (with_reducible exact strata_find.mono _ _ _ _ _ _ _)
   | (with_reducible exact strata_put.mono _ _ _ _ _ _ _ _ _ _ _ _)
   | (with_reducible exact LeO.refl _)
   | (with_reducible exact LeO.none _)
   | (with_reducible refine LeO.ite ?_ ?_)
   | (with_reducible refine LeO.bind ?_ (fun _ => ?_))
set_option maxHeartbeats 8000000 in
set_option maxRecDepth 100000 in
theorem strata_Add.calls (k : Nat) (a0_0 : Int) (a0_1 : Int) (a0_2 : Int) (a0_3 : Int) (P0_4_ : Nat → Prop) (A0_4 : Option Addr) (c0_4 : Nat) (l0_4 : List (S42)) (a1 : ByteArray) (a2 : ByteArray) (a3 : Int) (r1 : Int) (r2 : Int) (r3 : Int) (r4 : Int) (r5 : List (S42)) (r6 : Int) (w : World) (hs0_4 : Kd.V k42 42 w w.heap.size (fun k_ => P0_4_ k_) (.slice A0_4 l0_4.length c0_4) l0_4) (h : strata_Add.f k a0_0 a0_1 a0_2 a0_3 l0_4 a1 a2 a3 = some (r1, r2, r3, r4, r5, r6)) :
  Calls Try.prog 10 #[.agg #[.int .u64 a0_0, .int .u64 a0_1, .int .i64 a0_2, .int .i64 a0_3, .slice A0_4 l0_4.length c0_4], .string a1, .string a2, .int .u64 a3] w fun e w' => ∃ v4_ : Value, e = .returned (.tuple #[.agg #[.int .u64 r1, .int .u64 r2, .int .i64 r3, .int .i64 r4, v4_], .int .i64 r6]) ∧ Kd.V k42 42 w' w.heap.size (fun k_ => (P0_4_ k_ ∨ w.heap.size ≤ k_)) v4_ r5 ∧ Below w.heap.size w w' := by
 have hu28 := Try.underlying28
 have hu42 := Try.underlying42
 have hu40 := Try.underlying40
 have HO0_4 := am (show Kd.V k42 42 w w.heap.size (fun k_ => (P0_4_ k_ ∨ w.heap.size ≤ k_)) (.slice A0_4 l0_4.length c0_4) l0_4 from Kd.V_mono hs0_4 (fun k_ hk => .inl hk))
 have HB := am (Below.refl w.heap.size w)
 have H : ((strata_Right.f k a0_0 a0_1 a0_2 a0_3 l0_4).bind fun t228 => (if t228 = true then (if (a1.size : Int) > 64 then (some (a0_0, a0_1, a0_2, a0_3, l0_4, 5)) else ((strata_find.f k a0_0 a0_1 a0_2 a0_3 l0_4 a1).bind fun bt229 => ((bottom_Add.f k bt229.2.2.1 bt229.2.2.2.1 bt229.2.2.2.2.1 bt229.2.2.2.2.2.1 a2 a3).bind fun bt239 => (if bt239.2.2.2.2 = 0 then ((strata_put.f k a0_0 a0_1 a0_2 a0_3 l0_4 bt229.1 bt229.2.1 bt239.1 bt239.2.1 bt239.2.2.1 bt239.2.2.2.1).bind fun bt247 => (some (bt247.1, bt247.2.1, bt247.2.2.1, bt247.2.2.2.1, bt247.2.2.2.2, 0))) else (some (a0_0, a0_1, a0_2, a0_3, l0_4, bt239.2.2.2.2)))))) else (some (a0_0, a0_1, a0_2, a0_3, l0_4, 1)))) = some (r1, r2, r3, r4, r5, r6) := h
 clear h
 replace H := Option.bind_eq_some_iff.mp H
 obtain ⟨t228, A50, H⟩ := H
 try dsimp only at H
 have A5 := am A50
 clear A50
 by_cases c6 : t228 = true
 rotate_left
 ·replace c6 := Bool.eq_false_iff.mpr c6
  subst c6
  have H1 : (some (a0_0, a0_1, a0_2, a0_3, l0_4, 1)) = some (r1, r2, r3, r4, r5, r6) := by rw [if_neg (show ¬ (false = true) by decide)] at H; exact H
  clear H
  have H := H1
  clear H1
  simp only [Option.some.injEq, Prod.mk.injEq] at H
  obtain ⟨rfl, rfl, rfl, rfl, rfl, rfl⟩ := H
  go_enter Try.func10, Try.ntmps10
  go_wp2_with (first | ((with_reducible refine gate_dst (N := 4) rfl ?_); refine be 4 #[.int .u64 a0_0, .int .u64 a0_1, .int .i64 a0_2, .int .i64 a0_3, .slice A0_4 l0_4.length c0_4] 28 ?_; intro gb226 hg w72 hbox hb; replace HO0_4 := am (Kd.V_below (Kd.V_elderB (pv HO0_4.out) gb226 (Nat.le_of_eq hg.symm)) hb); have BK226 := am (hbox); have GW226 := am ((pg hg HB : w.heap.size ≤ gb226)); have GE226 := am ((pg hg HB : w.heap.size ≤ gb226)); replace HB := am (below_step (pb HB) hb); clear hb hbox hg) | ((with_reducible refine gate_dst (N := 8) rfl ?_); refine be 8 #[.int .u64 0, .int .u64 0, .int .i64 0, .int .i64 0, .slice none 0 0] 28 ?_; intro gb227 hg w73 hbox hb; replace HO0_4 := am (Kd.V_below (Kd.V_elderB (pv HO0_4.out) gb227 (Nat.le_of_eq hg.symm)) hb); have BK227 := am (hbox); have GW227 := am ((pg hg HB : w.heap.size ≤ gb227)); have GE227 := am ((pg hg HB : w.heap.size ≤ gb227)); replace HB := am (below_step (pb HB) hb); obtain ⟨NB226_227, NB227_226, hnb74, hnc74⟩ := pm hg BK226; replace BK226 := am (blk_below (pk BK226.out) hb); clear hb hbox hg; obtain ⟨hcz75_0, hcz75_1, hcz75_2, hcz75_3, hcz75_4, hfz75_0, hfz75_1, hfz75_2, hfz75_3, hfz75_4⟩ := g5 BK226) | ((with_reducible refine gate_callee (f := 20) rfl ?_); refine gl (some 16) Try.func20 #[.agg #[.int .u64 a0_0, .int .u64 a0_1, .int .i64 a0_2, .int .i64 a0_3, .slice A0_4 l0_4.length c0_4]] ?_; (with_reducible refine (strata_Right.calls k a0_0 a0_1 a0_2 a0_3 _ _ l0_4 false _ ?side1 ?side2 A5.out).mono ?_); (case side1 => repeat (first | exact (Kd.V_reads' HO0_4.out).2.2 | (with_reducible refine Kd.C_alloc ?_ _) | (with_reducible refine Kd.C_drewN ?_ _) | (with_reducible refine Kd.C_drew ?_))); (case side2 => exact (Kd.V_reads' HO0_4.out).2.1); rintro e w76 ⟨rfl, hb⟩; refine ⟨_, rfl, ?_⟩; replace HO0_4 := am (Kd.V_below (pv HO0_4.out) hb); replace BK226 := am (blk_below (pk BK226.out) hb); replace BK227 := am (blk_below (pk BK227.out) hb); replace HB := am (below_step (pb HB) hb); (try clear hb); (try clear hb2); (try clear hk); (try clear hi); obtain ⟨hcz77_0, hcz77_1, hcz77_2, hcz77_3, hcz77_4, hfz77_0, hfz77_1, hfz77_2, hfz77_3, hfz77_4⟩ := g5 BK226; obtain ⟨hcz78_0, hcz78_1, hcz78_2, hcz78_3, hcz78_4, hfz78_0, hfz78_1, hfz78_2, hfz78_3, hfz78_4⟩ := g5 BK227))
  refine bodyPost_ret (results_ct rfl _ _ gb227 28 #[.int .u64 a0_0, .int .u64 a0_1, .int .i64 a0_2, .int .i64 a0_3, .slice A0_4 l0_4.length c0_4] (0, 0) _ rfl (by refine pk ?_; refine blk_put (cs := #[.int .u64 a0_0, .int .u64 a0_1, .int .i64 a0_2, .int .i64 a0_3, .slice none 0 0]) ?_ 4 _ rfl; refine pk ?_; refine blk_put (cs := #[.int .u64 a0_0, .int .u64 a0_1, .int .i64 a0_2, .int .i64 0, .slice none 0 0]) ?_ 3 _ rfl; refine pk ?_; refine blk_put (cs := #[.int .u64 a0_0, .int .u64 a0_1, .int .i64 0, .int .i64 0, .slice none 0 0]) ?_ 2 _ rfl; refine pk ?_; refine blk_put (cs := #[.int .u64 a0_0, .int .u64 0, .int .i64 0, .int .i64 0, .slice none 0 0]) ?_ 1 _ rfl; refine pk ?_; refine blk_put (cs := #[.int .u64 0, .int .u64 0, .int .i64 0, .int .i64 0, .slice none 0 0]) ?_ 0 _ rfl; refine pk ?_; exact BK227.out) Try.underlying28 rfl (by kernel_rfl)) rfl ?_
  exact ⟨_, by first | rfl | (simp [errW_none, errW_some] <;> rfl) | (simp [*, errW_none, errW_some] <;> rfl), by refine pv ?_; exact Kd.V_mono (Kd.V_far (p := ⟨gb227, 4, none⟩) (Kd.V_far (p := ⟨gb227, 3, none⟩) (Kd.V_far (p := ⟨gb227, 2, none⟩) (Kd.V_far (p := ⟨gb227, 1, none⟩) (Kd.V_far (p := ⟨gb227, 0, none⟩) (Kd.V_mono HO0_4.out (fun k_ hk => (⟨hk, hk.2⟩ : _ ∧ k_ ≠ gb227))) (fun _ hk => hk.2) (.int .u64 a0_0)) (fun _ hk => hk.2) (.int .u64 a0_1)) (fun _ hk => hk.2) (.int .i64 a0_2)) (fun _ hk => hk.2) (.int .i64 a0_3)) (fun _ hk => hk.2) (.slice A0_4 l0_4.length c0_4)) (fun _ hk => hk.1.1.1), pb HB⟩
 subst c6
 have H1 : (if (a1.size : Int) > 64 then (some (a0_0, a0_1, a0_2, a0_3, l0_4, 5)) else ((strata_find.f k a0_0 a0_1 a0_2 a0_3 l0_4 a1).bind fun bt229 => ((bottom_Add.f k bt229.2.2.1 bt229.2.2.2.1 bt229.2.2.2.2.1 bt229.2.2.2.2.2.1 a2 a3).bind fun bt239 => (if bt239.2.2.2.2 = 0 then ((strata_put.f k a0_0 a0_1 a0_2 a0_3 l0_4 bt229.1 bt229.2.1 bt239.1 bt239.2.1 bt239.2.2.1 bt239.2.2.2.1).bind fun bt247 => (some (bt247.1, bt247.2.1, bt247.2.2.1, bt247.2.2.2.1, bt247.2.2.2.2, 0))) else (some (a0_0, a0_1, a0_2, a0_3, l0_4, bt239.2.2.2.2)))))) = some (r1, r2, r3, r4, r5, r6) := by rw [if_pos rfl] at H; exact H
 clear H
 have H := H1
 clear H1
 by_cases c7 : (a1.size : Int) > 64
 ·rw [if_pos c7] at H
  have c7b0 : decide (64 < (a1.size : Int)) = true := decide_eq_true c7
  have c7b1 : decide (64 < a1.size) = true := decide_eq_true (by omega)
  clear c7
  simp only [Option.some.injEq, Prod.mk.injEq] at H
  obtain ⟨rfl, rfl, rfl, rfl, rfl, rfl⟩ := H
  go_enter Try.func10, Try.ntmps10
  go_wp2_with (first | ((with_reducible refine gate_dst (N := 4) rfl ?_); refine be 4 #[.int .u64 a0_0, .int .u64 a0_1, .int .i64 a0_2, .int .i64 a0_3, .slice A0_4 l0_4.length c0_4] 28 ?_; intro gb226 hg w8 hbox hb; replace HO0_4 := am (Kd.V_below (Kd.V_elderB (pv HO0_4.out) gb226 (Nat.le_of_eq hg.symm)) hb); have BK226 := am (hbox); have GW226 := am ((pg hg HB : w.heap.size ≤ gb226)); have GE226 := am ((pg hg HB : w.heap.size ≤ gb226)); replace HB := am (below_step (pb HB) hb); clear hb hbox hg) | ((with_reducible refine gate_dst (N := 8) rfl ?_); refine be 8 #[.int .u64 0, .int .u64 0, .int .i64 0, .int .i64 0, .slice none 0 0] 28 ?_; intro gb227 hg w9 hbox hb; replace HO0_4 := am (Kd.V_below (Kd.V_elderB (pv HO0_4.out) gb227 (Nat.le_of_eq hg.symm)) hb); have BK227 := am (hbox); have GW227 := am ((pg hg HB : w.heap.size ≤ gb227)); have GE227 := am ((pg hg HB : w.heap.size ≤ gb227)); replace HB := am (below_step (pb HB) hb); obtain ⟨NB226_227, NB227_226, hnb10, hnc10⟩ := pm hg BK226; replace BK226 := am (blk_below (pk BK226.out) hb); clear hb hbox hg; obtain ⟨hcz11_0, hcz11_1, hcz11_2, hcz11_3, hcz11_4, hfz11_0, hfz11_1, hfz11_2, hfz11_3, hfz11_4⟩ := g5 BK226) | ((with_reducible refine gate_callee (f := 20) rfl ?_); refine gl (some 16) Try.func20 #[.agg #[.int .u64 a0_0, .int .u64 a0_1, .int .i64 a0_2, .int .i64 a0_3, .slice A0_4 l0_4.length c0_4]] ?_; (with_reducible refine (strata_Right.calls k a0_0 a0_1 a0_2 a0_3 _ _ l0_4 true _ ?side1 ?side2 A5.out).mono ?_); (case side1 => repeat (first | exact (Kd.V_reads' HO0_4.out).2.2 | (with_reducible refine Kd.C_alloc ?_ _) | (with_reducible refine Kd.C_drewN ?_ _) | (with_reducible refine Kd.C_drew ?_))); (case side2 => exact (Kd.V_reads' HO0_4.out).2.1); rintro e w12 ⟨rfl, hb⟩; refine ⟨_, rfl, ?_⟩; replace HO0_4 := am (Kd.V_below (pv HO0_4.out) hb); replace BK226 := am (blk_below (pk BK226.out) hb); replace BK227 := am (blk_below (pk BK227.out) hb); replace HB := am (below_step (pb HB) hb); (try clear hb); (try clear hb2); (try clear hk); (try clear hi); obtain ⟨hcz13_0, hcz13_1, hcz13_2, hcz13_3, hcz13_4, hfz13_0, hfz13_1, hfz13_2, hfz13_3, hfz13_4⟩ := g5 BK226; obtain ⟨hcz14_0, hcz14_1, hcz14_2, hcz14_3, hcz14_4, hfz14_0, hfz14_1, hfz14_2, hfz14_3, hfz14_4⟩ := g5 BK227))
  refine bodyPost_ret (results_ct rfl _ _ gb227 28 #[.int .u64 a0_0, .int .u64 a0_1, .int .i64 a0_2, .int .i64 a0_3, .slice A0_4 l0_4.length c0_4] (0, 0) _ rfl (by refine pk ?_; refine blk_put (cs := #[.int .u64 a0_0, .int .u64 a0_1, .int .i64 a0_2, .int .i64 a0_3, .slice none 0 0]) ?_ 4 _ rfl; refine pk ?_; refine blk_put (cs := #[.int .u64 a0_0, .int .u64 a0_1, .int .i64 a0_2, .int .i64 0, .slice none 0 0]) ?_ 3 _ rfl; refine pk ?_; refine blk_put (cs := #[.int .u64 a0_0, .int .u64 a0_1, .int .i64 0, .int .i64 0, .slice none 0 0]) ?_ 2 _ rfl; refine pk ?_; refine blk_put (cs := #[.int .u64 a0_0, .int .u64 0, .int .i64 0, .int .i64 0, .slice none 0 0]) ?_ 1 _ rfl; refine pk ?_; refine blk_put (cs := #[.int .u64 0, .int .u64 0, .int .i64 0, .int .i64 0, .slice none 0 0]) ?_ 0 _ rfl; refine pk ?_; exact BK227.out) Try.underlying28 rfl (by kernel_rfl)) rfl ?_
  exact ⟨_, by first | rfl | (simp [errW_none, errW_some] <;> rfl) | (simp [*, errW_none, errW_some] <;> rfl), by refine pv ?_; exact Kd.V_mono (Kd.V_far (p := ⟨gb227, 4, none⟩) (Kd.V_far (p := ⟨gb227, 3, none⟩) (Kd.V_far (p := ⟨gb227, 2, none⟩) (Kd.V_far (p := ⟨gb227, 1, none⟩) (Kd.V_far (p := ⟨gb227, 0, none⟩) (Kd.V_mono HO0_4.out (fun k_ hk => (⟨hk, hk.2⟩ : _ ∧ k_ ≠ gb227))) (fun _ hk => hk.2) (.int .u64 a0_0)) (fun _ hk => hk.2) (.int .u64 a0_1)) (fun _ hk => hk.2) (.int .i64 a0_2)) (fun _ hk => hk.2) (.int .i64 a0_3)) (fun _ hk => hk.2) (.slice A0_4 l0_4.length c0_4)) (fun _ hk => hk.1.1.1), pb HB⟩
 rw [if_neg c7] at H
 have c7b0 : decide (64 < (a1.size : Int)) = false := decide_eq_false c7
 have c7b1 : decide (64 < a1.size) = false := decide_eq_false (by omega)
 clear c7
 replace H := Option.bind_eq_some_iff.mp H
 obtain ⟨⟨t229, t230, t231, t232, t233, t234, t237⟩, A150, H⟩ := H
 try dsimp only at H
 have A15 := am A150
 clear A150
 replace H := Option.bind_eq_some_iff.mp H
 obtain ⟨⟨t239, t240, t241, t242, t245⟩, A160, H⟩ := H
 try dsimp only at H
 have A16 := am A160
 clear A160
 by_cases c17 : t245 = 0
 rotate_left
 ·rw [if_neg c17] at H
  have c17b0 : (t245 == 0) = false := beq_eq_false_iff_ne.mpr c17
  have c17b1 : (t245 != 0) = true := bne_iff_ne.mpr c17
  simp only [Option.some.injEq, Prod.mk.injEq] at H
  obtain ⟨rfl, rfl, rfl, rfl, rfl, rfl⟩ := H
  go_enter Try.func10, Try.ntmps10
  go_wp2_with (first | ((with_reducible refine gate_dst (N := 4) rfl ?_); refine be 4 #[.int .u64 a0_0, .int .u64 a0_1, .int .i64 a0_2, .int .i64 a0_3, .slice A0_4 l0_4.length c0_4] 28 ?_; intro gb226 hg w49 hbox hb; replace HO0_4 := am (Kd.V_below (Kd.V_elderB (pv HO0_4.out) gb226 (Nat.le_of_eq hg.symm)) hb); have BK226 := am (hbox); have GW226 := am ((pg hg HB : w.heap.size ≤ gb226)); have GE226 := am ((pg hg HB : w.heap.size ≤ gb226)); replace HB := am (below_step (pb HB) hb); clear hb hbox hg) | ((with_reducible refine gate_dst (N := 8) rfl ?_); refine be 8 #[.int .u64 0, .int .u64 0, .int .i64 0, .int .i64 0, .slice none 0 0] 28 ?_; intro gb227 hg w50 hbox hb; replace HO0_4 := am (Kd.V_below (Kd.V_elderB (pv HO0_4.out) gb227 (Nat.le_of_eq hg.symm)) hb); have BK227 := am (hbox); have GW227 := am ((pg hg HB : w.heap.size ≤ gb227)); have GE227 := am ((pg hg HB : w.heap.size ≤ gb227)); replace HB := am (below_step (pb HB) hb); obtain ⟨NB226_227, NB227_226, hnb51, hnc51⟩ := pm hg BK226; replace BK226 := am (blk_below (pk BK226.out) hb); clear hb hbox hg; obtain ⟨hcz52_0, hcz52_1, hcz52_2, hcz52_3, hcz52_4, hfz52_0, hfz52_1, hfz52_2, hfz52_3, hfz52_4⟩ := g5 BK226) | ((with_reducible refine gate_callee (f := 20) rfl ?_); refine gl (some 16) Try.func20 #[.agg #[.int .u64 a0_0, .int .u64 a0_1, .int .i64 a0_2, .int .i64 a0_3, .slice A0_4 l0_4.length c0_4]] ?_; (with_reducible refine (strata_Right.calls k a0_0 a0_1 a0_2 a0_3 _ _ l0_4 true _ ?side1 ?side2 A5.out).mono ?_); (case side1 => repeat (first | exact (Kd.V_reads' HO0_4.out).2.2 | (with_reducible refine Kd.C_alloc ?_ _) | (with_reducible refine Kd.C_drewN ?_ _) | (with_reducible refine Kd.C_drew ?_))); (case side2 => exact (Kd.V_reads' HO0_4.out).2.1); rintro e w53 ⟨rfl, hb⟩; refine ⟨_, rfl, ?_⟩; replace HO0_4 := am (Kd.V_below (pv HO0_4.out) hb); replace BK226 := am (blk_below (pk BK226.out) hb); replace BK227 := am (blk_below (pk BK227.out) hb); replace HB := am (below_step (pb HB) hb); (try clear hb); (try clear hb2); (try clear hk); (try clear hi); obtain ⟨hcz54_0, hcz54_1, hcz54_2, hcz54_3, hcz54_4, hfz54_0, hfz54_1, hfz54_2, hfz54_3, hfz54_4⟩ := g5 BK226) | ((with_reducible refine gate_callee (f := 28) rfl ?_); refine gl (some 27) Try.func28 #[.agg #[.int .u64 a0_0, .int .u64 a0_1, .int .i64 a0_2, .int .i64 a0_3, .slice A0_4 l0_4.length c0_4], .string a1] ?_; (with_reducible refine (strata_find.calls k a0_0 a0_1 a0_2 a0_3 (fun k_ => (((P0_4_ k_ ∨ w.heap.size ≤ k_) ∧ k_ ≠ gb226) ∧ k_ ≠ gb227)) _ _ l0_4 a1 t229 t230 t231 t232 t233 t234 t237 _ ?side1 A15.out).mono ?_); (case side1 => exact HO0_4.out); rintro e w55 ⟨v235, rfl, ho0, hb⟩; refine ⟨_, rfl, ?_⟩; replace HO0_4 := am (Kd.V_below (pv HO0_4.out) hb); have HO236 := am (Kd.V_lower (Kd.V_mono (ok' := fun k_ => (P0_4_ k_ ∨ w.heap.size ≤ k_) ∧ k_ ≠ gb226 ∧ k_ ≠ gb227) ho0 (fun k_ hk_ => ⟨Or.elim hk_ (fun hs_ => hs_.1.1) (fun hn_ => (.inr (Nat.le_trans (below_size (pb HB)) hn_))), Or.elim hk_ (fun hs_ => hs_.1.2) (fun hn_ => (Kd.freshB (g := gb226) (o := .cells #[.int .u64 a0_0, .int .u64 a0_1, .int .i64 a0_2, .int .i64 a0_3, .slice A0_4 l0_4.length c0_4] 28 (0, 0)) (pk BK226.out) k_ hn_)), Or.elim hk_ (fun hs_ => hs_.2) (fun hn_ => (Kd.freshB (g := gb227) (o := .cells #[.int .u64 0, .int .u64 0, .int .i64 0, .int .i64 0, .slice none 0 0] 28 (0, 0)) (pk BK227.out) k_ hn_))⟩)) (below_size (pb HB))); replace BK226 := am (blk_below (pk BK226.out) hb); replace BK227 := am (blk_below (pk BK227.out) hb); replace HB := am (below_step (pb HB) hb); (try clear hb); (try clear hb2); (try clear hk); (try clear hi); (try clear ho0)) | ((with_reducible refine gate_dst (N := 10) rfl ?_); refine be 10 #[.string (⟨#[]⟩ : ByteArray), .int .u64 0, .int .u64 0, .int .u64 0, .int .i64 0, .slice none 0 0] 42 ?_; intro gb238 hg w56 hbox hb; replace HO0_4 := am (Kd.V_below (Kd.V_elderB (pv HO0_4.out) gb238 (Nat.le_of_eq hg.symm)) hb); replace HO236 := am (Kd.V_below (Kd.V_elderB (pv HO236.out) gb238 (Nat.le_of_eq hg.symm)) hb); have BK238 := am (hbox); have GW238 := am ((pg hg HB : w.heap.size ≤ gb238)); have GE238 := am ((pg hg HB : w.heap.size ≤ gb238)); replace HB := am (below_step (pb HB) hb); obtain ⟨NB226_238, NB238_226, hnc57, hnb57⟩ := pm hg BK226; replace BK226 := am (blk_below (pk BK226.out) hb); obtain ⟨NB227_238, NB238_227, hnc58, hnb58⟩ := pm hg BK227; replace BK227 := am (blk_below (pk BK227.out) hb); clear hb hbox hg; obtain ⟨hcz59_0, hcz59_1, hcz59_2, hcz59_3, hcz59_4, hcz59_5, hfz59_0, hfz59_1, hfz59_2, hfz59_3, hfz59_4, hfz59_5⟩ := g6 BK238; obtain ⟨Ao60, co60, eo60⟩ := Kd.V_slice HO236.out; subst eo60) | ((with_reducible refine gate_store (t := 42) (p := 10) rfl ?_); refine store_event (t := 42) (p := 10) (v := ?vo_w61) (w1 := ((((((w56.setCell ⟨gb238, 0, none⟩ (.string t229)).setCell ⟨gb238, 1, none⟩ (.int .u64 t230)).setCell ⟨gb238, 2, none⟩ (.int .u64 t231)).setCell ⟨gb238, 3, none⟩ (.int .u64 t232)).setCell ⟨gb238, 4, none⟩ (.int .i64 t233)).setCell ⟨gb238, 5, none⟩ (.slice Ao60 t234.length co60))) ?hg ?ho ?hn ?hr ?_; (case ho => rfl); (case hg => rfl); (case hn => rfl); (case hr => first | (go_simp; done) | (go_simp; rfl)); intro w61 hw; replace HO0_4 := vf (f6 hw) HO0_4 (fun _ hk => hk.2); replace HO236 := vf (f6 hw) HO236 (fun _ hk => hk.2); replace BK226 := bf (f6 hw) BK226 NB226_238.out; replace BK227 := bf (f6 hw) BK227 NB227_238.out; replace BK238 := s6 hw BK238; replace HB : Aside0 (Below w.heap.size w w61) := ⟨(by rw [hw]; exact (pb HB))⟩; (try simp only [and_assoc] at HO0_4 HO236); clear hw; obtain ⟨hcz62_0, hcz62_1, hcz62_2, hcz62_3, hcz62_4, hcz62_5, hfz62_0, hfz62_1, hfz62_2, hfz62_3, hfz62_4, hfz62_5⟩ := g6 BK238) | ((with_reducible refine gate_callee (f := 13) rfl ?_); refine gl (some 35) Try.func13 #[.agg #[.int .u64 t231, .int .u64 t232, .int .i64 t233, .slice Ao60 t234.length co60], .string a2, .int .u64 a3] ?_; (with_reducible refine (bottom_Add.calls k t231 t232 t233 (fun k_ => ((P0_4_ k_ ∨ w.heap.size ≤ k_) ∧ (k_ ≠ gb226 ∧ (k_ ≠ gb227 ∧ k_ ≠ gb238)))) _ _ t234 a2 a3 t239 t240 t241 t242 t245 _ ?side1 A16.out).mono ?_); (case side1 => exact HO236.out); rintro e w63 ⟨v243, rfl, ho0, hb⟩; refine ⟨_, rfl, ?_⟩; replace HO0_4 := am (Kd.V_below (pv HO0_4.out) hb); replace HO236 := am (Kd.V_below (pv HO236.out) hb); have HO244 := am (Kd.V_lower (Kd.V_mono (ok' := fun k_ => (P0_4_ k_ ∨ w.heap.size ≤ k_) ∧ k_ ≠ gb226 ∧ k_ ≠ gb227 ∧ k_ ≠ gb238) ho0 (fun k_ hk_ => ⟨Or.elim hk_ (fun hs_ => hs_.1) (fun hn_ => (.inr (Nat.le_trans (below_size (pb HB)) hn_))), Or.elim hk_ (fun hs_ => hs_.2.1) (fun hn_ => (Kd.freshB (g := gb226) (o := .cells #[.int .u64 a0_0, .int .u64 a0_1, .int .i64 a0_2, .int .i64 a0_3, .slice A0_4 l0_4.length c0_4] 28 (0, 0)) (pk BK226.out) k_ hn_)), Or.elim hk_ (fun hs_ => hs_.2.2.1) (fun hn_ => (Kd.freshB (g := gb227) (o := .cells #[.int .u64 0, .int .u64 0, .int .i64 0, .int .i64 0, .slice none 0 0] 28 (0, 0)) (pk BK227.out) k_ hn_)), Or.elim hk_ (fun hs_ => hs_.2.2.2) (fun hn_ => (Kd.freshB (g := gb238) (o := .cells #[.string t229, .int .u64 t230, .int .u64 t231, .int .u64 t232, .int .i64 t233, .slice Ao60 t234.length co60] 42 (0, 0)) (pk BK238.out) k_ hn_))⟩)) (below_size (pb HB))); replace BK226 := am (blk_below (pk BK226.out) hb); replace BK227 := am (blk_below (pk BK227.out) hb); replace BK238 := am (blk_below (pk BK238.out) hb); replace HB := am (below_step (pb HB) hb); (try clear hb); (try clear hb2); (try clear hk); (try clear hi); (try clear ho0)) | ((with_reducible refine gate_dst (N := 12) rfl ?_); refine be 12 #[.int .u64 0, .int .u64 0, .int .i64 0, .slice none 0 0] 40 ?_; intro gb246 hg w64 hbox hb; replace HO0_4 := am (Kd.V_below (Kd.V_elderB (pv HO0_4.out) gb246 (Nat.le_of_eq hg.symm)) hb); replace HO236 := am (Kd.V_below (Kd.V_elderB (pv HO236.out) gb246 (Nat.le_of_eq hg.symm)) hb); replace HO244 := am (Kd.V_below (Kd.V_elderB (pv HO244.out) gb246 (Nat.le_of_eq hg.symm)) hb); have BK246 := am (hbox); have GW246 := am ((pg hg HB : w.heap.size ≤ gb246)); have GE246 := am ((pg hg HB : w.heap.size ≤ gb246)); replace HB := am (below_step (pb HB) hb); obtain ⟨NB226_246, NB246_226, hnc65, hnb65⟩ := pm hg BK226; replace BK226 := am (blk_below (pk BK226.out) hb); obtain ⟨NB227_246, NB246_227, hnc66, hnb66⟩ := pm hg BK227; replace BK227 := am (blk_below (pk BK227.out) hb); obtain ⟨NB238_246, NB246_238, hnc67, hnb67⟩ := pm hg BK238; replace BK238 := am (blk_below (pk BK238.out) hb); clear hb hbox hg; obtain ⟨hcz68_0, hcz68_1, hcz68_2, hcz68_3, hfz68_0, hfz68_1, hfz68_2, hfz68_3⟩ := g4 BK246; obtain ⟨Ao69, co69, eo69⟩ := Kd.V_slice HO244.out; subst eo69; obtain ⟨hcz70_0, hcz70_1, hcz70_2, hcz70_3, hcz70_4, hfz70_0, hfz70_1, hfz70_2, hfz70_3, hfz70_4⟩ := g5 BK226; obtain ⟨hcz71_0, hcz71_1, hcz71_2, hcz71_3, hcz71_4, hfz71_0, hfz71_1, hfz71_2, hfz71_3, hfz71_4⟩ := g5 BK227))
  refine bodyPost_ret (results_ct rfl _ _ gb227 28 #[.int .u64 a0_0, .int .u64 a0_1, .int .i64 a0_2, .int .i64 a0_3, .slice A0_4 l0_4.length c0_4] (0, 0) _ rfl (by refine pk ?_; refine blk_put (cs := #[.int .u64 a0_0, .int .u64 a0_1, .int .i64 a0_2, .int .i64 a0_3, .slice none 0 0]) ?_ 4 _ rfl; refine pk ?_; refine blk_put (cs := #[.int .u64 a0_0, .int .u64 a0_1, .int .i64 a0_2, .int .i64 0, .slice none 0 0]) ?_ 3 _ rfl; refine pk ?_; refine blk_put (cs := #[.int .u64 a0_0, .int .u64 a0_1, .int .i64 0, .int .i64 0, .slice none 0 0]) ?_ 2 _ rfl; refine pk ?_; refine blk_put (cs := #[.int .u64 a0_0, .int .u64 0, .int .i64 0, .int .i64 0, .slice none 0 0]) ?_ 1 _ rfl; refine pk ?_; refine blk_put (cs := #[.int .u64 0, .int .u64 0, .int .i64 0, .int .i64 0, .slice none 0 0]) ?_ 0 _ rfl; refine pk ?_; refine blk_far ?_ NB227_246.out _; refine pk ?_; refine blk_far ?_ NB227_246.out _; refine pk ?_; refine blk_far ?_ NB227_246.out _; refine pk ?_; refine blk_far ?_ NB227_246.out _; refine pk ?_; exact BK227.out) Try.underlying28 rfl (by kernel_rfl)) rfl ?_
  exact ⟨_, by first | rfl | (simp [errW_none, errW_some] <;> rfl) | (simp [*, errW_none, errW_some] <;> rfl), by refine pv ?_; exact Kd.V_mono (Kd.V_far (p := ⟨gb227, 4, none⟩) (Kd.V_far (p := ⟨gb227, 3, none⟩) (Kd.V_far (p := ⟨gb227, 2, none⟩) (Kd.V_far (p := ⟨gb227, 1, none⟩) (Kd.V_far (p := ⟨gb227, 0, none⟩) (Kd.V_far (p := ⟨gb246, 3, none⟩) (Kd.V_far (p := ⟨gb246, 2, none⟩) (Kd.V_far (p := ⟨gb246, 1, none⟩) (Kd.V_far (p := ⟨gb246, 0, none⟩) (Kd.V_mono (Kd.V_mono HO0_4.out (fun k_ hk => (⟨hk, hk.2⟩ : _ ∧ k_ ≠ gb246))) (fun k_ hk => (⟨hk, hk.1.1.2.2.1⟩ : _ ∧ k_ ≠ gb227))) (fun _ hk => hk.1.2) (.int .u64 t239)) (fun _ hk => hk.1.2) (.int .u64 t240)) (fun _ hk => hk.1.2) (.int .i64 t241)) (fun _ hk => hk.1.2) (.slice Ao69 t242.length co69)) (fun _ hk => hk.2) (.int .u64 a0_0)) (fun _ hk => hk.2) (.int .u64 a0_1)) (fun _ hk => hk.2) (.int .i64 a0_2)) (fun _ hk => hk.2) (.int .i64 a0_3)) (fun _ hk => hk.2) (.slice A0_4 l0_4.length c0_4)) (fun _ hk => hk.1.1.1.1), pb HB⟩
 rw [if_pos c17] at H
 have c17b0 : (t245 == 0) = true := beq_iff_eq.mpr c17
 have c17b1 : (t245 != 0) = false := bne_eq_false_iff_eq.mpr c17
 clear c17
 replace H := Option.bind_eq_some_iff.mp H
 obtain ⟨⟨t247, t248, t249, t250, t251⟩, A180, H⟩ := H
 try dsimp only at H
 have A18 := am A180
 clear A180
 simp only [Option.some.injEq, Prod.mk.injEq] at H
 obtain ⟨rfl, rfl, rfl, rfl, rfl, rfl⟩ := H
 go_enter Try.func10, Try.ntmps10
 go_wp2_with (first | ((with_reducible refine gate_dst (N := 4) rfl ?_); refine be 4 #[.int .u64 a0_0, .int .u64 a0_1, .int .i64 a0_2, .int .i64 a0_3, .slice A0_4 l0_4.length c0_4] 28 ?_; intro gb226 hg w19 hbox hb; replace HO0_4 := am (Kd.V_below (Kd.V_elderB (pv HO0_4.out) gb226 (Nat.le_of_eq hg.symm)) hb); have BK226 := am (hbox); have GW226 := am ((pg hg HB : w.heap.size ≤ gb226)); have GE226 := am ((pg hg HB : w.heap.size ≤ gb226)); replace HB := am (below_step (pb HB) hb); clear hb hbox hg) | ((with_reducible refine gate_dst (N := 8) rfl ?_); refine be 8 #[.int .u64 0, .int .u64 0, .int .i64 0, .int .i64 0, .slice none 0 0] 28 ?_; intro gb227 hg w20 hbox hb; replace HO0_4 := am (Kd.V_below (Kd.V_elderB (pv HO0_4.out) gb227 (Nat.le_of_eq hg.symm)) hb); have BK227 := am (hbox); have GW227 := am ((pg hg HB : w.heap.size ≤ gb227)); have GE227 := am ((pg hg HB : w.heap.size ≤ gb227)); replace HB := am (below_step (pb HB) hb); obtain ⟨NB226_227, NB227_226, hnb21, hnc21⟩ := pm hg BK226; replace BK226 := am (blk_below (pk BK226.out) hb); clear hb hbox hg; obtain ⟨hcz22_0, hcz22_1, hcz22_2, hcz22_3, hcz22_4, hfz22_0, hfz22_1, hfz22_2, hfz22_3, hfz22_4⟩ := g5 BK226) | ((with_reducible refine gate_callee (f := 20) rfl ?_); refine gl (some 16) Try.func20 #[.agg #[.int .u64 a0_0, .int .u64 a0_1, .int .i64 a0_2, .int .i64 a0_3, .slice A0_4 l0_4.length c0_4]] ?_; (with_reducible refine (strata_Right.calls k a0_0 a0_1 a0_2 a0_3 _ _ l0_4 true _ ?side1 ?side2 A5.out).mono ?_); (case side1 => repeat (first | exact (Kd.V_reads' HO0_4.out).2.2 | (with_reducible refine Kd.C_alloc ?_ _) | (with_reducible refine Kd.C_drewN ?_ _) | (with_reducible refine Kd.C_drew ?_))); (case side2 => exact (Kd.V_reads' HO0_4.out).2.1); rintro e w23 ⟨rfl, hb⟩; refine ⟨_, rfl, ?_⟩; replace HO0_4 := am (Kd.V_below (pv HO0_4.out) hb); replace BK226 := am (blk_below (pk BK226.out) hb); replace BK227 := am (blk_below (pk BK227.out) hb); replace HB := am (below_step (pb HB) hb); (try clear hb); (try clear hb2); (try clear hk); (try clear hi); obtain ⟨hcz24_0, hcz24_1, hcz24_2, hcz24_3, hcz24_4, hfz24_0, hfz24_1, hfz24_2, hfz24_3, hfz24_4⟩ := g5 BK226) | ((with_reducible refine gate_callee (f := 28) rfl ?_); refine gl (some 27) Try.func28 #[.agg #[.int .u64 a0_0, .int .u64 a0_1, .int .i64 a0_2, .int .i64 a0_3, .slice A0_4 l0_4.length c0_4], .string a1] ?_; (with_reducible refine (strata_find.calls k a0_0 a0_1 a0_2 a0_3 (fun k_ => (((P0_4_ k_ ∨ w.heap.size ≤ k_) ∧ k_ ≠ gb226) ∧ k_ ≠ gb227)) _ _ l0_4 a1 t229 t230 t231 t232 t233 t234 t237 _ ?side1 A15.out).mono ?_); (case side1 => exact HO0_4.out); rintro e w25 ⟨v235, rfl, ho0, hb⟩; refine ⟨_, rfl, ?_⟩; replace HO0_4 := am (Kd.V_below (pv HO0_4.out) hb); have HO236 := am (Kd.V_lower (Kd.V_mono (ok' := fun k_ => (P0_4_ k_ ∨ w.heap.size ≤ k_) ∧ k_ ≠ gb226 ∧ k_ ≠ gb227) ho0 (fun k_ hk_ => ⟨Or.elim hk_ (fun hs_ => hs_.1.1) (fun hn_ => (.inr (Nat.le_trans (below_size (pb HB)) hn_))), Or.elim hk_ (fun hs_ => hs_.1.2) (fun hn_ => (Kd.freshB (g := gb226) (o := .cells #[.int .u64 a0_0, .int .u64 a0_1, .int .i64 a0_2, .int .i64 a0_3, .slice A0_4 l0_4.length c0_4] 28 (0, 0)) (pk BK226.out) k_ hn_)), Or.elim hk_ (fun hs_ => hs_.2) (fun hn_ => (Kd.freshB (g := gb227) (o := .cells #[.int .u64 0, .int .u64 0, .int .i64 0, .int .i64 0, .slice none 0 0] 28 (0, 0)) (pk BK227.out) k_ hn_))⟩)) (below_size (pb HB))); replace BK226 := am (blk_below (pk BK226.out) hb); replace BK227 := am (blk_below (pk BK227.out) hb); replace HB := am (below_step (pb HB) hb); (try clear hb); (try clear hb2); (try clear hk); (try clear hi); (try clear ho0)) | ((with_reducible refine gate_dst (N := 10) rfl ?_); refine be 10 #[.string (⟨#[]⟩ : ByteArray), .int .u64 0, .int .u64 0, .int .u64 0, .int .i64 0, .slice none 0 0] 42 ?_; intro gb238 hg w26 hbox hb; replace HO0_4 := am (Kd.V_below (Kd.V_elderB (pv HO0_4.out) gb238 (Nat.le_of_eq hg.symm)) hb); replace HO236 := am (Kd.V_below (Kd.V_elderB (pv HO236.out) gb238 (Nat.le_of_eq hg.symm)) hb); have BK238 := am (hbox); have GW238 := am ((pg hg HB : w.heap.size ≤ gb238)); have GE238 := am ((pg hg HB : w.heap.size ≤ gb238)); replace HB := am (below_step (pb HB) hb); obtain ⟨NB226_238, NB238_226, hnc27, hnb27⟩ := pm hg BK226; replace BK226 := am (blk_below (pk BK226.out) hb); obtain ⟨NB227_238, NB238_227, hnc28, hnb28⟩ := pm hg BK227; replace BK227 := am (blk_below (pk BK227.out) hb); clear hb hbox hg; obtain ⟨hcz29_0, hcz29_1, hcz29_2, hcz29_3, hcz29_4, hcz29_5, hfz29_0, hfz29_1, hfz29_2, hfz29_3, hfz29_4, hfz29_5⟩ := g6 BK238; obtain ⟨Ao30, co30, eo30⟩ := Kd.V_slice HO236.out; subst eo30) | ((with_reducible refine gate_store (t := 42) (p := 10) rfl ?_); refine store_event (t := 42) (p := 10) (v := ?vo_w31) (w1 := ((((((w26.setCell ⟨gb238, 0, none⟩ (.string t229)).setCell ⟨gb238, 1, none⟩ (.int .u64 t230)).setCell ⟨gb238, 2, none⟩ (.int .u64 t231)).setCell ⟨gb238, 3, none⟩ (.int .u64 t232)).setCell ⟨gb238, 4, none⟩ (.int .i64 t233)).setCell ⟨gb238, 5, none⟩ (.slice Ao30 t234.length co30))) ?hg ?ho ?hn ?hr ?_; (case ho => rfl); (case hg => rfl); (case hn => rfl); (case hr => first | (go_simp; done) | (go_simp; rfl)); intro w31 hw; replace HO0_4 := vf (f6 hw) HO0_4 (fun _ hk => hk.2); replace HO236 := vf (f6 hw) HO236 (fun _ hk => hk.2); replace BK226 := bf (f6 hw) BK226 NB226_238.out; replace BK227 := bf (f6 hw) BK227 NB227_238.out; replace BK238 := s6 hw BK238; replace HB : Aside0 (Below w.heap.size w w31) := ⟨(by rw [hw]; exact (pb HB))⟩; (try simp only [and_assoc] at HO0_4 HO236); clear hw; obtain ⟨hcz32_0, hcz32_1, hcz32_2, hcz32_3, hcz32_4, hcz32_5, hfz32_0, hfz32_1, hfz32_2, hfz32_3, hfz32_4, hfz32_5⟩ := g6 BK238) | ((with_reducible refine gate_callee (f := 13) rfl ?_); refine gl (some 35) Try.func13 #[.agg #[.int .u64 t231, .int .u64 t232, .int .i64 t233, .slice Ao30 t234.length co30], .string a2, .int .u64 a3] ?_; (with_reducible refine (bottom_Add.calls k t231 t232 t233 (fun k_ => ((P0_4_ k_ ∨ w.heap.size ≤ k_) ∧ (k_ ≠ gb226 ∧ (k_ ≠ gb227 ∧ k_ ≠ gb238)))) _ _ t234 a2 a3 t239 t240 t241 t242 t245 _ ?side1 A16.out).mono ?_); (case side1 => exact HO236.out); rintro e w33 ⟨v243, rfl, ho0, hb⟩; refine ⟨_, rfl, ?_⟩; replace HO0_4 := am (Kd.V_below (pv HO0_4.out) hb); replace HO236 := am (Kd.V_below (pv HO236.out) hb); have HO244 := am (Kd.V_lower (Kd.V_mono (ok' := fun k_ => (P0_4_ k_ ∨ w.heap.size ≤ k_) ∧ k_ ≠ gb226 ∧ k_ ≠ gb227 ∧ k_ ≠ gb238) ho0 (fun k_ hk_ => ⟨Or.elim hk_ (fun hs_ => hs_.1) (fun hn_ => (.inr (Nat.le_trans (below_size (pb HB)) hn_))), Or.elim hk_ (fun hs_ => hs_.2.1) (fun hn_ => (Kd.freshB (g := gb226) (o := .cells #[.int .u64 a0_0, .int .u64 a0_1, .int .i64 a0_2, .int .i64 a0_3, .slice A0_4 l0_4.length c0_4] 28 (0, 0)) (pk BK226.out) k_ hn_)), Or.elim hk_ (fun hs_ => hs_.2.2.1) (fun hn_ => (Kd.freshB (g := gb227) (o := .cells #[.int .u64 0, .int .u64 0, .int .i64 0, .int .i64 0, .slice none 0 0] 28 (0, 0)) (pk BK227.out) k_ hn_)), Or.elim hk_ (fun hs_ => hs_.2.2.2) (fun hn_ => (Kd.freshB (g := gb238) (o := .cells #[.string t229, .int .u64 t230, .int .u64 t231, .int .u64 t232, .int .i64 t233, .slice Ao30 t234.length co30] 42 (0, 0)) (pk BK238.out) k_ hn_))⟩)) (below_size (pb HB))); replace BK226 := am (blk_below (pk BK226.out) hb); replace BK227 := am (blk_below (pk BK227.out) hb); replace BK238 := am (blk_below (pk BK238.out) hb); replace HB := am (below_step (pb HB) hb); (try clear hb); (try clear hb2); (try clear hk); (try clear hi); (try clear ho0)) | ((with_reducible refine gate_dst (N := 12) rfl ?_); refine be 12 #[.int .u64 0, .int .u64 0, .int .i64 0, .slice none 0 0] 40 ?_; intro gb246 hg w34 hbox hb; replace HO0_4 := am (Kd.V_below (Kd.V_elderB (pv HO0_4.out) gb246 (Nat.le_of_eq hg.symm)) hb); replace HO236 := am (Kd.V_below (Kd.V_elderB (pv HO236.out) gb246 (Nat.le_of_eq hg.symm)) hb); replace HO244 := am (Kd.V_below (Kd.V_elderB (pv HO244.out) gb246 (Nat.le_of_eq hg.symm)) hb); have BK246 := am (hbox); have GW246 := am ((pg hg HB : w.heap.size ≤ gb246)); have GE246 := am ((pg hg HB : w.heap.size ≤ gb246)); replace HB := am (below_step (pb HB) hb); obtain ⟨NB226_246, NB246_226, hnc35, hnb35⟩ := pm hg BK226; replace BK226 := am (blk_below (pk BK226.out) hb); obtain ⟨NB227_246, NB246_227, hnc36, hnb36⟩ := pm hg BK227; replace BK227 := am (blk_below (pk BK227.out) hb); obtain ⟨NB238_246, NB246_238, hnc37, hnb37⟩ := pm hg BK238; replace BK238 := am (blk_below (pk BK238.out) hb); clear hb hbox hg; obtain ⟨hcz38_0, hcz38_1, hcz38_2, hcz38_3, hfz38_0, hfz38_1, hfz38_2, hfz38_3⟩ := g4 BK246; obtain ⟨Ao39, co39, eo39⟩ := Kd.V_slice HO244.out; subst eo39) | ((with_reducible refine gate_store (t := 40) (p := 12) rfl ?_); refine store_event (t := 40) (p := 12) (v := ?vo_w40) (w1 := ((((w34.setCell ⟨gb246, 0, none⟩ (.int .u64 t239)).setCell ⟨gb246, 1, none⟩ (.int .u64 t240)).setCell ⟨gb246, 2, none⟩ (.int .i64 t241)).setCell ⟨gb246, 3, none⟩ (.slice Ao39 t242.length co39))) ?hg ?ho ?hn ?hr ?_; (case ho => rfl); (case hg => rfl); (case hn => rfl); (case hr => first | (go_simp; done) | (go_simp; rfl)); intro w40 hw; replace HO0_4 := vf (f4 hw) HO0_4 (fun _ hk => hk.2); replace HO236 := vf (f4 hw) HO236 (fun _ hk => hk.2); replace HO244 := vf (f4 hw) HO244 (fun _ hk => hk.2); replace BK226 := bf (f4 hw) BK226 NB226_246.out; replace BK227 := bf (f4 hw) BK227 NB227_246.out; replace BK238 := bf (f4 hw) BK238 NB238_246.out; replace BK246 := s4 hw BK246; replace HB : Aside0 (Below w.heap.size w w40) := ⟨(by rw [hw]; exact (pb HB))⟩; (try simp only [and_assoc] at HO0_4 HO236 HO244); clear hw; obtain ⟨hcz41_0, hcz41_1, hcz41_2, hcz41_3, hfz41_0, hfz41_1, hfz41_2, hfz41_3⟩ := g4 BK246; obtain ⟨hcz42_0, hcz42_1, hcz42_2, hcz42_3, hcz42_4, hcz42_5, hfz42_0, hfz42_1, hfz42_2, hfz42_3, hfz42_4, hfz42_5⟩ := g6 BK238) | ((with_reducible refine gate_store (t := 40) (p := 43) rfl ?_); refine store_event (t := 40) (p := 43) (v := ?vo_w43) (w1 := ((((w40.setCell ⟨gb238, 2, none⟩ (.int .u64 t239)).setCell ⟨gb238, 3, none⟩ (.int .u64 t240)).setCell ⟨gb238, 4, none⟩ (.int .i64 t241)).setCell ⟨gb238, 5, none⟩ (.slice Ao39 t242.length co39))) ?hg ?ho ?hn ?hr ?_; (case ho => rfl); (case hg => rfl); (case hn => rfl); (case hr => first | (go_simp; done) | (go_simp; rfl)); intro w43 hw; replace HO0_4 := vf (f4 hw) HO0_4 (fun _ hk => hk.2.2.2.1); replace HO236 := vf (f4 hw) HO236 (fun _ hk => hk.2.2.2.1); replace HO244 := vf (f4 hw) HO244 (fun _ hk => hk.2.2.2.1); replace BK226 := bf (f4 hw) BK226 NB226_238.out; replace BK227 := bf (f4 hw) BK227 NB227_238.out; replace BK238 : Aside0 (w43.heap[gb238]? = some (.cells #[.string t229, .int .u64 t230, .int .u64 t239, .int .u64 t240, .int .i64 t241, .slice Ao39 t242.length co39] 42 (0, 0))) := ⟨(by rw [hw]; exact (by refine pk ?_; refine blk_put (cs := #[.string t229, .int .u64 t230, .int .u64 t239, .int .u64 t240, .int .i64 t241, .slice Ao30 t234.length co30]) ?_ 5 _ rfl; refine pk ?_; refine blk_put (cs := #[.string t229, .int .u64 t230, .int .u64 t239, .int .u64 t240, .int .i64 t233, .slice Ao30 t234.length co30]) ?_ 4 _ rfl; refine pk ?_; refine blk_put (cs := #[.string t229, .int .u64 t230, .int .u64 t239, .int .u64 t232, .int .i64 t233, .slice Ao30 t234.length co30]) ?_ 3 _ rfl; refine pk ?_; refine blk_put (cs := #[.string t229, .int .u64 t230, .int .u64 t231, .int .u64 t232, .int .i64 t233, .slice Ao30 t234.length co30]) ?_ 2 _ rfl; refine pk ?_; exact BK238.out))⟩; replace BK246 := bf (f4 hw) BK246 NB246_238.out; replace HB : Aside0 (Below w.heap.size w w43) := ⟨(by rw [hw]; exact (pb HB))⟩; (try simp only [and_assoc] at HO0_4 HO236 HO244); clear hw; obtain ⟨hcz44_0, hcz44_1, hcz44_2, hcz44_3, hcz44_4, hfz44_0, hfz44_1, hfz44_2, hfz44_3, hfz44_4⟩ := g5 BK226; obtain ⟨hcz45_0, hcz45_1, hcz45_2, hcz45_3, hcz45_4, hcz45_5, hfz45_0, hfz45_1, hfz45_2, hfz45_3, hfz45_4, hfz45_5⟩ := g6 BK238) | ((with_reducible refine gate_callee (f := 29) rfl ?_); refine gl (some 46) Try.func29 #[.agg #[.int .u64 a0_0, .int .u64 a0_1, .int .i64 a0_2, .int .i64 a0_3, .slice A0_4 l0_4.length c0_4], .agg #[.string t229, .int .u64 t230, .int .u64 t239, .int .u64 t240, .int .i64 t241, .slice Ao39 t242.length co39]] ?_; (with_reducible refine (strata_put.calls k a0_0 a0_1 a0_2 a0_3 (fun k_ => ((P0_4_ k_ ∨ w.heap.size ≤ k_) ∧ (k_ ≠ gb226 ∧ (k_ ≠ gb227 ∧ (k_ ≠ gb238 ∧ k_ ≠ gb246))))) _ _ l0_4 t229 t230 t239 t240 t241 (fun k_ => ((P0_4_ k_ ∨ w.heap.size ≤ k_) ∧ (k_ ≠ gb226 ∧ (k_ ≠ gb227 ∧ (k_ ≠ gb238 ∧ k_ ≠ gb246))))) _ _ t242 t247 t248 t249 t250 t251 _ ?side1 ?side2 A18.out).mono ?_); (case side1 => exact HO0_4.out); (case side2 => exact HO244.out); rintro e w46 ⟨v252, rfl, ho0, hb⟩; refine ⟨_, rfl, ?_⟩; replace HO0_4 := am (Kd.V_below (pv HO0_4.out) hb); replace HO236 := am (Kd.V_below (pv HO236.out) hb); replace HO244 := am (Kd.V_below (pv HO244.out) hb); have HO253 := am (Kd.V_lower (Kd.V_mono (ok' := fun k_ => (P0_4_ k_ ∨ w.heap.size ≤ k_) ∧ k_ ≠ gb226 ∧ k_ ≠ gb227 ∧ k_ ≠ gb238 ∧ k_ ≠ gb246) ho0 (fun k_ hk_ => ⟨Or.elim hk_ (fun hs_ => Or.elim hs_ (fun hs_ => hs_.1) (fun hs_ => hs_.1)) (fun hn_ => (.inr (Nat.le_trans (below_size (pb HB)) hn_))), Or.elim hk_ (fun hs_ => Or.elim hs_ (fun hs_ => hs_.2.1) (fun hs_ => hs_.2.1)) (fun hn_ => (Kd.freshB (g := gb226) (o := .cells #[.int .u64 a0_0, .int .u64 a0_1, .int .i64 a0_2, .int .i64 a0_3, .slice A0_4 l0_4.length c0_4] 28 (0, 0)) (pk BK226.out) k_ hn_)), Or.elim hk_ (fun hs_ => Or.elim hs_ (fun hs_ => hs_.2.2.1) (fun hs_ => hs_.2.2.1)) (fun hn_ => (Kd.freshB (g := gb227) (o := .cells #[.int .u64 0, .int .u64 0, .int .i64 0, .int .i64 0, .slice none 0 0] 28 (0, 0)) (pk BK227.out) k_ hn_)), Or.elim hk_ (fun hs_ => Or.elim hs_ (fun hs_ => hs_.2.2.2.1) (fun hs_ => hs_.2.2.2.1)) (fun hn_ => (Kd.freshB (g := gb238) (o := .cells #[.string t229, .int .u64 t230, .int .u64 t239, .int .u64 t240, .int .i64 t241, .slice Ao39 t242.length co39] 42 (0, 0)) (pk BK238.out) k_ hn_)), Or.elim hk_ (fun hs_ => Or.elim hs_ (fun hs_ => hs_.2.2.2.2) (fun hs_ => hs_.2.2.2.2)) (fun hn_ => (Kd.freshB (g := gb246) (o := .cells #[.int .u64 t239, .int .u64 t240, .int .i64 t241, .slice Ao39 t242.length co39] 40 (0, 0)) (pk BK246.out) k_ hn_))⟩)) (below_size (pb HB))); replace BK226 := am (blk_below (pk BK226.out) hb); replace BK227 := am (blk_below (pk BK227.out) hb); replace BK238 := am (blk_below (pk BK238.out) hb); replace BK246 := am (blk_below (pk BK246.out) hb); replace HB := am (below_step (pb HB) hb); (try clear hb); (try clear hb2); (try clear hk); (try clear hi); (try clear ho0); obtain ⟨hcz47_0, hcz47_1, hcz47_2, hcz47_3, hcz47_4, hfz47_0, hfz47_1, hfz47_2, hfz47_3, hfz47_4⟩ := g5 BK227; obtain ⟨Ao48, co48, eo48⟩ := Kd.V_slice HO253.out; subst eo48))
 refine bodyPost_ret (results_ct rfl _ _ gb227 28 #[.int .u64 t247, .int .u64 t248, .int .i64 t249, .int .i64 t250, .slice Ao48 t251.length co48] (0, 0) _ rfl (by refine pk ?_; refine blk_put (cs := #[.int .u64 t247, .int .u64 t248, .int .i64 t249, .int .i64 t250, .slice none 0 0]) ?_ 4 _ rfl; refine pk ?_; refine blk_put (cs := #[.int .u64 t247, .int .u64 t248, .int .i64 t249, .int .i64 0, .slice none 0 0]) ?_ 3 _ rfl; refine pk ?_; refine blk_put (cs := #[.int .u64 t247, .int .u64 t248, .int .i64 0, .int .i64 0, .slice none 0 0]) ?_ 2 _ rfl; refine pk ?_; refine blk_put (cs := #[.int .u64 t247, .int .u64 0, .int .i64 0, .int .i64 0, .slice none 0 0]) ?_ 1 _ rfl; refine pk ?_; refine blk_put (cs := #[.int .u64 0, .int .u64 0, .int .i64 0, .int .i64 0, .slice none 0 0]) ?_ 0 _ rfl; refine pk ?_; exact BK227.out) Try.underlying28 rfl (by kernel_rfl)) rfl ?_
 exact ⟨_, by first | rfl | (simp [errW_none, errW_some] <;> rfl) | (simp [*, errW_none, errW_some] <;> rfl), by refine pv ?_; exact Kd.V_mono (Kd.V_far (p := ⟨gb227, 4, none⟩) (Kd.V_far (p := ⟨gb227, 3, none⟩) (Kd.V_far (p := ⟨gb227, 2, none⟩) (Kd.V_far (p := ⟨gb227, 1, none⟩) (Kd.V_far (p := ⟨gb227, 0, none⟩) (Kd.V_mono HO253.out (fun k_ hk => (⟨hk, hk.2.2.1⟩ : _ ∧ k_ ≠ gb227))) (fun _ hk => hk.2) (.int .u64 t247)) (fun _ hk => hk.2) (.int .u64 t248)) (fun _ hk => hk.2) (.int .i64 t249)) (fun _ hk => hk.2) (.int .i64 t250)) (fun _ hk => hk.2) (.slice Ao48 t251.length co48)) (fun _ hk => hk.1.1), pb HB⟩
def strata_Get.f (k : Nat) (a0_0 : Int) (a0_1 : Int) (a0_2 : Int) (a0_3 : Int) (l0_4 : List (S42)) (a1 : ByteArray) : Option (Int × Int × Int × (List (S87)) × Int) := (strata_Right.f k a0_0 a0_1 a0_2 a0_3 l0_4).bind fun t256 => (if t256 = true then ((strata_find.f k a0_0 a0_1 a0_2 a0_3 l0_4 a1).bind fun bt257 => (if bt257.2.2.2.2.2.2 = true then (some (bt257.2.2.1, bt257.2.2.2.1, bt257.2.2.2.2.1, bt257.2.2.2.2.2.1, 0)) else (some (0, 0, 0, ([] : List (S87)), 3)))) else (some (0, 0, 0, ([] : List (S87)), 1)))
theorem strata_Get.mono : ∀ a0 a1 a2 a3 a4 a5 k, LeO (strata_Get.f k a0 a1 a2 a3 a4 a5) (strata_Get.f (k + 1) a0 a1 a2 a3 a4 a5) := by
 intro a0 a1 a2 a3 a4 a5 k
 unfold strata_Get.f
 repeat' first
   | (with_reducible exact strata_Right.mono _ _ _ _ _ _)
   | (with_reducible exact strata_find.mono _ _ _ _ _ _ _)
   | (with_reducible exact LeO.refl _)
   | (with_reducible exact LeO.none _)
   | (with_reducible refine LeO.ite ?_ ?_)
   | (with_reducible refine LeO.bind ?_ (fun _ => ?_))
set_option maxHeartbeats 8000000 in
set_option maxRecDepth 100000 in
theorem strata_Get.calls (k : Nat) (a0_0 : Int) (a0_1 : Int) (a0_2 : Int) (a0_3 : Int) (P0_4_ : Nat → Prop) (A0_4 : Option Addr) (c0_4 : Nat) (l0_4 : List (S42)) (a1 : ByteArray) (r1 : Int) (r2 : Int) (r3 : Int) (r4 : List (S87)) (r5 : Int) (w : World) (hs0_4 : Kd.V k42 42 w w.heap.size (fun k_ => P0_4_ k_) (.slice A0_4 l0_4.length c0_4) l0_4) (h : strata_Get.f k a0_0 a0_1 a0_2 a0_3 l0_4 a1 = some (r1, r2, r3, r4, r5)) :
  Calls Try.prog 14 #[.agg #[.int .u64 a0_0, .int .u64 a0_1, .int .i64 a0_2, .int .i64 a0_3, .slice A0_4 l0_4.length c0_4], .string a1] w fun e w' => ∃ v3_ : Value, e = .returned (.tuple #[.agg #[.int .u64 r1, .int .u64 r2, .int .i64 r3, v3_], .int .i64 r5]) ∧ Kd.V k87 87 w' w.heap.size (fun k_ => (P0_4_ k_ ∨ w.heap.size ≤ k_)) v3_ r4 ∧ Below w.heap.size w w' := by
 have hu28 := Try.underlying28
 have hu40 := Try.underlying40
 have hu42 := Try.underlying42
 have HO0_4 := am (show Kd.V k42 42 w w.heap.size (fun k_ => (P0_4_ k_ ∨ w.heap.size ≤ k_)) (.slice A0_4 l0_4.length c0_4) l0_4 from Kd.V_mono hs0_4 (fun k_ hk => .inl hk))
 have HB := am (Below.refl w.heap.size w)
 have H : ((strata_Right.f k a0_0 a0_1 a0_2 a0_3 l0_4).bind fun t256 => (if t256 = true then ((strata_find.f k a0_0 a0_1 a0_2 a0_3 l0_4 a1).bind fun bt257 => (if bt257.2.2.2.2.2.2 = true then (some (bt257.2.2.1, bt257.2.2.2.1, bt257.2.2.2.2.1, bt257.2.2.2.2.2.1, 0)) else (some (0, 0, 0, ([] : List (S87)), 3)))) else (some (0, 0, 0, ([] : List (S87)), 1)))) = some (r1, r2, r3, r4, r5) := h
 clear h
 replace H := Option.bind_eq_some_iff.mp H
 obtain ⟨t256, A30, H⟩ := H
 try dsimp only at H
 have A3 := am A30
 clear A30
 by_cases c4 : t256 = true
 ·subst c4
  have H1 : ((strata_find.f k a0_0 a0_1 a0_2 a0_3 l0_4 a1).bind fun bt257 => (if bt257.2.2.2.2.2.2 = true then (some (bt257.2.2.1, bt257.2.2.2.1, bt257.2.2.2.2.1, bt257.2.2.2.2.2.1, 0)) else (some (0, 0, 0, ([] : List (S87)), 3)))) = some (r1, r2, r3, r4, r5) := by rw [if_pos rfl] at H; exact H
  clear H
  have H := H1
  clear H1
  replace H := Option.bind_eq_some_iff.mp H
  obtain ⟨⟨t257, t258, t259, t260, t261, t262, t265⟩, A50, H⟩ := H
  try dsimp only at H
  have A5 := am A50
  clear A50
  by_cases c6 : t265 = true
  ·subst c6
   have H1 : (some (t259, t260, t261, t262, 0)) = some (r1, r2, r3, r4, r5) := by rw [if_pos rfl] at H; exact H
   clear H
   have H := H1
   clear H1
   simp only [Option.some.injEq, Prod.mk.injEq] at H
   obtain ⟨rfl, rfl, rfl, rfl, rfl⟩ := H
   go_enter Try.func14, Try.ntmps14
   go_wp2_with (first | ((with_reducible refine gate_dst (N := 2) rfl ?_); refine be 2 #[.int .u64 a0_0, .int .u64 a0_1, .int .i64 a0_2, .int .i64 a0_3, .slice A0_4 l0_4.length c0_4] 28 ?_; intro gb254 hg w7 hbox hb; replace HO0_4 := am (Kd.V_below (Kd.V_elderB (pv HO0_4.out) gb254 (Nat.le_of_eq hg.symm)) hb); have BK254 := am (hbox); have GW254 := am ((pg hg HB : w.heap.size ≤ gb254)); have GE254 := am ((pg hg HB : w.heap.size ≤ gb254)); replace HB := am (below_step (pb HB) hb); clear hb hbox hg) | ((with_reducible refine gate_dst (N := 4) rfl ?_); refine be 4 #[.int .u64 0, .int .u64 0, .int .i64 0, .slice none 0 0] 40 ?_; intro gb255 hg w8 hbox hb; replace HO0_4 := am (Kd.V_below (Kd.V_elderB (pv HO0_4.out) gb255 (Nat.le_of_eq hg.symm)) hb); have BK255 := am (hbox); have GW255 := am ((pg hg HB : w.heap.size ≤ gb255)); have GE255 := am ((pg hg HB : w.heap.size ≤ gb255)); replace HB := am (below_step (pb HB) hb); obtain ⟨NB254_255, NB255_254, hnb9, hnc9⟩ := pm hg BK254; replace BK254 := am (blk_below (pk BK254.out) hb); clear hb hbox hg; obtain ⟨hcz10_0, hcz10_1, hcz10_2, hcz10_3, hcz10_4, hfz10_0, hfz10_1, hfz10_2, hfz10_3, hfz10_4⟩ := g5 BK254) | ((with_reducible refine gate_callee (f := 20) rfl ?_); refine gl (some 9) Try.func20 #[.agg #[.int .u64 a0_0, .int .u64 a0_1, .int .i64 a0_2, .int .i64 a0_3, .slice A0_4 l0_4.length c0_4]] ?_; (with_reducible refine (strata_Right.calls k a0_0 a0_1 a0_2 a0_3 _ _ l0_4 true _ ?side1 ?side2 A3.out).mono ?_); (case side1 => repeat (first | exact (Kd.V_reads' HO0_4.out).2.2 | (with_reducible refine Kd.C_alloc ?_ _) | (with_reducible refine Kd.C_drewN ?_ _) | (with_reducible refine Kd.C_drew ?_))); (case side2 => exact (Kd.V_reads' HO0_4.out).2.1); rintro e w11 ⟨rfl, hb⟩; refine ⟨_, rfl, ?_⟩; replace HO0_4 := am (Kd.V_below (pv HO0_4.out) hb); replace BK254 := am (blk_below (pk BK254.out) hb); replace BK255 := am (blk_below (pk BK255.out) hb); replace HB := am (below_step (pb HB) hb); (try clear hb); (try clear hb2); (try clear hk); (try clear hi); obtain ⟨hcz12_0, hcz12_1, hcz12_2, hcz12_3, hcz12_4, hfz12_0, hfz12_1, hfz12_2, hfz12_3, hfz12_4⟩ := g5 BK254) | ((with_reducible refine gate_callee (f := 28) rfl ?_); refine gl (some 15) Try.func28 #[.agg #[.int .u64 a0_0, .int .u64 a0_1, .int .i64 a0_2, .int .i64 a0_3, .slice A0_4 l0_4.length c0_4], .string a1] ?_; (with_reducible refine (strata_find.calls k a0_0 a0_1 a0_2 a0_3 (fun k_ => (((P0_4_ k_ ∨ w.heap.size ≤ k_) ∧ k_ ≠ gb254) ∧ k_ ≠ gb255)) _ _ l0_4 a1 t257 t258 t259 t260 t261 t262 true _ ?side1 A5.out).mono ?_); (case side1 => exact HO0_4.out); rintro e w13 ⟨v263, rfl, ho0, hb⟩; refine ⟨_, rfl, ?_⟩; replace HO0_4 := am (Kd.V_below (pv HO0_4.out) hb); have HO264 := am (Kd.V_lower (Kd.V_mono (ok' := fun k_ => (P0_4_ k_ ∨ w.heap.size ≤ k_) ∧ k_ ≠ gb254 ∧ k_ ≠ gb255) ho0 (fun k_ hk_ => ⟨Or.elim hk_ (fun hs_ => hs_.1.1) (fun hn_ => (.inr (Nat.le_trans (below_size (pb HB)) hn_))), Or.elim hk_ (fun hs_ => hs_.1.2) (fun hn_ => (Kd.freshB (g := gb254) (o := .cells #[.int .u64 a0_0, .int .u64 a0_1, .int .i64 a0_2, .int .i64 a0_3, .slice A0_4 l0_4.length c0_4] 28 (0, 0)) (pk BK254.out) k_ hn_)), Or.elim hk_ (fun hs_ => hs_.2) (fun hn_ => (Kd.freshB (g := gb255) (o := .cells #[.int .u64 0, .int .u64 0, .int .i64 0, .slice none 0 0] 40 (0, 0)) (pk BK255.out) k_ hn_))⟩)) (below_size (pb HB))); replace BK254 := am (blk_below (pk BK254.out) hb); replace BK255 := am (blk_below (pk BK255.out) hb); replace HB := am (below_step (pb HB) hb); (try clear hb); (try clear hb2); (try clear hk); (try clear hi); (try clear ho0)) | ((with_reducible refine gate_dst (N := 6) rfl ?_); refine be 6 #[.string (⟨#[]⟩ : ByteArray), .int .u64 0, .int .u64 0, .int .u64 0, .int .i64 0, .slice none 0 0] 42 ?_; intro gb266 hg w14 hbox hb; replace HO0_4 := am (Kd.V_below (Kd.V_elderB (pv HO0_4.out) gb266 (Nat.le_of_eq hg.symm)) hb); replace HO264 := am (Kd.V_below (Kd.V_elderB (pv HO264.out) gb266 (Nat.le_of_eq hg.symm)) hb); have BK266 := am (hbox); have GW266 := am ((pg hg HB : w.heap.size ≤ gb266)); have GE266 := am ((pg hg HB : w.heap.size ≤ gb266)); replace HB := am (below_step (pb HB) hb); obtain ⟨NB254_266, NB266_254, hnc15, hnb15⟩ := pm hg BK254; replace BK254 := am (blk_below (pk BK254.out) hb); obtain ⟨NB255_266, NB266_255, hnc16, hnb16⟩ := pm hg BK255; replace BK255 := am (blk_below (pk BK255.out) hb); clear hb hbox hg; obtain ⟨hcz17_0, hcz17_1, hcz17_2, hcz17_3, hcz17_4, hcz17_5, hfz17_0, hfz17_1, hfz17_2, hfz17_3, hfz17_4, hfz17_5⟩ := g6 BK266; obtain ⟨Ao18, co18, eo18⟩ := Kd.V_slice HO264.out; subst eo18; obtain ⟨hcz19_0, hcz19_1, hcz19_2, hcz19_3, hfz19_0, hfz19_1, hfz19_2, hfz19_3⟩ := g4 BK255))
   refine bodyPost_ret (results_ct rfl _ _ gb255 40 #[.int .u64 t259, .int .u64 t260, .int .i64 t261, .slice Ao18 t262.length co18] (0, 0) _ rfl (by refine pk ?_; refine blk_put (cs := #[.int .u64 t259, .int .u64 t260, .int .i64 t261, .slice none 0 0]) ?_ 3 _ rfl; refine pk ?_; refine blk_put (cs := #[.int .u64 t259, .int .u64 t260, .int .i64 0, .slice none 0 0]) ?_ 2 _ rfl; refine pk ?_; refine blk_put (cs := #[.int .u64 t259, .int .u64 0, .int .i64 0, .slice none 0 0]) ?_ 1 _ rfl; refine pk ?_; refine blk_put (cs := #[.int .u64 0, .int .u64 0, .int .i64 0, .slice none 0 0]) ?_ 0 _ rfl; refine pk ?_; refine blk_far ?_ NB255_266.out _; refine pk ?_; refine blk_far ?_ NB255_266.out _; refine pk ?_; refine blk_far ?_ NB255_266.out _; refine pk ?_; refine blk_far ?_ NB255_266.out _; refine pk ?_; refine blk_far ?_ NB255_266.out _; refine pk ?_; refine blk_far ?_ NB255_266.out _; refine pk ?_; exact BK255.out) Try.underlying40 rfl (by kernel_rfl)) rfl ?_
   exact ⟨_, by first | rfl | (simp [errW_none, errW_some] <;> rfl) | (simp [*, errW_none, errW_some] <;> rfl), by refine pv ?_; exact Kd.V_mono (Kd.V_far (p := ⟨gb255, 3, none⟩) (Kd.V_far (p := ⟨gb255, 2, none⟩) (Kd.V_far (p := ⟨gb255, 1, none⟩) (Kd.V_far (p := ⟨gb255, 0, none⟩) (Kd.V_far (p := ⟨gb266, 5, none⟩) (Kd.V_far (p := ⟨gb266, 4, none⟩) (Kd.V_far (p := ⟨gb266, 3, none⟩) (Kd.V_far (p := ⟨gb266, 2, none⟩) (Kd.V_far (p := ⟨gb266, 1, none⟩) (Kd.V_far (p := ⟨gb266, 0, none⟩) (Kd.V_mono (Kd.V_mono HO264.out (fun k_ hk => (⟨hk, hk.2⟩ : _ ∧ k_ ≠ gb266))) (fun k_ hk => (⟨hk, hk.1.1.2.2⟩ : _ ∧ k_ ≠ gb255))) (fun _ hk => hk.1.2) (.string t257)) (fun _ hk => hk.1.2) (.int .u64 t258)) (fun _ hk => hk.1.2) (.int .u64 t259)) (fun _ hk => hk.1.2) (.int .u64 t260)) (fun _ hk => hk.1.2) (.int .i64 t261)) (fun _ hk => hk.1.2) (.slice Ao18 t262.length co18)) (fun _ hk => hk.2) (.int .u64 t259)) (fun _ hk => hk.2) (.int .u64 t260)) (fun _ hk => hk.2) (.int .i64 t261)) (fun _ hk => hk.2) (.slice Ao18 t262.length co18)) (fun _ hk => hk.1.1.1.1), pb HB⟩
  ·replace c6 := Bool.eq_false_iff.mpr c6
   subst c6
   have H1 : (some (0, 0, 0, ([] : List (S87)), 3)) = some (r1, r2, r3, r4, r5) := by rw [if_neg (show ¬ (false = true) by decide)] at H; exact H
   clear H
   have H := H1
   clear H1
   simp only [Option.some.injEq, Prod.mk.injEq] at H
   obtain ⟨rfl, rfl, rfl, rfl, rfl⟩ := H
   go_enter Try.func14, Try.ntmps14
   go_wp2_with (first | ((with_reducible refine gate_dst (N := 2) rfl ?_); refine be 2 #[.int .u64 a0_0, .int .u64 a0_1, .int .i64 a0_2, .int .i64 a0_3, .slice A0_4 l0_4.length c0_4] 28 ?_; intro gb254 hg w20 hbox hb; replace HO0_4 := am (Kd.V_below (Kd.V_elderB (pv HO0_4.out) gb254 (Nat.le_of_eq hg.symm)) hb); have BK254 := am (hbox); have GW254 := am ((pg hg HB : w.heap.size ≤ gb254)); have GE254 := am ((pg hg HB : w.heap.size ≤ gb254)); replace HB := am (below_step (pb HB) hb); clear hb hbox hg) | ((with_reducible refine gate_dst (N := 4) rfl ?_); refine be 4 #[.int .u64 0, .int .u64 0, .int .i64 0, .slice none 0 0] 40 ?_; intro gb255 hg w21 hbox hb; replace HO0_4 := am (Kd.V_below (Kd.V_elderB (pv HO0_4.out) gb255 (Nat.le_of_eq hg.symm)) hb); have BK255 := am (hbox); have GW255 := am ((pg hg HB : w.heap.size ≤ gb255)); have GE255 := am ((pg hg HB : w.heap.size ≤ gb255)); replace HB := am (below_step (pb HB) hb); obtain ⟨NB254_255, NB255_254, hnb22, hnc22⟩ := pm hg BK254; replace BK254 := am (blk_below (pk BK254.out) hb); clear hb hbox hg; obtain ⟨hcz23_0, hcz23_1, hcz23_2, hcz23_3, hcz23_4, hfz23_0, hfz23_1, hfz23_2, hfz23_3, hfz23_4⟩ := g5 BK254) | ((with_reducible refine gate_callee (f := 20) rfl ?_); refine gl (some 9) Try.func20 #[.agg #[.int .u64 a0_0, .int .u64 a0_1, .int .i64 a0_2, .int .i64 a0_3, .slice A0_4 l0_4.length c0_4]] ?_; (with_reducible refine (strata_Right.calls k a0_0 a0_1 a0_2 a0_3 _ _ l0_4 true _ ?side1 ?side2 A3.out).mono ?_); (case side1 => repeat (first | exact (Kd.V_reads' HO0_4.out).2.2 | (with_reducible refine Kd.C_alloc ?_ _) | (with_reducible refine Kd.C_drewN ?_ _) | (with_reducible refine Kd.C_drew ?_))); (case side2 => exact (Kd.V_reads' HO0_4.out).2.1); rintro e w24 ⟨rfl, hb⟩; refine ⟨_, rfl, ?_⟩; replace HO0_4 := am (Kd.V_below (pv HO0_4.out) hb); replace BK254 := am (blk_below (pk BK254.out) hb); replace BK255 := am (blk_below (pk BK255.out) hb); replace HB := am (below_step (pb HB) hb); (try clear hb); (try clear hb2); (try clear hk); (try clear hi); obtain ⟨hcz25_0, hcz25_1, hcz25_2, hcz25_3, hcz25_4, hfz25_0, hfz25_1, hfz25_2, hfz25_3, hfz25_4⟩ := g5 BK254) | ((with_reducible refine gate_callee (f := 28) rfl ?_); refine gl (some 15) Try.func28 #[.agg #[.int .u64 a0_0, .int .u64 a0_1, .int .i64 a0_2, .int .i64 a0_3, .slice A0_4 l0_4.length c0_4], .string a1] ?_; (with_reducible refine (strata_find.calls k a0_0 a0_1 a0_2 a0_3 (fun k_ => (((P0_4_ k_ ∨ w.heap.size ≤ k_) ∧ k_ ≠ gb254) ∧ k_ ≠ gb255)) _ _ l0_4 a1 t257 t258 t259 t260 t261 t262 false _ ?side1 A5.out).mono ?_); (case side1 => exact HO0_4.out); rintro e w26 ⟨v263, rfl, ho0, hb⟩; refine ⟨_, rfl, ?_⟩; replace HO0_4 := am (Kd.V_below (pv HO0_4.out) hb); have HO264 := am (Kd.V_lower (Kd.V_mono (ok' := fun k_ => (P0_4_ k_ ∨ w.heap.size ≤ k_) ∧ k_ ≠ gb254 ∧ k_ ≠ gb255) ho0 (fun k_ hk_ => ⟨Or.elim hk_ (fun hs_ => hs_.1.1) (fun hn_ => (.inr (Nat.le_trans (below_size (pb HB)) hn_))), Or.elim hk_ (fun hs_ => hs_.1.2) (fun hn_ => (Kd.freshB (g := gb254) (o := .cells #[.int .u64 a0_0, .int .u64 a0_1, .int .i64 a0_2, .int .i64 a0_3, .slice A0_4 l0_4.length c0_4] 28 (0, 0)) (pk BK254.out) k_ hn_)), Or.elim hk_ (fun hs_ => hs_.2) (fun hn_ => (Kd.freshB (g := gb255) (o := .cells #[.int .u64 0, .int .u64 0, .int .i64 0, .slice none 0 0] 40 (0, 0)) (pk BK255.out) k_ hn_))⟩)) (below_size (pb HB))); replace BK254 := am (blk_below (pk BK254.out) hb); replace BK255 := am (blk_below (pk BK255.out) hb); replace HB := am (below_step (pb HB) hb); (try clear hb); (try clear hb2); (try clear hk); (try clear hi); (try clear ho0)) | ((with_reducible refine gate_dst (N := 6) rfl ?_); refine be 6 #[.string (⟨#[]⟩ : ByteArray), .int .u64 0, .int .u64 0, .int .u64 0, .int .i64 0, .slice none 0 0] 42 ?_; intro gb266 hg w27 hbox hb; replace HO0_4 := am (Kd.V_below (Kd.V_elderB (pv HO0_4.out) gb266 (Nat.le_of_eq hg.symm)) hb); replace HO264 := am (Kd.V_below (Kd.V_elderB (pv HO264.out) gb266 (Nat.le_of_eq hg.symm)) hb); have BK266 := am (hbox); have GW266 := am ((pg hg HB : w.heap.size ≤ gb266)); have GE266 := am ((pg hg HB : w.heap.size ≤ gb266)); replace HB := am (below_step (pb HB) hb); obtain ⟨NB254_266, NB266_254, hnc28, hnb28⟩ := pm hg BK254; replace BK254 := am (blk_below (pk BK254.out) hb); obtain ⟨NB255_266, NB266_255, hnc29, hnb29⟩ := pm hg BK255; replace BK255 := am (blk_below (pk BK255.out) hb); clear hb hbox hg; obtain ⟨hcz30_0, hcz30_1, hcz30_2, hcz30_3, hcz30_4, hcz30_5, hfz30_0, hfz30_1, hfz30_2, hfz30_3, hfz30_4, hfz30_5⟩ := g6 BK266; obtain ⟨Ao31, co31, eo31⟩ := Kd.V_slice HO264.out; subst eo31; obtain ⟨hcz32_0, hcz32_1, hcz32_2, hcz32_3, hfz32_0, hfz32_1, hfz32_2, hfz32_3⟩ := g4 BK255))
   refine bodyPost_ret (results_ct rfl _ _ gb255 40 #[.int .u64 0, .int .u64 0, .int .i64 0, .slice none 0 0] (0, 0) _ rfl (by refine pk ?_; refine blk_put (cs := #[.int .u64 0, .int .u64 0, .int .i64 0, .slice none 0 0]) ?_ 3 _ rfl; refine pk ?_; refine blk_put (cs := #[.int .u64 0, .int .u64 0, .int .i64 0, .slice none 0 0]) ?_ 2 _ rfl; refine pk ?_; refine blk_put (cs := #[.int .u64 0, .int .u64 0, .int .i64 0, .slice none 0 0]) ?_ 1 _ rfl; refine pk ?_; refine blk_put (cs := #[.int .u64 0, .int .u64 0, .int .i64 0, .slice none 0 0]) ?_ 0 _ rfl; refine pk ?_; refine blk_far ?_ NB255_266.out _; refine pk ?_; refine blk_far ?_ NB255_266.out _; refine pk ?_; refine blk_far ?_ NB255_266.out _; refine pk ?_; refine blk_far ?_ NB255_266.out _; refine pk ?_; refine blk_far ?_ NB255_266.out _; refine pk ?_; refine blk_far ?_ NB255_266.out _; refine pk ?_; exact BK255.out) Try.underlying40 rfl (by kernel_rfl)) rfl ?_
   exact ⟨_, by first | rfl | (simp [errW_none, errW_some] <;> rfl) | (simp [*, errW_none, errW_some] <;> rfl), Kd.V_nil _ _ _ _ _, pb HB⟩
 ·replace c4 := Bool.eq_false_iff.mpr c4
  subst c4
  have H1 : (some (0, 0, 0, ([] : List (S87)), 1)) = some (r1, r2, r3, r4, r5) := by rw [if_neg (show ¬ (false = true) by decide)] at H; exact H
  clear H
  have H := H1
  clear H1
  simp only [Option.some.injEq, Prod.mk.injEq] at H
  obtain ⟨rfl, rfl, rfl, rfl, rfl⟩ := H
  go_enter Try.func14, Try.ntmps14
  go_wp2_with (first | ((with_reducible refine gate_dst (N := 2) rfl ?_); refine be 2 #[.int .u64 a0_0, .int .u64 a0_1, .int .i64 a0_2, .int .i64 a0_3, .slice A0_4 l0_4.length c0_4] 28 ?_; intro gb254 hg w33 hbox hb; replace HO0_4 := am (Kd.V_below (Kd.V_elderB (pv HO0_4.out) gb254 (Nat.le_of_eq hg.symm)) hb); have BK254 := am (hbox); have GW254 := am ((pg hg HB : w.heap.size ≤ gb254)); have GE254 := am ((pg hg HB : w.heap.size ≤ gb254)); replace HB := am (below_step (pb HB) hb); clear hb hbox hg) | ((with_reducible refine gate_dst (N := 4) rfl ?_); refine be 4 #[.int .u64 0, .int .u64 0, .int .i64 0, .slice none 0 0] 40 ?_; intro gb255 hg w34 hbox hb; replace HO0_4 := am (Kd.V_below (Kd.V_elderB (pv HO0_4.out) gb255 (Nat.le_of_eq hg.symm)) hb); have BK255 := am (hbox); have GW255 := am ((pg hg HB : w.heap.size ≤ gb255)); have GE255 := am ((pg hg HB : w.heap.size ≤ gb255)); replace HB := am (below_step (pb HB) hb); obtain ⟨NB254_255, NB255_254, hnb35, hnc35⟩ := pm hg BK254; replace BK254 := am (blk_below (pk BK254.out) hb); clear hb hbox hg; obtain ⟨hcz36_0, hcz36_1, hcz36_2, hcz36_3, hcz36_4, hfz36_0, hfz36_1, hfz36_2, hfz36_3, hfz36_4⟩ := g5 BK254) | ((with_reducible refine gate_callee (f := 20) rfl ?_); refine gl (some 9) Try.func20 #[.agg #[.int .u64 a0_0, .int .u64 a0_1, .int .i64 a0_2, .int .i64 a0_3, .slice A0_4 l0_4.length c0_4]] ?_; (with_reducible refine (strata_Right.calls k a0_0 a0_1 a0_2 a0_3 _ _ l0_4 false _ ?side1 ?side2 A3.out).mono ?_); (case side1 => repeat (first | exact (Kd.V_reads' HO0_4.out).2.2 | (with_reducible refine Kd.C_alloc ?_ _) | (with_reducible refine Kd.C_drewN ?_ _) | (with_reducible refine Kd.C_drew ?_))); (case side2 => exact (Kd.V_reads' HO0_4.out).2.1); rintro e w37 ⟨rfl, hb⟩; refine ⟨_, rfl, ?_⟩; replace HO0_4 := am (Kd.V_below (pv HO0_4.out) hb); replace BK254 := am (blk_below (pk BK254.out) hb); replace BK255 := am (blk_below (pk BK255.out) hb); replace HB := am (below_step (pb HB) hb); (try clear hb); (try clear hb2); (try clear hk); (try clear hi); obtain ⟨hcz38_0, hcz38_1, hcz38_2, hcz38_3, hfz38_0, hfz38_1, hfz38_2, hfz38_3⟩ := g4 BK255))
  refine bodyPost_ret (results_ct rfl _ _ gb255 40 #[.int .u64 0, .int .u64 0, .int .i64 0, .slice none 0 0] (0, 0) _ rfl (by refine pk ?_; refine blk_put (cs := #[.int .u64 0, .int .u64 0, .int .i64 0, .slice none 0 0]) ?_ 3 _ rfl; refine pk ?_; refine blk_put (cs := #[.int .u64 0, .int .u64 0, .int .i64 0, .slice none 0 0]) ?_ 2 _ rfl; refine pk ?_; refine blk_put (cs := #[.int .u64 0, .int .u64 0, .int .i64 0, .slice none 0 0]) ?_ 1 _ rfl; refine pk ?_; refine blk_put (cs := #[.int .u64 0, .int .u64 0, .int .i64 0, .slice none 0 0]) ?_ 0 _ rfl; refine pk ?_; exact BK255.out) Try.underlying40 rfl (by kernel_rfl)) rfl ?_
  exact ⟨_, by first | rfl | (simp [errW_none, errW_some] <;> rfl) | (simp [*, errW_none, errW_some] <;> rfl), Kd.V_nil _ _ _ _ _, pb HB⟩


end Go.Proofs.Ytpbiobbddgipkaa.H
