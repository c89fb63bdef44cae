import Derived.Test.YtmfffbafldbihaaHx0
namespace Go.Proofs.Ytmfffbafldbihaa.H
open Go.RowKit Go.Proofs.YtmfffbafldbihaaW.PrintWords Go.Proofs.YtmfffbafldbihaaW.PrintLast Go.Proofs.YtmfffbafldbihaaW.PrintMore Go.Proofs.YtmfffbafldbihaaW.Sq
attribute [local go_sem] max2_int min2_int max_two min_two max_three min_three max_four min_four
set_option linter.unusedVariables false
set_option linter.unusedSimpArgs false

section
variable {P : Program}
theorem run_copyK (w : World) (dT sT ty elem : TypeId) (k b o dLen dCap : Nat) (a : Addr) (sLen sCap : Nat) (cs : List Value) (hu : P.underlying dT = some (.slice elem)) (hs : (P.info? elem).map (·.size) = some k) (hn : cs.length = Nat.min sLen dLen * k)
  (hsrc : ∀ j v, cs[j]? = some v → w.cell? (a.add j) = some v) (hc : ∀ j, j < cs.length → (w.cell? ⟨b, o + j, none⟩).isSome = true) (hf : ∀ j, j < cs.length → w.frozen? ⟨b, o + j, none⟩ = false) (h1 : ∀ v ∈ cs, v.oneCell' = true) :
  (Builtin.copy_ #[dT, sT] ty #[.slice (some ⟨b, o, none⟩) dLen dCap, .slice (some a) sLen sCap]).run P w = .ok (goInt (Nat.min sLen dLen)) (w.setCells b o cs) := by
 have hl := run_loadCells_list (P := P) w a cs hsrc;have hst := run_storeCells_cells (P := P) b o cs 0 w (by simpa using hc) (by simpa using hf) h1
 cases hq : P.info? elem with
 | none => simp [hq] at hs
 | some i =>
  have hi : i.size = k := by simpa [hq] using hs
  simp [Builtin.copy_, run_underlying hu, Builtin.lenOf, Builtin.firstCells, sizeOf, typeInfo, hq, hi, ← hn, hl, hst]
theorem copy_wp (w : World) {o : Oper} {a : Act} {K : Act → World → Prop} {Q : Exit → Act → World → Prop} (d s : Operand) (t t' : TypeId) (ho : o.op = .call { callee := .builtin .copy, args := #[d, s], argTypes := #[t, t'] }) (v u : Value) (hd : a.eval d = v) (hs : a.eval s = u) {v' : Value} {w' : World}
  (hr : (Builtin.copy_ #[t, t'] o.type #[v, u]).run P w = .ok v' w') (h : K (a.put o.dst v') w') : o.wp P a w K Q := by
 unfold Oper.wp execOp
 simp only [ho, resolve, invoke, builtin, Sem.run_bind, Sem.run_pure, Result.andThen_ok, List.map_toArray, List.map_cons, List.map_nil, hd, hs, hr]
 exact h
theorem copy_list (w : World) {ops : Array Oper} {rest : List Oper} {o : Oper} {a : Act} {Q : Exit → Act → World → Prop} (hgd : o.guard = none) (d s : Operand) (t t' : TypeId) (ho : o.op = .call { callee := .builtin .copy, args := #[d, s], argTypes := #[t, t'] }) (v u : Value) (hd : a.eval d = v) (hs : a.eval s = u) {v' : Value} {w' : World}
  (hr : (Builtin.copy_ #[t, t'] o.type #[v, u]).run P w = .ok v' w') (h : wpList P ops Q rest (a.put o.dst v') w') : wpList P ops Q (o :: rest) a w :=
 wpList_plain hgd fun _ hK => copy_wp w d s t t' ho v u hd hs hr (hK _ _ h)
theorem copy_step {ops : Array Oper} {o : Oper} {a : Act} {w : World} {K : Act → World → Prop} {Q : Exit → Act → World → Prop} {E : Prop} (hg : o.guard = none) (d x : Operand) (dT sT : TypeId) (hop : o.op = Op.call { callee := Callee.builtin Builtin.copy, args := #[d, x], argTypes := #[dT, sT] })
  (v u : Value) (hd : a.eval d = v) (hx : a.eval x = u) {v' : Value} {w' : World} (hr : (Builtin.copy_ #[dT, sT] o.type #[v, u]).run P w = .ok v' w') (hK : K (a.put o.dst v') w') : if Region.wanted o (yielded ops a.tmps) = true then Oper.wp P o a w K Q else E := by
 rw [if_pos (by simp [Region.wanted, hg])]
 exact copy_wp w d x dT sT hop v u hd hx hr hK
end
theorem setCells_heap (b : Nat) : ∀ (vs : List Value) (o : Nat) (w : World) (k : Nat), k ≠ b → (w.setCells b o vs).heap[k]? = w.heap[k]?
 | [], _, _, _, _ => rfl
 | v :: r, o, w, k, h => by rw [World.setCells, setCells_heap b r (o + 1) _ k h]; exact Below.heap_setCell w ⟨b, o, none⟩ v k h
theorem setCells_size (b : Nat) : ∀ (vs : List Value) (o : Nat) (w : World), (w.setCells b o vs).heap.size = w.heap.size
 | [], _, _ => rfl
 | v :: r, o, w => by rw [World.setCells, setCells_size b r (o + 1)]; simp [World.setCell]
theorem setCells_below {B : Nat} {w0 : World} (b : Nat) (hb : B ≤ b) : ∀ (vs : List Value) (o : Nat) (w : World), Below B w0 w → Below B w0 (w.setCells b o vs)
 | [], _, _, h => h
 | v :: r, o, w, h => by rw [World.setCells]; exact setCells_below b hb r (o + 1) _ (h.setCell hb v)
theorem setCells_blk (b : Nat) (t : TypeId) : ∀ (vs : List Value) (o : Nat) (w : World) (cur : Array Value), w.heap[b]? = some (.cells cur t (0, 0)) → o + vs.length ≤ cur.size →
  ∃ cur', (w.setCells b o vs).heap[b]? = some (.cells cur' t (0, 0)) ∧ cur'.size = cur.size ∧ cur'.toList = cur.toList.take o ++ vs ++ cur.toList.drop (o + vs.length)
 | [], o, w, cur, h, hl => ⟨cur, h, rfl, by simp⟩
 | v :: r, o, w, cur, h, hl => by
  rw [List.length_cons] at hl;obtain ⟨cur', h1, h2, h3⟩ := setCells_blk b t r (o + 1) (w.setCell ⟨b, o, none⟩ v) (cur.setIfInBounds o v) (blk_set h o v) (by rw [Array.size_setIfInBounds]; omega)
  refine ⟨cur', by rw [World.setCells]; exact h1, by rw [h2, Array.size_setIfInBounds], ?_⟩
  rw [h3, Array.toList_setIfInBounds, List.length_cons]
  have hol : o < cur.toList.length := by rw [Array.length_toList]; omega
  have e1 : (cur.toList.set o v).take (o + 1) = cur.toList.take o ++ [v] := by
   rw [List.take_set, List.take_succ_eq_append_getElem hol, List.set_append_right _ _ (by rw [List.length_take]; omega)]
   have hm : min o cur.size = o := by omega
   simp [hm]
  rw [e1, List.drop_set_of_lt (by omega), show o + 1 + r.length = o + (r.length + 1) by omega]
  simp
theorem shift_list (cur cs xs : List Value) (k i n : Nat) (hi : i < n) (hcs : cur.take (n * k) = cs) (hn : n * k ≤ cur.length) (hx : xs.length = k) (c1 c2 : List Value) (h1 : c1 = cur.take ((i + 1) * k) ++ cs.drop (i * k) ++ cur.drop ((i + 1) * k + (cs.drop (i * k)).length)) (h2 : c2 = c1.take (i * k) ++ xs ++ c1.drop (i * k + xs.length)) :
  c2.take ((n + 1) * k) = cs.take (i * k) ++ xs ++ cs.drop (i * k) := by
 have hik : i * k + k ≤ n * k := by have := Nat.mul_le_mul_right k (show i + 1 ≤ n from hi); rwa [Nat.succ_mul] at this
 have hl : cs.length = n * k := by rw [← hcs, List.length_take]; omega
 have e0 : (i + 1) * k = i * k + k := Nat.succ_mul _ _;have e1 : (n + 1) * k = n * k + k := Nat.succ_mul _ _
 have l0 : (cur.take ((i + 1) * k)).length = i * k + k := by rw [List.length_take, e0]; omega
 have a1 : c1.take (i * k) = cs.take (i * k) := by
  rw [h1, List.append_assoc, List.take_append_of_le_length (by omega), List.take_take, ← hcs, List.take_take]
  congr 1
  omega
 have a2 : c1.drop (i * k + xs.length) = cs.drop (i * k) ++ cur.drop ((i + 1) * k + (cs.drop (i * k)).length) := by
  rw [h1, List.append_assoc, hx, ← l0, List.drop_left]
 rw [h2, a1, a2, ← List.append_assoc, e1]
 have l1 : (cs.take (i * k) ++ xs ++ cs.drop (i * k)).length = n * k + k := by simp only [List.length_append, List.length_take, List.length_drop, hx, hl]; omega
 rw [← l1, List.take_left]
theorem zeroCells_size (z : Array Value) (n : Nat) : (Builtin.zeroCells z n).size = n * z.size := by simp [Builtin.zeroCells]
theorem setCells_drew (b : Nat) : ∀ (vs : List Value) (o : Nat) (w : World), (w.setCells b o vs).drew = w.drew.setCells b o vs
 | [], _, _ => rfl
 | v :: r, o, w => by rw [World.setCells, World.setCells, setCells_drew b r]; rfl
theorem grow_list (row cs xs : List Value) (k i n : Nat) (hi : i < n) (hn : cs.length = n * k) (hr : row.take (i * k) = cs.take (i * k)) (hrl : (n + 1) * k ≤ row.length) (hx : xs.length = k) (c1 c2 : List Value) (h1 : c1 = row.take (i * k) ++ xs ++ row.drop (i * k + xs.length)) (h2 : c2 = c1.take ((i + 1) * k) ++ cs.drop (i * k) ++ c1.drop ((i + 1) * k + (cs.drop (i * k)).length)) :
  c2.take ((n + 1) * k) = cs.take (i * k) ++ xs ++ cs.drop (i * k) := by
 have hik : i * k + k ≤ n * k := by have := Nat.mul_le_mul_right k (show i + 1 ≤ n from hi); rwa [Nat.succ_mul] at this
 have e0 : (i + 1) * k = i * k + k := Nat.succ_mul _ _;have e1 : (n + 1) * k = n * k + k := Nat.succ_mul _ _
 have l0 : (cs.take (i * k) ++ xs).length = (i + 1) * k := by rw [List.length_append, List.length_take, hx, e0]; omega
 have a1 : c1.take ((i + 1) * k) = cs.take (i * k) ++ xs := by rw [h1, hr, ← l0, List.take_left]
 have l1 : (cs.take (i * k) ++ xs ++ cs.drop (i * k)).length = (n + 1) * k := by rw [List.length_append, l0, List.length_drop, hn, e0, e1]; omega
 rw [h2, a1, ← l1, List.take_left]
def flat {α : Type} (enc : α → List Value) (xs : List α) : List Value := xs.flatMap enc
section
variable {α : Type} {enc : α → List Value} {k : Nat}
theorem flat_len (hl : ∀ x, (enc x).length = k) : ∀ (xs : List α), (flat enc xs).length = xs.length * k
 | [] => by simp [flat]
 | x :: r => by
  have h := flat_len hl r
  unfold flat at h ⊢
  rw [List.flatMap_cons, List.length_append, hl, h, List.length_cons, Nat.succ_mul, Nat.add_comm]
theorem flat_drop (hl : ∀ x, (enc x).length = k) : ∀ (i : Nat) (xs : List α), (flat enc xs).drop (i * k) = flat enc (xs.drop i)
 | 0, xs => by simp
 | i + 1, [] => by simp [flat]
 | i + 1, x :: r => by
  have h := flat_drop hl i r;rw [List.drop_succ_cons, ← h]
  unfold flat
  rw [List.flatMap_cons, Nat.succ_mul, Nat.add_comm, ← hl x, ← List.drop_drop, List.drop_left]
theorem flat_take (hl : ∀ x, (enc x).length = k) : ∀ (i : Nat) (xs : List α), (flat enc xs).take (i * k) = flat enc (xs.take i)
 | 0, xs => by simp [flat]
 | i + 1, [] => by simp [flat]
 | i + 1, x :: r => by
  have h := flat_take hl i r;rw [List.take_succ_cons]
  unfold flat at h ⊢
  rw [List.flatMap_cons, List.flatMap_cons, Nat.succ_mul, Nat.add_comm, ← hl x, List.take_length_add_append, hl x, h]
theorem flat_append (xs ys : List α) : flat enc (xs ++ ys) = flat enc xs ++ flat enc ys := by simp [flat]
theorem flat_one (x : α) : flat enc [x] = enc x := by simp [flat]
theorem flat_ins (hl : ∀ x, (enc x).length = k) (i : Nat) (xs : List α) (x : α) : (flat enc xs).take (i * k) ++ enc x ++ (flat enc xs).drop (i * k) = flat enc (xs.take i ++ [x] ++ xs.drop i) := by
 rw [flat_append, flat_append, flat_one, flat_take hl, flat_drop hl]
theorem flat_at (hl : ∀ x, (enc x).length = k) {xs : List α} {j : Nat} {x : α} (h : xs[j]? = some x) : ((flat enc xs).drop (j * k)).take k = enc x := by
 obtain ⟨hj, e⟩ := List.getElem?_eq_some_iff.1 h;rw [flat_drop hl, List.drop_eq_getElem_cons hj, e]
 unfold flat
 rw [List.flatMap_cons, ← hl x, List.take_left]
theorem flat_of (hl : ∀ x, (enc x).length = k) : ∀ (xs : List α) (cs : List Value), cs.length = xs.length * k → (∀ j x, xs[j]? = some x → (cs.drop (j * k)).take k = enc x) → cs = flat enc xs
 | [], cs, h, _ => by
  have : cs = [] := List.eq_nil_of_length_eq_zero (by simpa using h);rw [this]; rfl
 | x :: r, cs, h, hx => by
  have h0 := hx 0 x rfl
  simp only [Nat.zero_mul, List.drop_zero] at h0
  have hr := flat_of hl r (cs.drop k) (by rw [List.length_drop, h, List.length_cons, Nat.succ_mul]; omega) (fun j y hy => by
   have := hx (j + 1) y (by simpa using hy)
   rwa [Nat.succ_mul, Nat.add_comm, ← List.drop_drop] at this)
  unfold flat at hr ⊢
  rw [List.flatMap_cons, ← hr, ← h0, List.take_append_drop]
end
section
variable {α : Type} {d : Kd α} {enc : α → List Value}
theorem own_of_R (hl : ∀ x, (enc x).length = d.sz) (hM : ∀ {w base ok x cs}, d.M w base ok x cs → cs = enc x) {e base : Nat} {ok : Nat → Prop} {w : World} {v : Value} {xs : List α} (h : d.R e w base ok v xs) : w.ownsRow base e d.sz v xs.length (flat enc xs) := by
 obtain ⟨_, inner, ho, hr⟩ := h;rw [← flat_of hl xs inner hr.1 (fun j x hj => hM (hr.2 j x hj))]
 exact ho
theorem R_of_own (hl : ∀ x, (enc x).length = d.sz) (hM : ∀ w base ok x, d.M w base ok x (enc x)) {e base : Nat} {w : World} {v : Value} {xs : List α} (h : w.ownsRow base e d.sz v xs.length (flat enc xs)) : d.R e w base (fun _ => True) v xs :=
 ⟨fun _ _ => trivial, flat enc xs, h, flat_len hl xs, fun j x hj => by rw [flat_at hl hj]; exact hM _ _ _ x⟩
end
set_option maxHeartbeats 4000000 in
set_option maxRecDepth 100000 in
theorem Insert_end (base : Nat) (v : Value) (n : Nat) (cs xs : List Value) (vb : Nat) (w : World) (hown : w.ownsRow base 62 4 v n cs) (hx : w.heap[vb]? = some (.cells xs.toArray 62 (0, 0))) (hxl : xs.length = 4) (h1x : ∀ u ∈ xs, u.oneCell' = true)
  (hl : (n + 1) * 40 ≤ 140737488355328) (hb : base ≤ w.heap.size) :
  Calls Try.prog 39 #[v, .int .i64 n, .slice (some ⟨vb, 0, none⟩) 1 1] w fun e w' => ∃ v1, e = .returned v1 ∧ w'.ownsRow base 62 4 v1 (n + 1) (cs ++ xs) ∧ w.grownBy w' v.ownBlock ∧ (v1.ownBlock = v.ownBlock ∨ v1.ownBlock = some w.heap.size) := by
 obtain ⟨i0, hi0, hz⟩ : ∃ i0, Try.prog.info? 62 = some i0 ∧ i0.zero = some (.agg #[.string ⟨#[]⟩, .int .u64 0, .int .u64 0, .int .u64 0]) ∧ i0.size = 4 ∧ i0.bytes = 40 := by
  have h : (Try.prog.info? 62).map (fun i => (i.zero, i.size, i.bytes)) = some (some (.agg #[.string ⟨#[]⟩, .int .u64 0, .int .u64 0, .int .u64 0]), 4, 40) := by kernel_rfl
  obtain ⟨i0, h0, h1⟩ := Option.map_eq_some_iff.1 h
  simp only [Prod.mk.injEq] at h1
  exact ⟨i0, h0, h1⟩
 have hu := Try.underlying25
 have hnews : ∀ j u, xs[j]? = some u → w.cell? ((⟨vb, 0, none⟩ : Addr).add j) = some u := fun j u hj => by rw [add_at, Nat.zero_add, blk_cell hx]; simpa using hj
 have HO := am hown
 obtain ⟨A, c, rfl⟩ : ∃ A c, v = .slice A n c := by
  rcases hown.2 with ⟨rfl, rfl⟩ | ⟨g, cap, cur, rfl, _⟩
  ·exact ⟨_, _, rfl⟩
  ·exact ⟨_, _, rfl⟩
 have hc : n ≤ c := own_le hown;clear hown;have HI := am (And.intro hi0 hz);clear hi0 hz hx
 cases A with
 | none =>
  have h0 : n = 0 ∧ c = 0 := by
   rcases HO.out.2 with ⟨h, h2⟩ | ⟨g, cap, cur, h, _⟩
   ·injection h with _ _ h3; exact ⟨h2, h3⟩
   ·injection h with h _ _; cases h
  obtain ⟨rfl, rfl⟩ := h0
  go_enter Try.func39, Try.ntmps39
  go_wp2_with (at_builtin; refine wpList_append_own_at w rfl (.tmp 23) (.tmp 24) 25 rfl base 62 i0 _ 4 40 hu HI.out.1 HI.out.2.1 HI.out.2.2.1 HI.out.2.2.2 rfl (by decide) _ _ _ rfl HO.out ⟨vb, 0, none⟩ 1 1 xs rfl (by omega) hnews h1x (by unfold maxLen; omega) hl hb ?_; rintro v1 w1 ho1 hg1 _ hat1)
  go_ret
  exact ⟨_, rfl, ho1, hg1, hat1⟩
 | some ad =>
  obtain ⟨g, rfl⟩ : ∃ g, ad = ⟨g, 0, none⟩ := by
   rcases HO.out.2 with ⟨h, _⟩ | ⟨g, cap, cur, h, _⟩
   ·injection h with h; cases h
   ·injection h with h; injection h with h; exact ⟨g, h⟩
  go_enter Try.func39, Try.ntmps39
  go_wp2_with (at_builtin; refine wpList_append_own_at w rfl (.tmp 23) (.tmp 24) 25 rfl base 62 i0 _ 4 40 hu HI.out.1 HI.out.2.1 HI.out.2.2.1 HI.out.2.2.2 rfl (by decide) _ _ _ rfl HO.out ⟨vb, 0, none⟩ 1 1 xs rfl (by omega) hnews h1x (by unfold maxLen; omega) hl hb ?_; rintro v1 w1 ho1 hg1 _ hat1)
  all_goals (go_ret; exact ⟨_, rfl, ho1, hg1, hat1⟩)
set_option maxHeartbeats 4000000 in
set_option maxRecDepth 100000 in
theorem Insert_shift (base g i n c vb : Nat) (cs xs : List Value) (w : World) (hi : i < n) (hroom : n + 1 ≤ c) (hown : w.ownsRow base 62 4 (.slice (some ⟨g, 0, none⟩) n c) n cs) (hx : w.heap[vb]? = some (.cells xs.toArray 62 (0, 0))) (hxl : xs.length = 4) (h1c : ∀ u ∈ cs, u.oneCell' = true) (h1x : ∀ u ∈ xs, u.oneCell' = true) (hvb : vb ≠ g) (hb : base ≤ w.heap.size) :
  Calls Try.prog 39 #[.slice (some ⟨g, 0, none⟩) n c, .int .i64 i, .slice (some ⟨vb, 0, none⟩) 1 1] w fun e w' => e = .returned (.slice (some ⟨g, 0, none⟩) (n + 1) c) ∧ w'.ownsRow base 62 4 (.slice (some ⟨g, 0, none⟩) (n + 1) c) (n + 1) (cs.take (i * 4) ++ xs ++ cs.drop (i * 4)) ∧ Below base w w' ∧ (∀ k, k ≠ g → w'.heap[k]? = w.heap[k]?) := by
 have hu := Try.underlying25
 obtain ⟨cap, cur, hbg, hgc, hncap, hcm, hcs, htk, hcl⟩ : ∃ cap cur, base ≤ g ∧ w.heap[g]? = some (.cells cur 62 (0, 0)) ∧ n ≤ cap ∧ cap ≤ maxLen ∧ cur.size = cap * 4 ∧ cur.toList.take (n * 4) = cs ∧ cap = c := by
  rcases hown.2 with ⟨h, _⟩ | ⟨g', cap, cur, h, h1, h2, h3, h4, h5, h6⟩
  ·injection h with h; cases h
  ·injection h with h _ h7; injection h with h; injection h with h; subst h; exact ⟨cap, cur, h1, h2, h3, h4, h5, h6, h7.symm⟩
 subst hcl;have hcl : cs.length = n * 4 := hown.1
 have hov : ∀ lb cb, (callFunc 52 #[.slice (some ⟨vb, 0, none⟩) 1 1, .slice (some ⟨g, (i + 1) * 4, none⟩) lb cb]).run Try.prog w = .ok (.value (.bool false)) w := fun lb cb => by
  rw [run_callFunc_extern Try.func52 (by kernel_rfl) (by kernel_rfl) (by kernel_rfl) (e := Extern.SlicesOverlaps.overlaps #[25, 25] #[4]) (by kernel_rfl),
   Lib.run_overlaps_apart w 25 4 62 hu 4 (fun W => by
    obtain ⟨i0, h0, h1⟩ := Option.map_eq_some_iff.1 (show (Try.prog.info? 62).map (·.size) = some 4 by kernel_rfl)
    simp [Go.sizeOf, typeInfo, h0, h1]) ⟨vb, 0, none⟩ ⟨g, (i + 1) * 4, none⟩ 1 1 lb cb hvb 62 62 4 (cap * 4) (by simp [World.shape?, hx, hxl]) (by simp [World.shape?, hgc, hcs]) (by omega) (blk_frozen hx 0) (blk_frozen hx 4)]
  rfl
 have hsz : (Try.prog.info? 62).map (·.size) = some 4 := by kernel_rfl
 have hcs' : ∀ j v, cs[j]? = some v → cur[j]? = some v := fun j v hj => by
  rw [← htk, List.getElem?_take] at hj
  split at hj
  ·simpa using hj
  ·cases hj
 have hdl : (cs.drop (i * 4)).length = (n - i) * 4 := by rw [List.length_drop, hcl, Nat.sub_mul]
 have hcp1 : ∀ ty dc sc, (Builtin.copy_ #[25, 25] ty #[.slice (some ⟨g, (i + 1) * 4, none⟩) (n - i) dc, .slice (some ⟨g, i * 4, none⟩) (n + 1 - i) sc]).run Try.prog w.drew = .ok (goInt (Nat.min (n + 1 - i) (n - i))) (w.drew.setCells g ((i + 1) * 4) (cs.drop (i * 4))) := fun ty dc sc =>
  run_copyK w.drew 25 25 ty 62 4 g ((i + 1) * 4) (n - i) dc ⟨g, i * 4, none⟩ (n + 1 - i) sc (cs.drop (i * 4)) hu hsz
   (by rw [hdl]; congr 1; simp only [Nat.min_def]; split <;> omega)
   (fun j v hj => by
    rw [List.getElem?_drop] at hj;rw [add_at, blk_cell (blk_drew hgc)]
    exact hcs' _ v hj)
   (fun j hj => by
    rw [hdl] at hj
    rw [blk_cell (blk_drew hgc), Array.getElem?_eq_getElem (by rw [hcs]; omega)]; rfl)
   (fun j hj => blk_frozen (blk_drew hgc) _) (fun v hv => h1c v (List.mem_of_mem_drop hv))
 obtain ⟨cur1, hg1, hs1, hl1⟩ := setCells_blk g 62 (cs.drop (i * 4)) ((i + 1) * 4) w.drew cur (blk_drew hgc) (by rw [hdl, hcs]; omega)
 have hx1 : (w.drew.setCells g ((i + 1) * 4) (cs.drop (i * 4))).heap[vb]? = some (.cells xs.toArray 62 (0, 0)) := by rw [setCells_heap g _ _ _ vb hvb]; exact hx
 have HF : Aside0 (World.ownsRow ((w.drew.setCells g ((i + 1) * 4) (cs.drop (i * 4))).setCells g (i * 4) xs) base 62 4 (.slice (some ⟨g, 0, none⟩) (n + 1) cap) (n + 1) (cs.take (i * 4) ++ xs ++ cs.drop (i * 4))) := ⟨by
  obtain ⟨cur2, hg2, hs2, hl2⟩ := setCells_blk g 62 xs (i * 4) _ cur1 hg1 (by rw [hxl, hs1, hcs]; omega)
  refine ⟨by simp only [List.length_append, List.length_take, List.length_drop, hxl, hcl]; omega, .inr ⟨g, cap, cur2, rfl, hbg, hg2, hroom, hcm, by rw [hs2, hs1, hcs], ?_⟩⟩
  exact shift_list cur.toList cs xs 4 i n hi htk (by rw [Array.length_toList, hcs]; omega) hxl cur1.toList cur2.toList hl1 hl2⟩
 obtain ⟨W1, hW1⟩ : ∃ W1, W1 = w.drew.setCells g ((i + 1) * 4) (cs.drop (i * 4)) := ⟨_, rfl⟩;rw [← hW1] at hcp1 hg1 hx1
 have hcp2 : ∀ (W : World), W.heap = W1.heap → ∀ ty dc, (Builtin.copy_ #[25, 25] ty #[.slice (some ⟨g, i * 4, none⟩) (n + 1 - i) dc, .slice (some ⟨vb, 0, none⟩) 1 1]).run Try.prog W = .ok (goInt (Nat.min 1 (n + 1 - i))) (W.setCells g (i * 4) xs) := fun W hW ty dc => by
  have hgW : W.heap[g]? = some (.cells cur1 62 (0, 0)) := by rw [hW]; exact hg1
  have hxW : W.heap[vb]? = some (.cells xs.toArray 62 (0, 0)) := by rw [hW]; exact hx1
  exact run_copyK W 25 25 ty 62 4 g (i * 4) (n + 1 - i) dc ⟨vb, 0, none⟩ 1 1 xs hu hsz (by rw [hxl]; simp only [Nat.min_def]; split <;> omega)
   (fun j v hj => by rw [add_at, Nat.zero_add, blk_cell hxW]; simpa using hj)
   (fun j hj => by rw [blk_cell hgW, Array.getElem?_eq_getElem (by rw [hs1, hcs]; omega)]; rfl)
   (fun j hj => blk_frozen hgW _) h1x
 have HX := am hx;have HG := am hgc;have HG1 := am hg1;have HO := am hown;clear hx hgc hown hg1 hx1
 have hz2 : ¬ ((i : Int) = (n : Int)) := by omega
 have hb1 : (0 : Int) ≤ (i : Int) + 1 := by omega
 have htn : ((i : Int) + 1).toNat = i + 1 := by omega
 have hin : i ≤ n := by omega
 have hb2 : ¬ (cap = i + 1) := by omega
 have hb3 : (i : Int) ≤ (n : Int) + 1 := by omega
 have hb4 : ¬ (cap = i) := by omega
 have hc63 : cap ≤ 9223372036854775807 := by unfold maxLen at hcm; omega
 clear hcm
 go_enter Try.func39, Try.ntmps39
 go_wp2_with (simp only [hov])
 have hw1 : IntKind.i64.wrap ((i : Int) + 1) = (i : Int) + 1 := by rw [IntKind.wrap_i64]; omega
 go_region_law (refine copy_step rfl _ _ 25 25 rfl _ _ (by simp [Act.eval, Act.put]) (by simp [Act.eval, Act.put]) (hcp1 _ _ _) ?_)
 go_wp2_with (at_builtin; refine copy_list _ rfl _ _ 25 25 rfl _ _ rfl rfl (hcp2 _ rfl _ _) ?_)
 go_ret
 exact ⟨rfl, HF.out, setCells_below g hbg _ _ _ (setCells_below g hbg _ _ _ (below_drew1 (Below.refl _ _))), fun k hk => by rw [setCells_heap g _ _ _ k hk, setCells_heap g _ _ _ k hk]; rfl⟩
set_option maxHeartbeats 4000000 in
set_option maxRecDepth 100000 in
theorem Insert_grow (base g i n cap vb : Nat) (cs xs : List Value) (w : World) (hi : i < n) (hroom : cap < n + 1) (hown : w.ownsRow base 62 4 (.slice (some ⟨g, 0, none⟩) n cap) n cs) (hx : w.heap[vb]? = some (.cells xs.toArray 62 (0, 0))) (hxl : xs.length = 4) (h1c : ∀ u ∈ cs, u.oneCell' = true) (h1x : ∀ u ∈ xs, u.oneCell' = true) (hb : base ≤ w.heap.size) (hl : (n + 1) * 40 ≤ 140737488355328) :
  Calls Try.prog 39 #[.slice (some ⟨g, 0, none⟩) n cap, .int .i64 i, .slice (some ⟨vb, 0, none⟩) 1 1] w fun e w' => ∃ G, e = .returned (.slice (some ⟨w.heap.size, 0, none⟩) (n + 1) G) ∧ w'.ownsRow base 62 4 (.slice (some ⟨w.heap.size, 0, none⟩) (n + 1) G) (n + 1) (cs.take (i * 4) ++ xs ++ cs.drop (i * 4)) ∧ Below w.heap.size w w' := by
 have hu := Try.underlying25;have hu3 := Try.underlying3
 obtain ⟨i0, hi0, hz0, hzs, hzb⟩ : ∃ i0, Try.prog.info? 62 = some i0 ∧ i0.zero = some (.agg #[.string ⟨#[]⟩, .int .u64 0, .int .u64 0, .int .u64 0]) ∧ i0.size = 4 ∧ i0.bytes = 40 := by
  have h : (Try.prog.info? 62).map (fun i => (i.zero, i.size, i.bytes)) = some (some (.agg #[.string ⟨#[]⟩, .int .u64 0, .int .u64 0, .int .u64 0]), 4, 40) := by kernel_rfl
  obtain ⟨i0, h0, h1⟩ := Option.map_eq_some_iff.1 h
  simp only [Prod.mk.injEq] at h1
  exact ⟨i0, h0, h1⟩
 obtain ⟨cur, hbg, hgc, hncap, hcm, hcs, htk⟩ : ∃ cur, base ≤ g ∧ w.heap[g]? = some (.cells cur 62 (0, 0)) ∧ n ≤ cap ∧ cap ≤ maxLen ∧ cur.size = cap * 4 ∧ cur.toList.take (n * 4) = cs := by
  rcases hown.2 with ⟨h, _⟩ | ⟨g', cap', cur, h, h1, h2, h3, h4, h5, h6⟩
  ·injection h with h; cases h
  ·injection h with h _ h7; injection h with h; injection h with h; subst h; subst h7; exact ⟨cur, h1, h2, h3, h4, h5, h6⟩
 have hcl : cs.length = n * 4 := hown.1
 have hcs' : ∀ j v, cs[j]? = some v → cur[j]? = some v := fun j v hj => by
  rw [← htk, List.getElem?_take] at hj
  split at hj
  ·simpa using hj
  ·cases hj
 have hsz : (Try.prog.info? 62).map (·.size) = some 4 := by rw [hi0]; simp [hzs]
 have hold : (Builtin.firstCells i0.size i (.slice (some ⟨g, 0, none⟩) i cap)).run Try.prog w.drew = .ok (cs.take (i * 4)).toArray w.drew := by
  rw [hzs]
  exact run_firstCells_some w.drew 4 i ⟨g, 0, none⟩ i cap (cs.take (i * 4)) (by rw [List.length_take]; omega) (fun j v hj => by
   rw [List.getElem?_take] at hj
   split at hj
   ·rw [add_at, Nat.zero_add, blk_cell (blk_drew hgc)]; exact hcs' _ v hj
   ·cases hj)
 have hkk : (n : Int) + 1 - (i : Int) = ((n + 1 - i : Nat) : Int) := by omega
 have hik : i + (n + 1 - i) = n + 1 := by omega
 have hrz : ∀ ty, (Builtin.append_ #[25, 3] ty #[.slice (some ⟨g, 0, none⟩) i cap, .int .i64 ((n : Int) + 1 - (i : Int))]).run Try.prog w = .ok (.slice (some ⟨w.heap.size, 0, none⟩) (n + 1) (grownCap w (n + 1) cap 62)) (w.drew.alloc (.cells ((cs.take (i * 4)).toArray ++ Builtin.zeroCells (Value.cells (.agg #[.string ⟨#[]⟩, .int .u64 0, .int .u64 0, .int .u64 0])) (n + 1 - i) ++ Builtin.zeroCells (Value.cells (.agg #[.string ⟨#[]⟩, .int .u64 0, .int .u64 0, .int .u64 0])) (grownCap w (n + 1) cap 62 - (n + 1))) 62)) := fun ty => by
  have h := Lib.run_append_grow_zeros w 25 3 ty 62 i0 _ .i64 .i64 hu hu3 hi0 hz0 (some ⟨g, 0, none⟩) i cap (cs.take (i * 4)) hold (n + 1 - i) (by omega) (by omega) (by omega) (by omega) (by rw [hzb]; omega) (by rw [hzb, hik]; exact growslice_fits hroom hl);rw [hik] at h;rw [hkk]
  exact h
 obtain ⟨G, hG⟩ : ∃ G, G = grownCap w (n + 1) cap 62 := ⟨_, rfl⟩;obtain ⟨ROW, hROW⟩ : ∃ ROW : Array Value, ROW = (cs.take (i * 4)).toArray ++ Builtin.zeroCells (Value.cells (.agg #[.string ⟨#[]⟩, .int .u64 0, .int .u64 0, .int .u64 0])) (n + 1 - i) ++ Builtin.zeroCells (Value.cells (.agg #[.string ⟨#[]⟩, .int .u64 0, .int .u64 0, .int .u64 0])) (G - (n + 1)) := ⟨_, rfl⟩
 have hGn : n + 1 ≤ G := by rw [hG]; exact grownCap_ge w _ _ _
 have hGm : G ≤ maxLen := by rw [hG]; exact grownCap_le_maxLen w (n + 1) cap 62 (by unfold maxLen; omega)
 rw [← hG, ← hROW] at hrz;have hcy : (Value.cells (.agg #[.string ⟨#[]⟩, .int .u64 0, .int .u64 0, .int .u64 0])).size = 4 := rfl
 have htl : (cs.take (i * 4)).length = i * 4 := by rw [List.length_take]; omega
 have hRs : ROW.size = G * 4 := by
  rw [hROW, Array.size_append, Array.size_append, zeroCells_size, zeroCells_size, hcy, List.size_toArray, htl]
  omega
 have hRt : ROW.toList.take (i * 4) = cs.take (i * 4) := by
  rw [hROW, Array.toList_append, Array.toList_append, List.append_assoc]
  exact (congrArg (fun q => List.take q _) htl.symm).trans (List.take_left ..)
 have hgw : g < w.heap.size := blk_lt hgc;have hvw : vb < w.heap.size := blk_lt hx;obtain ⟨W1, hW1⟩ : ∃ W1, W1 = w.drew.alloc (.cells ROW 62) := ⟨_, rfl⟩
 have hN : W1.heap[w.heap.size]? = some (.cells ROW 62 (0, 0)) := by rw [hW1]; exact blk_new w.drew _
 have hg1 : W1.heap[g]? = some (.cells cur 62 (0, 0)) := by rw [hW1]; exact blk_alloc (blk_drew hgc) _
 have hx1 : W1.heap[vb]? = some (.cells xs.toArray 62 (0, 0)) := by rw [hW1]; exact blk_alloc (blk_drew hx) _
 have hB1 : Below w.heap.size w W1 := by rw [hW1]; exact below_alloc (below_drew1 (Below.refl _ _)) _
 have hdl : (cs.drop (i * 4)).length = (n - i) * 4 := by rw [List.length_drop, hcl, Nat.sub_mul]
 obtain ⟨cur1, hN1, hs1, hl1⟩ := setCells_blk w.heap.size 62 xs (i * 4) W1 ROW hN (by rw [hxl, hRs]; omega);obtain ⟨cur2, hN2, hs2, hl2⟩ := setCells_blk w.heap.size 62 (cs.drop (i * 4)) ((i + 1) * 4) _ cur1 hN1 (by rw [hdl, hs1, hRs]; omega)
 have hg2 : (W1.setCells w.heap.size (i * 4) xs).heap[g]? = some (.cells cur 62 (0, 0)) := by rw [setCells_heap _ _ _ _ g (by omega)]; exact hg1
 have hcpA : ∀ (W : World), W.heap = W1.heap → ∀ ty dc, (Builtin.copy_ #[25, 25] ty #[.slice (some ⟨w.heap.size, i * 4, none⟩) (n + 1 - i) dc, .slice (some ⟨vb, 0, none⟩) 1 1]).run Try.prog W = .ok (goInt (Nat.min 1 (n + 1 - i))) (W.setCells w.heap.size (i * 4) xs) := fun W hW ty dc => by
  have hgW : W.heap[w.heap.size]? = some (.cells ROW 62 (0, 0)) := by rw [hW]; exact hN
  have hxW : W.heap[vb]? = some (.cells xs.toArray 62 (0, 0)) := by rw [hW]; exact hx1
  exact run_copyK W 25 25 ty 62 4 w.heap.size (i * 4) (n + 1 - i) dc ⟨vb, 0, none⟩ 1 1 xs hu hsz (by rw [hxl]; simp only [Nat.min_def]; split <;> omega)
   (fun j v hj => by rw [add_at, Nat.zero_add, blk_cell hxW]; simpa using hj)
   (fun j hj => by rw [blk_cell hgW, Array.getElem?_eq_getElem (by rw [hRs]; omega)]; rfl)
   (fun j hj => blk_frozen hgW _) h1x
 have hcpB : ∀ (W : World), W.heap = (W1.setCells w.heap.size (i * 4) xs).heap → ∀ ty dc sc, (Builtin.copy_ #[25, 25] ty #[.slice (some ⟨w.heap.size, (i + 1) * 4, none⟩) (n - i) dc, .slice (some ⟨g, i * 4, none⟩) (n - i) sc]).run Try.prog W = .ok (goInt (Nat.min (n - i) (n - i))) (W.setCells w.heap.size ((i + 1) * 4) (cs.drop (i * 4))) := fun W hW ty dc sc => by
  have hNW : W.heap[w.heap.size]? = some (.cells cur1 62 (0, 0)) := by rw [hW]; exact hN1
  have hgW : W.heap[g]? = some (.cells cur 62 (0, 0)) := by rw [hW]; exact hg2
  exact run_copyK W 25 25 ty 62 4 w.heap.size ((i + 1) * 4) (n - i) dc ⟨g, i * 4, none⟩ (n - i) sc (cs.drop (i * 4)) hu hsz
   (by rw [hdl]; congr 1; simp only [Nat.min_def]; split <;> omega)
   (fun j v hj => by
    rw [List.getElem?_drop] at hj;rw [add_at, blk_cell hgW]
    exact hcs' _ v hj)
   (fun j hj => by
    rw [hdl] at hj
    rw [blk_cell hNW, Array.getElem?_eq_getElem (by rw [hs1, hRs]; omega)]; rfl)
   (fun j hj => blk_frozen hNW _) (fun v hv => h1c v (List.mem_of_mem_drop hv))
 have HF : Aside0 (World.ownsRow ((W1.setCells w.heap.size (i * 4) xs).setCells w.heap.size ((i + 1) * 4) (cs.drop (i * 4))) base 62 4 (.slice (some ⟨w.heap.size, 0, none⟩) (n + 1) G) (n + 1) (cs.take (i * 4) ++ xs ++ cs.drop (i * 4))) := ⟨by
  refine ⟨by simp only [List.length_append, List.length_take, List.length_drop, hxl, hcl]; omega, .inr ⟨w.heap.size, G, cur2, rfl, hb, hN2, hGn, hGm, by rw [hs2, hs1, hRs], ?_⟩⟩
  exact grow_list ROW.toList cs xs 4 i n hi hcl hRt (by rw [Array.length_toList, hRs]; omega) hxl cur1.toList cur2.toList hl1 hl2⟩
 have HB := am (setCells_below w.heap.size (Nat.le_refl _) (cs.drop (i * 4)) ((i + 1) * 4) _ (setCells_below w.heap.size (Nat.le_refl _) xs (i * 4) W1 hB1))
 have hz2 : ¬ ((i : Int) = (n : Int)) := by omega
 have hz3 : (cap : Int) < (n : Int) + 1 := by omega
 have hb1 : (0 : Int) ≤ (i : Int) + 1 := by omega
 have htn : ((i : Int) + 1).toNat = i + 1 := by omega
 have hin : i ≤ n := by omega
 have hGi : ¬ (G = i) := by omega
 have hGim : ¬ (G = i + 1) := by omega
 have hci : ¬ (cap = i) := by omega
 have hb3 : (i : Int) ≤ (n : Int) + 1 := by omega
 have hb5 : (i : Int) ≤ (n : Int) := by omega
 have hG63 : G ≤ 9223372036854775807 := by unfold maxLen at hGm; omega
 subst hW1;clear hcm hGm hkk hik hold hROW hG hRs hRt hN hg1 hx1 hN1 hN2 hl1 hl2 hs1 hs2 hg2 hB1 hgc hx hown hi0 hz0 hzs hzb hsz hcs' htl hcy
 have hA := fun ty dc => hcpA ((w.alloc (.cells ROW 62)).drew) rfl ty dc
 have hB := fun ty dc sc => hcpB (((w.alloc (.cells ROW 62)).drew.setCells w.heap.size (i * 4) xs).drew) rfl ty dc sc
 clear hcpA hcpB
 have hw1 : IntKind.i64.wrap ((i : Int) + 1) = (i : Int) + 1 := by rw [IntKind.wrap_i64]; omega
 go_enter Try.func39, Try.ntmps39
 go_wp2_with (at_builtin; refine Lib.wpList_append_run _ rfl _ _ _ _ rfl _ _ rfl rfl _ _ (hrz _) ?_)
 go_region_law fail
 go_wp2
 go_ret
 rw [← setCells_drew]
 exact ⟨G, rfl, HF.out, HB.out.drew⟩
theorem Insert_calls (base : Nat) (v : Value) (n i : Nat) (cs xs : List Value) (vb : Nat) (w : World) (hi : i ≤ n) (hown : w.ownsRow base 62 4 v n cs) (hx : w.heap[vb]? = some (.cells xs.toArray 62 (0, 0))) (hxl : xs.length = 4) (h1c : ∀ u ∈ cs, u.oneCell' = true) (h1x : ∀ u ∈ xs, u.oneCell' = true) (hvb : v.ownBlock ≠ some vb) (hb : base ≤ w.heap.size) (hl : (n + 1) * 40 ≤ 140737488355328) :
  Calls Try.prog 39 #[v, .int .i64 i, .slice (some ⟨vb, 0, none⟩) 1 1] w fun e w' => ∃ v1, e = .returned v1 ∧ w'.ownsRow base 62 4 v1 (n + 1) (cs.take (i * 4) ++ xs ++ cs.drop (i * 4)) ∧ Below base w w' ∧ (∀ k, k < w.heap.size → some k ≠ v.ownBlock → w'.heap[k]? = w.heap[k]?) ∧ (v1.ownBlock = v.ownBlock ∨ ∃ b, v1.ownBlock = some b ∧ w.heap.size ≤ b) := by
 rcases Nat.lt_or_ge i n with hin | hin
 ·obtain ⟨g, cap, cur, rfl, hbg, hgc, _⟩ : ∃ g cap cur, v = .slice (some ⟨g, 0, none⟩) n cap ∧ base ≤ g ∧ w.heap[g]? = some (.cells cur 62 (0, 0)) ∧ n ≤ cap := by
   rcases hown.2 with ⟨_, h⟩ | ⟨g, cap, cur, h, h1, h2, h3, _⟩
   ·omega
   ·exact ⟨g, cap, cur, h, h1, h2, h3⟩
  have hvg : vb ≠ g := fun he => hvb (by rw [he]; rfl)
  rcases Nat.lt_or_ge cap (n + 1) with hc | hc
  ·refine (Insert_grow base g i n cap vb cs xs w hin hc hown hx hxl h1c h1x hb hl).mono ?_
   rintro e w' ⟨G, rfl, ho, hB⟩
   exact ⟨_, rfl, ho, hB.mono hb, fun k hk _ => hB.block k hk, .inr ⟨_, rfl, Nat.le_refl _⟩⟩
  ·refine (Insert_shift base g i n cap vb cs xs w hin hc hown hx hxl h1c h1x hvg hb).mono ?_
   rintro e w' ⟨rfl, ho, hB, hk⟩
   exact ⟨_, rfl, ho, hB, fun k _ hk' => hk k (fun he => hk' (by rw [he]; rfl)), .inl rfl⟩
 ·obtain rfl : i = n := by omega
  refine (Insert_end base v i cs xs vb w hown hx hxl h1x hl hb).mono ?_
  rintro e w' ⟨v1, rfl, ho, hg, ha⟩
  refine ⟨v1, rfl, by rw [← hown.1, List.take_length, List.drop_length, List.append_nil]; exact ho, (Below.refl base w).grown hg hb (own_base hown), fun k hk hk' => hg.block k hk hk', ?_⟩
  rcases ha with ha | ha
  ·exact .inl ha
  ·exact .inr ⟨_, ha, Nat.le_refl _⟩

end Go.Proofs.Ytmfffbafldbihaa.H
