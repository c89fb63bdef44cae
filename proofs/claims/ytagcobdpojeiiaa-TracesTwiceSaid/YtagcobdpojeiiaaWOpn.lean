import Derived.Test.YtagcobdpojeiiaaWWords
import Derived.Test.YtagcobdpojeiiaaWShare
import Derived.Test.YtagcobdpojeiiaaWMore
import Derived.SizedLaws
import Derived.ChangeArms
import Derived.WideShapes
import Derived.WideWitness
import Derived.OpenShut
set_option linter.unusedVariables false
namespace Go.Proofs.YtagcobdpojeiiaaW.Opn
open Go.Proofs.YtagcobdpojeiiaaW.PrintWords Go.WideShapes
structure Opens (P : Program) (t : TypeId) {α : Type} (d : Kd α) (Ok : α → Prop) : Prop where
 cells : P.cellsOf t = d.sz
 heap : Kd.Heap d
 out : ∀ {H : Type} {enc : TypeId × Value → H} {w : World} {fuel : Nat} {cs : List Value} {dd : DataW H} {ps : List MemPlace},
  DataW.trod enc P w 0 (fun _ => true) true fuel t cs = some (dd, ps) → (∀ n ∈ dd.weights P t, n ≤ reachBytes) → ∃ x : α, d.K w x cs ∧ Ok x
section
variable {P : Program} {t e : TypeId} {α β γ : Type} {d : Kd α} {b : Kd β} {Ok : α → Prop} {OkB : β → Prop}
theorem opens_int {k : IntKind} (hu : P.underlying t = some (.int k)) (hc : P.cellsOf t = 1) : Opens P t (Kd.int k) (fun x => (Lit.int k x).wf = true) where
 cells := hc
 heap := Kd.heap_int k
 out := fun h _ => by
  obtain ⟨n, rfl, _, hw⟩ := DataW.trod_int hu h
  exact ⟨n, rfl, hw⟩
theorem opens_bool (hu : P.underlying t = some .bool) (hc : P.cellsOf t = 1) : Opens P t Kd.bool (fun _ => True) where
 cells := hc
 heap := Kd.heap_bool
 out := fun h _ => by
  obtain ⟨n, rfl, _⟩ := DataW.trod_bool hu h
  exact ⟨n, rfl, trivial⟩
theorem opens_string (hu : P.underlying t = some .string) (hc : P.cellsOf t = 1) : Opens P t Kd.string (fun x => x.size ≤ 140737488351232) where
 cells := hc
 heap := Kd.heap_string
 out := fun h hz => by
  obtain ⟨s, rfl, he, _⟩ := DataW.trod_string hu h
  cases he
  refine ⟨s, rfl, ?_⟩
  have := hz s.data.toList.length (by simp [DataW.weights])
  rwa [Array.length_toList] at this
theorem mapM_at {α β : Type} {f : α → Option β} : ∀ {l : List α} {r : List β}, l.mapM f = some r → r.length = l.length ∧ ∀ (j : Nat) (x : α) (y : β), l[j]? = some x → r[j]? = some y → f x = some y
 | [], r, h => by
  simp at h
  subst h
  exact ⟨rfl, fun j x y hx => by simp at hx⟩
 | a :: l, r, h => by
  rw [List.mapM_cons] at h
  simp only [Option.pure_def, Option.bind_eq_bind, Option.bind_eq_some_iff, Option.some.injEq] at h
  obtain ⟨y, hy, ys, hys, rfl⟩ := h
  obtain ⟨hl, ih⟩ := mapM_at hys
  refine ⟨by simp [hl], fun j x z hx hz => ?_⟩
  cases j with
  | zero => simp at hx hz; subst hx; subst hz; exact hy
  | succ j => exact ih j x z (by simpa using hx) (by simpa using hz)
theorem weightsAll_mem {H : Type} {P : Program} {e : TypeId} : ∀ {l : List (DataW H)} {x : DataW H}, x ∈ l → ∀ n ∈ x.weights P e, n ∈ DataW.weightsAll P e l
 | [], _, h, _, _ => by simp at h
 | y :: l, x, h, n, hn => by
  rw [DataW.weightsAll, List.mem_append]
  rcases List.mem_cons.1 h with rfl | h
  ·exact .inl hn
  ·exact .inr (weightsAll_mem h n hn)
theorem cells?_get {w : World} {base : Nat} {a : Addr} {n : Nat} {cs : List Value} (h : w.cells? base a n = some cs) : cs.length = n ∧ ∀ i u, cs[i]? = some u → w.cell? (a.add i) = some u := by
 unfold World.cells? at h
 split at h
 case isFalse => cases h
 obtain ⟨hl, hg⟩ := mapM_at h
 refine ⟨by simpa using hl, fun i u hu => ?_⟩
 have hi : i < n := by
  have := (List.getElem?_eq_some_iff.1 hu).1
  rw [hl] at this
  simpa using this
 exact hg i i u (by rw [List.getElem?_range hi]) hu
theorem choose_list {α : Type} {n : Nat} {p : Nat → α → Prop} (h : ∀ i, i < n → ∃ x, p i x) : ∃ xs : List α, xs.length = n ∧ ∀ (i : Nat) (x : α), xs[i]? = some x → p i x := by
 induction n with
 | zero => exact ⟨[], rfl, fun i x hx => by simp at hx⟩
 | succ n ih =>
  obtain ⟨xs, hl, hx⟩ := ih (fun i hi => h i (by omega))
  obtain ⟨x, hp⟩ := h n (by omega)
  refine ⟨xs ++ [x], by simp [hl], fun i y hy => ?_⟩
  rcases Nat.lt_or_ge i n with hi | hi
  ·rw [List.getElem?_append_left (by omega)] at hy
   exact hx i y hy
  ·have : i = n := by
    have := (List.getElem?_eq_some_iff.1 hy).1
    simp [hl] at this
    omega
   subst this
   rw [List.getElem?_append_right (by omega), hl, Nat.sub_self] at hy
   simp at hy
   subst hy
   exact hp
theorem opens_slice (hu : P.underlying t = some (.slice e)) (hc : P.cellsOf t = 1) (he : Opens P e d Ok) : Opens P t (Kd.slice e d) (fun xs => xs.length * P.bytesOf e ≤ 140737488351232 ∧ ∀ x ∈ xs, Ok x) where
 cells := hc
 heap := Kd.heap_slice e he.heap
 out := fun {H enc w fuel cs dd ps} h hz => by
  cases fuel with
  | zero => simp [DataW.trod] at h
  | succ fuel =>
   unfold DataW.trod at h
   rw [hu] at h
   split at h
   all_goals (first | (rename_i he; injection he with he; cases he) | skip)
   all_goals (try cases h)
   ·exact ⟨[], ⟨none, 0, rfl, Nat.le_refl _, Kd.C_nil d w⟩, by simp, by simp⟩
   ·rename_i a len cap
    split at h
    ·rename_i hb
     rw [Option.bind_eq_some_iff] at h
     obtain ⟨elems, hm, h⟩ := h
     rw [Option.map_eq_some_iff] at h
     obtain ⟨rest, hr, h⟩ := h
     injection h with hd hp
     subst hd
     obtain ⟨hl, hg⟩ := mapM_at hm
     simp only [List.length_range] at hl
     have hel : ∀ i, i < len → ∃ x : α, (∃ c, c.length = d.sz ∧ d.K w x c ∧ ∀ j u, c[j]? = some u → w.cell? (a.add (i * d.sz + j)) = some u) ∧ Ok x := by
      intro i hi
      have hi' : i < elems.length := by omega
      have h3 := hg i i _ (by rw [List.getElem?_range hi]) (List.getElem?_eq_getElem hi')
      rw [Option.bind_eq_some_iff] at h3
      obtain ⟨c, hcs, h3⟩ := h3
      obtain ⟨hcl, hcg⟩ := cells?_get hcs
      obtain ⟨x, hK, hok⟩ := he.out (dd := elems[i].1) (ps := elems[i].2) h3 (fun n hn => hz n (by
       simp only [DataW.weights, hu, List.mem_cons, List.mem_append]
       exact .inr (.inl (weightsAll_mem (List.mem_map.2 ⟨_, List.getElem_mem hi', rfl⟩) n hn))))
      refine ⟨x, ⟨c, by rw [hcl, he.cells], hK, fun j u hj => ?_⟩, hok⟩
      have h4 := hcg j u hj
      rw [he.cells] at h4
      rw [← h4]
      congr 1
      simp only [Addr.add]
      split <;> split <;> simp_all <;> (first | omega | (congr 1; omega) | (split <;> simp_all <;> omega))
     obtain ⟨xs, hxl, hxg⟩ := choose_list hel
     refine ⟨xs, ⟨some a, cap, by rw [hxl], by rw [hxl]; exact hb.2.1, ?_⟩, ?_, ?_⟩
     ·refine ⟨rfl, ?_, fun hn => ⟨a, rfl, fun j x hj => (hxg j x hj).1⟩⟩
      have := hb.2.1
      have := hb.2.2
      simp only [maxLen] at this
      omega
     ·have h5 := hz _ (by simp only [DataW.weights, hu]; exact List.mem_cons_self)
      simp only [List.length_map] at h5
      have h6 : xs.length * P.bytesOf e ≤ (elems.length + rest.length) * P.bytesOf e := Nat.mul_le_mul_right _ (by omega)
      exact Nat.le_trans h6 h5
     ·intro x hx
      obtain ⟨j, hj, rfl⟩ := List.getElem_of_mem hx
      exact (hxg j _ (List.getElem?_eq_getElem hj)).2
    ·cases h
structure OpensF (P : Program) (fs : List Field) (off : Nat) {α : Type} (d : Kd α) (Ok : α → Prop) : Prop where
 heap : Kd.Heap d
 out : ∀ {H : Type} {enc : TypeId × Value → H} {w : World} {fuel : Nat} {cs : List Value} {xs : List (DataW H × List MemPlace)}, cs.length = off + d.sz → xs.length = fs.length →
  (∀ (i : Nat) (f : Field), fs[i]? = some f → DataW.trod enc P w 0 (fun _ => true) true fuel f.type ((cs.drop f.offset).take (P.cellsOf f.type)) = xs[i]?) →
  (∀ n ∈ DataW.weightsEach P (fs.map (·.type)) (xs.map (·.1)), n ≤ reachBytes) → ∃ x : α, d.K w x (cs.drop off) ∧ Ok x
theorem opensF_last {f : Field} {off : Nat} (ho : f.offset = off) (h : Opens P f.type d Ok) : OpensF P [f] off d Ok where
 heap := h.heap
 out := fun {H enc w fuel cs xs} hl hn hm hz => by
  obtain ⟨y, rfl⟩ : ∃ y, xs = [y] := List.length_eq_one_iff.1 (by simpa using hn)
  have hy := hm 0 f rfl
  rw [ho, h.cells, List.take_of_length_le (by rw [List.length_drop]; omega)] at hy
  exact h.out (dd := y.1) (ps := y.2) hy (fun n hn => hz n (by simp [DataW.weightsEach, hn]))
theorem opensF_cons {f : Field} {fs : List Field} {off : Nat} (ho : f.offset = off) (h : Opens P f.type d Ok) (hf : OpensF P fs (off + d.sz) b OkB) : OpensF P (f :: fs) off (Kd.pair d b) (fun x => Ok x.1 ∧ OkB x.2) where
 heap := Kd.heap_pair h.heap hf.heap
 out := fun {H enc w fuel cs xs} hl hn hm hz => by
  have hl' : cs.length = off + d.sz + b.sz := by rw [hl]; show off + (d.sz + b.sz) = _; omega
  cases xs with
  | nil => simp at hn
  | cons y ys =>
   have hy := hm 0 f rfl
   rw [ho, h.cells] at hy
   obtain ⟨x, hK, hok⟩ := h.out (dd := y.1) (ps := y.2) hy (fun n hn => hz n (by simp [DataW.weightsEach, hn]))
   obtain ⟨z, hKz, hokz⟩ := hf.out (cs := cs) hl' (by simpa using hn) (fun i g hg => hm (i + 1) g hg) (fun n hn => hz n (by simp only [List.map_cons, DataW.weightsEach, List.mem_append]; exact .inr hn))
   refine ⟨(x, z), ⟨_, _, ?_, hK, hKz⟩, hok, hokz⟩
   rw [← List.drop_drop, List.take_append_drop]
theorem opens_struct {fs : Array Field} (f : β → α) (g : α → β) (hfg : ∀ x, f (g x) = x) (hu : P.underlying t = some (.struct fs)) (hc : P.cellsOf t = d.sz) (h : OpensF P fs.toList 0 d Ok) : Opens P t (Kd.iso d f) (fun y => Ok (f y)) where
 cells := hc
 heap := Kd.heap_iso f h.heap
 out := fun {H enc w fuel cs dd ps} hm hz => by
  obtain ⟨xs, n, rfl, he, hl, hn, hx⟩ := DataW.trod_struct hu hm
  injection he with hd hp
  subst hd
  obtain ⟨x, hK, hok⟩ := h.out (cs := cs) (by rw [hl, hc, Nat.zero_add]) (by simpa using hn) (fun i f hf => hx i f (by simpa using hf)) (fun n hn => hz n (by simp only [DataW.weights, hu]; exact hn))
  exact ⟨g x, by show d.K w (f (g x)) cs; rw [hfg]; exact hK, by rw [hfg]; exact hok⟩
structure OpensI (P : Program) (e : TypeId) (m i : Nat) {α : Type} (d : Kd α) (Ok : α → Prop) : Prop where
 heap : Kd.Heap d
 out : ∀ {H : Type} {enc : TypeId × Value → H} {w : World} {fuel : Nat} {cs : List Value} {xs : List (DataW H × List MemPlace)}, cs.length = i + d.sz → xs.length = m →
  (∀ j, j < m → DataW.trod enc P w 0 (fun _ => true) true fuel e ((cs.drop (i + j)).take 1) = xs[j]?) →
  (∀ n ∈ DataW.weightsAll P e (xs.map (·.1)), n ≤ reachBytes) → ∃ x : α, d.K w x (cs.drop i) ∧ Ok x
theorem opensI_last {i : Nat} (h : Opens P e d Ok) (h1 : d.sz = 1) : OpensI P e 1 i d Ok where
 heap := h.heap
 out := fun {H enc w fuel cs xs} hl hn hm hz => by
  obtain ⟨y, rfl⟩ : ∃ y, xs = [y] := List.length_eq_one_iff.1 hn
  have hy := hm 0 (by omega)
  rw [Nat.add_zero, List.take_of_length_le (by rw [List.length_drop]; omega)] at hy
  exact h.out (dd := y.1) (ps := y.2) hy (fun n hn => hz n (by simp [DataW.weightsAll, hn]))
theorem opensI_cons {i m : Nat} (h : Opens P e d Ok) (h1 : d.sz = 1) (hf : OpensI P e m (i + 1) b OkB) : OpensI P e (m + 1) i (Kd.pair d b) (fun x => Ok x.1 ∧ OkB x.2) where
 heap := Kd.heap_pair h.heap hf.heap
 out := fun {H enc w fuel cs xs} hl hn hm hz => by
  have hl' : cs.length = i + 1 + b.sz := by rw [hl]; show i + (d.sz + b.sz) = _; omega
  cases xs with
  | nil => simp at hn
  | cons y ys =>
   have hy := hm 0 (by omega)
   rw [Nat.add_zero] at hy
   obtain ⟨x, hK, hok⟩ := h.out (dd := y.1) (ps := y.2) hy (fun n hn => hz n (by simp [DataW.weightsAll, hn]))
   obtain ⟨z, hKz, hokz⟩ := hf.out (cs := cs) hl' (by simpa using hn) (fun j hj => by have := hm (j + 1) (by omega); rwa [show i + (j + 1) = i + 1 + j from by omega] at this) (fun n hn => hz n (by simp only [List.map_cons, DataW.weightsAll, List.mem_append]; exact .inr hn))
   refine ⟨(x, z), ⟨_, _, ?_, hK, hKz⟩, hok, hokz⟩
   rw [← List.drop_drop, List.take_append_drop]
theorem opens_array {n : Nat} (f : β → α) (g : α → β) (hfg : ∀ x, f (g x) = x) (hu : P.underlying t = some (.array n e)) (hc : P.cellsOf t = d.sz) (hce : P.cellsOf e = 1) (h : OpensI P e n 0 d Ok) : Opens P t (Kd.iso d f) (fun y => Ok (f y)) where
 cells := hc
 heap := Kd.heap_iso f h.heap
 out := fun {H enc w fuel cs dd ps} hm hz => by
  obtain ⟨xs, m, rfl, he, hl, hn, hx⟩ := DataW.trod_array hu hm
  injection he with hd hp
  subst hd
  obtain ⟨x, hK, hok⟩ := h.out (cs := cs) (by rw [hl, hc, Nat.zero_add]) hn (fuel := m) (fun j hj => by have := hx j hj; rw [hce, Nat.mul_one] at this; rw [Nat.zero_add]; exact this) (fun n hn => hz n (by simp only [DataW.weights, hu]; exact hn))
  exact ⟨g x, by show d.K w (f (g x)) cs; rw [hfg]; exact hK, by rw [hfg]; exact hok⟩
theorem Opens.imp {Ok' : α → Prop} (h : Opens P t d Ok) (hi : ∀ x, Ok x → Ok' x) : Opens P t d Ok' := ⟨h.cells, h.heap, fun hm hz => by obtain ⟨x, hK, hok⟩ := h.out hm hz; exact ⟨x, hK, hi x hok⟩⟩
theorem agg_struct {w : World} {base : Nat} {fs : Array Field} {v : Value} (hu : P.underlying t = some (.struct fs)) (h : Value.okWide P w .any base t v) : ∃ cs, v = .agg cs := by
 simp only [Value.okWide, hu] at h
 obtain ⟨cs, rfl, _⟩ := h
 exact ⟨cs, rfl⟩
theorem agg_array {w : World} {base n : Nat} {v : Value} (hu : P.underlying t = some (.array n e)) (h : Value.okWide P w .any base t v) : ∃ cs, v = .agg cs := by
 simp only [Value.okWide, hu] at h
 obtain ⟨cs, rfl, _⟩ := h
 exact ⟨cs, rfl⟩
theorem arg_agg {H : Type} {enc : TypeId × Value → H} {w : World} {v : Value} {dd : DataW H} {ps : List MemPlace} (hO : Opens P t d Ok) (hs : ∃ cs, v = .agg cs) (h : DataW.Trod enc P w 0 (fun _ => true) true t v dd ps) (hz : ∀ n ∈ dd.weights P t, n ≤ reachBytes) : ∃ x cs, v = .agg cs ∧ d.K w x cs.toList ∧ Ok x := by
 obtain ⟨cs, rfl⟩ := hs
 obtain ⟨fuel, hf⟩ := h
 obtain ⟨x, hK, hok⟩ := hO.out hf hz
 exact ⟨x, cs, rfl, hK, hok⟩
theorem arg_slice {H : Type} {enc : TypeId × Value → H} {w : World} {base : Nat} {v : Value} {dd : DataW H} {ps : List MemPlace} {OkL : List α → Prop} (hO : Opens P t (Kd.slice e d) OkL) (hu : P.underlying t = some (.slice e)) (hv : Value.okWide P w .any base t v) (h : DataW.Trod enc P w 0 (fun _ => true) true t v dd ps) (hz : ∀ n ∈ dd.weights P t, n ≤ reachBytes) :
  ∃ (xs : List α) (A : Option Addr) (c : Nat), v = .slice A xs.length c ∧ xs.length ≤ c ∧ d.C w A xs.length xs ∧ OkL xs := by
 obtain ⟨a, len, cap, rfl⟩ := okWide_slice hu hv
 obtain ⟨fuel, hf⟩ := h
 obtain ⟨x, ⟨A, c, he, hl, hC⟩, hok⟩ := hO.out hf hz
 have he' : Value.slice a len cap = .slice A x.length c := by simpa [Value.cells] using he
 exact ⟨x, A, c, he', hl, hC, hok⟩
theorem came_F (hd : Kd.Heap d) {w : World} {A : Option Addr} {n : Nat} {xs : List α} (h : d.C w A n xs) : Kd.F d w (fun _ => True) A n xs := fun _ hW => hd.C (fun k hk => hW k trivial hk) h
theorem came_V (hd : Kd.Heap d) {w : World} {A : Option Addr} {c : Nat} {xs : List α} (hl : xs.length ≤ c) (h : d.C w A xs.length xs) : Kd.V d e w w.heap.size (fun _ => True) (.slice A xs.length c) xs := Kd.V_mk hl (came_F hd h)
theorem slice_V (hd : Kd.Heap d) {w : World} {A : Option Addr} {c : Nat} {xs : List α} {okP : Nat → Prop} (hp : ∀ k, okP k) (hl : xs.length ≤ c) (h : d.C w A xs.length xs) : Kd.V d e w w.heap.size okP (.slice A xs.length c) xs := Kd.V_mono (came_V hd hl h) (fun k _ => hp k)
theorem toList_eq {cs : Array Value} {l : List Value} (h : cs.toList = l) : cs = l.toArray := by rw [← h]
end
end Go.Proofs.YtagcobdpojeiiaaW.Opn
