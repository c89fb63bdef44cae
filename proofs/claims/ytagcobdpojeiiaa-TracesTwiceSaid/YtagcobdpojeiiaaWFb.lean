import Derived.Test.YtagcobdpojeiiaaWMore
set_option linter.unusedVariables false
namespace Go.Proofs.YtagcobdpojeiiaaW.Fb
open Go.RowKit Go.Proofs.YtagcobdpojeiiaaW.PrintWords Go.Proofs.YtagcobdpojeiiaaW.PrintMore
theorem cell_gone {W : World} {g : Nat} {a : Addr} (h : a.block = g) : ({ W with heap := W.heap.setIfInBounds g (.cells #[] 0 (0, 0)) } : World).cell? a = none := by
 obtain ⟨b, o, s⟩ := a
 subst h
 simp only [World.cell?]
 by_cases hb : b < W.heap.size
 ·simp [hb]
 ·have : W.heap.size ≤ b := by omega
  simp [hb]
theorem V_ok {α : Type} {d : Kd α} {e : Nat} {W : World} {base : Nat} {ok : Nat → Prop} {ad : Addr} {n c : Nat} {xs : List α} (h : Kd.V d e W base ok (.slice (some ad) n c) xs) (hsz : 0 < d.sz) (hn : 0 < n) : ok ad.block := by
 apply Classical.byContradiction
 intro hno
 have hF := Kd.V_F h
 have hC := hF ({ W with heap := W.heap.setIfInBounds ad.block (.cells #[] 0 (0, 0)) } : World) (fun k hk hlt => by
  show (W.heap.setIfInBounds ad.block _)[k]? = W.heap[k]?
  rw [Array.getElem?_setIfInBounds_ne]
  intro he
  exact hno (he ▸ hk))
 have hxl := Kd.F_len hF
 obtain ⟨z⟩ : Nonempty α := ⟨xs[0]'(by omega)⟩
 obtain ⟨ad', cs, e', hl, _, hcs⟩ := Kd.C_get hC z 0 (Int.le_refl 0) (by omega)
 cases e'
 have h1 := hcs 0 _ (List.getElem?_eq_getElem (by omega))
 rw [cell_gone (add_block _ _)] at h1
 cases h1
end Go.Proofs.YtagcobdpojeiiaaW.Fb
