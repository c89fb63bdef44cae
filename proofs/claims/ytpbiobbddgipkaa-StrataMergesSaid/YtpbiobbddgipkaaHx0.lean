import Derived.Test.YtpbiobbddgipkaaProg
import Derived.Lib.SliceRun
import Derived.Lib.Bytealg
import Derived.Lib.Overlaps
import Derived.Lib.AppendZerosOnto
import Derived.Deep.RegionLaw
import Derived.Test.YtpbiobbddgipkaaWWords
namespace Go.Proofs.Ytpbiobbddgipkaa.H
open Go.RowKit Go.Proofs.YtpbiobbddgipkaaW.PrintWords Go.Proofs.YtpbiobbddgipkaaW.PrintLast Go.Proofs.YtpbiobbddgipkaaW.PrintMore Go.Proofs.YtpbiobbddgipkaaW.Sq
attribute [local go_sem] max2_int min2_int max_two min_two max_three min_three max_four min_four
set_option linter.unusedVariables false
set_option linter.unusedSimpArgs false
def errW : Option Int → Value
 | none => .nilIface
 | some c => .iface 0 (.int .i64 c)
theorem errW_none : errW none = .nilIface := rfl
theorem errW_some (c : Int) : errW (some c) = .iface 0 (.int .i64 c) := rfl

theorem info9 : (Try.prog.info? 9).map (fun i => (i.zero, i.size, i.bytes)) = some (some (.string ⟨#[]⟩), 1, 16) := by kernel_rfl
theorem info65 : (Try.prog.info? 65).map (fun i => (i.zero, i.size, i.bytes)) = some (some (.agg #[(.int .u64 0), (.int .u64 0)]), 2, 16) := by kernel_rfl
theorem info68 : (Try.prog.info? 68).map (fun i => (i.zero, i.size, i.bytes)) = some (some (.agg #[(.string ⟨#[]⟩), (.int .u64 0), (.int .u64 0), (.int .u64 0)]), 4, 40) := by kernel_rfl
theorem info77 : (Try.prog.info? 77).map (fun i => (i.zero, i.size, i.bytes)) = some (some (.agg #[(.string ⟨#[]⟩), (.int .u64 0), (.int .u64 0), (.int .u64 0), (.int .i64 0), (.slice none 0 0)]), 6, 72) := by kernel_rfl
structure S24 where
 f0 : Int
 f1 : Int
def z24 : S24 := ⟨(0 : Int), (0 : Int)⟩
def k24 : Kd S24 := Kd.iso (Kd.pair (Kd.int .u64) (Kd.int .u64)) (fun x : S24 => (x.f0, x.f1))
theorem k24_heap : Kd.Heap k24 := Kd.heap_iso _ (Kd.heap_pair (Kd.heap_int .u64) (Kd.heap_int .u64))
theorem k24_open {w : World} {x : S24} {cs : List Value} (h : k24.K w x cs) : cs = [.int .u64 x.f0, .int .u64 x.f1] := by
 obtain ⟨_, _, rfl, rfl, rfl⟩ := h;exact rfl
theorem k24_mk (w : World) (x : S24)  : k24.K w x [.int .u64 x.f0, .int .u64 x.f1] := ⟨[.int .u64 x.f0], [.int .u64 x.f1], rfl, rfl, rfl⟩
theorem k24_mkM (w : World) (base : Nat) (ok : Nat → Prop) (x : S24)  : k24.M w base ok x [.int .u64 x.f0, .int .u64 x.f1] := ⟨[.int .u64 x.f0], [.int .u64 x.f1], rfl, rfl, rfl⟩
structure S65 where
 f0 : Int
 f1 : Int
def z65 : S65 := ⟨(0 : Int), (0 : Int)⟩
def k65 : Kd S65 := Kd.iso (Kd.pair (Kd.int .u64) (Kd.int .u64)) (fun x : S65 => (x.f0, x.f1))
theorem k65_heap : Kd.Heap k65 := Kd.heap_iso _ (Kd.heap_pair (Kd.heap_int .u64) (Kd.heap_int .u64))
theorem k65_open {w : World} {x : S65} {cs : List Value} (h : k65.K w x cs) : cs = [.int .u64 x.f0, .int .u64 x.f1] := by
 obtain ⟨_, _, rfl, rfl, rfl⟩ := h;exact rfl
theorem k65_openM {w : World} {base : Nat} {ok : Nat → Prop} {x : S65} {cs : List Value} (h : k65.M w base ok x cs) : cs = [.int .u64 x.f0, .int .u64 x.f1] := by
 obtain ⟨_, _, rfl, rfl, rfl⟩ := h;exact rfl
theorem k65_mkM (w : World) (base : Nat) (ok : Nat → Prop) (x : S65)  : k65.M w base ok x [.int .u64 x.f0, .int .u64 x.f1] := ⟨[.int .u64 x.f0], [.int .u64 x.f1], rfl, rfl, rfl⟩
def rd_T65 (xs : List S65) (i : Int) : S65 := xs.getD i.toNat z65
theorem at_T65 {w : World} {A : Option Addr} {n : Nat} {xs : List S65} (h : Kd.C k65 w A n xs) (i : Int) (h0 : 0 ≤ i) (h1 : i < n) : ∃ ad , A = some ad ∧ w.cell? (ad.add (i.toNat * 2)) = some (.int .u64 (rd_T65 xs i).f0) ∧ w.cell? ⟨(ad.add (i.toNat * 2)).block, (ad.add (i.toNat * 2)).off + 1, none⟩ = some (.int .u64 (rd_T65 xs i).f1) := by
 obtain ⟨ad, c, e, _, hK, hc0⟩ := Kd.C_get h z65 i h0 h1;have hc : ∀ j u, c[j]? = some u → w.cell? (ad.add (i.toNat * 2 + j)) = some u := hc0;obtain rfl := k65_open hK;exact ⟨ad, e, hc 0 _ rfl, by rw [← add_field _ _ 1 (by omega)]; exact hc 1 _ rfl⟩

structure S87 where
 f0 : ByteArray
 f1 : Int
 f2 : S65
def z87 : S87 := ⟨(⟨#[]⟩ : ByteArray), (0 : Int), z65⟩
def k87 : Kd S87 := Kd.iso (Kd.pair Kd.string (Kd.pair (Kd.int .u64) k65)) (fun x : S87 => (x.f0, x.f1, x.f2))
theorem k87_heap : Kd.Heap k87 := Kd.heap_iso _ (Kd.heap_pair Kd.heap_string (Kd.heap_pair (Kd.heap_int .u64) k65_heap))
theorem k87_open {w : World} {x : S87} {cs : List Value} (h : k87.K w x cs) : cs = [.string x.f0, .int .u64 x.f1, .int .u64 x.f2.f0, .int .u64 x.f2.f1] := by
 obtain ⟨_, _, rfl, rfl, ⟨_, _, rfl, rfl, s2⟩⟩ := h;obtain rfl := k65_open s2;exact rfl
theorem k87_openM {w : World} {base : Nat} {ok : Nat → Prop} {x : S87} {cs : List Value} (h : k87.M w base ok x cs) : cs = [.string x.f0, .int .u64 x.f1, .int .u64 x.f2.f0, .int .u64 x.f2.f1] := by
 obtain ⟨_, _, rfl, rfl, ⟨_, _, rfl, rfl, s2⟩⟩ := h;obtain rfl := k65_openM s2;exact rfl
theorem k87_mkM (w : World) (base : Nat) (ok : Nat → Prop) (x : S87)  : k87.M w base ok x [.string x.f0, .int .u64 x.f1, .int .u64 x.f2.f0, .int .u64 x.f2.f1] := ⟨[.string x.f0], [.int .u64 x.f1, .int .u64 x.f2.f0, .int .u64 x.f2.f1], rfl, rfl, ⟨[.int .u64 x.f1], [.int .u64 x.f2.f0, .int .u64 x.f2.f1], rfl, rfl, (k65_mkM w base ok x.f2 )⟩⟩
def rd_T87 (xs : List S87) (i : Int) : S87 := xs.getD i.toNat z87
theorem at_T87 {w : World} {A : Option Addr} {n : Nat} {xs : List S87} (h : Kd.C k87 w A n xs) (i : Int) (h0 : 0 ≤ i) (h1 : i < n) : ∃ ad , A = some ad ∧ w.cell? (ad.add (i.toNat * 4)) = some (.string (rd_T87 xs i).f0) ∧ w.cell? ⟨(ad.add (i.toNat * 4)).block, (ad.add (i.toNat * 4)).off + 1, none⟩ = some (.int .u64 (rd_T87 xs i).f1) ∧ w.cell? ⟨(ad.add (i.toNat * 4)).block, (ad.add (i.toNat * 4)).off + 2, none⟩ = some (.int .u64 (rd_T87 xs i).f2.f0) ∧ w.cell? ⟨(ad.add (i.toNat * 4)).block, (ad.add (i.toNat * 4)).off + 3, none⟩ = some (.int .u64 (rd_T87 xs i).f2.f1) := by
 obtain ⟨ad, c, e, _, hK, hc0⟩ := Kd.C_get h z87 i h0 h1;have hc : ∀ j u, c[j]? = some u → w.cell? (ad.add (i.toNat * 4 + j)) = some u := hc0;obtain rfl := k87_open hK;exact ⟨ad, e, hc 0 _ rfl, by rw [← add_field _ _ 1 (by omega)]; exact hc 1 _ rfl, by rw [← add_field _ _ 2 (by omega)]; exact hc 2 _ rfl, by rw [← add_field _ _ 3 (by omega)]; exact hc 3 _ rfl⟩

structure S40 where
 f0 : S24
 f1 : Int
 f2 : (List S87)
def z40 : S40 := ⟨z24, (0 : Int), ([] : List S87)⟩
def k40 : Kd S40 := Kd.iso (Kd.pair k24 (Kd.pair (Kd.int .i64) (Kd.slice 87 k87))) (fun x : S40 => (x.f0, x.f1, x.f2))
theorem k40_heap : Kd.Heap k40 := Kd.heap_iso _ (Kd.heap_pair k24_heap (Kd.heap_pair (Kd.heap_int .i64) (Kd.heap_slice 87 k87_heap)))
theorem k40_open {w : World} {x : S40} {cs : List Value} (h : k40.K w x cs) : ∃ A3 c3, cs = [.int .u64 x.f0.f0, .int .u64 x.f0.f1, .int .i64 x.f1, .slice A3 x.f2.length c3] ∧ x.f2.length ≤ c3 ∧ k87.C w A3 x.f2.length x.f2 := by
 obtain ⟨_, _, rfl, s0, ⟨_, _, rfl, rfl, ⟨A3, c3, rfl, l3, g3⟩⟩⟩ := h;obtain rfl := k24_open s0;exact ⟨A3, c3, rfl, l3, g3⟩
theorem k40_mk (w : World) (x : S40) {A3 : Option Addr} {c3 : Nat} (l3 : x.f2.length ≤ c3) (g3 : k87.C w A3 x.f2.length x.f2) : k40.K w x [.int .u64 x.f0.f0, .int .u64 x.f0.f1, .int .i64 x.f1, .slice A3 x.f2.length c3] := ⟨[.int .u64 x.f0.f0, .int .u64 x.f0.f1], [.int .i64 x.f1, .slice A3 x.f2.length c3], rfl, (k24_mk w x.f0 ), ⟨[.int .i64 x.f1], [.slice A3 x.f2.length c3], rfl, rfl, ⟨A3, c3, rfl, l3, g3⟩⟩⟩
structure S42 where
 f0 : ByteArray
 f1 : Int
 f2 : S40
def z42 : S42 := ⟨(⟨#[]⟩ : ByteArray), (0 : Int), z40⟩
def k42 : Kd S42 := Kd.iso (Kd.pair Kd.string (Kd.pair (Kd.int .u64) k40)) (fun x : S42 => (x.f0, x.f1, x.f2))
theorem k42_heap : Kd.Heap k42 := Kd.heap_iso _ (Kd.heap_pair Kd.heap_string (Kd.heap_pair (Kd.heap_int .u64) k40_heap))
theorem k42_open {w : World} {x : S42} {cs : List Value} (h : k42.K w x cs) : ∃ A5 c5, cs = [.string x.f0, .int .u64 x.f1, .int .u64 x.f2.f0.f0, .int .u64 x.f2.f0.f1, .int .i64 x.f2.f1, .slice A5 x.f2.f2.length c5] ∧ x.f2.f2.length ≤ c5 ∧ k87.C w A5 x.f2.f2.length x.f2.f2 := by
 obtain ⟨_, _, rfl, rfl, ⟨_, _, rfl, rfl, s2⟩⟩ := h;obtain ⟨A5, c5, rfl, l5, g5⟩ := k40_open s2;exact ⟨A5, c5, rfl, l5, g5⟩
theorem k42_mk (w : World) (x : S42) {A5 : Option Addr} {c5 : Nat} (l5 : x.f2.f2.length ≤ c5) (g5 : k87.C w A5 x.f2.f2.length x.f2.f2) : k42.K w x [.string x.f0, .int .u64 x.f1, .int .u64 x.f2.f0.f0, .int .u64 x.f2.f0.f1, .int .i64 x.f2.f1, .slice A5 x.f2.f2.length c5] := ⟨[.string x.f0], [.int .u64 x.f1, .int .u64 x.f2.f0.f0, .int .u64 x.f2.f0.f1, .int .i64 x.f2.f1, .slice A5 x.f2.f2.length c5], rfl, rfl, ⟨[.int .u64 x.f1], [.int .u64 x.f2.f0.f0, .int .u64 x.f2.f0.f1, .int .i64 x.f2.f1, .slice A5 x.f2.f2.length c5], rfl, rfl, (k40_mk w x.f2 l5 g5)⟩⟩
theorem k42_openF {W : World} {ok : Nat → Prop} {x : S42} {cs : List Value} (h : Kd.FK k42 W ok x cs) : ∃ A5 c5, cs = [.string x.f0, .int .u64 x.f1, .int .u64 x.f2.f0.f0, .int .u64 x.f2.f0.f1, .int .i64 x.f2.f1, .slice A5 x.f2.f2.length c5] ∧ x.f2.f2.length ≤ c5 ∧ Kd.F k87 W ok A5 x.f2.f2.length x.f2.f2 := by
 obtain ⟨A5, c5, rfl, l5, _⟩ := k42_open (Kd.FK_now h);exact ⟨A5, c5, rfl, l5, (fun W' hW => by obtain ⟨A5_, c5_, he, l5_, g5_⟩ := k42_open (h W' hW); injection (Option.some.inj (show some (Value.slice A5 x.f2.f2.length c5) = some (Value.slice A5_ x.f2.f2.length c5_) from congrArg (fun l => l[5]?) he)) with ha_ _ _; rw [ha_]; exact g5_)⟩
theorem k42_mkF (W : World) (ok : Nat → Prop) (x : S42) {A5 : Option Addr} {c5 : Nat} (l5 : x.f2.f2.length ≤ c5) (g5 : Kd.F k87 W ok A5 x.f2.f2.length x.f2.f2) : Kd.FK k42 W ok x [.string x.f0, .int .u64 x.f1, .int .u64 x.f2.f0.f0, .int .u64 x.f2.f0.f1, .int .i64 x.f2.f1, .slice A5 x.f2.f2.length c5] := fun W2 hW => k42_mk W2 x l5 (g5 W2 hW)
def rd_T42 (xs : List S42) (i : Int) : S42 := xs.getD i.toNat z42
theorem at_T42 {w : World} {A : Option Addr} {n : Nat} {xs : List S42} (h : Kd.C k42 w A n xs) (i : Int) (h0 : 0 ≤ i) (h1 : i < n) : ∃ ad A5 c5, A = some ad ∧ w.cell? (ad.add (i.toNat * 6)) = some (.string (rd_T42 xs i).f0) ∧ w.cell? ⟨(ad.add (i.toNat * 6)).block, (ad.add (i.toNat * 6)).off + 1, none⟩ = some (.int .u64 (rd_T42 xs i).f1) ∧ w.cell? ⟨(ad.add (i.toNat * 6)).block, (ad.add (i.toNat * 6)).off + 2, none⟩ = some (.int .u64 (rd_T42 xs i).f2.f0.f0) ∧ w.cell? ⟨(ad.add (i.toNat * 6)).block, (ad.add (i.toNat * 6)).off + 3, none⟩ = some (.int .u64 (rd_T42 xs i).f2.f0.f1) ∧ w.cell? ⟨(ad.add (i.toNat * 6)).block, (ad.add (i.toNat * 6)).off + 4, none⟩ = some (.int .i64 (rd_T42 xs i).f2.f1) ∧ w.cell? ⟨(ad.add (i.toNat * 6)).block, (ad.add (i.toNat * 6)).off + 5, none⟩ = some (.slice A5 (rd_T42 xs i).f2.f2.length c5) ∧ (rd_T42 xs i).f2.f2.length ≤ c5 ∧ k87.C w A5 (rd_T42 xs i).f2.f2.length (rd_T42 xs i).f2.f2 := by
 obtain ⟨ad, c, e, _, hK, hc0⟩ := Kd.C_get h z42 i h0 h1;have hc : ∀ j u, c[j]? = some u → w.cell? (ad.add (i.toNat * 6 + j)) = some u := hc0;obtain ⟨A5, c5, rfl, l5, g5⟩ := k42_open hK;exact ⟨ad, A5, c5, e, hc 0 _ rfl, by rw [← add_field _ _ 1 (by omega)]; exact hc 1 _ rfl, by rw [← add_field _ _ 2 (by omega)]; exact hc 2 _ rfl, by rw [← add_field _ _ 3 (by omega)]; exact hc 3 _ rfl, by rw [← add_field _ _ 4 (by omega)]; exact hc 4 _ rfl, by rw [← add_field _ _ 5 (by omega)]; exact hc 5 _ rfl, l5, g5⟩

structure S28 where
 f0 : S24
 f1 : Int
 f2 : Int
 f3 : (List S42)
def k28 : Kd S28 := Kd.iso (Kd.pair k24 (Kd.pair (Kd.int .i64) (Kd.pair (Kd.int .i64) (Kd.slice 42 k42)))) (fun x : S28 => (x.f0, x.f1, x.f2, x.f3))
theorem k28_open {w : World} {x : S28} {cs : List Value} (h : k28.K w x cs) : ∃ A4 c4, cs = [.int .u64 x.f0.f0, .int .u64 x.f0.f1, .int .i64 x.f1, .int .i64 x.f2, .slice A4 x.f3.length c4] ∧ x.f3.length ≤ c4 ∧ k42.C w A4 x.f3.length x.f3 := by
 obtain ⟨_, _, rfl, s0, ⟨_, _, rfl, rfl, ⟨_, _, rfl, rfl, ⟨A4, c4, rfl, l4, g4⟩⟩⟩⟩ := h;obtain rfl := k24_open s0;exact ⟨A4, c4, rfl, l4, g4⟩
structure S68 where
 f0 : ByteArray
 f1 : Int
 f2 : S65
def z68 : S68 := ⟨(⟨#[]⟩ : ByteArray), (0 : Int), z65⟩
def k68 : Kd S68 := Kd.iso (Kd.pair Kd.string (Kd.pair (Kd.int .u64) k65)) (fun x : S68 => (x.f0, x.f1, x.f2))
theorem k68_open {w : World} {x : S68} {cs : List Value} (h : k68.K w x cs) : cs = [.string x.f0, .int .u64 x.f1, .int .u64 x.f2.f0, .int .u64 x.f2.f1] := by
 obtain ⟨_, _, rfl, rfl, ⟨_, _, rfl, rfl, s2⟩⟩ := h;obtain rfl := k65_open s2;exact rfl
theorem k68_openM {w : World} {base : Nat} {ok : Nat → Prop} {x : S68} {cs : List Value} (h : k68.M w base ok x cs) : cs = [.string x.f0, .int .u64 x.f1, .int .u64 x.f2.f0, .int .u64 x.f2.f1] := by
 obtain ⟨_, _, rfl, rfl, ⟨_, _, rfl, rfl, s2⟩⟩ := h;obtain rfl := k65_openM s2;exact rfl
theorem k68_mkM (w : World) (base : Nat) (ok : Nat → Prop) (x : S68)  : k68.M w base ok x [.string x.f0, .int .u64 x.f1, .int .u64 x.f2.f0, .int .u64 x.f2.f1] := ⟨[.string x.f0], [.int .u64 x.f1, .int .u64 x.f2.f0, .int .u64 x.f2.f1], rfl, rfl, ⟨[.int .u64 x.f1], [.int .u64 x.f2.f0, .int .u64 x.f2.f1], rfl, rfl, (k65_mkM w base ok x.f2 )⟩⟩
def rd_T68 (xs : List S68) (i : Int) : S68 := xs.getD i.toNat z68
theorem at_T68 {w : World} {A : Option Addr} {n : Nat} {xs : List S68} (h : Kd.C k68 w A n xs) (i : Int) (h0 : 0 ≤ i) (h1 : i < n) : ∃ ad , A = some ad ∧ w.cell? (ad.add (i.toNat * 4)) = some (.string (rd_T68 xs i).f0) ∧ w.cell? ⟨(ad.add (i.toNat * 4)).block, (ad.add (i.toNat * 4)).off + 1, none⟩ = some (.int .u64 (rd_T68 xs i).f1) ∧ w.cell? ⟨(ad.add (i.toNat * 4)).block, (ad.add (i.toNat * 4)).off + 2, none⟩ = some (.int .u64 (rd_T68 xs i).f2.f0) ∧ w.cell? ⟨(ad.add (i.toNat * 4)).block, (ad.add (i.toNat * 4)).off + 3, none⟩ = some (.int .u64 (rd_T68 xs i).f2.f1) := by
 obtain ⟨ad, c, e, _, hK, hc0⟩ := Kd.C_get h z68 i h0 h1;have hc : ∀ j u, c[j]? = some u → w.cell? (ad.add (i.toNat * 4 + j)) = some u := hc0;obtain rfl := k68_open hK;exact ⟨ad, e, hc 0 _ rfl, by rw [← add_field _ _ 1 (by omega)]; exact hc 1 _ rfl, by rw [← add_field _ _ 2 (by omega)]; exact hc 2 _ rfl, by rw [← add_field _ _ 3 (by omega)]; exact hc 3 _ rfl⟩

structure S60 where
 f0 : S24
 f1 : Int
 f2 : (List S68)
def z60 : S60 := ⟨z24, (0 : Int), ([] : List S68)⟩
def k60 : Kd S60 := Kd.iso (Kd.pair k24 (Kd.pair (Kd.int .i64) (Kd.slice 68 k68))) (fun x : S60 => (x.f0, x.f1, x.f2))
theorem k60_open {w : World} {x : S60} {cs : List Value} (h : k60.K w x cs) : ∃ A3 c3, cs = [.int .u64 x.f0.f0, .int .u64 x.f0.f1, .int .i64 x.f1, .slice A3 x.f2.length c3] ∧ x.f2.length ≤ c3 ∧ k68.C w A3 x.f2.length x.f2 := by
 obtain ⟨_, _, rfl, s0, ⟨_, _, rfl, rfl, ⟨A3, c3, rfl, l3, g3⟩⟩⟩ := h;obtain rfl := k24_open s0;exact ⟨A3, c3, rfl, l3, g3⟩
theorem k60_mk (w : World) (x : S60) {A3 : Option Addr} {c3 : Nat} (l3 : x.f2.length ≤ c3) (g3 : k68.C w A3 x.f2.length x.f2) : k60.K w x [.int .u64 x.f0.f0, .int .u64 x.f0.f1, .int .i64 x.f1, .slice A3 x.f2.length c3] := ⟨[.int .u64 x.f0.f0, .int .u64 x.f0.f1], [.int .i64 x.f1, .slice A3 x.f2.length c3], rfl, (k24_mk w x.f0 ), ⟨[.int .i64 x.f1], [.slice A3 x.f2.length c3], rfl, rfl, ⟨A3, c3, rfl, l3, g3⟩⟩⟩
theorem k60_mkM (w : World) (base : Nat) (ok : Nat → Prop) (x : S60) {v3 : Value} (g3 : k68.R 68 w base ok v3 x.f2) : k60.M w base ok x [.int .u64 x.f0.f0, .int .u64 x.f0.f1, .int .i64 x.f1, v3] := ⟨[.int .u64 x.f0.f0, .int .u64 x.f0.f1], [.int .i64 x.f1, v3], rfl, (k24_mkM w base ok x.f0 ), ⟨[.int .i64 x.f1], [v3], rfl, rfl, ⟨v3, rfl, g3⟩⟩⟩
structure S77 where
 f0 : ByteArray
 f1 : Int
 f2 : S60
def z77 : S77 := ⟨(⟨#[]⟩ : ByteArray), (0 : Int), z60⟩
def k77 : Kd S77 := Kd.iso (Kd.pair Kd.string (Kd.pair (Kd.int .u64) k60)) (fun x : S77 => (x.f0, x.f1, x.f2))
theorem k77_open {w : World} {x : S77} {cs : List Value} (h : k77.K w x cs) : ∃ A5 c5, cs = [.string x.f0, .int .u64 x.f1, .int .u64 x.f2.f0.f0, .int .u64 x.f2.f0.f1, .int .i64 x.f2.f1, .slice A5 x.f2.f2.length c5] ∧ x.f2.f2.length ≤ c5 ∧ k68.C w A5 x.f2.f2.length x.f2.f2 := by
 obtain ⟨_, _, rfl, rfl, ⟨_, _, rfl, rfl, s2⟩⟩ := h;obtain ⟨A5, c5, rfl, l5, g5⟩ := k60_open s2;exact ⟨A5, c5, rfl, l5, g5⟩
theorem k77_mk (w : World) (x : S77) {A5 : Option Addr} {c5 : Nat} (l5 : x.f2.f2.length ≤ c5) (g5 : k68.C w A5 x.f2.f2.length x.f2.f2) : k77.K w x [.string x.f0, .int .u64 x.f1, .int .u64 x.f2.f0.f0, .int .u64 x.f2.f0.f1, .int .i64 x.f2.f1, .slice A5 x.f2.f2.length c5] := ⟨[.string x.f0], [.int .u64 x.f1, .int .u64 x.f2.f0.f0, .int .u64 x.f2.f0.f1, .int .i64 x.f2.f1, .slice A5 x.f2.f2.length c5], rfl, rfl, ⟨[.int .u64 x.f1], [.int .u64 x.f2.f0.f0, .int .u64 x.f2.f0.f1, .int .i64 x.f2.f1, .slice A5 x.f2.f2.length c5], rfl, rfl, (k60_mk w x.f2 l5 g5)⟩⟩
theorem k77_mkM (w : World) (base : Nat) (ok : Nat → Prop) (x : S77) {v5 : Value} (g5 : k68.R 68 w base ok v5 x.f2.f2) : k77.M w base ok x [.string x.f0, .int .u64 x.f1, .int .u64 x.f2.f0.f0, .int .u64 x.f2.f0.f1, .int .i64 x.f2.f1, v5] := ⟨[.string x.f0], [.int .u64 x.f1, .int .u64 x.f2.f0.f0, .int .u64 x.f2.f0.f1, .int .i64 x.f2.f1, v5], rfl, rfl, ⟨[.int .u64 x.f1], [.int .u64 x.f2.f0.f0, .int .u64 x.f2.f0.f1, .int .i64 x.f2.f1, v5], rfl, rfl, (k60_mkM w base ok x.f2 g5)⟩⟩
theorem k77_openF {W : World} {ok : Nat → Prop} {x : S77} {cs : List Value} (h : Kd.FK k77 W ok x cs) : ∃ A5 c5, cs = [.string x.f0, .int .u64 x.f1, .int .u64 x.f2.f0.f0, .int .u64 x.f2.f0.f1, .int .i64 x.f2.f1, .slice A5 x.f2.f2.length c5] ∧ x.f2.f2.length ≤ c5 ∧ Kd.F k68 W ok A5 x.f2.f2.length x.f2.f2 := by
 obtain ⟨A5, c5, rfl, l5, _⟩ := k77_open (Kd.FK_now h);exact ⟨A5, c5, rfl, l5, (fun W' hW => by obtain ⟨A5_, c5_, he, l5_, g5_⟩ := k77_open (h W' hW); injection (Option.some.inj (show some (Value.slice A5 x.f2.f2.length c5) = some (Value.slice A5_ x.f2.f2.length c5_) from congrArg (fun l => l[5]?) he)) with ha_ _ _; rw [ha_]; exact g5_)⟩
theorem k77_mkF (W : World) (ok : Nat → Prop) (x : S77) {A5 : Option Addr} {c5 : Nat} (l5 : x.f2.f2.length ≤ c5) (g5 : Kd.F k68 W ok A5 x.f2.f2.length x.f2.f2) : Kd.FK k77 W ok x [.string x.f0, .int .u64 x.f1, .int .u64 x.f2.f0.f0, .int .u64 x.f2.f0.f1, .int .i64 x.f2.f1, .slice A5 x.f2.f2.length c5] := fun W2 hW => k77_mk W2 x l5 (g5 W2 hW)
def rd_T77 (xs : List S77) (i : Int) : S77 := xs.getD i.toNat z77
theorem at_T77 {w : World} {A : Option Addr} {n : Nat} {xs : List S77} (h : Kd.C k77 w A n xs) (i : Int) (h0 : 0 ≤ i) (h1 : i < n) : ∃ ad A5 c5, A = some ad ∧ w.cell? (ad.add (i.toNat * 6)) = some (.string (rd_T77 xs i).f0) ∧ w.cell? ⟨(ad.add (i.toNat * 6)).block, (ad.add (i.toNat * 6)).off + 1, none⟩ = some (.int .u64 (rd_T77 xs i).f1) ∧ w.cell? ⟨(ad.add (i.toNat * 6)).block, (ad.add (i.toNat * 6)).off + 2, none⟩ = some (.int .u64 (rd_T77 xs i).f2.f0.f0) ∧ w.cell? ⟨(ad.add (i.toNat * 6)).block, (ad.add (i.toNat * 6)).off + 3, none⟩ = some (.int .u64 (rd_T77 xs i).f2.f0.f1) ∧ w.cell? ⟨(ad.add (i.toNat * 6)).block, (ad.add (i.toNat * 6)).off + 4, none⟩ = some (.int .i64 (rd_T77 xs i).f2.f1) ∧ w.cell? ⟨(ad.add (i.toNat * 6)).block, (ad.add (i.toNat * 6)).off + 5, none⟩ = some (.slice A5 (rd_T77 xs i).f2.f2.length c5) ∧ (rd_T77 xs i).f2.f2.length ≤ c5 ∧ k68.C w A5 (rd_T77 xs i).f2.f2.length (rd_T77 xs i).f2.f2 := by
 obtain ⟨ad, c, e, _, hK, hc0⟩ := Kd.C_get h z77 i h0 h1;have hc : ∀ j u, c[j]? = some u → w.cell? (ad.add (i.toNat * 6 + j)) = some u := hc0;obtain ⟨A5, c5, rfl, l5, g5⟩ := k77_open hK;exact ⟨ad, A5, c5, e, hc 0 _ rfl, by rw [← add_field _ _ 1 (by omega)]; exact hc 1 _ rfl, by rw [← add_field _ _ 2 (by omega)]; exact hc 2 _ rfl, by rw [← add_field _ _ 3 (by omega)]; exact hc 3 _ rfl, by rw [← add_field _ _ 4 (by omega)]; exact hc 4 _ rfl, by rw [← add_field _ _ 5 (by omega)]; exact hc 5 _ rfl, l5, g5⟩

theorem eqA24 (d : Nat) (w : World) (x0 y0 x1 y1 : Int) :
  (Op.equalIn (d + 2) 24 (.agg #[.int .u64 x0, .int .u64 x1]) (.agg #[.int .u64 y0, .int .u64 y1])).run Try.prog w = .ok (x0 == y0 && (x1 == y1)) w := by
 refine eqA_of Try.underlying24 (by kernel_rfl) ?_;refine eqf_cons (by rfl) (by go_simp; rfl) (by go_simp; rfl) (by go_simp) ?_;exact eqf_last (by rfl) (by go_simp; rfl) (by go_simp; rfl) (by go_simp)
theorem eqA65 (d : Nat) (w : World) (x0 y0 x1 y1 : Int) :
  (Op.equalIn (d + 2) 65 (.agg #[.int .u64 x0, .int .u64 x1]) (.agg #[.int .u64 y0, .int .u64 y1])).run Try.prog w = .ok (x0 == y0 && (x1 == y1)) w := by
 refine eqA_of Try.underlying65 (by kernel_rfl) ?_;refine eqf_cons (by rfl) (by go_simp; rfl) (by go_simp; rfl) (by go_simp) ?_;exact eqf_last (by rfl) (by go_simp; rfl) (by go_simp; rfl) (by go_simp)
theorem eqA68 (d : Nat) (w : World) (x0 y0 : ByteArray) (x1 y1 x2 y2 x3 y3 : Int) :
  (Op.equalIn (d + 3) 68 (.agg #[.string x0, .int .u64 x1, .int .u64 x2, .int .u64 x3]) (.agg #[.string y0, .int .u64 y1, .int .u64 y2, .int .u64 y3])).run Try.prog w = .ok (x0.toList == y0.toList && (x1 == y1 && ((x2 == y2 && (x3 == y3))))) w := by
 refine eqA_of Try.underlying68 (by kernel_rfl) ?_;refine eqf_cons (by rfl) (by go_simp; rfl) (by go_simp; rfl) (by go_simp) ?_;refine eqf_cons (by rfl) (by go_simp; rfl) (by go_simp; rfl) (by go_simp) ?_;exact eqf_last (by rfl) (by go_simp) (by go_simp) (eqA65 (d + 0) w _ _ _ _)
end Go.Proofs.Ytpbiobbddgipkaa.H
