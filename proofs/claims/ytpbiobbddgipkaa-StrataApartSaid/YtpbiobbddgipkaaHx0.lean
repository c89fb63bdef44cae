import Derived.Test.YtpbiobbddgipkaaProg
import Derived.Below
import Derived.Deep.Draws
import Derived.Deep.AppendLies
import Derived.Maps.AppendAt
import Derived.OwnWalk
import Derived.Laws.BytesArg
import Derived.Laws.MakeOwn
import Derived.Laws.OwnMore
import Derived.Deep.OwnRows
import Derived.Tactics
import Derived.Lib.ConvBytes
import Derived.Laws.Slices
import Derived.WalkKit
import Derived.KernelRfl
import Derived.RowKit3
import Derived.Deep.LoopGhost
import Derived.Deep.QuietTactic
import Derived.BigQuiet
import Derived.WideLaws
import Derived.Deep.DeepCutAuto
import Derived.Deep.CutBlock
import Derived.Deep.RegionHeld3
import Derived.Laws.Rows
import Derived.Lib.AppendStr
import Derived.ArgAppend
import Derived.Laws.IdiomCopy
import Derived.OrdersHeld
import Derived.Laws.BitsLemmas
import Derived.RowKit
import Derived.ChangeKeysEq
import Derived.Lib.SliceRun
import Derived.Lib.Bytealg
import Derived.Lib.Overlaps
import Derived.Lib.AppendZerosOnto
import Derived.Laws.Externs
import Derived.Deep.RegionLaw
import Derived.Test.YtpbiobbddgipkaaWStr
import Derived.Test.YtpbiobbddgipkaaWFb
import Derived.Test.YtpbiobbddgipkaaWWords
import Derived.Test.YtpbiobbddgipkaaWLast
import Derived.Test.YtpbiobbddgipkaaWTab
import Derived.Test.YtpbiobbddgipkaaWFour
import Derived.Test.YtpbiobbddgipkaaWQPut
import Derived.Test.YtpbiobbddgipkaaWApart
import Derived.Test.YtpbiobbddgipkaaWArr
import Derived.Test.YtpbiobbddgipkaaWZeros
import Derived.Test.YtpbiobbddgipkaaWFoot
import Derived.Test.YtpbiobbddgipkaaWKept
import Derived.Test.YtpbiobbddgipkaaWShare
import Derived.Test.YtpbiobbddgipkaaWN
import Derived.Test.YtpbiobbddgipkaaWFootNe
import Derived.Test.YtpbiobbddgipkaaWAt
import Derived.Test.YtpbiobbddgipkaaWEqStruct
import Derived.Test.YtpbiobbddgipkaaWRepsOne
import Derived.Test.YtpbiobbddgipkaaWInv
import Derived.Test.YtpbiobbddgipkaaWInvWords
import Derived.Test.YtpbiobbddgipkaaWGuard
import Derived.Test.YtpbiobbddgipkaaWNEv
import Derived.Test.YtpbiobbddgipkaaWMore
import Derived.Test.YtpbiobbddgipkaaSq
namespace Go.Proofs.Ytpbiobbddgipkaa.H
open Go.RowKit Go.Proofs.YtpbiobbddgipkaaW.PrintWords Go.Proofs.YtpbiobbddgipkaaW.PrintLast Go.Proofs.YtpbiobbddgipkaaW.PrintMore Go.Proofs.YtpbiobbddgipkaaW.Sq
attribute [local go_sem] max2_int min2_int max_two min_two max_three min_three max_four min_four
set_option linter.unusedVariables false
set_option linter.unusedSimpArgs false



def errW : Option Int → Value
 | none => .nilIface
 | some c => .iface 0 (.int .i64 c)
theorem errW_none : errW none = .nilIface := rfl
theorem errW_some (c : Int) : errW (some c) = .iface 0 (.int .i64 c) := rfl

theorem info68 : (Try.prog.info? 68).map (fun i => (i.zero, i.size, i.bytes)) = some (some (.agg #[(.string ⟨#[]⟩), (.int .u64 0), (.int .u64 0), (.int .u64 0)]), 4, 40) := by kernel_rfl
structure S24 where
 f0 : Int
 f1 : Int
def z24 : S24 := ⟨(0 : Int), (0 : Int)⟩
def k24 : Kd S24 := Kd.iso (Kd.pair (Kd.int .u64) (Kd.int .u64)) (fun x : S24 => (x.f0, x.f1))
theorem k24_open {w : World} {x : S24} {cs : List Value} (h : k24.K w x cs) : cs = [.int .u64 x.f0, .int .u64 x.f1] := by
 obtain ⟨_, _, rfl, rfl, rfl⟩ := h
 exact rfl
theorem k24_mk (w : World) (x : S24)  : k24.K w x [.int .u64 x.f0, .int .u64 x.f1] := ⟨[.int .u64 x.f0], [.int .u64 x.f1], rfl, rfl, rfl⟩
structure S65 where
 f0 : Int
 f1 : Int
def z65 : S65 := ⟨(0 : Int), (0 : Int)⟩
def k65 : Kd S65 := Kd.iso (Kd.pair (Kd.int .u64) (Kd.int .u64)) (fun x : S65 => (x.f0, x.f1))
theorem k65_open {w : World} {x : S65} {cs : List Value} (h : k65.K w x cs) : cs = [.int .u64 x.f0, .int .u64 x.f1] := by
 obtain ⟨_, _, rfl, rfl, rfl⟩ := h
 exact rfl
theorem k65_openM {w : World} {base : Nat} {ok : Nat → Prop} {x : S65} {cs : List Value} (h : k65.M w base ok x cs) : cs = [.int .u64 x.f0, .int .u64 x.f1] := by
 obtain ⟨_, _, rfl, rfl, rfl⟩ := h
 exact rfl
theorem k65_mkM (w : World) (base : Nat) (ok : Nat → Prop) (x : S65)  : k65.M w base ok x [.int .u64 x.f0, .int .u64 x.f1] := ⟨[.int .u64 x.f0], [.int .u64 x.f1], rfl, rfl, rfl⟩
structure S87 where
 f0 : ByteArray
 f1 : Int
 f2 : S65
def z87 : S87 := ⟨(⟨#[]⟩ : ByteArray), (0 : Int), z65⟩
def k87 : Kd S87 := Kd.iso (Kd.pair Kd.string (Kd.pair (Kd.int .u64) k65)) (fun x : S87 => (x.f0, x.f1, x.f2))
theorem k87_open {w : World} {x : S87} {cs : List Value} (h : k87.K w x cs) : cs = [.string x.f0, .int .u64 x.f1, .int .u64 x.f2.f0, .int .u64 x.f2.f1] := by
 obtain ⟨_, _, rfl, rfl, ⟨_, _, rfl, rfl, s2⟩⟩ := h
 obtain rfl := k65_open s2
 exact rfl
theorem k87_openM {w : World} {base : Nat} {ok : Nat → Prop} {x : S87} {cs : List Value} (h : k87.M w base ok x cs) : cs = [.string x.f0, .int .u64 x.f1, .int .u64 x.f2.f0, .int .u64 x.f2.f1] := by
 obtain ⟨_, _, rfl, rfl, ⟨_, _, rfl, rfl, s2⟩⟩ := h
 obtain rfl := k65_openM s2
 exact rfl
theorem k87_mkM (w : World) (base : Nat) (ok : Nat → Prop) (x : S87)  : k87.M w base ok x [.string x.f0, .int .u64 x.f1, .int .u64 x.f2.f0, .int .u64 x.f2.f1] := ⟨[.string x.f0], [.int .u64 x.f1, .int .u64 x.f2.f0, .int .u64 x.f2.f1], rfl, rfl, ⟨[.int .u64 x.f1], [.int .u64 x.f2.f0, .int .u64 x.f2.f1], rfl, rfl, (k65_mkM w base ok x.f2 )⟩⟩
def rd_T87 (xs : List S87) (i : Int) : S87 := xs.getD i.toNat z87
theorem at_T87 {w : World} {A : Option Addr} {n : Nat} {xs : List S87} (h : Kd.C k87 w A n xs) (i : Int) (h0 : 0 ≤ i) (h1 : i < n) : ∃ ad , A = some ad ∧ w.cell? (ad.add (i.toNat * 4)) = some (.string (rd_T87 xs i).f0) ∧ w.cell? ⟨(ad.add (i.toNat * 4)).block, (ad.add (i.toNat * 4)).off + 1, none⟩ = some (.int .u64 (rd_T87 xs i).f1) ∧ w.cell? ⟨(ad.add (i.toNat * 4)).block, (ad.add (i.toNat * 4)).off + 2, none⟩ = some (.int .u64 (rd_T87 xs i).f2.f0) ∧ w.cell? ⟨(ad.add (i.toNat * 4)).block, (ad.add (i.toNat * 4)).off + 3, none⟩ = some (.int .u64 (rd_T87 xs i).f2.f1) := by
 obtain ⟨ad, c, e, _, hK, hc0⟩ := Kd.C_get h z87 i h0 h1
 have hc : ∀ j u, c[j]? = some u → w.cell? (ad.add (i.toNat * 4 + j)) = some u := hc0
 obtain rfl := k87_open hK
 exact ⟨ad, e, hc 0 _ rfl, by rw [← add_field _ _ 1 (by omega)]; exact hc 1 _ rfl, by rw [← add_field _ _ 2 (by omega)]; exact hc 2 _ rfl, by rw [← add_field _ _ 3 (by omega)]; exact hc 3 _ rfl⟩

structure S40 where
 f0 : S24
 f1 : Int
 f2 : (List S87)
def z40 : S40 := ⟨z24, (0 : Int), ([] : List S87)⟩
def k40 : Kd S40 := Kd.iso (Kd.pair k24 (Kd.pair (Kd.int .i64) (Kd.slice 87 k87))) (fun x : S40 => (x.f0, x.f1, x.f2))
theorem k40_open {w : World} {x : S40} {cs : List Value} (h : k40.K w x cs) : ∃ A3 c3, cs = [.int .u64 x.f0.f0, .int .u64 x.f0.f1, .int .i64 x.f1, .slice A3 x.f2.length c3] ∧ x.f2.length ≤ c3 ∧ k87.C w A3 x.f2.length x.f2 := by
 obtain ⟨_, _, rfl, s0, ⟨_, _, rfl, rfl, ⟨A3, c3, rfl, l3, g3⟩⟩⟩ := h
 obtain rfl := k24_open s0
 exact ⟨A3, c3, rfl, l3, g3⟩
theorem k40_mk (w : World) (x : S40) {A3 : Option Addr} {c3 : Nat} (l3 : x.f2.length ≤ c3) (g3 : k87.C w A3 x.f2.length x.f2) : k40.K w x [.int .u64 x.f0.f0, .int .u64 x.f0.f1, .int .i64 x.f1, .slice A3 x.f2.length c3] := ⟨[.int .u64 x.f0.f0, .int .u64 x.f0.f1], [.int .i64 x.f1, .slice A3 x.f2.length c3], rfl, (k24_mk w x.f0 ), ⟨[.int .i64 x.f1], [.slice A3 x.f2.length c3], rfl, rfl, ⟨A3, c3, rfl, l3, g3⟩⟩⟩
structure S42 where
 f0 : ByteArray
 f1 : Int
 f2 : S40
def z42 : S42 := ⟨(⟨#[]⟩ : ByteArray), (0 : Int), z40⟩
def k42 : Kd S42 := Kd.iso (Kd.pair Kd.string (Kd.pair (Kd.int .u64) k40)) (fun x : S42 => (x.f0, x.f1, x.f2))
theorem k42_open {w : World} {x : S42} {cs : List Value} (h : k42.K w x cs) : ∃ A5 c5, cs = [.string x.f0, .int .u64 x.f1, .int .u64 x.f2.f0.f0, .int .u64 x.f2.f0.f1, .int .i64 x.f2.f1, .slice A5 x.f2.f2.length c5] ∧ x.f2.f2.length ≤ c5 ∧ k87.C w A5 x.f2.f2.length x.f2.f2 := by
 obtain ⟨_, _, rfl, rfl, ⟨_, _, rfl, rfl, s2⟩⟩ := h
 obtain ⟨A5, c5, rfl, l5, g5⟩ := k40_open s2
 exact ⟨A5, c5, rfl, l5, g5⟩
theorem k42_mk (w : World) (x : S42) {A5 : Option Addr} {c5 : Nat} (l5 : x.f2.f2.length ≤ c5) (g5 : k87.C w A5 x.f2.f2.length x.f2.f2) : k42.K w x [.string x.f0, .int .u64 x.f1, .int .u64 x.f2.f0.f0, .int .u64 x.f2.f0.f1, .int .i64 x.f2.f1, .slice A5 x.f2.f2.length c5] := ⟨[.string x.f0], [.int .u64 x.f1, .int .u64 x.f2.f0.f0, .int .u64 x.f2.f0.f1, .int .i64 x.f2.f1, .slice A5 x.f2.f2.length c5], rfl, rfl, ⟨[.int .u64 x.f1], [.int .u64 x.f2.f0.f0, .int .u64 x.f2.f0.f1, .int .i64 x.f2.f1, .slice A5 x.f2.f2.length c5], rfl, rfl, (k40_mk w x.f2 l5 g5)⟩⟩
theorem k42_openF {W : World} {ok : Nat → Prop} {x : S42} {cs : List Value} (h : Kd.FK k42 W ok x cs) : ∃ A5 c5, cs = [.string x.f0, .int .u64 x.f1, .int .u64 x.f2.f0.f0, .int .u64 x.f2.f0.f1, .int .i64 x.f2.f1, .slice A5 x.f2.f2.length c5] ∧ x.f2.f2.length ≤ c5 ∧ Kd.F k87 W ok A5 x.f2.f2.length x.f2.f2 := by
 obtain ⟨A5, c5, rfl, l5, _⟩ := k42_open (Kd.FK_now h)
 exact ⟨A5, c5, rfl, l5, (fun W' hW => by obtain ⟨A5_, c5_, he, l5_, g5_⟩ := k42_open (h W' hW); injection (Option.some.inj (show some (Value.slice A5 x.f2.f2.length c5) = some (Value.slice A5_ x.f2.f2.length c5_) from congrArg (fun l => l[5]?) he)) with ha_ _ _; rw [ha_]; exact g5_)⟩
theorem k42_mkF (W : World) (ok : Nat → Prop) (x : S42) {A5 : Option Addr} {c5 : Nat} (l5 : x.f2.f2.length ≤ c5) (g5 : Kd.F k87 W ok A5 x.f2.f2.length x.f2.f2) : Kd.FK k42 W ok x [.string x.f0, .int .u64 x.f1, .int .u64 x.f2.f0.f0, .int .u64 x.f2.f0.f1, .int .i64 x.f2.f1, .slice A5 x.f2.f2.length c5] := fun W2 hW => k42_mk W2 x l5 (g5 W2 hW)
def rd_T42 (xs : List S42) (i : Int) : S42 := xs.getD i.toNat z42
theorem at_T42 {w : World} {A : Option Addr} {n : Nat} {xs : List S42} (h : Kd.C k42 w A n xs) (i : Int) (h0 : 0 ≤ i) (h1 : i < n) : ∃ ad A5 c5, A = some ad ∧ w.cell? (ad.add (i.toNat * 6)) = some (.string (rd_T42 xs i).f0) ∧ w.cell? ⟨(ad.add (i.toNat * 6)).block, (ad.add (i.toNat * 6)).off + 1, none⟩ = some (.int .u64 (rd_T42 xs i).f1) ∧ w.cell? ⟨(ad.add (i.toNat * 6)).block, (ad.add (i.toNat * 6)).off + 2, none⟩ = some (.int .u64 (rd_T42 xs i).f2.f0.f0) ∧ w.cell? ⟨(ad.add (i.toNat * 6)).block, (ad.add (i.toNat * 6)).off + 3, none⟩ = some (.int .u64 (rd_T42 xs i).f2.f0.f1) ∧ w.cell? ⟨(ad.add (i.toNat * 6)).block, (ad.add (i.toNat * 6)).off + 4, none⟩ = some (.int .i64 (rd_T42 xs i).f2.f1) ∧ w.cell? ⟨(ad.add (i.toNat * 6)).block, (ad.add (i.toNat * 6)).off + 5, none⟩ = some (.slice A5 (rd_T42 xs i).f2.f2.length c5) ∧ (rd_T42 xs i).f2.f2.length ≤ c5 ∧ k87.C w A5 (rd_T42 xs i).f2.f2.length (rd_T42 xs i).f2.f2 := by
 obtain ⟨ad, c, e, _, hK, hc0⟩ := Kd.C_get h z42 i h0 h1
 have hc : ∀ j u, c[j]? = some u → w.cell? (ad.add (i.toNat * 6 + j)) = some u := hc0
 obtain ⟨A5, c5, rfl, l5, g5⟩ := k42_open hK
 exact ⟨ad, A5, c5, e, hc 0 _ rfl, by rw [← add_field _ _ 1 (by omega)]; exact hc 1 _ rfl, by rw [← add_field _ _ 2 (by omega)]; exact hc 2 _ rfl, by rw [← add_field _ _ 3 (by omega)]; exact hc 3 _ rfl, by rw [← add_field _ _ 4 (by omega)]; exact hc 4 _ rfl, by rw [← add_field _ _ 5 (by omega)]; exact hc 5 _ rfl, l5, g5⟩

structure S68 where
 f0 : ByteArray
 f1 : Int
 f2 : S65
def z68 : S68 := ⟨(⟨#[]⟩ : ByteArray), (0 : Int), z65⟩
def k68 : Kd S68 := Kd.iso (Kd.pair Kd.string (Kd.pair (Kd.int .u64) k65)) (fun x : S68 => (x.f0, x.f1, x.f2))
theorem k68_open {w : World} {x : S68} {cs : List Value} (h : k68.K w x cs) : cs = [.string x.f0, .int .u64 x.f1, .int .u64 x.f2.f0, .int .u64 x.f2.f1] := by
 obtain ⟨_, _, rfl, rfl, ⟨_, _, rfl, rfl, s2⟩⟩ := h
 obtain rfl := k65_open s2
 exact rfl
theorem k68_mkM (w : World) (base : Nat) (ok : Nat → Prop) (x : S68)  : k68.M w base ok x [.string x.f0, .int .u64 x.f1, .int .u64 x.f2.f0, .int .u64 x.f2.f1] := ⟨[.string x.f0], [.int .u64 x.f1, .int .u64 x.f2.f0, .int .u64 x.f2.f1], rfl, rfl, ⟨[.int .u64 x.f1], [.int .u64 x.f2.f0, .int .u64 x.f2.f1], rfl, rfl, (k65_mkM w base ok x.f2 )⟩⟩
def rd_T68 (xs : List S68) (i : Int) : S68 := xs.getD i.toNat z68
theorem at_T68 {w : World} {A : Option Addr} {n : Nat} {xs : List S68} (h : Kd.C k68 w A n xs) (i : Int) (h0 : 0 ≤ i) (h1 : i < n) : ∃ ad , A = some ad ∧ w.cell? (ad.add (i.toNat * 4)) = some (.string (rd_T68 xs i).f0) ∧ w.cell? ⟨(ad.add (i.toNat * 4)).block, (ad.add (i.toNat * 4)).off + 1, none⟩ = some (.int .u64 (rd_T68 xs i).f1) ∧ w.cell? ⟨(ad.add (i.toNat * 4)).block, (ad.add (i.toNat * 4)).off + 2, none⟩ = some (.int .u64 (rd_T68 xs i).f2.f0) ∧ w.cell? ⟨(ad.add (i.toNat * 4)).block, (ad.add (i.toNat * 4)).off + 3, none⟩ = some (.int .u64 (rd_T68 xs i).f2.f1) := by
 obtain ⟨ad, c, e, _, hK, hc0⟩ := Kd.C_get h z68 i h0 h1
 have hc : ∀ j u, c[j]? = some u → w.cell? (ad.add (i.toNat * 4 + j)) = some u := hc0
 obtain rfl := k68_open hK
 exact ⟨ad, e, hc 0 _ rfl, by rw [← add_field _ _ 1 (by omega)]; exact hc 1 _ rfl, by rw [← add_field _ _ 2 (by omega)]; exact hc 2 _ rfl, by rw [← add_field _ _ 3 (by omega)]; exact hc 3 _ rfl⟩

structure S35 where
 f0 : ByteArray
 f1 : ByteArray
 f2 : Int
 f3 : Int
def z35 : S35 := ⟨(⟨#[]⟩ : ByteArray), (⟨#[]⟩ : ByteArray), (0 : Int), (0 : Int)⟩
def k35 : Kd S35 := Kd.iso (Kd.pair Kd.string (Kd.pair Kd.string (Kd.pair (Kd.int .u64) (Kd.int .u8)))) (fun x : S35 => (x.f0, x.f1, x.f2, x.f3))
theorem k35_open {w : World} {x : S35} {cs : List Value} (h : k35.K w x cs) : cs = [.string x.f0, .string x.f1, .int .u64 x.f2, .int .u8 x.f3] := by
 obtain ⟨_, _, rfl, rfl, ⟨_, _, rfl, rfl, ⟨_, _, rfl, rfl, rfl⟩⟩⟩ := h
 exact rfl
def rd_T35 (xs : List S35) (i : Int) : S35 := xs.getD i.toNat z35
theorem at_T35 {w : World} {A : Option Addr} {n : Nat} {xs : List S35} (h : Kd.C k35 w A n xs) (i : Int) (h0 : 0 ≤ i) (h1 : i < n) : ∃ ad , A = some ad ∧ w.cell? (ad.add (i.toNat * 4)) = some (.string (rd_T35 xs i).f0) ∧ w.cell? ⟨(ad.add (i.toNat * 4)).block, (ad.add (i.toNat * 4)).off + 1, none⟩ = some (.string (rd_T35 xs i).f1) ∧ w.cell? ⟨(ad.add (i.toNat * 4)).block, (ad.add (i.toNat * 4)).off + 2, none⟩ = some (.int .u64 (rd_T35 xs i).f2) ∧ w.cell? ⟨(ad.add (i.toNat * 4)).block, (ad.add (i.toNat * 4)).off + 3, none⟩ = some (.int .u8 (rd_T35 xs i).f3) := by
 obtain ⟨ad, c, e, _, hK, hc0⟩ := Kd.C_get h z35 i h0 h1
 have hc : ∀ j u, c[j]? = some u → w.cell? (ad.add (i.toNat * 4 + j)) = some u := hc0
 obtain rfl := k35_open hK
 exact ⟨ad, e, hc 0 _ rfl, by rw [← add_field _ _ 1 (by omega)]; exact hc 1 _ rfl, by rw [← add_field _ _ 2 (by omega)]; exact hc 2 _ rfl, by rw [← add_field _ _ 3 (by omega)]; exact hc 3 _ rfl⟩

end Go.Proofs.Ytpbiobbddgipkaa.H
