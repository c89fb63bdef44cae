-- laid by wip/hyb.py (the kit's printer with turns of ours)
import Derived.Test.YtpbiobbddgipkaaHx0
import Derived.Test.YtpbiobbddgipkaaWOpn
namespace Go.Proofs.Ytpbiobbddgipkaa.H
open Go.RowKit Go.Proofs.YtpbiobbddgipkaaW.PrintWords Go.Proofs.YtpbiobbddgipkaaW.Opn
def Ok22 (x : Int) : Prop := 0 ≤ x ∧ x ≤ 18446744073709551615
theorem o22 : Opens Try.prog 22 (Kd.int .u64) Ok22 := (opens_int Try.underlying22 (by kernel_rfl)).imp (fun _ => bounds_u64)
def Ok24 (x : S24) : Prop := (Ok22 x.f0 ∧ Ok22 x.f1)
theorem o24 : Opens Try.prog 24 k24 Ok24 := opens_struct (fun x : S24 => (x.f0, x.f1)) (fun p_ => ⟨p_.1, p_.2⟩) (fun _ => rfl) Try.underlying24 (by kernel_rfl) (opensF_cons rfl o22 (opensF_last rfl o22))
def Ok5 (x : Int) : Prop := 0 ≤ x ∧ x ≤ 255
theorem o5 : Opens Try.prog 5 (Kd.int .u8) Ok5 := (opens_int Try.underlying5 (by kernel_rfl)).imp (fun _ => bounds_u8)
def Ok9 (x : ByteArray) : Prop := x.size ≤ 140737488351232
theorem o9 : Opens Try.prog 9 Kd.string Ok9 := opens_string Try.underlying9 (by kernel_rfl)
def Ok35 (x : S35) : Prop := (Ok9 x.f0 ∧ (Ok9 x.f1 ∧ (Ok22 x.f2 ∧ Ok5 x.f3)))
theorem o35 : Opens Try.prog 35 k35 Ok35 := opens_struct (fun x : S35 => (x.f0, x.f1, x.f2, x.f3)) (fun p_ => ⟨p_.1, p_.2.1, p_.2.2.1, p_.2.2.2⟩) (fun _ => rfl) Try.underlying35 (by kernel_rfl) (opensF_cons rfl o9 (opensF_cons rfl o9 (opensF_cons rfl o22 (opensF_last rfl o5))))
def Ok25 (x : List (S35)) : Prop := x.length * 48 ≤ 140737488351232 ∧ ∀ y ∈ x, Ok35 y
theorem o25 : Opens Try.prog 25 (Kd.slice 35 k35) Ok25 := (opens_slice Try.underlying25 (by kernel_rfl) o35).imp (fun _ h => by rw [show Try.prog.bytesOf 35 = 48 from by kernel_rfl] at h; exact h)
end Go.Proofs.Ytpbiobbddgipkaa.H
