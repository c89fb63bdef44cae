-- laid by wip/hyb.py (the kit's printer with turns of ours)
import Derived.Test.YtpbiobbddgipkaaHx0
namespace Go.Proofs.Ytpbiobbddgipkaa.H
open Go.RowKit Go.Proofs.YtpbiobbddgipkaaW.PrintWords Go.Proofs.YtpbiobbddgipkaaW.Opn
def Ok22 (x : Int) : Prop := 0 ≤ x ∧ x ≤ 18446744073709551615
theorem o22 : Opens Try.prog 22 (Kd.int .u64) Ok22 := (opens_int Try.underlying22 (by kernel_rfl)).imp (fun _ => bounds_u64)
def Ok24 (x : S24) : Prop := (Ok22 x.f0 ∧ Ok22 x.f1)
theorem o24 : Opens Try.prog 24 k24 Ok24 := opens_struct (fun x : S24 => (x.f0, x.f1)) (fun p_ => ⟨p_.1, p_.2⟩) (fun _ => rfl) Try.underlying24 (by kernel_rfl) (opensF_cons rfl o22 (opensF_last rfl o22))
def Ok3 (x : Int) : Prop := (-9223372036854775808) ≤ x ∧ x ≤ 9223372036854775807
theorem o3 : Opens Try.prog 3 (Kd.int .i64) Ok3 := (opens_int Try.underlying3 (by kernel_rfl)).imp (fun _ => bounds_i64)
def Ok9 (x : ByteArray) : Prop := x.size ≤ 140737488351232
theorem o9 : Opens Try.prog 9 Kd.string Ok9 := opens_string Try.underlying9 (by kernel_rfl)
def Ok65 (x : S65) : Prop := (Ok22 x.f0 ∧ Ok22 x.f1)
theorem o65 : Opens Try.prog 65 k65 Ok65 := opens_struct (fun x : S65 => (x.f0, x.f1)) (fun p_ => ⟨p_.1, p_.2⟩) (fun _ => rfl) Try.underlying65 (by kernel_rfl) (opensF_cons rfl o22 (opensF_last rfl o22))
def Ok87 (x : S87) : Prop := (Ok9 x.f0 ∧ (Ok22 x.f1 ∧ Ok65 x.f2))
theorem o87 : Opens Try.prog 87 k87 Ok87 := opens_struct (fun x : S87 => (x.f0, x.f1, x.f2)) (fun p_ => ⟨p_.1, p_.2.1, p_.2.2⟩) (fun _ => rfl) Try.underlying87 (by kernel_rfl) (opensF_cons rfl o9 (opensF_cons rfl o22 (opensF_last rfl o65)))
def Ok38 (x : List (S87)) : Prop := x.length * 40 ≤ 140737488351232 ∧ ∀ y ∈ x, Ok87 y
theorem o38 : Opens Try.prog 38 (Kd.slice 87 k87) Ok38 := (opens_slice Try.underlying38 (by kernel_rfl) o87).imp (fun _ h => by rw [show Try.prog.bytesOf 87 = 40 from by kernel_rfl] at h; exact h)
def Ok40 (x : S40) : Prop := (Ok24 x.f0 ∧ (Ok3 x.f1 ∧ Ok38 x.f2))
theorem o40 : Opens Try.prog 40 k40 Ok40 := opens_struct (fun x : S40 => (x.f0, x.f1, x.f2)) (fun p_ => ⟨p_.1, p_.2.1, p_.2.2⟩) (fun _ => rfl) Try.underlying40 (by kernel_rfl) (opensF_cons rfl o24 (opensF_cons rfl o3 (opensF_last rfl o38)))
def Ok42 (x : S42) : Prop := (Ok9 x.f0 ∧ (Ok22 x.f1 ∧ Ok40 x.f2))
theorem o42 : Opens Try.prog 42 k42 Ok42 := opens_struct (fun x : S42 => (x.f0, x.f1, x.f2)) (fun p_ => ⟨p_.1, p_.2.1, p_.2.2⟩) (fun _ => rfl) Try.underlying42 (by kernel_rfl) (opensF_cons rfl o9 (opensF_cons rfl o22 (opensF_last rfl o40)))
def Ok26 (x : List (S42)) : Prop := x.length * 72 ≤ 140737488351232 ∧ ∀ y ∈ x, Ok42 y
theorem o26 : Opens Try.prog 26 (Kd.slice 42 k42) Ok26 := (opens_slice Try.underlying26 (by kernel_rfl) o42).imp (fun _ h => by rw [show Try.prog.bytesOf 42 = 72 from by kernel_rfl] at h; exact h)
def Ok28 (x : S28) : Prop := (Ok24 x.f0 ∧ (Ok3 x.f1 ∧ (Ok3 x.f2 ∧ Ok26 x.f3)))
theorem o28 : Opens Try.prog 28 k28 Ok28 := opens_struct (fun x : S28 => (x.f0, x.f1, x.f2, x.f3)) (fun p_ => ⟨p_.1, p_.2.1, p_.2.2.1, p_.2.2.2⟩) (fun _ => rfl) Try.underlying28 (by kernel_rfl) (opensF_cons rfl o24 (opensF_cons rfl o3 (opensF_cons rfl o3 (opensF_last rfl o26))))
end Go.Proofs.Ytpbiobbddgipkaa.H
