-- laid by wip/hyb.py (the kit's printer with turns of ours)
import Derived.Test.YtnpipaehcklnbaaHx0
import Derived.Test.YtnpipaehcklnbaaWOpn
namespace Go.Proofs.Ytnpipaehcklnbaa.H
open Go.RowKit Go.Proofs.YtnpipaehcklnbaaW.PrintWords Go.Proofs.YtnpipaehcklnbaaW.Opn
def Ok3 (x : Int) : Prop := (-9223372036854775808) ≤ x ∧ x ≤ 9223372036854775807
theorem o3 : Opens Try.prog 3 (Kd.int .i64) Ok3 := (opens_int Try.underlying3 (by kernel_rfl)).imp (fun _ => bounds_i64)
def Ok9 (x : ByteArray) : Prop := x.size ≤ 140737488351232
theorem o9 : Opens Try.prog 9 Kd.string Ok9 := opens_string Try.underlying9 (by kernel_rfl)
def Ok23 (x : List ByteArray) : Prop := x.length * 16 ≤ 140737488351232 ∧ ∀ y ∈ x, Ok9 y
theorem o23 : Opens Try.prog 23 (Kd.slice 9 Kd.string) Ok23 := (opens_slice Try.underlying23 (by kernel_rfl) o9).imp (fun _ h => by rw [show Try.prog.bytesOf 9 = 16 from by kernel_rfl] at h; exact h)
def Ok42 (x : S42) : Prop := (Ok3 x.f0 ∧ (Ok9 x.f1 ∧ (Ok9 x.f2 ∧ Ok23 x.f3)))
theorem o42 : Opens Try.prog 42 k42 Ok42 := opens_struct (fun x : S42 => (x.f0, x.f1, x.f2, x.f3)) (fun p_ => ⟨p_.1, p_.2.1, p_.2.2.1, p_.2.2.2⟩) (fun _ => rfl) Try.underlying42 (by kernel_rfl) (opensF_cons rfl o3 (opensF_cons rfl o9 (opensF_cons rfl o9 (opensF_last rfl o23))))
def Ok22 (x : List (S42)) : Prop := x.length * 64 ≤ 140737488351232 ∧ ∀ y ∈ x, Ok42 y
theorem o22 : Opens Try.prog 22 (Kd.slice 42 k42) Ok22 := (opens_slice Try.underlying22 (by kernel_rfl) o42).imp (fun _ h => by rw [show Try.prog.bytesOf 42 = 64 from by kernel_rfl] at h; exact h)
def Ok5 (x : Int) : Prop := 0 ≤ x ∧ x ≤ 255
theorem o5 : Opens Try.prog 5 (Kd.int .u8) Ok5 := (opens_int Try.underlying5 (by kernel_rfl)).imp (fun _ => bounds_u8)
end Go.Proofs.Ytnpipaehcklnbaa.H
