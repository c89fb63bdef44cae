-- laid by wip/hyb.py (the kit's printer with turns of ours)
import Derived.Test.YtibdfimhhagjdaaHx0
import Derived.Test.YtibdfimhhagjdaaWOpn
namespace Go.Proofs.Ytibdfimhhagjdaa.H
open Go.RowKit Go.Proofs.YtibdfimhhagjdaaW.PrintWords Go.Proofs.YtibdfimhhagjdaaW.Opn
def Ok22 (x : Int) : Prop := 0 ≤ x ∧ x ≤ 18446744073709551615
theorem o22 : Opens Try.prog 22 (Kd.int .u64) Ok22 := (opens_int Try.underlying22 (by kernel_rfl)).imp (fun _ => bounds_u64)
def Ok24 (x : S24) : Prop := (Ok22 x.f0 ∧ Ok22 x.f1)
theorem o24 : Opens Try.prog 24 k24 Ok24 := opens_struct (fun x : S24 => (x.f0, x.f1)) (fun p_ => ⟨p_.1, p_.2⟩) (fun _ => rfl) Try.underlying24 (by kernel_rfl) (opensF_cons rfl o22 (opensF_last rfl o22))
def Ok9 (x : ByteArray) : Prop := x.size ≤ 140737488351232
theorem o9 : Opens Try.prog 9 Kd.string Ok9 := opens_string Try.underlying9 (by kernel_rfl)
def Ok28 (x : List ByteArray) : Prop := x.length * 16 ≤ 140737488351232 ∧ ∀ y ∈ x, Ok9 y
theorem o28 : Opens Try.prog 28 (Kd.slice 9 Kd.string) Ok28 := (opens_slice Try.underlying28 (by kernel_rfl) o9).imp (fun _ h => by rw [show Try.prog.bytesOf 9 = 16 from by kernel_rfl] at h; exact h)
def Ok29 (x : S29) : Prop := (Ok22 x.f0 ∧ (Ok22 x.f1 ∧ (Ok22 x.f2 ∧ Ok22 x.f3)))
theorem o29 : Opens Try.prog 29 k29 Ok29 := opens_array (fun x : S29 => (x.f0, x.f1, x.f2, x.f3)) (fun p_ => ⟨p_.1, p_.2.1, p_.2.2.1, p_.2.2.2⟩) (fun _ => rfl) Try.underlying29 (by kernel_rfl) (by kernel_rfl) (opensI_cons o22 rfl (opensI_cons o22 rfl (opensI_cons o22 rfl (opensI_last o22 rfl))))
def Ok3 (x : Int) : Prop := (-9223372036854775808) ≤ x ∧ x ≤ 9223372036854775807
theorem o3 : Opens Try.prog 3 (Kd.int .i64) Ok3 := (opens_int Try.underlying3 (by kernel_rfl)).imp (fun _ => bounds_i64)
def Ok31 (x : S31) : Prop := (Ok29 x.f0 ∧ (Ok9 x.f1 ∧ Ok3 x.f2))
theorem o31 : Opens Try.prog 31 k31 Ok31 := opens_struct (fun x : S31 => (x.f0, x.f1, x.f2)) (fun p_ => ⟨p_.1, p_.2.1, p_.2.2⟩) (fun _ => rfl) Try.underlying31 (by kernel_rfl) (opensF_cons rfl o29 (opensF_cons rfl o9 (opensF_last rfl o3)))
end Go.Proofs.Ytibdfimhhagjdaa.H
