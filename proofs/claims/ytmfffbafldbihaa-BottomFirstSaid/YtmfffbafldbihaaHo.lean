-- laid by wip/hyb.py (the kit's printer with turns of ours)
import Derived.Test.YtmfffbafldbihaaHx0
import Derived.Test.YtmfffbafldbihaaWOpn
namespace Go.Proofs.Ytmfffbafldbihaa.H
open Go.RowKit Go.Proofs.YtmfffbafldbihaaW.PrintWords Go.Proofs.YtmfffbafldbihaaW.Opn
def Ok22 (x : Int) : Prop := 0 ≤ x ∧ x ≤ 18446744073709551615
theorem o22 : Opens Try.prog 22 (Kd.int .u64) Ok22 := (opens_int Try.underlying22 (by kernel_rfl)).imp (fun _ => bounds_u64)
def Ok24 (x : S24) : Prop := (Ok22 x.f0 ∧ Ok22 x.f1)
theorem o24 : Opens Try.prog 24 k24 Ok24 := opens_struct (fun x : S24 => (x.f0, x.f1)) (fun p_ => ⟨p_.1, p_.2⟩) (fun _ => rfl) Try.underlying24 (by kernel_rfl) (opensF_cons rfl o22 (opensF_last rfl o22))
def Ok5 (x : Int) : Prop := 0 ≤ x ∧ x ≤ 255
theorem o5 : Opens Try.prog 5 (Kd.int .u8) Ok5 := (opens_int Try.underlying5 (by kernel_rfl)).imp (fun _ => bounds_u8)
def Ok9 (x : ByteArray) : Prop := x.size ≤ 140737488351232
theorem o9 : Opens Try.prog 9 Kd.string Ok9 := opens_string Try.underlying9 (by kernel_rfl)
def Ok47 (x : S47) : Prop := (Ok9 x.f0 ∧ (Ok22 x.f1 ∧ Ok5 x.f2))
theorem o47 : Opens Try.prog 47 k47 Ok47 := opens_struct (fun x : S47 => (x.f0, x.f1, x.f2)) (fun p_ => ⟨p_.1, p_.2.1, p_.2.2⟩) (fun _ => rfl) Try.underlying47 (by kernel_rfl) (opensF_cons rfl o9 (opensF_cons rfl o22 (opensF_last rfl o5)))
def Ok41 (x : List (S47)) : Prop := x.length * 32 ≤ 140737488351232 ∧ ∀ y ∈ x, Ok47 y
theorem o41 : Opens Try.prog 41 (Kd.slice 47 k47) Ok41 := (opens_slice Try.underlying41 (by kernel_rfl) o47).imp (fun _ h => by rw [show Try.prog.bytesOf 47 = 32 from by kernel_rfl] at h; exact h)
end Go.Proofs.Ytmfffbafldbihaa.H
