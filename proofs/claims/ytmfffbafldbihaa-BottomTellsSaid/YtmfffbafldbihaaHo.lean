-- laid by wip/hyb.py (the kit's printer with turns of ours)
import Derived.Test.YtmfffbafldbihaaHx0
import Derived.Test.YtmfffbafldbihaaWOpn
namespace Go.Proofs.Ytmfffbafldbihaa.H
open Go.RowKit Go.Proofs.YtmfffbafldbihaaW.PrintWords Go.Proofs.YtmfffbafldbihaaW.Opn
def Ok22 (x : Int) : Prop := 0 ≤ x ∧ x ≤ 18446744073709551615
theorem o22 : Opens Try.prog 22 (Kd.int .u64) Ok22 := (opens_int Try.underlying22 (by kernel_rfl)).imp (fun _ => bounds_u64)
def Ok24 (x : S24) : Prop := (Ok22 x.f0 ∧ Ok22 x.f1)
theorem o24 : Opens Try.prog 24 k24 Ok24 := opens_struct (fun x : S24 => (x.f0, x.f1)) (fun p_ => ⟨p_.1, p_.2⟩) (fun _ => rfl) Try.underlying24 (by kernel_rfl) (opensF_cons rfl o22 (opensF_last rfl o22))
def Ok3 (x : Int) : Prop := (-9223372036854775808) ≤ x ∧ x ≤ 9223372036854775807
theorem o3 : Opens Try.prog 3 (Kd.int .i64) Ok3 := (opens_int Try.underlying3 (by kernel_rfl)).imp (fun _ => bounds_i64)
def Ok9 (x : ByteArray) : Prop := x.size ≤ 140737488351232
theorem o9 : Opens Try.prog 9 Kd.string Ok9 := opens_string Try.underlying9 (by kernel_rfl)
def Ok50 (x : S50) : Prop := (Ok22 x.f0 ∧ Ok22 x.f1)
theorem o50 : Opens Try.prog 50 k50 Ok50 := opens_struct (fun x : S50 => (x.f0, x.f1)) (fun p_ => ⟨p_.1, p_.2⟩) (fun _ => rfl) Try.underlying50 (by kernel_rfl) (opensF_cons rfl o22 (opensF_last rfl o22))
def Ok62 (x : S62) : Prop := (Ok9 x.f0 ∧ (Ok22 x.f1 ∧ Ok50 x.f2))
theorem o62 : Opens Try.prog 62 k62 Ok62 := opens_struct (fun x : S62 => (x.f0, x.f1, x.f2)) (fun p_ => ⟨p_.1, p_.2.1, p_.2.2⟩) (fun _ => rfl) Try.underlying62 (by kernel_rfl) (opensF_cons rfl o9 (opensF_cons rfl o22 (opensF_last rfl o50)))
def Ok25 (x : List (S62)) : Prop := x.length * 40 ≤ 140737488351232 ∧ ∀ y ∈ x, Ok62 y
theorem o25 : Opens Try.prog 25 (Kd.slice 62 k62) Ok25 := (opens_slice Try.underlying25 (by kernel_rfl) o62).imp (fun _ h => by rw [show Try.prog.bytesOf 62 = 40 from by kernel_rfl] at h; exact h)
def Ok27 (x : S27) : Prop := (Ok24 x.f0 ∧ (Ok3 x.f1 ∧ Ok25 x.f2))
theorem o27 : Opens Try.prog 27 k27 Ok27 := opens_struct (fun x : S27 => (x.f0, x.f1, x.f2)) (fun p_ => ⟨p_.1, p_.2.1, p_.2.2⟩) (fun _ => rfl) Try.underlying27 (by kernel_rfl) (opensF_cons rfl o24 (opensF_cons rfl o3 (opensF_last rfl o25)))
def Ok5 (x : Int) : Prop := 0 ≤ x ∧ x ≤ 255
theorem o5 : Opens Try.prog 5 (Kd.int .u8) Ok5 := (opens_int Try.underlying5 (by kernel_rfl)).imp (fun _ => bounds_u8)
end Go.Proofs.Ytmfffbafldbihaa.H
