-- laid by wip/hyb.py (the kit's printer with turns of ours)
import Derived.Test.YtojpmjkphgjmgaaHx0
import Derived.Test.YtojpmjkphgjmgaaWOpn
namespace Go.Proofs.Ytojpmjkphgjmgaa.H
open Go.RowKit Go.Proofs.YtojpmjkphgjmgaaW.PrintWords Go.Proofs.YtojpmjkphgjmgaaW.Opn
def Ok22 (x : Int) : Prop := 0 ≤ x ∧ x ≤ 18446744073709551615
theorem o22 : Opens Try.prog 22 (Kd.int .u64) Ok22 := (opens_int Try.underlying22 (by kernel_rfl)).imp (fun _ => bounds_u64)
def Ok24 (x : S24) : Prop := (Ok22 x.f0 ∧ Ok22 x.f1)
theorem o24 : Opens Try.prog 24 k24 Ok24 := opens_struct (fun x : S24 => (x.f0, x.f1)) (fun p_ => ⟨p_.1, p_.2⟩) (fun _ => rfl) Try.underlying24 (by kernel_rfl) (opensF_cons rfl o22 (opensF_last rfl o22))
def Ok4 (_ : Bool) : Prop := True
theorem o4 : Opens Try.prog 4 Kd.bool Ok4 := opens_bool Try.underlying4 (by kernel_rfl)
def Ok9 (x : ByteArray) : Prop := x.size ≤ 140737488351232
theorem o9 : Opens Try.prog 9 Kd.string Ok9 := opens_string Try.underlying9 (by kernel_rfl)
def Ok3 (x : Int) : Prop := (-9223372036854775808) ≤ x ∧ x ≤ 9223372036854775807
theorem o3 : Opens Try.prog 3 (Kd.int .i64) Ok3 := (opens_int Try.underlying3 (by kernel_rfl)).imp (fun _ => bounds_i64)
def Ok60 (x : S60) : Prop := (Ok4 x.f0 ∧ (Ok9 x.f1 ∧ Ok3 x.f2))
theorem o60 : Opens Try.prog 60 k60 Ok60 := opens_struct (fun x : S60 => (x.f0, x.f1, x.f2)) (fun p_ => ⟨p_.1, p_.2.1, p_.2.2⟩) (fun _ => rfl) Try.underlying60 (by kernel_rfl) (opensF_cons rfl o4 (opensF_cons rfl o9 (opensF_last rfl o3)))
def Ok25 (x : List (S60)) : Prop := x.length * 32 ≤ 140737488351232 ∧ ∀ y ∈ x, Ok60 y
theorem o25 : Opens Try.prog 25 (Kd.slice 60 k60) Ok25 := (opens_slice Try.underlying25 (by kernel_rfl) o60).imp (fun _ h => by rw [show Try.prog.bytesOf 60 = 32 from by kernel_rfl] at h; exact h)
def Ok27 (x : S27) : Prop := (Ok24 x.f0 ∧ Ok25 x.f1)
theorem o27 : Opens Try.prog 27 k27 Ok27 := opens_struct (fun x : S27 => (x.f0, x.f1)) (fun p_ => ⟨p_.1, p_.2⟩) (fun _ => rfl) Try.underlying27 (by kernel_rfl) (opensF_cons rfl o24 (opensF_last rfl o25))
def Ok56 (x : S56) : Prop := (Ok4 x.f0 ∧ (Ok9 x.f1 ∧ Ok3 x.f2))
theorem o56 : Opens Try.prog 56 k56 Ok56 := opens_struct (fun x : S56 => (x.f0, x.f1, x.f2)) (fun p_ => ⟨p_.1, p_.2.1, p_.2.2⟩) (fun _ => rfl) Try.underlying56 (by kernel_rfl) (opensF_cons rfl o4 (opensF_cons rfl o9 (opensF_last rfl o3)))
def Ok51 (x : List (S56)) : Prop := x.length * 32 ≤ 140737488351232 ∧ ∀ y ∈ x, Ok56 y
theorem o51 : Opens Try.prog 51 (Kd.slice 56 k56) Ok51 := (opens_slice Try.underlying51 (by kernel_rfl) o56).imp (fun _ h => by rw [show Try.prog.bytesOf 56 = 32 from by kernel_rfl] at h; exact h)
def Ok53 (x : List ByteArray) : Prop := x.length * 16 ≤ 140737488351232 ∧ ∀ y ∈ x, Ok9 y
theorem o53 : Opens Try.prog 53 (Kd.slice 9 Kd.string) Ok53 := (opens_slice Try.underlying53 (by kernel_rfl) o9).imp (fun _ h => by rw [show Try.prog.bytesOf 9 = 16 from by kernel_rfl] at h; exact h)
end Go.Proofs.Ytojpmjkphgjmgaa.H
