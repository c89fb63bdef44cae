-- laid by wip/hyb.py (the kit's printer with turns of ours)
import Derived.Test.YtagcobdpojeiiaaHx0
import Derived.Test.YtagcobdpojeiiaaWOpn
namespace Go.Proofs.Ytagcobdpojeiiaa.H
open Go.RowKit Go.Proofs.YtagcobdpojeiiaaW.PrintWords Go.Proofs.YtagcobdpojeiiaaW.Opn
def Ok22 (x : Int) : Prop := 0 ≤ x ∧ x ≤ 18446744073709551615
theorem o22 : Opens Try.prog 22 (Kd.int .u64) Ok22 := (opens_int Try.underlying22 (by kernel_rfl)).imp (fun _ => bounds_u64)
def Ok24 (x : S24) : Prop := (Ok22 x.f0 ∧ Ok22 x.f1)
theorem o24 : Opens Try.prog 24 k24 Ok24 := opens_struct (fun x : S24 => (x.f0, x.f1)) (fun p_ => ⟨p_.1, p_.2⟩) (fun _ => rfl) Try.underlying24 (by kernel_rfl) (opensF_cons rfl o22 (opensF_last rfl o22))
def Ok3 (x : Int) : Prop := (-9223372036854775808) ≤ x ∧ x ≤ 9223372036854775807
theorem o3 : Opens Try.prog 3 (Kd.int .i64) Ok3 := (opens_int Try.underlying3 (by kernel_rfl)).imp (fun _ => bounds_i64)
def Ok9 (x : ByteArray) : Prop := x.size ≤ 140737488351232
theorem o9 : Opens Try.prog 9 Kd.string Ok9 := opens_string Try.underlying9 (by kernel_rfl)
def Ok91 (x : S91) : Prop := (Ok9 x.f0 ∧ Ok22 x.f1)
theorem o91 : Opens Try.prog 91 k91 Ok91 := opens_struct (fun x : S91 => (x.f0, x.f1)) (fun p_ => ⟨p_.1, p_.2⟩) (fun _ => rfl) Try.underlying91 (by kernel_rfl) (opensF_cons rfl o9 (opensF_last rfl o22))
def Ok82 (x : List (S91)) : Prop := x.length * 24 ≤ 140737488351232 ∧ ∀ y ∈ x, Ok91 y
theorem o82 : Opens Try.prog 82 (Kd.slice 91 k91) Ok82 := (opens_slice Try.underlying82 (by kernel_rfl) o91).imp (fun _ h => by rw [show Try.prog.bytesOf 91 = 24 from by kernel_rfl] at h; exact h)
def Ok84 (x : S84) : Prop := (Ok3 x.f0 ∧ Ok82 x.f1)
theorem o84 : Opens Try.prog 84 k84 Ok84 := opens_struct (fun x : S84 => (x.f0, x.f1)) (fun p_ => ⟨p_.1, p_.2⟩) (fun _ => rfl) Try.underlying84 (by kernel_rfl) (opensF_cons rfl o3 (opensF_last rfl o82))
def Ok65 (x : List (S84)) : Prop := x.length * 32 ≤ 140737488351232 ∧ ∀ y ∈ x, Ok84 y
theorem o65 : Opens Try.prog 65 (Kd.slice 84 k84) Ok65 := (opens_slice Try.underlying65 (by kernel_rfl) o84).imp (fun _ h => by rw [show Try.prog.bytesOf 84 = 32 from by kernel_rfl] at h; exact h)
def Ok67 (x : S67) : Prop := (Ok9 x.f0 ∧ (Ok22 x.f1 ∧ Ok65 x.f2))
theorem o67 : Opens Try.prog 67 k67 Ok67 := opens_struct (fun x : S67 => (x.f0, x.f1, x.f2)) (fun p_ => ⟨p_.1, p_.2.1, p_.2.2⟩) (fun _ => rfl) Try.underlying67 (by kernel_rfl) (opensF_cons rfl o9 (opensF_cons rfl o22 (opensF_last rfl o65)))
def Ok61 (x : List (S67)) : Prop := x.length * 48 ≤ 140737488351232 ∧ ∀ y ∈ x, Ok67 y
theorem o61 : Opens Try.prog 61 (Kd.slice 67 k67) Ok61 := (opens_slice Try.underlying61 (by kernel_rfl) o67).imp (fun _ h => by rw [show Try.prog.bytesOf 67 = 48 from by kernel_rfl] at h; exact h)
def Ok63 (x : S63) : Prop := (Ok3 x.f0 ∧ Ok61 x.f1)
theorem o63 : Opens Try.prog 63 k63 Ok63 := opens_struct (fun x : S63 => (x.f0, x.f1)) (fun p_ => ⟨p_.1, p_.2⟩) (fun _ => rfl) Try.underlying63 (by kernel_rfl) (opensF_cons rfl o3 (opensF_last rfl o61))
def Ok25 (x : List (S63)) : Prop := x.length * 32 ≤ 140737488351232 ∧ ∀ y ∈ x, Ok63 y
theorem o25 : Opens Try.prog 25 (Kd.slice 63 k63) Ok25 := (opens_slice Try.underlying25 (by kernel_rfl) o63).imp (fun _ h => by rw [show Try.prog.bytesOf 63 = 32 from by kernel_rfl] at h; exact h)
def Ok27 (x : S27) : Prop := (Ok24 x.f0 ∧ (Ok3 x.f1 ∧ (Ok3 x.f2 ∧ (Ok3 x.f3 ∧ (Ok3 x.f4 ∧ Ok25 x.f5)))))
theorem o27 : Opens Try.prog 27 k27 Ok27 := opens_struct (fun x : S27 => (x.f0, x.f1, x.f2, x.f3, x.f4, x.f5)) (fun p_ => ⟨p_.1, p_.2.1, p_.2.2.1, p_.2.2.2.1, p_.2.2.2.2.1, p_.2.2.2.2.2⟩) (fun _ => rfl) Try.underlying27 (by kernel_rfl) (opensF_cons rfl o24 (opensF_cons rfl o3 (opensF_cons rfl o3 (opensF_cons rfl o3 (opensF_cons rfl o3 (opensF_last rfl o25))))))
def Ok59 (x : Int) : Prop := 0 ≤ x ∧ x ≤ 4294967295
end Go.Proofs.Ytagcobdpojeiiaa.H
