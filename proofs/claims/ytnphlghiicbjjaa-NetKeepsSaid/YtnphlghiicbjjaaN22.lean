/- rutterlaw18: arguments, opened. -/
import Derived.Test.YtnphlghiicbjjaaN21
import Derived.Test.YtnphlghiicbjjaaB5
namespace Go.Proofs.Ytnphlghiicbjjaa
open Go Go.RowKit Go.Proofs.YtnphlghiicbjjaaW.PrintWords Go.Proofs.YtnphlghiicbjjaaW.PrintLast Go.Proofs.Ytnphlghiicbjjaa.PNetPlays
def G40 (x : S40) : Prop := (Lit.int .i64 x.f0).wf = true ∧ (Lit.int .i64 x.f1).wf = true ∧ ∀ y, y ∈ x.f2 → (Lit.int .u8 y).wf = true
def G36 (x : S36) : Prop := (Lit.int .u8 x.f0).wf = true ∧ (∀ y, y ∈ x.f1 → G40 y) ∧ (Lit.int .i64 x.f2).wf = true
theorem opens40 : Opens Try.prog 40 k40 G40 :=
  opens_struct (fun v => ⟨v.1, v.2.1, v.2.2⟩) (fun _ => rfl) Try.underlying40 (by kernel_rfl) (opf_cons rfl (by kernel_rfl) (opens_int .i64 Try.underlying3) (opf_cons rfl (by kernel_rfl) (opens_int .i64 Try.underlying3) (opf_one rfl (by kernel_rfl) (opens_slice 0 Try.underlying38 (by kernel_rfl) (opens_int .u8 Try.underlying5)))))
theorem opens36 : Opens Try.prog 36 k36 G36 :=
  opens_struct (fun v => ⟨v.1, v.2.1, v.2.2⟩) (fun _ => rfl) Try.underlying36 (by kernel_rfl) (opf_cons rfl (by kernel_rfl) (opens_int .u8 Try.underlying5) (opf_cons rfl (by kernel_rfl) (opens_slice z40 Try.underlying34 (by kernel_rfl) opens40) (opf_one rfl (by kernel_rfl) (opens_int .i64 Try.underlying3))))
theorem opens22 : Opens Try.prog 22 (Kd.slice 36 k36) (fun l => ∀ x, x ∈ l → G36 x) := opens_slice z36 Try.underlying22 (by kernel_rfl) opens36
theorem opens34 : Opens Try.prog 34 (Kd.slice 40 k40) (fun l => ∀ x, x ∈ l → G40 x) := opens_slice z40 Try.underlying34 (by kernel_rfl) opens40
theorem u8_rg {a : Int} (h : (Lit.int .u8 a).wf = true) : 0 ≤ a ∧ a ≤ 255 := by simp [Lit.wf, show IntKind.u8.min = 0 from rfl, show IntKind.u8.max = 255 from rfl] at h; omega
end Go.Proofs.Ytnphlghiicbjjaa
