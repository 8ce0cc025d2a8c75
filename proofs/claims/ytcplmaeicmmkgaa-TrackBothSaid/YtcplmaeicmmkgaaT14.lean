/- rutterlaw12: arguments, opened. -/
import Derived.Test.YtcplmaeicmmkgaaT13
import Derived.Test.YtcplmaeicmmkgaaB5
namespace Go.Proofs.Ytcplmaeicmmkgaa
open Go Go.RowKit Go.Proofs.YtcplmaeicmmkgaaW.PrintWords Go.Proofs.YtcplmaeicmmkgaaW.PrintLast Go.Proofs.Ytcplmaeicmmkgaa.PTrackPlays
def G70 (x : S70) : Prop := (Lit.int .i64 x.f0).wf = true ∧ (Lit.int .u32 x.f1).wf = true ∧ (Lit.int .u32 x.f2).wf = true ∧ (Lit.int .i64 x.f3).wf = true ∧ (Lit.int .i64 x.f4).wf = true
def G83 (x : S83) : Prop := G70 x.f0 ∧ (Lit.int .i64 x.f1).wf = true
def G72 (x : S72) : Prop := (Lit.int .u8 x.f0).wf = true ∧ G70 x.f1 ∧ (Lit.int .i64 x.f2).wf = true ∧ ∀ y, y ∈ x.f3 → G83 y
theorem opens70 : Opens Try.prog 70 k70 G70 :=
  opens_struct (fun v => ⟨v.1, v.2.1, v.2.2.1, v.2.2.2.1, v.2.2.2.2⟩) (fun _ => rfl) Try.underlying70 (by kernel_rfl) (opf_cons rfl (by kernel_rfl) (opens_int .i64 Try.underlying3) (opf_cons rfl (by kernel_rfl) (opens_int .u32 Try.underlying68) (opf_cons rfl (by kernel_rfl) (opens_int .u32 Try.underlying68) (opf_cons rfl (by kernel_rfl) (opens_int .i64 Try.underlying3) (opf_one rfl (by kernel_rfl) (opens_int .i64 Try.underlying3))))))
theorem opens83 : Opens Try.prog 83 k83 G83 :=
  opens_struct (fun v => ⟨v.1, v.2⟩) (fun _ => rfl) Try.underlying83 (by kernel_rfl) (opf_cons rfl (by kernel_rfl) opens70 (opf_one rfl (by kernel_rfl) (opens_int .i64 Try.underlying3)))
theorem opens72 : Opens Try.prog 72 k72 G72 :=
  opens_struct (fun v => ⟨v.1, v.2.1, v.2.2.1, v.2.2.2⟩) (fun _ => rfl) Try.underlying72 (by kernel_rfl) (opf_cons rfl (by kernel_rfl) (opens_int .u8 Try.underlying5) (opf_cons rfl (by kernel_rfl) opens70 (opf_cons rfl (by kernel_rfl) (opens_int .i64 Try.underlying3) (opf_one rfl (by kernel_rfl) (opens_slice z83 Try.underlying65 (by kernel_rfl) opens83)))))
theorem opens59 : Opens Try.prog 59 (Kd.slice 72 k72) (fun l => ∀ x, x ∈ l → G72 x) := opens_slice z72 Try.underlying59 (by kernel_rfl) opens72
theorem u8_rg {a : Int} (h : (Lit.int .u8 a).wf = true) : 0 ≤ a ∧ a ≤ 255 := by simp [Lit.wf, show IntKind.u8.min = 0 from rfl, show IntKind.u8.max = 255 from rfl] at h; omega
end Go.Proofs.Ytcplmaeicmmkgaa
