/- An argument of acts, opened. -/
import Derived.Test.YtcplmaeicmmkgaaA29
import Derived.Deep.Slices
import Derived.Deep.Fields
import Derived.ChangeSame
import Derived.ProofKit
import Derived.OpenShut
import Derived.KernelRfl
namespace Go.Proofs.Ytcplmaeicmmkgaa
open Go Go.RowKit Go.ChangeShapes Go.WideShapes Go.Deep Go.Proofs.YtcplmaeicmmkgaaW.PrintWords Go.Proofs.YtcplmaeicmmkgaaW.PrintLast
set_option linter.unusedVariables false
set_option linter.unusedSimpArgs false

theorem br_wf {l : List Int} (h : ∀ x ∈ l, (Lit.int .u8 x).wf = true) : BR l := fun x hx => by have := h x hx; simp [Lit.wf, show IntKind.u8.min = 0 from rfl, show IntKind.u8.max = 255 from rfl] at this; omega

set_option maxRecDepth 100000 in
theorem open_acts {H : Type} {enc : TypeId × Value → H} {W : World} {base : Nat} {held : Bool} {fuel : Nat} {cs : List Value} {x : DataW H × List MemPlace} (h : DataW.trod enc Try.prog W base (fun _ => true) held fuel 113 cs = some x) :
    cs = [.slice none 0 0] ∨ ∃ (a : Addr) (len cap : Nat), cs = [.slice (some a) len cap] ∧ len ≤ cap ∧ cap ≤ maxLen ∧ ∀ i, i < len → ∃ act, ActRd W (some a) i act := by
  rcases open_slice Try.underlying113 h with h0 | ⟨a, len, cap, m, n, D, Pl, hcs, hb, hl, hm, hmm, hx, hi⟩
  · exact .inl h0.1
  · refine .inr ⟨a, len, cap, hcs, hl, hm, fun i hil => ?_⟩
    obtain ⟨cs', hc, ht'⟩ := hi i (by rw [hmm]; split <;> omega)
    have h3 : Try.prog.cellsOf 129 = 3 := by kernel_rfl
    rw [h3] at hc
    obtain ⟨ys, n', hn', hy, hlen, hyl, hf⟩ := DataW.trod_struct Try.underlying129 ht'
    obtain ⟨_, hcl, hat⟩ := World.cells?_some hc
    have k5 : Try.prog.cellsOf 5 = 1 := by kernel_rfl
    have k32 : Try.prog.cellsOf 32 = 1 := by kernel_rfl
    have k3 : Try.prog.cellsOf 3 = 1 := by kernel_rfl
    match cs', hcl, ys, hyl with
    | [c0, c1, c2], _, [y0, y1, y2], _ =>
      have f0 := hf 0 _ rfl
      have f1 := hf 1 _ rfl
      have f2 := hf 2 _ rfl
      change DataW.trod enc Try.prog W base (fun _ => true) held n' 5 ((([c0, c1, c2] : List Value).drop 0).take (Try.prog.cellsOf 5)) = some y0 at f0
      change DataW.trod enc Try.prog W base (fun _ => true) held n' 32 ((([c0, c1, c2] : List Value).drop 1).take (Try.prog.cellsOf 32)) = some y1 at f1
      change DataW.trod enc Try.prog W base (fun _ => true) held n' 3 ((([c0, c1, c2] : List Value).drop 2).take (Try.prog.cellsOf 3)) = some y2 at f2
      rw [k5] at f0
      rw [k32] at f1
      rw [k3] at f2
      have g0 : DataW.trod enc Try.prog W base (fun _ => true) held n' 5 [c0] = some y0 := f0
      have g1 : DataW.trod enc Try.prog W base (fun _ => true) held n' 32 [c1] = some y1 := f1
      have g2 : DataW.trod enc Try.prog W base (fun _ => true) held n' 3 [c2] = some y2 := f2
      obtain ⟨q0, e0, -, w0⟩ := DataW.trod_int Try.underlying5 g0
      obtain ⟨q2, e2, -, w2⟩ := DataW.trod_int Try.underlying3 g2
      obtain rfl : c0 = .int .u8 q0 := by simpa using e0
      obtain rfl : c2 = .int .i64 q2 := by simpa using e2
      have h0 := hat 0 (by decide)
      have h1 := hat 1 (by decide)
      have h2 := hat 2 (by decide)
      simp only [List.getElem?_cons_zero, List.getElem?_cons_succ] at h0 h1 h2
      have a0 : (a.add (i * 3)).add 0 = a.add (i * 3) := by simp [Addr.add]
      have a1 : (a.add (i * 3)).add 1 = ⟨(a.add (i * 3)).block, (a.add (i * 3)).off + 1, none⟩ := by simp [Addr.add]
      have a2 : (a.add (i * 3)).add 2 = ⟨(a.add (i * 3)).block, (a.add (i * 3)).off + 2, none⟩ := by simp [Addr.add]
      rw [a0] at h0
      rw [a1] at h1
      rw [a2] at h2
      have hk : 0 ≤ q0 ∧ q0 ≤ 255 := br_wf (l := [q0]) (by simpa using w0) q0 (by simp)
      rcases open_ints Try.underlying32 Try.underlying5 (by kernel_rfl) g1 with ⟨e1, _⟩ | ⟨x1, l1, cc1, zs, e1, _, hl1, hm1, hz, _, hcell, hwz⟩
      · obtain rfl : c1 = .slice none 0 0 := by simpa using e1
        refine ⟨⟨q0, [], q2⟩, a, none, 0, 0, rfl, h0, h1, h2, Nat.le_refl _, ⟨rfl, by decide, fun hh => absurd hh (by decide)⟩, BR.nil, hk⟩
      · obtain rfl : c1 = .slice (some x1) l1 cc1 := by simpa using e1
        obtain ⟨bs, rfl, hr, hmx, hw, hc'⟩ := ReadsInt.ofRowC (k := .u8) (w := W) (a := some x1) (len := l1) (cap := cc1) (zs := zs) (.inr ⟨x1, rfl, hl1, hm1, by simpa using hz, hcell, hwz⟩)
        exact ⟨⟨q0, bs, q2⟩, a, some x1, bs.length, cc1, rfl, h0, h1, h2, hc', Kd.C_of_reads (d := (0 : Int)) (h1 := fun _ => rfl) hr, br_wf hw, hk⟩

theorem open_actsC {W : World} {a : Option Addr} {len : Nat} (h : ∀ i, i < len → ∃ act, ActRd W a i act) : ∃ l, ActsC W a len l := by
  have hex : ∀ i, ∃ act, i < len → ActRd W a i act := fun i => by
    by_cases hi : i < len
    · obtain ⟨act, ha⟩ := h i hi
      exact ⟨act, fun _ => ha⟩
    · exact ⟨⟨0, [], 0⟩, fun hh => absurd hh hi⟩
  refine ⟨(List.range len).map fun i => Classical.choose (hex i), by simp, fun i act hi => ?_⟩
  rw [List.getElem?_map] at hi
  by_cases hil : i < len
  · rw [List.getElem?_range hil] at hi
    obtain rfl : Classical.choose (hex i) = act := by simpa using hi
    exact Classical.choose_spec (hex i) hil
  · rw [List.getElem?_eq_none (by simpa using hil)] at hi
    cases hi
end Go.Proofs.Ytcplmaeicmmkgaa
