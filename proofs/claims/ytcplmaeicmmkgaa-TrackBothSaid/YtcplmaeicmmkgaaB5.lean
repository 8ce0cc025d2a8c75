/- Arguments that are read, opened: numbers, strings, structs and slices of what opens. -/
import Derived.Test.YtcplmaeicmmkgaaB2
import Derived.Deep.Slices
import Derived.ChangeArms
import Derived.ChangeSame
import Derived.ProofKit
import Derived.OpenShut
namespace Go.Proofs.Ytcplmaeicmmkgaa
open Go Go.RowKit Go.ChangeShapes Go.WideShapes Go.Deep Go.Proofs.YtcplmaeicmmkgaaW.PrintWords Go.Proofs.YtcplmaeicmmkgaaW.PrintLast
set_option linter.unusedVariables false

theorem addr_add_add (a : Addr) (i j : Nat) : a.add (i + j) = (a.add i).add j := by
  unfold Addr.add
  by_cases hi : i = 0 <;> by_cases hj : j = 0 <;> simp [hi, hj] <;> omega
/-- What can be read at the type t is of the kind d, and meets G. -/
def Opens (P : Program) (t : TypeId) {α : Type} (d : Kd α) (G : α → Prop) : Prop :=
  ∀ (H : Type) (enc : TypeId × Value → H) (W : World) (base : Nat) (held : Bool) (fuel : Nat) (cs : List Value) (x : DataW H × List MemPlace), DataW.trod enc P W base (fun _ => true) held fuel t cs = some x → ∃ v, d.K W v cs ∧ G v
section
variable {P : Program} {t e : TypeId} {α β : Type} {d : Kd α} {G : α → Prop}
theorem opens_int (k : IntKind) (ht : P.underlying t = some (.int k)) : Opens P t (Kd.int k) (fun n => (Lit.int k n).wf = true) := by
  intro H enc W base held fuel cs x h
  obtain ⟨q, hc, -, hw⟩ := DataW.trod_int ht h
  exact ⟨q, hc, by simpa using hw⟩
theorem opens_bool (ht : P.underlying t = some .bool) : Opens P t Kd.bool (fun _ => True) := by
  intro H enc W base held fuel cs x h
  obtain ⟨q, hc, -⟩ := DataW.trod_bool ht h
  exact ⟨q, hc, trivial⟩
theorem opens_string (ht : P.underlying t = some .string) : Opens P t Kd.string (fun _ => True) := by
  intro H enc W base held fuel cs x h
  obtain ⟨q, hc, -⟩ := DataW.trod_string ht h
  exact ⟨q, hc, trivial⟩
theorem opens_slice (z : α) (ht : P.underlying t = some (.slice e)) (he : P.cellsOf e = d.sz) (h : Opens P e d G) : Opens P t (Kd.slice e d) (fun l => ∀ x, x ∈ l → G x) := by
  intro H enc W base held fuel cs x hx
  rcases open_slice ht hx with h0 | ⟨a, len, cap, m, n, D, Pl, hcs, hb, hl, hm, hmm, hxx, hi⟩
  · exact ⟨[], ⟨none, 0, h0.1, Nat.le_refl _, Kd.C_nil d W⟩, fun x hx => nomatch hx⟩
  · have hex : ∀ i, ∃ v, i < len → (∃ c, c.length = d.sz ∧ d.K W v c ∧ ∀ j u, c[j]? = some u → W.cell? (a.add (i * d.sz + j)) = some u) ∧ G v := by
      intro i
      by_cases hil : i < len
      · obtain ⟨cs', hc, ht'⟩ := hi i (by rw [hmm]; split <;> omega)
        rw [he] at hc
        obtain ⟨v, hK, hG⟩ := h H enc W base held n cs' _ ht'
        obtain ⟨_, hcl, hat⟩ := World.cells?_some hc
        refine ⟨v, fun _ => ⟨⟨cs', hcl, hK, fun j u hu => ?_⟩, hG⟩⟩
        have hj : j < d.sz := by rw [← hcl]; exact (List.getElem?_eq_some_iff.1 hu).1
        have := hat j hj
        rw [hu] at this
        rw [← this]
        congr 1
        exact addr_add_add a _ _
      · exact ⟨z, fun hh => absurd hh hil⟩
    refine ⟨(List.range len).map fun i => Classical.choose (hex i), ⟨some a, cap, by rw [hcs]; simp, by simpa using hl, by simp, by simp; unfold maxLen at hm; omega, fun h0 => ⟨a, rfl, fun j p hj => ?_⟩⟩, fun x hx => ?_⟩
    · rw [List.getElem?_map] at hj
      by_cases hil : j < len
      · rw [List.getElem?_range hil] at hj
        obtain rfl : Classical.choose (hex j) = p := by simpa using hj
        exact (Classical.choose_spec (hex j) hil).1
      · rw [List.getElem?_eq_none (by simpa using hil)] at hj
        cases hj
    · obtain ⟨j, hj, rfl⟩ := List.mem_map.1 hx
      exact (Classical.choose_spec (hex j) (by simpa using hj)).2
/-- The fields of a struct, from the place o on. -/
def OpF (P : Program) (fs : List Field) (o : Nat) {α : Type} (d : Kd α) (G : α → Prop) : Prop :=
  ∀ (H : Type) (enc : TypeId × Value → H) (W : World) (base : Nat) (held : Bool) (n : Nat) (cs : List Value), (∀ f, f ∈ fs → ∃ y, DataW.trod enc P W base (fun _ => true) held n f.type ((cs.drop f.offset).take (P.cellsOf f.type)) = some y) → cs.length = o + d.sz → ∃ v, d.K W v (cs.drop o) ∧ G v
theorem opf_one {f : Field} {o : Nat} (hf : f.offset = o) (hc : P.cellsOf f.type = d.sz) (h : Opens P f.type d G) : OpF P [f] o d G := by
  intro H enc W base held n cs hy hl
  obtain ⟨y, hy⟩ := hy f (by simp)
  obtain ⟨v, hK, hG⟩ := h H enc W base held n _ y hy
  rw [hf, hc, List.take_of_length_le (by rw [List.length_drop]; omega)] at hK
  exact ⟨v, hK, hG⟩
theorem opf_cons {f : Field} {fs : List Field} {o : Nat} {b : Kd β} {Gb : β → Prop} (hf : f.offset = o) (hc : P.cellsOf f.type = d.sz) (h : Opens P f.type d G) (hr : OpF P fs (o + d.sz) b Gb) : OpF P (f :: fs) o (Kd.pair d b) (fun v => G v.1 ∧ Gb v.2) := by
  intro H enc W base held n cs hy hl
  obtain ⟨y, hy0⟩ := hy f (by simp)
  obtain ⟨v, hK, hG⟩ := h H enc W base held n _ y hy0
  obtain ⟨u, hK2, hG2⟩ := hr H enc W base held n cs (fun g hg => hy g (by simp [hg])) (by rw [hl]; show o + (d.sz + b.sz) = _; omega)
  rw [hf, hc] at hK
  refine ⟨(v, u), ⟨_, _, ?_, hK, hK2⟩, hG, hG2⟩
  rw [← List.drop_drop, List.take_append_drop]
theorem opens_struct {fs : Array Field} {f : β → α} (g : α → β) (hg : ∀ v, f (g v) = v) (ht : P.underlying t = some (.struct fs)) (hc : P.cellsOf t = d.sz) (h : OpF P fs.toList 0 d G) : Opens P t (Kd.iso d f) (fun x => G (f x)) := by
  intro H enc W base held fuel cs x hx
  obtain ⟨ys, n, -, -, hl, hyl, hf⟩ := DataW.trod_struct ht hx
  obtain ⟨v, hK, hG⟩ := h H enc W base held n cs (fun f hfm => by
    obtain ⟨i, hi, rfl⟩ := List.mem_iff_getElem.1 hfm
    have hi' : i < fs.size := by simpa using hi
    have := hf i fs[i] (Array.getElem?_eq_getElem hi')
    rw [List.getElem?_eq_getElem (by omega)] at this
    exact ⟨_, by simpa using this⟩) (by rw [hl, hc]; omega)
  exact ⟨g v, by show d.K W (f (g v)) cs; rw [hg]; simpa using hK, by show G (f (g v)); rw [hg]; exact hG⟩
end
end Go.Proofs.Ytcplmaeicmmkgaa
