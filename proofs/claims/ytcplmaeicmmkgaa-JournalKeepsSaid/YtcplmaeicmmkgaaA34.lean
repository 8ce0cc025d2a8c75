/- rutterlaw08.JournalKeeps: the law's walk. -/
import Derived.Test.YtcplmaeicmmkgaaA33
import Derived.Test.YtcplmaeicmmkgaaA31
namespace Go.Proofs.Ytcplmaeicmmkgaa
open Go Go.RowKit Go.Proofs.YtcplmaeicmmkgaaW.PrintWords Go.Proofs.YtcplmaeicmmkgaaW.PrintLast
set_option linter.unusedVariables false
set_option linter.unusedSimpArgs false

/-- Slices as values: where, how long, with how much room. -/
structure Hd where
  adr : Option Addr
  len : Nat
  cap : Nat
def Hd.val (h : Hd) : Value := .slice h.adr h.len h.cap
def HD : Kd Hd := Kd.scalar Hd.val (fun _ => rfl)
/-- The slices' bytes. -/
def HdOk (w : World) (hs : List Hd) (P : List (List Int)) : Prop := hs.length = P.length ∧ ∀ (i : Nat) (h : Hd) (b : List Int), hs[i]? = some h → P[i]? = some b → h.len ≤ h.cap ∧ (Kd.int .u8).C w h.adr h.len b
theorem HdOk.below {w w1 : World} {hs : List Hd} {P : List (List Int)} (h : HdOk w hs P) (hb : Below w.heap.size w w1) : HdOk w1 hs P := ⟨h.1, fun i x b hi hp => ⟨(h.2 i x b hi hp).1, C_kp (h.2 i x b hi hp).2 hb⟩⟩
theorem HdOk.snoc {w : World} {hs : List Hd} {P : List (List Int)} (h : HdOk w hs P) (x : Hd) (b : List Int) (hc : x.len ≤ x.cap) (hC : (Kd.int .u8).C w x.adr x.len b) : HdOk w (hs ++ [x]) (P ++ [b]) := by
  refine ⟨by simp [h.1], fun i y c hi hp => ?_⟩
  by_cases hl : i < hs.length
  · rw [List.getElem?_append_left hl] at hi
    rw [List.getElem?_append_left (by have := h.1; omega)] at hp
    exact h.2 i y c hi hp
  · rw [List.getElem?_append_right (by omega)] at hi
    rw [List.getElem?_append_right (by have := h.1; omega)] at hp
    have h0 : i - hs.length = 0 := by
      have := (List.getElem?_eq_some_iff.1 hi).1
      simp at this
      omega
    have h1 : i - P.length = 0 := by have := h.1; omega
    rw [h0] at hi
    rw [h1] at hp
    obtain rfl : x = y := by simpa using hi
    obtain rfl : b = c := by simpa using hp
    exact ⟨hc, hC⟩
/-- Slices that are read, as lists of bytes. -/
theorem BB_of {w : World} {A : Option Addr} {n : Nat} {hs : List Hd} {P : List (List Int)} (h : HD.C w A n hs) (hP : HdOk w hs P) : BB.C w A n P := by
  obtain ⟨h1, h2, h3⟩ := h
  refine ⟨by rw [← hP.1]; exact h1, h2, fun h0 => ?_⟩
  obtain ⟨ad, hA, hc⟩ := h3 h0
  refine ⟨ad, hA, fun j b hj => ?_⟩
  have hjl : j < hs.length := by have := (List.getElem?_eq_some_iff.1 hj).1; have := hP.1; omega
  obtain ⟨x, hx⟩ : ∃ x, hs[j]? = some x := ⟨_, List.getElem?_eq_getElem hjl⟩
  obtain ⟨cs, hcl, hK, hcell⟩ := hc j x hx
  obtain ⟨g1, g2⟩ := hP.2 j x b hx hj
  have hlen : b.length = x.len := g2.1
  refine ⟨cs, hcl, ?_, hcell⟩
  have hcs : cs = [x.val] := hK
  rw [hcs]
  exact ⟨x.adr, x.cap, by rw [hlen]; rfl, by rw [hlen]; exact g1, by rw [hlen]; exact g2⟩
end Go.Proofs.Ytcplmaeicmmkgaa
