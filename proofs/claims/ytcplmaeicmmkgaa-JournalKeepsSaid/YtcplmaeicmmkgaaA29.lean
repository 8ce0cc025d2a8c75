/- Acts that came in; rutterlaw08.Fits. -/
import Derived.Test.YtcplmaeicmmkgaaA28
namespace Go.Proofs.Ytcplmaeicmmkgaa
open Go Go.RowKit Go.Proofs.YtcplmaeicmmkgaaW.PrintWords Go.Proofs.YtcplmaeicmmkgaaW.PrintLast
set_option linter.unusedVariables false
set_option linter.unusedSimpArgs false

/-- An act: its kind, its body, its number. -/
structure ActV where
  kind : Int
  body : List Int
  num : Int
/-- The act at place i. -/
def ActRd (w : World) (A : Option Addr) (i : Nat) (a : ActV) : Prop :=
  ∃ ad Bv bn bc, A = some ad ∧ w.cell? (ad.add (i * 3)) = some (.int .u8 a.kind) ∧ w.cell? ⟨(ad.add (i * 3)).block, (ad.add (i * 3)).off + 1, none⟩ = some (.slice Bv bn bc) ∧ w.cell? ⟨(ad.add (i * 3)).block, (ad.add (i * 3)).off + 2, none⟩ = some (.int .i64 a.num) ∧ bn ≤ bc ∧ (Kd.int .u8).C w Bv bn a.body ∧ BR a.body ∧ 0 ≤ a.kind ∧ a.kind ≤ 255
def ActsC (w : World) (A : Option Addr) (n : Nat) (l : List ActV) : Prop := l.length = n ∧ ∀ i a, l[i]? = some a → ActRd w A i a
theorem ActRd.below {w w1 : World} {A : Option Addr} {i : Nat} {a : ActV} (h : ActRd w A i a) (hb : Below w.heap.size w w1) : ActRd w1 A i a := by
  obtain ⟨ad, Bv, bn, bc, hA, h1, h2, h3, h4, h5, h6⟩ := h
  have hc : ∀ (p : Addr) (v : Value), w.cell? p = some v → w1.cell? p = some v := fun p v h => (World.cell?_of_block (hb.block _ (World.block_lt_of_cell? _ _ h))).trans h
  exact ⟨ad, Bv, bn, bc, hA, hc _ _ h1, hc _ _ h2, hc _ _ h3, h4, C_kp h5 hb, h6⟩
theorem ActsC.below {w w1 : World} {A : Option Addr} {n : Nat} {l : List ActV} (h : ActsC w A n l) (hb : Below w.heap.size w w1) : ActsC w1 A n l := ⟨h.1, fun i a hi => (h.2 i a hi).below hb⟩

def FitsPost (w : World) (l : List ActV) (e : Ending) (w' : World) : Prop :=
  ∃ ok : Bool, e = .returned (.bool ok) ∧ (ok = true → l.length ≤ 60 ∧ ∀ a, a ∈ l → a.body.length ≤ 3000) ∧ w' = w
set_option maxHeartbeats 1000000 in
theorem fits_any (w : World) (A : Option Addr) (n c : Nat) (l : List ActV) (hC : ActsC w A n l) (hn : n ≤ 9223372036854775807) : Calls Try.prog 58 #[.slice A n c] w (FitsPost w l) := by
  have HC := Lib.hid hC
  have Hl := Lib.hid hC.1
  clear hC
  go_enter Try.func58, Try.ntmps58
  go_wp2_with fail
  go_loopw [3] (fun vi wr => ∃ k : Nat, k ≤ n ∧ k ≤ 61 ∧ vi = .int .i64 k ∧ (∀ i a, i < k → l[i]? = some a → a.body.length ≤ 3000) ∧ wr = w) (fun vi _ => n - (intOf vi).toNat)
  case atStart => exact ⟨0, Nat.zero_le _, by omega, rfl, fun i a h => by omega, by first | rfl | trivial⟩
  case round =>
    obtain ⟨k, hk, hk6, rfl, hall, hw⟩ := hrel
    subst hw
    have Hall := Lib.hid hall
    clear hall
    by_cases hlt : k < n
    · have d0 : decide (k < n) = true := decide_eq_true hlt
      by_cases h60 : (k : Int) ≤ 60
      · have d1 : decide ((k : Int) ≤ 60) = true := decide_eq_true h60
        obtain ⟨a, ha⟩ : ∃ a, l[k]? = some a := ⟨_, List.getElem?_eq_getElem (by have := Hl.out; omega)⟩
        obtain ⟨ad, Bv, bn, bc, rfl, h1, h2, h3, h4, h5, h6⟩ := HC.out.2 k a ha
        have hbl := h5.1
        have Ha := Lib.hid (And.intro ha hbl)
        clear ha h1 h3 h5 h6 hbl
        have hw1 : IntKind.i64.wrap ((k : Int) + 1) = (k : Int) + 1 := IntWalk.i64_in _ (by omega)
        by_cases hb : (3000 : Int) < bn
        · have d2 : decide ((3000 : Int) < bn) = true := decide_eq_true hb
          go_wp2_with fail
          go_ret
          exact ⟨false, rfl, (fun h => by cases h), rfl⟩
        · have d2 : decide ((3000 : Int) < bn) = false := decide_eq_false hb
          have Hb := Lib.hid (show bn ≤ 3000 by omega)
          clear hb
          go_wp2_with fail
          go_roundw
          case rel => exact ⟨k + 1, by omega, by omega, by go_num, fun i a hi hla => by
            by_cases hik : i < k
            · exact Hall.out i a hik hla
            · have : i = k := by omega
              subst this
              have := Ha.out.1.symm.trans hla
              cases this
              rw [Ha.out.2]; exact Hb.out, by first | rfl | trivial⟩
          case measure => simp [intOf] <;> omega
      · have d1 : decide ((k : Int) ≤ 60) = false := decide_eq_false h60
        have hn6 : decide ((n : Int) ≤ 60) = false := decide_eq_false (by omega)
        go_wp2_with fail
        go_ret
        exact ⟨false, rfl, (fun h => by cases h), rfl⟩
    · have hkn : k = n := by omega
      subst hkn
      have d0 : decide (k < k) = false := decide_eq_false (by omega)
      by_cases h60 : (k : Int) ≤ 60
      · have hn6 : decide ((k : Int) ≤ 60) = true := decide_eq_true h60
        have Hfin := Lib.hid (show l.length ≤ 60 ∧ ∀ a, a ∈ l → a.body.length ≤ 3000 from ⟨by have := Hl.out; omega, fun a ha => by
          obtain ⟨i, hi⟩ := List.getElem?_of_mem ha
          exact Hall.out i a (by have := (List.getElem?_eq_some_iff.1 hi).1; have := Hl.out; omega) hi⟩)
        go_wp2_with fail
        go_ret
        exact ⟨true, rfl, fun _ => Hfin.out, rfl⟩
      · have hn6 : decide ((k : Int) ≤ 60) = false := decide_eq_false h60
        go_wp2_with fail
        go_ret
        exact ⟨false, rfl, (fun h => by cases h), rfl⟩
end Go.Proofs.Ytcplmaeicmmkgaa
