/- rutterlaw18: one net: its calls. -/
import Derived.Test.YtnphlghiicbjjaaN22
namespace Go.Proofs.Ytnphlghiicbjjaa
open Go Go.RowKit Go.Proofs.YtnphlghiicbjjaaW.PrintWords Go.Proofs.YtnphlghiicbjjaaW.PrintLast Go.Proofs.Ytnphlghiicbjjaa.PNetPlays
set_option linter.unusedVariables false
set_option linter.unusedSimpArgs false

/-- The wanted items, in their own blocks. -/
def QW (v : Value) (ys : List S49) (w : World) (F : Nat → Prop) : Prop := k49.R 49 w 0 F v ys
theorem QW.stands {v : Value} {ys : List S49} : Stands (QW v ys) := fun _ _ _ _ h hk hd => R_kp h hk (fun k _ hf => hd k hf)
section
variable {O : Nat → Prop} {w : World} {b : Nat} {xs : List S40} {r : Int} {q : Nat}
theorem one_len (h : One O w (PN b xs r q)) : Calls Try.prog 14 #[.pointer (some ⟨b, 0, none⟩)] w (fun e w' => e = .returned (.int .i64 (xs.length : Nat)) ∧ w' = w) := by
  obtain ⟨F, hF, h2⟩ := h
  exact len_any w F b xs r q hF
theorem one_lost (h : One O w (PN b xs r q)) (hq : q ≤ 1000000000) : Calls Try.prog 15 #[.pointer (some ⟨b, 0, none⟩)] w (fun e w' => e = .returned (.int .i64 (q : Nat)) ∧ w' = w) := by
  obtain ⟨F, hF, h2⟩ := h
  exact lost_any w F b xs r q hF ⟨by omega, by omega⟩
theorem one_take_no (h : One O w (PN b xs r q)) (i : Int) (hi : i < 0 ∨ (xs.length : Int) ≤ i) :
    Calls Try.prog 17 #[.pointer (some ⟨b, 0, none⟩), .int .i64 i] w (fun e w' => e = .returned (.tuple #[.agg #[.int .i64 0, .int .i64 0, .slice none 0 0], .int .i64 4]) ∧ One O w' (PN b xs r q) ∧ KpO O w w') := by
  obtain ⟨F, hF, h2⟩ := h
  refine (take_no w F b xs r q hF i hi).mono ?_
  rintro e w' ⟨he, hb⟩
  exact ⟨he, One.below PN.stands ⟨F, hF, h2⟩ hb, KpO.of_below hb⟩
theorem one_dbl_no (h : One O w (PN b xs r q)) (i : Int) (hi : i < 0 ∨ (xs.length : Int) ≤ i) :
    Calls Try.prog 18 #[.pointer (some ⟨b, 0, none⟩), .int .i64 i] w (fun e w' => e = .returned (.int .i64 4) ∧ One O w' (PN b xs r q) ∧ KpO O w w') := by
  obtain ⟨F, hF, h2⟩ := h
  refine (dbl_no w F b xs r q hF i hi).mono ?_
  rintro e w' ⟨he, hb⟩
  exact ⟨he, One.below PN.stands ⟨F, hF, h2⟩ hb, KpO.of_below hb⟩
theorem one_dbl_full (h : One O w (PN b xs r q)) (hS : SzI xs) (i : Int) (h0 : 0 ≤ i) (hi : i < (xs.length : Int)) (hr : r ≤ xs.length) :
    Calls Try.prog 18 #[.pointer (some ⟨b, 0, none⟩), .int .i64 i] w (fun e w' => e = .returned (.int .i64 3) ∧ One O w' (PN b xs r q) ∧ KpO O w w') := by
  obtain ⟨F, hF, h2⟩ := h
  refine (dbl_full w F b xs r q hF hS i h0 hi hr).mono ?_
  rintro e w' ⟨he, hb⟩
  exact ⟨he, One.below PN.stands ⟨F, hF, h2⟩ hb, KpO.of_below hb⟩
theorem one_at (h : One O w (PN b xs r q)) (hS : SzI xs) (i : Int) (h0 : 0 ≤ i) (hi : i < (xs.length : Int)) :
    Calls Try.prog 16 #[.pointer (some ⟨b, 0, none⟩), .int .i64 i] w (RetIE w (rd_T40 xs i)) := by
  obtain ⟨F, hF, h2⟩ := h
  exact at_ok w F b xs r q hF hS i h0 hi
end
theorem C_one36 (w : World) (B : Option Addr) (cb : Nat) (more : List S40) (hD : k40.C w B more.length more) (hd : more.length ≤ cb) :
    k36.C (w.alloc (.cells #[.int .u8 0, .slice B more.length cb, .int .i64 0] 36)) (some ⟨w.heap.size, 0, none⟩) 1 [⟨0, more, 0⟩] := by
  refine C_of_blk (xs := [(⟨0, more, 0⟩ : S36)]) (abk w (.int .u8 0) (.slice B more.length cb) (.int .i64 0)) (by simp) (fun j x hj => ?_)
  have hs : k36.sz = 3 := rfl
  rw [hs]
  match j, hj with
  | 0, hj =>
    obtain rfl : (⟨0, more, 0⟩ : S36) = x := by simpa using hj
    exact ⟨_, rfl, k36_mk _ ⟨0, more, 0⟩ hd (C_kp hD (below_alloc (Below.refl _ _) _)), fun i u hu => by
      match i, hu with
      | 0, hu => exact hu
      | 1, hu => exact hu
      | 2, hu => exact hu⟩
/-- What the first loop knows: the net, how many were taken, how many were put. -/
def KI (O : Nat → Prop) (w wr : World) (b : Nat) (xs : List S40) (s : Int) (q t p : Nat) : Prop := One O wr (PN b xs s q) ∧ OkS xs ∧ (xs.length : Int) ≤ s ∧ KpO O w wr ∧ xs.length + t + q = p
theorem KI.below {O : Nat → Prop} {w wr w1 : World} {b : Nat} {xs : List S40} {s : Int} {q t p : Nat} (h : KI O w wr b xs s q t p) (hb : Below wr.heap.size wr w1) : KI O w w1 b xs s q t p :=
  ⟨One.below PN.stands h.1 hb, h.2.1, h.2.2.1, h.2.2.2.1.trans (KpO.of_below hb), h.2.2.2.2⟩
theorem putAll_pre (r : Int) (xs : List S40) (q : Nat) (l : List S40) : ∃ ys, (putAll r (xs, 0, q) l).1 = xs ++ ys := by
  induction l using snoc_ind with
  | h0 => exact ⟨[], by simp [putAll]⟩
  | hs l x ih =>
    obtain ⟨ys, h⟩ := ih
    rw [putAll_snoc]
    unfold putStep
    split
    · exact ⟨ys ++ [x], by simp [h]⟩
    · exact ⟨ys, h⟩
theorem putAll_fst (r : Int) (xs : List S40) (q : Nat) (l : List S40) (x : S40) : (putAll r (xs, 0, q) (l ++ [x])).1 = if okI x = true ∧ ((putAll r (xs, 0, q) l).1.length : Int) < r then (putAll r (xs, 0, q) l).1 ++ [x] else (putAll r (xs, 0, q) l).1 := by
  rw [putAll_snoc]
  unfold putStep
  split <;> rfl
theorem putAll_ok (r : Int) (xs : List S40) (q : Nat) (l : List S40) (hS : OkS xs) : OkS (putAll r (xs, 0, q) l).1 := by
  induction l using snoc_ind with
  | h0 => exact hS
  | hs l x ih =>
    rw [putAll_fst]
    split
    · rename_i hx
      intro y hy
      rcases List.mem_append.1 hy with hy | hy
      · exact ih y hy
      · obtain rfl : y = x := by simpa using hy
        exact hx.1
    · exact ih
end Go.Proofs.Ytnphlghiicbjjaa
