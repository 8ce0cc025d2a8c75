/- journal.Encode. -/
import Derived.Test.YtcplmaeicmmkgaaA7
namespace Go.Proofs.Ytcplmaeicmmkgaa
open Go Go.RowKit Go.Proofs.YtcplmaeicmmkgaaW.PrintWords Go.Proofs.YtcplmaeicmmkgaaW.PrintLast
set_option linter.unusedVariables false
set_option linter.unusedSimpArgs false

def okJ (l : List Int) : Bool := decide (1 ≤ l.length) && decide (l.length ≤ 200)
def recJ (l : List Int) : List Int := be 2 l.length ++ l ++ be 4 (sumS l)
def EncJ (w : World) (l : List Int) (e : Ending) (w' : World) : Prop :=
  ∃ v, e = .returned (.tuple #[v, .int .i64 (if okJ l then 0 else 1)]) ∧ (Kd.int .u8).R 5 w' w.heap.size (fun _ => True) v (if okJ l then recJ l else []) ∧ Below w.heap.size w w'
theorem badB_len (n : Nat) (h : n ≤ 65535) : badB 2 (n : Int) = false := by
  unfold badB
  have : (n : Int) / 2 ^ (8 * 2) = 0 := by rw [show (2 : Int) ^ (8 * 2) = 65536 by rfl]; omega
  simp [this]
  omega
theorem badB_sum (l : List Int) : badB 4 (sumS l) = false := by
  have hu := sumX_u32 l
  unfold badB sumS
  have h0 : (0 : Int) ≤ 4294967295 - sumX l := by have := hu.2; omega
  have : (4294967295 - sumX l) / 2 ^ (8 * 4) = 0 := by rw [show (2 : Int) ^ (8 * 4) = 4294967296 by rfl]; have := hu.1; omega
  simp [this]
  omega

set_option maxHeartbeats 1000000 in
theorem encJ_any (w : World) (A : Option Addr) (m c : Nat) (l : List Int) (hBR : BR l) (hC : (Kd.int .u8).C w A m l) (hm : m ≤ 1000000000) :
    Calls Try.prog 75 #[.slice A m c] w (EncJ w l) := by
  have hml := hC.1
  have HC := Lib.hid hC
  have Hml := Lib.hid hml
  clear hC hml
  cases hok : okJ l with
  | false =>
    have hcond : ((m : Int) == 0) = true ∨ (((m : Int) == 0) = false ∧ decide ((200 : Int) < (m : Int)) = true) := by
      unfold okJ at hok
      rw [Hml.out] at hok
      simp at hok ⊢
      omega
    have Hok := Lib.hid hok
    clear hok
    have fin : EncJ w l (.returned (.tuple #[.slice none 0 0, .int .i64 1])) w := ⟨_, by rw [Hok.out]; rfl, by rw [Hok.out]; exact Kd.R_nil _ _ _ _ _, Below.refl _ _⟩
    have Fin := Lib.hid fin
    clear fin
    rcases hcond with h1 | ⟨h1, h2⟩
    · go_enter Try.func75, Try.ntmps75
      go_wp2_with fail
      go_ret2
      exact Fin.out
    · go_enter Try.func75, Try.ntmps75
      go_wp2_with fail
      go_ret2
      exact Fin.out
  | true =>
    have hlen : 1 ≤ m ∧ m ≤ 200 := by
      unfold okJ at hok
      rw [Hml.out] at hok
      simpa using hok
    obtain ⟨hl1, hl2⟩ := hlen
    have Hok := Lib.hid hok
    clear hok
    have h0 : ((m : Int) == 0) = false := by simp; omega
    have h2 : decide ((200 : Int) < (m : Int)) = false := by simp; omega
    go_enter Try.func75, Try.ntmps75
    go_wp2_with fail
    have hb1 : Below w.heap.size w (w.alloc (.cells #[.slice none 0 0, .bool false] 170)) := below_alloc (Below.refl _ _) _
    have hW1 := WrAt.fresh w
    have hF1 : ∀ k, ext (fun _ => False) w (w.alloc (.cells #[.slice none 0 0, .bool false] 170)) k → w.heap.size ≤ k := ext_ge (fun _ h => h.elim) (Nat.le_refl _)
    have hs1 := hb1.size
    generalize w.alloc (.cells #[.slice none 0 0, .bool false] 170) = w1 at hb1 hW1 hF1 hs1 ⊢
    generalize ext (fun _ => False) w w1 = F1 at hW1 hF1
    refine (wbytes_any w1 F1 _ [] false A m c l hW1 (fun w' hk => Kd.C_below HC.out (hb1.trans (hk.to_below hs1 hF1))) (by omega) (by simp)).mono ?_
    rintro e w2 ⟨rfl, hW2, hK2⟩
    have hb2 := hb1.trans (hK2.to_below hs1 hF1)
    have hF2 := ext_ge (w1 := w2) hF1 hs1
    have hs2 := hb2.size
    generalize ext F1 w1 w2 = F2 at hW2 hF2
    have HW2 := Lib.hid hW2
    have HB2 := Lib.hid hb2
    have HF2 := Lib.hid hF2
    have Hs2 := Lib.hid hs2
    clear hW2 hb2 hF2 hs2 hK2 hW1 hF1 hb1 hs1
    go_wp2_with fail
    refine (sum_any w2 A m c l hBR (Kd.C_below HC.out HB2.out) hm).mono ?_
    rintro e w' ⟨rfl, rfl⟩
    go_wp2_with fail
    have hb3 : Below w'.heap.size w' (w'.alloc (.cells #[.int .i64 (sumS l)] 3)) := below_alloc (Below.refl _ _) _
    have hW3 := HW2.out.below hb3
    have hR3 : (Kd.int .i64).R 3 (w'.alloc (.cells #[.int .i64 (sumS l)] 3)) 0 (fun k => ¬ F2 k) (.slice (some ⟨w'.heap.size, 0, none⟩) 1 1) [sumS l] :=
      Kd.R_mono (R_nums .i64 3 w' [sumS l] (by simp)) (fun k hk hf => by have := HW2.out.2.1 k hf; omega)
    have hB3 : Below w.heap.size w (w'.alloc (.cells #[.int .i64 (sumS l)] 3)) := HB2.out.trans (hb3.mono Hs2.out)
    refine (put_any _ F2 _ _ _ 4 _ 1 1 [sumS l] hW3 hR3 (by decide) (by decide) (by decide) (by have := putL_length 2 [(m : Int)]; have := Hml.out; simp at *; omega)).mono ?_
    rintro e w4 ⟨rfl, hW4, hK4⟩
    have hs3 := hB3.size
    have hB4 := hB3.trans (hK4.to_below hs3 HF2.out)
    rw [show (false || badB 2 (m : Int) || [sumS l].any (badB 4)) = false by simp [badB_len m (by omega), badB_sum]] at hW4
    rw [show ([] ++ putL 2 [(m : Int)] ++ l ++ putL 4 [sumS l]) = recJ l by simp [putL, badB_len m (by omega), badB_sum, recJ, Hml.out]] at hW4
    have HW4 := Lib.hid hW4
    have HB4 := Lib.hid hB4
    clear hW4 hB4 hs3 hK4 hB3 hR3 hW3 hb3
    go_wp2_with fail
    refine (wdone_any w4 _ _ _ false (by have := Hml.out; simp [recJ, be_length]; omega) HW4.out).mono ?_
    rintro e w5 ⟨v, rfl, hR5, hB5⟩
    have HR5 := Lib.hid hR5
    have HB5 := Lib.hid hB5
    clear hR5 hB5
    go_wp2_with fail
    go_ret2
    refine ⟨v, by rw [Hok.out]; rfl, ?_, HB4.out.trans (HB5.out.mono HB4.out.size)⟩
    rw [Hok.out]
    exact Kd.R_lower HR5.out HB4.out.size
end Go.Proofs.Ytcplmaeicmmkgaa
