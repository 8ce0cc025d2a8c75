/- rutterlaw08.JournalScans: the law's walk. -/
import Derived.Test.YtcplmaeicmmkgaaA24
namespace Go.Proofs.Ytcplmaeicmmkgaa
open Go Go.RowKit Go.Proofs.YtcplmaeicmmkgaaW.PrintWords Go.Proofs.YtcplmaeicmmkgaaW.PrintLast
set_option linter.unusedVariables false
set_option linter.unusedSimpArgs false

theorem scan_brr (n : Nat) : ∀ l : List Int, l.length ≤ n → BR l → BRR (scanJ l).1 := by
  induction n with
  | zero =>
    intro l h hb
    cases hok : okF l with
    | false => rw [scanJ_no l hok]; exact fun x hx => nomatch hx
    | true => have := okF_facts l hok; omega
  | succ n ih =>
    intro l h hb
    cases hok : okF l with
    | false => rw [scanJ_no l hok]; exact fun x hx => nomatch hx
    | true =>
      have hf := okF_facts l hok
      have := ih (l.drop ((bodyJ l).length + 6)) (by rw [List.length_drop]; omega) (hb.drop _)
      rw [scanJ_yes l hok]
      intro x hx
      rcases List.mem_cons.1 hx with rfl | hx
      · exact BR_body l hb
      · exact this x hx
theorem scan_br (l : List Int) (hb : BR l) : BRR (scanJ l).1 := scan_brr _ l (Nat.le_refl _) hb

def LawPost (w : World) (e : Ending) (w' : World) : Prop := e = .returned (.bool true) ∧ Below w.heap.size w w'

set_option maxHeartbeats 2000000 in
theorem journalScans_any (w : World) (A0 : Option Addr) (m0 c0 : Nat) (l0 : List Int) (hC0 : (Kd.int .u8).C w A0 m0 l0) (hc0 : m0 ≤ c0) (hB0 : BR l0)
    (A1 : Option Addr) (m1 c1 : Nat) (l1 : List Int) (hC1 : (Kd.int .u8).C w A1 m1 l1) (hc1 : m1 ≤ c1) (hB1 : BR l1) :
    Calls Try.prog 11 #[.slice A0 m0 c0, .slice A1 m1 c1] w (LawPost w) := by
  have HC0 := Lib.hid hC0
  have HC1 := Lib.hid hC1
  have Hl0 := Lib.hid hC0.1
  clear hC0 hC1
  have hcases : (3000 : Int) < m0 ∨ (¬ (3000 : Int) < m0 ∧ (3000 : Int) < m1) ∨ (¬ (3000 : Int) < m0 ∧ ¬ (3000 : Int) < m1) := by omega
  rcases hcases with h0 | ⟨h0, h1⟩ | ⟨h0, h1⟩
  · have d0 : decide ((3000 : Int) < m0) = true := decide_eq_true h0
    clear h0
    go_enter Try.func11, Try.ntmps11
    go_wp2_with fail
    refine (alive_any w).mono ?_
    rintro e w1 ⟨rfl, hb⟩
    have HB := Lib.hid hb
    go_wp2_with fail
    go_ret
    exact ⟨rfl, HB.out⟩
  · have d0 : decide ((3000 : Int) < m0) = false := decide_eq_false h0
    have d1 : decide ((3000 : Int) < m1) = true := decide_eq_true h1
    clear h0 h1
    go_enter Try.func11, Try.ntmps11
    go_wp2_with fail
    refine (alive_any w).mono ?_
    rintro e w1 ⟨rfl, hb⟩
    have HB := Lib.hid hb
    go_wp2_with fail
    go_ret
    exact ⟨rfl, HB.out⟩
  · have d0 : decide ((3000 : Int) < m0) = false := decide_eq_false h0
    have d1 : decide ((3000 : Int) < m1) = false := decide_eq_false h1
    have k0 : m0 ≤ 3000 := by omega
    have k1 : m1 ≤ 3000 := by omega
    have k2 : m0 ≤ 1000000 := by omega
    have k3 : m0 ≤ 1000000000 := by omega
    have k4 : m1 ≤ 1000000 := by omega
    have k5 : m1 ≤ 1000000000 := by omega
    clear h0 h1
    go_enter Try.func11, Try.ntmps11
    go_wp2_with fail
    refine (scan_any w A0 m0 c0 l0 hB0 HC0.out hc0 k3).mono ?_
    rintro e w1 ⟨v1, rfl, hR1, hb1⟩
    obtain ⟨A2, c2, rfl⟩ := Kd.R_slice hR1
    have hr1 := Kd.R_reads' hR1
    have HR1 := Lib.hid hr1.2.2
    have HB1 := Lib.hid hb1
    have hn1 : (scanJ l0).1.length ≤ 1000000000 := by have := scan_le1 l0; have := Hl0.out; omega
    obtain ⟨n2, hn2⟩ : ∃ n, n = (scanJ l0).1.length := ⟨_, rfl⟩
    rw [← hn2] at HR1 hn1 ⊢
    have Hn2 := Lib.hid hn2
    clear hR1 hr1 hb1 hn2
    go_wp2_with fail
    refine (scan_ref w1 A0 m0 c0 l0 hB0 (C_kp HC0.out HB1.out) hc0 k2).mono ?_
    rintro e w2 ⟨v2, rfl, hR2, hb2⟩
    obtain ⟨A3, c3, rfl⟩ := Kd.R_slice hR2
    have hr2 := Kd.R_reads' hR2
    have HR2 := Lib.hid hr2.2.2
    rw [← Hn2.out] at HR2 ⊢
    have HB2 := Lib.hid (HB1.out.trans (hb2.mono HB1.out.size))
    have HR1' := Lib.hid (C_kp HR1.out hb2)
    clear hR2 hr2 hb2
    go_wp2_with fail
    refine (same_any w2 A2 A3 n2 c2 n2 c3 _ _ (scan_br l0 hB0) (scan_br l0 hB0) HR1'.out HR2.out hn1 hn1).mono ?_
    rintro e w3 ⟨rfl, hb3⟩
    rw [decide_eq_true rfl]
    have HB3 := Lib.hid (HB2.out.trans (hb3.mono HB2.out.size))
    clear hb3
    go_wp2_with fail
    refine (encJ_any w3 A1 m1 c1 l1 hB1 (C_kp HC1.out HB3.out) k5).mono ?_
    rintro e w4 ⟨v4, rfl, hR4, hb4⟩
    obtain ⟨A4, c4, rfl⟩ := Kd.R_slice hR4
    have HR4 := Lib.hid (Kd.R_reads' hR4).2.2
    have HB4 := Lib.hid (HB3.out.trans (hb4.mono HB3.out.size))
    clear hR4 hb4
    generalize hrec : (if okJ l1 then recJ l1 else []) = rec at HR4 ⊢
    generalize hno : (if okJ l1 then (0 : Int) else 1) = no
    obtain ⟨n4, hn4⟩ : ∃ n, n = rec.length := ⟨_, rfl⟩
    rw [← hn4] at HR4 ⊢
    have Hn4 := Lib.hid hn4
    have Hrec := Lib.hid hrec
    have Hno := Lib.hid hno
    clear hn4 hrec hno
    go_wp2_with fail
    refine (enc_ref w4 A1 m1 c1 l1 hB1 (C_kp HC1.out HB4.out) hc1 k4).mono ?_
    rintro e w5 ⟨v5, rfl, hR5, hb5⟩
    obtain ⟨A5, c5, rfl⟩ := Kd.R_slice hR5
    have HR5 := Lib.hid (Kd.R_reads' hR5).2.2
    have HB5 := Lib.hid (HB4.out.trans (hb5.mono HB4.out.size))
    have HR4' := Lib.hid (C_kp HR4.out hb5)
    clear hR5 hb5
    rw [Hrec.out, ← Hn4.out] at HR5 ⊢
    rw [Hno.out]
    go_wp2_with fail
    refine (alive_any w5).mono ?_
    rintro e w6 ⟨rfl, hb6⟩
    have HB6 := Lib.hid (HB5.out.trans (hb6.mono HB5.out.size))
    have s1 := Kd.C_string (P := Try.prog) (c := c4) Try.underlying32 Try.underlying5 Try.underlying9 (C_kp HR4'.out hb6)
    have s2 := Kd.C_string (P := Try.prog) (c := c5) Try.underlying32 Try.underlying5 Try.underlying9 (C_kp HR5.out hb6)
    clear hb6
    go_wp2_with fail
    refine (sum_any w6 A1 m1 c1 l1 hB1 (C_kp HC1.out HB6.out) k5).mono ?_
    rintro e w7 ⟨rfl, rfl⟩
    go_wp2_with fail
    refine (sum_ref w7 A1 m1 c1 l1 hB1 (C_kp HC1.out HB6.out) hc1 k4).mono ?_
    rintro e w8 ⟨rfl, hb8⟩
    have HB8 := Lib.hid (HB6.out.trans (hb8.mono HB6.out.size))
    clear hb8
    go_wp2_with fail
    go_ret
    exact ⟨rfl, HB8.out⟩
end Go.Proofs.Ytcplmaeicmmkgaa
