/- journal.first. -/
import Derived.Test.YtcplmaeicmmkgaaA8
namespace Go.Proofs.Ytcplmaeicmmkgaa
open Go Go.RowKit Go.Proofs.YtcplmaeicmmkgaaW.PrintWords Go.Proofs.YtcplmaeicmmkgaaW.PrintLast
set_option linter.unusedVariables false
set_option linter.unusedSimpArgs false

def f1J (l : List Int) : Bool := bytesF 200 (l.take 206) false
def bodyJ (l : List Int) : List Int := if f1J l then [] else (bytesL (l.take 206) false).take (bytesN (l.take 206) false)
def restJ (l : List Int) : List Int := if f1J l then bytesL (l.take 206) false else (bytesL (l.take 206) false).drop (bytesN (l.take 206) false)
def f2J (l : List Int) : Bool := getBad 4 (restJ l) (f1J l)
def wantJ (l : List Int) : Int := if f2J l then 0 else beV ((restJ l).take 4)
def okF (l : List Int) : Bool := !f2J l && decide (0 < (bodyJ l).length) && decide (wantJ l = sumS (bodyJ l))
def FirstPost (w : World) (l : List Int) (e : Ending) (w' : World) : Prop :=
  ∃ v, e = .returned (.tuple #[v, .bool (okF l)]) ∧ (Kd.int .u8).R 5 w' w.heap.size (fun _ => True) v (bodyJ l) ∧ Below w.heap.size w w'

theorem BR_body (l : List Int) (h : BR l) : BR (bodyJ l) := by
  unfold bodyJ bytesL
  split
  · exact BR.nil
  · split
    · exact (h.take _).take _
    · exact ((h.take _).drop _).take _

theorem body_len (l : List Int) : (bodyJ l).length ≤ 206 := by
  unfold bodyJ bytesL
  split
  · simp
  · split <;> simp only [List.length_take, List.length_drop] <;> omega
set_option maxHeartbeats 2000000 in
theorem first_any (w : World) (A : Option Addr) (m c : Nat) (l : List Int) (hBR : BR l) (hC : (Kd.int .u8).C w A m l) (hmc : m ≤ c) (hm : m ≤ 1000000000) :
    Calls Try.prog 128 #[.slice A m c] w (FirstPost w l) := by
  have hml := hC.1
  have HCa := Lib.hid (show (m : Int) ≤ 206 → (Kd.int .u8).C w A m (l.take 206) from fun h => by rw [List.take_of_length_le (by omega)]; exact hC)
  have hCb : (206 : Int) < m → (Kd.int .u8).C w A 206 (l.take 206) := by
    intro h
    have h2 : 206 ≤ m := by omega
    exact C_take hC h2
  have HCb := Lib.hid hCb
  have hbr6 := hBR.take 206
  clear hC hml hCb
  by_cases h206 : (206 : Int) < m
  all_goals
    go_enter Try.func128, Try.ntmps128
    go_wp2_with fail
    first
      | (have hq : (m : Int) ≤ 206 := by omega
         have hC7 := HCa.out hq
         clear hq
         refine (read_any w A m c (l.take 206) (by omega) hbr6 hC7).mono ?_
         clear hC7)
      | (have hq : (206 : Int) < m := by omega
         have hC7 := HCb.out hq
         clear hq
         refine (read_any w A 206 c (l.take 206) (by omega) hbr6 hC7).mono ?_
         clear hC7)
    rintro e w1 ⟨b, rfl, hR1, hB1⟩
    have hF1 : ∀ k, ext (fun _ => False) w w1 k → w.heap.size ≤ k := ext_ge (fun _ h => h.elim) (Nat.le_refl _)
    have hs1 := hB1.size
    generalize ext (fun _ => False) w w1 = F1 at hR1 hF1
    have HR1 := Lib.hid hR1
    have HF1 := Lib.hid hF1
    have HB1 := Lib.hid hB1
    have Hs1 := Lib.hid hs1
    clear hR1 hF1 hB1 hs1
    go_wp2_with fail
    refine (bytes_any w1 F1 b (l.take 206) false 200 (by decide) HR1.out).mono ?_
    rintro e w2 ⟨v2, rfl, hV2, hR2, hK2⟩
    obtain ⟨A2, c2, rfl⟩ := Kd.R_slice hV2
    change (Kd.int .u8).R 5 w2 w1.heap.size (fun _ => True) _ (bodyJ l) at hV2
    change RdAt w2 F1 b (restJ l) (f1J l) at hR2
    have HV2 := Lib.hid hV2
    have HR2 := Lib.hid hR2
    have HK2 := Lib.hid hK2
    obtain ⟨n2, hn2⟩ : ∃ n2, (bodyJ l).length = n2 := ⟨_, rfl⟩
    change Hid ((Kd.int .u8).R 5 w2 w1.heap.size (fun _ => True) (.slice A2 (bodyJ l).length c2) (bodyJ l)) at HV2
    rw [show (if bytesF 200 (l.take 206) false = true then [] else List.take (bytesN (l.take 206) false) (bytesL (l.take 206) false)).length = n2 from hn2]
    rw [hn2] at HV2
    have Hn2 := Lib.hid hn2
    clear hV2 hR2 hK2 hn2
    go_wp2_with fail
    refine (get_any w2 F1 b (restJ l) (f1J l) 4 (by decide) (by decide) HR2.out).mono ?_
    rintro e w3 ⟨rfl, hR3, hK3, hs3⟩
    change RdAt w3 F1 b _ (f2J l) at hR3
    have HR3 := Lib.hid hR3
    have HK3 := Lib.hid hK3
    rw [show (if getBad 4 (restJ l) (f1J l) = true then (0 : Int) else beV ((restJ l).take 4)) = wantJ l from rfl]
    generalize hrest : (if getBad 4 (restJ l) (f1J l) = true then restJ l else (restJ l).drop 4) = r3 at HR3
    have hl3 : r3.length ≤ 206 := by
      rw [← hrest]
      have : (restJ l).length ≤ 206 := by
        unfold restJ bytesL
        split <;> split <;> simp <;> omega
      split
      · exact this
      · simp; omega
    obtain ⟨W3, hW3⟩ : ∃ x, wantJ l = x := ⟨_, rfl⟩
    rw [hW3]
    have HW3 := Lib.hid hW3
    clear hR3 hK3 hs3 hrest hW3
    go_wp2_with fail
    refine (rest_any w3 F1 b r3 (f2J l) (by omega) HR3.out).mono ?_
    rintro e w4 ⟨v4, rfl, hV4, hR4, hK4⟩
    have HR4 := Lib.hid hR4
    have HK4 := Lib.hid hK4
    clear hV4 hR4 hK4
    have hvA : (Kd.int .u8).C w4 A2 n2 (bodyJ l) := by
      have h2 : (Kd.int .u8).R 5 w2 w1.heap.size (fun k => True ∧ w1.heap.size ≤ k ∧ k < w2.heap.size ∧ ∃ q, q ∈ 5 :: (Kd.int .u8).E ∧ ∃ cells, w2.heap[k]? = some (.cells cells q (0, 0))) (.slice A2 n2 c2) (bodyJ l) := Kd.R_bound HV2.out
      have hd : ∀ k, (True ∧ w1.heap.size ≤ k ∧ k < w2.heap.size ∧ ∃ q, q ∈ 5 :: (Kd.int .u8).E ∧ ∃ cells, w2.heap[k]? = some (.cells cells q (0, 0))) → ¬ F1 k := fun k hk hf => by have := HR1.out.2.1 k hf; have := hk.2.1; omega
      have h3 := R_kp h2 HK3.out (fun k _ hf => hd k hf)
      have h4 := R_kp h3 HK4.out (fun k _ hf => hd k hf)
      have := (Kd.R_reads' h4).2.2
      rwa [Hn2.out] at this
    have hvR : (Kd.int .u8).R 5 w4 w.heap.size (fun _ => True) (.slice A2 n2 c2) (bodyJ l) := by
      have h2 := Kd.R_bound HV2.out
      have hd : ∀ k, (True ∧ w1.heap.size ≤ k ∧ k < w2.heap.size ∧ ∃ q, q ∈ 5 :: (Kd.int .u8).E ∧ ∃ cells, w2.heap[k]? = some (.cells cells q (0, 0))) → ¬ F1 k := fun k hk hf => by have := HR1.out.2.1 k hf; have := hk.2.1; omega
      have h3 := R_kp h2 HK3.out (fun k _ hf => hd k hf)
      have h4 := R_kp h3 HK4.out (fun k _ hf => hd k hf)
      exact Kd.R_mono (Kd.R_lower h4 Hs1.out) (fun _ _ => trivial)
    have hB4 : Below w.heap.size w w4 :=
      HB1.out.trans ((((HK2.out.trans HK3.out (fun _ _ h => h)).trans HK4.out (fun _ _ h => h))).to_below Hs1.out HF1.out)
    have HvA := Lib.hid hvA
    have HvR := Lib.hid hvR
    have HB4 := Lib.hid hB4
    clear hvA hvR hB4 HK2 HK3 HK4 HF1 HB1
    go_wp2_with fail
    refine (rdone_any w4 F1 b _ (f2J l) HR4.out).mono ?_
    rintro e w' ⟨rfl, rfl⟩
    rename_i w4x
    cases hf2 : f2J l with
    | true =>
      have hok : okF l = false := by unfold okF; rw [hf2]; rfl
      rw [show (if (true || decide (0 < (if (true : Bool) = true then r3 else []).length)) = true then (2 : Int) else 0) = 2 from rfl]
      have Hok := Lib.hid hok
      clear hok hf2
      go_wp2_with fail
      go_ret2
      exact ⟨_, by rw [Hok.out]; rfl, HvR.out, HB4.out⟩
    | false =>
      rw [show (if (false || decide (0 < (if (false : Bool) = true then r3 else []).length)) = true then (2 : Int) else 0) = 0 from rfl]
      by_cases hn0 : 0 < n2
      · have hok : okF l = (W3 == sumS (bodyJ l)) := by
          unfold okF; rw [hf2, Hn2.out, HW3.out, Bool.eq_iff_iff]; simp [hn0]
        have Hok := Lib.hid hok
        clear hok hf2
        go_wp2_with fail
        refine (sum_any _ A2 n2 c2 (bodyJ l) (BR_body l hBR) HvA.out (by have h9 := Hn2.out; have := body_len l; omega)).mono ?_
        rintro e w5 ⟨rfl, rfl⟩
        generalize hS : sumS (bodyJ l) = S5
        rw [hS] at Hok
        clear hS
        go_wp2_with fail
        go_ret2
        exact ⟨_, by rw [Hok.out]; rfl, HvR.out, HB4.out⟩
      · have hok : okF l = false := by unfold okF; rw [Hn2.out]; simp [hn0]
        have Hok := Lib.hid hok
        clear hok hf2
        go_wp2_with fail
        go_ret2
        exact ⟨_, by rw [Hok.out]; rfl, HvR.out, HB4.out⟩
end Go.Proofs.Ytcplmaeicmmkgaa
