/- The two sides: cells; a sync below the journal; what a crash and an open leave. -/
import Derived.Test.YtcplmaeicmmkgaaA30
namespace Go.Proofs.Ytcplmaeicmmkgaa
open Go Go.RowKit Go.Proofs.YtcplmaeicmmkgaaW.PrintWords Go.Proofs.YtcplmaeicmmkgaaW.PrintLast
set_option linter.unusedVariables false
set_option linter.unusedSimpArgs false

theorem two_rsyncJ {w0 w : World} {kb mb n : Nat} {B : List Int} {sf : Nat} {r : Int} {P : World → (Nat → Prop) → Prop} (hP : Stands P) (h : Two w0 w P (QJ kb mb n B sf r)) : Calls Try.prog 64 #[.pointer (some ⟨mb, 0, none⟩)] w (fun e w' => ∃ x, e = .returned (.int .i64 x) ∧ Two w0 w' P (QJ kb mb n B B.length r)) := by
  obtain ⟨F, G, h1, h2, h3, h4, h5, h6, h7, h8⟩ := h
  refine (rfsync_any w _ mb B sf r h2.2.2.2).mono ?_
  rintro e w1 ⟨rfl, hJ, hK⟩
  have hM := RjAt.moved h2 hJ hK
  exact ⟨_, rfl, two_right (Q := QJ kb mb n B sf r) hP h1 h3 h4 h5 h6 h7 h8 hM.1 hM.2⟩
theorem two_cells {w0 w : World} {kb mb n : Nat} {B : List Int} {sf : Nat} {r : Int} {P : World → (Nat → Prop) → Prop} (h : Two w0 w P (QJ kb mb n B sf r)) :
    ∃ Am nm cm, w.cell? ⟨kb, 1, none⟩ = some (.int .i64 n) ∧ w.cell? ⟨mb, 0, none⟩ = some (.slice Am nm cm) ∧ w.cell? ⟨mb, 1, none⟩ = some (.int .i64 sf) ∧ (Kd.int .u8).C w Am nm B := by
  obtain ⟨F, G, h1, h2, h3, h4, h5, h6, h7, h8⟩ := h
  obtain ⟨g1, g2, g3, A, k, c, g4, g5⟩ := h2.2.2.2
  have hn := (Kd.R_reads' g5).1
  have hC := (Kd.R_reads' g5).2.2
  rw [← hn] at hC
  exact ⟨A, k, c, h2.2.1.cell 1 _ rfl, g4.cell 0 _ rfl, g4.cell 1 _ rfl, hC⟩
theorem crash_eq (s l : List Int) (k : Int) : (s ++ l).take (s.length + keepQ (s ++ l).length s.length k) = s ++ l.take (keepN l k) ∧ s.length + keepQ (s ++ l).length s.length k = (s ++ l.take (keepN l k)).length := by
  have hq : keepQ (s ++ l).length s.length k = keepN l k := by
    unfold keepQ keepN
    rw [List.length_append]
    congr 2
    omega
  have hle := keep_le l k
  rw [hq]
  refine ⟨?_, ?_⟩
  · rw [List.take_append, List.take_of_length_le (by omega)]
    congr 2
    omega
  · rw [List.length_append, List.length_take]; omega
theorem open_eq (s : List Int) : openB s = openS s [] ++ openL s [] ∧ openN s s.length = (openS s []).length := by
  have hle := scan_le s
  have hL : openL s [] = [] := by unfold openL; split <;> rfl
  rw [hL, List.append_nil]
  unfold openB openN openS
  rw [List.append_nil]
  split
  · exact ⟨rfl, by rw [List.length_take]; omega⟩
  · exact ⟨rfl, rfl⟩
theorem openS_len (s : List Int) : (openS s [] ++ openL s []).length ≤ s.length := by
  rw [← (open_eq s).1]
  unfold openB
  split
  · rw [List.length_take]; omega
  · omega
theorem openS_br (s : List Int) (h : BR s) : BR (openS s []) ∧ BR (openL s []) := by
  have hL : openL s [] = [] := by unfold openL; split <;> rfl
  rw [hL]
  refine ⟨?_, BR.nil⟩
  unfold openS
  rw [List.append_nil]
  split
  · exact h.take _
  · exact h
theorem put_eq (s l body : List Int) (r : Int) : putE s l body r = putR (s ++ l) body r := by
  unfold putE putR
  rw [List.length_append]
  push_cast
  rfl
theorem put_facts (s l body : List Int) (r : Int) (hl : BR l) (hb : BR body) (hr : ((s ++ l).length : Int) ≤ r) : BR (if putE s l body r = 0 then l ++ recJ body else l) ∧ ((s ++ (if putE s l body r = 0 then l ++ recJ body else l)).length : Int) ≤ r := by
  by_cases h : putE s l body r = 0
  · rw [if_pos h]
    refine ⟨hl.append (recJ_br body hb), ?_⟩
    have hx : ¬ r < s.length + l.length + (recJ body).length := by
      intro hx
      unfold putE at h
      cases ho : okJ body with
      | true => rw [ho, if_pos rfl, if_pos hx] at h; cases h
      | false => rw [ho, if_neg (by decide)] at h; cases h
    simp only [List.length_append]
    push_cast
    omega
  · rw [if_neg h]
    exact ⟨hl, hr⟩
theorem put_bytes (s l body : List Int) (r : Int) : (if putR (s ++ l) body r = 0 then (s ++ l) ++ recJ body else s ++ l) = s ++ (if putE s l body r = 0 then l ++ recJ body else l) := by
  rw [← put_eq]
  split
  · rw [List.append_assoc]
  · rfl
end Go.Proofs.Ytcplmaeicmmkgaa
