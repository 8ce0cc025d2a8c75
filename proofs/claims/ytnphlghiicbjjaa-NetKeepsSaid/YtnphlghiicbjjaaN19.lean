/- rutterlaw18: any step; a net's length, and what was lost. -/
import Derived.Test.YtnphlghiicbjjaaN18
namespace Go.Proofs.Ytnphlghiicbjjaa
open Go Go.RowKit Go.Proofs.YtnphlghiicbjjaaW.PrintWords Go.Proofs.YtnphlghiicbjjaaW.PrintLast Go.Proofs.Ytnphlghiicbjjaa.PNetPlays
set_option linter.unusedVariables false
set_option linter.unusedSimpArgs false

theorem step_any (O : Nat → Prop) (w : World) (b mb : Nat) (xs : List S40) (r : Int) (q : Nat) (h : Both O w b mb xs r q) (hS : OkS xs) (hl : xs.length ≤ 100000) (a : S36) (A : Option Addr) (c : Nat) (hk0 : 0 ≤ a.f0) (hk1 : a.f0 ≤ 255)
    (hC : ∀ w', KpO O w w' → k40.C w' A a.f1.length a.f1) (hll : a.f1.length ≤ 100000) (hq : q ≤ 10000000) :
    Calls Try.prog 13 #[.pointer (some ⟨b, 0, none⟩), .pointer (some ⟨mb, 0, none⟩), .agg #[.int .u8 a.f0, .slice A a.f1.length c, .int .i64 a.f2]] w (StepPost O w b mb xs r q (actN r xs q a)) := by
  unfold actN
  by_cases h4 : a.f0 % 9 = 4 ∨ a.f0 % 9 = 5
  · rw [if_pos h4]
    by_cases hi : 0 ≤ a.f2 ∧ a.f2 < xs.length
    · rw [if_pos hi]
      exact step_take O w b mb xs r q h hS hl a.f0 a.f2 a.f1 A c hk0 hk1 h4 hi.1 hi.2
    · rw [if_neg hi]
      exact step_take_no O w b mb xs r q h hS hl a.f0 a.f2 a.f1 A c hk0 hk1 h4 (by omega)
  rw [if_neg h4]
  by_cases h6 : a.f0 % 9 = 6
  · rw [if_pos h6]
    by_cases hi : 0 ≤ a.f2 ∧ a.f2 < xs.length
    · by_cases hr : r ≤ xs.length
      · rw [if_neg (fun h => h.2.2 hr)]
        exact step_dbl_full O w b mb xs r q h hS hl a.f0 a.f2 a.f1 A c hk0 hk1 h6 hi.1 hi.2 hr
      · rw [if_pos ⟨hi.1, hi.2, hr⟩]
        exact step_dbl O w b mb xs r q h hS hl a.f0 a.f2 a.f1 A c hk0 hk1 h6 hi.1 hi.2 hr
    · rw [if_neg (fun h => hi ⟨h.1, h.2.1⟩)]
      exact step_dbl_no O w b mb xs r q h hS hl a.f0 a.f2 a.f1 A c hk0 hk1 h6 (by omega)
  rw [if_neg h6]
  by_cases h7 : a.f0 % 9 = 7 ∨ a.f0 % 9 = 8
  · rw [if_pos h7]
    rcases h7 with h7 | h7
    · by_cases hi : 0 ≤ a.f2 ∧ a.f2 < xs.length
      · exact step_at O w b mb xs r q h hS hl a.f0 a.f2 a.f1 A c hk0 hk1 h7 hi.1 hi.2
      · exact step_at_no O w b mb xs r q h hS hl a.f0 a.f2 a.f1 A c hk0 hk1 h7 (by omega)
    · by_cases h0 : a.f1 = []
      · exact step_find0 O w b mb xs r q h hS hl a.f0 a.f2 a.f1 A c hk0 hk1 h7 hC hll h0
      · exact step_find1 O w b mb xs r q h hS hl a.f0 a.f2 a.f1 A c hk0 hk1 h7 hC hll (List.length_pos_iff.2 h0)
  rw [if_neg h7]
  exact step_put O w b mb xs r q h hS hl a.f0 a.f2 a.f1 A c hk0 hk1 (by omega) hC hll hq

theorem actN_ok (r : Int) (xs : List S40) (q : Nat) (a : S36) (hS : OkS xs) (hl : (xs.length : Int) ≤ r) : OkS (actN r xs q a).1 ∧ ((actN r xs q a).1.length : Int) ≤ r ∧ (actN r xs q a).2 ≤ q + a.f1.length := by
  unfold actN
  split
  · split
    · refine ⟨fun x hx => hS x (List.mem_of_mem_eraseIdx hx), ?_, by simp⟩
      have := List.length_eraseIdx_le xs a.f2.toNat; simp; omega
    · exact ⟨hS, hl, by simp⟩
  · split
    · split
      · rename_i hi
        refine ⟨fun x hx => ?_, by simp; omega, by simp⟩
        rcases List.mem_append.1 hx with hx | hx
        · exact hS x hx
        · obtain rfl : x = rd_T40 xs a.f2 := by simpa using hx
          exact hS _ (rd_mem hi.1 hi.2.1)
      · exact ⟨hS, hl, by simp⟩
    · split
      · exact ⟨hS, hl, by simp⟩
      · refine ⟨?_, putAll_le r (xs, 0, q) a.f1 hl, ?_⟩
        · have : ∀ l : List S40, OkS (putAll r (xs, 0, q) l).1 := by
            intro l
            induction l using snoc_ind with
            | h0 => exact hS
            | hs l x ih =>
              rw [putAll_snoc]
              unfold putStep
              split
              · rename_i hx
                intro y hy
                rcases List.mem_append.1 hy with hy | hy
                · exact ih y hy
                · obtain rfl : y = x := by simpa using hy
                  exact hx.1
              · exact ih
          exact this _
        · have := (putAll_len r (xs, 0, q) a.f1).2
          simp at this ⊢
          omega
section
variable {O : Nat → Prop} {w : World} {b mb : Nat} {xs ys : List S40} {r : Int} {q q' : Nat} {P Q : World → (Nat → Prop) → Prop}
theorem two_len (h : Two O w (PN b xs r q) Q) : Calls Try.prog 14 #[.pointer (some ⟨b, 0, none⟩)] w (fun e w' => e = .returned (.int .i64 (xs.length : Nat)) ∧ w' = w) := by
  obtain ⟨F, hF⟩ := h.left
  exact len_any w F b xs r q hF
theorem two_lost (h : Two O w (PN b xs r q) Q) (hq : q ≤ 1000000000) : Calls Try.prog 15 #[.pointer (some ⟨b, 0, none⟩)] w (fun e w' => e = .returned (.int .i64 (q : Nat)) ∧ w' = w) := by
  obtain ⟨F, hF⟩ := h.left
  exact lost_any w F b xs r q hF ⟨by omega, by omega⟩
theorem two_rcells (h : Two O w P (QN mb ys r q')) : ∃ A c, w.cell? ⟨mb, 0, none⟩ = some (.slice A ys.length c) ∧ w.cell? ⟨mb, 2, none⟩ = some (.int .i64 (q' : Nat)) := by
  obtain ⟨G, h1, h2, A, n, c, h5, h6⟩ := h.right
  have hn := (Kd.R_reads' h6).1
  rw [List.length_map] at hn
  subst hn
  exact ⟨A, c, h5.cell 0 _ rfl, h5.cell 2 _ rfl⟩
end
end Go.Proofs.Ytnphlghiicbjjaa
