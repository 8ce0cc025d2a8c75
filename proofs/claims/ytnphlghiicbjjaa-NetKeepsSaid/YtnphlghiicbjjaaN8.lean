/- net: Put. -/
import Derived.Test.YtnphlghiicbjjaaN7
namespace Go.Proofs.Ytnphlghiicbjjaa
open Go Go.RowKit Go.Proofs.YtnphlghiicbjjaaW.PrintWords Go.Proofs.YtnphlghiicbjjaaW.PrintLast Go.Proofs.Ytnphlghiicbjjaa.PNetPlays
set_option linter.unusedVariables false
set_option linter.unusedSimpArgs false

def okI (x : S40) : Bool := decide (0 ≤ x.f0) && decide (x.f0 < 3) && decide (0 ≤ x.f1) && decide (x.f1 < 16) && decide ((x.f2.length : Int) ≤ 2000)
theorem right_okI (x : S40) : net_right.f x.f0 x.f1 x.f2 = some (okI x) := by
  unfold net_right.f okI
  by_cases h1 : 0 ≤ x.f0 <;> by_cases h2 : x.f0 < 3 <;> by_cases h3 : 0 ≤ x.f1 <;> by_cases h4 : x.f1 < 16 <;> simp [h1, h2, h3, h4]
theorem okI_len {x : S40} (h : okI x = true) : x.f2.length ≤ 2000 := by
  unfold okI at h
  simp at h
  omega
/-- One item is put: the items, how many came in, how many were lost. -/
def putStep (r : Int) (s : List S40 × Nat × Nat) (x : S40) : List S40 × Nat × Nat :=
  if okI x = true ∧ (s.1.length : Int) < r then (s.1 ++ [x], s.2.1 + 1, s.2.2) else (s.1, s.2.1, s.2.2 + 1)
def putAll (r : Int) (s : List S40 × Nat × Nat) (l : List S40) : List S40 × Nat × Nat := l.foldl (putStep r) s
theorem putAll_snoc (r : Int) (s : List S40 × Nat × Nat) (l : List S40) (x : S40) : putAll r s (l ++ [x]) = putStep r (putAll r s l) x := by simp [putAll, List.foldl_append]
theorem putAll_len (r : Int) (s : List S40 × Nat × Nat) (l : List S40) : (putAll r s l).1.length + s.2.1 = s.1.length + (putAll r s l).2.1 ∧ (putAll r s l).2.1 + (putAll r s l).2.2 = s.2.1 + s.2.2 + l.length := by
  induction l using snoc_ind with
  | h0 => simp [putAll]
  | hs l x ih =>
    rw [putAll_snoc]
    unfold putStep
    split
    · simp; omega
    · simp; omega
theorem putAll_le (r : Int) (s : List S40 × Nat × Nat) (l : List S40) (h : (s.1.length : Int) ≤ r) : ((putAll r s l).1.length : Int) ≤ r := by
  induction l using snoc_ind with
  | h0 => simpa [putAll] using h
  | hs l x ih =>
    rw [putAll_snoc]
    unfold putStep
    split
    · simp; omega
    · exact ih
theorem putAll_sz (r : Int) (s : List S40 × Nat × Nat) (l : List S40) (h : SzI s.1) : SzI (putAll r s l).1 := by
  induction l using snoc_ind with
  | h0 => exact h
  | hs l x ih =>
    rw [putAll_snoc]
    unfold putStep
    split
    · rename_i hx
      intro y hy
      rcases List.mem_append.1 hy with hy | hy
      · exact ih y hy
      · obtain rfl : y = x := by simpa using hy
        have := okI_len hx.1; omega
    · exact ih

theorem put_nil (w : World) (A : Option Addr) (n c : Nat) : Calls Try.prog 20 #[.pointer none, .slice A n c] w (fun e w' => e = .returned (.int .i64 0) ∧ w' = w) := by
  go_enter Try.func20, Try.ntmps20
  go_wp2
  go_ret
  exact ⟨rfl, rfl⟩

set_option maxHeartbeats 1000000 in
theorem add_any (w : World) (b : Nat) (q : Int) (hc : w.cell? ⟨b, 2, none⟩ = some (.int .i64 q)) (hf : w.frozen? ⟨b, 2, none⟩ = false) (hq : 0 ≤ q ∧ q ≤ 1000000000) :
    Calls Try.prog 55 #[.pointer (some ⟨b, 2, none⟩), .int .i64 1] w (fun e w' => e = .returned (.int .i64 (q + 1)) ∧ w' = w.setCell ⟨b, 2, none⟩ (.int .i64 (q + 1))) := by
  have hl := run_call_add (P := Try.prog) Try.func67 (by kernel_rfl) (by kernel_rfl) (by kernel_rfl) .i64 (by kernel_rfl) (y := 1) (s := q + 1) hc hf (by simp [go_sem]; exact IntWalk.i64_in _ (by omega))
  clear hc hf
  go_enter Try.func55, Try.ntmps55
  go_wp2
  go_ret
  exact ⟨rfl, rfl⟩
end Go.Proofs.Ytnphlghiicbjjaa
