/- net: what a net's memory is; bytes.Clone, own, New, Len, Lost, wrong. -/
import Derived.Test.YtnphlghiicbjjaaB3
import Derived.Test.YtnphlghiicbjjaaPNetPlaysx1
import Derived.Laws.LoneSync
namespace Go.Proofs.Ytnphlghiicbjjaa
open Go Go.RowKit Go.Proofs.YtnphlghiicbjjaaW.PrintWords Go.Proofs.YtnphlghiicbjjaaW.PrintLast Go.Proofs.Ytnphlghiicbjjaa.PNetPlays
set_option linter.unusedVariables false
set_option linter.unusedSimpArgs false

theorem N_info5 : (Try.prog.info? 5).map (fun i => (i.zero, i.size, i.bytes)) = some (some (.int .u8 0), 1, 1) := by kernel_rfl
theorem N_info40 : (Try.prog.info? 40).map (fun i => (i.zero, i.size, i.bytes)) = some (some (.agg #[.int .i64 0, .int .i64 0, .slice none 0 0]), 3, 40) := by kernel_rfl

/-- A new row of bytes comes back. -/
def RetB (w : World) (l : List Int) (e : Ending) (w' : World) : Prop :=
  ∃ v, e = .returned v ∧ (Kd.int .u8).R 5 w' w.heap.size (fun _ => True) v l ∧ Below w.heap.size w w'
theorem nil38 (w : World) (a : Option Addr) (n c n' c' : Nat) : (binOp .eql 38 (.slice a n c) (.slice none n' c')).run Try.prog w = .ok (.bool a.isNone) w := Lib.run_eql_slice_nil w _ _ a n c n' c' Try.underlying38

set_option maxHeartbeats 400000 in
theorem bclone_any (w : World) (A : Option Addr) (n c : Nat) (l : List Int) (hC : (Kd.int .u8).C w A n l) (hl : n ≤ 140737488355232) :
    Calls Try.prog 66 #[.slice A n c] w (RetB w l) := by
  have qT := nil38
  cases A with
  | none =>
    obtain ⟨rfl, rfl⟩ := C_none hC
    clear hC
    go_enter Try.func66, Try.ntmps66
    go_wp2
    go_ret
    exact ⟨_, rfl, Kd.R_nil _ _ _ _ _, Below.refl _ _⟩
  | some ad =>
    have HC := Lib.hid hC
    clear hC
    go_enter Try.func66, Try.ntmps66
    go_wp2_with (at_builtin; refine ev_rows .u8 1 w.heap.size 38 5 _ _ rfl rfl Try.underlying38 N_info5 (by decide) rfl rfl (R_lit0 (Kd.int .u8) 5 w) (Kd.C_alloc HC.out _) (fun _ _ => trivial) (by simp) (by simp; omega) ?_; intro v1 w1 ho1 hb1 _ _)
    go_ret
    exact ⟨_, rfl, ho1, (below_alloc (Below.refl _ _) _).trans hb1⟩

/-- A net: its items, its room, how many were lost; all of it in the blocks of F. -/
def NtAt (w : World) (F : Nat → Prop) (b : Nat) (xs : List S40) (room lost : Int) : Prop :=
  F b ∧ Bd F w ∧ ∃ A n c, Blk w b 100 [.slice A n c, .int .i64 room, .int .i64 lost] ∧ k40.R 40 w 0 (fun k => F k ∧ k ≠ b) (.slice A n c) xs
theorem NtAt.below {w w1 : World} {F : Nat → Prop} {b : Nat} {xs : List S40} {r q : Int} (h : NtAt w F b xs r q) (hb : Below w.heap.size w w1) : NtAt w1 F b xs r q := by
  obtain ⟨h1, h2, A, n, c, h5, h6⟩ := h
  exact ⟨h1, h2.up hb.size, A, n, c, h5.below hb, Kd.R_below h6 hb⟩
theorem NtAt.kp {w w1 : World} {F G : Nat → Prop} {b : Nat} {xs : List S40} {r q : Int} (h : NtAt w F b xs r q) (hk : Kp G w w1) (hd : ∀ k, F k → ¬ G k) : NtAt w1 F b xs r q := by
  obtain ⟨h1, h2, A, n, c, h5, h6⟩ := h
  exact ⟨h1, h2.up hk.size, A, n, c, h5.kp hk (hd b h1), R_kp h6 hk (fun k _ hf => hd k hf.1)⟩
theorem NtAt.mono {w : World} {F G : Nat → Prop} {b : Nat} {xs : List S40} {r q : Int} (h : NtAt w F b xs r q) (hG : ∀ k, F k → G k) (hB : Bd G w) : NtAt w G b xs r q := by
  obtain ⟨h1, h2, A, n, c, h5, h6⟩ := h
  exact ⟨hG b h1, hB, A, n, c, h5, Kd.R_mono h6 (fun k hk => ⟨hG k hk.1, hk.2⟩)⟩

def NewNt (w : World) (room : Int) (e : Ending) (w' : World) : Prop :=
  ∃ b, e = .returned (.tuple #[.pointer (some ⟨b, 0, none⟩), .int .i64 0]) ∧ NtAt w' (ext (fun _ => False) w w') b [] room 0 ∧ Below w.heap.size w w'
set_option maxHeartbeats 400000 in
theorem newnt_any (w : World) (room : Int) (h0 : 0 ≤ room) (h1 : room ≤ 4096) : Calls Try.prog 12 #[.int .i64 room] w (NewNt w room) := by
  have d0 : decide (room < 0) = false := by simp; omega
  have d1 : decide (4096 < room) = false := by simp; omega
  go_enter Try.func12, Try.ntmps12
  go_wp2
  go_ret2
  exact ⟨w.heap.size, rfl, ⟨.inr ⟨Nat.le_refl _, by simp⟩, (Bd.no w).ext (by simp), _, _, _, Blk.new w 100 [.slice none 0 0, .int .i64 room, .int .i64 0], Kd.R_nil _ _ _ _ _⟩, below_alloc (Below.refl _ _) _⟩
theorem newnt_bad (w : World) (room : Int) (h0 : room < 0 ∨ 4096 < room) : Calls Try.prog 12 #[.int .i64 room] w (fun e w' => e = .returned (.tuple #[.pointer none, .int .i64 1]) ∧ w' = w) := by
  by_cases h : room < 0
  · have d0 : decide (room < 0) = true := by simp; omega
    go_enter Try.func12, Try.ntmps12
    go_wp2
    go_ret2
    exact ⟨rfl, rfl⟩
  · have d0 : decide (room < 0) = false := by simp; omega
    have d1 : decide (4096 < room) = true := by simp; omega
    go_enter Try.func12, Try.ntmps12
    go_wp2
    go_ret2
    exact ⟨rfl, rfl⟩

set_option maxHeartbeats 400000 in
theorem len_any (w : World) (F : Nat → Prop) (b : Nat) (xs : List S40) (r q : Int) (hF : NtAt w F b xs r q) : Calls Try.prog 14 #[.pointer (some ⟨b, 0, none⟩)] w (fun e w' => e = .returned (.int .i64 (xs.length : Nat)) ∧ w' = w) := by
  obtain ⟨h1, h2, A, n, c, h5, h6⟩ := hF
  have hn := (Kd.R_reads' h6).1
  subst hn
  have c0 := h5.cell 0 _ rfl
  clear h5 h6 h2
  go_enter Try.func14, Try.ntmps14
  go_wp2
  go_ret
  exact ⟨rfl, rfl⟩
theorem len_nil (w : World) : Calls Try.prog 14 #[.pointer none] w (fun e w' => e = .returned (.int .i64 0) ∧ w' = w) := by
  go_enter Try.func14, Try.ntmps14
  go_wp2
  go_ret
  exact ⟨rfl, rfl⟩

set_option maxHeartbeats 400000 in
theorem load_any (w : World) (b : Nat) (q : Int) (hc : w.cell? ⟨b, 2, none⟩ = some (.int .i64 q)) : Calls Try.prog 48 #[.pointer (some ⟨b, 2, none⟩)] w (fun e w' => e = .returned (.int .i64 q) ∧ w' = w) := by
  have hl := run_call_load (P := Try.prog) Try.func65 (by kernel_rfl) (by kernel_rfl) (by kernel_rfl) .i64 (by kernel_rfl) hc
  clear hc
  go_enter Try.func48, Try.ntmps48
  go_wp2
  go_ret
  exact ⟨rfl, rfl⟩
set_option maxHeartbeats 400000 in
theorem lost_any (w : World) (F : Nat → Prop) (b : Nat) (xs : List S40) (r q : Int) (hF : NtAt w F b xs r q) (hq : 0 ≤ q ∧ q ≤ 1000000000) : Calls Try.prog 15 #[.pointer (some ⟨b, 0, none⟩)] w (fun e w' => e = .returned (.int .i64 q) ∧ w' = w) := by
  obtain ⟨h1, h2, A, n, c, h5, h6⟩ := hF
  have c2 := h5.cell 2 _ rfl
  clear h5 h6 h2
  obtain ⟨hq0, hq1⟩ := hq
  go_enter Try.func15, Try.ntmps15
  go_wp2_with fail
  refine (load_any w b q c2).mono ?_
  rintro e w' ⟨rfl, rfl⟩
  go_wp2
  go_ret
  exact ⟨rfl, rfl⟩
theorem lost_nil (w : World) : Calls Try.prog 15 #[.pointer none] w (fun e w' => e = .returned (.int .i64 0) ∧ w' = w) := by
  go_enter Try.func15, Try.ntmps15
  go_wp2
  go_ret
  exact ⟨rfl, rfl⟩
end Go.Proofs.Ytnphlghiicbjjaa
