/- net: own, wrong, At. -/
import Derived.Test.YtnphlghiicbjjaaN1
namespace Go.Proofs.Ytnphlghiicbjjaa
open Go Go.RowKit Go.Proofs.YtnphlghiicbjjaaW.PrintWords Go.Proofs.YtnphlghiicbjjaaW.PrintLast Go.Proofs.Ytnphlghiicbjjaa.PNetPlays
set_option linter.unusedVariables false
set_option linter.unusedSimpArgs false

theorem wrong_nil (w : World) (i : Int) : Calls Try.prog 49 #[.pointer none, .int .i64 i] w (fun e w' => e = .returned (.int .i64 1) ∧ w' = w) := by
  go_enter Try.func49, Try.ntmps49
  go_wp2
  go_ret
  exact ⟨rfl, rfl⟩
set_option maxHeartbeats 400000 in
theorem wrong_no (w : World) (F : Nat → Prop) (b : Nat) (xs : List S40) (r q : Int) (hF : NtAt w F b xs r q) (i : Int) (hi : i < 0 ∨ (xs.length : Int) ≤ i) : Calls Try.prog 49 #[.pointer (some ⟨b, 0, none⟩), .int .i64 i] w (fun e w' => e = .returned (.int .i64 4) ∧ w' = w) := by
  obtain ⟨h1, h2, A, n, c, h5, h6⟩ := hF
  have hn := (Kd.R_reads' h6).1
  subst hn
  have c0 := h5.cell 0 _ rfl
  clear h5 h6 h2
  by_cases h0 : i < 0
  · have d0 : decide (i < 0) = true := decide_eq_true h0
    go_enter Try.func49, Try.ntmps49
    go_wp2
    go_ret
    exact ⟨rfl, rfl⟩
  · have d0 : decide (i < 0) = false := decide_eq_false h0
    have d1 : decide ((xs.length : Int) ≤ i) = true := decide_eq_true (by omega)
    go_enter Try.func49, Try.ntmps49
    go_wp2
    go_ret
    exact ⟨rfl, rfl⟩
set_option maxHeartbeats 400000 in
theorem wrong_ok (w : World) (F : Nat → Prop) (b : Nat) (xs : List S40) (r q : Int) (hF : NtAt w F b xs r q) (i : Int) (h0 : 0 ≤ i) (hi : i < (xs.length : Int)) : Calls Try.prog 49 #[.pointer (some ⟨b, 0, none⟩), .int .i64 i] w (fun e w' => e = .returned (.int .i64 0) ∧ w' = w) := by
  obtain ⟨h1, h2, A, n, c, h5, h6⟩ := hF
  have hn := (Kd.R_reads' h6).1
  subst hn
  have c0 := h5.cell 0 _ rfl
  clear h5 h6 h2
  have d0 : decide (i < 0) = false := decide_eq_false (by omega)
  have d1 : decide ((xs.length : Int) ≤ i) = false := decide_eq_false (by omega)
  go_enter Try.func49, Try.ntmps49
  go_wp2
  go_ret
  exact ⟨rfl, rfl⟩

/-- An item with bytes of its own. -/
def ItemIs (w w' : World) (x : S40) (v : Value) : Prop := ∃ u, v = .agg #[.int .i64 x.f0, .int .i64 x.f1, u] ∧ (Kd.int .u8).R 5 w' w.heap.size (fun _ => True) u x.f2 ∧ Below w.heap.size w w'
def RetI (w : World) (x : S40) (e : Ending) (w' : World) : Prop := ∃ v, e = .returned v ∧ ItemIs w w' x v
def RetIE (w : World) (x : S40) (e : Ending) (w' : World) : Prop := ∃ v, e = .returned (.tuple #[v, .int .i64 0]) ∧ ItemIs w w' x v
set_option maxHeartbeats 1000000 in
theorem own_any (w : World) (x : S40) (A : Option Addr) (n c : Nat) (hC : (Kd.int .u8).C w A n x.f2) (hl : n ≤ 140737488355232) :
    Calls Try.prog 50 #[.agg #[.int .i64 x.f0, .int .i64 x.f1, .slice A n c]] w (RetI w x) := by
  have HC := Lib.hid hC
  clear hC
  go_enter Try.func50, Try.ntmps50
  go_wp2_with fail
  refine (bclone_any _ A n c x.f2 (C_kp HC.out (below_alloc (below_alloc (Below.refl _ _) _) _)) hl).mono ?_
  rintro e w1 ⟨u, rfl, hR, hB⟩
  obtain ⟨A1, k1, rfl⟩ := Kd.R_slice hR
  have b0 := ((Blk.new w 40 [.int .i64 x.f0, .int .i64 x.f1, .slice A n c]).alloc (.cells #[.int .i64 0, .int .i64 0, .slice none 0 0] 40)).below hB
  have b1 := (Blk.new (w.alloc (.cells #[.int .i64 x.f0, .int .i64 x.f1, .slice A n c] 40)) 40 [.int .i64 0, .int .i64 0, .slice none 0 0]).below hB
  have hs : (w.alloc (.cells #[.int .i64 x.f0, .int .i64 x.f1, .slice A n c] 40)).heap.size = w.heap.size + 1 := by simp
  rw [hs] at b1
  have B0 := Lib.hid b0
  have B1 := Lib.hid b1
  have c0 := b0.cell 0 _ rfl
  have c1 := b0.cell 1 _ rfl
  have c2 := b0.cell 2 _ rfl
  have d0 := b1.cell 0 _ rfl
  have d1 := b1.cell 1 _ rfl
  have d2 := b1.cell 2 _ rfl
  have f0 := b0.frozen 2
  have g0 := b1.frozen 0
  have g1 := b1.frozen 1
  have g2 := b1.frozen 2
  have HR := Lib.hid hR
  have HB := Lib.hid hB
  clear hR hB b0 b1 hs
  go_wp2
  have K0 : Kp (fun k => k = w.heap.size ∨ k = w.heap.size + 1) w1 _ := ((((Kp.refl _ w1).setCell (p := ⟨w.heap.size, 2, none⟩) (fun _ => .inl rfl) (.slice A1 x.f2.length k1)).setCell (p := ⟨w.heap.size + 1, 0, none⟩) (fun _ => .inr rfl) (.int .i64 x.f0)).setCell (p := ⟨w.heap.size + 1, 1, none⟩) (fun _ => .inr rfl) (.int .i64 x.f1)).setCell (p := ⟨w.heap.size + 1, 2, none⟩) (fun _ => .inr rfl) (.slice A1 x.f2.length k1)
  have hbk := (((B1.out.far (p := ⟨w.heap.size, 2, none⟩) (by simp) (.slice A1 x.f2.length k1)).set 0 (.int .i64 x.f0)).set 1 (.int .i64 x.f1)).set 2 (.slice A1 x.f2.length k1)
  have hsz : w.heap.size + 1 + 1 ≤ w1.heap.size := by have := HB.out.size; simp at this; omega
  refine bodyPost_ret (results_cell_row rfl _ _ (w.heap.size + 1) 40 #[.int .i64 x.f0, .int .i64 x.f1, .slice A1 x.f2.length k1] (0, 0) _ rfl hbk Try.underlying40 rfl (by kernel_rfl)) rfl ?_
  refine ⟨_, rfl, _, rfl, ?_, ?_⟩
  · refine Kd.R_lower (Kd.R_mono (R_kp (Kd.R_bound HR.out) K0 ?_) (fun _ _ => trivial)) (by simp; omega)
    intro k _ hk hG
    have := hk.2.1
    simp at this
    omega
  · exact ((below_alloc (below_alloc (Below.refl _ _) _) _).trans (HB.out.mono (by simp; omega))).trans (K0.to_below (by omega) (fun k hk => by omega))
end Go.Proofs.Ytnphlghiicbjjaa
