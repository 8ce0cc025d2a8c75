/- disk.File: New, Bytes (with slices.Concat and slices.Grow), Safe. -/
import Derived.Test.YtcplmaeicmmkgaaA10
import Derived.Lib.AppendZerosOnto
namespace Go.Proofs.Ytcplmaeicmmkgaa
open Go Go.RowKit Go.Proofs.YtcplmaeicmmkgaaW.PrintWords Go.Proofs.YtcplmaeicmmkgaaW.PrintLast
set_option linter.unusedVariables false
set_option linter.unusedSimpArgs false

/-- A file: what is safe, what is loose, and its room; all of it in the blocks of F. -/
def FlAt (w : World) (F : Nat → Prop) (b : Nat) (safe loose : List Int) (room : Int) : Prop :=
  F b ∧ Bd F w ∧ BR safe ∧ BR loose ∧ ∃ A1 n1 c1 A2 n2 c2, Blk w b 189 [.slice A1 n1 c1, .slice A2 n2 c2, .int .i64 room] ∧
    (Kd.int .u8).R 5 w 0 F (.slice A1 n1 c1) safe ∧ (Kd.int .u8).R 5 w 0 F (.slice A2 n2 c2) loose ∧ NeRow (.slice A1 n1 c1) (.slice A2 n2 c2)
theorem FlAt.below {w w1 : World} {F : Nat → Prop} {b : Nat} {s l : List Int} {r : Int} (h : FlAt w F b s l r) (hb : Below w.heap.size w w1) : FlAt w1 F b s l r := by
  obtain ⟨h1, h2, h3, h4, A1, n1, c1, A2, n2, c2, h5, h6, h7, h8⟩ := h
  exact ⟨h1, h2.up hb.size, h3, h4, A1, n1, c1, A2, n2, c2, h5.below hb, Kd.R_below h6 hb, Kd.R_below h7 hb, h8⟩
theorem FlAt.kp {w w1 : World} {F G : Nat → Prop} {b : Nat} {s l : List Int} {r : Int} (h : FlAt w F b s l r) (hk : Kp G w w1) (hd : ∀ k, F k → ¬ G k) : FlAt w1 F b s l r := by
  obtain ⟨h1, h2, h3, h4, A1, n1, c1, A2, n2, c2, h5, h6, h7, h8⟩ := h
  exact ⟨h1, h2.up hk.size, h3, h4, A1, n1, c1, A2, n2, c2, h5.kp hk (hd b h1), R_kp h6 hk (fun k _ hf => hd k hf), R_kp h7 hk (fun k _ hf => hd k hf), h8⟩
theorem FlAt.mono {w : World} {F G : Nat → Prop} {b : Nat} {s l : List Int} {r : Int} (h : FlAt w F b s l r) (hG : ∀ k, F k → G k) (hB : Bd G w) : FlAt w G b s l r := by
  obtain ⟨h1, h2, h3, h4, A1, n1, c1, A2, n2, c2, h5, h6, h7, h8⟩ := h
  exact ⟨hG b h1, hB, h3, h4, A1, n1, c1, A2, n2, c2, h5, Kd.R_mono h6 hG, Kd.R_mono h7 hG, h8⟩

def NewFl (w : World) (room : Int) (e : Ending) (w' : World) : Prop :=
  ∃ b, e = .returned (.tuple #[.pointer (some ⟨b, 0, none⟩), .int .i64 0]) ∧ FlAt w' (ext (fun _ => False) w w') b [] [] room ∧ Below w.heap.size w w'
set_option maxHeartbeats 400000 in
theorem newfl_any (w : World) (room : Int) (h0 : 0 ≤ room) (h1 : room ≤ 16777216) : Calls Try.prog 60 #[.int .i64 room] w (NewFl w room) := by
  have d0 : decide (room < 0) = false := by simp; omega
  have d1 : decide (16777216 < room) = false := by simp; omega
  go_enter Try.func60, Try.ntmps60
  go_wp2
  go_ret2
  exact ⟨w.heap.size, rfl, ⟨.inr ⟨Nat.le_refl _, by simp⟩, (Bd.no w).ext (by simp), BR.nil, BR.nil, _, _, _, _, _, _, Blk.new w 189 [.slice none 0 0, .slice none 0 0, .int .i64 room], Kd.R_nil _ _ _ _ _, Kd.R_nil _ _ _ _ _, ne_nil _⟩, below_alloc (Below.refl _ _) _⟩

set_option maxHeartbeats 400000 in
theorem safe_any (w : World) (F : Nat → Prop) (b : Nat) (s l : List Int) (r : Int) (hF : FlAt w F b s l r) : Calls Try.prog 72 #[.pointer (some ⟨b, 0, none⟩)] w (fun e w' => e = .returned (.int .i64 (s.length : Nat)) ∧ w' = w) := by
  obtain ⟨h1, h2, h3, h4, A1, n1, c1, A2, n2, c2, h5, h6, h7, h8⟩ := hF
  have hn := (Kd.R_reads' h6).1
  subst hn
  have c0 := h5.cell 0 _ rfl
  clear h5 h6 h7 h8 h2 h3 h4
  go_enter Try.func72, Try.ntmps72
  go_wp2
  go_ret
  exact ⟨rfl, rfl⟩

set_option maxHeartbeats 400000 in
/-- slices.Grow of nil. -/
theorem grow_nil (w : World) (k : Nat) (hk : k ≤ 1000000000) : Calls Try.prog 138 #[.slice none 0 0, .int .i64 k] w (RetB w []) := by
  obtain ⟨i0, hi, hz⟩ := Option.map_eq_some_iff.1 A_info5
  simp only [Prod.mk.injEq] at hz
  obtain ⟨hz0, hz1, hz2⟩ := hz
  by_cases h0 : 0 < k
  · have hrun : ∀ (w : World) (ty : TypeId), (Builtin.append_ #[32, 3] ty #[.slice none 0 0, .int .i64 k]).run Try.prog w = .ok (.slice (some ⟨w.heap.size, 0, none⟩) k (grownCap w k 0 5)) (w.drew.alloc (.cells (Builtin.zeroCells #[.int .u8 0] k ++ Builtin.zeroCells #[.int .u8 0] (grownCap w k 0 5 - k)) 5)) := by
      intro w ty
      have := Lib.run_append_grow_zeros (P := Try.prog) w 32 3 ty 5 i0 (.int .u8 0) .i64 .i64 Try.underlying32 Try.underlying3 hi hz0 none 0 0 [] (by simp [Builtin.firstCells]) k h0 (by omega) (by omega) (by omega) (by rw [hz2]; omega) (by rw [hz2, Nat.zero_add]; exact growslice_fits (by omega) (by omega))
      simpa [Value.cells] using this
    have hge := grownCap_ge w k 0 5
    have hle := grownCap_le_maxLen w k 0 5 (by unfold maxLen; omega)
    have hr := hrun w
    generalize hG : grownCap w k 0 5 = G at hge hle hr
    have hcs : (Builtin.zeroCells #[.int .u8 0] k ++ Builtin.zeroCells #[.int .u8 0] (G - k)).size = G * 1 := by
      simp only [Array.size_append, size_zeroCells]; simp <;> omega
    generalize Builtin.zeroCells #[.int .u8 0] k ++ Builtin.zeroCells #[.int .u8 0] (G - k) = cur at hcs hr
    have Hr := Lib.hid hr
    have hk0 : decide ((k : Int) < 0) = false := decide_eq_false (by omega)
    have hk1 : decide (0 < k) = true := decide_eq_true h0
    have Hi := Lib.hid hi
    have Hg := Lib.hid hge
    have Hl := Lib.hid hle
    have Hcs := Lib.hid hcs
    clear hr hrun hi hz0 hz1 hz2 hG hge hle hcs
    go_enter Try.func138, Try.ntmps138
    go_wp2_with (at_builtin; refine ev_append_run (v := .slice none 0 0) (y := .int .i64 k) rfl _ _ rfl rfl rfl Hr.out ?_)
    go_ret
    refine ⟨_, rfl, ⟨fun _ _ => trivial, [], ⟨by simp, .inr ⟨w.heap.size, G, cur, rfl, Nat.le_refl _, heap_alloc_new w.drew _, Nat.zero_le _, Hl.out, Hcs.out, by simp⟩⟩, Reps.none _ _⟩, below_alloc (below_drew (Below.refl _ _)) _⟩
  · have hk0 : k = 0 := by omega
    subst hk0
    clear hi hz0 hz1 hz2
    go_enter Try.func138, Try.ntmps138
    go_wp2
    go_ret
    exact ⟨_, rfl, Kd.R_nil _ _ _ _ _, Below.refl _ _⟩
end Go.Proofs.Ytcplmaeicmmkgaa
