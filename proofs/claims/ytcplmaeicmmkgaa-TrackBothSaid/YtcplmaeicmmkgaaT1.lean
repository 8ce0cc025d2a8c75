/- track: two flows, alike; closures; slices.IndexFunc of records. -/
import Derived.Test.YtcplmaeicmmkgaaB4
import Derived.Test.YtcplmaeicmmkgaaPTrackPlaysx2
import Derived.Test.YtcplmaeicmmkgaaPTrackPlaysx3
import Derived.Test.YtcplmaeicmmkgaaPTrackPlaysx4
namespace Go.Proofs.Ytcplmaeicmmkgaa
open Go Go.RowKit Go.Proofs.YtcplmaeicmmkgaaW.PrintWords Go.Proofs.YtcplmaeicmmkgaaW.PrintLast Go.Proofs.Ytcplmaeicmmkgaa.PTrackPlays
set_option linter.unusedVariables false
set_option linter.unusedSimpArgs false

abbrev v70 (f : S70) : Value := .agg #[.int .i64 f.f0, .int .u32 f.f1, .int .u32 f.f2, .int .i64 f.f3, .int .i64 f.f4]
abbrev v83 (x : S83) : Value := .agg #[.int .i64 x.f0.f0, .int .u32 x.f0.f1, .int .u32 x.f0.f2, .int .i64 x.f0.f3, .int .i64 x.f0.f4, .int .i64 x.f1]
def eqF (a b : S70) : Bool := a.f0 == b.f0 && (a.f1 == b.f1 && (a.f2 == b.f2 && (a.f3 == b.f3 && a.f4 == b.f4)))
def backF (f : S70) : S70 := ⟨f.f0, f.f2, f.f1, f.f4, f.f3⟩
def alikeF (a b : S70) : Bool := eqF a b || eqF a (backF b)
theorem eqF_iff (a b : S70) : eqF a b = true ↔ a = b := by
  cases a; cases b
  simp [eqF]
theorem eq70 (a b : S70) (W : World) : (binOp .eql 70 (v70 a) (v70 b)).run Try.prog W = .ok (.bool (eqF a b)) W := by
  rw [run_eql_struct, eqA70 9998]
  rfl
theorem eqg70 : Try.prog.eqGuardType Try.prog.depth 70 = false := by kernel_rfl
set_option maxHeartbeats 1000000 in
theorem back_any (w : World) (f : S70) : Calls Try.prog 140 #[v70 f] w (fun e w' => e = .returned (v70 (backF f)) ∧ Below w.heap.size w w') := by
  unfold v70 backF
  go_enter Try.func140, Try.ntmps140
  go_wp2
  have hbk := heap_alloc_new (w.alloc (.cells #[.int .i64 f.f0, .int .u32 f.f2, .int .u32 f.f1, .int .i64 f.f4, .int .i64 f.f3] 70)) (.cells #[.int .i64 f.f0, .int .u32 f.f2, .int .u32 f.f1, .int .i64 f.f4, .int .i64 f.f3] 70)
  have hz : (w.alloc (.cells #[.int .i64 f.f0, .int .u32 f.f2, .int .u32 f.f1, .int .i64 f.f4, .int .i64 f.f3] 70)).heap.size = w.heap.size + 1 := by simp
  rw [hz] at hbk
  refine bodyPost_ret (results_cell_row rfl _ _ (w.heap.size + 1) 70 #[.int .i64 f.f0, .int .u32 f.f2, .int .u32 f.f1, .int .i64 f.f4, .int .i64 f.f3] (0, 0) _ rfl hbk Try.underlying70 rfl (by kernel_rfl)) rfl ?_
  exact ⟨rfl, below_alloc (below_alloc (Below.refl _ _) _) _⟩
set_option maxHeartbeats 2000000 in
theorem alike_any (w : World) (a b : S70) : Calls Try.prog 132 #[v70 a, v70 b] w (fun e w' => e = .returned (.bool (alikeF a b)) ∧ Below w.heap.size w w') := by
  have h1 := eq70 a b
  have h2 := eq70 a (backF b)
  have hb := fun w' => back_any w' b
  have hg := eqg70
  unfold v70 backF at *
  go_enter Try.func132, Try.ntmps132
  have hB : Below w.heap.size w ((w.alloc (.cells #[.int .i64 a.f0, .int .u32 a.f1, .int .u32 a.f2, .int .i64 a.f3, .int .i64 a.f4] 70)).alloc (.cells #[.int .i64 b.f0, .int .u32 b.f1, .int .u32 b.f2, .int .i64 b.f3, .int .i64 b.f4] 70)) := below_alloc (below_alloc (Below.refl _ _) _) _
  have HA := Lib.hid ((Blk.new w 70 [.int .i64 a.f0, .int .u32 a.f1, .int .u32 a.f2, .int .i64 a.f3, .int .i64 a.f4]).alloc (.cells #[.int .i64 b.f0, .int .u32 b.f1, .int .u32 b.f2, .int .i64 b.f3, .int .i64 b.f4] 70))
  have hs : (w.alloc (.cells #[.int .i64 a.f0, .int .u32 a.f1, .int .u32 a.f2, .int .i64 a.f3, .int .i64 a.f4] 70)).heap.size = w.heap.size + 1 := by simp
  have HBl := Blk.new (w.alloc (.cells #[.int .i64 a.f0, .int .u32 a.f1, .int .u32 a.f2, .int .i64 a.f3, .int .i64 a.f4] 70)) 70 [.int .i64 b.f0, .int .u32 b.f1, .int .u32 b.f2, .int .i64 b.f3, .int .i64 b.f4]
  rw [hs] at HBl
  have HBl := Lib.hid HBl
  have HB := Lib.hid hB
  clear hB hs
  unfold alikeF backF
  cases he : eqF a b with
  | true =>
    rw [he] at h1
    clear he
    go_wp2_with fail
    generalize ((w.alloc (.cells #[.int .i64 a.f0, .int .u32 a.f1, .int .u32 a.f2, .int .i64 a.f3, .int .i64 a.f4] 70)).alloc (.cells #[.int .i64 b.f0, .int .u32 b.f1, .int .u32 b.f2, .int .i64 b.f3, .int .i64 b.f4] 70)) = w2 at HA HBl HB ⊢
    have a0 := HA.out.drew.cell 0 _ rfl
    have a1 := HA.out.drew.cell 1 _ rfl
    have a2 := HA.out.drew.cell 2 _ rfl
    have a3 := HA.out.drew.cell 3 _ rfl
    have a4 := HA.out.drew.cell 4 _ rfl
    have b0 := HBl.out.drew.cell 0 _ rfl
    have b1 := HBl.out.drew.cell 1 _ rfl
    have b2 := HBl.out.drew.cell 2 _ rfl
    have b3 := HBl.out.drew.cell 3 _ rfl
    have b4 := HBl.out.drew.cell 4 _ rfl
    refine seq_start (fun w' => w' = _) [] [(0, 1), (1, 1), (2, 1), (3, 1), (4, 1), (5, 1), (6, 1), (7, 1), (8, 1), (9, 1)] (by kernel_rfl) (by kernel_rfl) rfl ?_
    intro _
    (refine seq_l (some 5) (v := ?_) (a' := ?_) rfl rfl (fun _ _ _ h => h) rfl (Or.inl ⟨by rfl, ?_⟩) ?_ ?_; rotate_left 2; (· rintro _ rfl; go_simp; with_reducible rfl); (· simp only [Act.put, List.setIfInBounds_toArray, List.set_cons_zero, List.set_cons_succ, i64_w, i32_w]; rfl))
    (refine seq_l (some 6) (v := ?_) (a' := ?_) rfl rfl (fun _ _ _ h => h) rfl (Or.inl ⟨by rfl, ?_⟩) ?_ ?_; rotate_left 2; (· rintro _ rfl; go_simp; with_reducible rfl); (· simp only [Act.put, List.setIfInBounds_toArray, List.set_cons_zero, List.set_cons_succ, i64_w, i32_w]; rfl))
    (refine seq_l (some 7) (v := ?_) (a' := ?_) rfl rfl (fun _ _ _ h => h) rfl (Or.inl ⟨by rfl, ?_⟩) ?_ ?_; rotate_left 2; (· rintro _ rfl; go_simp; with_reducible rfl); (· simp only [Act.put, List.setIfInBounds_toArray, List.set_cons_zero, List.set_cons_succ, i64_w, i32_w]; rfl))
    (refine seq_l (some 8) (v := ?_) (a' := ?_) rfl rfl (fun _ _ _ h => h) rfl (Or.inl ⟨by rfl, ?_⟩) ?_ ?_; rotate_left 2; (· rintro _ rfl; go_simp; with_reducible rfl); (· simp only [Act.put, List.setIfInBounds_toArray, List.set_cons_zero, List.set_cons_succ, i64_w, i32_w]; rfl))
    first | (refine seq_l (some 9) (v := ?_) (a' := ?_) rfl rfl (fun _ _ _ h => h) rfl (Or.inl ⟨by rfl, ?_⟩) ?_ ?_; rotate_left 2; (· rintro _ rfl; go_simp; with_reducible rfl); (· simp only [Act.put, List.setIfInBounds_toArray, List.set_cons_zero, List.set_cons_succ, i64_w, i32_w]; rfl)) | (refine seq_l (some 9) (v := undef) (a' := ?_) rfl rfl (fun _ _ _ h => h) rfl (Or.inr ⟨by rfl, rfl⟩) ?_ ?_; rotate_left; (· simp only [Act.put, List.setIfInBounds_toArray, List.set_cons_zero, List.set_cons_succ, i64_w, i32_w]; rfl))
    first | (refine seq_l (some 10) (v := ?_) (a' := ?_) rfl rfl (fun _ _ _ h => h) rfl (Or.inl ⟨by rfl, ?_⟩) ?_ ?_; rotate_left 2; (· rintro _ rfl; go_simp; with_reducible rfl); (· simp only [Act.put, List.setIfInBounds_toArray, List.set_cons_zero, List.set_cons_succ, i64_w, i32_w]; rfl)) | (refine seq_l (some 10) (v := undef) (a' := ?_) rfl rfl (fun _ _ _ h => h) rfl (Or.inr ⟨by rfl, rfl⟩) ?_ ?_; rotate_left; (· simp only [Act.put, List.setIfInBounds_toArray, List.set_cons_zero, List.set_cons_succ, i64_w, i32_w]; rfl))
    first | (refine seq_l (some 11) (v := ?_) (a' := ?_) rfl rfl (fun _ _ _ h => h) rfl (Or.inl ⟨by rfl, ?_⟩) ?_ ?_; rotate_left 2; (· rintro _ rfl; go_simp; with_reducible rfl); (· simp only [Act.put, List.setIfInBounds_toArray, List.set_cons_zero, List.set_cons_succ, i64_w, i32_w]; rfl)) | (refine seq_l (some 11) (v := undef) (a' := ?_) rfl rfl (fun _ _ _ h => h) rfl (Or.inr ⟨by rfl, rfl⟩) ?_ ?_; rotate_left; (· simp only [Act.put, List.setIfInBounds_toArray, List.set_cons_zero, List.set_cons_succ, i64_w, i32_w]; rfl))
    first | (refine seq_l (some 12) (v := ?_) (a' := ?_) rfl rfl (fun _ _ _ h => h) rfl (Or.inl ⟨by rfl, ?_⟩) ?_ ?_; rotate_left 2; (· rintro _ rfl; go_simp; with_reducible rfl); (· simp only [Act.put, List.setIfInBounds_toArray, List.set_cons_zero, List.set_cons_succ, i64_w, i32_w]; rfl)) | (refine seq_l (some 12) (v := undef) (a' := ?_) rfl rfl (fun _ _ _ h => h) rfl (Or.inr ⟨by rfl, rfl⟩) ?_ ?_; rotate_left; (· simp only [Act.put, List.setIfInBounds_toArray, List.set_cons_zero, List.set_cons_succ, i64_w, i32_w]; rfl))
    (refine seq_l (some 13) (v := ?_) (a' := ?_) rfl rfl (fun _ _ _ h => h) rfl (Or.inl ⟨by rfl, ?_⟩) ?_ ?_; rotate_left 2; (· rintro _ rfl; go_simp; with_reducible rfl); (· simp only [Act.put, List.setIfInBounds_toArray, List.set_cons_zero, List.set_cons_succ, i64_w, i32_w]; rfl))
    (refine seq_l (some 4) (v := ?_) (a' := ?_) rfl rfl (fun _ _ _ h => h) rfl (Or.inl ⟨by rfl, ?_⟩) ?_ ?_; rotate_left 2; (· rintro _ rfl; go_simp; with_reducible rfl); (· simp only [Act.put, List.setIfInBounds_toArray, List.set_cons_zero, List.set_cons_succ, i64_w, i32_w]; rfl))
    refine seq_nil ?_
    go_wp2_with fail
    go_ret
    exact ⟨rfl, below_drew HB.out⟩
  | false =>
    rw [he] at h1
    clear he
    go_wp2_with fail
    generalize ((w.alloc (.cells #[.int .i64 a.f0, .int .u32 a.f1, .int .u32 a.f2, .int .i64 a.f3, .int .i64 a.f4] 70)).alloc (.cells #[.int .i64 b.f0, .int .u32 b.f1, .int .u32 b.f2, .int .i64 b.f3, .int .i64 b.f4] 70)) = w2 at HA HBl HB ⊢
    have a0 := HA.out.drew.cell 0 _ rfl
    have a1 := HA.out.drew.cell 1 _ rfl
    have a2 := HA.out.drew.cell 2 _ rfl
    have a3 := HA.out.drew.cell 3 _ rfl
    have a4 := HA.out.drew.cell 4 _ rfl
    have b0 := HBl.out.drew.cell 0 _ rfl
    have b1 := HBl.out.drew.cell 1 _ rfl
    have b2 := HBl.out.drew.cell 2 _ rfl
    have b3 := HBl.out.drew.cell 3 _ rfl
    have b4 := HBl.out.drew.cell 4 _ rfl
    refine seq_start (fun w' => w'.cell? ⟨w.heap.size, 0, none⟩ = some (.int .i64 a.f0) ∧ w'.cell? ⟨w.heap.size, 1, none⟩ = some (.int .u32 a.f1) ∧ w'.cell? ⟨w.heap.size, 2, none⟩ = some (.int .u32 a.f2) ∧ w'.cell? ⟨w.heap.size, 3, none⟩ = some (.int .i64 a.f3) ∧ w'.cell? ⟨w.heap.size, 4, none⟩ = some (.int .i64 a.f4) ∧ w'.cell? ⟨w.heap.size + 1, 0, none⟩ = some (.int .i64 b.f0) ∧ w'.cell? ⟨w.heap.size + 1, 1, none⟩ = some (.int .u32 b.f1) ∧ w'.cell? ⟨w.heap.size + 1, 2, none⟩ = some (.int .u32 b.f2) ∧ w'.cell? ⟨w.heap.size + 1, 3, none⟩ = some (.int .i64 b.f3) ∧ w'.cell? ⟨w.heap.size + 1, 4, none⟩ = some (.int .i64 b.f4)) [] [(0, 1), (1, 1), (2, 0), (3, 0), (4, 1), (5, 1), (6, 2), (7, 0), (8, 0), (9, 0)] (by kernel_rfl) (by kernel_rfl) ⟨a0, a1, a2, a3, a4, b0, b1, b2, b3, b4⟩ ?_
    intro hS
    (refine seq_l (some 5) (v := ?_) (a' := ?_) rfl rfl (fun _ _ _ h => h) (by assumption) (Or.inl ⟨by rfl, ?_⟩) ?_ ?_; rotate_left 2; (· intro w' hS'; (try dsimp only at hS'); go_simp; with_reducible rfl); (· simp only [Act.put, List.setIfInBounds_toArray, List.set_cons_zero, List.set_cons_succ, i64_w, i32_w]; rfl))
    (refine seq_l (some 6) (v := ?_) (a' := ?_) rfl rfl (fun _ _ _ h => h) (by assumption) (Or.inl ⟨by rfl, ?_⟩) ?_ ?_; rotate_left 2; (· intro w' hS'; (try dsimp only at hS'); go_simp; with_reducible rfl); (· simp only [Act.put, List.setIfInBounds_toArray, List.set_cons_zero, List.set_cons_succ, i64_w, i32_w]; rfl))
    (refine seq_v (some 7) (v := ?_) (a' := ?_) rfl rfl (fun _ _ _ h => h) (Or.inl ⟨by rfl, ?_⟩) ?_ ?_; rotate_left 2; (· intro w'; go_simp; with_reducible rfl); (· simp only [Act.put, List.setIfInBounds_toArray, List.set_cons_zero, List.set_cons_succ, i64_w, i32_w]; rfl))
    (refine seq_v (some 8) (v := ?_) (a' := ?_) rfl rfl (fun _ _ _ h => h) (Or.inl ⟨by rfl, ?_⟩) ?_ ?_; rotate_left 2; (· intro w'; go_simp; with_reducible rfl); (· simp only [Act.put, List.setIfInBounds_toArray, List.set_cons_zero, List.set_cons_succ, i64_w, i32_w]; rfl))
    first | (refine seq_l (some 9) (v := ?_) (a' := ?_) rfl rfl (fun _ _ _ h => h) (by assumption) (Or.inl ⟨by rfl, ?_⟩) ?_ ?_; rotate_left 2; (· intro w' hS'; (try dsimp only at hS'); go_simp; with_reducible rfl); (· simp only [Act.put, List.setIfInBounds_toArray, List.set_cons_zero, List.set_cons_succ, i64_w, i32_w]; rfl)) | (refine seq_l (some 9) (v := undef) (a' := ?_) rfl rfl (fun _ _ _ h => h) (by assumption) (Or.inr ⟨by rfl, rfl⟩) ?_ ?_; rotate_left; (· simp only [Act.put, List.setIfInBounds_toArray, List.set_cons_zero, List.set_cons_succ, i64_w, i32_w]; rfl))
    first | (refine seq_l (some 10) (v := ?_) (a' := ?_) rfl rfl (fun _ _ _ h => h) (by assumption) (Or.inl ⟨by rfl, ?_⟩) ?_ ?_; rotate_left 2; (· intro w' hS'; (try dsimp only at hS'); go_simp; with_reducible rfl); (· simp only [Act.put, List.setIfInBounds_toArray, List.set_cons_zero, List.set_cons_succ, i64_w, i32_w]; rfl)) | (refine seq_l (some 10) (v := undef) (a' := ?_) rfl rfl (fun _ _ _ h => h) (by assumption) (Or.inr ⟨by rfl, rfl⟩) ?_ ?_; rotate_left; (· simp only [Act.put, List.setIfInBounds_toArray, List.set_cons_zero, List.set_cons_succ, i64_w, i32_w]; rfl))
    (refine seq_e rfl (by rfl) (fun K hK => ?_))
    go_simp
    refine (hb _).mono ?_
    rintro e w3 ⟨rfl, hB3⟩
    have HB3 := Lib.hid ((below_drew HB.out).trans (hB3.mono (below_drew HB.out).size))
    refine hK _ _ ⟨cell_old hB3 a0, cell_old hB3 a1, cell_old hB3 a2, cell_old hB3 a3, cell_old hB3 a4, cell_old hB3 b0, cell_old hB3 b1, cell_old hB3 b2, cell_old hB3 b3, cell_old hB3 b4⟩ (fun hS => ?_)
    clear hK K
    first | (refine seq_v (some 12) (v := ?_) (a' := ?_) rfl rfl (fun _ _ _ h => h) (Or.inl ⟨by rfl, ?_⟩) ?_ ?_; rotate_left 2; (· intro w'; go_simp; with_reducible rfl); (· simp only [Act.put, List.setIfInBounds_toArray, List.set_cons_zero, List.set_cons_succ, i64_w, i32_w]; rfl)) | (refine seq_v (some 12) (v := undef) (a' := ?_) rfl rfl (fun _ _ _ h => h) (Or.inr ⟨by rfl, rfl⟩) ?_ ?_; rotate_left; (· simp only [Act.put, List.setIfInBounds_toArray, List.set_cons_zero, List.set_cons_succ, i64_w, i32_w]; rfl))
    (refine seq_v (some 13) (v := ?_) (a' := ?_) rfl rfl (fun _ _ _ h => h) (Or.inl ⟨by rfl, ?_⟩) ?_ ?_; rotate_left 2; (· intro w'; go_simp; with_reducible rfl); (· simp only [Act.put, List.setIfInBounds_toArray, List.set_cons_zero, List.set_cons_succ, i64_w, i32_w]; rfl))
    (refine seq_v (some 4) (v := ?_) (a' := ?_) rfl rfl (fun _ _ _ h => h) (Or.inl ⟨by rfl, ?_⟩) ?_ ?_; rotate_left 2; (· intro w'; go_simp; with_reducible rfl); (· simp only [Act.put, List.setIfInBounds_toArray, List.set_cons_zero, List.set_cons_succ, i64_w, i32_w]; rfl))
    refine seq_nil ?_
    clear hS hB3 a0 a1 a2 a3 a4 b0 b1 b2 b3 b4
    go_wp2_with fail
    go_ret
    exact ⟨rfl, HB3.out⟩
end Go.Proofs.Ytcplmaeicmmkgaa
