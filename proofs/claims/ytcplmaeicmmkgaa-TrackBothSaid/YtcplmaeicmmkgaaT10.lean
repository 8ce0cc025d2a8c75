/- track: alive. -/
import Derived.Test.YtcplmaeicmmkgaaT9
namespace Go.Proofs.Ytcplmaeicmmkgaa
open Go Go.RowKit Go.Proofs.YtcplmaeicmmkgaaW.PrintWords Go.Proofs.YtcplmaeicmmkgaaW.PrintLast Go.Proofs.YtcplmaeicmmkgaaW.PrintMore Go.Proofs.Ytcplmaeicmmkgaa.PTrackPlays
attribute [local go_sem] max2_int min2_int max_two min_two
set_option linter.unusedVariables false
set_option linter.unusedSimpArgs false

abbrev r0 : S83 := ⟨f0, 19⟩
set_option maxRecDepth 10000 in
set_option maxHeartbeats 8000000 in
theorem alive_any (w : World) : Calls Try.prog 27 #[] w (fun e w' => e = .returned (.bool true) ∧ Below w.heap.size w w') := by
  go_enter Try.func27, Try.ntmps27
  go_wp2_with fail
  refine (newt_any w 10 (by decide) (by decide)).mono ?_
  rintro e w1 ⟨b, rfl, hN, hB1⟩
  have HO1 := Lib.hid (one_new (P := PT 158 b 10 []) hB1 hN)
  have HB1 := Lib.hid hB1
  clear hN hB1
  go_wp2_with fail
  have hB2 : Below w1.heap.size w1 (w1.alloc (.cells #[.int .i64 6, .int .u32 1, .int .u32 2, .int .i64 3, .int .i64 4] 70)) := below_alloc (Below.refl _ _) _
  have HX2 := Lib.hid (Blk.new w1 70 [.int .i64 6, .int .u32 1, .int .u32 2, .int .i64 3, .int .i64 4])
  have HO2 := Lib.hid (One.take PT.stands HO1.out hB2)
  have HOx := Lib.hid (show ext (fun k => k < w.heap.size) w1 (w1.alloc (.cells #[.int .i64 6, .int .u32 1, .int .u32 2, .int .i64 3, .int .i64 4] 70)) w1.heap.size from .inr ⟨Nat.le_refl _, by simp⟩)
  have HB2 := Lib.hid (HB1.out.trans (hB2.mono HB1.out.size))
  have HOw := Lib.hid (show ∀ k, k < w.heap.size → ext (fun k => k < w.heap.size) w1 (w1.alloc (.cells #[.int .i64 6, .int .u32 1, .int .u32 2, .int .i64 3, .int .i64 4] 70)) k from fun k hk => .inl hk)
  clear hB2 HO1
  generalize ext (fun k => k < w.heap.size) w1 (w1.alloc (.cells #[.int .i64 6, .int .u32 1, .int .u32 2, .int .i64 3, .int .i64 4] 70)) = O at HO2 HOx HOw
  generalize (w1.alloc (.cells #[.int .i64 6, .int .u32 1, .int .u32 2, .int .i64 3, .int .i64 4] 70)) = w2 at HX2 HO2 HOx HB2 ⊢
  refine (one_note HO2.out (by decide) (by decide) (by decide) f0 5).mono ?_
  rw [al1]
  rintro e w3 ⟨rfl, hO3, hK3⟩
  have HX3 := Lib.hid (hK3.blk HX2.out HOx.out)
  have HO3 := Lib.hid hO3
  have HK3 := Lib.hid hK3
  have x0 := HX3.out.cell 0 _ rfl
  have x1 := HX3.out.cell 1 _ rfl
  have x2 := HX3.out.cell 2 _ rfl
  have x3 := HX3.out.cell 3 _ rfl
  have x4 := HX3.out.cell 4 _ rfl
  clear hO3 hK3 HO2
  go_wp2_with fail
  refine (rback_any w3 f0).mono ?_
  rintro e w4 ⟨rfl, hB4⟩
  have HX4 := Lib.hid (HX3.out.below hB4)
  have HO4 := Lib.hid (One.below PT.stands HO3.out hB4)
  have HK4 := Lib.hid (HK3.out.trans (KpO.of_below hB4))
  clear hB4 HO3 HX3 x0 x1 x2 x3 x4
  go_wp2_with fail
  refine (one_note HO4.out (by decide) (by decide) (by decide) (backF f0) 9).mono ?_
  rw [al2]
  rintro e w5 ⟨rfl, hO5, hK5⟩
  have HX5 := Lib.hid (hK5.blk HX4.out HOx.out)
  have HO5 := Lib.hid hO5
  have HK5 := Lib.hid (HK4.out.trans hK5)
  clear hO5 hK5 HO4 HX4
  go_wp2_with fail
  refine (one_recs HO5.out (by decide) 18).mono ?_
  rw [al3]
  rintro e w6 ⟨A, n, c, rfl, hR6, hB6⟩
  obtain rfl : n = 1 := (Kd.R_reads' hR6).1
  have HO6 := Lib.hid (One.take PT.stands HO5.out hB6)
  have HOx6 := Lib.hid (show ext O w5 w6 w1.heap.size from .inl HOx.out)
  have HOw6 := Lib.hid (show ∀ k, k < w.heap.size → ext O w5 w6 k from fun k hk => .inl (HOw.out k hk))
  have HX6 := Lib.hid (HX5.out.below hB6)
  have HR6 := Lib.hid (show k83.R 83 w6 0 (ext O w5 w6) (.slice A 1 c) [r0] from Kd.R_mono hR6 (fun k hk => hk.elim (fun h => h.elim) .inr))
  have HB6 := Lib.hid (HB2.out.trans ((KpO.below HK5.out HB2.out.size HOw.out).trans (hB6.mono (by have := HB2.out.size; have := HK5.out.size; omega))))
  clear hR6 hB6 HX5 HO5 HK5 HK4 HK3 HB1 HOx HOw HB2
  generalize ext O w5 w6 = O6 at HO6 HOx6 HOw6 HR6
  go_wp2_with fail
  refine (newt_any w6 1 (by decide) (by decide)).mono ?_
  rintro e w7 ⟨b2, rfl, hN7, hB7⟩
  have HT7 := Lib.hid (One.two PT.stands HO6.out hB7 (show PT 158 b2 1 [] w7 _ from hN7))
  have HR7 := Lib.hid (Kd.R_below HR6.out hB7)
  have HX7 := Lib.hid (HX6.out.below hB7)
  have HB7 := Lib.hid (HB6.out.trans (hB7.mono HB6.out.size))
  clear hN7 hB7 HO6 HR6 HX6 HB6
  go_wp2_with fail
  refine (two_callR (P := PT 158 b 10 [r0]) (Q' := PT 158 b2 1 (impF [] 18 [r0]).1) PT.stands HT7.out (fun F hF hlo => imp_any w7 F b2 1 [] hF (by decide) 18 A 1 c [r0] (fun w' hK => (Kd.R_reads' (R_kp HR7.out hK (fun k _ ho hf => hlo k hf ho))).2.2) (by decide))).mono ?_
  rw [al4]
  rintro e w8 ⟨rfl, hT8, hK8⟩
  have HT8 := Lib.hid hT8
  have HR8 := Lib.hid (R_kp HR7.out hK8 (fun k _ ho hf => hf ho))
  have HX8 := Lib.hid (hK8.blk HX7.out HOx6.out)
  have HB8 := Lib.hid (HB7.out.trans (KpO.below hK8 HB7.out.size HOw6.out))
  clear hT8 hK8 HT7 HR7 HX7 HB7
  go_wp2_with fail
  obtain ⟨ad, hA, e0, e1, e2, e3, e4, e5⟩ := at_T83 (Kd.R_reads' HR8.out).2.2 0 (by decide) (by decide)
  subst hA
  have hz0 : ad.add (Int.toNat 0 * 6) = ad := by unfold Addr.add; simp
  have heq : ∀ W, (binOp .eql 83 (.agg #[.int .i64 6, .int .u32 1, .int .u32 2, .int .i64 3, .int .i64 4, .int .i64 19]) (.agg #[.int .i64 6, .int .u32 1, .int .u32 2, .int .i64 3, .int .i64 4, .int .i64 19])).run Try.prog W = .ok (.bool true) W := fun W => (eq83 r0 r0 W).trans (by rfl)
  have hg := eqg83
  have g80 : w8.drew.cell? ad = some (.int .i64 6) := by have := e0; rw [hz0] at this; exact this
  have g81 : w8.drew.cell? ⟨ad.block, ad.off + 1, none⟩ = some (.int .u32 1) := by have := e1; rw [hz0] at this; exact this
  have g82 : w8.drew.cell? ⟨ad.block, ad.off + 2, none⟩ = some (.int .u32 2) := by have := e2; rw [hz0] at this; exact this
  have g83 : w8.drew.cell? ⟨ad.block, ad.off + 3, none⟩ = some (.int .i64 3) := by have := e3; rw [hz0] at this; exact this
  have g84 : w8.drew.cell? ⟨ad.block, ad.off + 4, none⟩ = some (.int .i64 4) := by have := e4; rw [hz0] at this; exact this
  have g85 : w8.drew.cell? ⟨ad.block, ad.off + 5, none⟩ = some (.int .i64 19) := by have := e5; rw [hz0] at this; exact this
  clear e0 e1 e2 e3 e4 e5 hz0
  have HT9 := Lib.hid (Two.below PT.stands PT.stands HT8.out (below_drew (Below.refl w8.heap.size w8)))
  have HB9 := Lib.hid (below_drew HB8.out)
  have h8 := HX8.out.drew
  refine seq_start (fun w' => w'.cell? ⟨w1.heap.size, 0, none⟩ = some (.int .i64 6) ∧ w'.cell? ⟨w1.heap.size, 1, none⟩ = some (.int .u32 1) ∧ w'.cell? ⟨w1.heap.size, 2, none⟩ = some (.int .u32 2) ∧ w'.cell? ⟨w1.heap.size, 3, none⟩ = some (.int .i64 3) ∧ w'.cell? ⟨w1.heap.size, 4, none⟩ = some (.int .i64 4) ∧ w'.cell? ad = some (.int .i64 6) ∧ w'.cell? ⟨ad.block, ad.off + 1, none⟩ = some (.int .u32 1) ∧ w'.cell? ⟨ad.block, ad.off + 2, none⟩ = some (.int .u32 2) ∧ w'.cell? ⟨ad.block, ad.off + 3, none⟩ = some (.int .i64 3) ∧ w'.cell? ⟨ad.block, ad.off + 4, none⟩ = some (.int .i64 4) ∧ w'.cell? ⟨ad.block, ad.off + 5, none⟩ = some (.int .i64 19)) [] [(0, 0), (1, 0), (2, 0), (3, 0), (4, 0), (5, 0), (6, 0), (7, 0), (8, 0), (9, 0), (10, 0), (11, 0), (12, 0), (13, 0), (14, 0), (15, 0), (16, 0), (17, 0), (18, 1), (19, 1), (20, 0), (21, 0), (22, 0), (23, 0), (24, 0), (25, 1), (26, 2), (27, 0), (28, 0), (29, 0), (30, 1), (31, 2), (32, 0), (33, 0), (34, 0), (35, 0), (36, 0), (37, 0), (38, 0), (39, 0), (40, 1), (41, 2), (42, 2), (43, 0), (44, 0)] (by kernel_rfl) (by kernel_rfl) ⟨h8.cell 0 _ rfl, h8.cell 1 _ rfl, h8.cell 2 _ rfl, h8.cell 3 _ rfl, h8.cell 4 _ rfl, g80, g81, g82, g83, g84, g85⟩ ?_
  intro hS
  (refine seq_v (some 31) (v := ?_) (a' := ?_) rfl rfl (fun _ _ _ h => h) (Or.inl ⟨by rfl, ?_⟩) ?_ ?_; rotate_left 2; (· intro w'; go_simp; with_reducible rfl); (· simp only [Act.put, List.setIfInBounds_toArray, List.set_cons_zero, List.set_cons_succ, i64_w, i32_w]; rfl))
  (refine seq_v (some 32) (v := ?_) (a' := ?_) rfl rfl (fun _ _ _ h => h) (Or.inl ⟨by rfl, ?_⟩) ?_ ?_; rotate_left 2; (· intro w'; go_simp; with_reducible rfl); (· simp only [Act.put, List.setIfInBounds_toArray, List.set_cons_zero, List.set_cons_succ, i64_w, i32_w]; rfl))
  (refine seq_v (some 33) (v := ?_) (a' := ?_) rfl rfl (fun _ _ _ h => h) (Or.inl ⟨by rfl, ?_⟩) ?_ ?_; rotate_left 2; (· intro w'; go_simp; with_reducible rfl); (· simp only [Act.put, List.setIfInBounds_toArray, List.set_cons_zero, List.set_cons_succ, i64_w, i32_w]; rfl))
  first | (refine seq_v (some 34) (v := ?_) (a' := ?_) rfl rfl (fun _ _ _ h => h) (Or.inl ⟨by rfl, ?_⟩) ?_ ?_; rotate_left 2; (· intro w'; go_simp; with_reducible rfl); (· simp only [Act.put, List.setIfInBounds_toArray, List.set_cons_zero, List.set_cons_succ, i64_w, i32_w]; rfl)) | (refine seq_v (some 34) (v := undef) (a' := ?_) rfl rfl (fun _ _ _ h => h) (Or.inr ⟨by rfl, rfl⟩) ?_ ?_; rotate_left; (· simp only [Act.put, List.setIfInBounds_toArray, List.set_cons_zero, List.set_cons_succ, i64_w, i32_w]; rfl))
  first | (refine seq_v (some 35) (v := ?_) (a' := ?_) rfl rfl (fun _ _ _ h => h) (Or.inl ⟨by rfl, ?_⟩) ?_ ?_; rotate_left 2; (· intro w'; go_simp; with_reducible rfl); (· simp only [Act.put, List.setIfInBounds_toArray, List.set_cons_zero, List.set_cons_succ, i64_w, i32_w]; rfl)) | (refine seq_v (some 35) (v := undef) (a' := ?_) rfl rfl (fun _ _ _ h => h) (Or.inr ⟨by rfl, rfl⟩) ?_ ?_; rotate_left; (· simp only [Act.put, List.setIfInBounds_toArray, List.set_cons_zero, List.set_cons_succ, i64_w, i32_w]; rfl))
  (refine seq_v (some 36) (v := ?_) (a' := ?_) rfl rfl (fun _ _ _ h => h) (Or.inl ⟨by rfl, ?_⟩) ?_ ?_; rotate_left 2; (· intro w'; go_simp; with_reducible rfl); (· simp only [Act.put, List.setIfInBounds_toArray, List.set_cons_zero, List.set_cons_succ, i64_w, i32_w]; rfl))
  (refine seq_v (some 37) (v := ?_) (a' := ?_) rfl rfl (fun _ _ _ h => h) (Or.inl ⟨by rfl, ?_⟩) ?_ ?_; rotate_left 2; (· intro w'; go_simp; with_reducible rfl); (· simp only [Act.put, List.setIfInBounds_toArray, List.set_cons_zero, List.set_cons_succ, i64_w, i32_w]; rfl))
  first | (refine seq_v (some 38) (v := ?_) (a' := ?_) rfl rfl (fun _ _ _ h => h) (Or.inl ⟨by rfl, ?_⟩) ?_ ?_; rotate_left 2; (· intro w'; go_simp; with_reducible rfl); (· simp only [Act.put, List.setIfInBounds_toArray, List.set_cons_zero, List.set_cons_succ, i64_w, i32_w]; rfl)) | (refine seq_v (some 38) (v := undef) (a' := ?_) rfl rfl (fun _ _ _ h => h) (Or.inr ⟨by rfl, rfl⟩) ?_ ?_; rotate_left; (· simp only [Act.put, List.setIfInBounds_toArray, List.set_cons_zero, List.set_cons_succ, i64_w, i32_w]; rfl))
  first | (refine seq_v (some 39) (v := ?_) (a' := ?_) rfl rfl (fun _ _ _ h => h) (Or.inl ⟨by rfl, ?_⟩) ?_ ?_; rotate_left 2; (· intro w'; go_simp; with_reducible rfl); (· simp only [Act.put, List.setIfInBounds_toArray, List.set_cons_zero, List.set_cons_succ, i64_w, i32_w]; rfl)) | (refine seq_v (some 39) (v := undef) (a' := ?_) rfl rfl (fun _ _ _ h => h) (Or.inr ⟨by rfl, rfl⟩) ?_ ?_; rotate_left; (· simp only [Act.put, List.setIfInBounds_toArray, List.set_cons_zero, List.set_cons_succ, i64_w, i32_w]; rfl))
  (refine seq_v (some 40) (v := ?_) (a' := ?_) rfl rfl (fun _ _ _ h => h) (Or.inl ⟨by rfl, ?_⟩) ?_ ?_; rotate_left 2; (· intro w'; go_simp; with_reducible rfl); (· simp only [Act.put, List.setIfInBounds_toArray, List.set_cons_zero, List.set_cons_succ, i64_w, i32_w]; rfl))
  (refine seq_v (some 41) (v := ?_) (a' := ?_) rfl rfl (fun _ _ _ h => h) (Or.inl ⟨by rfl, ?_⟩) ?_ ?_; rotate_left 2; (· intro w'; go_simp; with_reducible rfl); (· simp only [Act.put, List.setIfInBounds_toArray, List.set_cons_zero, List.set_cons_succ, i64_w, i32_w]; rfl))
  first | (refine seq_v (some 42) (v := ?_) (a' := ?_) rfl rfl (fun _ _ _ h => h) (Or.inl ⟨by rfl, ?_⟩) ?_ ?_; rotate_left 2; (· intro w'; go_simp; with_reducible rfl); (· simp only [Act.put, List.setIfInBounds_toArray, List.set_cons_zero, List.set_cons_succ, i64_w, i32_w]; rfl)) | (refine seq_v (some 42) (v := undef) (a' := ?_) rfl rfl (fun _ _ _ h => h) (Or.inr ⟨by rfl, rfl⟩) ?_ ?_; rotate_left; (· simp only [Act.put, List.setIfInBounds_toArray, List.set_cons_zero, List.set_cons_succ, i64_w, i32_w]; rfl))
  first | (refine seq_v (some 43) (v := ?_) (a' := ?_) rfl rfl (fun _ _ _ h => h) (Or.inl ⟨by rfl, ?_⟩) ?_ ?_; rotate_left 2; (· intro w'; go_simp; with_reducible rfl); (· simp only [Act.put, List.setIfInBounds_toArray, List.set_cons_zero, List.set_cons_succ, i64_w, i32_w]; rfl)) | (refine seq_v (some 43) (v := undef) (a' := ?_) rfl rfl (fun _ _ _ h => h) (Or.inr ⟨by rfl, rfl⟩) ?_ ?_; rotate_left; (· simp only [Act.put, List.setIfInBounds_toArray, List.set_cons_zero, List.set_cons_succ, i64_w, i32_w]; rfl))
  first | (refine seq_v (some 44) (v := ?_) (a' := ?_) rfl rfl (fun _ _ _ h => h) (Or.inl ⟨by rfl, ?_⟩) ?_ ?_; rotate_left 2; (· intro w'; go_simp; with_reducible rfl); (· simp only [Act.put, List.setIfInBounds_toArray, List.set_cons_zero, List.set_cons_succ, i64_w, i32_w]; rfl)) | (refine seq_v (some 44) (v := undef) (a' := ?_) rfl rfl (fun _ _ _ h => h) (Or.inr ⟨by rfl, rfl⟩) ?_ ?_; rotate_left; (· simp only [Act.put, List.setIfInBounds_toArray, List.set_cons_zero, List.set_cons_succ, i64_w, i32_w]; rfl))
  (refine seq_v (some 45) (v := ?_) (a' := ?_) rfl rfl (fun _ _ _ h => h) (Or.inl ⟨by rfl, ?_⟩) ?_ ?_; rotate_left 2; (· intro w'; go_simp; with_reducible rfl); (· simp only [Act.put, List.setIfInBounds_toArray, List.set_cons_zero, List.set_cons_succ, i64_w, i32_w]; rfl))
  (refine seq_v (some 46) (v := ?_) (a' := ?_) rfl rfl (fun _ _ _ h => h) (Or.inl ⟨by rfl, ?_⟩) ?_ ?_; rotate_left 2; (· intro w'; go_simp; with_reducible rfl); (· simp only [Act.put, List.setIfInBounds_toArray, List.set_cons_zero, List.set_cons_succ, i64_w, i32_w]; rfl))
  first | (refine seq_v (some 47) (v := ?_) (a' := ?_) rfl rfl (fun _ _ _ h => h) (Or.inl ⟨by rfl, ?_⟩) ?_ ?_; rotate_left 2; (· intro w'; go_simp; with_reducible rfl); (· simp only [Act.put, List.setIfInBounds_toArray, List.set_cons_zero, List.set_cons_succ, i64_w, i32_w]; rfl)) | (refine seq_v (some 47) (v := undef) (a' := ?_) rfl rfl (fun _ _ _ h => h) (Or.inr ⟨by rfl, rfl⟩) ?_ ?_; rotate_left; (· simp only [Act.put, List.setIfInBounds_toArray, List.set_cons_zero, List.set_cons_succ, i64_w, i32_w]; rfl))
  first | (refine seq_v (some 48) (v := ?_) (a' := ?_) rfl rfl (fun _ _ _ h => h) (Or.inl ⟨by rfl, ?_⟩) ?_ ?_; rotate_left 2; (· intro w'; go_simp; with_reducible rfl); (· simp only [Act.put, List.setIfInBounds_toArray, List.set_cons_zero, List.set_cons_succ, i64_w, i32_w]; rfl)) | (refine seq_v (some 48) (v := undef) (a' := ?_) rfl rfl (fun _ _ _ h => h) (Or.inr ⟨by rfl, rfl⟩) ?_ ?_; rotate_left; (· simp only [Act.put, List.setIfInBounds_toArray, List.set_cons_zero, List.set_cons_succ, i64_w, i32_w]; rfl))
  first | (refine seq_l (some 49) (v := ?_) (a' := ?_) rfl rfl (fun _ _ _ h => h) (by assumption) (Or.inl ⟨by rfl, ?_⟩) ?_ ?_; rotate_left 2; (· intro w' hS'; (try dsimp only at hS'); go_simp; with_reducible rfl); (· simp only [Act.put, List.setIfInBounds_toArray, List.set_cons_zero, List.set_cons_succ, i64_w, i32_w]; rfl)) | (refine seq_l (some 49) (v := undef) (a' := ?_) rfl rfl (fun _ _ _ h => h) (by assumption) (Or.inr ⟨by rfl, rfl⟩) ?_ ?_; rotate_left; (· simp only [Act.put, List.setIfInBounds_toArray, List.set_cons_zero, List.set_cons_succ, i64_w, i32_w]; rfl))
  first | (refine seq_l (some 50) (v := ?_) (a' := ?_) rfl rfl (fun _ _ _ h => h) (by assumption) (Or.inl ⟨by rfl, ?_⟩) ?_ ?_; rotate_left 2; (· intro w' hS'; (try dsimp only at hS'); go_simp; with_reducible rfl); (· simp only [Act.put, List.setIfInBounds_toArray, List.set_cons_zero, List.set_cons_succ, i64_w, i32_w]; rfl)) | (refine seq_l (some 50) (v := undef) (a' := ?_) rfl rfl (fun _ _ _ h => h) (by assumption) (Or.inr ⟨by rfl, rfl⟩) ?_ ?_; rotate_left; (· simp only [Act.put, List.setIfInBounds_toArray, List.set_cons_zero, List.set_cons_succ, i64_w, i32_w]; rfl))
  first | (refine seq_v (some 51) (v := ?_) (a' := ?_) rfl rfl (fun _ _ _ h => h) (Or.inl ⟨by rfl, ?_⟩) ?_ ?_; rotate_left 2; (· intro w'; go_simp; with_reducible rfl); (· simp only [Act.put, List.setIfInBounds_toArray, List.set_cons_zero, List.set_cons_succ, i64_w, i32_w]; rfl)) | (refine seq_v (some 51) (v := undef) (a' := ?_) rfl rfl (fun _ _ _ h => h) (Or.inr ⟨by rfl, rfl⟩) ?_ ?_; rotate_left; (· simp only [Act.put, List.setIfInBounds_toArray, List.set_cons_zero, List.set_cons_succ, i64_w, i32_w]; rfl))
  first | (refine seq_v (some 52) (v := ?_) (a' := ?_) rfl rfl (fun _ _ _ h => h) (Or.inl ⟨by rfl, ?_⟩) ?_ ?_; rotate_left 2; (· intro w'; go_simp; with_reducible rfl); (· simp only [Act.put, List.setIfInBounds_toArray, List.set_cons_zero, List.set_cons_succ, i64_w, i32_w]; rfl)) | (refine seq_v (some 52) (v := undef) (a' := ?_) rfl rfl (fun _ _ _ h => h) (Or.inr ⟨by rfl, rfl⟩) ?_ ?_; rotate_left; (· simp only [Act.put, List.setIfInBounds_toArray, List.set_cons_zero, List.set_cons_succ, i64_w, i32_w]; rfl))
  (refine seq_v (some 53) (v := ?_) (a' := ?_) rfl rfl (fun _ _ _ h => h) (Or.inl ⟨by rfl, ?_⟩) ?_ ?_; rotate_left 2; (· intro w'; go_simp; with_reducible rfl); (· simp only [Act.put, List.setIfInBounds_toArray, List.set_cons_zero, List.set_cons_succ, i64_w, i32_w]; rfl))
  (refine seq_v (some 54) (v := ?_) (a' := ?_) rfl rfl (fun _ _ _ h => h) (Or.inl ⟨by rfl, ?_⟩) ?_ ?_; rotate_left 2; (· intro w'; go_simp; with_reducible rfl); (· simp only [Act.put, List.setIfInBounds_toArray, List.set_cons_zero, List.set_cons_succ, i64_w, i32_w]; rfl))
  first | (refine seq_v (some 55) (v := ?_) (a' := ?_) rfl rfl (fun _ _ _ h => h) (Or.inl ⟨by rfl, ?_⟩) ?_ ?_; rotate_left 2; (· intro w'; go_simp; with_reducible rfl); (· simp only [Act.put, List.setIfInBounds_toArray, List.set_cons_zero, List.set_cons_succ, i64_w, i32_w]; rfl)) | (refine seq_v (some 55) (v := undef) (a' := ?_) rfl rfl (fun _ _ _ h => h) (Or.inr ⟨by rfl, rfl⟩) ?_ ?_; rotate_left; (· simp only [Act.put, List.setIfInBounds_toArray, List.set_cons_zero, List.set_cons_succ, i64_w, i32_w]; rfl))
  first | (refine seq_l (some 56) (v := ?_) (a' := ?_) rfl rfl (fun _ _ _ h => h) (by assumption) (Or.inl ⟨by rfl, ?_⟩) ?_ ?_; rotate_left 2; (· intro w' hS'; (try dsimp only at hS'); go_simp; with_reducible rfl); (· simp only [Act.put, List.setIfInBounds_toArray, List.set_cons_zero, List.set_cons_succ, i64_w, i32_w]; rfl)) | (refine seq_l (some 56) (v := undef) (a' := ?_) rfl rfl (fun _ _ _ h => h) (by assumption) (Or.inr ⟨by rfl, rfl⟩) ?_ ?_; rotate_left; (· simp only [Act.put, List.setIfInBounds_toArray, List.set_cons_zero, List.set_cons_succ, i64_w, i32_w]; rfl))
  (refine seq_e rfl (by rfl) (fun K hK => ?_))
  go_simp
  refine (one_known (HT9.out.one) (by decide) f0 18).mono ?_
  rw [al5]
  rintro e w10 ⟨rfl, hB10⟩
  have HT10 := Lib.hid (Two.below PT.stands PT.stands HT9.out hB10)
  have HB10 := Lib.hid (HB9.out.trans (hB10.mono HB9.out.size))
  have h10 := h8.below hB10
  have g100 := cell_old hB10 g80
  have g101 := cell_old hB10 g81
  have g102 := cell_old hB10 g82
  have g103 := cell_old hB10 g83
  have g104 := cell_old hB10 g84
  have g105 := cell_old hB10 g85
  refine hK _ _ ⟨h10.cell 0 _ rfl, h10.cell 1 _ rfl, h10.cell 2 _ rfl, h10.cell 3 _ rfl, h10.cell 4 _ rfl, g100, g101, g102, g103, g104, g105⟩ (fun hS => ?_)
  clear hK K
  (refine seq_v (some 58) (v := ?_) (a' := ?_) rfl rfl (fun _ _ _ h => h) (Or.inl ⟨by rfl, ?_⟩) ?_ ?_; rotate_left 2; (· intro w'; go_simp; with_reducible rfl); (· simp only [Act.put, List.setIfInBounds_toArray, List.set_cons_zero, List.set_cons_succ, i64_w, i32_w]; rfl))
  (refine seq_v (some 59) (v := ?_) (a' := ?_) rfl rfl (fun _ _ _ h => h) (Or.inl ⟨by rfl, ?_⟩) ?_ ?_; rotate_left 2; (· intro w'; go_simp; with_reducible rfl); (· simp only [Act.put, List.setIfInBounds_toArray, List.set_cons_zero, List.set_cons_succ, i64_w, i32_w]; rfl))
  first | (refine seq_v (some 60) (v := ?_) (a' := ?_) rfl rfl (fun _ _ _ h => h) (Or.inl ⟨by rfl, ?_⟩) ?_ ?_; rotate_left 2; (· intro w'; go_simp; with_reducible rfl); (· simp only [Act.put, List.setIfInBounds_toArray, List.set_cons_zero, List.set_cons_succ, i64_w, i32_w]; rfl)) | (refine seq_v (some 60) (v := undef) (a' := ?_) rfl rfl (fun _ _ _ h => h) (Or.inr ⟨by rfl, rfl⟩) ?_ ?_; rotate_left; (· simp only [Act.put, List.setIfInBounds_toArray, List.set_cons_zero, List.set_cons_succ, i64_w, i32_w]; rfl))
  first | (refine seq_l (some 61) (v := ?_) (a' := ?_) rfl rfl (fun _ _ _ h => h) (by assumption) (Or.inl ⟨by rfl, ?_⟩) ?_ ?_; rotate_left 2; (· intro w' hS'; (try dsimp only at hS'); go_simp; with_reducible rfl); (· simp only [Act.put, List.setIfInBounds_toArray, List.set_cons_zero, List.set_cons_succ, i64_w, i32_w]; rfl)) | (refine seq_l (some 61) (v := undef) (a' := ?_) rfl rfl (fun _ _ _ h => h) (by assumption) (Or.inr ⟨by rfl, rfl⟩) ?_ ?_; rotate_left; (· simp only [Act.put, List.setIfInBounds_toArray, List.set_cons_zero, List.set_cons_succ, i64_w, i32_w]; rfl))
  (refine seq_e rfl (by rfl) (fun K hK => ?_))
  go_simp
  refine (one_known (HT10.out.one) (by decide) f0 19).mono ?_
  rw [al6]
  rintro e w11 ⟨rfl, hB11⟩
  have HT11 := Lib.hid (Two.below PT.stands PT.stands HT10.out hB11)
  have HB11 := Lib.hid (HB10.out.trans (hB11.mono HB10.out.size))
  have h11 := h10.below hB11
  have g110 := cell_old hB11 g100
  have g111 := cell_old hB11 g101
  have g112 := cell_old hB11 g102
  have g113 := cell_old hB11 g103
  have g114 := cell_old hB11 g104
  have g115 := cell_old hB11 g105
  refine hK _ _ ⟨h11.cell 0 _ rfl, h11.cell 1 _ rfl, h11.cell 2 _ rfl, h11.cell 3 _ rfl, h11.cell 4 _ rfl, g110, g111, g112, g113, g114, g115⟩ (fun hS => ?_)
  clear hK K
  first | (refine seq_v (some 63) (v := ?_) (a' := ?_) rfl rfl (fun _ _ _ h => h) (Or.inl ⟨by rfl, ?_⟩) ?_ ?_; rotate_left 2; (· intro w'; go_simp; with_reducible rfl); (· simp only [Act.put, List.setIfInBounds_toArray, List.set_cons_zero, List.set_cons_succ, i64_w, i32_w]; rfl)) | (refine seq_v (some 63) (v := undef) (a' := ?_) rfl rfl (fun _ _ _ h => h) (Or.inr ⟨by rfl, rfl⟩) ?_ ?_; rotate_left; (· simp only [Act.put, List.setIfInBounds_toArray, List.set_cons_zero, List.set_cons_succ, i64_w, i32_w]; rfl))
  (refine seq_v (some 64) (v := ?_) (a' := ?_) rfl rfl (fun _ _ _ h => h) (Or.inl ⟨by rfl, ?_⟩) ?_ ?_; rotate_left 2; (· intro w'; go_simp; with_reducible rfl); (· simp only [Act.put, List.setIfInBounds_toArray, List.set_cons_zero, List.set_cons_succ, i64_w, i32_w]; rfl))
  (refine seq_v (some 65) (v := ?_) (a' := ?_) rfl rfl (fun _ _ _ h => h) (Or.inl ⟨by rfl, ?_⟩) ?_ ?_; rotate_left 2; (· intro w'; go_simp; with_reducible rfl); (· simp only [Act.put, List.setIfInBounds_toArray, List.set_cons_zero, List.set_cons_succ, i64_w, i32_w]; rfl))
  first | (refine seq_v (some 66) (v := ?_) (a' := ?_) rfl rfl (fun _ _ _ h => h) (Or.inl ⟨by rfl, ?_⟩) ?_ ?_; rotate_left 2; (· intro w'; go_simp; with_reducible rfl); (· simp only [Act.put, List.setIfInBounds_toArray, List.set_cons_zero, List.set_cons_succ, i64_w, i32_w]; rfl)) | (refine seq_v (some 66) (v := undef) (a' := ?_) rfl rfl (fun _ _ _ h => h) (Or.inr ⟨by rfl, rfl⟩) ?_ ?_; rotate_left; (· simp only [Act.put, List.setIfInBounds_toArray, List.set_cons_zero, List.set_cons_succ, i64_w, i32_w]; rfl))
  first | (refine seq_v (some 67) (v := ?_) (a' := ?_) rfl rfl (fun _ _ _ h => h) (Or.inl ⟨by rfl, ?_⟩) ?_ ?_; rotate_left 2; (· intro w'; go_simp; with_reducible rfl); (· simp only [Act.put, List.setIfInBounds_toArray, List.set_cons_zero, List.set_cons_succ, i64_w, i32_w]; rfl)) | (refine seq_v (some 67) (v := undef) (a' := ?_) rfl rfl (fun _ _ _ h => h) (Or.inr ⟨by rfl, rfl⟩) ?_ ?_; rotate_left; (· simp only [Act.put, List.setIfInBounds_toArray, List.set_cons_zero, List.set_cons_succ, i64_w, i32_w]; rfl))
  (refine seq_v (some 68) (v := ?_) (a' := ?_) rfl rfl (fun _ _ _ h => h) (Or.inl ⟨by rfl, ?_⟩) ?_ ?_; rotate_left 2; (· intro w'; go_simp; with_reducible rfl); (· simp only [Act.put, List.setIfInBounds_toArray, List.set_cons_zero, List.set_cons_succ, i64_w, i32_w]; rfl))
  (refine seq_v (some 69) (v := ?_) (a' := ?_) rfl rfl (fun _ _ _ h => h) (Or.inl ⟨by rfl, ?_⟩) ?_ ?_; rotate_left 2; (· intro w'; go_simp; with_reducible rfl); (· simp only [Act.put, List.setIfInBounds_toArray, List.set_cons_zero, List.set_cons_succ, i64_w, i32_w]; rfl))
  first | (refine seq_v (some 70) (v := ?_) (a' := ?_) rfl rfl (fun _ _ _ h => h) (Or.inl ⟨by rfl, ?_⟩) ?_ ?_; rotate_left 2; (· intro w'; go_simp; with_reducible rfl); (· simp only [Act.put, List.setIfInBounds_toArray, List.set_cons_zero, List.set_cons_succ, i64_w, i32_w]; rfl)) | (refine seq_v (some 70) (v := undef) (a' := ?_) rfl rfl (fun _ _ _ h => h) (Or.inr ⟨by rfl, rfl⟩) ?_ ?_; rotate_left; (· simp only [Act.put, List.setIfInBounds_toArray, List.set_cons_zero, List.set_cons_succ, i64_w, i32_w]; rfl))
  first | (refine seq_l (some 71) (v := ?_) (a' := ?_) rfl rfl (fun _ _ _ h => h) (by assumption) (Or.inl ⟨by rfl, ?_⟩) ?_ ?_; rotate_left 2; (· intro w' hS'; (try dsimp only at hS'); go_simp; with_reducible rfl); (· simp only [Act.put, List.setIfInBounds_toArray, List.set_cons_zero, List.set_cons_succ, i64_w, i32_w]; rfl)) | (refine seq_l (some 71) (v := undef) (a' := ?_) rfl rfl (fun _ _ _ h => h) (by assumption) (Or.inr ⟨by rfl, rfl⟩) ?_ ?_; rotate_left; (· simp only [Act.put, List.setIfInBounds_toArray, List.set_cons_zero, List.set_cons_succ, i64_w, i32_w]; rfl))
  (refine seq_e rfl (by rfl) (fun K hK => ?_))
  go_simp
  refine (rback_any _ f0).mono ?_
  rintro e w12 ⟨rfl, hB12⟩
  have HT12 := Lib.hid (Two.below PT.stands PT.stands HT11.out hB12)
  have HB12 := Lib.hid (HB11.out.trans (hB12.mono HB11.out.size))
  have h12 := h11.below hB12
  have g120 := cell_old hB12 g110
  have g121 := cell_old hB12 g111
  have g122 := cell_old hB12 g112
  have g123 := cell_old hB12 g113
  have g124 := cell_old hB12 g114
  have g125 := cell_old hB12 g115
  refine hK _ _ ⟨h12.cell 0 _ rfl, h12.cell 1 _ rfl, h12.cell 2 _ rfl, h12.cell 3 _ rfl, h12.cell 4 _ rfl, g120, g121, g122, g123, g124, g125⟩ (fun hS => ?_)
  clear hK K

  (refine seq_e rfl (by rfl) (fun K hK => ?_))
  go_simp
  refine (one_known (HT12.out.symm.one) (by decide) (backF f0) 18).mono ?_
  rw [al7]
  rintro e w13 ⟨rfl, hB13⟩
  have HT13 := Lib.hid (Two.below PT.stands PT.stands HT12.out hB13)
  have HB13 := Lib.hid (HB12.out.trans (hB13.mono HB12.out.size))
  have h13 := h12.below hB13
  have g130 := cell_old hB13 g120
  have g131 := cell_old hB13 g121
  have g132 := cell_old hB13 g122
  have g133 := cell_old hB13 g123
  have g134 := cell_old hB13 g124
  have g135 := cell_old hB13 g125
  refine hK _ _ ⟨h13.cell 0 _ rfl, h13.cell 1 _ rfl, h13.cell 2 _ rfl, h13.cell 3 _ rfl, h13.cell 4 _ rfl, g130, g131, g132, g133, g134, g135⟩ (fun hS => ?_)
  clear hK K
  (refine seq_v (some 74) (v := ?_) (a' := ?_) rfl rfl (fun _ _ _ h => h) (Or.inl ⟨by rfl, ?_⟩) ?_ ?_; rotate_left 2; (· intro w'; go_simp; with_reducible rfl); (· simp only [Act.put, List.setIfInBounds_toArray, List.set_cons_zero, List.set_cons_succ, i64_w, i32_w]; rfl))
  (refine seq_v (some 0) (v := ?_) (a' := ?_) rfl rfl (fun _ _ _ h => h) (Or.inl ⟨by rfl, ?_⟩) ?_ ?_; rotate_left 2; (· intro w'; go_simp; with_reducible rfl); (· simp only [Act.put, List.setIfInBounds_toArray, List.set_cons_zero, List.set_cons_succ, i64_w, i32_w]; rfl))
  refine seq_nil ?_
  clear hS heq hg
  go_wp2_with fail
  go_ret
  exact ⟨rfl, HB13.out⟩
end Go.Proofs.Ytcplmaeicmmkgaa
