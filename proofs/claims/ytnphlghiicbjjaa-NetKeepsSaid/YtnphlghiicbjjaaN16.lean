/- rutterlaw18: step, where items are read. -/
import Derived.Test.YtnphlghiicbjjaaN15
namespace Go.Proofs.Ytnphlghiicbjjaa
open Go Go.RowKit Go.Proofs.YtnphlghiicbjjaaW.PrintWords Go.Proofs.YtnphlghiicbjjaaW.PrintLast Go.Proofs.Ytnphlghiicbjjaa.PNetPlays
set_option linter.unusedVariables false
set_option linter.unusedSimpArgs false
theorem ext_none (w : World) : (Kd.int .u8).C w none 0 [] := Kd.C_nil (Kd.int .u8) w

set_option maxRecDepth 10000 in
set_option maxHeartbeats 4000000 in
theorem step_take_no (O : Nat → Prop) (w : World) (b mb : Nat) (xs : List S40) (r : Int) (q : Nat) (h : Both O w b mb xs r q) (hS : OkS xs) (hl : xs.length ≤ 100000) (κ i : Int) (l : List S40) (A : Option Addr) (c : Nat) (hk0 : 0 ≤ κ) (hk1 : κ ≤ 255) (hk : κ % 9 = 4 ∨ κ % 9 = 5)
    (hi : i < 0 ∨ (xs.length : Int) ≤ i) :
    Calls Try.prog 13 #[.pointer (some ⟨b, 0, none⟩), .pointer (some ⟨mb, 0, none⟩), .agg #[.int .u8 κ, .slice A l.length c, .int .i64 i]] w (StepPost O w b mb xs r q (xs, q)) := by
  have H := Lib.hid h
  have HS := Lib.hid hS
  clear h hS
  go_enter Try.func13, Try.ntmps13
  have hB1 : Below w.heap.size w (w.alloc (.cells #[.int .u8 κ, .slice A l.length c, .int .i64 i] 36)) := below_alloc (Below.refl _ _) _
  have T1 := Lib.hid (Two.below PN.stands QN.stands H.out hB1)
  have hA1 := abk w (.int .u8 κ) (.slice A l.length c) (.int .i64 i)
  have hz1 : w.heap.size < (w.alloc (.cells #[.int .u8 κ, .slice A l.length c, .int .i64 i] 36)).heap.size := by simp
  have HB1 := Lib.hid hB1
  clear hB1
  rcases hk with hk | hk
  · have d4 : (κ % 9 == 4) = true := beq_iff_eq.2 hk
    clear hk
    go_wp2_with fail
    generalize w.alloc (.cells #[.int .u8 κ, .slice A l.length c, .int .i64 i] 36) = w1 at T1 hA1 hz1 HB1 ⊢
    obtain ⟨FF, hFF⟩ := T1.out.left
    have HFF := Lib.hid hFF
    clear hFF
    refine (take_no w1 FF b xs r q HFF.out i hi).mono ?_
    rintro e w2 ⟨rfl, hB2⟩
    have hA2 := hA1.below hB2
    have a2 := hA2.cell 2 _ rfl
    have hz2 : w.heap.size < w2.heap.size := Nat.lt_of_lt_of_le hz1 hB2.size
    have hB3 : Below w2.heap.size w2 (w2.alloc (.cells #[.int .i64 0, .int .i64 0, .slice none 0 0] 40)) := below_alloc (Below.refl _ _) _
    have HB2 := Lib.hid (HB1.out.trans (hB2.mono HB1.out.size))
    have T2 := Lib.hid (Two.below PN.stands QN.stands T1.out hB2)
    have T3 := Lib.hid (Two.below PN.stands QN.stands T2.out hB3)
    have HX3 := Lib.hid (Blk.new w2 40 [.int .i64 0, .int .i64 0, .slice none 0 0])
    have hz3 : w2.heap.size < (w2.alloc (.cells #[.int .i64 0, .int .i64 0, .slice none 0 0] 40)).heap.size := by simp
    have HB3 := Lib.hid hB3
    clear hA1 hA2 hB2 hB3
    go_wp2_with fail
    generalize w2.alloc (.cells #[.int .i64 0, .int .i64 0, .slice none 0 0] 40) = w3 at T3 HX3 hz3 HB3 ⊢
    obtain ⟨GG, hGG⟩ := T3.out.right
    have HGG := Lib.hid hGG
    clear hGG
    refine (rtake_no w3 GG mb _ r q HGG.out i (by rw [List.length_map]; exact hi)).mono ?_
    unfold RetY val49 zero49
    dsimp only
    rintro e w4 ⟨rfl, hB4⟩
    have HX4 := Lib.hid (HX3.out.below hB4)
    have hz4 : w2.heap.size < w4.heap.size := Nat.lt_of_lt_of_le hz3 hB4.size
    have HT4 := Lib.hid (Two.below PN.stands QN.stands T3.out hB4)
    have HB4 := Lib.hid ((HB2.out.trans (HB3.out.mono HB2.out.size)).trans (hB4.mono (by have := HB2.out.size; omega)))
    have Hof := Lib.hid (fun w' => of_any w' ⟨0, 0, []⟩ (.agg #[.int .i64 0, .int .i64 0, .slice none 0 0]) ⟨none, 0, rfl, Nat.le_refl _, Kd.C_nil _ _⟩)
    have heq := eq49t zero49
    unfold zero49 at heq
    dsimp only at heq
    clear hB4 a2
    go_wp2_with fail
    have hB5 : Below w4.heap.size w4 (w4.alloc (.cells #[.int .i64 0, .int .i64 0, .string ⟨#[]⟩] 49)).drew := below_drew (below_alloc (Below.refl _ _) _)
    have hY5 := (Blk.new w4 49 [.int .i64 0, .int .i64 0, .string ⟨#[]⟩]).drew
    have hX5 := HX4.out.below hB5
    have HB5 := Lib.hid hB5
    have hg := eqg49
    have HY5 := Lib.hid hY5
    have HX5 := Lib.hid hX5
    clear hB5 hY5 hX5
    generalize (w4.alloc (.cells #[.int .i64 0, .int .i64 0, .string ⟨#[]⟩] 49)) = w5 at HB5 HY5 HX5 ⊢
    refine seq_start (fun w' => w'.cell? ⟨w2.heap.size, 0, none⟩ = some (.int .i64 0) ∧ w'.cell? ⟨w2.heap.size, 1, none⟩ = some (.int .i64 0) ∧ w'.cell? ⟨w2.heap.size, 2, none⟩ = some (.slice none 0 0) ∧ w'.cell? ⟨w4.heap.size, 0, none⟩ = some (.int .i64 0) ∧ w'.cell? ⟨w4.heap.size, 1, none⟩ = some (.int .i64 0) ∧ w'.cell? ⟨w4.heap.size, 2, none⟩ = some (.string ⟨#[]⟩)) [] [(0, 1), (2, 1), (1, 2), (3, 0), (4, 0), (5, 0), (6, 0), (7, 0), (8, 0), (9, 0)] (by kernel_rfl) (by kernel_rfl) ⟨HX5.out.cell 0 _ rfl, HX5.out.cell 1 _ rfl, HX5.out.cell 2 _ rfl, HY5.out.cell 0 _ rfl, HY5.out.cell 1 _ rfl, HY5.out.cell 2 _ rfl⟩ ?_
    intro hS
    (refine seq_l (some 39) (v := ?_) (a' := ?_) rfl rfl (fun _ _ _ h => h) (by assumption) (Or.inl ⟨by rfl, ?_⟩) ?_ ?_; rotate_left 2; (· intro w' hS'; (try dsimp only at hS'); go_simp; with_reducible rfl); (· simp only [Act.put, List.setIfInBounds_toArray, List.set_cons_zero, List.set_cons_succ, i64_w, i32_w]; rfl))
    (refine seq_l (some 41) (v := ?_) (a' := ?_) rfl rfl (fun _ _ _ h => h) (by assumption) (Or.inl ⟨by rfl, ?_⟩) ?_ ?_; rotate_left 2; (· intro w' hS'; (try dsimp only at hS'); go_simp; with_reducible rfl); (· simp only [Act.put, List.setIfInBounds_toArray, List.set_cons_zero, List.set_cons_succ, i64_w, i32_w]; rfl))
    (refine seq_e rfl (by rfl) (fun K hK => ?_))
    go_simp
    refine (Hof.out w5.drew).mono ?_
    rw [show toR (⟨0, 0, []⟩ : S40) = zero49 from rfl]
    unfold val49 zero49
    dsimp only
    rintro e w6 ⟨rfl, hB6⟩
    have hx6 := HX5.out.below hB6
    have hy6 := HY5.out.below hB6
    refine hK _ _ ⟨hx6.cell 0 _ rfl, hx6.cell 1 _ rfl, hx6.cell 2 _ rfl, hy6.cell 0 _ rfl, hy6.cell 1 _ rfl, hy6.cell 2 _ rfl⟩ (fun hS => ?_)
    clear hK K
    (refine seq_v (some 42) (v := ?_) (a' := ?_) rfl rfl (fun _ _ _ h => h) (Or.inl ⟨by rfl, ?_⟩) ?_ ?_; rotate_left 2; (· intro w'; go_simp; with_reducible rfl); (· simp only [Act.put, List.setIfInBounds_toArray, List.set_cons_zero, List.set_cons_succ, i64_w, i32_w]; rfl))
    (refine seq_v (some 43) (v := ?_) (a' := ?_) rfl rfl (fun _ _ _ h => h) (Or.inl ⟨by rfl, ?_⟩) ?_ ?_; rotate_left 2; (· intro w'; go_simp; with_reducible rfl); (· simp only [Act.put, List.setIfInBounds_toArray, List.set_cons_zero, List.set_cons_succ, i64_w, i32_w]; rfl))
    first | (refine seq_v (some 44) (v := ?_) (a' := ?_) rfl rfl (fun _ _ _ h => h) (Or.inl ⟨by rfl, ?_⟩) ?_ ?_; rotate_left 2; (· intro w'; go_simp; with_reducible rfl); (· simp only [Act.put, List.setIfInBounds_toArray, List.set_cons_zero, List.set_cons_succ, i64_w, i32_w]; rfl)) | (refine seq_v (some 44) (v := undef) (a' := ?_) rfl rfl (fun _ _ _ h => h) (Or.inr ⟨by rfl, rfl⟩) ?_ ?_; rotate_left; (· simp only [Act.put, List.setIfInBounds_toArray, List.set_cons_zero, List.set_cons_succ, i64_w, i32_w]; rfl))
    first | (refine seq_v (some 45) (v := ?_) (a' := ?_) rfl rfl (fun _ _ _ h => h) (Or.inl ⟨by rfl, ?_⟩) ?_ ?_; rotate_left 2; (· intro w'; go_simp; with_reducible rfl); (· simp only [Act.put, List.setIfInBounds_toArray, List.set_cons_zero, List.set_cons_succ, i64_w, i32_w]; rfl)) | (refine seq_v (some 45) (v := undef) (a' := ?_) rfl rfl (fun _ _ _ h => h) (Or.inr ⟨by rfl, rfl⟩) ?_ ?_; rotate_left; (· simp only [Act.put, List.setIfInBounds_toArray, List.set_cons_zero, List.set_cons_succ, i64_w, i32_w]; rfl))
    first | (refine seq_v (some 46) (v := ?_) (a' := ?_) rfl rfl (fun _ _ _ h => h) (Or.inl ⟨by rfl, ?_⟩) ?_ ?_; rotate_left 2; (· intro w'; go_simp; with_reducible rfl); (· simp only [Act.put, List.setIfInBounds_toArray, List.set_cons_zero, List.set_cons_succ, i64_w, i32_w]; rfl)) | (refine seq_v (some 46) (v := undef) (a' := ?_) rfl rfl (fun _ _ _ h => h) (Or.inr ⟨by rfl, rfl⟩) ?_ ?_; rotate_left; (· simp only [Act.put, List.setIfInBounds_toArray, List.set_cons_zero, List.set_cons_succ, i64_w, i32_w]; rfl))
    (refine seq_v (some 47) (v := ?_) (a' := ?_) rfl rfl (fun _ _ _ h => h) (Or.inl ⟨by rfl, ?_⟩) ?_ ?_; rotate_left 2; (· intro w'; go_simp; with_reducible rfl); (· simp only [Act.put, List.setIfInBounds_toArray, List.set_cons_zero, List.set_cons_succ, i64_w, i32_w]; rfl))
    (refine seq_v (some 6) (v := ?_) (a' := ?_) rfl rfl (fun _ _ _ h => h) (Or.inl ⟨by rfl, ?_⟩) ?_ ?_; rotate_left 2; (· intro w'; go_simp; with_reducible rfl); (· simp only [Act.put, List.setIfInBounds_toArray, List.set_cons_zero, List.set_cons_succ, i64_w, i32_w]; rfl))
    refine seq_nil ?_
    have HB6 := Lib.hid (HB5.out.trans (hB6.mono HB5.out.size))
    clear hS hx6 hy6 hB6 heq hg
    go_wp2_with fail
    go_ret
    exact ⟨rfl, Two.below PN.stands QN.stands HT4.out HB6.out, KpO.of_below (HB4.out.trans (HB6.out.mono HB4.out.size))⟩
  · have d4 : (κ % 9 == 4) = false := beq_eq_false_iff_ne.2 (by omega)
    have d5 : (κ % 9 == 5) = true := beq_iff_eq.2 hk
    clear hk
    go_wp2_with fail
    generalize w.alloc (.cells #[.int .u8 κ, .slice A l.length c, .int .i64 i] 36) = w1 at T1 hA1 hz1 HB1 ⊢
    obtain ⟨FF, hFF⟩ := T1.out.left
    have HFF := Lib.hid hFF
    clear hFF
    refine (take_no w1 FF b xs r q HFF.out i hi).mono ?_
    rintro e w2 ⟨rfl, hB2⟩
    have hA2 := hA1.below hB2
    have a2 := hA2.cell 2 _ rfl
    have hz2 : w.heap.size < w2.heap.size := Nat.lt_of_lt_of_le hz1 hB2.size
    have hB3 : Below w2.heap.size w2 (w2.alloc (.cells #[.int .i64 0, .int .i64 0, .slice none 0 0] 40)) := below_alloc (Below.refl _ _) _
    have HB2 := Lib.hid (HB1.out.trans (hB2.mono HB1.out.size))
    have T2 := Lib.hid (Two.below PN.stands QN.stands T1.out hB2)
    have T3 := Lib.hid (Two.below PN.stands QN.stands T2.out hB3)
    have HX3 := Lib.hid (Blk.new w2 40 [.int .i64 0, .int .i64 0, .slice none 0 0])
    have hz3 : w2.heap.size < (w2.alloc (.cells #[.int .i64 0, .int .i64 0, .slice none 0 0] 40)).heap.size := by simp
    have HB3 := Lib.hid hB3
    clear hA1 hA2 hB2 hB3
    go_wp2_with fail
    generalize w2.alloc (.cells #[.int .i64 0, .int .i64 0, .slice none 0 0] 40) = w3 at T3 HX3 hz3 HB3 ⊢
    obtain ⟨GG, hGG⟩ := T3.out.right
    have HGG := Lib.hid hGG
    clear hGG
    refine (rtake_no w3 GG mb _ r q HGG.out i (by rw [List.length_map]; exact hi)).mono ?_
    unfold RetY val49 zero49
    dsimp only
    rintro e w4 ⟨rfl, hB4⟩
    have HX4 := Lib.hid (HX3.out.below hB4)
    have hz4 : w2.heap.size < w4.heap.size := Nat.lt_of_lt_of_le hz3 hB4.size
    have HT4 := Lib.hid (Two.below PN.stands QN.stands T3.out hB4)
    have HB4 := Lib.hid ((HB2.out.trans (HB3.out.mono HB2.out.size)).trans (hB4.mono (by have := HB2.out.size; omega)))
    have Hof := Lib.hid (fun w' => of_any w' ⟨0, 0, []⟩ (.agg #[.int .i64 0, .int .i64 0, .slice none 0 0]) ⟨none, 0, rfl, Nat.le_refl _, Kd.C_nil _ _⟩)
    have heq := eq49t zero49
    unfold zero49 at heq
    dsimp only at heq
    clear hB4 a2
    go_wp2_with fail
    have hB5 : Below w4.heap.size w4 (w4.alloc (.cells #[.int .i64 0, .int .i64 0, .string ⟨#[]⟩] 49)).drew := below_drew (below_alloc (Below.refl _ _) _)
    have hY5 := (Blk.new w4 49 [.int .i64 0, .int .i64 0, .string ⟨#[]⟩]).drew
    have hX5 := HX4.out.below hB5
    have HB5 := Lib.hid hB5
    have hg := eqg49
    have HY5 := Lib.hid hY5
    have HX5 := Lib.hid hX5
    clear hB5 hY5 hX5
    generalize (w4.alloc (.cells #[.int .i64 0, .int .i64 0, .string ⟨#[]⟩] 49)) = w5 at HB5 HY5 HX5 ⊢
    refine seq_start (fun w' => w'.cell? ⟨w2.heap.size, 0, none⟩ = some (.int .i64 0) ∧ w'.cell? ⟨w2.heap.size, 1, none⟩ = some (.int .i64 0) ∧ w'.cell? ⟨w2.heap.size, 2, none⟩ = some (.slice none 0 0) ∧ w'.cell? ⟨w4.heap.size, 0, none⟩ = some (.int .i64 0) ∧ w'.cell? ⟨w4.heap.size, 1, none⟩ = some (.int .i64 0) ∧ w'.cell? ⟨w4.heap.size, 2, none⟩ = some (.string ⟨#[]⟩)) [] [(0, 1), (2, 1), (1, 2), (3, 0), (4, 0), (5, 0), (6, 0), (7, 0), (8, 0), (9, 0)] (by kernel_rfl) (by kernel_rfl) ⟨HX5.out.cell 0 _ rfl, HX5.out.cell 1 _ rfl, HX5.out.cell 2 _ rfl, HY5.out.cell 0 _ rfl, HY5.out.cell 1 _ rfl, HY5.out.cell 2 _ rfl⟩ ?_
    intro hS
    (refine seq_l (some 39) (v := ?_) (a' := ?_) rfl rfl (fun _ _ _ h => h) (by assumption) (Or.inl ⟨by rfl, ?_⟩) ?_ ?_; rotate_left 2; (· intro w' hS'; (try dsimp only at hS'); go_simp; with_reducible rfl); (· simp only [Act.put, List.setIfInBounds_toArray, List.set_cons_zero, List.set_cons_succ, i64_w, i32_w]; rfl))
    (refine seq_l (some 41) (v := ?_) (a' := ?_) rfl rfl (fun _ _ _ h => h) (by assumption) (Or.inl ⟨by rfl, ?_⟩) ?_ ?_; rotate_left 2; (· intro w' hS'; (try dsimp only at hS'); go_simp; with_reducible rfl); (· simp only [Act.put, List.setIfInBounds_toArray, List.set_cons_zero, List.set_cons_succ, i64_w, i32_w]; rfl))
    (refine seq_e rfl (by rfl) (fun K hK => ?_))
    go_simp
    refine (Hof.out w5.drew).mono ?_
    rw [show toR (⟨0, 0, []⟩ : S40) = zero49 from rfl]
    unfold val49 zero49
    dsimp only
    rintro e w6 ⟨rfl, hB6⟩
    have hx6 := HX5.out.below hB6
    have hy6 := HY5.out.below hB6
    refine hK _ _ ⟨hx6.cell 0 _ rfl, hx6.cell 1 _ rfl, hx6.cell 2 _ rfl, hy6.cell 0 _ rfl, hy6.cell 1 _ rfl, hy6.cell 2 _ rfl⟩ (fun hS => ?_)
    clear hK K
    (refine seq_v (some 42) (v := ?_) (a' := ?_) rfl rfl (fun _ _ _ h => h) (Or.inl ⟨by rfl, ?_⟩) ?_ ?_; rotate_left 2; (· intro w'; go_simp; with_reducible rfl); (· simp only [Act.put, List.setIfInBounds_toArray, List.set_cons_zero, List.set_cons_succ, i64_w, i32_w]; rfl))
    (refine seq_v (some 43) (v := ?_) (a' := ?_) rfl rfl (fun _ _ _ h => h) (Or.inl ⟨by rfl, ?_⟩) ?_ ?_; rotate_left 2; (· intro w'; go_simp; with_reducible rfl); (· simp only [Act.put, List.setIfInBounds_toArray, List.set_cons_zero, List.set_cons_succ, i64_w, i32_w]; rfl))
    first | (refine seq_v (some 44) (v := ?_) (a' := ?_) rfl rfl (fun _ _ _ h => h) (Or.inl ⟨by rfl, ?_⟩) ?_ ?_; rotate_left 2; (· intro w'; go_simp; with_reducible rfl); (· simp only [Act.put, List.setIfInBounds_toArray, List.set_cons_zero, List.set_cons_succ, i64_w, i32_w]; rfl)) | (refine seq_v (some 44) (v := undef) (a' := ?_) rfl rfl (fun _ _ _ h => h) (Or.inr ⟨by rfl, rfl⟩) ?_ ?_; rotate_left; (· simp only [Act.put, List.setIfInBounds_toArray, List.set_cons_zero, List.set_cons_succ, i64_w, i32_w]; rfl))
    first | (refine seq_v (some 45) (v := ?_) (a' := ?_) rfl rfl (fun _ _ _ h => h) (Or.inl ⟨by rfl, ?_⟩) ?_ ?_; rotate_left 2; (· intro w'; go_simp; with_reducible rfl); (· simp only [Act.put, List.setIfInBounds_toArray, List.set_cons_zero, List.set_cons_succ, i64_w, i32_w]; rfl)) | (refine seq_v (some 45) (v := undef) (a' := ?_) rfl rfl (fun _ _ _ h => h) (Or.inr ⟨by rfl, rfl⟩) ?_ ?_; rotate_left; (· simp only [Act.put, List.setIfInBounds_toArray, List.set_cons_zero, List.set_cons_succ, i64_w, i32_w]; rfl))
    first | (refine seq_v (some 46) (v := ?_) (a' := ?_) rfl rfl (fun _ _ _ h => h) (Or.inl ⟨by rfl, ?_⟩) ?_ ?_; rotate_left 2; (· intro w'; go_simp; with_reducible rfl); (· simp only [Act.put, List.setIfInBounds_toArray, List.set_cons_zero, List.set_cons_succ, i64_w, i32_w]; rfl)) | (refine seq_v (some 46) (v := undef) (a' := ?_) rfl rfl (fun _ _ _ h => h) (Or.inr ⟨by rfl, rfl⟩) ?_ ?_; rotate_left; (· simp only [Act.put, List.setIfInBounds_toArray, List.set_cons_zero, List.set_cons_succ, i64_w, i32_w]; rfl))
    (refine seq_v (some 47) (v := ?_) (a' := ?_) rfl rfl (fun _ _ _ h => h) (Or.inl ⟨by rfl, ?_⟩) ?_ ?_; rotate_left 2; (· intro w'; go_simp; with_reducible rfl); (· simp only [Act.put, List.setIfInBounds_toArray, List.set_cons_zero, List.set_cons_succ, i64_w, i32_w]; rfl))
    (refine seq_v (some 6) (v := ?_) (a' := ?_) rfl rfl (fun _ _ _ h => h) (Or.inl ⟨by rfl, ?_⟩) ?_ ?_; rotate_left 2; (· intro w'; go_simp; with_reducible rfl); (· simp only [Act.put, List.setIfInBounds_toArray, List.set_cons_zero, List.set_cons_succ, i64_w, i32_w]; rfl))
    refine seq_nil ?_
    have HB6 := Lib.hid (HB5.out.trans (hB6.mono HB5.out.size))
    clear hS hx6 hy6 hB6 heq hg
    go_wp2_with fail
    go_ret
    exact ⟨rfl, Two.below PN.stands QN.stands HT4.out HB6.out, KpO.of_below (HB4.out.trans (HB6.out.mono HB4.out.size))⟩

set_option maxRecDepth 10000 in
set_option maxHeartbeats 4000000 in
theorem step_at_no (O : Nat → Prop) (w : World) (b mb : Nat) (xs : List S40) (r : Int) (q : Nat) (h : Both O w b mb xs r q) (hS : OkS xs) (hl : xs.length ≤ 100000) (κ i : Int) (l : List S40) (A : Option Addr) (c : Nat) (hk0 : 0 ≤ κ) (hk1 : κ ≤ 255) (hk : κ % 9 = 7)
    (hi : i < 0 ∨ (xs.length : Int) ≤ i) :
    Calls Try.prog 13 #[.pointer (some ⟨b, 0, none⟩), .pointer (some ⟨mb, 0, none⟩), .agg #[.int .u8 κ, .slice A l.length c, .int .i64 i]] w (StepPost O w b mb xs r q (xs, q)) := by
  have H := Lib.hid h
  have HS := Lib.hid hS
  clear h hS
  go_enter Try.func13, Try.ntmps13
  have hB1 : Below w.heap.size w (w.alloc (.cells #[.int .u8 κ, .slice A l.length c, .int .i64 i] 36)) := below_alloc (Below.refl _ _) _
  have T1 := Lib.hid (Two.below PN.stands QN.stands H.out hB1)
  have hA1 := abk w (.int .u8 κ) (.slice A l.length c) (.int .i64 i)
  have hz1 : w.heap.size < (w.alloc (.cells #[.int .u8 κ, .slice A l.length c, .int .i64 i] 36)).heap.size := by simp
  have HB1 := Lib.hid hB1
  clear hB1
  have d4 : (κ % 9 == 4) = false := beq_eq_false_iff_ne.2 (by omega)
  have d5 : (κ % 9 == 5) = false := beq_eq_false_iff_ne.2 (by omega)
  have d6 : (κ % 9 == 6) = false := beq_eq_false_iff_ne.2 (by omega)
  have d7 : (κ % 9 == 7) = true := beq_iff_eq.2 hk
  clear hk
  go_wp2_with fail
  generalize w.alloc (.cells #[.int .u8 κ, .slice A l.length c, .int .i64 i] 36) = w1 at T1 hA1 hz1 HB1 ⊢
  obtain ⟨FF, hFF⟩ := T1.out.left
  have HFF := Lib.hid hFF
  clear hFF
  refine (at_no w1 FF b xs r q HFF.out i hi).mono ?_
  rintro e w2 ⟨rfl, hB2⟩
  have hA2 := hA1.below hB2
  have a2 := hA2.cell 2 _ rfl
  have hz2 : w.heap.size < w2.heap.size := Nat.lt_of_lt_of_le hz1 hB2.size
  have hB3 : Below w2.heap.size w2 (w2.alloc (.cells #[.int .i64 0, .int .i64 0, .slice none 0 0] 40)) := below_alloc (Below.refl _ _) _
  have HB2 := Lib.hid (HB1.out.trans (hB2.mono HB1.out.size))
  have T2 := Lib.hid (Two.below PN.stands QN.stands T1.out hB2)
  have T3 := Lib.hid (Two.below PN.stands QN.stands T2.out hB3)
  have HX3 := Lib.hid (Blk.new w2 40 [.int .i64 0, .int .i64 0, .slice none 0 0])
  have hz3 : w2.heap.size < (w2.alloc (.cells #[.int .i64 0, .int .i64 0, .slice none 0 0] 40)).heap.size := by simp
  have HB3 := Lib.hid hB3
  clear hA1 hA2 hB2 hB3
  go_wp2_with fail
  generalize w2.alloc (.cells #[.int .i64 0, .int .i64 0, .slice none 0 0] 40) = w3 at T3 HX3 hz3 HB3 ⊢
  obtain ⟨GG, hGG⟩ := T3.out.right
  have HGG := Lib.hid hGG
  clear hGG
  refine (rat_no w3 GG mb _ r q HGG.out i (by rw [List.length_map]; exact hi)).mono ?_
  unfold RetY val49 zero49
  dsimp only
  rintro e w4 ⟨rfl, hB4⟩
  have HX4 := Lib.hid (HX3.out.below hB4)
  have hz4 : w2.heap.size < w4.heap.size := Nat.lt_of_lt_of_le hz3 hB4.size
  have HT4 := Lib.hid (Two.below PN.stands QN.stands T3.out hB4)
  have HB4 := Lib.hid ((HB2.out.trans (HB3.out.mono HB2.out.size)).trans (hB4.mono (by have := HB2.out.size; omega)))
  have Hof := Lib.hid (fun w' => of_any w' ⟨0, 0, []⟩ (.agg #[.int .i64 0, .int .i64 0, .slice none 0 0]) ⟨none, 0, rfl, Nat.le_refl _, Kd.C_nil _ _⟩)
  have heq := eq49t zero49
  unfold zero49 at heq
  dsimp only at heq
  clear hB4 a2
  go_wp2_with fail
  have hB5 : Below w4.heap.size w4 (w4.alloc (.cells #[.int .i64 0, .int .i64 0, .string ⟨#[]⟩] 49)).drew := below_drew (below_alloc (Below.refl _ _) _)
  have hY5 := (Blk.new w4 49 [.int .i64 0, .int .i64 0, .string ⟨#[]⟩]).drew
  have hX5 := HX4.out.below hB5
  have HB5 := Lib.hid hB5
  have hg := eqg49
  have HY5 := Lib.hid hY5
  have HX5 := Lib.hid hX5
  clear hB5 hY5 hX5
  generalize (w4.alloc (.cells #[.int .i64 0, .int .i64 0, .string ⟨#[]⟩] 49)) = w5 at HB5 HY5 HX5 ⊢
  refine seq_start (fun w' => w'.cell? ⟨w2.heap.size, 0, none⟩ = some (.int .i64 0) ∧ w'.cell? ⟨w2.heap.size, 1, none⟩ = some (.int .i64 0) ∧ w'.cell? ⟨w2.heap.size, 2, none⟩ = some (.slice none 0 0) ∧ w'.cell? ⟨w4.heap.size, 0, none⟩ = some (.int .i64 0) ∧ w'.cell? ⟨w4.heap.size, 1, none⟩ = some (.int .i64 0) ∧ w'.cell? ⟨w4.heap.size, 2, none⟩ = some (.string ⟨#[]⟩)) [] [(0, 1), (2, 1), (1, 2), (3, 0), (4, 0), (5, 0), (6, 0), (7, 0), (8, 0), (9, 0)] (by kernel_rfl) (by kernel_rfl) ⟨HX5.out.cell 0 _ rfl, HX5.out.cell 1 _ rfl, HX5.out.cell 2 _ rfl, HY5.out.cell 0 _ rfl, HY5.out.cell 1 _ rfl, HY5.out.cell 2 _ rfl⟩ ?_
  intro hS
  (refine seq_l (some 76) (v := ?_) (a' := ?_) rfl rfl (fun _ _ _ h => h) (by assumption) (Or.inl ⟨by rfl, ?_⟩) ?_ ?_; rotate_left 2; (· intro w' hS'; (try dsimp only at hS'); go_simp; with_reducible rfl); (· simp only [Act.put, List.setIfInBounds_toArray, List.set_cons_zero, List.set_cons_succ, i64_w, i32_w]; rfl))
  (refine seq_l (some 78) (v := ?_) (a' := ?_) rfl rfl (fun _ _ _ h => h) (by assumption) (Or.inl ⟨by rfl, ?_⟩) ?_ ?_; rotate_left 2; (· intro w' hS'; (try dsimp only at hS'); go_simp; with_reducible rfl); (· simp only [Act.put, List.setIfInBounds_toArray, List.set_cons_zero, List.set_cons_succ, i64_w, i32_w]; rfl))
  (refine seq_e rfl (by rfl) (fun K hK => ?_))
  go_simp
  refine (Hof.out w5.drew).mono ?_
  rw [show toR (⟨0, 0, []⟩ : S40) = zero49 from rfl]
  unfold val49 zero49
  dsimp only
  rintro e w6 ⟨rfl, hB6⟩
  have hx6 := HX5.out.below hB6
  have hy6 := HY5.out.below hB6
  refine hK _ _ ⟨hx6.cell 0 _ rfl, hx6.cell 1 _ rfl, hx6.cell 2 _ rfl, hy6.cell 0 _ rfl, hy6.cell 1 _ rfl, hy6.cell 2 _ rfl⟩ (fun hS => ?_)
  clear hK K
  (refine seq_v (some 79) (v := ?_) (a' := ?_) rfl rfl (fun _ _ _ h => h) (Or.inl ⟨by rfl, ?_⟩) ?_ ?_; rotate_left 2; (· intro w'; go_simp; with_reducible rfl); (· simp only [Act.put, List.setIfInBounds_toArray, List.set_cons_zero, List.set_cons_succ, i64_w, i32_w]; rfl))
  (refine seq_v (some 80) (v := ?_) (a' := ?_) rfl rfl (fun _ _ _ h => h) (Or.inl ⟨by rfl, ?_⟩) ?_ ?_; rotate_left 2; (· intro w'; go_simp; with_reducible rfl); (· simp only [Act.put, List.setIfInBounds_toArray, List.set_cons_zero, List.set_cons_succ, i64_w, i32_w]; rfl))
  first | (refine seq_v (some 81) (v := ?_) (a' := ?_) rfl rfl (fun _ _ _ h => h) (Or.inl ⟨by rfl, ?_⟩) ?_ ?_; rotate_left 2; (· intro w'; go_simp; with_reducible rfl); (· simp only [Act.put, List.setIfInBounds_toArray, List.set_cons_zero, List.set_cons_succ, i64_w, i32_w]; rfl)) | (refine seq_v (some 81) (v := undef) (a' := ?_) rfl rfl (fun _ _ _ h => h) (Or.inr ⟨by rfl, rfl⟩) ?_ ?_; rotate_left; (· simp only [Act.put, List.setIfInBounds_toArray, List.set_cons_zero, List.set_cons_succ, i64_w, i32_w]; rfl))
  first | (refine seq_v (some 82) (v := ?_) (a' := ?_) rfl rfl (fun _ _ _ h => h) (Or.inl ⟨by rfl, ?_⟩) ?_ ?_; rotate_left 2; (· intro w'; go_simp; with_reducible rfl); (· simp only [Act.put, List.setIfInBounds_toArray, List.set_cons_zero, List.set_cons_succ, i64_w, i32_w]; rfl)) | (refine seq_v (some 82) (v := undef) (a' := ?_) rfl rfl (fun _ _ _ h => h) (Or.inr ⟨by rfl, rfl⟩) ?_ ?_; rotate_left; (· simp only [Act.put, List.setIfInBounds_toArray, List.set_cons_zero, List.set_cons_succ, i64_w, i32_w]; rfl))
  first | (refine seq_v (some 83) (v := ?_) (a' := ?_) rfl rfl (fun _ _ _ h => h) (Or.inl ⟨by rfl, ?_⟩) ?_ ?_; rotate_left 2; (· intro w'; go_simp; with_reducible rfl); (· simp only [Act.put, List.setIfInBounds_toArray, List.set_cons_zero, List.set_cons_succ, i64_w, i32_w]; rfl)) | (refine seq_v (some 83) (v := undef) (a' := ?_) rfl rfl (fun _ _ _ h => h) (Or.inr ⟨by rfl, rfl⟩) ?_ ?_; rotate_left; (· simp only [Act.put, List.setIfInBounds_toArray, List.set_cons_zero, List.set_cons_succ, i64_w, i32_w]; rfl))
  (refine seq_v (some 84) (v := ?_) (a' := ?_) rfl rfl (fun _ _ _ h => h) (Or.inl ⟨by rfl, ?_⟩) ?_ ?_; rotate_left 2; (· intro w'; go_simp; with_reducible rfl); (· simp only [Act.put, List.setIfInBounds_toArray, List.set_cons_zero, List.set_cons_succ, i64_w, i32_w]; rfl))
  (refine seq_v (some 6) (v := ?_) (a' := ?_) rfl rfl (fun _ _ _ h => h) (Or.inl ⟨by rfl, ?_⟩) ?_ ?_; rotate_left 2; (· intro w'; go_simp; with_reducible rfl); (· simp only [Act.put, List.setIfInBounds_toArray, List.set_cons_zero, List.set_cons_succ, i64_w, i32_w]; rfl))
  refine seq_nil ?_
  have HB6 := Lib.hid (HB5.out.trans (hB6.mono HB5.out.size))
  clear hS hx6 hy6 hB6 heq hg
  go_wp2_with fail
  go_ret
  exact ⟨rfl, Two.below PN.stands QN.stands HT4.out HB6.out, KpO.of_below (HB4.out.trans (HB6.out.mono HB4.out.size))⟩

set_option maxRecDepth 10000 in
set_option maxHeartbeats 4000000 in
theorem step_at (O : Nat → Prop) (w : World) (b mb : Nat) (xs : List S40) (r : Int) (q : Nat) (h : Both O w b mb xs r q) (hS : OkS xs) (hl : xs.length ≤ 100000) (κ i : Int) (l : List S40) (A : Option Addr) (c : Nat) (hk0 : 0 ≤ κ) (hk1 : κ ≤ 255) (hk : κ % 9 = 7)
    (h0 : 0 ≤ i) (hi : i < (xs.length : Int)) :
    Calls Try.prog 13 #[.pointer (some ⟨b, 0, none⟩), .pointer (some ⟨mb, 0, none⟩), .agg #[.int .u8 κ, .slice A l.length c, .int .i64 i]] w (StepPost O w b mb xs r q (xs, q)) := by
  have H := Lib.hid h
  have HS := Lib.hid hS
  clear h hS
  go_enter Try.func13, Try.ntmps13
  have hB1 : Below w.heap.size w (w.alloc (.cells #[.int .u8 κ, .slice A l.length c, .int .i64 i] 36)) := below_alloc (Below.refl _ _) _
  have T1 := Lib.hid (Two.below PN.stands QN.stands H.out hB1)
  have hA1 := abk w (.int .u8 κ) (.slice A l.length c) (.int .i64 i)
  have hz1 : w.heap.size < (w.alloc (.cells #[.int .u8 κ, .slice A l.length c, .int .i64 i] 36)).heap.size := by simp
  have HB1 := Lib.hid hB1
  clear hB1
  have d4 : (κ % 9 == 4) = false := beq_eq_false_iff_ne.2 (by omega)
  have d5 : (κ % 9 == 5) = false := beq_eq_false_iff_ne.2 (by omega)
  have d6 : (κ % 9 == 6) = false := beq_eq_false_iff_ne.2 (by omega)
  have d7 : (κ % 9 == 7) = true := beq_iff_eq.2 hk
  clear hk
  go_wp2_with fail
  generalize w.alloc (.cells #[.int .u8 κ, .slice A l.length c, .int .i64 i] 36) = w1 at T1 hA1 hz1 HB1 ⊢
  obtain ⟨FF, hFF⟩ := T1.out.left
  have HFF := Lib.hid hFF
  clear hFF
  refine (at_ok w1 FF b xs r q HFF.out HS.out.sz i h0 hi).mono ?_
  generalize hx : rd_T40 xs i = x
  rintro e w2 ⟨v, rfl, u, rfl, hR2, hB2⟩
  obtain ⟨A2, c2, rfl⟩ := Kd.R_slice hR2
  have hc2 := (Kd.R_reads' hR2).2.1
  have hC2 := (Kd.R_reads' hR2).2.2
  have hxe : rd_T49 (xs.map toR) i = toR x := by rw [← hx]; exact rd_toR xs i h0 hi
  have HX := Lib.hid hx
  have HXE := Lib.hid hxe
  have HC2 := Lib.hid hC2
  clear hx hxe hR2 hC2
  have hA2 := hA1.below hB2
  have a2 := hA2.cell 2 _ rfl
  have hz2 : w.heap.size < w2.heap.size := Nat.lt_of_lt_of_le hz1 hB2.size
  have hB3 : Below w2.heap.size w2 (w2.alloc (.cells #[.int .i64 x.f0, .int .i64 x.f1, .slice A2 x.f2.length c2] 40)) := below_alloc (Below.refl _ _) _
  have HB2 := Lib.hid (HB1.out.trans (hB2.mono HB1.out.size))
  have T2 := Lib.hid (Two.below PN.stands QN.stands T1.out hB2)
  have T3 := Lib.hid (Two.below PN.stands QN.stands T2.out hB3)
  have HX3 := Lib.hid (Blk.new w2 40 [.int .i64 x.f0, .int .i64 x.f1, .slice A2 x.f2.length c2])
  have hz3 : w2.heap.size < (w2.alloc (.cells #[.int .i64 x.f0, .int .i64 x.f1, .slice A2 x.f2.length c2] 40)).heap.size := by simp
  have HB3 := Lib.hid hB3
  clear hA1 hA2 hB2 hB3
  go_wp2_with fail
  generalize w2.alloc (.cells #[.int .i64 x.f0, .int .i64 x.f1, .slice A2 x.f2.length c2] 40) = w3 at T3 HX3 hz3 HB3 ⊢
  obtain ⟨GG, hGG⟩ := T3.out.right
  have HGG := Lib.hid hGG
  clear hGG
  refine (rat_ok w3 GG mb _ r q HGG.out i h0 (by rw [List.length_map]; exact hi)).mono ?_
  rw [HXE.out]
  unfold RetY
  rintro e w4 ⟨rfl, hB4⟩
  have HX4 := Lib.hid (HX3.out.below hB4)
  have hz4 : w2.heap.size < w4.heap.size := Nat.lt_of_lt_of_le hz3 hB4.size
  have HT4 := Lib.hid (Two.below PN.stands QN.stands T3.out hB4)
  have HB4 := Lib.hid ((HB2.out.trans (HB3.out.mono HB2.out.size)).trans (hB4.mono (by have := HB2.out.size; omega)))
  have HC4 := Lib.hid (C_kp HC2.out (HB3.out.trans (hB4.mono (by omega))))
  have hof := fun w' v (h : ItemC w' x v) => of_any w' x v h
  unfold val49 at *
  generalize toR x = y at *
  have Hof := Lib.hid hof
  have heq := eq49t y
  clear hof hB4 a2
  go_wp2_with fail
  have hB5 : Below w4.heap.size w4 (w4.alloc (.cells #[.int .i64 y.f0, .int .i64 y.f1, .string y.f2] 49)).drew := below_drew (below_alloc (Below.refl _ _) _)
  have hY5 := (Blk.new w4 49 [.int .i64 y.f0, .int .i64 y.f1, .string y.f2]).drew
  have hX5 := HX4.out.below hB5
  have HC5 := Lib.hid (C_kp HC4.out hB5)
  have HB5 := Lib.hid hB5
  have hg := eqg49
  have HY5 := Lib.hid hY5
  have HX5 := Lib.hid hX5
  clear hB5 hY5 hX5
  generalize (w4.alloc (.cells #[.int .i64 y.f0, .int .i64 y.f1, .string y.f2] 49)) = w5 at HB5 HY5 HX5 HC5 ⊢
  refine seq_start (fun w' => w'.cell? ⟨w2.heap.size, 0, none⟩ = some (.int .i64 x.f0) ∧ w'.cell? ⟨w2.heap.size, 1, none⟩ = some (.int .i64 x.f1) ∧ w'.cell? ⟨w2.heap.size, 2, none⟩ = some (.slice A2 x.f2.length c2) ∧ w'.cell? ⟨w4.heap.size, 0, none⟩ = some (.int .i64 y.f0) ∧ w'.cell? ⟨w4.heap.size, 1, none⟩ = some (.int .i64 y.f1) ∧ w'.cell? ⟨w4.heap.size, 2, none⟩ = some (.string y.f2)) [] [(0, 1), (2, 1), (1, 2), (3, 0), (4, 0), (5, 0), (6, 0), (7, 0), (8, 0), (9, 0)] (by kernel_rfl) (by kernel_rfl) ⟨HX5.out.cell 0 _ rfl, HX5.out.cell 1 _ rfl, HX5.out.cell 2 _ rfl, HY5.out.cell 0 _ rfl, HY5.out.cell 1 _ rfl, HY5.out.cell 2 _ rfl⟩ ?_
  intro hS
  (refine seq_l (some 76) (v := ?_) (a' := ?_) rfl rfl (fun _ _ _ h => h) (by assumption) (Or.inl ⟨by rfl, ?_⟩) ?_ ?_; rotate_left 2; (· intro w' hS'; (try dsimp only at hS'); go_simp; with_reducible rfl); (· simp only [Act.put, List.setIfInBounds_toArray, List.set_cons_zero, List.set_cons_succ, i64_w, i32_w]; rfl))
  (refine seq_l (some 78) (v := ?_) (a' := ?_) rfl rfl (fun _ _ _ h => h) (by assumption) (Or.inl ⟨by rfl, ?_⟩) ?_ ?_; rotate_left 2; (· intro w' hS'; (try dsimp only at hS'); go_simp; with_reducible rfl); (· simp only [Act.put, List.setIfInBounds_toArray, List.set_cons_zero, List.set_cons_succ, i64_w, i32_w]; rfl))
  (refine seq_e rfl (by rfl) (fun K hK => ?_))
  go_simp
  refine (Hof.out w5.drew _ ⟨A2, c2, rfl, hc2, HC5.out⟩).mono ?_
  rintro e w6 ⟨rfl, hB6⟩
  have hx6 := HX5.out.below hB6
  have hy6 := HY5.out.below hB6
  refine hK _ _ ⟨hx6.cell 0 _ rfl, hx6.cell 1 _ rfl, hx6.cell 2 _ rfl, hy6.cell 0 _ rfl, hy6.cell 1 _ rfl, hy6.cell 2 _ rfl⟩ (fun hS => ?_)
  clear hK K
  (refine seq_v (some 79) (v := ?_) (a' := ?_) rfl rfl (fun _ _ _ h => h) (Or.inl ⟨by rfl, ?_⟩) ?_ ?_; rotate_left 2; (· intro w'; go_simp; with_reducible rfl); (· simp only [Act.put, List.setIfInBounds_toArray, List.set_cons_zero, List.set_cons_succ, i64_w, i32_w]; rfl))
  (refine seq_v (some 80) (v := ?_) (a' := ?_) rfl rfl (fun _ _ _ h => h) (Or.inl ⟨by rfl, ?_⟩) ?_ ?_; rotate_left 2; (· intro w'; go_simp; with_reducible rfl); (· simp only [Act.put, List.setIfInBounds_toArray, List.set_cons_zero, List.set_cons_succ, i64_w, i32_w]; rfl))
  first | (refine seq_v (some 81) (v := ?_) (a' := ?_) rfl rfl (fun _ _ _ h => h) (Or.inl ⟨by rfl, ?_⟩) ?_ ?_; rotate_left 2; (· intro w'; go_simp; with_reducible rfl); (· simp only [Act.put, List.setIfInBounds_toArray, List.set_cons_zero, List.set_cons_succ, i64_w, i32_w]; rfl)) | (refine seq_v (some 81) (v := undef) (a' := ?_) rfl rfl (fun _ _ _ h => h) (Or.inr ⟨by rfl, rfl⟩) ?_ ?_; rotate_left; (· simp only [Act.put, List.setIfInBounds_toArray, List.set_cons_zero, List.set_cons_succ, i64_w, i32_w]; rfl))
  first | (refine seq_v (some 82) (v := ?_) (a' := ?_) rfl rfl (fun _ _ _ h => h) (Or.inl ⟨by rfl, ?_⟩) ?_ ?_; rotate_left 2; (· intro w'; go_simp; with_reducible rfl); (· simp only [Act.put, List.setIfInBounds_toArray, List.set_cons_zero, List.set_cons_succ, i64_w, i32_w]; rfl)) | (refine seq_v (some 82) (v := undef) (a' := ?_) rfl rfl (fun _ _ _ h => h) (Or.inr ⟨by rfl, rfl⟩) ?_ ?_; rotate_left; (· simp only [Act.put, List.setIfInBounds_toArray, List.set_cons_zero, List.set_cons_succ, i64_w, i32_w]; rfl))
  first | (refine seq_v (some 83) (v := ?_) (a' := ?_) rfl rfl (fun _ _ _ h => h) (Or.inl ⟨by rfl, ?_⟩) ?_ ?_; rotate_left 2; (· intro w'; go_simp; with_reducible rfl); (· simp only [Act.put, List.setIfInBounds_toArray, List.set_cons_zero, List.set_cons_succ, i64_w, i32_w]; rfl)) | (refine seq_v (some 83) (v := undef) (a' := ?_) rfl rfl (fun _ _ _ h => h) (Or.inr ⟨by rfl, rfl⟩) ?_ ?_; rotate_left; (· simp only [Act.put, List.setIfInBounds_toArray, List.set_cons_zero, List.set_cons_succ, i64_w, i32_w]; rfl))
  (refine seq_v (some 84) (v := ?_) (a' := ?_) rfl rfl (fun _ _ _ h => h) (Or.inl ⟨by rfl, ?_⟩) ?_ ?_; rotate_left 2; (· intro w'; go_simp; with_reducible rfl); (· simp only [Act.put, List.setIfInBounds_toArray, List.set_cons_zero, List.set_cons_succ, i64_w, i32_w]; rfl))
  (refine seq_v (some 6) (v := ?_) (a' := ?_) rfl rfl (fun _ _ _ h => h) (Or.inl ⟨by rfl, ?_⟩) ?_ ?_; rotate_left 2; (· intro w'; go_simp; with_reducible rfl); (· simp only [Act.put, List.setIfInBounds_toArray, List.set_cons_zero, List.set_cons_succ, i64_w, i32_w]; rfl))
  refine seq_nil ?_
  have HB6 := Lib.hid (HB5.out.trans (hB6.mono HB5.out.size))
  clear hS hx6 hy6 hB6 heq hg
  go_wp2_with fail
  go_ret
  exact ⟨rfl, Two.below PN.stands QN.stands HT4.out HB6.out, KpO.of_below (HB4.out.trans (HB6.out.mono HB4.out.size))⟩
end Go.Proofs.Ytnphlghiicbjjaa
