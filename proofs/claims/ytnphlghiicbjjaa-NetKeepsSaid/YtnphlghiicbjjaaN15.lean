/- rutterlaw18: step. -/
import Derived.Test.YtnphlghiicbjjaaN14
namespace Go.Proofs.Ytnphlghiicbjjaa
open Go Go.RowKit Go.Proofs.YtnphlghiicbjjaaW.PrintWords Go.Proofs.YtnphlghiicbjjaaW.PrintLast Go.Proofs.Ytnphlghiicbjjaa.PNetPlays
set_option linter.unusedVariables false
set_option linter.unusedSimpArgs false

/-- What an act leaves. -/
def actN (r : Int) (xs : List S40) (q : Nat) (a : S36) : List S40 × Nat :=
  if a.f0 % 9 = 4 ∨ a.f0 % 9 = 5 then (if 0 ≤ a.f2 ∧ a.f2 < xs.length then (xs.eraseIdx a.f2.toNat, q) else (xs, q))
  else if a.f0 % 9 = 6 then (if 0 ≤ a.f2 ∧ a.f2 < xs.length ∧ ¬ r ≤ xs.length then (xs ++ [rd_T40 xs a.f2], q) else (xs, q))
  else if a.f0 % 9 = 7 ∨ a.f0 % 9 = 8 then (xs, q)
  else ((putAll r (xs, 0, q) a.f1).1, (putAll r (xs, 0, q) a.f1).2.2)
def OkS (xs : List S40) : Prop := ∀ x, x ∈ xs → okI x = true
theorem OkS.sz {xs : List S40} (h : OkS xs) : SzI xs := fun x hx => by have := okI_len (h x hx); omega
def Both (O : Nat → Prop) (w : World) (b mb : Nat) (xs : List S40) (r : Int) (q : Nat) : Prop := Two O w (PN b xs r q) (QN mb xs r q)
def StepPost (O : Nat → Prop) (w : World) (b mb : Nat) (xs : List S40) (r : Int) (q : Nat) (s : List S40 × Nat) (e : Ending) (w' : World) : Prop :=
  e = .returned (.bool true) ∧ Both O w' b mb s.1 r s.2 ∧ KpO O w w'
theorem abk (w : World) (v0 v1 v2 : Value) : Blk (w.alloc (.cells #[v0, v1, v2] 36)) w.heap.size 36 [v0, v1, v2] := Blk.new w 36 [v0, v1, v2]
theorem eq49t (y : S49) (W : World) : (binOp .eql 49 (.agg #[.int .i64 y.f0, .int .i64 y.f1, .string y.f2]) (.agg #[.int .i64 y.f0, .int .i64 y.f1, .string y.f2])).run Try.prog W = .ok (.bool true) W := by
  rw [eq49]; simp
theorem eqg49 : Try.prog.eqGuardType Try.prog.depth 49 = false := by kernel_rfl
theorem strl (s : ByteArray) : (s.toList == s.toList) = true := beq_self_eq_true _

set_option maxRecDepth 10000 in
set_option maxHeartbeats 4000000 in
theorem step_take (O : Nat → Prop) (w : World) (b mb : Nat) (xs : List S40) (r : Int) (q : Nat) (h : Both O w b mb xs r q) (hS : OkS xs) (hl : xs.length ≤ 100000) (κ i : Int) (l : List S40) (A : Option Addr) (c : Nat) (hk0 : 0 ≤ κ) (hk1 : κ ≤ 255) (hk : κ % 9 = 4 ∨ κ % 9 = 5)
    (h0 : 0 ≤ i) (hi : i < (xs.length : Int)) :
    Calls Try.prog 13 #[.pointer (some ⟨b, 0, none⟩), .pointer (some ⟨mb, 0, none⟩), .agg #[.int .u8 κ, .slice A l.length c, .int .i64 i]] w (StepPost O w b mb xs r q (xs.eraseIdx i.toNat, q)) := by
  have H := Lib.hid h
  have HS := Lib.hid hS
  clear h hS
  go_enter Try.func13, Try.ntmps13
  have hB1 : Below w.heap.size w (w.alloc (.cells #[.int .u8 κ, .slice A l.length c, .int .i64 i] 36)) := below_alloc (Below.refl _ _) _
  have T1 := Lib.hid (Two.take PN.stands QN.stands H.out hB1)
  have hA1 := abk w (.int .u8 κ) (.slice A l.length c) (.int .i64 i)
  have hz1 : w.heap.size < (w.alloc (.cells #[.int .u8 κ, .slice A l.length c, .int .i64 i] 36)).heap.size := by simp
  have HK1 := Lib.hid (KpO.of_below (O := O) hB1)
  clear hB1
  rcases hk with hk | hk
  · have d4 : (κ % 9 == 4) = true := beq_iff_eq.2 hk
    clear hk
    go_wp2_with fail
    generalize w.alloc (.cells #[.int .u8 κ, .slice A l.length c, .int .i64 i] 36) = w1 at T1 hA1 hz1 HK1 ⊢
    refine (two_take QN.stands T1.out HS.out.sz hl i h0 hi).mono ?_
    generalize hx : rd_T40 xs i = x
    rintro e w2 ⟨A2, c2, rfl, hT2, hK2⟩
    have hxe : rd_T49 (xs.map toR) i = toR x := by rw [← hx]; exact rd_toR xs i h0 hi
    have HX := Lib.hid hx
    have HXE := Lib.hid hxe
    clear hx hxe
    have hA2 := hK2.blk hA1 (.inr ⟨Nat.le_refl _, hz1⟩)
    have hz2 : w.heap.size < w2.heap.size := Nat.lt_of_lt_of_le hz1 hK2.size
    have a2 := hA2.cell 2 _ rfl
    have HK2 := Lib.hid (HK1.out.trans (hK2.weaken (fun k _ h => .inl h)))
    have hB3 : Below w2.heap.size w2 (w2.alloc (.cells #[.int .i64 x.f0, .int .i64 x.f1, .slice A2 x.f2.length c2] 40)) := below_alloc (Below.refl _ _) _
    have T3 := Lib.hid (Two.take PNI.stands QN.stands hT2 hB3)
    have HX3 := Lib.hid (Blk.new w2 40 [.int .i64 x.f0, .int .i64 x.f1, .slice A2 x.f2.length c2])
    have hz3 : w2.heap.size < (w2.alloc (.cells #[.int .i64 x.f0, .int .i64 x.f1, .slice A2 x.f2.length c2] 40)).heap.size := by simp
    have HK3 := Lib.hid (HK2.out.trans (KpO.of_below hB3))
    clear hA1 hA2 hK2 hT2 hB3
    go_wp2_with fail
    generalize w2.alloc (.cells #[.int .i64 x.f0, .int .i64 x.f1, .slice A2 x.f2.length c2] 40) = w3 at T3 HX3 hz3 HK3 ⊢
    refine (two_rtake PNI.stands T3.out hl i h0 hi).mono ?_
    rw [HX.out]
    rintro e w4 ⟨rfl, hT4, hK4⟩
    have hX4 := hK4.blk HX3.out (.inr ⟨Nat.le_refl _, hz3⟩)
    have hz4 : w2.heap.size < w4.heap.size := Nat.lt_of_lt_of_le hz3 hK4.size
    obtain ⟨A2', c2', hv, hc2, hC4⟩ := hT4.bytes
    injection hv with hv1 hv2 hv3
    subst hv1 hv3
    have HX4 := Lib.hid hX4
    have HC4 := Lib.hid hC4
    have HT4 := Lib.hid ((hT4.drop).weaken (fun k hk => .inl (.inl hk)) : Two O w4 _ _)
    have HK4 := Lib.hid (HK3.out.trans (hK4.weaken (fun k _ hk => .inl (.inl hk))))
    clear hX4 hC4 hT4 hK4 hv2 a2
    have hof := fun w' v (h : ItemC w' x v) => of_any w' x v h
    unfold val49 at *
    generalize toR x = y at *
    have Hof := Lib.hid hof
    clear hof
    go_wp2_with fail
    have hB5 : Below w4.heap.size w4 (w4.alloc (.cells #[.int .i64 y.f0, .int .i64 y.f1, .string y.f2] 49)).drew := below_drew (below_alloc (Below.refl _ _) _)
    have hY5 := (blk49 w4 y).drew
    have hX5 := HX4.out.below hB5
    have HC5 := Lib.hid (C_kp HC4.out hB5)
    have HB5 := Lib.hid hB5
    have heq := eq49t y
    have hg := eqg49
    have HY5 := Lib.hid hY5
    have HX5 := Lib.hid hX5
    clear hB5 hY5 hX5
    generalize (w4.alloc (.cells #[.int .i64 y.f0, .int .i64 y.f1, .string y.f2] 49)) = w5 at HB5 HY5 HX5 HC5 ⊢
    refine seq_start (fun w' => w'.cell? ⟨w2.heap.size, 0, none⟩ = some (.int .i64 x.f0) ∧ w'.cell? ⟨w2.heap.size, 1, none⟩ = some (.int .i64 x.f1) ∧ w'.cell? ⟨w2.heap.size, 2, none⟩ = some (.slice A2 x.f2.length c2) ∧ w'.cell? ⟨w4.heap.size, 0, none⟩ = some (.int .i64 y.f0) ∧ w'.cell? ⟨w4.heap.size, 1, none⟩ = some (.int .i64 y.f1) ∧ w'.cell? ⟨w4.heap.size, 2, none⟩ = some (.string y.f2)) [] [(0, 1), (2, 1), (1, 2), (3, 0), (4, 0), (5, 0), (6, 0), (7, 0), (8, 0), (9, 0)] (by kernel_rfl) (by kernel_rfl) ⟨HX5.out.cell 0 _ rfl, HX5.out.cell 1 _ rfl, HX5.out.cell 2 _ rfl, HY5.out.cell 0 _ rfl, HY5.out.cell 1 _ rfl, HY5.out.cell 2 _ rfl⟩ ?_
    intro hS
    (refine seq_l (some 39) (v := ?_) (a' := ?_) rfl rfl (fun _ _ _ h => h) (by assumption) (Or.inl ⟨by rfl, ?_⟩) ?_ ?_; rotate_left 2; (· intro w' hS'; (try dsimp only at hS'); go_simp; with_reducible rfl); (· simp only [Act.put, List.setIfInBounds_toArray, List.set_cons_zero, List.set_cons_succ, i64_w, i32_w]; rfl))
    (refine seq_l (some 41) (v := ?_) (a' := ?_) rfl rfl (fun _ _ _ h => h) (by assumption) (Or.inl ⟨by rfl, ?_⟩) ?_ ?_; rotate_left 2; (· intro w' hS'; (try dsimp only at hS'); go_simp; with_reducible rfl); (· simp only [Act.put, List.setIfInBounds_toArray, List.set_cons_zero, List.set_cons_succ, i64_w, i32_w]; rfl))
    (refine seq_e rfl (by rfl) (fun K hK => ?_))
    go_simp
    refine (Hof.out w5.drew _ ⟨A2, c2, rfl, hc2, HC5.out⟩).mono ?_
    rintro e w6 ⟨rfl, hB6⟩
    have hx6 := HX5.out.below hB6
    have hy6 := HY5.out.below hB6
    refine hK _ _ ⟨hx6.cell 0 _ rfl, hx6.cell 1 _ rfl, hx6.cell 2 _ rfl, hy6.cell 0 _ rfl, hy6.cell 1 _ rfl, hy6.cell 2 _ rfl⟩ (fun hS => ?_)
    clear hK K
    (refine seq_v (some 42) (v := ?_) (a' := ?_) rfl rfl (fun _ _ _ h => h) (Or.inl ⟨by rfl, ?_⟩) ?_ ?_; rotate_left 2; (· intro w'; go_simp; with_reducible rfl); (· simp only [Act.put, List.setIfInBounds_toArray, List.set_cons_zero, List.set_cons_succ, i64_w, i32_w]; rfl))
    (refine seq_v (some 43) (v := ?_) (a' := ?_) rfl rfl (fun _ _ _ h => h) (Or.inl ⟨by rfl, ?_⟩) ?_ ?_; rotate_left 2; (· intro w'; go_simp; with_reducible rfl); (· simp only [Act.put, List.setIfInBounds_toArray, List.set_cons_zero, List.set_cons_succ, i64_w, i32_w]; rfl))
    first | (refine seq_v (some 44) (v := ?_) (a' := ?_) rfl rfl (fun _ _ _ h => h) (Or.inl ⟨by rfl, ?_⟩) ?_ ?_; rotate_left 2; (· intro w'; go_simp; with_reducible rfl); (· simp only [Act.put, List.setIfInBounds_toArray, List.set_cons_zero, List.set_cons_succ, i64_w, i32_w]; rfl)) | (refine seq_v (some 44) (v := undef) (a' := ?_) rfl rfl (fun _ _ _ h => h) (Or.inr ⟨by rfl, rfl⟩) ?_ ?_; rotate_left; (· simp only [Act.put, List.setIfInBounds_toArray, List.set_cons_zero, List.set_cons_succ, i64_w, i32_w]; rfl))
    first | (refine seq_v (some 45) (v := ?_) (a' := ?_) rfl rfl (fun _ _ _ h => h) (Or.inl ⟨by rfl, ?_⟩) ?_ ?_; rotate_left 2; (· intro w'; go_simp; with_reducible rfl); (· simp only [Act.put, List.setIfInBounds_toArray, List.set_cons_zero, List.set_cons_succ, i64_w, i32_w]; rfl)) | (refine seq_v (some 45) (v := undef) (a' := ?_) rfl rfl (fun _ _ _ h => h) (Or.inr ⟨by rfl, rfl⟩) ?_ ?_; rotate_left; (· simp only [Act.put, List.setIfInBounds_toArray, List.set_cons_zero, List.set_cons_succ, i64_w, i32_w]; rfl))
    first | (refine seq_v (some 46) (v := ?_) (a' := ?_) rfl rfl (fun _ _ _ h => h) (Or.inl ⟨by rfl, ?_⟩) ?_ ?_; rotate_left 2; (· intro w'; go_simp; with_reducible rfl); (· simp only [Act.put, List.setIfInBounds_toArray, List.set_cons_zero, List.set_cons_succ, i64_w, i32_w]; rfl)) | (refine seq_v (some 46) (v := undef) (a' := ?_) rfl rfl (fun _ _ _ h => h) (Or.inr ⟨by rfl, rfl⟩) ?_ ?_; rotate_left; (· simp only [Act.put, List.setIfInBounds_toArray, List.set_cons_zero, List.set_cons_succ, i64_w, i32_w]; rfl))
    (refine seq_v (some 47) (v := ?_) (a' := ?_) rfl rfl (fun _ _ _ h => h) (Or.inl ⟨by rfl, ?_⟩) ?_ ?_; rotate_left 2; (· intro w'; go_simp; with_reducible rfl); (· simp only [Act.put, List.setIfInBounds_toArray, List.set_cons_zero, List.set_cons_succ, i64_w, i32_w]; rfl))
    (refine seq_v (some 6) (v := ?_) (a' := ?_) rfl rfl (fun _ _ _ h => h) (Or.inl ⟨by rfl, ?_⟩) ?_ ?_; rotate_left 2; (· intro w'; go_simp; with_reducible rfl); (· simp only [Act.put, List.setIfInBounds_toArray, List.set_cons_zero, List.set_cons_succ, i64_w, i32_w]; rfl))
    refine seq_nil ?_
    have HB6 := Lib.hid (HB5.out.trans (hB6.mono HB5.out.size))
    clear hS hx6 hy6 hB6 heq hg
    go_wp2_with fail
    go_ret
    exact ⟨rfl, Two.below PN.stands QN.stands HT4.out HB6.out, HK4.out.trans (KpO.of_below HB6.out)⟩
  · have d4 : (κ % 9 == 4) = false := beq_eq_false_iff_ne.2 (by omega)
    have d5 : (κ % 9 == 5) = true := beq_iff_eq.2 hk
    clear hk
    go_wp2_with fail
    generalize w.alloc (.cells #[.int .u8 κ, .slice A l.length c, .int .i64 i] 36) = w1 at T1 hA1 hz1 HK1 ⊢
    refine (two_take QN.stands T1.out HS.out.sz hl i h0 hi).mono ?_
    generalize hx : rd_T40 xs i = x
    rintro e w2 ⟨A2, c2, rfl, hT2, hK2⟩
    have hxe : rd_T49 (xs.map toR) i = toR x := by rw [← hx]; exact rd_toR xs i h0 hi
    have HX := Lib.hid hx
    have HXE := Lib.hid hxe
    clear hx hxe
    have hA2 := hK2.blk hA1 (.inr ⟨Nat.le_refl _, hz1⟩)
    have hz2 : w.heap.size < w2.heap.size := Nat.lt_of_lt_of_le hz1 hK2.size
    have a2 := hA2.cell 2 _ rfl
    have HK2 := Lib.hid (HK1.out.trans (hK2.weaken (fun k _ h => .inl h)))
    have hB3 : Below w2.heap.size w2 (w2.alloc (.cells #[.int .i64 x.f0, .int .i64 x.f1, .slice A2 x.f2.length c2] 40)) := below_alloc (Below.refl _ _) _
    have T3 := Lib.hid (Two.take PNI.stands QN.stands hT2 hB3)
    have HX3 := Lib.hid (Blk.new w2 40 [.int .i64 x.f0, .int .i64 x.f1, .slice A2 x.f2.length c2])
    have hz3 : w2.heap.size < (w2.alloc (.cells #[.int .i64 x.f0, .int .i64 x.f1, .slice A2 x.f2.length c2] 40)).heap.size := by simp
    have HK3 := Lib.hid (HK2.out.trans (KpO.of_below hB3))
    clear hA1 hA2 hK2 hT2 hB3
    go_wp2_with fail
    generalize w2.alloc (.cells #[.int .i64 x.f0, .int .i64 x.f1, .slice A2 x.f2.length c2] 40) = w3 at T3 HX3 hz3 HK3 ⊢
    refine (two_rtake PNI.stands T3.out hl i h0 hi).mono ?_
    rw [HX.out]
    rintro e w4 ⟨rfl, hT4, hK4⟩
    have hX4 := hK4.blk HX3.out (.inr ⟨Nat.le_refl _, hz3⟩)
    have hz4 : w2.heap.size < w4.heap.size := Nat.lt_of_lt_of_le hz3 hK4.size
    obtain ⟨A2', c2', hv, hc2, hC4⟩ := hT4.bytes
    injection hv with hv1 hv2 hv3
    subst hv1 hv3
    have HX4 := Lib.hid hX4
    have HC4 := Lib.hid hC4
    have HT4 := Lib.hid ((hT4.drop).weaken (fun k hk => .inl (.inl hk)) : Two O w4 _ _)
    have HK4 := Lib.hid (HK3.out.trans (hK4.weaken (fun k _ hk => .inl (.inl hk))))
    clear hX4 hC4 hT4 hK4 hv2 a2
    have hof := fun w' v (h : ItemC w' x v) => of_any w' x v h
    unfold val49 at *
    generalize toR x = y at *
    have Hof := Lib.hid hof
    clear hof
    go_wp2_with fail
    have hB5 : Below w4.heap.size w4 (w4.alloc (.cells #[.int .i64 y.f0, .int .i64 y.f1, .string y.f2] 49)).drew := below_drew (below_alloc (Below.refl _ _) _)
    have hY5 := (blk49 w4 y).drew
    have hX5 := HX4.out.below hB5
    have HC5 := Lib.hid (C_kp HC4.out hB5)
    have HB5 := Lib.hid hB5
    have heq := eq49t y
    have hg := eqg49
    have HY5 := Lib.hid hY5
    have HX5 := Lib.hid hX5
    clear hB5 hY5 hX5
    generalize (w4.alloc (.cells #[.int .i64 y.f0, .int .i64 y.f1, .string y.f2] 49)) = w5 at HB5 HY5 HX5 HC5 ⊢
    refine seq_start (fun w' => w'.cell? ⟨w2.heap.size, 0, none⟩ = some (.int .i64 x.f0) ∧ w'.cell? ⟨w2.heap.size, 1, none⟩ = some (.int .i64 x.f1) ∧ w'.cell? ⟨w2.heap.size, 2, none⟩ = some (.slice A2 x.f2.length c2) ∧ w'.cell? ⟨w4.heap.size, 0, none⟩ = some (.int .i64 y.f0) ∧ w'.cell? ⟨w4.heap.size, 1, none⟩ = some (.int .i64 y.f1) ∧ w'.cell? ⟨w4.heap.size, 2, none⟩ = some (.string y.f2)) [] [(0, 1), (2, 1), (1, 2), (3, 0), (4, 0), (5, 0), (6, 0), (7, 0), (8, 0), (9, 0)] (by kernel_rfl) (by kernel_rfl) ⟨HX5.out.cell 0 _ rfl, HX5.out.cell 1 _ rfl, HX5.out.cell 2 _ rfl, HY5.out.cell 0 _ rfl, HY5.out.cell 1 _ rfl, HY5.out.cell 2 _ rfl⟩ ?_
    intro hS
    (refine seq_l (some 39) (v := ?_) (a' := ?_) rfl rfl (fun _ _ _ h => h) (by assumption) (Or.inl ⟨by rfl, ?_⟩) ?_ ?_; rotate_left 2; (· intro w' hS'; (try dsimp only at hS'); go_simp; with_reducible rfl); (· simp only [Act.put, List.setIfInBounds_toArray, List.set_cons_zero, List.set_cons_succ, i64_w, i32_w]; rfl))
    (refine seq_l (some 41) (v := ?_) (a' := ?_) rfl rfl (fun _ _ _ h => h) (by assumption) (Or.inl ⟨by rfl, ?_⟩) ?_ ?_; rotate_left 2; (· intro w' hS'; (try dsimp only at hS'); go_simp; with_reducible rfl); (· simp only [Act.put, List.setIfInBounds_toArray, List.set_cons_zero, List.set_cons_succ, i64_w, i32_w]; rfl))
    (refine seq_e rfl (by rfl) (fun K hK => ?_))
    go_simp
    refine (Hof.out w5.drew _ ⟨A2, c2, rfl, hc2, HC5.out⟩).mono ?_
    rintro e w6 ⟨rfl, hB6⟩
    have hx6 := HX5.out.below hB6
    have hy6 := HY5.out.below hB6
    refine hK _ _ ⟨hx6.cell 0 _ rfl, hx6.cell 1 _ rfl, hx6.cell 2 _ rfl, hy6.cell 0 _ rfl, hy6.cell 1 _ rfl, hy6.cell 2 _ rfl⟩ (fun hS => ?_)
    clear hK K
    (refine seq_v (some 42) (v := ?_) (a' := ?_) rfl rfl (fun _ _ _ h => h) (Or.inl ⟨by rfl, ?_⟩) ?_ ?_; rotate_left 2; (· intro w'; go_simp; with_reducible rfl); (· simp only [Act.put, List.setIfInBounds_toArray, List.set_cons_zero, List.set_cons_succ, i64_w, i32_w]; rfl))
    (refine seq_v (some 43) (v := ?_) (a' := ?_) rfl rfl (fun _ _ _ h => h) (Or.inl ⟨by rfl, ?_⟩) ?_ ?_; rotate_left 2; (· intro w'; go_simp; with_reducible rfl); (· simp only [Act.put, List.setIfInBounds_toArray, List.set_cons_zero, List.set_cons_succ, i64_w, i32_w]; rfl))
    first | (refine seq_v (some 44) (v := ?_) (a' := ?_) rfl rfl (fun _ _ _ h => h) (Or.inl ⟨by rfl, ?_⟩) ?_ ?_; rotate_left 2; (· intro w'; go_simp; with_reducible rfl); (· simp only [Act.put, List.setIfInBounds_toArray, List.set_cons_zero, List.set_cons_succ, i64_w, i32_w]; rfl)) | (refine seq_v (some 44) (v := undef) (a' := ?_) rfl rfl (fun _ _ _ h => h) (Or.inr ⟨by rfl, rfl⟩) ?_ ?_; rotate_left; (· simp only [Act.put, List.setIfInBounds_toArray, List.set_cons_zero, List.set_cons_succ, i64_w, i32_w]; rfl))
    first | (refine seq_v (some 45) (v := ?_) (a' := ?_) rfl rfl (fun _ _ _ h => h) (Or.inl ⟨by rfl, ?_⟩) ?_ ?_; rotate_left 2; (· intro w'; go_simp; with_reducible rfl); (· simp only [Act.put, List.setIfInBounds_toArray, List.set_cons_zero, List.set_cons_succ, i64_w, i32_w]; rfl)) | (refine seq_v (some 45) (v := undef) (a' := ?_) rfl rfl (fun _ _ _ h => h) (Or.inr ⟨by rfl, rfl⟩) ?_ ?_; rotate_left; (· simp only [Act.put, List.setIfInBounds_toArray, List.set_cons_zero, List.set_cons_succ, i64_w, i32_w]; rfl))
    first | (refine seq_v (some 46) (v := ?_) (a' := ?_) rfl rfl (fun _ _ _ h => h) (Or.inl ⟨by rfl, ?_⟩) ?_ ?_; rotate_left 2; (· intro w'; go_simp; with_reducible rfl); (· simp only [Act.put, List.setIfInBounds_toArray, List.set_cons_zero, List.set_cons_succ, i64_w, i32_w]; rfl)) | (refine seq_v (some 46) (v := undef) (a' := ?_) rfl rfl (fun _ _ _ h => h) (Or.inr ⟨by rfl, rfl⟩) ?_ ?_; rotate_left; (· simp only [Act.put, List.setIfInBounds_toArray, List.set_cons_zero, List.set_cons_succ, i64_w, i32_w]; rfl))
    (refine seq_v (some 47) (v := ?_) (a' := ?_) rfl rfl (fun _ _ _ h => h) (Or.inl ⟨by rfl, ?_⟩) ?_ ?_; rotate_left 2; (· intro w'; go_simp; with_reducible rfl); (· simp only [Act.put, List.setIfInBounds_toArray, List.set_cons_zero, List.set_cons_succ, i64_w, i32_w]; rfl))
    (refine seq_v (some 6) (v := ?_) (a' := ?_) rfl rfl (fun _ _ _ h => h) (Or.inl ⟨by rfl, ?_⟩) ?_ ?_; rotate_left 2; (· intro w'; go_simp; with_reducible rfl); (· simp only [Act.put, List.setIfInBounds_toArray, List.set_cons_zero, List.set_cons_succ, i64_w, i32_w]; rfl))
    refine seq_nil ?_
    have HB6 := Lib.hid (HB5.out.trans (hB6.mono HB5.out.size))
    clear hS hx6 hy6 hB6 heq hg
    go_wp2_with fail
    go_ret
    exact ⟨rfl, Two.below PN.stands QN.stands HT4.out HB6.out, HK4.out.trans (KpO.of_below HB6.out)⟩
end Go.Proofs.Ytnphlghiicbjjaa
