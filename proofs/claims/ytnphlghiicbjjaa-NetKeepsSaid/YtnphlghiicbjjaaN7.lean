/- net: Double. -/
import Derived.Test.YtnphlghiicbjjaaN6
namespace Go.Proofs.Ytnphlghiicbjjaa
open Go Go.RowKit Go.Proofs.YtnphlghiicbjjaaW.PrintWords Go.Proofs.YtnphlghiicbjjaaW.PrintLast Go.Proofs.Ytnphlghiicbjjaa.PNetPlays
set_option linter.unusedVariables false
set_option linter.unusedSimpArgs false

def RetK (w : World) (k : Int) (e : Ending) (w' : World) : Prop := e = .returned (.int .i64 k) ∧ Below w.heap.size w w'
theorem dbl_nil (w : World) (i : Int) : Calls Try.prog 18 #[.pointer none, .int .i64 i] w (RetK w 1) := by
  go_enter Try.func18, Try.ntmps18
  go_wp2_with fail
  refine (at_nil _ i).mono ?_
  rintro e w2 ⟨rfl, hB⟩
  have HB := Lib.hid hB
  clear hB
  go_wp2
  go_ret
  exact ⟨rfl, below_alloc HB.out _⟩
theorem dbl_no (w : World) (F : Nat → Prop) (b : Nat) (xs : List S40) (r q : Int) (hF : NtAt w F b xs r q) (i : Int) (hi : i < 0 ∨ (xs.length : Int) ≤ i) :
    Calls Try.prog 18 #[.pointer (some ⟨b, 0, none⟩), .int .i64 i] w (RetK w 4) := by
  go_enter Try.func18, Try.ntmps18
  go_wp2_with fail
  refine (at_no _ F b xs r q hF i hi).mono ?_
  rintro e w2 ⟨rfl, hB⟩
  have HB := Lib.hid hB
  clear hB hF
  go_wp2
  go_ret
  exact ⟨rfl, below_alloc HB.out _⟩
/-- What a new item gives. -/
def GrowPost (w : World) (F : Nat → Prop) (b : Nat) (ys : List S40) (r q k : Int) (e : Ending) (w' : World) : Prop := e = .returned (.int .i64 k) ∧ NtAt w' (ext F w w') b ys r q ∧ Kp F w w'
set_option maxHeartbeats 1000000 in
theorem dbl_full (w : World) (F : Nat → Prop) (b : Nat) (xs : List S40) (r q : Int) (hF : NtAt w F b xs r q) (hS : SzI xs) (i : Int) (h0 : 0 ≤ i) (hi : i < (xs.length : Int)) (hr : r ≤ xs.length) :
    Calls Try.prog 18 #[.pointer (some ⟨b, 0, none⟩), .int .i64 i] w (RetK w 3) := by
  have HF := Lib.hid hF
  have HS := Lib.hid hS
  clear hF hS
  go_enter Try.func18, Try.ntmps18
  go_wp2_with fail
  refine (at_ok _ F b xs r q HF.out HS.out i h0 hi).mono ?_
  rintro e w2 ⟨v, rfl, u, rfl, hR, hB⟩
  obtain ⟨A1, k1, rfl⟩ := Kd.R_slice hR
  obtain ⟨-, -, A, n, c, hbk, hRk⟩ := HF.out.below hB
  have hn := (Kd.R_reads' hRk).1
  have hb2 := hbk.lt
  have HB := Lib.hid hB
  subst hn
  have d0 : decide (r ≤ (xs.length : Int)) = true := decide_eq_true hr
  have hbk3 := hbk.alloc (.cells #[.int .i64 (rd_T40 xs i).f0, .int .i64 (rd_T40 xs i).f1, .slice A1 (rd_T40 xs i).f2.length k1] 40)
  have c0 := hbk3.cell 0 _ rfl
  have c1 := hbk3.cell 1 _ rfl
  clear hbk hbk3 hR hRk hB
  generalize rd_T40 xs i = x at *
  go_wp2_with fail
  refine seq_start (fun w' => w'.cell? ⟨b, 0, none⟩ = some (.slice A xs.length c) ∧ w'.cell? ⟨b, 1, none⟩ = some (.int .i64 r)) [] [(0, 0), (1, 0), (2, 0), (3, 1), (4, 0), (5, 0), (6, 0), (7, 0), (8, 1), (9, 0), (10, 0)] (by kernel_rfl) (by kernel_rfl) ⟨c0, c1⟩ ?_
  intro hS
  (refine seq_v (some 18) (v := ?_) (a' := ?_) rfl rfl (fun _ _ _ h => h) (Or.inl ⟨by rfl, ?_⟩) ?_ ?_; rotate_left 2; (· intro w'; go_simp; with_reducible rfl); (· simp only [Act.put, List.setIfInBounds_toArray, List.set_cons_zero, List.set_cons_succ, i64_w, i32_w]; rfl))
  (refine seq_v (some 19) (v := ?_) (a' := ?_) rfl rfl (fun _ _ _ h => h) (Or.inl ⟨by rfl, ?_⟩) ?_ ?_; rotate_left 2; (· intro w'; go_simp; with_reducible rfl); (· simp only [Act.put, List.setIfInBounds_toArray, List.set_cons_zero, List.set_cons_succ, i64_w, i32_w]; rfl))
  (refine seq_v (some 20) (v := ?_) (a' := ?_) rfl rfl (fun _ _ _ h => h) (Or.inl ⟨by rfl, ?_⟩) ?_ ?_; rotate_left 2; (· intro w'; go_simp; with_reducible rfl); (· simp only [Act.put, List.setIfInBounds_toArray, List.set_cons_zero, List.set_cons_succ, i64_w, i32_w]; rfl))
  (refine seq_l (some 21) (v := ?_) (a' := ?_) rfl rfl (fun _ _ _ h => h) (by assumption) (Or.inl ⟨by rfl, ?_⟩) ?_ ?_; rotate_left 2; (· intro w' hS'; (try dsimp only at hS'); go_simp; with_reducible rfl); (· simp only [Act.put, List.setIfInBounds_toArray, List.set_cons_zero, List.set_cons_succ, i64_w, i32_w]; rfl))
  (refine seq_v (some 22) (v := ?_) (a' := ?_) rfl rfl (fun _ _ _ h => h) (Or.inl ⟨by rfl, ?_⟩) ?_ ?_; rotate_left 2; (· intro w'; go_simp; with_reducible rfl); (· simp only [Act.put, List.setIfInBounds_toArray, List.set_cons_zero, List.set_cons_succ, i64_w, i32_w]; rfl))
  (refine seq_v (some 23) (v := ?_) (a' := ?_) rfl rfl (fun _ _ _ h => h) (Or.inl ⟨by rfl, ?_⟩) ?_ ?_; rotate_left 2; (· intro w'; go_simp; with_reducible rfl); (· simp only [Act.put, List.setIfInBounds_toArray, List.set_cons_zero, List.set_cons_succ, i64_w, i32_w]; rfl))
  (refine seq_v (some 24) (v := ?_) (a' := ?_) rfl rfl (fun _ _ _ h => h) (Or.inl ⟨by rfl, ?_⟩) ?_ ?_; rotate_left 2; (· intro w'; go_simp; with_reducible rfl); (· simp only [Act.put, List.setIfInBounds_toArray, List.set_cons_zero, List.set_cons_succ, i64_w, i32_w]; rfl))
  (refine seq_v (some 25) (v := ?_) (a' := ?_) rfl rfl (fun _ _ _ h => h) (Or.inl ⟨by rfl, ?_⟩) ?_ ?_; rotate_left 2; (· intro w'; go_simp; with_reducible rfl); (· simp only [Act.put, List.setIfInBounds_toArray, List.set_cons_zero, List.set_cons_succ, i64_w, i32_w]; rfl))
  (refine seq_l (some 26) (v := ?_) (a' := ?_) rfl rfl (fun _ _ _ h => h) (by assumption) (Or.inl ⟨by rfl, ?_⟩) ?_ ?_; rotate_left 2; (· intro w' hS'; (try dsimp only at hS'); go_simp; with_reducible rfl); (· simp only [Act.put, List.setIfInBounds_toArray, List.set_cons_zero, List.set_cons_succ, i64_w, i32_w]; rfl))
  (refine seq_v (some 27) (v := ?_) (a' := ?_) rfl rfl (fun _ _ _ h => h) (Or.inl ⟨by rfl, ?_⟩) ?_ ?_; rotate_left 2; (· intro w'; go_simp; with_reducible rfl); (· simp only [Act.put, List.setIfInBounds_toArray, List.set_cons_zero, List.set_cons_succ, i64_w, i32_w]; rfl))
  (refine seq_v (some 17) (v := ?_) (a' := ?_) rfl rfl (fun _ _ _ h => h) (Or.inl ⟨by rfl, ?_⟩) ?_ ?_; rotate_left 2; (· intro w'; go_simp; with_reducible rfl); (· simp only [Act.put, List.setIfInBounds_toArray, List.set_cons_zero, List.set_cons_succ, i64_w, i32_w]; rfl))
  refine seq_nil ?_
  clear c0 c1 hS
  go_wp2_with fail
  go_ret
  exact ⟨rfl, below_drew (below_alloc HB.out _)⟩
set_option maxHeartbeats 1000000 in
theorem dbl_ok (w : World) (F : Nat → Prop) (b : Nat) (xs : List S40) (r q : Int) (hF : NtAt w F b xs r q) (hS : SzI xs) (hl : xs.length ≤ 1000000000) (i : Int) (h0 : 0 ≤ i) (hi : i < (xs.length : Int)) (hr : ¬ r ≤ xs.length) :
    Calls Try.prog 18 #[.pointer (some ⟨b, 0, none⟩), .int .i64 i] w (GrowPost w F b (xs ++ [rd_T40 xs i]) r q 0) := by
  have HF := Lib.hid hF
  have HS := Lib.hid hS
  clear hF hS
  go_enter Try.func18, Try.ntmps18
  go_wp2_with fail
  refine (at_ok _ F b xs r q HF.out HS.out i h0 hi).mono ?_
  rintro e w2 ⟨v, rfl, u, rfl, hR, hB⟩
  obtain ⟨A1, k1, rfl⟩ := Kd.R_slice hR
  obtain ⟨-, -, A, n, c, hbk, hRk⟩ := HF.out.below hB
  have hn := (Kd.R_reads' hRk).1
  have hb2 := hbk.lt
  have HB := Lib.hid hB
  have HR := Lib.hid hR
  have HRk := Lib.hid hRk
  subst hn
  have d0 : decide (r ≤ (xs.length : Int)) = false := decide_eq_false (by omega)
  have hbk3 := hbk.alloc (.cells #[.int .i64 (rd_T40 xs i).f0, .int .i64 (rd_T40 xs i).f1, .slice A1 (rd_T40 xs i).f2.length k1] 40)
  have hx3 := Blk.new w2 40 [.int .i64 (rd_T40 xs i).f0, .int .i64 (rd_T40 xs i).f1, .slice A1 (rd_T40 xs i).f2.length k1]
  have c0 := hbk3.cell 0 _ rfl
  have c1 := hbk3.cell 1 _ rfl
  have Hbk := Lib.hid hbk3
  have Hx := Lib.hid hx3
  clear hbk hbk3 hR hRk hB hx3
  generalize hx : rd_T40 xs i = x at *
  have HX := Lib.hid hx
  clear hx
  go_wp2_with fail
  refine seq_start (fun w' => w'.cell? ⟨b, 0, none⟩ = some (.slice A xs.length c) ∧ w'.cell? ⟨b, 1, none⟩ = some (.int .i64 r)) [] [(0, 0), (1, 0), (2, 0), (3, 1), (4, 0), (5, 0), (6, 0), (7, 0), (8, 1), (9, 0), (10, 0)] (by kernel_rfl) (by kernel_rfl) ⟨c0, c1⟩ ?_
  intro hS
  (refine seq_v (some 18) (v := ?_) (a' := ?_) rfl rfl (fun _ _ _ h => h) (Or.inl ⟨by rfl, ?_⟩) ?_ ?_; rotate_left 2; (· intro w'; go_simp; with_reducible rfl); (· simp only [Act.put, List.setIfInBounds_toArray, List.set_cons_zero, List.set_cons_succ, i64_w, i32_w]; rfl))
  (refine seq_v (some 19) (v := ?_) (a' := ?_) rfl rfl (fun _ _ _ h => h) (Or.inl ⟨by rfl, ?_⟩) ?_ ?_; rotate_left 2; (· intro w'; go_simp; with_reducible rfl); (· simp only [Act.put, List.setIfInBounds_toArray, List.set_cons_zero, List.set_cons_succ, i64_w, i32_w]; rfl))
  (refine seq_v (some 20) (v := ?_) (a' := ?_) rfl rfl (fun _ _ _ h => h) (Or.inl ⟨by rfl, ?_⟩) ?_ ?_; rotate_left 2; (· intro w'; go_simp; with_reducible rfl); (· simp only [Act.put, List.setIfInBounds_toArray, List.set_cons_zero, List.set_cons_succ, i64_w, i32_w]; rfl))
  (refine seq_l (some 21) (v := ?_) (a' := ?_) rfl rfl (fun _ _ _ h => h) (by assumption) (Or.inl ⟨by rfl, ?_⟩) ?_ ?_; rotate_left 2; (· intro w' hS'; (try dsimp only at hS'); go_simp; with_reducible rfl); (· simp only [Act.put, List.setIfInBounds_toArray, List.set_cons_zero, List.set_cons_succ, i64_w, i32_w]; rfl))
  (refine seq_v (some 22) (v := ?_) (a' := ?_) rfl rfl (fun _ _ _ h => h) (Or.inl ⟨by rfl, ?_⟩) ?_ ?_; rotate_left 2; (· intro w'; go_simp; with_reducible rfl); (· simp only [Act.put, List.setIfInBounds_toArray, List.set_cons_zero, List.set_cons_succ, i64_w, i32_w]; rfl))
  (refine seq_v (some 23) (v := ?_) (a' := ?_) rfl rfl (fun _ _ _ h => h) (Or.inl ⟨by rfl, ?_⟩) ?_ ?_; rotate_left 2; (· intro w'; go_simp; with_reducible rfl); (· simp only [Act.put, List.setIfInBounds_toArray, List.set_cons_zero, List.set_cons_succ, i64_w, i32_w]; rfl))
  (refine seq_v (some 24) (v := ?_) (a' := ?_) rfl rfl (fun _ _ _ h => h) (Or.inl ⟨by rfl, ?_⟩) ?_ ?_; rotate_left 2; (· intro w'; go_simp; with_reducible rfl); (· simp only [Act.put, List.setIfInBounds_toArray, List.set_cons_zero, List.set_cons_succ, i64_w, i32_w]; rfl))
  (refine seq_v (some 25) (v := ?_) (a' := ?_) rfl rfl (fun _ _ _ h => h) (Or.inl ⟨by rfl, ?_⟩) ?_ ?_; rotate_left 2; (· intro w'; go_simp; with_reducible rfl); (· simp only [Act.put, List.setIfInBounds_toArray, List.set_cons_zero, List.set_cons_succ, i64_w, i32_w]; rfl))
  (refine seq_l (some 26) (v := ?_) (a' := ?_) rfl rfl (fun _ _ _ h => h) (by assumption) (Or.inl ⟨by rfl, ?_⟩) ?_ ?_; rotate_left 2; (· intro w' hS'; (try dsimp only at hS'); go_simp; with_reducible rfl); (· simp only [Act.put, List.setIfInBounds_toArray, List.set_cons_zero, List.set_cons_succ, i64_w, i32_w]; rfl))
  (refine seq_v (some 27) (v := ?_) (a' := ?_) rfl rfl (fun _ _ _ h => h) (Or.inl ⟨by rfl, ?_⟩) ?_ ?_; rotate_left 2; (· intro w'; go_simp; with_reducible rfl); (· simp only [Act.put, List.setIfInBounds_toArray, List.set_cons_zero, List.set_cons_succ, i64_w, i32_w]; rfl))
  (refine seq_v (some 17) (v := ?_) (a' := ?_) rfl rfl (fun _ _ _ h => h) (Or.inl ⟨by rfl, ?_⟩) ?_ ?_; rotate_left 2; (· intro w'; go_simp; with_reducible rfl); (· simp only [Act.put, List.setIfInBounds_toArray, List.set_cons_zero, List.set_cons_succ, i64_w, i32_w]; rfl))
  refine seq_nil ?_
  clear c0 c1 hS
  go_wp2_with fail
  have Hb4 := Lib.hid Hbk.out.drew.drew
  have Hx4 := Lib.hid Hx.out.drew.drew
  have hB4 : Below w2.heap.size w2 (w2.alloc (.cells #[.int .i64 x.f0, .int .i64 x.f1, .slice A1 x.f2.length k1] 40)).drew.drew := below_drew (below_drew (below_alloc (Below.refl _ _) _))
  have HR4 := Lib.hid (Kd.R_below HRk.out hB4)
  have HI4 := Lib.hid (Kd.R_below HR.out hB4)
  have HB4 := Lib.hid hB4
  have hz4 : w2.heap.size < (w2.alloc (.cells #[.int .i64 x.f0, .int .i64 x.f1, .slice A1 x.f2.length k1] 40)).drew.drew.heap.size := by simp
  clear hB4 Hbk Hx HRk HR
  generalize (w2.alloc (.cells #[.int .i64 x.f0, .int .i64 x.f1, .slice A1 x.f2.length k1] 40)).drew = w3 at *
  have c0 := Hb4.out.cell 0 _ rfl
  have x0 := Hx4.out.cell 0 _ rfl
  have x1 := Hx4.out.cell 1 _ rfl
  have x2 := Hx4.out.cell 2 _ rfl
  refine seq_start (fun w' => w'.cell? ⟨b, 0, none⟩ = some (.slice A xs.length c) ∧ w'.cell? ⟨w2.heap.size, 0, none⟩ = some (.int .i64 x.f0) ∧ w'.cell? ⟨w2.heap.size, 1, none⟩ = some (.int .i64 x.f1) ∧ w'.cell? ⟨w2.heap.size, 2, none⟩ = some (.slice A1 x.f2.length k1)) [10] [(0, 0), (1, 0), (2, 0), (3, 0), (4, 1), (5, 1), (6, 2), (7, 2), (8, 0), (9, 0), (10, 3)] (by kernel_rfl) (by kernel_rfl) ⟨c0, x0, x1, x2⟩ ?_
  intro hS
  (refine seq_v (some 28) (v := ?_) (a' := ?_) rfl rfl (fun _ _ _ h => h) (Or.inl ⟨by rfl, ?_⟩) ?_ ?_; rotate_left 2; (· intro w'; go_simp; with_reducible rfl); (· simp only [Act.put, List.setIfInBounds_toArray, List.set_cons_zero, List.set_cons_succ, i64_w, i32_w]; rfl))
  (refine seq_v (some 29) (v := ?_) (a' := ?_) rfl rfl (fun _ _ _ h => h) (Or.inl ⟨by rfl, ?_⟩) ?_ ?_; rotate_left 2; (· intro w'; go_simp; with_reducible rfl); (· simp only [Act.put, List.setIfInBounds_toArray, List.set_cons_zero, List.set_cons_succ, i64_w, i32_w]; rfl))
  (refine seq_v (some 30) (v := ?_) (a' := ?_) rfl rfl (fun _ _ _ h => h) (Or.inl ⟨by rfl, ?_⟩) ?_ ?_; rotate_left 2; (· intro w'; go_simp; with_reducible rfl); (· simp only [Act.put, List.setIfInBounds_toArray, List.set_cons_zero, List.set_cons_succ, i64_w, i32_w]; rfl))
  (refine seq_v (some 31) (v := ?_) (a' := ?_) rfl rfl (fun _ _ _ h => h) (Or.inl ⟨by rfl, ?_⟩) ?_ ?_; rotate_left 2; (· intro w'; go_simp; with_reducible rfl); (· simp only [Act.put, List.setIfInBounds_toArray, List.set_cons_zero, List.set_cons_succ, i64_w, i32_w]; rfl))
  (refine seq_l (some 32) (v := ?_) (a' := ?_) rfl rfl (fun _ _ _ h => h) (by assumption) (Or.inl ⟨by rfl, ?_⟩) ?_ ?_; rotate_left 2; (· intro w' hS'; (try dsimp only at hS'); go_simp; with_reducible rfl); (· simp only [Act.put, List.setIfInBounds_toArray, List.set_cons_zero, List.set_cons_succ, i64_w, i32_w]; rfl))
  (refine seq_l (some 33) (v := ?_) (a' := ?_) rfl rfl (fun _ _ _ h => h) (by assumption) (Or.inl ⟨by rfl, ?_⟩) ?_ ?_; rotate_left 2; (· intro w' hS'; (try dsimp only at hS'); go_simp; with_reducible rfl); (· simp only [Act.put, List.setIfInBounds_toArray, List.set_cons_zero, List.set_cons_succ, i64_w, i32_w]; rfl))
  (refine seq_e rfl (by rfl) (fun K hK => ?_))
  go_simp
  have hb5 := Hb4.out.alloc (.cells #[.int .i64 x.f0, .int .i64 x.f1, .slice A1 x.f2.length k1] 40)
  have hx5 := Hx4.out.alloc (.cells #[.int .i64 x.f0, .int .i64 x.f1, .slice A1 x.f2.length k1] 40)
  refine hK _ _ ⟨hb5.cell 0 _ rfl, hx5.cell 0 _ rfl, hx5.cell 1 _ rfl, hx5.cell 2 _ rfl⟩ (fun hS => ?_)
  clear hK K hb5 hx5

  (refine seq_e rfl (by rfl) (fun K hK => ?_))
  have hFlt := HF.out.2.1
  have hFb := HF.out.1
  have hpM := k40_mkM w3.drew 0 (fun k => w.heap.size ≤ k ∧ k < w3.drew.heap.size) x (Kd.R_lower (Kd.R_mono (Kd.R_bound HI4.out) (fun k hk => ⟨hk.2.1, hk.2.2.1⟩)) (Nat.zero_le _))
  refine op_appG (some 35) (by rfl) (by rfl) k40 (W := w3.drew) (G := fun k => F k ∧ k ≠ b) _ _ 34 40 _ 40 (by rfl) Try.underlying34 N_info40 (by rfl) (by decide) (by decide) (by rfl) (by rfl) hpM (fun k hk he => by have := hFlt k (HR4.out.1 k he.symm).1; omega) HR4.out (by omega) ?_
  intro A3 n3 c3 w4 hn3 hR5 hK5 hG5
  have hb6 := Hb4.out.kp hK5 (by simp)
  have hx6 := Hx4.out.kp hK5 (fun h => by have := hFlt _ h.1; have := HB.out.size; omega)
  refine hK _ _ ⟨hb6.cell 0 _ rfl, hx6.cell 0 _ rfl, hx6.cell 1 _ rfl, hx6.cell 2 _ rfl⟩ (fun hS => ?_)
  clear hK K
  have f6 := hb6.frozen 0
  have c6 := hb6.cell 0 _ rfl
  have Hb6 := Lib.hid hb6
  have HR5 := Lib.hid hR5
  have HK5 := Lib.hid hK5
  have HG5 := Lib.hid hG5
  have HFlt := Lib.hid hFlt
  clear hb6 hx6 hR5 hK5 hG5 hn3 hpM c0 x0 x1 x2 hFlt
  (refine seq_v (some 36) (v := ?_) (a' := ?_) rfl rfl (fun _ _ _ h => h) (Or.inl ⟨by rfl, ?_⟩) ?_ ?_; rotate_left 2; (· intro w'; go_simp; with_reducible rfl); (· simp only [Act.put, List.setIfInBounds_toArray, List.set_cons_zero, List.set_cons_succ, i64_w, i32_w]; rfl))
  (refine seq_v (some 37) (v := ?_) (a' := ?_) rfl rfl (fun _ _ _ h => h) (Or.inl ⟨by rfl, ?_⟩) ?_ ?_; rotate_left 2; (· intro w'; go_simp; with_reducible rfl); (· simp only [Act.put, List.setIfInBounds_toArray, List.set_cons_zero, List.set_cons_succ, i64_w, i32_w]; rfl))
  (refine seq_d rfl (by rfl) (fun K hK => ?_))
  go_simp
  refine hK _ _ ?_
  clear hK K hS
  refine seq_nil ?_
  clear f6 c6
  have hKw : Kp F w w4 := ((Kp.of_below HB.out F).below HB4.out).trans HK5.out (fun k _ hk => hk.1)
  have hsz := HB.out.size
  have hsz2 := HB4.out.size
  have hsz3 := HK5.out.size
  have hbl := HFlt.out b hFb
  have hN := NtAt.put (F := ext F w w4) (.inl hFb) (HFlt.out.ext hKw.size) Hb6.out (Kd.R_mono HR5.out (fun k hk => by
    rcases hk with (hk | hk) | hk
    · exact ⟨.inl hk.1, hk.2⟩
    · exact ⟨.inr ⟨hk.1, by omega⟩, by omega⟩
    · exact ⟨.inr ⟨by omega, hk.2⟩, by omega⟩))
  have hKf := hKw.setCell (p := ⟨b, 0, none⟩) (fun _ => hFb) (.slice A3 n3 c3)
  have HN := Lib.hid (hN.mono (G := ext F w (w4.setCell ⟨b, 0, none⟩ (.slice A3 n3 c3))) (fun k hk => hk.imp id (fun h => ⟨h.1, by simpa [World.setCell] using h.2⟩)) (HFlt.out.ext hKf.size))
  have HKf := Lib.hid hKf
  clear hN hKf hKw hsz hsz2 hsz3
  go_wp2_with fail
  go_ret
  exact ⟨rfl, HN.out, HKf.out⟩
end Go.Proofs.Ytnphlghiicbjjaa
