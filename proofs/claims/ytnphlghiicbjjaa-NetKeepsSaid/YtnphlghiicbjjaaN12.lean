/- rutterref18: Take, Double; rutterlaw18: puts. -/
import Derived.Test.YtnphlghiicbjjaaN11
namespace Go.Proofs.Ytnphlghiicbjjaa
open Go Go.RowKit Go.Proofs.YtnphlghiicbjjaaW.PrintWords Go.Proofs.YtnphlghiicbjjaaW.PrintLast Go.Proofs.Ytnphlghiicbjjaa.PNetPlays
set_option linter.unusedVariables false
set_option linter.unusedSimpArgs false

set_option maxHeartbeats 1000000 in
theorem rdbl_no (w : World) (F : Nat → Prop) (b : Nat) (ys : List S49) (r q : Int) (hF : RnAt w F b ys r q) (i : Int) (hi : i < 0 ∨ (ys.length : Int) ≤ i) :
    Calls Try.prog 44 #[.pointer (some ⟨b, 0, none⟩), .int .i64 i] w (RetK w 4) := by
  go_enter Try.func44, Try.ntmps44
  go_wp2_with fail
  refine (rat_no _ F b ys r q hF i hi).mono ?_
  unfold RetY val49
  rintro e w2 ⟨rfl, hB⟩
  have HB := Lib.hid hB
  clear hB hF
  go_wp2
  go_ret
  exact ⟨rfl, below_alloc HB.out _⟩
set_option maxHeartbeats 1000000 in
theorem rdbl_full (w : World) (F : Nat → Prop) (b : Nat) (ys : List S49) (r q : Int) (hF : RnAt w F b ys r q) (i : Int) (h0 : 0 ≤ i) (hi : i < (ys.length : Int)) (hr : r ≤ ys.length) :
    Calls Try.prog 44 #[.pointer (some ⟨b, 0, none⟩), .int .i64 i] w (RetK w 3) := by
  have HF := Lib.hid hF
  clear hF
  go_enter Try.func44, Try.ntmps44
  go_wp2_with fail
  refine (rat_ok _ F b ys r q HF.out i h0 hi).mono ?_
  unfold RetY val49
  generalize rd_T49 ys i = y
  rintro e w2 ⟨rfl, hB⟩
  obtain ⟨-, -, A, n, c, hbk, hRk⟩ := HF.out.below hB
  have hn := (Kd.R_reads' hRk).1
  have hb2 := hbk.lt
  have HB := Lib.hid hB
  subst hn
  have d0 : decide (r ≤ (ys.length : Int)) = true := decide_eq_true hr
  have hbk3 := hbk.alloc (.cells #[.int .i64 y.f0, .int .i64 y.f1, .string y.f2] 49)
  have c0 := hbk3.cell 0 _ rfl
  have c1 := hbk3.cell 1 _ rfl
  clear hbk hbk3 hRk hB
  go_wp2_with fail
  refine seq_start (fun w' => w'.cell? ⟨b, 0, none⟩ = some (.slice A ys.length c) ∧ w'.cell? ⟨b, 1, none⟩ = some (.int .i64 r)) [] [(0, 0), (1, 0), (2, 0), (3, 1), (4, 0), (5, 0), (6, 0), (7, 0), (8, 1), (9, 0)] (by kernel_rfl) (by kernel_rfl) ⟨c0, c1⟩ ?_
  intro hS
  (refine seq_v (some 16) (v := ?_) (a' := ?_) rfl rfl (fun _ _ _ h => h) (Or.inl ⟨by rfl, ?_⟩) ?_ ?_; rotate_left 2; (· intro w'; go_simp; with_reducible rfl); (· simp only [Act.put, List.setIfInBounds_toArray, List.set_cons_zero, List.set_cons_succ, i64_w, i32_w]; rfl))
  (refine seq_v (some 17) (v := ?_) (a' := ?_) rfl rfl (fun _ _ _ h => h) (Or.inl ⟨by rfl, ?_⟩) ?_ ?_; rotate_left 2; (· intro w'; go_simp; with_reducible rfl); (· simp only [Act.put, List.setIfInBounds_toArray, List.set_cons_zero, List.set_cons_succ, i64_w, i32_w]; rfl))
  (refine seq_v (some 18) (v := ?_) (a' := ?_) rfl rfl (fun _ _ _ h => h) (Or.inl ⟨by rfl, ?_⟩) ?_ ?_; rotate_left 2; (· intro w'; go_simp; with_reducible rfl); (· simp only [Act.put, List.setIfInBounds_toArray, List.set_cons_zero, List.set_cons_succ, i64_w, i32_w]; rfl))
  (refine seq_l (some 19) (v := ?_) (a' := ?_) rfl rfl (fun _ _ _ h => h) (by assumption) (Or.inl ⟨by rfl, ?_⟩) ?_ ?_; rotate_left 2; (· intro w' hS'; (try dsimp only at hS'); go_simp; with_reducible rfl); (· simp only [Act.put, List.setIfInBounds_toArray, List.set_cons_zero, List.set_cons_succ, i64_w, i32_w]; rfl))
  (refine seq_v (some 20) (v := ?_) (a' := ?_) rfl rfl (fun _ _ _ h => h) (Or.inl ⟨by rfl, ?_⟩) ?_ ?_; rotate_left 2; (· intro w'; go_simp; with_reducible rfl); (· simp only [Act.put, List.setIfInBounds_toArray, List.set_cons_zero, List.set_cons_succ, i64_w, i32_w]; rfl))
  (refine seq_v (some 21) (v := ?_) (a' := ?_) rfl rfl (fun _ _ _ h => h) (Or.inl ⟨by rfl, ?_⟩) ?_ ?_; rotate_left 2; (· intro w'; go_simp; with_reducible rfl); (· simp only [Act.put, List.setIfInBounds_toArray, List.set_cons_zero, List.set_cons_succ, i64_w, i32_w]; rfl))
  (refine seq_v (some 22) (v := ?_) (a' := ?_) rfl rfl (fun _ _ _ h => h) (Or.inl ⟨by rfl, ?_⟩) ?_ ?_; rotate_left 2; (· intro w'; go_simp; with_reducible rfl); (· simp only [Act.put, List.setIfInBounds_toArray, List.set_cons_zero, List.set_cons_succ, i64_w, i32_w]; rfl))
  (refine seq_v (some 23) (v := ?_) (a' := ?_) rfl rfl (fun _ _ _ h => h) (Or.inl ⟨by rfl, ?_⟩) ?_ ?_; rotate_left 2; (· intro w'; go_simp; with_reducible rfl); (· simp only [Act.put, List.setIfInBounds_toArray, List.set_cons_zero, List.set_cons_succ, i64_w, i32_w]; rfl))
  (refine seq_l (some 24) (v := ?_) (a' := ?_) rfl rfl (fun _ _ _ h => h) (by assumption) (Or.inl ⟨by rfl, ?_⟩) ?_ ?_; rotate_left 2; (· intro w' hS'; (try dsimp only at hS'); go_simp; with_reducible rfl); (· simp only [Act.put, List.setIfInBounds_toArray, List.set_cons_zero, List.set_cons_succ, i64_w, i32_w]; rfl))
  (refine seq_v (some 25) (v := ?_) (a' := ?_) rfl rfl (fun _ _ _ h => h) (Or.inl ⟨by rfl, ?_⟩) ?_ ?_; rotate_left 2; (· intro w'; go_simp; with_reducible rfl); (· simp only [Act.put, List.setIfInBounds_toArray, List.set_cons_zero, List.set_cons_succ, i64_w, i32_w]; rfl))
  refine seq_nil ?_
  clear c0 c1 hS
  go_wp2_with fail
  go_ret
  exact ⟨rfl, below_drew (below_alloc HB.out _)⟩
def RGrow (w : World) (F : Nat → Prop) (b : Nat) (ys : List S49) (r q k : Int) (e : Ending) (w' : World) : Prop := e = .returned (.int .i64 k) ∧ RnAt w' (ext F w w') b ys r q ∧ Kp F w w'
set_option maxHeartbeats 1000000 in
theorem rdbl_ok (w : World) (F : Nat → Prop) (b : Nat) (ys : List S49) (r q : Int) (hF : RnAt w F b ys r q) (hl : ys.length ≤ 1000000000) (i : Int) (h0 : 0 ≤ i) (hi : i < (ys.length : Int)) (hr : ¬ r ≤ ys.length) (hok : okR (rd_T49 ys i) = true) :
    Calls Try.prog 44 #[.pointer (some ⟨b, 0, none⟩), .int .i64 i] w (RGrow w F b (ys ++ [rd_T49 ys i]) r q 0) := by
  have HF := Lib.hid hF
  clear hF
  have Hok := Lib.hid hok
  clear hok
  go_enter Try.func44, Try.ntmps44
  go_wp2_with fail
  refine (rat_ok _ F b ys r q HF.out i h0 hi).mono ?_
  unfold RetY val49
  generalize hy : rd_T49 ys i = y at *
  have HY := Lib.hid hy
  clear hy
  rintro e w2 ⟨rfl, hB⟩
  obtain ⟨-, -, A, n, c, hbk, hRk⟩ := HF.out.below hB
  have hn := (Kd.R_reads' hRk).1
  have hb2 := hbk.lt
  have HB := Lib.hid hB
  subst hn
  have d0 : decide (r ≤ (ys.length : Int)) = false := decide_eq_false (by omega)
  have hbk3 := hbk.alloc (.cells #[.int .i64 y.f0, .int .i64 y.f1, .string y.f2] 49)
  have c0 := hbk3.cell 0 _ rfl
  have c1 := hbk3.cell 1 _ rfl
  have Hr := Lib.hid hr
  clear hbk hbk3 hRk hB hr
  go_wp2_with fail
  refine seq_start (fun w' => w'.cell? ⟨b, 0, none⟩ = some (.slice A ys.length c) ∧ w'.cell? ⟨b, 1, none⟩ = some (.int .i64 r)) [] [(0, 0), (1, 0), (2, 0), (3, 1), (4, 0), (5, 0), (6, 0), (7, 0), (8, 1), (9, 0)] (by kernel_rfl) (by kernel_rfl) ⟨c0, c1⟩ ?_
  intro hS
  (refine seq_v (some 16) (v := ?_) (a' := ?_) rfl rfl (fun _ _ _ h => h) (Or.inl ⟨by rfl, ?_⟩) ?_ ?_; rotate_left 2; (· intro w'; go_simp; with_reducible rfl); (· simp only [Act.put, List.setIfInBounds_toArray, List.set_cons_zero, List.set_cons_succ, i64_w, i32_w]; rfl))
  (refine seq_v (some 17) (v := ?_) (a' := ?_) rfl rfl (fun _ _ _ h => h) (Or.inl ⟨by rfl, ?_⟩) ?_ ?_; rotate_left 2; (· intro w'; go_simp; with_reducible rfl); (· simp only [Act.put, List.setIfInBounds_toArray, List.set_cons_zero, List.set_cons_succ, i64_w, i32_w]; rfl))
  (refine seq_v (some 18) (v := ?_) (a' := ?_) rfl rfl (fun _ _ _ h => h) (Or.inl ⟨by rfl, ?_⟩) ?_ ?_; rotate_left 2; (· intro w'; go_simp; with_reducible rfl); (· simp only [Act.put, List.setIfInBounds_toArray, List.set_cons_zero, List.set_cons_succ, i64_w, i32_w]; rfl))
  (refine seq_l (some 19) (v := ?_) (a' := ?_) rfl rfl (fun _ _ _ h => h) (by assumption) (Or.inl ⟨by rfl, ?_⟩) ?_ ?_; rotate_left 2; (· intro w' hS'; (try dsimp only at hS'); go_simp; with_reducible rfl); (· simp only [Act.put, List.setIfInBounds_toArray, List.set_cons_zero, List.set_cons_succ, i64_w, i32_w]; rfl))
  (refine seq_v (some 20) (v := ?_) (a' := ?_) rfl rfl (fun _ _ _ h => h) (Or.inl ⟨by rfl, ?_⟩) ?_ ?_; rotate_left 2; (· intro w'; go_simp; with_reducible rfl); (· simp only [Act.put, List.setIfInBounds_toArray, List.set_cons_zero, List.set_cons_succ, i64_w, i32_w]; rfl))
  (refine seq_v (some 21) (v := ?_) (a' := ?_) rfl rfl (fun _ _ _ h => h) (Or.inl ⟨by rfl, ?_⟩) ?_ ?_; rotate_left 2; (· intro w'; go_simp; with_reducible rfl); (· simp only [Act.put, List.setIfInBounds_toArray, List.set_cons_zero, List.set_cons_succ, i64_w, i32_w]; rfl))
  (refine seq_v (some 22) (v := ?_) (a' := ?_) rfl rfl (fun _ _ _ h => h) (Or.inl ⟨by rfl, ?_⟩) ?_ ?_; rotate_left 2; (· intro w'; go_simp; with_reducible rfl); (· simp only [Act.put, List.setIfInBounds_toArray, List.set_cons_zero, List.set_cons_succ, i64_w, i32_w]; rfl))
  (refine seq_v (some 23) (v := ?_) (a' := ?_) rfl rfl (fun _ _ _ h => h) (Or.inl ⟨by rfl, ?_⟩) ?_ ?_; rotate_left 2; (· intro w'; go_simp; with_reducible rfl); (· simp only [Act.put, List.setIfInBounds_toArray, List.set_cons_zero, List.set_cons_succ, i64_w, i32_w]; rfl))
  (refine seq_l (some 24) (v := ?_) (a' := ?_) rfl rfl (fun _ _ _ h => h) (by assumption) (Or.inl ⟨by rfl, ?_⟩) ?_ ?_; rotate_left 2; (· intro w' hS'; (try dsimp only at hS'); go_simp; with_reducible rfl); (· simp only [Act.put, List.setIfInBounds_toArray, List.set_cons_zero, List.set_cons_succ, i64_w, i32_w]; rfl))
  (refine seq_v (some 25) (v := ?_) (a' := ?_) rfl rfl (fun _ _ _ h => h) (Or.inl ⟨by rfl, ?_⟩) ?_ ?_; rotate_left 2; (· intro w'; go_simp; with_reducible rfl); (· simp only [Act.put, List.setIfInBounds_toArray, List.set_cons_zero, List.set_cons_succ, i64_w, i32_w]; rfl))
  refine seq_nil ?_
  clear c0 c1 hS
  have hz : w2.heap.size ≤ w2.heap.size := Nat.le_refl _
  go_wp2_with fail
  have hbl : Below w.heap.size w (w2.alloc (.cells #[.int .i64 y.f0, .int .i64 y.f1, .string y.f2] 49)).drew := below_drew (below_alloc HB.out _)
  have HB3 := Lib.hid hbl
  have h3 := rput_ok _ F b ys r q (HF.out.below hbl) y hl Hok.out (by have := Hr.out; omega)
  unfold val49 at h3
  refine h3.mono ?_
  rintro e w4 ⟨rfl, hN, hK⟩
  have HKw := Lib.hid (show Kp F w w4 from (Kp.of_below HB3.out F).trans hK (fun _ _ h => h))
  have hsz := HB3.out.size
  have HN := Lib.hid (hN.mono (G := ext F w w4) (fun k hk => hk.imp id (fun h => ⟨by omega, h.2⟩)) (HF.out.2.1.ext HKw.out.size))
  clear hbl h3 hN hK hsz
  go_wp2_with fail
  go_ret
  exact ⟨rfl, HN.out, HKw.out⟩

theorem erase_snoc {α : Type} (l : List α) (x : α) (i : Nat) : (l ++ [x]).eraseIdx i = if i = l.length then l else l.eraseIdx i ++ [x] := by
  split
  · rename_i h
    rw [List.eraseIdx_append_of_length_le (by omega), h, Nat.sub_self]; simp
  · rename_i h
    rcases Nat.lt_or_ge i l.length with hl | hl
    · rw [List.eraseIdx_append_of_lt_length hl]
    · rw [List.eraseIdx_of_length_le (by simp; omega), List.eraseIdx_of_length_le hl]
set_option maxHeartbeats 1000000 in
theorem rtake_no (w : World) (F : Nat → Prop) (b : Nat) (ys : List S49) (r q : Int) (hF : RnAt w F b ys r q) (i : Int) (hi : i < 0 ∨ (ys.length : Int) ≤ i) :
    Calls Try.prog 43 #[.pointer (some ⟨b, 0, none⟩), .int .i64 i] w (RetY w zero49 4) := by
  have HF := Lib.hid hF
  clear hF
  go_enter Try.func43, Try.ntmps43
  go_wp2_with fail
  refine (rat_no _ F b ys r q (HF.out.below (below_alloc (Below.refl _ _) _)) i hi).mono ?_
  rintro e w2 ⟨rfl, hB⟩
  unfold val49 zero49
  dsimp only
  have Z := Lib.hid ((zblk49 w).below hB)
  have HB0 := Lib.hid ((below_alloc (Below.refl w.heap.size w) (.cells #[.int .i64 0, .int .i64 0, .string ⟨#[]⟩] 49)).trans (hB.mono (by simp)))
  have hsz : w.heap.size < w2.heap.size := by have := hB.size; simp at this; omega
  have z0 := Z.out.cell 0 _ rfl
  have z1 := Z.out.cell 1 _ rfl
  have z2 := Z.out.cell 2 _ rfl
  have g0 := Z.out.frozen 0
  have g1 := Z.out.frozen 1
  have g2 := Z.out.frozen 2
  clear hB
  go_wp2
  refine bodyPost_ret (results_ct rfl _ _ w.heap.size 49 #[.int .i64 0, .int .i64 0, .string ⟨#[]⟩] (0, 0) _ rfl ((put3 Z.out (.int .i64 0) (.int .i64 0) (.string ⟨#[]⟩)).1.alloc _) Try.underlying49 rfl (by kernel_rfl)) rfl ?_
  refine ⟨rfl, ?_⟩
  exact below_alloc (HB0.out.trans ((put3 Z.out (.int .i64 0) (.int .i64 0) (.string ⟨#[]⟩)).2.to_below (by omega) (fun k hk => by omega))) _
def RTakeOk (w : World) (F : Nat → Prop) (b : Nat) (ys : List S49) (r q i : Int) (e : Ending) (w' : World) : Prop :=
  e = .returned (.tuple #[val49 (rd_T49 ys i), .int .i64 0]) ∧ RnAt w' (ext F w w') b (ys.eraseIdx i.toNat) r q ∧ Kp F w w'
set_option maxRecDepth 10000 in
set_option maxHeartbeats 2000000 in
theorem rtake_ok (w : World) (F : Nat → Prop) (b : Nat) (ys : List S49) (r q : Int) (hF : RnAt w F b ys r q) (hl : ys.length ≤ 100000000) (i : Int) (h0 : 0 ≤ i) (hi : i < (ys.length : Int)) :
    Calls Try.prog 43 #[.pointer (some ⟨b, 0, none⟩), .int .i64 i] w (RTakeOk w F b ys r q i) := by
  obtain ⟨j, rfl⟩ : ∃ j : Nat, i = j := ⟨i.toNat, by omega⟩
  unfold RTakeOk
  rw [Int.toNat_natCast]
  have HF := Lib.hid hF
  clear hF
  go_enter Try.func43, Try.ntmps43
  go_wp2_with fail
  refine (rat_ok _ F b ys r q (HF.out.below (below_alloc (Below.refl _ _) _)) (j : Int) h0 hi).mono ?_
  unfold RetY val49
  generalize hy : rd_T49 ys (j : Int) = y at *
  have HY := Lib.hid hy
  clear hy
  rintro e w2 ⟨rfl, hB⟩
  have hB0 : Below w.heap.size w w2 := (below_alloc (Below.refl _ _) _).trans (hB.mono (by simp))
  have Z := Lib.hid ((zblk49 w).below hB)
  have hsz : w.heap.size < w2.heap.size := by have := hB.size; simp at this; omega
  have HB0 := Lib.hid hB0
  clear hB hB0
  go_wp2_with fail
  have Y3 := Lib.hid (blk49 w2 y)
  have hB3 : Below w2.heap.size w2 (w2.alloc (.cells #[.int .i64 y.f0, .int .i64 y.f1, .string y.f2] 49)) := below_alloc (Below.refl _ _) _
  have hz3 : w2.heap.size < (w2.alloc (.cells #[.int .i64 y.f0, .int .i64 y.f1, .string y.f2] 49)).heap.size := by simp
  generalize w2.alloc (.cells #[.int .i64 y.f0, .int .i64 y.f1, .string y.f2] 49) = w3 at Y3 hB3 hz3 ⊢
  have HB3 := Lib.hid (HB0.out.trans (hB3.mono (by omega)))
  have Z3 := Lib.hid (Z.out.below hB3)
  obtain ⟨hFb, hFB, A, n, c, hbk, hRk⟩ := HF.out.below HB3.out
  obtain ⟨hn, hc, hC⟩ := Kd.R_reads' hRk
  have HC := Lib.hid (show k49.C w3 A n ys by rw [hn]; exact hC)
  have Hn := Lib.hid hn
  have Hbk := Lib.hid hbk
  have hn9 : n ≤ 100000000 := by omega
  have hjn : j < n := by omega
  have hbl : b < w.heap.size := HF.out.2.1 b HF.out.1
  clear hFB hbk hRk hC hB3 Z hl hn hc
  go_loopw [8, 9] (fun v8 v9 wr => ∃ (k : Nat) (A0 : Option Addr) (n0 c0 : Nat), k ≤ n ∧ v9 = .int .i64 k ∧ v8 = .slice A0 n0 c0 ∧ Hid (k49.R 49 wr w3.heap.size (fun _ => True) (.slice A0 n0 c0) ((ys.take k).eraseIdx j)) ∧ Hid (Below w3.heap.size w3 wr)) (fun _ v9 _ => n - (intOf v9).toNat)
  case atStart => exact ⟨0, none, 0, 0, Nat.zero_le _, rfl, rfl, Lib.hid (Kd.R_nil _ _ _ _ _), Lib.hid (Below.refl _ _)⟩
  case round =>
    obtain ⟨k, A0, n0, c0, hk, rfl, rfl, HR, HB⟩ := hrel
    have hbr := Hbk.out.below HB.out
    have b0 := hbr.cell 0 _ rfl
    have Hbr := Lib.hid hbr
    clear hbr
    by_cases hlt : k < n
    · have hw1 : IntKind.i64.wrap ((k : Int) + 1) = (k : Int) + 1 := IntWalk.i64_in _ (by omega)
      have hky : k < ys.length := by rw [← Hn.out]; exact hlt
      have htk : ys.take (k + 1) = ys.take k ++ [ys[k]] := List.take_succ_eq_append_getElem hky
      have hlk : (ys.take k).length = k := by rw [List.length_take]; omega
      by_cases hkj : k = j
      · have d1 : ((k : Int) != (j : Int)) = false := by simp; omega
        have d2 : ((k : Int) == (j : Int)) = true := beq_iff_eq.2 (by omega)
        have HE := Lib.hid (show (ys.take (k + 1)).eraseIdx j = (ys.take k).eraseIdx j by rw [htk, erase_snoc, hlk, if_pos hkj.symm, List.eraseIdx_of_length_le (by omega)])
        have Hkj := Lib.hid hkj
        clear htk hlk hkj
        go_wp2_with fail
        go_roundw
        case rel => exact ⟨k + 1, A0, n0, c0, by omega, by go_num, rfl, Lib.hid (by rw [HE.out]; exact HR.out), HB⟩
        case measure => simp [intOf] <;> omega
      · have d1 : ((k : Int) != (j : Int)) = true := by simp; omega
        have d2 : ((k : Int) == (j : Int)) = false := beq_eq_false_iff_ne.2 (by omega)
        have HE := Lib.hid (show (ys.take (k + 1)).eraseIdx j = (ys.take k).eraseIdx j ++ [ys[k]] by rw [htk, erase_snoc, hlk, if_neg (fun h => hkj h.symm)])
        obtain ⟨ad, hA, e0, e1, e2⟩ := at_T49 (Kd.C_below HC.out HB.out) (k : Int) (by omega) (by omega)
        rw [Int.toNat_natCast] at e0 e1 e2
        rw [rd_get49 ys k hky] at e0 e1 e2
        subst hA
        have hlE : ((ys.take k).eraseIdx j).length ≤ k := by
          have := List.length_eraseIdx_le (ys.take k) j; omega
        generalize ys[k] = x at e0 e1 e2 HE
        generalize (ys.take k).eraseIdx j = L at HR HE hlE
        have hle3 : w3.heap.size ≤ wr.heap.size := HB.out.size
        have hl3 : (L.length + 1) * 32 ≤ 140737488355328 := by omega
        have HpM := Lib.hid (k49_mkM wr w3.heap.size (fun k => some k ≠ (Value.slice A0 n0 c0).ownBlock) x)
        have Hkj := Lib.hid hkj
        clear htk hlk hkj hlE
        go_wp2_with (at_builtin; refine ev_appR k49 (W := wr) (v := .slice A0 n0 c0) w3.heap.size rfl _ _ 30 49 _ 32 rfl Try.underlying30 N_info49 rfl (by decide) (by decide) rfl rfl HpM.out HR.out hle3 hl3 ?_; intro A4 n4 c4 w4 _ hR4 hB4 _; have HB4 := Lib.hid (HB.out.trans hB4); have HR4 := Lib.hid hR4; clear hB4 hR4)
        go_roundw
        case rel => exact ⟨k + 1, A4, n4, c4, by omega, by go_num, rfl, Lib.hid (by rw [HE.out]; exact HR4.out), HB4⟩
        case measure => simp [intOf] <;> omega
    · have hkm : k = n := by omega
      subst hkm
      have htk : ys.take k = ys := List.take_of_length_le (by have := Hn.out; omega)
      rw [htk] at HR
      have HRk := Lib.hid HR.out
      have zr := Z3.out.below HB.out
      have yr := Y3.out.below HB.out
      have f0 := Hbr.out.frozen 0
      have y0 := yr.cell 0 _ rfl
      have y1 := yr.cell 1 _ rfl
      have y2 := yr.cell 2 _ rfl
      have z0 := zr.cell 0 _ rfl
      have z1 := zr.cell 1 _ rfl
      have z2 := zr.cell 2 _ rfl
      have g0 := zr.frozen 0
      have g1 := zr.frozen 1
      have g2 := zr.frozen 2
      have hne1 : ¬ b = w2.heap.size := by omega
      have hne2 : ¬ b = w.heap.size := by omega
      have hne3 : ¬ w2.heap.size = w.heap.size := by omega
      have hne4 : ¬ w2.heap.size = b := by omega
      have hne5 : ¬ w.heap.size = b := by omega
      have hne6 : ¬ w.heap.size = w2.heap.size := by omega
      have HZr := Lib.hid zr
      clear htk zr yr
      go_wp2
      have hFlt := HF.out.2.1
      obtain ⟨hbk, K5⟩ := put3 (HZr.out.far (p := ⟨b, 0, none⟩) (by simpa using hne5) (.slice A0 n0 c0)) (.int .i64 y.f0) (.int .i64 y.f1) (.string y.f2)
      have hKr : Kp F w wr := Kp.of_below (HB3.out.trans (HB.out.mono HB3.out.size)) F
      have hs3 := HB3.out.size
      have hsr := HB.out.size
      have hN := RnAt.put (F := fun k => F k ∨ (w3.heap.size ≤ k ∧ k < wr.heap.size)) (.inl hFb) (fun k hk => by
        rcases hk with h | h
        · have := hFlt k h; omega
        · exact h.2) Hbr.out (Kd.R_lower (Kd.R_mono (Kd.R_bound HRk.out) (fun k hk => ⟨.inr ⟨hk.2.1, hk.2.2.1⟩, fun h => by have := hk.2.1; omega⟩)) (Nat.zero_le _))
      have hn5 := hN.kp K5 (fun k hk he => by
        rcases hk with h | h
        · have := hFlt k h; omega
        · omega)
      have hKf := (hKr.setCell (p := ⟨b, 0, none⟩) (fun _ => hFb) (.slice A0 n0 c0)).trans K5 (fun k hk he => by omega)
      refine bodyPost_ret (results_ct rfl _ _ w.heap.size 49 #[.int .i64 y.f0, .int .i64 y.f1, .string y.f2] (0, 0) _ rfl hbk Try.underlying49 rfl (by kernel_rfl)) rfl ?_
      refine ⟨by rw [HY.out]; rfl, hn5.mono (fun k hk => hk.imp id (fun h => ⟨by omega, by simpa [World.setCell] using h.2⟩)) (hFlt.ext hKf.size), hKf⟩
end Go.Proofs.Ytnphlghiicbjjaa
