/- track: Note. -/
import Derived.Test.YtcplmaeicmmkgaaT6
namespace Go.Proofs.Ytcplmaeicmmkgaa
open Go Go.RowKit Go.Proofs.YtcplmaeicmmkgaaW.PrintWords Go.Proofs.YtcplmaeicmmkgaaW.PrintLast Go.Proofs.YtcplmaeicmmkgaaW.PrintMore Go.Proofs.Ytcplmaeicmmkgaa.PTrackPlays
attribute [local go_sem] max2_int min2_int max_two min_two
set_option linter.unusedVariables false
set_option linter.unusedSimpArgs false

abbrev maxT : Int := 1099511627776
def timeB (now : Int) : Bool := decide (0 ≤ now) && decide (now ≤ maxT)
theorem time_eq (now : Int) : track_time.f now = some (timeB now) := by
  unfold track_time.f timeB maxT
  by_cases h : 0 ≤ now
  · rw [if_pos h, decide_eq_true h]; rfl
  · rw [if_neg h, decide_eq_false h]; rfl
def rightF (f : S70) : Bool := (f.f0 == 6 || f.f0 == 17) && (decide (0 ≤ f.f3) && decide (f.f3 ≤ 65535) && (decide (0 ≤ f.f4) && decide (f.f4 ≤ 65535)))
theorem range_eq (a b : Int) : (if (if b < a then b else a) ≥ 0 then (some (decide ((if a < b then b else a) ≤ 65535))) else (some false)) = some (decide (0 ≤ a) && decide (a ≤ 65535) && (decide (0 ≤ b) && decide (b ≤ 65535))) := by
  have fin : ∀ m n : Int, (m ≤ a ∧ m ≤ b ∧ (m = a ∨ m = b)) → (a ≤ n ∧ b ≤ n ∧ (n = a ∨ n = b)) → (if m ≥ 0 then (some (decide (n ≤ 65535))) else (some false)) = some (decide (0 ≤ a) && decide (a ≤ 65535) && (decide (0 ≤ b) && decide (b ≤ 65535))) := by
    intro m n hm hn
    by_cases h3 : m ≥ 0
    · rw [if_pos h3]; congr 1; rw [Bool.eq_iff_iff]; simp only [Bool.and_eq_true, decide_eq_true_eq]; omega
    · rw [if_neg h3]; congr 1; symm; rw [Bool.eq_false_iff]; simp only [ne_eq, Bool.and_eq_true, decide_eq_true_eq]; omega
  apply fin
  · split <;> omega
  · split <;> omega
theorem range2_eq (a b : Int) : (if 0 ≤ a then (if a ≤ 65535 then (if 0 ≤ b then (some (decide (b ≤ 65535))) else (some false)) else (some false)) else (some false)) = some (decide (0 ≤ a) && decide (a ≤ 65535) && (decide (0 ≤ b) && decide (b ≤ 65535))) := by
  by_cases h1 : 0 ≤ a
  · by_cases h2 : a ≤ 65535
    · by_cases h3 : 0 ≤ b
      · rw [if_pos h1, if_pos h2, if_pos h3, decide_eq_true h1, decide_eq_true h2, decide_eq_true h3]; rfl
      · rw [if_pos h1, if_pos h2, if_neg h3, decide_eq_true h1, decide_eq_true h2, decide_eq_false h3]; rfl
    · rw [if_pos h1, if_neg h2, decide_eq_true h1, decide_eq_false h2]; rfl
  · rw [if_neg h1, decide_eq_false h1]; rfl
theorem right_eq (f : S70) : inet_Right.f f.f0 f.f1 f.f2 f.f3 f.f4 = some (rightF f) := by
  have hk := range_eq f.f3 f.f4
  unfold inet_Right.f rightF mn mx
  by_cases h6 : f.f0 = 6
  · rw [if_pos h6, hk]
    simp [h6]
  · rw [if_neg h6]
    by_cases h17 : f.f0 = 17
    · rw [if_pos h17, hk]
      simp [h17]
    · rw [if_neg h17]
      simp [h6, h17]
theorem rright_eq (f : S70) : rutterref04_Right.f f.f0 f.f1 f.f2 f.f3 f.f4 = some (rightF f) := by
  have hk := range2_eq f.f3 f.f4
  unfold rutterref04_Right.f rightF
  simp only [ge_iff_le]
  by_cases h6 : f.f0 = 6
  · rw [if_pos h6, hk]
    simp [h6]
  · rw [if_neg h6]
    by_cases h17 : f.f0 = 17
    · rw [if_pos h17, hk]
      simp [h17]
    · rw [if_neg h17]
      simp [h6, h17]
theorem ext_ext {F : Nat → Prop} {w w1 w2 : World} (h1 : w.heap.size ≤ w1.heap.size) (h2 : w1.heap.size ≤ w2.heap.size) : ∀ k, ext (ext F w w1) w1 w2 k → ext F w w2 k := fun k hk => by
  rcases hk with (hk | hk) | hk
  · exact .inl hk
  · exact .inr ⟨hk.1, by have := hk.2; omega⟩
  · exact .inr ⟨by have := hk.1; omega, hk.2⟩
theorem kp_ext {F : Nat → Prop} {w w1 w2 : World} (h1 : Kp F w w1) (h2 : Kp (ext F w w1) w1 w2) : Kp F w w2 := h1.trans h2 (fun k hk h => by
  rcases h with h | h
  · exact h
  · have := h.1; omega)
/-- The table takes a row that is all new. -/
theorem tb_assign {T : TypeId} {w w1 : World} {F : Nat → Prop} {b : Nat} {life : Int} {xs ys : List S83} {A : Option Addr} {n c : Nat} (hF : TbAt T w F b life xs) (hR : k83.R 83 w1 0 (ext (fun _ => False) w w1) (.slice A n c) ys) (hB : Below w.heap.size w w1) :
    TbAt T (w1.setCell ⟨b, 1, none⟩ (.slice A n c)) (ext F w (w1.setCell ⟨b, 1, none⟩ (.slice A n c))) b life ys ∧ Kp F w (w1.setCell ⟨b, 1, none⟩ (.slice A n c)) := by
  have hb : b < w.heap.size := hF.2.1 b hF.1
  have hK := (Kp.of_below hB F).setCell (p := ⟨b, 1, none⟩) (fun _ => hF.1) (.slice A n c)
  obtain ⟨h1, h2, A0, n0, c0, h5, h6⟩ := hF.below hB
  refine ⟨(TbAt.put (F := ext F w w1) (.inl h1) (hF.2.1.ext hB.size) h5 (Kd.R_mono hR (fun k hk => hk.elim (fun h => h.elim) (fun h => ⟨.inr h, by have := h.1; omega⟩)))).mono (fun k hk => hk.imp id (fun h => ⟨h.1, by simpa [World.setCell] using h.2⟩)) (hF.2.1.ext hK.size), hK⟩
/-- What Note makes of the records, and its answer. -/
def noteF (life : Int) (xs : List S83) (f : S70) (now : Int) : List S83 × Int :=
  if timeB now = true ∧ rightF f = true then ((putF (liveL now xs) ⟨f, mn (now + life) maxT⟩).1, if (putF (liveL now xs) ⟨f, mn (now + life) maxT⟩).2 = true then 0 else 3) else (xs, 1)
def ActPost (T : TypeId) (w : World) (F : Nat → Prop) (b : Nat) (life : Int) (s : List S83 × Int) (e : Ending) (w' : World) : Prop := e = .returned (.int .i64 s.2) ∧ TbAt T w' (ext F w w') b life s.1 ∧ Kp F w w'
theorem time_any (w : World) (now : Int) : Calls Try.prog 88 #[.int .i64 now] w (fun e w' => e = .returned (.bool (timeB now)) ∧ Below w.heap.size w w') := by
  refine (track_time.calls now _ w (time_eq now)).mono ?_
  rintro e w' ⟨rfl, n, rfl⟩
  exact ⟨rfl, pw_below_drewN (Below.refl _ _) _⟩
theorem timeB_rg {now : Int} (h : timeB now = true) : 0 ≤ now ∧ now ≤ maxT := by
  unfold timeB at h
  simpa using h
theorem note_nil (w : World) (f : S70) (now : Int) : Calls Try.prog 29 #[.pointer none, v70 f, .int .i64 now] w (fun e w' => e = .returned (.int .i64 1) ∧ Below w.heap.size w w') := by
  unfold v70
  go_enter Try.func29, Try.ntmps29
  go_wp2_with fail
  go_ret
  exact ⟨rfl, below_alloc (Below.refl _ _) _⟩
set_option maxRecDepth 10000 in
set_option maxHeartbeats 4000000 in
theorem note_any (w : World) (F : Nat → Prop) (b : Nat) (life : Int) (xs : List S83) (hF : TbAt 158 w F b life xs) (hl : xs.length ≤ 1000000) (hl0 : 0 ≤ life) (hl1 : life ≤ 2147483648) (f : S70) (now : Int) :
    Calls Try.prog 29 #[pt b, v70 f, .int .i64 now] w (ActPost 158 w F b life (noteF life xs f now)) := by
  have HFb := Lib.hid hF.1
  have HFd := Lib.hid hF.2.1
  have hBx : Below w.heap.size w (w.alloc (.cells #[.int .i64 f.f0, .int .u32 f.f1, .int .u32 f.f2, .int .i64 f.f3, .int .i64 f.f4] 70)) := below_alloc (Below.refl _ _) _
  have HX := Lib.hid (Blk.new w 70 [.int .i64 f.f0, .int .u32 f.f1, .int .u32 f.f2, .int .i64 f.f3, .int .i64 f.f4])
  have HF := Lib.hid (hF.below hBx)
  have HBx := Lib.hid hBx
  have hrt := fun w' => inet_Right.calls f.f0 f.f1 f.f2 f.f3 f.f4 _ w' (right_eq f)
  have HRT := Lib.hid hrt
  have hx0 := HX.out.cell 0 _ rfl
  have hx1 := HX.out.cell 1 _ rfl
  have hx2 := HX.out.cell 2 _ rfl
  have hx3 := HX.out.cell 3 _ rfl
  have hx4 := HX.out.cell 4 _ rfl
  clear hF hBx hrt
  unfold v70
  go_enter Try.func29, Try.ntmps29
  go_wp2_with fail
  generalize (w.alloc (.cells #[.int .i64 f.f0, .int .u32 f.f1, .int .u32 f.f2, .int .i64 f.f3, .int .i64 f.f4] 70)) = w1 at HX HF HBx hx0 hx1 hx2 hx3 hx4 ⊢
  refine (time_any w1 now).mono ?_
  rintro e w2 ⟨rfl, hB2⟩
  have HF2 := Lib.hid (HF.out.below hB2)
  have HX2 := Lib.hid (HX.out.below hB2)
  have hx0 := cell_old hB2 hx0
  have hx1 := cell_old hB2 hx1
  have hx2 := cell_old hB2 hx2
  have hx3 := cell_old hB2 hx3
  have hx4 := cell_old hB2 hx4
  have HB2 := Lib.hid (HBx.out.trans (hB2.mono HBx.out.size))
  clear hB2 HF HX HBx
  cases ht : timeB now with
  | false =>
    have HN := Lib.hid (show noteF life xs f now = (xs, 1) by unfold noteF; rw [if_neg (by simp [ht])])
    clear ht
    go_wp2_with fail
    go_ret
    exact ⟨by rw [HN.out]; rfl, by rw [HN.out]; exact HF2.out.mono (fun k hk => .inl hk) (HFd.out.ext HB2.out.size), Kp.of_below HB2.out F⟩
  | true =>
  have hrg := timeB_rg ht
  go_wp2_with fail
  refine (HRT.out w2).mono ?_
  rintro e w3 ⟨rfl, hB3⟩
  have HF3 := Lib.hid (HF2.out.below hB3)
  have HX3 := Lib.hid (HX2.out.below hB3)
  have HB3 := Lib.hid (HB2.out.trans (hB3.mono HB2.out.size))
  clear hB3 HF2 HX2 HB2 hx0 hx1 hx2 hx3 hx4
  cases hr : rightF f with
  | false =>
    have HN := Lib.hid (show noteF life xs f now = (xs, 1) by unfold noteF; rw [if_neg (by simp [hr])])
    clear ht hr
    go_wp2_with fail
    go_ret
    exact ⟨by rw [HN.out]; rfl, by rw [HN.out]; exact HF3.out.mono (fun k hk => .inl hk) (HFd.out.ext HB3.out.size), Kp.of_below HB3.out F⟩
  | true =>
  have HN := Lib.hid (show noteF life xs f now = ((putF (liveL now xs) ⟨f, mn (now + life) maxT⟩).1, if (putF (liveL now xs) ⟨f, mn (now + life) maxT⟩).2 = true then 0 else 3) by unfold noteF; rw [if_pos ⟨ht, hr⟩])
  clear ht hr
  go_wp2_with fail
  refine (recs_any w3 F b life xs HF3.out (by omega) now).mono ?_
  rintro e w4 ⟨A4, n4, c4, rfl, hR4, hB4⟩
  obtain ⟨hT5, hK5⟩ := tb_assign HF3.out hR4 hB4
  obtain ⟨-, -, A0, n0, c0, hb4, -⟩ := HF3.out.below hB4
  have hb0 := hb4.cell 1 _ rfl
  have hf0 := hb4.frozen 1
  have HT5 := Lib.hid hT5
  have HK5 := Lib.hid hK5
  clear hT5 hK5 hR4 hB4 hb4
  have hly : (liveL now xs).length ≤ xs.length := List.length_filter_le _ _
  generalize liveL now xs = ys at HT5 HN hly
  go_wp2_with fail
  clear hb0 hf0
  generalize w4.setCell ⟨b, 1, none⟩ (.slice A4 n4 c4) = w5 at HT5 HK5 ⊢
  have hx5 := (HX3.out.kp HK5.out (fun h => by have := HFd.out _ h; omega)).drew
  obtain ⟨-, -, A1, n1, c1, hb5, -⟩ := HT5.out
  have hwl : IntKind.i64.wrap (now + life) = now + life := IntWalk.i64_in _ (by unfold maxT at hrg; omega)
  refine seq_start (fun w' => w'.cell? ⟨w.heap.size, 0, none⟩ = some (.int .i64 f.f0) ∧ w'.cell? ⟨w.heap.size, 1, none⟩ = some (.int .u32 f.f1) ∧ w'.cell? ⟨w.heap.size, 2, none⟩ = some (.int .u32 f.f2) ∧ w'.cell? ⟨w.heap.size, 3, none⟩ = some (.int .i64 f.f3) ∧ w'.cell? ⟨w.heap.size, 4, none⟩ = some (.int .i64 f.f4) ∧ w'.cell? ⟨b, 0, none⟩ = some (.int .i64 life)) [10] [(0, 0), (1, 1), (2, 0), (3, 0), (4, 0), (5, 0), (6, 1), (7, 0), (8, 0), (9, 0), (10, 3), (11, 0)] (by kernel_rfl) (by kernel_rfl) ⟨hx5.cell 0 _ rfl, hx5.cell 1 _ rfl, hx5.cell 2 _ rfl, hx5.cell 3 _ rfl, hx5.cell 4 _ rfl, hb5.drew.cell 0 _ rfl⟩ ?_
  intro hS
  (refine seq_v (some 25) (v := ?_) (a' := ?_) rfl rfl (fun _ _ _ h => h) (Or.inl ⟨by rfl, ?_⟩) ?_ ?_; rotate_left 2; (· intro w'; go_simp; with_reducible rfl); (· simp only [Act.put, List.setIfInBounds_toArray, List.set_cons_zero, List.set_cons_succ, i64_w, i32_w]; rfl))
  (refine seq_l (some 26) (v := ?_) (a' := ?_) rfl rfl (fun _ _ _ h => h) (by assumption) (Or.inl ⟨by rfl, ?_⟩) ?_ ?_; rotate_left 2; (· intro w' hS'; (try dsimp only at hS'); go_simp; with_reducible rfl); (· simp only [Act.put, List.setIfInBounds_toArray, List.set_cons_zero, List.set_cons_succ, i64_w, i32_w]; rfl))
  (refine seq_v (some 27) (v := ?_) (a' := ?_) rfl rfl (fun _ _ _ h => h) (Or.inl ⟨by rfl, ?_⟩) ?_ ?_; rotate_left 2; (· intro w'; go_simp; with_reducible rfl); (· simp only [Act.put, List.setIfInBounds_toArray, List.set_cons_zero, List.set_cons_succ, i64_w, i32_w]; rfl))
  (refine seq_v (some 28) (v := ?_) (a' := ?_) rfl rfl (fun _ _ _ h => h) (Or.inl ⟨by rfl, ?_⟩) ?_ ?_; rotate_left 2; (· intro w'; go_simp; with_reducible rfl); (· simp only [Act.put, List.setIfInBounds_toArray, List.set_cons_zero, List.set_cons_succ, i64_w, i32_w]; rfl))
  (refine seq_v (some 29) (v := ?_) (a' := ?_) rfl rfl (fun _ _ _ h => h) (Or.inl ⟨by rfl, ?_⟩) ?_ ?_; rotate_left 2; (· intro w'; go_simp; with_reducible rfl); (· simp only [Act.put, List.setIfInBounds_toArray, List.set_cons_zero, List.set_cons_succ, i64_w, i32_w]; rfl))
  (refine seq_v (some 30) (v := ?_) (a' := ?_) rfl rfl (fun _ _ _ h => h) (Or.inl ⟨by rfl, ?_⟩) ?_ ?_; rotate_left 2; (· intro w'; go_simp; with_reducible rfl); (· simp only [Act.put, List.setIfInBounds_toArray, List.set_cons_zero, List.set_cons_succ, i64_w, i32_w]; rfl))
  (refine seq_l (some 31) (v := ?_) (a' := ?_) rfl rfl (fun _ _ _ h => h) (by assumption) (Or.inl ⟨by rfl, ?_⟩) ?_ ?_; rotate_left 2; (· intro w' hS'; (try dsimp only at hS'); go_simp; with_reducible rfl); (· simp only [Act.put, List.setIfInBounds_toArray, List.set_cons_zero, List.set_cons_succ, i64_w, i32_w]; rfl))
  (refine seq_v (some 32) (v := ?_) (a' := ?_) rfl rfl (fun _ _ _ h => h) (Or.inl ⟨by rfl, ?_⟩) ?_ ?_; rotate_left 2; (· intro w'; go_simp; with_reducible rfl); (· simp only [Act.put, List.setIfInBounds_toArray, List.set_cons_zero, List.set_cons_succ, i64_w, i32_w]; rfl))
  (refine seq_v (some 33) (v := ?_) (a' := ?_) rfl rfl (fun _ _ _ h => h) (Or.inl ⟨by rfl, ?_⟩) ?_ ?_; rotate_left 2; (· intro w'; go_simp; with_reducible rfl); (· simp only [Act.put, List.setIfInBounds_toArray, List.set_cons_zero, List.set_cons_succ, i64_w, i32_w]; rfl))
  (refine seq_v (some 34) (v := ?_) (a' := ?_) rfl rfl (fun _ _ _ h => h) (Or.inl ⟨by rfl, ?_⟩) ?_ ?_; rotate_left 2; (· intro w'; go_simp; with_reducible rfl); (· simp only [Act.put, List.setIfInBounds_toArray, List.set_cons_zero, List.set_cons_succ, i64_w, i32_w]; rfl))
  (refine seq_d rfl (by rfl) (fun K hK => ?_))
  go_simp
  refine (put_any w5.drew (ext F w3 w5) b life ys (HT5.out.below (below_drew (Below.refl _ _))) (by omega) ⟨f, mn (now + life) maxT⟩).mono ?_
  generalize putF ys ⟨f, mn (now + life) maxT⟩ = z at HN ⊢
  rintro e w6 ⟨rfl, hT6, hK6⟩
  refine hK _ _ ?_
  clear hK K hS
  (refine seq_v (some 36) (v := ?_) (a' := ?_) rfl rfl (fun _ _ _ h => h) (Or.inl ⟨by rfl, ?_⟩) ?_ ?_; rotate_left 2; (· intro w'; go_simp; with_reducible rfl); (· simp only [Act.put, List.setIfInBounds_toArray, List.set_cons_zero, List.set_cons_succ, i64_w, i32_w]; rfl))
  refine seq_nil ?_
  generalize (if 1099511627776 < now + life then (1099511627776 : Int) else now + life) = u
  have hK36 : Kp F w3 w6 := kp_ext (HK5.out.drew) hK6
  have hKw : Kp F w w6 := (Kp.of_below HB3.out F).trans hK36 (fun _ _ h => h)
  have hz3 := HB3.out.size
  have HTf := Lib.hid (hT6.mono (G := ext F w w6) (fun k hk => (ext_ext (F := F) (w := w3) (w1 := w5) HK5.out.size hK6.size k hk).imp id (fun h => ⟨by omega, h.2⟩)) (HFd.out.ext hKw.size))
  have HKf := Lib.hid hKw
  clear hT6 hK6 hK36 hKw hx5 hb5
  cases hz : z.2 with
  | true =>
    rw [hz, if_pos rfl] at HN
    clear hz
    go_wp2_with fail
    go_ret
    exact ⟨by rw [HN.out]; rfl, by rw [HN.out]; exact HTf.out, HKf.out⟩
  | false =>
    rw [hz, if_neg (by simp)] at HN
    clear hz
    go_wp2_with fail
    go_ret
    exact ⟨by rw [HN.out]; rfl, by rw [HN.out]; exact HTf.out, HKf.out⟩
end Go.Proofs.Ytcplmaeicmmkgaa
