/- disk.File: Add, Sync, Cut, Crash. -/
import Derived.Test.YtcplmaeicmmkgaaA12
namespace Go.Proofs.Ytcplmaeicmmkgaa
open Go Go.RowKit Go.Proofs.YtcplmaeicmmkgaaW.PrintWords Go.Proofs.YtcplmaeicmmkgaaW.PrintLast
set_option linter.unusedVariables false
set_option linter.unusedSimpArgs false

def AddPost (w : World) (F : Nat → Prop) (b : Nat) (s l bs : List Int) (r : Int) (e : Ending) (w' : World) : Prop :=
  e = .returned (.int .i64 (if r < s.length + l.length + bs.length then 3 else 0)) ∧ FlAt w' (ext F w w') b s (if r < s.length + l.length + bs.length then l else l ++ bs) r ∧ Kp F w w'

/-- What is loose has grown, and its value is stored. -/
theorem FlAt.grow2 {w w1 : World} {F : Nat → Prop} {b : Nat} {s l bs : List Int} {r : Int} {v1 v2 : Value} {A3 : Option Addr} {n3 c3 : Nat} (h : FlAt w F b s l r) (hB : Blk w b 189 [v1, v2, .int .i64 r])
    (h6 : (Kd.int .u8).R 5 w 0 F v1 s) (h7 : (Kd.int .u8).R 5 w 0 F v2 l) (h8 : NeRow v1 v2) (hbs : BR bs)
    (hR : (Kd.int .u8).R 5 w1 0 (ext F w w1) (.slice A3 n3 c3) (l ++ bs)) (hK : Kp F w w1) (hG : w.grownBy w1 v2.ownBlock) (hat : (Value.slice A3 n3 c3).ownBlock = v2.ownBlock ∨ ∃ b, (Value.slice A3 n3 c3).ownBlock = some b ∧ w.heap.size ≤ b) :
    FlAt (w1.setCell ⟨b, 1, none⟩ (.slice A3 n3 c3)) (ext F w (w1.setCell ⟨b, 1, none⟩ (.slice A3 n3 c3))) b s (l ++ bs) r := by
  have hb := h.1
  have hBd := h.2.1
  have hBRs := h.2.2.1
  have hBRl := h.2.2.2.1
  have hs : (w1.setCell ⟨b, 1, none⟩ (.slice A3 n3 c3)).heap.size = w1.heap.size := by simp [World.setCell]
  have hB1 := hB.grown hG (hB.ne_row h7 (by decide))
  obtain ⟨A1, c1, rfl⟩ := Kd.R_slice h6
  have h6' : (Kd.int .u8).R 5 w1 0 F (.slice A1 s.length c1) s := by
    have := R_nums_ok (ok' := fun k => F k ∧ some k ≠ v2.ownBlock) h6 (fun j hj => ⟨h6.1 j hj, fun e => h8 j hj e.symm⟩)
    exact Kd.R_mono (Kd.R_grown this hG (fun k hk => hk.2)) (fun k hk => hk.1)
  have he : ∀ k, ext F w w1 k → ext F w (w1.setCell ⟨b, 1, none⟩ (.slice A3 n3 c3)) k := fun k hk => hk.imp id (fun hk => ⟨hk.1, by rw [hs]; exact hk.2⟩)
  have hsz : w.heap.size ≤ (w1.setCell ⟨b, 1, none⟩ (.slice A3 n3 c3)).heap.size := by rw [hs]; exact hK.size
  obtain ⟨inner, ho⟩ := Kd.R_own h6
  refine ⟨.inl hb, hBd.ext hsz, hBRs, hBRl.append hbs, A1, _, c1, A3, n3, c3, hB1.set 1 _, Kd.R_mono (Kd.R_set h6' hB1 (by decide) 1 _) (fun k hk => .inl hk), Kd.R_mono (Kd.R_set hR hB1 (by decide) 1 _) he, ?_⟩
  exact ne_symm (ne_append (ne_symm h8) hat ho)

set_option maxHeartbeats 1000000 in
theorem fladd_any (w : World) (F : Nat → Prop) (b : Nat) (s l bs : List Int) (r : Int) (A : Option Addr) (m c : Nat) (hF : FlAt w F b s l r) (hC : (Kd.int .u8).C w A m bs) (hBR : BR bs) (hl : s.length + l.length + bs.length ≤ 1000000000) :
    Calls Try.prog 125 #[.pointer (some ⟨b, 0, none⟩), .slice A m c] w (AddPost w F b s l bs r) := by
  have HF := Lib.hid hF
  obtain ⟨h1, h2, h3, h4, A1, n1, c1, A2, n2, c2, h5, h6, h7, h8⟩ := hF
  have e0 := h5.cell 0 _ rfl
  have e1 := h5.cell 1 _ rfl
  have e2 := h5.cell 2 _ rfl
  obtain ⟨hn1, hc1, hC1⟩ := Kd.R_reads' h6
  obtain ⟨hn2, hc2, hC2⟩ := Kd.R_reads' h7
  have hm := hC.1
  have H5 := Lib.hid h5
  have H6 := Lib.hid h6
  have H7 := Lib.hid h7
  have H8 := Lib.hid h8
  have HC := Lib.hid hC
  have Hn := Lib.hid (show s.length = n1 ∧ l.length = n2 ∧ bs.length = m from ⟨hn1.symm, hn2.symm, hm⟩)
  clear h2 h3 h4 h5 h6 h7 h8 hC1 hC2 hC
  have hsum : n1 + n2 + m ≤ 1000000000 := by omega
  clear hn1 hn2 hm
  by_cases hr : r < (n1 : Int) + n2 + m
  all_goals
    have Hr := Lib.hid hr
    have hw1 : IntKind.i64.wrap ((n1 : Int) + n2) = (n1 : Int) + n2 := IntWalk.i64_in _ (by omega)
    have hw2 : IntKind.i64.wrap ((n1 : Int) + n2 + m) = (n1 : Int) + n2 + m := IntWalk.i64_in _ (by omega)
    go_enter Try.func125, Try.ntmps125
    go_wp2_with fail
    refine seq_start (fun w' => w'.cell? ⟨b, 0, none⟩ = some (.slice A1 n1 c1) ∧ w'.cell? ⟨b, 1, none⟩ = some (.slice A2 n2 c2) ∧ w'.cell? ⟨b, 2, none⟩ = some (.int .i64 r)) [] [(0, 0), (1, 0), (2, 0), (3, 1), (4, 0), (5, 0), (6, 0), (7, 0), (8, 1), (9, 0), (10, 0), (11, 0), (12, 0), (13, 0), (14, 0), (15, 0), (16, 0), (17, 1), (18, 0), (19, 0)] (by kernel_rfl) (by kernel_rfl) ⟨e0, e1, e2⟩ ?_
    intro hS
    (refine seq_v (some 9) (v := ?_) (a' := ?_) rfl rfl (fun _ _ _ h => h) (Or.inl ⟨by rfl, ?_⟩) ?_ ?_; rotate_left 2; (· intro w'; go_simp; with_reducible rfl); (· simp only [Act.put, List.setIfInBounds_toArray, List.set_cons_zero, List.set_cons_succ, i64_w, i32_w]; rfl))
    (refine seq_v (some 10) (v := ?_) (a' := ?_) rfl rfl (fun _ _ _ h => h) (Or.inl ⟨by rfl, ?_⟩) ?_ ?_; rotate_left 2; (· intro w'; go_simp; with_reducible rfl); (· simp only [Act.put, List.setIfInBounds_toArray, List.set_cons_zero, List.set_cons_succ, i64_w, i32_w]; rfl))
    (refine seq_v (some 11) (v := ?_) (a' := ?_) rfl rfl (fun _ _ _ h => h) (Or.inl ⟨by rfl, ?_⟩) ?_ ?_; rotate_left 2; (· intro w'; go_simp; with_reducible rfl); (· simp only [Act.put, List.setIfInBounds_toArray, List.set_cons_zero, List.set_cons_succ, i64_w, i32_w]; rfl))
    (refine seq_l (some 12) (v := ?_) (a' := ?_) rfl rfl (fun _ _ _ h => h) (by assumption) (Or.inl ⟨by rfl, ?_⟩) ?_ ?_; rotate_left 2; (· intro w' hS'; (try dsimp only at hS'); go_simp; with_reducible rfl); (· simp only [Act.put, List.setIfInBounds_toArray, List.set_cons_zero, List.set_cons_succ, i64_w, i32_w]; rfl))
    (refine seq_v (some 13) (v := ?_) (a' := ?_) rfl rfl (fun _ _ _ h => h) (Or.inl ⟨by rfl, ?_⟩) ?_ ?_; rotate_left 2; (· intro w'; go_simp; with_reducible rfl); (· simp only [Act.put, List.setIfInBounds_toArray, List.set_cons_zero, List.set_cons_succ, i64_w, i32_w]; rfl))
    (refine seq_v (some 14) (v := ?_) (a' := ?_) rfl rfl (fun _ _ _ h => h) (Or.inl ⟨by rfl, ?_⟩) ?_ ?_; rotate_left 2; (· intro w'; go_simp; with_reducible rfl); (· simp only [Act.put, List.setIfInBounds_toArray, List.set_cons_zero, List.set_cons_succ, i64_w, i32_w]; rfl))
    (refine seq_v (some 15) (v := ?_) (a' := ?_) rfl rfl (fun _ _ _ h => h) (Or.inl ⟨by rfl, ?_⟩) ?_ ?_; rotate_left 2; (· intro w'; go_simp; with_reducible rfl); (· simp only [Act.put, List.setIfInBounds_toArray, List.set_cons_zero, List.set_cons_succ, i64_w, i32_w]; rfl))
    (refine seq_v (some 16) (v := ?_) (a' := ?_) rfl rfl (fun _ _ _ h => h) (Or.inl ⟨by rfl, ?_⟩) ?_ ?_; rotate_left 2; (· intro w'; go_simp; with_reducible rfl); (· simp only [Act.put, List.setIfInBounds_toArray, List.set_cons_zero, List.set_cons_succ, i64_w, i32_w]; rfl))
    (refine seq_l (some 17) (v := ?_) (a' := ?_) rfl rfl (fun _ _ _ h => h) (by assumption) (Or.inl ⟨by rfl, ?_⟩) ?_ ?_; rotate_left 2; (· intro w' hS'; (try dsimp only at hS'); go_simp; with_reducible rfl); (· simp only [Act.put, List.setIfInBounds_toArray, List.set_cons_zero, List.set_cons_succ, i64_w, i32_w]; rfl))
    (refine seq_v (some 18) (v := ?_) (a' := ?_) rfl rfl (fun _ _ _ h => h) (Or.inl ⟨by rfl, ?_⟩) ?_ ?_; rotate_left 2; (· intro w'; go_simp; with_reducible rfl); (· simp only [Act.put, List.setIfInBounds_toArray, List.set_cons_zero, List.set_cons_succ, i64_w, i32_w]; rfl))
    (refine seq_v (some 19) (v := ?_) (a' := ?_) rfl rfl (fun _ _ _ h => h) (Or.inl ⟨by rfl, ?_⟩) ?_ ?_; rotate_left 2; (· intro w'; go_simp; with_reducible rfl); (· simp only [Act.put, List.setIfInBounds_toArray, List.set_cons_zero, List.set_cons_succ, i64_w, i32_w]; rfl))
    (refine seq_v (some 20) (v := ?_) (a' := ?_) rfl rfl (fun _ _ _ h => h) (Or.inl ⟨by rfl, ?_⟩) ?_ ?_; rotate_left 2; (· intro w'; go_simp; with_reducible rfl); (· simp only [Act.put, List.setIfInBounds_toArray, List.set_cons_zero, List.set_cons_succ, i64_w, i32_w]; rfl))
    (refine seq_v (some 21) (v := ?_) (a' := ?_) rfl rfl (fun _ _ _ h => h) (Or.inl ⟨by rfl, ?_⟩) ?_ ?_; rotate_left 2; (· intro w'; go_simp; with_reducible rfl); (· simp only [Act.put, List.setIfInBounds_toArray, List.set_cons_zero, List.set_cons_succ, i64_w, i32_w]; rfl))
    (refine seq_v (some 22) (v := ?_) (a' := ?_) rfl rfl (fun _ _ _ h => h) (Or.inl ⟨by rfl, ?_⟩) ?_ ?_; rotate_left 2; (· intro w'; go_simp; with_reducible rfl); (· simp only [Act.put, List.setIfInBounds_toArray, List.set_cons_zero, List.set_cons_succ, i64_w, i32_w]; rfl))
    (refine seq_v (some 23) (v := ?_) (a' := ?_) rfl rfl (fun _ _ _ h => h) (Or.inl ⟨by rfl, ?_⟩) ?_ ?_; rotate_left 2; (· intro w'; go_simp; with_reducible rfl); (· simp only [Act.put, List.setIfInBounds_toArray, List.set_cons_zero, List.set_cons_succ, i64_w, i32_w]; rfl))
    (refine seq_v (some 24) (v := ?_) (a' := ?_) rfl rfl (fun _ _ _ h => h) (Or.inl ⟨by rfl, ?_⟩) ?_ ?_; rotate_left 2; (· intro w'; go_simp; with_reducible rfl); (· simp only [Act.put, List.setIfInBounds_toArray, List.set_cons_zero, List.set_cons_succ, i64_w, i32_w]; rfl))
    (refine seq_v (some 25) (v := ?_) (a' := ?_) rfl rfl (fun _ _ _ h => h) (Or.inl ⟨by rfl, ?_⟩) ?_ ?_; rotate_left 2; (· intro w'; go_simp; with_reducible rfl); (· simp only [Act.put, List.setIfInBounds_toArray, List.set_cons_zero, List.set_cons_succ, i64_w, i32_w]; rfl))
    (refine seq_l (some 26) (v := ?_) (a' := ?_) rfl rfl (fun _ _ _ h => h) (by assumption) (Or.inl ⟨by rfl, ?_⟩) ?_ ?_; rotate_left 2; (· intro w' hS'; (try dsimp only at hS'); go_simp; with_reducible rfl); (· simp only [Act.put, List.setIfInBounds_toArray, List.set_cons_zero, List.set_cons_succ, i64_w, i32_w]; rfl))
    (refine seq_v (some 27) (v := ?_) (a' := ?_) rfl rfl (fun _ _ _ h => h) (Or.inl ⟨by rfl, ?_⟩) ?_ ?_; rotate_left 2; (· intro w'; go_simp; with_reducible rfl); (· simp only [Act.put, List.setIfInBounds_toArray, List.set_cons_zero, List.set_cons_succ, i64_w, i32_w]; rfl))
    (refine seq_v (some 8) (v := ?_) (a' := ?_) rfl rfl (fun _ _ _ h => h) (Or.inl ⟨by rfl, ?_⟩) ?_ ?_; rotate_left 2; (· intro w'; go_simp; with_reducible rfl); (· simp only [Act.put, List.setIfInBounds_toArray, List.set_cons_zero, List.set_cons_succ, i64_w, i32_w]; rfl))
    refine seq_nil ?_
    clear hw1 hw2 hS
    have HRd := Lib.hid (show (Kd.int .u8).R 5 w.drew 0 F (.slice A2 n2 c2) l from Kd.R_drew H7.out)
    have HCd := Lib.hid (show (Kd.int .u8).C w.drew A m bs from Kd.C_drew HC.out)
    have Hln := Lib.hid (show (l.length + m) * 1 ≤ 140737488355328 by have := Hn.out; omega)
    have H5d := Lib.hid H5.out.drew
    have Hne := Lib.hid (H5d.out.ne_row HRd.out (by decide))
    have Hsz : Hid (F b) := h1
    clear h1 e0 e2
    go_wp2_with (at_builtin; refine wpList_plain rfl (fun K hK => ?_); refine op_rowsG .u8 1 (W := w.drew) (F := F) 32 5 _ _ (by rfl) Try.underlying32 A_info5 (by decide) (by rfl) (by rfl) HRd.out HCd.out Hln.out ?_; intro A3 n3 c3 w3 _ hR3 hK3 hG3 hat; have hB3 := H5d.out.grown hG3 Hne.out; have e3 := hB3.cell 1 _ rfl; have f3 := hB3.frozen 1; refine hK _ _ ?_)
    go_ret
  · have hlt : r < (s.length : Int) + l.length + bs.length := by have := Hn.out; have := Hr.out; omega
    refine ⟨by rw [if_pos hlt]; rfl, ?_, (Kp.refl F w).drew⟩
    rw [if_pos hlt]
    exact (HF.out.below (below_drew (Below.refl _ _))).mono (fun k hk => .inl hk) (HF.out.2.1.ext (Nat.le_refl _))
  · have hlt : ¬ r < (s.length : Int) + l.length + bs.length := by have := Hn.out; have := Hr.out; omega
    refine ⟨by rw [if_neg hlt]; rfl, ?_, (((Kp.refl F w).drew).trans hK3 (fun _ _ h => h)).setCell (fun _ => Hsz.out) _⟩
    rw [if_neg hlt]
    exact FlAt.grow2 (w := w.drew) (HF.out.below (below_drew (Below.refl _ _))) H5d.out (Kd.R_drew H6.out) HRd.out H8.out hBR hR3 hK3 hG3 hat
end Go.Proofs.Ytcplmaeicmmkgaa
