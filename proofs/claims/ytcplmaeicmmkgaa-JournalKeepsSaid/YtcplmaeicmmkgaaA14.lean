/- disk.File: Sync. -/
import Derived.Test.YtcplmaeicmmkgaaA13
namespace Go.Proofs.Ytcplmaeicmmkgaa
open Go Go.RowKit Go.Proofs.YtcplmaeicmmkgaaW.PrintWords Go.Proofs.YtcplmaeicmmkgaaW.PrintLast
set_option linter.unusedVariables false
set_option linter.unusedSimpArgs false

def SyncPost (w : World) (F : Nat → Prop) (b : Nat) (s l : List Int) (r : Int) (e : Ending) (w' : World) : Prop :=
  e = .returned (.int .i64 ((s ++ l).length : Nat)) ∧ FlAt w' (ext F w w') b (s ++ l) [] r ∧ Kp F w w'

/-- What is safe is stored anew, and nothing is loose. -/
theorem FlAt.store2 {w w1 : World} {F : Nat → Prop} {b : Nat} {s : List Int} {r : Int} {u1 u2 : Value} {A3 : Option Addr} {n3 c3 : Nat} (hb : F b) (hBd : Bd F w) (hB : Blk w1 b 189 [u1, u2, .int .i64 r]) (hs : BR s)
    (hR : (Kd.int .u8).R 5 w1 0 (ext F w w1) (.slice A3 n3 c3) s) (hK : Kp F w w1) :
    Blk ((w1.setCell ⟨b, 0, none⟩ (.slice A3 n3 c3)).setCell ⟨b, 1, none⟩ (.slice none 0 0)) b 189 [.slice A3 n3 c3, .slice none 0 0, .int .i64 r] ∧
    FlAt ((w1.setCell ⟨b, 0, none⟩ (.slice A3 n3 c3)).setCell ⟨b, 1, none⟩ (.slice none 0 0)) (ext F w ((w1.setCell ⟨b, 0, none⟩ (.slice A3 n3 c3)).setCell ⟨b, 1, none⟩ (.slice none 0 0))) b s [] r ∧
    Kp F w ((w1.setCell ⟨b, 0, none⟩ (.slice A3 n3 c3)).setCell ⟨b, 1, none⟩ (.slice none 0 0)) := by
  have hsz : ((w1.setCell ⟨b, 0, none⟩ (.slice A3 n3 c3)).setCell ⟨b, 1, none⟩ (.slice none 0 0)).heap.size = w1.heap.size := by simp [World.setCell]
  have hB1 := hB.set 0 (.slice A3 n3 c3)
  have hB2 := hB1.set 1 (.slice none 0 0)
  have hR1 := Kd.R_set hR hB (by decide) 0 (.slice A3 n3 c3)
  have hR2 := Kd.R_set hR1 hB1 (by decide) 1 (.slice none 0 0)
  have he : ∀ k, ext F w w1 k → ext F w ((w1.setCell ⟨b, 0, none⟩ (.slice A3 n3 c3)).setCell ⟨b, 1, none⟩ (.slice none 0 0)) k := fun k hk => hk.imp id (fun hk => ⟨hk.1, by rw [hsz]; exact hk.2⟩)
  exact ⟨hB2, ⟨.inl hb, hBd.ext (by rw [hsz]; exact hK.size), hs, BR.nil, A3, n3, c3, none, 0, 0, hB2, Kd.R_mono hR2 he, Kd.R_nil _ _ _ _ _, ne_symm (ne_nil _)⟩, (hK.setCell (fun _ => hb) _).setCell (fun _ => hb) _⟩

set_option maxHeartbeats 1000000 in
theorem flsync_any (w : World) (F : Nat → Prop) (b : Nat) (s l : List Int) (r : Int) (hF : FlAt w F b s l r) (hl : s.length + l.length ≤ 1000000000) :
    Calls Try.prog 124 #[.pointer (some ⟨b, 0, none⟩)] w (SyncPost w F b s l r) := by
  obtain ⟨h1, h2, h3, h4, A1, n1, c1, A2, n2, c2, h5, h6, h7, h8⟩ := hF
  have e0 := h5.cell 0 _ rfl
  have e1 := h5.cell 1 _ rfl
  obtain ⟨hn2, hc2, hC2⟩ := Kd.R_reads' h7
  have H0 := Lib.hid (And.intro h1 (And.intro h2 (h3.append h4)))
  have H5d := Lib.hid h5.drew
  have HRd := Lib.hid (show (Kd.int .u8).R 5 w.drew 0 F (.slice A1 n1 c1) s from Kd.R_drew h6)
  have HCd := Lib.hid (show (Kd.int .u8).C w.drew A2 n2 l from Kd.C_drew (hn2.symm ▸ hC2))
  have Hln := Lib.hid (show (s.length + n2) * 1 ≤ 140737488355328 by omega)
  have Hne := Lib.hid (H5d.out.ne_row HRd.out (by decide))
  clear h1 h2 h3 h4 h5 h6 h7 h8 hC2 hn2
  go_enter Try.func124, Try.ntmps124
  go_wp2_with fail
  refine seq_start (fun w' => w'.cell? ⟨b, 0, none⟩ = some (.slice A1 n1 c1) ∧ w'.cell? ⟨b, 1, none⟩ = some (.slice A2 n2 c2)) [13, 16] [(0, 0), (1, 0), (2, 0), (3, 0), (4, 0), (5, 1), (6, 0), (7, 0), (8, 0), (9, 1), (10, 2), (11, 0), (12, 0), (13, 3), (14, 0), (15, 0), (16, 3)] (by kernel_rfl) (by kernel_rfl) ⟨e0, e1⟩ ?_
  intro hS
  (refine seq_v (some 5) (v := ?_) (a' := ?_) rfl rfl (fun _ _ _ h => h) (Or.inl ⟨by rfl, ?_⟩) ?_ ?_; rotate_left 2; (· intro w'; go_simp; with_reducible rfl); (· simp only [Act.put, List.setIfInBounds_toArray, List.set_cons_zero, List.set_cons_succ, i64_w, i32_w]; rfl))
  (refine seq_v (some 6) (v := ?_) (a' := ?_) rfl rfl (fun _ _ _ h => h) (Or.inl ⟨by rfl, ?_⟩) ?_ ?_; rotate_left 2; (· intro w'; go_simp; with_reducible rfl); (· simp only [Act.put, List.setIfInBounds_toArray, List.set_cons_zero, List.set_cons_succ, i64_w, i32_w]; rfl))
  (refine seq_v (some 7) (v := ?_) (a' := ?_) rfl rfl (fun _ _ _ h => h) (Or.inl ⟨by rfl, ?_⟩) ?_ ?_; rotate_left 2; (· intro w'; go_simp; with_reducible rfl); (· simp only [Act.put, List.setIfInBounds_toArray, List.set_cons_zero, List.set_cons_succ, i64_w, i32_w]; rfl))
  (refine seq_v (some 8) (v := ?_) (a' := ?_) rfl rfl (fun _ _ _ h => h) (Or.inl ⟨by rfl, ?_⟩) ?_ ?_; rotate_left 2; (· intro w'; go_simp; with_reducible rfl); (· simp only [Act.put, List.setIfInBounds_toArray, List.set_cons_zero, List.set_cons_succ, i64_w, i32_w]; rfl))
  (refine seq_v (some 9) (v := ?_) (a' := ?_) rfl rfl (fun _ _ _ h => h) (Or.inl ⟨by rfl, ?_⟩) ?_ ?_; rotate_left 2; (· intro w'; go_simp; with_reducible rfl); (· simp only [Act.put, List.setIfInBounds_toArray, List.set_cons_zero, List.set_cons_succ, i64_w, i32_w]; rfl))
  (refine seq_l (some 10) (v := ?_) (a' := ?_) rfl rfl (fun _ _ _ h => h) (by assumption) (Or.inl ⟨by rfl, ?_⟩) ?_ ?_; rotate_left 2; (· intro w' hS'; (try dsimp only at hS'); go_simp; with_reducible rfl); (· simp only [Act.put, List.setIfInBounds_toArray, List.set_cons_zero, List.set_cons_succ, i64_w, i32_w]; rfl))
  (refine seq_v (some 11) (v := ?_) (a' := ?_) rfl rfl (fun _ _ _ h => h) (Or.inl ⟨by rfl, ?_⟩) ?_ ?_; rotate_left 2; (· intro w'; go_simp; with_reducible rfl); (· simp only [Act.put, List.setIfInBounds_toArray, List.set_cons_zero, List.set_cons_succ, i64_w, i32_w]; rfl))
  (refine seq_v (some 12) (v := ?_) (a' := ?_) rfl rfl (fun _ _ _ h => h) (Or.inl ⟨by rfl, ?_⟩) ?_ ?_; rotate_left 2; (· intro w'; go_simp; with_reducible rfl); (· simp only [Act.put, List.setIfInBounds_toArray, List.set_cons_zero, List.set_cons_succ, i64_w, i32_w]; rfl))
  (refine seq_v (some 13) (v := ?_) (a' := ?_) rfl rfl (fun _ _ _ h => h) (Or.inl ⟨by rfl, ?_⟩) ?_ ?_; rotate_left 2; (· intro w'; go_simp; with_reducible rfl); (· simp only [Act.put, List.setIfInBounds_toArray, List.set_cons_zero, List.set_cons_succ, i64_w, i32_w]; rfl))
  (refine seq_l (some 14) (v := ?_) (a' := ?_) rfl rfl (fun _ _ _ h => h) (by assumption) (Or.inl ⟨by rfl, ?_⟩) ?_ ?_; rotate_left 2; (· intro w' hS'; (try dsimp only at hS'); go_simp; with_reducible rfl); (· simp only [Act.put, List.setIfInBounds_toArray, List.set_cons_zero, List.set_cons_succ, i64_w, i32_w]; rfl))
  (refine seq_e rfl (by rfl) (fun K hK => ?_))
  refine op_rowsG .u8 1 (W := w.drew) (F := F) 32 5 _ _ (by rfl) Try.underlying32 A_info5 (by decide) (by rfl) (by rfl) HRd.out HCd.out Hln.out ?_
  intro A3 n3 c3 w3 _ hR3 hK3 hG3 hat
  have hB3 := H5d.out.grown hG3 Hne.out
  have f0 := hB3.frozen 0
  have f1 := (hB3.set 0 (.slice A3 n3 c3)).frozen 1
  refine hK _ _ ⟨hB3.cell 0 _ rfl, hB3.cell 1 _ rfl⟩ (fun hS => ?_)
  clear hK K
  (refine seq_v (some 16) (v := ?_) (a' := ?_) rfl rfl (fun _ _ _ h => h) (Or.inl ⟨by rfl, ?_⟩) ?_ ?_; rotate_left 2; (· intro w'; go_simp; with_reducible rfl); (· simp only [Act.put, List.setIfInBounds_toArray, List.set_cons_zero, List.set_cons_succ, i64_w, i32_w]; rfl))
  (refine seq_v (some 17) (v := ?_) (a' := ?_) rfl rfl (fun _ _ _ h => h) (Or.inl ⟨by rfl, ?_⟩) ?_ ?_; rotate_left 2; (· intro w'; go_simp; with_reducible rfl); (· simp only [Act.put, List.setIfInBounds_toArray, List.set_cons_zero, List.set_cons_succ, i64_w, i32_w]; rfl))
  (refine seq_d rfl (by rfl) (fun K hK => ?_))
  go_simp
  refine hK _ _ ?_
  clear hK K
  (refine seq_v (some 18) (v := ?_) (a' := ?_) rfl rfl (fun _ _ _ h => h) (Or.inl ⟨by rfl, ?_⟩) ?_ ?_; rotate_left 2; (· intro w'; go_simp; with_reducible rfl); (· simp only [Act.put, List.setIfInBounds_toArray, List.set_cons_zero, List.set_cons_succ, i64_w, i32_w]; rfl))
  (refine seq_v (some 19) (v := ?_) (a' := ?_) rfl rfl (fun _ _ _ h => h) (Or.inl ⟨by rfl, ?_⟩) ?_ ?_; rotate_left 2; (· intro w'; go_simp; with_reducible rfl); (· simp only [Act.put, List.setIfInBounds_toArray, List.set_cons_zero, List.set_cons_succ, i64_w, i32_w]; rfl))
  (refine seq_d rfl (by rfl) (fun K hK => ?_))
  go_simp
  refine hK _ _ ?_
  clear hK K
  refine seq_nil ?_
  have hk := FlAt.store2 (w := w.drew) H0.out.1 H0.out.2.1 hB3 H0.out.2.2 hR3 hK3
  obtain ⟨hBf, hFf, hKf⟩ := hk
  have HFf := Lib.hid hFf
  have HKf := Lib.hid hKf
  have Hn3 := Lib.hid (Kd.R_reads' hR3).1
  have e5 := hBf.cell 0 _ rfl
  clear hFf hKf hBf hB3 hR3 hK3 hG3 hat f0 f1 e0 e1 hS
  go_wp2_with fail
  go_ret
  exact ⟨by rw [← Hn3.out]; rfl, HFf.out, (Kp.refl F w).drew.trans HKf.out (fun _ _ h => h)⟩
end Go.Proofs.Ytcplmaeicmmkgaa
