/- track: the table; Records, Known. -/
import Derived.Test.YtcplmaeicmmkgaaT4
namespace Go.Proofs.Ytcplmaeicmmkgaa
open Go Go.RowKit Go.Proofs.YtcplmaeicmmkgaaW.PrintWords Go.Proofs.YtcplmaeicmmkgaaW.PrintLast Go.Proofs.Ytcplmaeicmmkgaa.PTrackPlays
set_option linter.unusedVariables false
set_option linter.unusedSimpArgs false

/-- A table of type T (158: the code's, 67: the document's): a life, records, in the blocks of F. -/
def TbAt (T : TypeId) (w : World) (F : Nat → Prop) (b : Nat) (life : Int) (xs : List S83) : Prop :=
  F b ∧ Bd F w ∧ ∃ A n c, Blk w b T [.int .i64 life, .slice A n c] ∧ k83.R 83 w 0 (fun k => F k ∧ k ≠ b) (.slice A n c) xs
theorem TbAt.below {T : TypeId} {w w1 : World} {F : Nat → Prop} {b : Nat} {life : Int} {xs : List S83} (h : TbAt T w F b life xs) (hb : Below w.heap.size w w1) : TbAt T w1 F b life xs := by
  obtain ⟨h1, h2, A, n, c, h5, h6⟩ := h
  exact ⟨h1, h2.up hb.size, A, n, c, h5.below hb, Kd.R_below h6 hb⟩
theorem TbAt.kp {T : TypeId} {w w1 : World} {F G : Nat → Prop} {b : Nat} {life : Int} {xs : List S83} (h : TbAt T w F b life xs) (hk : Kp G w w1) (hd : ∀ k, F k → ¬ G k) : TbAt T w1 F b life xs := by
  obtain ⟨h1, h2, A, n, c, h5, h6⟩ := h
  exact ⟨h1, h2.up hk.size, A, n, c, h5.kp hk (hd b h1), R_kp h6 hk (fun k _ hf => hd k hf.1)⟩
theorem TbAt.mono {T : TypeId} {w : World} {F G : Nat → Prop} {b : Nat} {life : Int} {xs : List S83} (h : TbAt T w F b life xs) (hG : ∀ k, F k → G k) (hB : Bd G w) : TbAt T w G b life xs := by
  obtain ⟨h1, h2, A, n, c, h5, h6⟩ := h
  exact ⟨hG b h1, hB, A, n, c, h5, Kd.R_mono h6 (fun k hk => ⟨hG k hk.1, hk.2⟩)⟩
theorem TbAt.put {T : TypeId} {w1 : World} {F : Nat → Prop} {b : Nat} {ys : List S83} {life : Int} {u : Value} {A : Option Addr} {n c : Nat} (hF : F b) (hBd : Bd F w1) (hB : Blk w1 b T [.int .i64 life, u])
    (hR : k83.R 83 w1 0 (fun k => F k ∧ k ≠ b) (.slice A n c) ys) : TbAt T (w1.setCell ⟨b, 1, none⟩ (.slice A n c)) F b life ys := by
  refine ⟨hF, fun k hk => by have := hBd k hk; simpa [World.setCell] using this, A, n, c, hB.set 1 (.slice A n c), ?_⟩
  exact R_kp hR ((Kp.refl (fun k => k = b) w1).setCell (p := ⟨b, 1, none⟩) (fun _ => rfl) (.slice A n c)) (fun k _ hk he => hk.2 he)
/-- A row of records, all new. -/
def RetN (w : World) (xs : List S83) (e : Ending) (w' : World) : Prop := ∃ A n c, e = .returned (.slice A n c) ∧ k83.R 83 w' 0 (ext (fun _ => False) w w') (.slice A n c) xs ∧ Below w.heap.size w w'
def liveL (now : Int) (xs : List S83) : List S83 := xs.filter (liveF now)
set_option maxRecDepth 10000 in
set_option maxHeartbeats 2000000 in
theorem recs_any (w : World) (F : Nat → Prop) (b : Nat) (life : Int) (xs : List S83) (hF : TbAt 158 w F b life xs) (hl : xs.length ≤ 1000000000) (now : Int) : Calls Try.prog 34 #[pt b, .int .i64 now] w (RetN w (liveL now xs)) := by
  obtain ⟨h1, h2, A, n, c, h5, h6⟩ := hF
  have hn := (Kd.R_reads' h6).1
  have hC := (Kd.R_reads' h6).2.2
  have hBx : Below w.heap.size w (w.alloc (.cells #[.int .i64 now] 3)) := below_alloc (Below.refl _ _) _
  have hb1 := h5.below hBx
  have c1 := hb1.cell 1 _ rfl
  have HBx := Lib.hid hBx
  have HX := Lib.hid (Blk.new w 3 [.int .i64 now])
  have HC := Lib.hid (C_kp hC hBx)
  have hzx : w.heap.size < (w.alloc (.cells #[.int .i64 now] 3)).heap.size := by simp
  subst hn
  clear h1 h2 h5 h6 hC hBx hb1
  go_enter Try.func34, Try.ntmps34
  go_wp2_with fail
  generalize (w.alloc (.cells #[.int .i64 now] 3)) = w1 at HBx HX HC hzx c1 ⊢
  refine (clone_any w1 xs A _ c HC.out hl).mono ?_
  rintro e w2 ⟨A2, n2, c2, rfl, hR2, hB2⟩
  have HR2 := Lib.hid (R_new_ext hR2 (fun _ => False))
  have hn2 := (Kd.R_reads' hR2).1
  have HX2 := Lib.hid (HX.out.below hB2)
  have HB2 := Lib.hid (HBx.out.trans (hB2.mono HBx.out.size))
  have hz2 := hB2.size
  have hn2' : n2 ≤ 1000000000 := by omega
  clear hR2 hB2 c1 hn2
  go_wp2_with fail
  refine (del_any w2 _ A2 n2 c2 xs HR2.out hn2' now w.heap.size HX2.out (fun h => h.elim id (fun h => by omega)) ((Bd.no w1).ext hz2)).mono ?_
  rintro e w3 ⟨A3, n3, c3, rfl, hR3, hK3⟩
  have HR3 := Lib.hid hR3
  have HK3 := Lib.hid hK3
  clear hR3 hK3
  go_wp2_with fail
  go_ret
  refine ⟨_, _, _, rfl, Kd.R_mono HR3.out (fun k hk => hk.elim (fun h => h.elim) (fun h => .inr ⟨by omega, by have := HK3.out.size; omega⟩)), HB2.out.trans (Kp.to_below HK3.out (by omega) (fun k hk => hk.elim (fun h => h.elim) (fun h => by omega)))⟩
theorem recs_nil (w : World) (now : Int) : Calls Try.prog 34 #[.pointer none, .int .i64 now] w (RetN w []) := by
  go_enter Try.func34, Try.ntmps34
  go_wp2_with fail
  go_ret
  exact ⟨_, _, _, rfl, Kd.R_nil _ _ _ _ _, below_alloc (Below.refl _ _) _⟩
set_option maxRecDepth 10000 in
set_option maxHeartbeats 2000000 in
theorem known_of (w : World) (p : Value) (f : S70) (now : Int) (ys : List S83) (hl : ys.length ≤ 1000000000) (hr : ∀ w', Below w.heap.size w w' → Calls Try.prog 34 #[p, .int .i64 now] w' (RetN w' ys)) :
    Calls Try.prog 36 #[p, v70 f, .int .i64 now] w (fun e w' => e = .returned (.bool (decide (0 ≤ atF ys f))) ∧ Below w.heap.size w w') := by
  have hB : Below w.heap.size w (w.alloc (.cells #[.int .i64 f.f0, .int .u32 f.f1, .int .u32 f.f2, .int .i64 f.f3, .int .i64 f.f4] 70)) := below_alloc (Below.refl _ _) _
  have HX := Lib.hid (Blk.new w 70 [.int .i64 f.f0, .int .u32 f.f1, .int .u32 f.f2, .int .i64 f.f3, .int .i64 f.f4]).drew
  have HB := Lib.hid (below_drew hB)
  have HRr := Lib.hid hr
  have hat := fun w' A n c hC hn => at_any w' f ys A n c hC hn
  have HAT := Lib.hid hat
  clear hB hr hat
  unfold v70 at *
  go_enter Try.func36, Try.ntmps36
  go_wp2_with fail
  generalize (w.alloc (.cells #[.int .i64 f.f0, .int .u32 f.f1, .int .u32 f.f2, .int .i64 f.f3, .int .i64 f.f4] 70)) = w1 at HX HB ⊢
  refine seq_start (fun w' => w'.cell? ⟨w.heap.size, 0, none⟩ = some (.int .i64 f.f0) ∧ w'.cell? ⟨w.heap.size, 1, none⟩ = some (.int .u32 f.f1) ∧ w'.cell? ⟨w.heap.size, 2, none⟩ = some (.int .u32 f.f2) ∧ w'.cell? ⟨w.heap.size, 3, none⟩ = some (.int .i64 f.f3) ∧ w'.cell? ⟨w.heap.size, 4, none⟩ = some (.int .i64 f.f4)) [] [(0, 0), (1, 0), (3, 1), (2, 2), (4, 2), (5, 0), (6, 0)] (by kernel_rfl) (by kernel_rfl) ⟨HX.out.cell 0 _ rfl, HX.out.cell 1 _ rfl, HX.out.cell 2 _ rfl, HX.out.cell 3 _ rfl, HX.out.cell 4 _ rfl⟩ ?_
  intro hS
  (refine seq_v (some 7) (v := ?_) (a' := ?_) rfl rfl (fun _ _ _ h => h) (Or.inl ⟨by rfl, ?_⟩) ?_ ?_; rotate_left 2; (· intro w'; go_simp; with_reducible rfl); (· simp only [Act.put, List.setIfInBounds_toArray, List.set_cons_zero, List.set_cons_succ, i64_w, i32_w]; rfl))
  (refine seq_v (some 8) (v := ?_) (a' := ?_) rfl rfl (fun _ _ _ h => h) (Or.inl ⟨by rfl, ?_⟩) ?_ ?_; rotate_left 2; (· intro w'; go_simp; with_reducible rfl); (· simp only [Act.put, List.setIfInBounds_toArray, List.set_cons_zero, List.set_cons_succ, i64_w, i32_w]; rfl))
  (refine seq_l (some 10) (v := ?_) (a' := ?_) rfl rfl (fun _ _ _ h => h) (by assumption) (Or.inl ⟨by rfl, ?_⟩) ?_ ?_; rotate_left 2; (· intro w' hS'; (try dsimp only at hS'); go_simp; with_reducible rfl); (· simp only [Act.put, List.setIfInBounds_toArray, List.set_cons_zero, List.set_cons_succ, i64_w, i32_w]; rfl))
  (refine seq_e rfl (by rfl) (fun K hK => ?_))
  go_simp
  refine (HRr.out _ HB.out).mono ?_
  rintro e w2 ⟨A2, n2, c2, rfl, hR2, hB2⟩
  have hx2 := HX.out.below hB2
  have hn2 := (Kd.R_reads' hR2).1
  have HC2 := Lib.hid (Kd.R_reads' hR2).2.2
  have HB2 := Lib.hid (HB.out.trans (hB2.mono HB.out.size))
  refine hK _ _ ⟨hx2.cell 0 _ rfl, hx2.cell 1 _ rfl, hx2.cell 2 _ rfl, hx2.cell 3 _ rfl, hx2.cell 4 _ rfl⟩ (fun hS => ?_)
  clear hK K
  subst hn2

  (refine seq_e rfl (by rfl) (fun K hK => ?_))
  go_simp
  refine (HAT.out _ _ _ _ HC2.out hl).mono ?_
  rintro e w3 ⟨rfl, hB3⟩
  have hx3 := hx2.below hB3
  have HB3 := Lib.hid (HB2.out.trans (hB3.mono HB2.out.size))
  refine hK _ _ ⟨hx3.cell 0 _ rfl, hx3.cell 1 _ rfl, hx3.cell 2 _ rfl, hx3.cell 3 _ rfl, hx3.cell 4 _ rfl⟩ (fun hS => ?_)
  clear hK K
  (refine seq_v (some 12) (v := ?_) (a' := ?_) rfl rfl (fun _ _ _ h => h) (Or.inl ⟨by rfl, ?_⟩) ?_ ?_; rotate_left 2; (· intro w'; go_simp; with_reducible rfl); (· simp only [Act.put, List.setIfInBounds_toArray, List.set_cons_zero, List.set_cons_succ, i64_w, i32_w]; rfl))
  (refine seq_v (some 6) (v := ?_) (a' := ?_) rfl rfl (fun _ _ _ h => h) (Or.inl ⟨by rfl, ?_⟩) ?_ ?_; rotate_left 2; (· intro w'; go_simp; with_reducible rfl); (· simp only [Act.put, List.setIfInBounds_toArray, List.set_cons_zero, List.set_cons_succ, i64_w, i32_w]; rfl))
  refine seq_nil ?_
  clear hS hx2 hx3 hB2 hB3 hR2
  go_wp2_with fail
  go_ret
  exact ⟨rfl, HB3.out⟩
theorem known_any (w : World) (F : Nat → Prop) (b : Nat) (life : Int) (xs : List S83) (hF : TbAt 158 w F b life xs) (hl : xs.length ≤ 1000000000) (f : S70) (now : Int) :
    Calls Try.prog 36 #[pt b, v70 f, .int .i64 now] w (fun e w' => e = .returned (.bool (decide (0 ≤ atF (liveL now xs) f))) ∧ Below w.heap.size w w') :=
  known_of w _ f now _ (Nat.le_trans (List.length_filter_le _ _) hl) (fun w' hB => recs_any w' F b life xs (hF.below hB) hl now)
theorem known_nil (w : World) (f : S70) (now : Int) : Calls Try.prog 36 #[.pointer none, v70 f, .int .i64 now] w (fun e w' => e = .returned (.bool false) ∧ Below w.heap.size w w') :=
  known_of w _ f now [] (Nat.zero_le _) (fun w' _ => recs_nil w' now)
end Go.Proofs.Ytcplmaeicmmkgaa
