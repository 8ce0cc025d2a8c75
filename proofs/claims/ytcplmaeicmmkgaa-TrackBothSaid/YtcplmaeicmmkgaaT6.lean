/- track: put. -/
import Derived.Test.YtcplmaeicmmkgaaT5
namespace Go.Proofs.Ytcplmaeicmmkgaa
open Go Go.RowKit Go.Proofs.YtcplmaeicmmkgaaW.PrintWords Go.Proofs.YtcplmaeicmmkgaaW.PrintLast Go.Proofs.YtcplmaeicmmkgaaW.PrintMore Go.Proofs.Ytcplmaeicmmkgaa.PTrackPlays
attribute [local go_sem] max2_int min2_int max_two min_two
set_option linter.unusedVariables false
set_option linter.unusedSimpArgs false

theorem R_until {G : Nat → Prop} {W : World} {g n cap : Nat} {M : List S83} (h : k83.R 83 W 0 G (.slice (some ⟨g, 0, none⟩) n cap) M) (i : Nat) (hi : i < n) (u : Int) :
    k83.R 83 (W.setCell ⟨g, i * 6 + 5, none⟩ (.int .i64 u)) 0 G (.slice (some ⟨g, 0, none⟩) n cap) (M.set i ⟨(rd_T83 M i).f0, u⟩) := by
  have hn := (Kd.R_reads' h).1
  have hC := (Kd.R_reads' h).2.2
  obtain ⟨ad, c, e, hcl, hK, hc⟩ := Kd.C_get hC z83 (i : Int) (by omega) (by omega)
  injection e with e
  subst e
  have hc' := k83_open hK
  have := (Kd.R_seg (seg := [.int .i64 u]) (j := 5) (x' := ⟨(rd_T83 M i).f0, u⟩) (okp := fun _ => False) h (i : Int) (by omega) (by omega) (c := c) (by rw [hc']; rfl) (fun j v hj => by have := hc j v hj; rwa [add0] at this) (by show 5 + 1 ≤ 6; omega) (by rw [hc']; exact k83_mkM _ _ _ (⟨(rd_T83 M i).f0, u⟩ : S83)) (fun _ hk => hk.elim)).1
  rw [Int.toNat_natCast] at this
  exact this
/-- What put makes of the records. -/
def putF (xs : List S83) (x : S83) : List S83 × Bool :=
  if 0 ≤ atF xs x.f0 then (xs.set (atF xs x.f0).toNat ⟨(rd_T83 xs (atF xs x.f0)).f0, mx (rd_T83 xs (atF xs x.f0)).f1 x.f1⟩, true)
  else if 16 ≤ xs.length then (xs, false) else (xs ++ [x], true)
def PutPost (T : TypeId) (w : World) (F : Nat → Prop) (b : Nat) (life : Int) (s : List S83 × Bool) (e : Ending) (w' : World) : Prop := e = .returned (.bool s.2) ∧ TbAt T w' (ext F w w') b life s.1 ∧ Kp F w w'
theorem atF_cases (xs : List S83) (f : S70) : (∃ i : Nat, atF xs f = i ∧ i < xs.length) ∨ atF xs f = -1 := by
  unfold atF idxP
  split
  · rename_i h; exact .inl ⟨_, rfl, h⟩
  · exact .inr rfl
def c83 (x : S83) : List Value := [.int .i64 x.f0.f0, .int .u32 x.f0.f1, .int .u32 x.f0.f2, .int .i64 x.f0.f3, .int .i64 x.f0.f4, .int .i64 x.f1]
set_option maxRecDepth 10000 in
set_option maxHeartbeats 4000000 in
theorem put_any (w : World) (F : Nat → Prop) (b : Nat) (life : Int) (xs : List S83) (hF : TbAt 158 w F b life xs) (hl : xs.length ≤ 1000000000) (x : S83) :
    Calls Try.prog 90 #[pt b, v83 x] w (PutPost 158 w F b life (putF xs x)) := by
  have HF := Lib.hid hF
  obtain ⟨h1, h2, A, n, c, h5, h6⟩ := hF
  have hn := (Kd.R_reads' h6).1
  subst hn
  have hBx : Below w.heap.size w (w.alloc (.cells #[.int .i64 x.f0.f0, .int .u32 x.f0.f1, .int .u32 x.f0.f2, .int .i64 x.f0.f3, .int .i64 x.f0.f4, .int .i64 x.f1] 83)) := below_alloc (Below.refl _ _) _
  have HX := Lib.hid (show Blk (w.alloc (.cells #[.int .i64 x.f0.f0, .int .u32 x.f0.f1, .int .u32 x.f0.f2, .int .i64 x.f0.f3, .int .i64 x.f0.f4, .int .i64 x.f1] 83)).drew w.heap.size 83 (c83 x) from Blk.new w 83 (c83 x))
  have HT := Lib.hid (h5.below (below_drew hBx))
  have HR := Lib.hid (Kd.R_below h6 (below_drew hBx))
  have HBx := Lib.hid (below_drew hBx)
  have H1 := Lib.hid h1
  have H2 := Lib.hid h2
  have hzx : w.heap.size < (w.alloc (.cells #[.int .i64 x.f0.f0, .int .u32 x.f0.f1, .int .u32 x.f0.f2, .int .i64 x.f0.f3, .int .i64 x.f0.f4, .int .i64 x.f1] 83)).drew.heap.size := by simp
  have hat := fun w' A n c hC hn => at_any w' x.f0 xs A n c hC hn
  have HAT := Lib.hid hat
  clear h1 h2 h5 h6 hBx hat
  unfold v70 at *
  go_enter Try.func90, Try.ntmps90
  go_wp2_with fail
  generalize (w.alloc (.cells #[.int .i64 x.f0.f0, .int .u32 x.f0.f1, .int .u32 x.f0.f2, .int .i64 x.f0.f3, .int .i64 x.f0.f4, .int .i64 x.f1] 83)) = w1 at HX HT HR HBx hzx ⊢
  refine seq_start (fun w' => w'.cell? ⟨b, 1, none⟩ = some (.slice A xs.length c) ∧ w'.cell? ⟨w.heap.size, 0, none⟩ = some (.int .i64 x.f0.f0) ∧ w'.cell? ⟨w.heap.size, 1, none⟩ = some (.int .u32 x.f0.f1) ∧ w'.cell? ⟨w.heap.size, 2, none⟩ = some (.int .u32 x.f0.f2) ∧ w'.cell? ⟨w.heap.size, 3, none⟩ = some (.int .i64 x.f0.f3) ∧ w'.cell? ⟨w.heap.size, 4, none⟩ = some (.int .i64 x.f0.f4)) [] [(0, 0), (1, 0), (2, 0), (3, 1), (4, 0), (5, 1), (6, 2), (7, 0)] (by kernel_rfl) (by kernel_rfl) ⟨HT.out.cell 1 _ rfl, HX.out.cell 0 _ rfl, HX.out.cell 1 _ rfl, HX.out.cell 2 _ rfl, HX.out.cell 3 _ rfl, HX.out.cell 4 _ rfl⟩ ?_
  intro hS
  (refine seq_v (some 6) (v := ?_) (a' := ?_) rfl rfl (fun _ _ _ h => h) (Or.inl ⟨by rfl, ?_⟩) ?_ ?_; rotate_left 2; (· intro w'; go_simp; with_reducible rfl); (· simp only [Act.put, List.setIfInBounds_toArray, List.set_cons_zero, List.set_cons_succ, i64_w, i32_w]; rfl))
  (refine seq_v (some 7) (v := ?_) (a' := ?_) rfl rfl (fun _ _ _ h => h) (Or.inl ⟨by rfl, ?_⟩) ?_ ?_; rotate_left 2; (· intro w'; go_simp; with_reducible rfl); (· simp only [Act.put, List.setIfInBounds_toArray, List.set_cons_zero, List.set_cons_succ, i64_w, i32_w]; rfl))
  (refine seq_v (some 8) (v := ?_) (a' := ?_) rfl rfl (fun _ _ _ h => h) (Or.inl ⟨by rfl, ?_⟩) ?_ ?_; rotate_left 2; (· intro w'; go_simp; with_reducible rfl); (· simp only [Act.put, List.setIfInBounds_toArray, List.set_cons_zero, List.set_cons_succ, i64_w, i32_w]; rfl))
  (refine seq_l (some 9) (v := ?_) (a' := ?_) rfl rfl (fun _ _ _ h => h) (by assumption) (Or.inl ⟨by rfl, ?_⟩) ?_ ?_; rotate_left 2; (· intro w' hS'; (try dsimp only at hS'); go_simp; with_reducible rfl); (· simp only [Act.put, List.setIfInBounds_toArray, List.set_cons_zero, List.set_cons_succ, i64_w, i32_w]; rfl))
  (refine seq_v (some 10) (v := ?_) (a' := ?_) rfl rfl (fun _ _ _ h => h) (Or.inl ⟨by rfl, ?_⟩) ?_ ?_; rotate_left 2; (· intro w'; go_simp; with_reducible rfl); (· simp only [Act.put, List.setIfInBounds_toArray, List.set_cons_zero, List.set_cons_succ, i64_w, i32_w]; rfl))
  (refine seq_l (some 11) (v := ?_) (a' := ?_) rfl rfl (fun _ _ _ h => h) (by assumption) (Or.inl ⟨by rfl, ?_⟩) ?_ ?_; rotate_left 2; (· intro w' hS'; (try dsimp only at hS'); go_simp; with_reducible rfl); (· simp only [Act.put, List.setIfInBounds_toArray, List.set_cons_zero, List.set_cons_succ, i64_w, i32_w]; rfl))
  (refine seq_e rfl (by rfl) (fun K hK => ?_))
  go_simp
  refine (HAT.out _ _ _ _ (Kd.R_reads' HR.out).2.2 hl).mono ?_
  rintro e w2 ⟨rfl, hB2⟩
  have hT2 := HT.out.below hB2
  have hX2 := HX.out.below hB2
  refine hK _ _ ⟨hT2.cell 1 _ rfl, hX2.cell 0 _ rfl, hX2.cell 1 _ rfl, hX2.cell 2 _ rfl, hX2.cell 3 _ rfl, hX2.cell 4 _ rfl⟩ (fun hS => ?_)
  clear hK K
  have HT2 := Lib.hid hT2
  have HX2 := Lib.hid hX2
  have HR2 := Lib.hid (Kd.R_below HR.out hB2)
  have HB2 := Lib.hid (HBx.out.trans (hB2.mono HBx.out.size))
  have hz2 : w.heap.size < w2.heap.size := Nat.lt_of_lt_of_le hzx hB2.size
  clear hT2 hX2 hB2 HT HX HR HAT hzx HBx
  (refine seq_v (some 5) (v := ?_) (a' := ?_) rfl rfl (fun _ _ _ h => h) (Or.inl ⟨by rfl, ?_⟩) ?_ ?_; rotate_left 2; (· intro w'; go_simp; with_reducible rfl); (· simp only [Act.put, List.setIfInBounds_toArray, List.set_cons_zero, List.set_cons_succ, i64_w, i32_w]; rfl))
  refine seq_nil ?_
  clear hS
  rcases atF_cases xs x.f0 with ⟨i, hi, hix⟩ | hi
  · have hi0 : (0 : Int) ≤ (i : Int) := by omega
    have hpf : putF xs x = (xs.set i ⟨(rd_T83 xs i).f0, mx (rd_T83 xs i).f1 x.f1⟩, true) := by
      unfold putF
      rw [hi, if_pos hi0, Int.toNat_natCast]
    have HPF := Lib.hid hpf
    rw [hi]
    clear hi hpf
    go_wp2_with fail
    obtain ⟨g, rfl⟩ : ∃ g, A = some ⟨g, 0, none⟩ := by
      obtain ⟨inner, ho⟩ := Kd.R_own HR2.out
      rcases ho.2 with ⟨hv, h0⟩ | ⟨g', cap, cur, hv, hg, hh, r⟩
      · injection hv with _ h1; omega
      · injection hv with h1; exact ⟨g', h1⟩
    have HGg := Lib.hid (HR2.out.1 g rfl)
    have hfr := (cells83 (Kd.R_lower HR2.out (Nat.le_refl _))).2
    have hRu := R_until (W := w2.drew) HR2.out i hix (mx (rd_T83 xs (i : Int)).f1 x.f1)
    obtain ⟨ad, hA, e0, e1, e2, e3, e4, e5⟩ := at_T83 (Kd.R_reads' HR2.out).2.2 (i : Int) hi0 (by omega)
    injection hA with hA
    have HRu := Lib.hid hRu
    have hfr5 := hfr (i * 6 + 5)
    have hadd : (⟨(ad.add (i * 6)).block, (ad.add (i * 6)).off + 5, none⟩ : Addr) = ⟨g, i * 6 + 5, none⟩ := by rw [← hA, add0]
    rw [← hadd] at hfr5
    have HADD := Lib.hid hadd
    have HAD := Lib.hid hA
    rw [hA] at HR2 HT2 ⊢
    rw [Int.toNat_natCast] at e5
    generalize (rd_T83 xs (i : Int)) = y at e5 HRu HPF
    have e5' : w2.drew.cell? ⟨(ad.add (i * 6)).block, (ad.add (i * 6)).off + 5, none⟩ = some (.int .i64 y.f1) := e5
    have hf5 : w2.drew.frozen? ⟨(ad.add (i * 6)).block, (ad.add (i * 6)).off + 5, none⟩ = false := hfr5
    clear e0 e1 e2 e3 e4 e5 hRu hfr hfr5 hadd hA
    refine seq_start (fun w' => w'.cell? ⟨b, 1, none⟩ = some (.slice (some ad) xs.length c) ∧ w'.cell? ⟨(ad.add (i * 6)).block, (ad.add (i * 6)).off + 5, none⟩ = some (.int .i64 y.f1) ∧ w'.cell? ⟨w.heap.size, 5, none⟩ = some (.int .i64 x.f1)) [18] [(0, 0), (1, 0), (2, 0), (3, 1), (4, 0), (5, 0), (6, 0), (7, 0), (8, 1), (9, 0), (10, 0), (11, 0), (12, 1), (13, 0), (14, 1), (15, 0), (16, 0), (17, 0), (18, 3)] (by kernel_rfl) (by kernel_rfl) ⟨HT2.out.drew.cell 1 _ rfl, e5', HX2.out.drew.cell 5 _ rfl⟩ ?_
    intro hS
    (refine seq_v (some 15) (v := ?_) (a' := ?_) rfl rfl (fun _ _ _ h => h) (Or.inl ⟨by rfl, ?_⟩) ?_ ?_; rotate_left 2; (· intro w'; go_simp; with_reducible rfl); (· simp only [Act.put, List.setIfInBounds_toArray, List.set_cons_zero, List.set_cons_succ, i64_w, i32_w]; rfl))
    (refine seq_v (some 16) (v := ?_) (a' := ?_) rfl rfl (fun _ _ _ h => h) (Or.inl ⟨by rfl, ?_⟩) ?_ ?_; rotate_left 2; (· intro w'; go_simp; with_reducible rfl); (· simp only [Act.put, List.setIfInBounds_toArray, List.set_cons_zero, List.set_cons_succ, i64_w, i32_w]; rfl))
    (refine seq_v (some 17) (v := ?_) (a' := ?_) rfl rfl (fun _ _ _ h => h) (Or.inl ⟨by rfl, ?_⟩) ?_ ?_; rotate_left 2; (· intro w'; go_simp; with_reducible rfl); (· simp only [Act.put, List.setIfInBounds_toArray, List.set_cons_zero, List.set_cons_succ, i64_w, i32_w]; rfl))
    (refine seq_l (some 18) (v := ?_) (a' := ?_) rfl rfl (fun _ _ _ h => h) (by assumption) (Or.inl ⟨by rfl, ?_⟩) ?_ ?_; rotate_left 2; (· intro w' hS'; (try dsimp only at hS'); go_simp; with_reducible rfl); (· simp only [Act.put, List.setIfInBounds_toArray, List.set_cons_zero, List.set_cons_succ, i64_w, i32_w]; rfl))
    (refine seq_v (some 19) (v := ?_) (a' := ?_) rfl rfl (fun _ _ _ h => h) (Or.inl ⟨by rfl, ?_⟩) ?_ ?_; rotate_left 2; (· intro w'; go_simp; with_reducible rfl); (· simp only [Act.put, List.setIfInBounds_toArray, List.set_cons_zero, List.set_cons_succ, i64_w, i32_w]; rfl))
    (refine seq_v (some 20) (v := ?_) (a' := ?_) rfl rfl (fun _ _ _ h => h) (Or.inl ⟨by rfl, ?_⟩) ?_ ?_; rotate_left 2; (· intro w'; go_simp; with_reducible rfl); (· simp only [Act.put, List.setIfInBounds_toArray, List.set_cons_zero, List.set_cons_succ, i64_w, i32_w]; rfl))
    (refine seq_v (some 21) (v := ?_) (a' := ?_) rfl rfl (fun _ _ _ h => h) (Or.inl ⟨by rfl, ?_⟩) ?_ ?_; rotate_left 2; (· intro w'; go_simp; with_reducible rfl); (· simp only [Act.put, List.setIfInBounds_toArray, List.set_cons_zero, List.set_cons_succ, i64_w, i32_w]; rfl))
    (refine seq_v (some 22) (v := ?_) (a' := ?_) rfl rfl (fun _ _ _ h => h) (Or.inl ⟨by rfl, ?_⟩) ?_ ?_; rotate_left 2; (· intro w'; go_simp; with_reducible rfl); (· simp only [Act.put, List.setIfInBounds_toArray, List.set_cons_zero, List.set_cons_succ, i64_w, i32_w]; rfl))
    (refine seq_l (some 23) (v := ?_) (a' := ?_) rfl rfl (fun _ _ _ h => h) (by assumption) (Or.inl ⟨by rfl, ?_⟩) ?_ ?_; rotate_left 2; (· intro w' hS'; (try dsimp only at hS'); go_simp; with_reducible rfl); (· simp only [Act.put, List.setIfInBounds_toArray, List.set_cons_zero, List.set_cons_succ, i64_w, i32_w]; rfl))
    (refine seq_v (some 24) (v := ?_) (a' := ?_) rfl rfl (fun _ _ _ h => h) (Or.inl ⟨by rfl, ?_⟩) ?_ ?_; rotate_left 2; (· intro w'; go_simp; with_reducible rfl); (· simp only [Act.put, List.setIfInBounds_toArray, List.set_cons_zero, List.set_cons_succ, i64_w, i32_w]; rfl))
    (refine seq_v (some 25) (v := ?_) (a' := ?_) rfl rfl (fun _ _ _ h => h) (Or.inl ⟨by rfl, ?_⟩) ?_ ?_; rotate_left 2; (· intro w'; go_simp; with_reducible rfl); (· simp only [Act.put, List.setIfInBounds_toArray, List.set_cons_zero, List.set_cons_succ, i64_w, i32_w]; rfl))
    (refine seq_v (some 26) (v := ?_) (a' := ?_) rfl rfl (fun _ _ _ h => h) (Or.inl ⟨by rfl, ?_⟩) ?_ ?_; rotate_left 2; (· intro w'; go_simp; with_reducible rfl); (· simp only [Act.put, List.setIfInBounds_toArray, List.set_cons_zero, List.set_cons_succ, i64_w, i32_w]; rfl))
    (refine seq_l (some 27) (v := ?_) (a' := ?_) rfl rfl (fun _ _ _ h => h) (by assumption) (Or.inl ⟨by rfl, ?_⟩) ?_ ?_; rotate_left 2; (· intro w' hS'; (try dsimp only at hS'); go_simp; with_reducible rfl); (· simp only [Act.put, List.setIfInBounds_toArray, List.set_cons_zero, List.set_cons_succ, i64_w, i32_w]; rfl))
    (refine seq_v (some 28) (v := ?_) (a' := ?_) rfl rfl (fun _ _ _ h => h) (Or.inl ⟨by rfl, ?_⟩) ?_ ?_; rotate_left 2; (· intro w'; go_simp; with_reducible rfl); (· simp only [Act.put, List.setIfInBounds_toArray, List.set_cons_zero, List.set_cons_succ, i64_w, i32_w]; rfl))
    (refine seq_l (some 29) (v := ?_) (a' := ?_) rfl rfl (fun _ _ _ h => h) (by assumption) (Or.inl ⟨by rfl, ?_⟩) ?_ ?_; rotate_left 2; (· intro w' hS'; (try dsimp only at hS'); go_simp; with_reducible rfl); (· simp only [Act.put, List.setIfInBounds_toArray, List.set_cons_zero, List.set_cons_succ, i64_w, i32_w]; rfl))
    (refine seq_v (some 30) (v := ?_) (a' := ?_) rfl rfl (fun _ _ _ h => h) (Or.inl ⟨by rfl, ?_⟩) ?_ ?_; rotate_left 2; (· intro w'; go_simp; with_reducible rfl); (· simp only [Act.put, List.setIfInBounds_toArray, List.set_cons_zero, List.set_cons_succ, i64_w, i32_w]; rfl))
    (refine seq_v (some 31) (v := ?_) (a' := ?_) rfl rfl (fun _ _ _ h => h) (Or.inl ⟨by rfl, ?_⟩) ?_ ?_; rotate_left 2; (· intro w'; go_simp; with_reducible rfl); (· simp only [Act.put, List.setIfInBounds_toArray, List.set_cons_zero, List.set_cons_succ, i64_w, i32_w]; rfl))
    (refine seq_v (some 32) (v := ?_) (a' := ?_) rfl rfl (fun _ _ _ h => h) (Or.inl ⟨by rfl, ?_⟩) ?_ ?_; rotate_left 2; (· intro w'; go_simp; with_reducible rfl); (· simp only [Act.put, List.setIfInBounds_toArray, List.set_cons_zero, List.set_cons_succ, i64_w, i32_w]; rfl))
    (refine seq_d rfl (by rfl) (fun K hK => ?_))
    go_simp
    refine hK _ _ ?_
    clear hK K hS
    refine seq_nil ?_
    clear e5' hf5
    rw [show (if y.f1 < x.f1 then x.f1 else y.f1) = mx y.f1 x.f1 from rfl]
    generalize mx y.f1 x.f1 = v at HRu HPF ⊢
    go_wp2_with fail
    go_ret
    have hK2 : Kp F w w2.drew := (Kp.of_below HB2.out F).drew
    have hKf : Kp F w (w2.drew.setCell ⟨(ad.add (i * 6)).block, (ad.add (i * 6)).off + 5, none⟩ (.int .i64 v)) := by rw [HADD.out]; exact hK2.setCell (p := ⟨g, i * 6 + 5, none⟩) (fun _ => HGg.out.1) _
    refine ⟨by rw [HPF.out]; rfl, ?_, hKf⟩
    rw [HPF.out]
    have hTf : Blk (w2.drew.setCell ⟨(ad.add (i * 6)).block, (ad.add (i * 6)).off + 5, none⟩ (.int .i64 v)) b 158 [.int .i64 life, .slice (some ad) xs.length c] := by rw [HADD.out]; exact HT2.out.drew.far (fun h => HGg.out.2 h.symm) _
    have hRf := HRu.out
    rw [← HADD.out] at hRf
    have had : (⟨g, 0, none⟩ : Addr) = ad := HAD.out
    rw [had] at hRf
    exact TbAt.mono ⟨H1.out, H2.out.up hKf.size, some ad, xs.length, c, hTf, hRf⟩ (fun k hk => .inl hk) (H2.out.ext hKf.size)
  · have hpf : putF xs x = if 16 ≤ xs.length then (xs, false) else (xs ++ [x], true) := by
      unfold putF
      rw [hi, if_neg (by omega)]
    have HPF := Lib.hid hpf
    rw [hi]
    clear hi hpf
    have c1 := HT2.out.cell 1 _ rfl
    by_cases h16 : 16 ≤ xs.length
    · have d16 : decide ((16 : Int) ≤ (xs.length : Int)) = true := decide_eq_true (by omega)
      have HPF2 := Lib.hid (HPF.out.trans (if_pos h16))
      clear h16
      go_wp2_with fail
      go_ret
      have hKf : Kp F w w2 := (Kp.of_below HB2.out F)
      exact ⟨by rw [HPF2.out]; rfl, by rw [HPF2.out]; exact TbAt.mono (HF.out.below HB2.out) (fun k hk => .inl hk) (H2.out.ext hKf.size), hKf⟩
    · have d16 : decide ((16 : Int) ≤ (xs.length : Int)) = false := decide_eq_false (by omega)
      have HPF2 := Lib.hid (HPF.out.trans (if_neg h16))
      clear h16
      go_wp2_with fail
      have hx := HX2.out.drew
      refine seq_start (fun w' => w'.cell? ⟨b, 1, none⟩ = some (.slice A xs.length c) ∧ w'.cell? ⟨w.heap.size, 0, none⟩ = some (.int .i64 x.f0.f0) ∧ w'.cell? ⟨w.heap.size, 1, none⟩ = some (.int .u32 x.f0.f1) ∧ w'.cell? ⟨w.heap.size, 2, none⟩ = some (.int .u32 x.f0.f2) ∧ w'.cell? ⟨w.heap.size, 3, none⟩ = some (.int .i64 x.f0.f3) ∧ w'.cell? ⟨w.heap.size, 4, none⟩ = some (.int .i64 x.f0.f4) ∧ w'.cell? ⟨w.heap.size, 5, none⟩ = some (.int .i64 x.f1)) [10] [(0, 0), (1, 0), (2, 0), (3, 0), (4, 1), (5, 1), (6, 2), (7, 2), (8, 0), (9, 0), (10, 3)] (by kernel_rfl) (by kernel_rfl) ⟨HT2.out.drew.cell 1 _ rfl, hx.cell 0 _ rfl, hx.cell 1 _ rfl, hx.cell 2 _ rfl, hx.cell 3 _ rfl, hx.cell 4 _ rfl, hx.cell 5 _ rfl⟩ ?_
      intro hS
      (refine seq_v (some 39) (v := ?_) (a' := ?_) rfl rfl (fun _ _ _ h => h) (Or.inl ⟨by rfl, ?_⟩) ?_ ?_; rotate_left 2; (· intro w'; go_simp; with_reducible rfl); (· simp only [Act.put, List.setIfInBounds_toArray, List.set_cons_zero, List.set_cons_succ, i64_w, i32_w]; rfl))
      (refine seq_v (some 40) (v := ?_) (a' := ?_) rfl rfl (fun _ _ _ h => h) (Or.inl ⟨by rfl, ?_⟩) ?_ ?_; rotate_left 2; (· intro w'; go_simp; with_reducible rfl); (· simp only [Act.put, List.setIfInBounds_toArray, List.set_cons_zero, List.set_cons_succ, i64_w, i32_w]; rfl))
      (refine seq_v (some 41) (v := ?_) (a' := ?_) rfl rfl (fun _ _ _ h => h) (Or.inl ⟨by rfl, ?_⟩) ?_ ?_; rotate_left 2; (· intro w'; go_simp; with_reducible rfl); (· simp only [Act.put, List.setIfInBounds_toArray, List.set_cons_zero, List.set_cons_succ, i64_w, i32_w]; rfl))
      (refine seq_v (some 42) (v := ?_) (a' := ?_) rfl rfl (fun _ _ _ h => h) (Or.inl ⟨by rfl, ?_⟩) ?_ ?_; rotate_left 2; (· intro w'; go_simp; with_reducible rfl); (· simp only [Act.put, List.setIfInBounds_toArray, List.set_cons_zero, List.set_cons_succ, i64_w, i32_w]; rfl))
      (refine seq_l (some 43) (v := ?_) (a' := ?_) rfl rfl (fun _ _ _ h => h) (by assumption) (Or.inl ⟨by rfl, ?_⟩) ?_ ?_; rotate_left 2; (· intro w' hS'; (try dsimp only at hS'); go_simp; with_reducible rfl); (· simp only [Act.put, List.setIfInBounds_toArray, List.set_cons_zero, List.set_cons_succ, i64_w, i32_w]; rfl))
      (refine seq_l (some 44) (v := ?_) (a' := ?_) rfl rfl (fun _ _ _ h => h) (by assumption) (Or.inl ⟨by rfl, ?_⟩) ?_ ?_; rotate_left 2; (· intro w' hS'; (try dsimp only at hS'); go_simp; with_reducible rfl); (· simp only [Act.put, List.setIfInBounds_toArray, List.set_cons_zero, List.set_cons_succ, i64_w, i32_w]; rfl))
      (refine seq_e rfl (by rfl) (fun K hK => ?_))
      go_simp
      have ht5 := HT2.out.drew.alloc (.cells (c83 x).toArray 83)
      have hx5 := HX2.out.drew.alloc (.cells (c83 x).toArray 83)
      refine hK _ _ ⟨ht5.cell 1 _ rfl, hx5.cell 0 _ rfl, hx5.cell 1 _ rfl, hx5.cell 2 _ rfl, hx5.cell 3 _ rfl, hx5.cell 4 _ rfl, hx5.cell 5 _ rfl⟩ (fun hS => ?_)
      clear hK K ht5 hx5 hx

      (refine seq_e rfl (by rfl) (fun K hK => ?_))
      have hFlt := H2.out
      have hpM := k83_mkM w2.drew 0 (fun _ => False) x
      refine op_appG (some 46) (by rfl) (by rfl) k83 (W := w2.drew) (G := fun k => F k ∧ k ≠ b) _ _ 65 83 _ 40 (by rfl) Try.underlying65 info83 (by rfl) (by decide) (by decide) (by rfl) (by rfl) hpM (fun k hk => hk.elim) (show k83.R 83 w2.drew 0 _ _ xs from HR2.out) (by omega) ?_
      intro A3 n3 c3 w4 hn3 hR5 hK5 hG5
      have ht6 := HT2.out.drew.kp hK5 (by simp)
      have hx6 := HX2.out.drew.kp hK5 (fun h => by have := hFlt _ h.1; omega)
      refine hK _ _ ⟨ht6.cell 1 _ rfl, hx6.cell 0 _ rfl, hx6.cell 1 _ rfl, hx6.cell 2 _ rfl, hx6.cell 3 _ rfl, hx6.cell 4 _ rfl, hx6.cell 5 _ rfl⟩ (fun hS => ?_)
      clear hK K
      have f6 := ht6.frozen 1
      have c6 := ht6.cell 1 _ rfl
      have HT6 := Lib.hid ht6
      have HR5 := Lib.hid hR5
      have HK5 := Lib.hid hK5
      have HFlt := Lib.hid hFlt
      clear ht6 hx6 hR5 hK5 hG5 hn3 hpM hFlt c1
      (refine seq_v (some 47) (v := ?_) (a' := ?_) rfl rfl (fun _ _ _ h => h) (Or.inl ⟨by rfl, ?_⟩) ?_ ?_; rotate_left 2; (· intro w'; go_simp; with_reducible rfl); (· simp only [Act.put, List.setIfInBounds_toArray, List.set_cons_zero, List.set_cons_succ, i64_w, i32_w]; rfl))
      (refine seq_v (some 48) (v := ?_) (a' := ?_) rfl rfl (fun _ _ _ h => h) (Or.inl ⟨by rfl, ?_⟩) ?_ ?_; rotate_left 2; (· intro w'; go_simp; with_reducible rfl); (· simp only [Act.put, List.setIfInBounds_toArray, List.set_cons_zero, List.set_cons_succ, i64_w, i32_w]; rfl))
      (refine seq_d rfl (by rfl) (fun K hK => ?_))
      go_simp
      refine hK _ _ ?_
      clear hK K hS
      refine seq_nil ?_
      clear f6 c6
      go_wp2_with fail
      go_ret
      have hKw : Kp F w w4 := ((Kp.of_below HB2.out F).drew).trans HK5.out (fun k _ hk => hk.1)
      have hsz := HB2.out.size
      have hsz3 := HK5.out.size
      have hbl := HFlt.out b H1.out
      have hN := TbAt.put (F := ext F w w4) (.inl H1.out) (HFlt.out.ext hKw.size) HT6.out (Kd.R_mono HR5.out (fun k hk => by
        rcases hk with (hk | hk) | hk
        · exact ⟨.inl hk.1, hk.2⟩
        · exact hk.elim
        · have h1 : w2.heap.size ≤ k := hk.1
          exact ⟨.inr ⟨by omega, hk.2⟩, by omega⟩))
      have hKf := hKw.setCell (p := ⟨b, 1, none⟩) (fun _ => H1.out) (.slice A3 n3 c3)
      exact ⟨by rw [HPF2.out]; rfl, by rw [HPF2.out]; exact hN.mono (G := ext F w (w4.setCell ⟨b, 1, none⟩ (.slice A3 n3 c3))) (fun k hk => hk.imp id (fun h => ⟨h.1, by simpa [World.setCell] using h.2⟩)) (HFlt.out.ext hKf.size), hKf⟩
end Go.Proofs.Ytcplmaeicmmkgaa
