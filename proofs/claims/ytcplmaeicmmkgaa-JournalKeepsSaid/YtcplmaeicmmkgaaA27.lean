/- The reference's file: Add; the reference's journal. -/
import Derived.Test.YtcplmaeicmmkgaaA26
namespace Go.Proofs.Ytcplmaeicmmkgaa
open Go Go.RowKit Go.Proofs.YtcplmaeicmmkgaaW.PrintWords Go.Proofs.YtcplmaeicmmkgaaW.PrintLast
set_option linter.unusedVariables false
set_option linter.unusedSimpArgs false

def AddRPost (w : World) (F : Nat → Prop) (b : Nat) (B bs : List Int) (sf : Nat) (r : Int) (e : Ending) (w' : World) : Prop :=
  e = .returned (.int .i64 (if r < B.length + bs.length then 3 else 0)) ∧ RfAt w' (ext F w w') b (if r < B.length + bs.length then B else B ++ bs) sf r ∧ Kp F w w'

set_option maxHeartbeats 1000000 in
theorem rfadd_any (w : World) (F : Nat → Prop) (b : Nat) (B bs : List Int) (sf : Nat) (r : Int) (A : Option Addr) (m c : Nat) (hF : RfAt w F b B sf r) (hC : (Kd.int .u8).C w A m bs) (hBR : BR bs) (hl : B.length + bs.length ≤ 1000000000) :
    Calls Try.prog 126 #[.pointer (some ⟨b, 0, none⟩), .slice A m c] w (AddRPost w F b B bs sf r) := by
  have HF := Lib.hid hF
  obtain ⟨h1, h2, h3, A1, n, c1, h4, h5⟩ := hF
  have e0 := h4.cell 0 _ rfl
  have e2 := h4.cell 2 _ rfl
  obtain ⟨hn, hc1, hC1⟩ := Kd.R_reads' h5
  have hm := hC.1
  have H4 := Lib.hid h4
  have HC := Lib.hid hC
  have HC1 := Lib.hid (hn ▸ hC1 : (Kd.int .u8).C w A1 n B)
  have Hn := Lib.hid (show B.length = n ∧ bs.length = m from ⟨hn.symm, hm⟩)
  have Hb := Lib.hid (And.intro h1 (And.intro h2 (h3.append hBR)))
  have hsum : n + m ≤ 1000000000 := by omega
  clear h1 h2 h3 h4 h5 hC hC1 hn hm
  have hw1 : IntKind.i64.wrap ((n : Int) + m) = (n : Int) + m := IntWalk.i64_in _ (by omega)
  by_cases hr : r < (n : Int) + m
  · have hlt : r < (B.length : Int) + bs.length := by have := Hn.out; omega
    have d0 : decide (r < (n : Int) + m) = true := decide_eq_true hr
    have Hlt := Lib.hid hlt
    clear hr hlt
    go_enter Try.func126, Try.ntmps126
    go_wp2_with fail
    refine seq_start (fun w' => w' = _) [] [(0, 1), (1, 1), (2, 1), (3, 1), (4, 1), (5, 1), (6, 1), (7, 1), (8, 1), (9, 1), (10, 1), (11, 1), (12, 1)] (by kernel_rfl) (by kernel_rfl) rfl ?_
    intro _
    (refine seq_l (some 6) (v := ?_) (a' := ?_) rfl rfl (fun _ _ _ h => h) rfl (Or.inl ⟨by rfl, ?_⟩) ?_ ?_; rotate_left 2; (· rintro _ rfl; go_simp; with_reducible rfl); (· simp only [Act.put, List.setIfInBounds_toArray, List.set_cons_zero, List.set_cons_succ, i64_w, i32_w]; rfl))
    (refine seq_l (some 7) (v := ?_) (a' := ?_) rfl rfl (fun _ _ _ h => h) rfl (Or.inl ⟨by rfl, ?_⟩) ?_ ?_; rotate_left 2; (· rintro _ rfl; go_simp; with_reducible rfl); (· simp only [Act.put, List.setIfInBounds_toArray, List.set_cons_zero, List.set_cons_succ, i64_w, i32_w]; rfl))
    (refine seq_l (some 8) (v := ?_) (a' := ?_) rfl rfl (fun _ _ _ h => h) rfl (Or.inl ⟨by rfl, ?_⟩) ?_ ?_; rotate_left 2; (· rintro _ rfl; go_simp; with_reducible rfl); (· simp only [Act.put, List.setIfInBounds_toArray, List.set_cons_zero, List.set_cons_succ, i64_w, i32_w]; rfl))
    (refine seq_l (some 9) (v := ?_) (a' := ?_) rfl rfl (fun _ _ _ h => h) rfl (Or.inl ⟨by rfl, ?_⟩) ?_ ?_; rotate_left 2; (· rintro _ rfl; go_simp; with_reducible rfl); (· simp only [Act.put, List.setIfInBounds_toArray, List.set_cons_zero, List.set_cons_succ, i64_w, i32_w]; rfl))
    (refine seq_l (some 10) (v := ?_) (a' := ?_) rfl rfl (fun _ _ _ h => h) rfl (Or.inl ⟨by rfl, ?_⟩) ?_ ?_; rotate_left 2; (· rintro _ rfl; go_simp; with_reducible rfl); (· simp only [Act.put, List.setIfInBounds_toArray, List.set_cons_zero, List.set_cons_succ, i64_w, i32_w]; rfl))
    (refine seq_l (some 11) (v := ?_) (a' := ?_) rfl rfl (fun _ _ _ h => h) rfl (Or.inl ⟨by rfl, ?_⟩) ?_ ?_; rotate_left 2; (· rintro _ rfl; go_simp; with_reducible rfl); (· simp only [Act.put, List.setIfInBounds_toArray, List.set_cons_zero, List.set_cons_succ, i64_w, i32_w]; rfl))
    (refine seq_l (some 12) (v := ?_) (a' := ?_) rfl rfl (fun _ _ _ h => h) rfl (Or.inl ⟨by rfl, ?_⟩) ?_ ?_; rotate_left 2; (· rintro _ rfl; go_simp; with_reducible rfl); (· simp only [Act.put, List.setIfInBounds_toArray, List.set_cons_zero, List.set_cons_succ, i64_w, i32_w]; rfl))
    (refine seq_l (some 13) (v := ?_) (a' := ?_) rfl rfl (fun _ _ _ h => h) rfl (Or.inl ⟨by rfl, ?_⟩) ?_ ?_; rotate_left 2; (· rintro _ rfl; go_simp; with_reducible rfl); (· simp only [Act.put, List.setIfInBounds_toArray, List.set_cons_zero, List.set_cons_succ, i64_w, i32_w]; rfl))
    (refine seq_l (some 14) (v := ?_) (a' := ?_) rfl rfl (fun _ _ _ h => h) rfl (Or.inl ⟨by rfl, ?_⟩) ?_ ?_; rotate_left 2; (· rintro _ rfl; go_simp; with_reducible rfl); (· simp only [Act.put, List.setIfInBounds_toArray, List.set_cons_zero, List.set_cons_succ, i64_w, i32_w]; rfl))
    (refine seq_l (some 15) (v := ?_) (a' := ?_) rfl rfl (fun _ _ _ h => h) rfl (Or.inl ⟨by rfl, ?_⟩) ?_ ?_; rotate_left 2; (· rintro _ rfl; go_simp; with_reducible rfl); (· simp only [Act.put, List.setIfInBounds_toArray, List.set_cons_zero, List.set_cons_succ, i64_w, i32_w]; rfl))
    (refine seq_l (some 16) (v := ?_) (a' := ?_) rfl rfl (fun _ _ _ h => h) rfl (Or.inl ⟨by rfl, ?_⟩) ?_ ?_; rotate_left 2; (· rintro _ rfl; go_simp; with_reducible rfl); (· simp only [Act.put, List.setIfInBounds_toArray, List.set_cons_zero, List.set_cons_succ, i64_w, i32_w]; rfl))
    (refine seq_l (some 17) (v := ?_) (a' := ?_) rfl rfl (fun _ _ _ h => h) rfl (Or.inl ⟨by rfl, ?_⟩) ?_ ?_; rotate_left 2; (· rintro _ rfl; go_simp; with_reducible rfl); (· simp only [Act.put, List.setIfInBounds_toArray, List.set_cons_zero, List.set_cons_succ, i64_w, i32_w]; rfl))
    (refine seq_l (some 18) (v := ?_) (a' := ?_) rfl rfl (fun _ _ _ h => h) rfl (Or.inl ⟨by rfl, ?_⟩) ?_ ?_; rotate_left 2; (· rintro _ rfl; go_simp; with_reducible rfl); (· simp only [Act.put, List.setIfInBounds_toArray, List.set_cons_zero, List.set_cons_succ, i64_w, i32_w]; rfl))
    refine seq_nil ?_
    go_wp2_with fail
    go_ret
    refine ⟨by rw [if_pos Hlt.out]; rfl, ?_, (Kp.refl F w).drew⟩
    rw [if_pos Hlt.out]
    exact (HF.out.below (below_drew (Below.refl _ _))).mono (fun k hk => .inl hk) (HF.out.2.1.ext (Nat.le_refl _))
  · have hlt : ¬ r < (B.length : Int) + bs.length := by have := Hn.out; omega
    have d0 : decide (r < (n : Int) + m) = false := decide_eq_false hr
    have Hlt := Lib.hid hlt
    clear hr hlt
    have Hl1 := Lib.hid (show (B.length + m) * 1 ≤ 140737488355328 by have := Hn.out; omega)
    go_enter Try.func126, Try.ntmps126
    go_wp2_with fail
    refine seq_start (fun w' => w' = _) [] [(0, 1), (1, 1), (2, 1), (3, 1), (4, 1), (5, 1), (6, 1), (7, 1), (8, 1), (9, 1), (10, 1), (11, 1), (12, 1)] (by kernel_rfl) (by kernel_rfl) rfl ?_
    intro _
    (refine seq_l (some 6) (v := ?_) (a' := ?_) rfl rfl (fun _ _ _ h => h) rfl (Or.inl ⟨by rfl, ?_⟩) ?_ ?_; rotate_left 2; (· rintro _ rfl; go_simp; with_reducible rfl); (· simp only [Act.put, List.setIfInBounds_toArray, List.set_cons_zero, List.set_cons_succ, i64_w, i32_w]; rfl))
    (refine seq_l (some 7) (v := ?_) (a' := ?_) rfl rfl (fun _ _ _ h => h) rfl (Or.inl ⟨by rfl, ?_⟩) ?_ ?_; rotate_left 2; (· rintro _ rfl; go_simp; with_reducible rfl); (· simp only [Act.put, List.setIfInBounds_toArray, List.set_cons_zero, List.set_cons_succ, i64_w, i32_w]; rfl))
    (refine seq_l (some 8) (v := ?_) (a' := ?_) rfl rfl (fun _ _ _ h => h) rfl (Or.inl ⟨by rfl, ?_⟩) ?_ ?_; rotate_left 2; (· rintro _ rfl; go_simp; with_reducible rfl); (· simp only [Act.put, List.setIfInBounds_toArray, List.set_cons_zero, List.set_cons_succ, i64_w, i32_w]; rfl))
    (refine seq_l (some 9) (v := ?_) (a' := ?_) rfl rfl (fun _ _ _ h => h) rfl (Or.inl ⟨by rfl, ?_⟩) ?_ ?_; rotate_left 2; (· rintro _ rfl; go_simp; with_reducible rfl); (· simp only [Act.put, List.setIfInBounds_toArray, List.set_cons_zero, List.set_cons_succ, i64_w, i32_w]; rfl))
    (refine seq_l (some 10) (v := ?_) (a' := ?_) rfl rfl (fun _ _ _ h => h) rfl (Or.inl ⟨by rfl, ?_⟩) ?_ ?_; rotate_left 2; (· rintro _ rfl; go_simp; with_reducible rfl); (· simp only [Act.put, List.setIfInBounds_toArray, List.set_cons_zero, List.set_cons_succ, i64_w, i32_w]; rfl))
    (refine seq_l (some 11) (v := ?_) (a' := ?_) rfl rfl (fun _ _ _ h => h) rfl (Or.inl ⟨by rfl, ?_⟩) ?_ ?_; rotate_left 2; (· rintro _ rfl; go_simp; with_reducible rfl); (· simp only [Act.put, List.setIfInBounds_toArray, List.set_cons_zero, List.set_cons_succ, i64_w, i32_w]; rfl))
    (refine seq_l (some 12) (v := ?_) (a' := ?_) rfl rfl (fun _ _ _ h => h) rfl (Or.inl ⟨by rfl, ?_⟩) ?_ ?_; rotate_left 2; (· rintro _ rfl; go_simp; with_reducible rfl); (· simp only [Act.put, List.setIfInBounds_toArray, List.set_cons_zero, List.set_cons_succ, i64_w, i32_w]; rfl))
    (refine seq_l (some 13) (v := ?_) (a' := ?_) rfl rfl (fun _ _ _ h => h) rfl (Or.inl ⟨by rfl, ?_⟩) ?_ ?_; rotate_left 2; (· rintro _ rfl; go_simp; with_reducible rfl); (· simp only [Act.put, List.setIfInBounds_toArray, List.set_cons_zero, List.set_cons_succ, i64_w, i32_w]; rfl))
    (refine seq_l (some 14) (v := ?_) (a' := ?_) rfl rfl (fun _ _ _ h => h) rfl (Or.inl ⟨by rfl, ?_⟩) ?_ ?_; rotate_left 2; (· rintro _ rfl; go_simp; with_reducible rfl); (· simp only [Act.put, List.setIfInBounds_toArray, List.set_cons_zero, List.set_cons_succ, i64_w, i32_w]; rfl))
    (refine seq_l (some 15) (v := ?_) (a' := ?_) rfl rfl (fun _ _ _ h => h) rfl (Or.inl ⟨by rfl, ?_⟩) ?_ ?_; rotate_left 2; (· rintro _ rfl; go_simp; with_reducible rfl); (· simp only [Act.put, List.setIfInBounds_toArray, List.set_cons_zero, List.set_cons_succ, i64_w, i32_w]; rfl))
    (refine seq_l (some 16) (v := ?_) (a' := ?_) rfl rfl (fun _ _ _ h => h) rfl (Or.inl ⟨by rfl, ?_⟩) ?_ ?_; rotate_left 2; (· rintro _ rfl; go_simp; with_reducible rfl); (· simp only [Act.put, List.setIfInBounds_toArray, List.set_cons_zero, List.set_cons_succ, i64_w, i32_w]; rfl))
    (refine seq_l (some 17) (v := ?_) (a' := ?_) rfl rfl (fun _ _ _ h => h) rfl (Or.inl ⟨by rfl, ?_⟩) ?_ ?_; rotate_left 2; (· rintro _ rfl; go_simp; with_reducible rfl); (· simp only [Act.put, List.setIfInBounds_toArray, List.set_cons_zero, List.set_cons_succ, i64_w, i32_w]; rfl))
    (refine seq_l (some 18) (v := ?_) (a' := ?_) rfl rfl (fun _ _ _ h => h) rfl (Or.inl ⟨by rfl, ?_⟩) ?_ ?_; rotate_left 2; (· rintro _ rfl; go_simp; with_reducible rfl); (· simp only [Act.put, List.setIfInBounds_toArray, List.set_cons_zero, List.set_cons_succ, i64_w, i32_w]; rfl))
    refine seq_nil ?_
    have e3 := (H4.out.alloc (.cells #[] 5)).cell 0 _ rfl
    clear e0 e2
    go_wp2_with (first | (at_builtin; refine ev_rows .u8 1 w.heap.size 32 5 _ _ rfl rfl Try.underlying32 A_info5 (by decide) rfl rfl (R_lit0 (Kd.int .u8) 5 w.drew) (Kd.C_alloc (Kd.C_drew HC1.out) _) (fun _ _ => trivial) (by simp) (by simp; omega) ?_; intro v1 w1 ho1 hb1 _ _; rw [List.nil_append] at ho1; have hb2 : Below w.heap.size w w1 := (below_alloc (below_drew (Below.refl w.heap.size w)) (.cells #[] 5)).trans hb1; have HO1 := Lib.hid ho1; have HB1 := Lib.hid hb2; clear ho1 hb1 hb2) | (at_builtin; refine ev_rowsR .u8 1 (v := v1) w.heap.size 32 5 _ _ rfl rfl Try.underlying32 A_info5 (by decide) rfl rfl HO1.out (C_kp HC.out HB1.out) HB1.out.size Hl1.out ?_; intro A3 n3 c3 w2 _ ho2 hb2 _; have HB2 := Lib.hid (HB1.out.trans hb2); have HO2 := Lib.hid ho2; have hB2 := H4.out.below HB2.out; have e4 := hB2.cell 0 _ rfl; have f4 := hB2.frozen 0; clear ho2 hb2))
    go_ret
    have hk := RfAt.store (F := F) (w := w) (w1 := w2) (B1 := B ++ bs) (sf1 := sf) Hb.out.1 Hb.out.2.1 (Kp.of_below HB2.out F) 0 (.slice A3 n3 c3) (H4.out.below HB2.out) rfl (R_new_ext HO2.out F) Hb.out.2.2
    have hlt : ¬ r < (B.length : Int) + bs.length := by have := Hlt.out; omega
    refine ⟨by rw [if_neg hlt]; rfl, ?_, hk.2⟩
    rw [if_neg hlt]
    exact hk.1

/-! ### The reference's journal -/
def RjAt (w : World) (F : Nat → Prop) (jb fb : Nat) (n : Nat) (B : List Int) (sf : Nat) (r : Int) : Prop :=
  F jb ∧ Blk w jb 133 [.pointer (some ⟨fb, 0, none⟩), .int .i64 n] ∧ Bd F w ∧ RfAt w (fun k => F k ∧ k ≠ jb) fb B sf r
theorem RjAt.below {w w1 : World} {F : Nat → Prop} {jb fb n : Nat} {B : List Int} {sf : Nat} {r : Int} (h : RjAt w F jb fb n B sf r) (hb : Below w.heap.size w w1) : RjAt w1 F jb fb n B sf r := ⟨h.1, h.2.1.below hb, h.2.2.1.up hb.size, h.2.2.2.below hb⟩
theorem RjAt.kp {w w1 : World} {F G : Nat → Prop} {jb fb n : Nat} {B : List Int} {sf : Nat} {r : Int} (h : RjAt w F jb fb n B sf r) (hk : Kp G w w1) (hd : ∀ k, F k → ¬ G k) : RjAt w1 F jb fb n B sf r := ⟨h.1, h.2.1.kp hk (hd jb h.1), h.2.2.1.up hk.size, h.2.2.2.kp hk (fun k hk => hd k hk.1)⟩
theorem RjAt.mono {w : World} {F G : Nat → Prop} {jb fb n : Nat} {B : List Int} {sf : Nat} {r : Int} (h : RjAt w F jb fb n B sf r) (hG : ∀ k, F k → G k) (hB : Bd G w) : RjAt w G jb fb n B sf r := ⟨hG jb h.1, h.2.1, hB, h.2.2.2.mono (fun k hk => ⟨hG k hk.1, hk.2⟩) (fun k hk => hB k hk.1)⟩
theorem RjAt.moved {w w1 : World} {F : Nat → Prop} {jb fb n : Nat} {B B1 : List Int} {sf sf1 : Nat} {r : Int} (h : RjAt w F jb fb n B sf r) (h1 : RfAt w1 (ext (fun k => F k ∧ k ≠ jb) w w1) fb B1 sf1 r) (hK : Kp (fun k => F k ∧ k ≠ jb) w w1) :
    RjAt w1 (ext F w w1) jb fb n B1 sf1 r ∧ Kp F w w1 := by
  have hlt := h.2.1.lt
  refine ⟨⟨.inl h.1, h.2.1.kp hK (fun hf => hf.2 rfl), h.2.2.1.ext hK.size, h1.mono (fun k hk => ?_) (fun k hk => (h.2.2.1.ext hK.size) k hk.1)⟩, hK.mono (fun _ _ hf => hf.1)⟩
  rcases hk with hk | hk
  · exact ⟨.inl hk.1, hk.2⟩
  · exact ⟨.inr hk, by have := hk.1; omega⟩
theorem RjAt.count {w w1 : World} {F : Nat → Prop} {jb fb n : Nat} {B : List Int} {sf : Nat} {r : Int} (h : RjAt w1 (ext F w w1) jb fb n B sf r) (hF : F jb) (hK : Kp F w w1) (n1 : Nat) :
    RjAt (w1.setCell ⟨jb, 1, none⟩ (.int .i64 n1)) (ext F w (w1.setCell ⟨jb, 1, none⟩ (.int .i64 n1))) jb fb n1 B sf r ∧ Kp F w (w1.setCell ⟨jb, 1, none⟩ (.int .i64 n1)) := by
  have hs : (w1.setCell ⟨jb, 1, none⟩ (.int .i64 n1)).heap.size = w1.heap.size := by simp [World.setCell]
  have he : ∀ k, ext F w w1 k → ext F w (w1.setCell ⟨jb, 1, none⟩ (.int .i64 n1)) k := fun k hk => hk.imp id (fun hk => ⟨hk.1, by rw [hs]; exact hk.2⟩)
  have hk1 : Kp (fun k => k = jb) w1 (w1.setCell ⟨jb, 1, none⟩ (.int .i64 n1)) := Kp.setCell (p := ⟨jb, 1, none⟩) (Kp.refl (fun k => k = jb) w1) (fun _ => rfl) _
  have hBd : Bd (ext F w (w1.setCell ⟨jb, 1, none⟩ (.int .i64 n1))) (w1.setCell ⟨jb, 1, none⟩ (.int .i64 n1)) := fun k hk => by
    rw [hs]; exact h.2.2.1 k (hk.imp id (fun hk => ⟨hk.1, by rw [← hs]; exact hk.2⟩))
  refine ⟨⟨he jb h.1, h.2.1.set 1 _, hBd, (h.2.2.2.kp hk1 (fun k hk e => hk.2 e)).mono (fun k hk => ⟨he k hk.1, hk.2⟩) (fun k hk => hBd k hk.1)⟩, hK.setCell (fun _ => hF) _⟩

def putR (B body : List Int) (r : Int) : Int := if okJ body then (if r < B.length + (recJ body).length then 3 else 0) else 1
def RPutPost (w : World) (F : Nat → Prop) (jb fb n : Nat) (B body : List Int) (sf : Nat) (r : Int) (e : Ending) (w' : World) : Prop :=
  e = .returned (.int .i64 (putR B body r)) ∧ RjAt w' (ext F w w') jb fb (if putR B body r = 0 then n + 1 else n) (if putR B body r = 0 then B ++ recJ body else B) sf r ∧ Kp F w w'
set_option maxHeartbeats 1000000 in
theorem rjput_any (w : World) (F : Nat → Prop) (jb fb n : Nat) (B body : List Int) (sf : Nat) (r : Int) (A : Option Addr) (m c : Nat) (h : RjAt w F jb fb n B sf r) (hl : B.length ≤ 1000000) (hn : n ≤ 1000000000) (hBR : BR body) (hC : (Kd.int .u8).C w A m body) (hmc : m ≤ c) (hm : m ≤ 1000000) :
    Calls Try.prog 69 #[.pointer (some ⟨jb, 0, none⟩), .slice A m c] w (RPutPost w F jb fb n B body sf r) := by
  have H := Lib.hid h
  have HC := Lib.hid hC
  clear h hC
  have finE : ∀ w1, okJ body = false → Below w.heap.size w w1 → RPutPost w F jb fb n B body sf r (.returned (.int .i64 1)) w1 := by
    intro w1 ho hb
    have : putR B body r = 1 := by rw [putR, ho]; rfl
    refine ⟨by rw [this], ?_, Kp.of_below hb F⟩
    rw [this, if_neg (by decide), if_neg (by decide)]
    exact (H.out.below hb).mono (fun k hk => .inl hk) (H.out.2.2.1.ext hb.size)
  have FinE := Lib.hid finE
  clear finE
  go_enter Try.func69, Try.ntmps69
  go_wp2_with fail
  refine (enc_ref w A m c body hBR HC.out hmc hm).mono ?_
  rintro e w1 ⟨v, hE, hR1, hB1⟩
  have Hb := Lib.hid hB1
  clear hB1
  cases hok : okJ body with
  | false =>
    rw [hok, if_neg (by decide)] at hE
    subst hE
    have HF := Lib.hid (FinE.out w1 hok Hb.out)
    clear hok hR1
    go_wp2_with fail
    go_ret
    exact HF.out
  | true =>
    rw [hok, if_pos rfl] at hE
    rw [hok, if_pos rfl] at hR1
    subst hE
    have hlen : body.length ≤ 200 := by
      unfold okJ at hok
      simp at hok
      exact hok.2
    have Hok := Lib.hid hok
    clear hok
    have hrl := recJ_length body
    obtain ⟨A1, n1, c1, rfl, hn1⟩ : ∃ A1 n1 c1, v = .slice A1 n1 c1 ∧ n1 = (recJ body).length := by
      obtain ⟨A3, c3, rfl⟩ := Kd.R_slice hR1
      exact ⟨A3, _, c3, rfl, rfl⟩
    have hC1 := (Kd.R_reads' hR1).2.2
    rw [← hn1] at hC1
    have HC1 := Lib.hid hC1
    have Hrl := Lib.hid hrl
    have hl9 : B.length + (recJ body).length ≤ 1000000000 := by omega
    have HR1 := Lib.hid hR1
    clear hC1 hR1 hn1 hrl
    have HJ1 := Lib.hid (H.out.below Hb.out)
    have e0 := HJ1.out.2.1.cell 0 _ rfl
    go_wp2_with fail
    refine (rfadd_any w1 _ fb B (recJ body) sf r A1 n1 c1 HJ1.out.2.2.2 HC1.out (recJ_br _ hBR) hl9).mono ?_
    rintro e w2 ⟨hE, hF2, hK2⟩
    have hM := HJ1.out.moved hF2 hK2
    have hKw : Kp F w w2 := (Kp.of_below Hb.out F).trans hM.2 (fun _ _ h => h)
    have hMw := hM.1.mono (G := ext F w w2) (fun k hk => hk.imp id (fun hk => ⟨by have := Hb.out.size; omega, hk.2⟩)) (H.out.2.2.1.ext hKw.size)
    have HM := Lib.hid hMw
    have HKw := Lib.hid hKw
    clear hM hKw hMw hF2 hK2 e0
    by_cases hr : r < B.length + (recJ body).length
    · have hp : putR B body r = 3 := by rw [putR, Hok.out, if_pos rfl, if_pos hr]
      rw [if_pos hr] at hE
      have HM3 := HM.out
      rw [if_pos hr] at HM3
      have HM4 := Lib.hid HM3
      have Hp := Lib.hid hp
      clear hr hp HM3 HM
      subst hE
      go_wp2_with fail
      go_ret
      refine ⟨by rw [Hp.out]; rfl, ?_, HKw.out⟩
      rw [Hp.out, if_neg (by decide), if_neg (by decide)]
      exact HM4.out
    · have hp : putR B body r = 0 := by rw [putR, Hok.out, if_pos rfl, if_neg hr]
      rw [if_neg hr] at hE
      have HM3 := HM.out
      rw [if_neg hr] at HM3
      have HM4 := Lib.hid HM3
      have Hp := Lib.hid hp
      clear hr hp HM3 HM
      subst hE
      have e1 := HM4.out.2.1.cell 1 _ rfl
      have f1 := HM4.out.2.1.frozen 1
      have hw : IntKind.i64.wrap ((n : Int) + 1) = ((n + 1 : Nat) : Int) := by rw [IntWalk.i64_in _ (by omega)]; rfl
      go_wp2_with fail
      go_ret
      refine ⟨by rw [Hp.out]; rfl, ?_⟩
      rw [Hp.out, if_pos rfl, if_pos rfl]
      exact HM4.out.count H.out.1 HKw.out (n + 1)
end Go.Proofs.Ytcplmaeicmmkgaa
