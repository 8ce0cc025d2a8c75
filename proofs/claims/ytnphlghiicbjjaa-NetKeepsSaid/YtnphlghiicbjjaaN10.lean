/- rutterref18: At, Find, Put. -/
import Derived.Test.YtnphlghiicbjjaaN9
namespace Go.Proofs.Ytnphlghiicbjjaa
open Go Go.RowKit Go.Proofs.YtnphlghiicbjjaaW.PrintWords Go.Proofs.YtnphlghiicbjjaaW.PrintLast Go.Proofs.Ytnphlghiicbjjaa.PNetPlays
set_option linter.unusedVariables false
set_option linter.unusedSimpArgs false

theorem N_info49 : (Try.prog.info? 49).map (fun i => (i.zero, i.size, i.bytes)) = some (some (.agg #[.int .i64 0, .int .i64 0, .string ⟨#[]⟩]), 3, 32) := by kernel_rfl
def val49 (y : S49) : Value := .agg #[.int .i64 y.f0, .int .i64 y.f1, .string y.f2]
/-- The document's net. -/
def RnAt (w : World) (F : Nat → Prop) (b : Nat) (ys : List S49) (room lost : Int) : Prop :=
  F b ∧ Bd F w ∧ ∃ A n c, Blk w b 32 [.slice A n c, .int .i64 room, .int .i64 lost] ∧ k49.R 49 w 0 (fun k => F k ∧ k ≠ b) (.slice A n c) ys
theorem RnAt.below {w w1 : World} {F : Nat → Prop} {b : Nat} {xs : List S49} {r q : Int} (h : RnAt w F b xs r q) (hb : Below w.heap.size w w1) : RnAt w1 F b xs r q := by
  obtain ⟨h1, h2, A, n, c, h5, h6⟩ := h
  exact ⟨h1, h2.up hb.size, A, n, c, h5.below hb, Kd.R_below h6 hb⟩
theorem RnAt.kp {w w1 : World} {F G : Nat → Prop} {b : Nat} {xs : List S49} {r q : Int} (h : RnAt w F b xs r q) (hk : Kp G w w1) (hd : ∀ k, F k → ¬ G k) : RnAt w1 F b xs r q := by
  obtain ⟨h1, h2, A, n, c, h5, h6⟩ := h
  exact ⟨h1, h2.up hk.size, A, n, c, h5.kp hk (hd b h1), R_kp h6 hk (fun k _ hf => hd k hf.1)⟩
theorem RnAt.mono {w : World} {F G : Nat → Prop} {b : Nat} {xs : List S49} {r q : Int} (h : RnAt w F b xs r q) (hG : ∀ k, F k → G k) (hB : Bd G w) : RnAt w G b xs r q := by
  obtain ⟨h1, h2, A, n, c, h5, h6⟩ := h
  exact ⟨hG b h1, hB, A, n, c, h5, Kd.R_mono h6 (fun k hk => ⟨hG k hk.1, hk.2⟩)⟩
theorem RnAt.put {w1 : World} {F : Nat → Prop} {b : Nat} {ys : List S49} {r q : Int} {u : Value} {A : Option Addr} {n c : Nat} (hF : F b) (hBd : Bd F w1) (hB : Blk w1 b 32 [u, .int .i64 r, .int .i64 q])
    (hR : k49.R 49 w1 0 (fun k => F k ∧ k ≠ b) (.slice A n c) ys) : RnAt (w1.setCell ⟨b, 0, none⟩ (.slice A n c)) F b ys r q :=
  ⟨hF, hBd.up (by simp [World.setCell]), A, n, c, hB.set 0 _, Kd.R_set hR hB (by decide) 0 _⟩
theorem RnAt.lose {w : World} {F : Nat → Prop} {b : Nat} {xs : List S49} {r q : Int} (h : RnAt w F b xs r q) (q' : Int) : RnAt (w.setCell ⟨b, 2, none⟩ (.int .i64 q')) F b xs r q' := by
  obtain ⟨h1, h2, A, n, c, h5, h6⟩ := h
  exact ⟨h1, h2.up (by simp [World.setCell]), A, n, c, h5.set 2 _, Kd.R_set h6 h5 (by decide) 2 _⟩

def zero49 : S49 := ⟨0, 0, ⟨#[]⟩⟩
theorem zblk49 (w : World) : Blk (w.alloc (.cells #[.int .i64 0, .int .i64 0, .string ⟨#[]⟩] 49)) w.heap.size 49 [.int .i64 0, .int .i64 0, .string ⟨#[]⟩] := Blk.new w 49 [.int .i64 0, .int .i64 0, .string ⟨#[]⟩]
/-- An item of the document's, and an error. -/
def RetY (w : World) (y : S49) (k : Int) (e : Ending) (w' : World) : Prop := e = .returned (.tuple #[val49 y, .int .i64 k]) ∧ Below w.heap.size w w'
set_option maxHeartbeats 1000000 in
theorem rat_no (w : World) (F : Nat → Prop) (b : Nat) (xs : List S49) (r q : Int) (hF : RnAt w F b xs r q) (i : Int) (hi : i < 0 ∨ (xs.length : Int) ≤ i) : Calls Try.prog 45 #[.pointer (some ⟨b, 0, none⟩), .int .i64 i] w (RetY w zero49 4) := by
  obtain ⟨h1, h2, A, n, c, h5, h6⟩ := hF
  have hn := (Kd.R_reads' h6).1
  subst hn
  have hb := h5.lt
  have c0 := h5.cell 0 _ rfl
  clear h5 h6 h2
  by_cases h0 : i < 0
  · have d0 : decide (i < 0) = true := decide_eq_true h0
    go_enter Try.func45, Try.ntmps45
    go_wp2
    refine bodyPost_ret (results_ct rfl _ _ (w.heap.size) 49 #[.int .i64 0, .int .i64 0, .string ⟨#[]⟩] (0, 0) _ rfl (zblk49 w) Try.underlying49 rfl (by kernel_rfl)) rfl ?_
    exact ⟨rfl, below_alloc (Below.refl _ _) _⟩
  · have d0 : decide (i < 0) = false := decide_eq_false h0
    have d1 : decide ((xs.length : Int) ≤ i) = true := decide_eq_true (by omega)
    go_enter Try.func45, Try.ntmps45
    go_wp2
    refine bodyPost_ret (results_ct rfl _ _ (w.heap.size) 49 #[.int .i64 0, .int .i64 0, .string ⟨#[]⟩] (0, 0) _ rfl (zblk49 w) Try.underlying49 rfl (by kernel_rfl)) rfl ?_
    exact ⟨rfl, below_alloc (Below.refl _ _) _⟩
theorem blk49 (w : World) (y : S49) : Blk (w.alloc (.cells #[.int .i64 y.f0, .int .i64 y.f1, .string y.f2] 49)) w.heap.size 49 [.int .i64 y.f0, .int .i64 y.f1, .string y.f2] := Blk.new w 49 [.int .i64 y.f0, .int .i64 y.f1, .string y.f2]
set_option maxHeartbeats 1000000 in
theorem rat_ok (w : World) (F : Nat → Prop) (b : Nat) (xs : List S49) (r q : Int) (hF : RnAt w F b xs r q) (i : Int) (h0 : 0 ≤ i) (hi : i < (xs.length : Int)) : Calls Try.prog 45 #[.pointer (some ⟨b, 0, none⟩), .int .i64 i] w (RetY w (rd_T49 xs i) 0) := by
  obtain ⟨h1, h2, A, n, c, h5, h6⟩ := hF
  obtain ⟨hn, hc, hC⟩ := Kd.R_reads' h6
  subst hn
  have hb := h5.lt
  have c0 := h5.cell 0 _ rfl
  obtain ⟨ad, rfl, e0, e1, e2⟩ := at_T49 hC i h0 hi
  have hB : Below w.heap.size w (w.alloc (.cells #[.int .i64 0, .int .i64 0, .string ⟨#[]⟩] 49)) := below_alloc (Below.refl _ _) _
  generalize rd_T49 xs i = y at *
  have C0 := cell_old hB c0
  have E0 := cell_old hB e0
  have E1 := cell_old hB e1
  have E2 := cell_old hB e2
  clear hB c0 e0 e1 e2
  clear h5 h6 h2 hC
  have d0 : decide (i < 0) = false := decide_eq_false (by omega)
  have d1 : decide ((xs.length : Int) ≤ i) = false := decide_eq_false (by omega)
  go_enter Try.func45, Try.ntmps45
  go_wp2
  refine bodyPost_ret (results_ct rfl _ _ (w.heap.size) 49 #[.int .i64 y.f0, .int .i64 y.f1, .string y.f2] (0, 0) _ rfl (blk49 w y) Try.underlying49 rfl (by kernel_rfl)) rfl ?_
  exact ⟨rfl, below_alloc (Below.refl _ _) _⟩

def fitsR (k c : Int) (y : S49) : Bool := (y.f0 == k) && (y.f1 == c)
theorem rd_get49 (xs : List S49) (k : Nat) (hk : k < xs.length) : rd_T49 xs (k : Int) = xs[k] := by
  unfold rd_T49
  rw [Int.toNat_natCast, List.getD_eq_getElem?_getD, List.getElem?_eq_getElem hk]; rfl
set_option maxHeartbeats 1000000 in
theorem rfind_any (w : World) (F : Nat → Prop) (b : Nat) (xs : List S49) (r q : Int) (hF : RnAt w F b xs r q) (hl : xs.length ≤ 1000000000) (k ch : Int) :
    Calls Try.prog 46 #[.pointer (some ⟨b, 0, none⟩), .int .i64 k, .int .i64 ch] w (fun e w' => e = .returned (.int .i64 (idxP (fitsR k ch) xs)) ∧ w' = w) := by
  obtain ⟨h1, h2, A, n, c, h5, h6⟩ := hF
  obtain ⟨hn, hc, hC⟩ := Kd.R_reads' h6
  have c0 := h5.cell 0 _ rfl
  have HC := Lib.hid (show k49.C w A n xs by rw [hn]; exact hC)
  have Hn := Lib.hid hn
  have hn9 : n ≤ 1000000000 := by omega
  clear h5 h6 h2 hC hn hc hl
  go_enter Try.func46, Try.ntmps46
  go_wp2_with fail
  go_loopw [7] (fun v7 wr => ∃ kk : Nat, kk ≤ n ∧ v7 = .int .i64 kk ∧ wr = w ∧ Hid (∀ j (hj : j < xs.length), j < kk → fitsR k ch xs[j] = false)) (fun v7 _ => n - (intOf v7).toNat)
  case atStart => exact ⟨0, Nat.zero_le _, rfl, by first | rfl | trivial, Lib.hid (fun j _ hj => absurd hj (Nat.not_lt_zero _))⟩
  case round =>
    obtain ⟨kk, hkk, rfl, hw, HA⟩ := hrel
    subst hw
    by_cases hlt : kk < n
    · have hw1 : IntKind.i64.wrap ((kk : Int) + 1) = (kk : Int) + 1 := IntWalk.i64_in _ (by omega)
      have hkx : kk < xs.length := by rw [← Hn.out]; exact hlt
      obtain ⟨ad, rfl, e0, e1, e2⟩ := at_T49 HC.out (kk : Int) (by omega) (by omega)
      rw [Int.toNat_natCast] at e0 e1 e2
      rw [rd_get49 xs kk hkx] at e0 e1 e2
      generalize hx : xs[kk] = x at e0 e1 e2
      have HX := Lib.hid hx
      clear hx
      cases hf : fitsR k ch x with
      | true =>
        have Hfin := Lib.hid (idxP_hit hkx (by rw [HX.out]; exact hf) (fun j hj => HA.out j (by omega) hj))
        have hf1 : (x.f0 == k) = true := by unfold fitsR at hf; cases h : (x.f0 == k) <;> simp [h] at hf ⊢
        have hf2 : (x.f1 == ch) = true := by unfold fitsR at hf; cases h : (x.f1 == ch) <;> simp [h] at hf ⊢
        clear hf
        go_wp2_with fail
        go_ret
        exact ⟨by rw [Hfin.out]; rfl, rfl⟩
      | false =>
        have Hf := Lib.hid hf
        cases hf1 : (x.f0 == k) with
        | true =>
          have hf2 : (x.f1 == ch) = false := by unfold fitsR at hf; rw [hf1] at hf; simpa using hf
          clear hf
          go_wp2_with fail
          go_roundw
          case rel => exact ⟨kk + 1, by omega, by go_num, by first | rfl | trivial, Lib.hid (fun j hj hjk => by
            by_cases hjj : j < kk
            · exact HA.out j hj hjj
            · have : j = kk := by omega
              subst this
              rw [HX.out]; exact Hf.out)⟩
          case measure => simp [intOf] <;> omega
        | false =>
          clear hf
          go_wp2_with fail
          go_roundw
          case rel => exact ⟨kk + 1, by omega, by go_num, by first | rfl | trivial, Lib.hid (fun j hj hjk => by
            by_cases hjj : j < kk
            · exact HA.out j hj hjj
            · have : j = kk := by omega
              subst this
              rw [HX.out]; exact Hf.out)⟩
          case measure => simp [intOf] <;> omega
    · have hkm : kk = n := by omega
      subst hkm
      have Hfin := Lib.hid (idxP_no (p := fitsR k ch) (xs := xs) (fun x hx => by
        obtain ⟨j, hj, rfl⟩ := List.mem_iff_getElem.1 hx
        exact HA.out j hj (by have := Hn.out; omega)))
      go_wp2_with fail
      go_ret
      exact ⟨by rw [Hfin.out]; rfl, rfl⟩
end Go.Proofs.Ytnphlghiicbjjaa
