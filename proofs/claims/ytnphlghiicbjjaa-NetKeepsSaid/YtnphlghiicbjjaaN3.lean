/- net: At. -/
import Derived.Test.YtnphlghiicbjjaaN2
namespace Go.Proofs.Ytnphlghiicbjjaa
open Go Go.RowKit Go.Proofs.YtnphlghiicbjjaaW.PrintWords Go.Proofs.YtnphlghiicbjjaaW.PrintLast Go.Proofs.Ytnphlghiicbjjaa.PNetPlays
set_option linter.unusedVariables false
set_option linter.unusedSimpArgs false

/-- An error, and an item of zeros. -/
def RetZ (w : World) (k : Int) (e : Ending) (w' : World) : Prop := e = .returned (.tuple #[.agg #[.int .i64 0, .int .i64 0, .slice none 0 0], .int .i64 k]) ∧ Below w.heap.size w w'
theorem zblk (w : World) : Blk (w.alloc (.cells #[.int .i64 0, .int .i64 0, .slice none 0 0] 40)) w.heap.size 40 [.int .i64 0, .int .i64 0, .slice none 0 0] := Blk.new w 40 [.int .i64 0, .int .i64 0, .slice none 0 0]

set_option maxHeartbeats 1000000 in
theorem at_no (w : World) (F : Nat → Prop) (b : Nat) (xs : List S40) (r q : Int) (hF : NtAt w F b xs r q) (i : Int) (hi : i < 0 ∨ (xs.length : Int) ≤ i) : Calls Try.prog 16 #[.pointer (some ⟨b, 0, none⟩), .int .i64 i] w (RetZ w 4) := by
  have HF := Lib.hid hF
  clear hF
  go_enter Try.func16, Try.ntmps16
  go_wp2_with fail
  refine (wrong_no _ F b xs r q (HF.out.below (below_alloc (Below.refl _ _) _)) i hi).mono ?_
  rintro e w1 ⟨rfl, rfl⟩
  go_wp2
  refine bodyPost_ret (results_ct rfl _ _ (w.heap.size) 40 #[.int .i64 0, .int .i64 0, .slice none 0 0] (0, 0) _ rfl (zblk w) Try.underlying40 rfl (by kernel_rfl)) rfl ?_
  exact ⟨rfl, below_alloc (Below.refl _ _) _⟩
set_option maxHeartbeats 1000000 in
theorem at_nil (w : World) (i : Int) : Calls Try.prog 16 #[.pointer none, .int .i64 i] w (RetZ w 1) := by
  go_enter Try.func16, Try.ntmps16
  go_wp2_with fail
  refine (wrong_nil _ i).mono ?_
  rintro e w1 ⟨rfl, rfl⟩
  go_wp2
  refine bodyPost_ret (results_ct rfl _ _ (w.heap.size) 40 #[.int .i64 0, .int .i64 0, .slice none 0 0] (0, 0) _ rfl (zblk w) Try.underlying40 rfl (by kernel_rfl)) rfl ?_
  exact ⟨rfl, below_alloc (Below.refl _ _) _⟩

/-- Sizes of items. -/
def SzI (xs : List S40) : Prop := ∀ x, x ∈ xs → x.f2.length ≤ 100000
theorem rd_mem {xs : List S40} {i : Int} (h0 : 0 ≤ i) (h1 : i < (xs.length : Int)) : rd_T40 xs i ∈ xs := by
  unfold rd_T40
  rw [List.getD_eq_getElem?_getD, List.getElem?_eq_getElem (by omega : i.toNat < xs.length)]
  exact List.getElem_mem _
set_option maxHeartbeats 1000000 in
theorem at_ok (w : World) (F : Nat → Prop) (b : Nat) (xs : List S40) (r q : Int) (hF : NtAt w F b xs r q) (hS : SzI xs) (i : Int) (h0 : 0 ≤ i) (hi : i < (xs.length : Int)) : Calls Try.prog 16 #[.pointer (some ⟨b, 0, none⟩), .int .i64 i] w (RetIE w (rd_T40 xs i)) := by
  have HF := Lib.hid hF
  have hsz := hS _ (rd_mem h0 hi)
  obtain ⟨h1, h2, A, n, c, h5, h6⟩ := hF
  obtain ⟨hn, hc, hC⟩ := Kd.R_reads' h6
  subst hn
  have c0 := h5.cell 0 _ rfl
  obtain ⟨ad, A2, c2, rfl, e0, e1, e2, hle, hC2⟩ := at_T40 hC i h0 hi
  have HC2 := Lib.hid hC2
  generalize rd_T40 xs i = x at *
  clear h5 h6 h2 hC hC2 hS
  go_enter Try.func16, Try.ntmps16
  go_wp2_with fail
  refine (wrong_ok _ F b xs r q (HF.out.below (below_alloc (Below.refl _ _) _)) i h0 hi).mono ?_
  rintro e w1 ⟨rfl, hw1⟩
  have hB1 : Below w.heap.size w w1 := by rw [hw1]; exact below_alloc (Below.refl _ _) _
  have hz1 : w1.heap.size = w.heap.size + 1 := by rw [hw1]; simp
  have Z1 : Hid (Blk w1 w.heap.size 40 [.int .i64 0, .int .i64 0, .slice none 0 0]) := Lib.hid (by rw [hw1]; exact zblk w)
  have C0 := cell_old hB1 c0
  have E0 := cell_old hB1 e0
  have E1 := cell_old hB1 e1
  have E2 := cell_old hB1 e2
  have HB1 := Lib.hid hB1
  have HZ1 := Lib.hid hz1
  clear hw1 hB1 hz1 c0 e0 e1 e2
  go_wp2_with fail
  refine (own_any w1 x A2 x.f2.length c2 (C_kp HC2.out HB1.out) (by omega)).mono ?_
  rintro e w2 ⟨v, rfl, u, rfl, hR, hB⟩
  obtain ⟨A1, k1, rfl⟩ := Kd.R_slice hR
  have b0 := Z1.out.below hB
  have B0 := Lib.hid b0
  have d0 := b0.cell 0 _ rfl
  have d1 := b0.cell 1 _ rfl
  have d2 := b0.cell 2 _ rfl
  have g0 := b0.frozen 0
  have g1 := b0.frozen 1
  have g2 := b0.frozen 2
  have HR := Lib.hid hR
  have HB := Lib.hid hB
  clear hR hB b0
  go_wp2
  obtain ⟨hbk, K0⟩ := put3 B0.out (.int .i64 x.f0) (.int .i64 x.f1) (.slice A1 x.f2.length k1)
  have hz1 := HZ1.out
  refine bodyPost_ret (results_ct rfl _ _ w.heap.size 40 #[.int .i64 x.f0, .int .i64 x.f1, .slice A1 x.f2.length k1] (0, 0) _ rfl hbk Try.underlying40 rfl (by kernel_rfl)) rfl ?_
  refine ⟨_, rfl, _, rfl, ?_, ?_⟩
  · refine Kd.R_lower (Kd.R_mono (R_kp (Kd.R_bound HR.out) K0 ?_) (fun _ _ => trivial)) (by omega)
    intro k _ hk hG
    have := hk.2.1
    omega
  · exact (HB1.out.trans (HB.out.mono (by omega))).trans (K0.to_below (by have := HB.out.size; omega) (fun k hk => by omega))
end Go.Proofs.Ytnphlghiicbjjaa
