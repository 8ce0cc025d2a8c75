/- rutterlaw08.alive. -/
import Derived.Test.YtcplmaeicmmkgaaA23
import Derived.Lib.SlBytesConst
import Derived.Lib.SmallJoins
namespace Go.Proofs.Ytcplmaeicmmkgaa
open Go Go.RowKit Go.Proofs.YtcplmaeicmmkgaaW.PrintWords Go.Proofs.YtcplmaeicmmkgaaW.PrintLast
set_option linter.unusedVariables false
set_option linter.unusedSimpArgs false

/-- The bytes of a constant. -/
theorem C_lit (W : World) (xs : List Int) (fr : Nat × Nat) (C : Array Value) (hC : C = (xs.map (Value.int .u8)).toArray) (hm : xs.length ≤ 9223372036854775807) : (Kd.int .u8).C (W.alloc (.cells C 5 fr)) (some ⟨W.heap.size, 0, none⟩) xs.length xs := by
  refine ⟨rfl, hm, fun _ => ⟨_, rfl, fun j p hj => ?_⟩⟩
  refine ⟨[.int .u8 p], rfl, rfl, fun i u hu => ?_⟩
  match i, hu with
  | 0, hu =>
    obtain rfl : Value.int .u8 p = u := by simpa using hu
    have := World.cell?_alloc_mark W C 5 fr j
    rw [hC] at this ⊢
    simp [hj] at this
    have e : Addr.add ⟨W.heap.size, 0, none⟩ (j * (Kd.int .u8).sz + 0) = ⟨W.heap.size, j, none⟩ := by
      have h1 : (Kd.int .u8).sz = 1 := rfl
      rw [h1, Nat.mul_one, Nat.add_zero, Addr.add]
      split
      · rename_i h0; rw [h0]
      · simp
    rw [e]
    exact this

set_option maxRecDepth 10000 in
set_option maxHeartbeats 2000000 in
theorem alive_any (w : World) : Calls Try.prog 59 #[] w (fun e w' => e = .returned (.bool true) ∧ Below w.heap.size w w') := by
  have kc := fun (w : World) (C : Array Value) (n c : Nat) => Lib.run_convert_bytes_const (P := Try.prog) w 32 5 C n c Try.underlying32 Try.underlying5
  go_enter Try.func59, Try.ntmps59
  go_wp2_with fail
  refine (new_pk w w (Below.refl _ _) 99 (by decide) (by decide)).mono ?_
  rintro e w1 ⟨fb, rfl, hF⟩
  have HF := Lib.hid hF
  clear hF
  go_wp2_with fail
  refine (open_pk w w1 fb [] [] 99 HF.out (by simp)).mono ?_
  rintro e w2 ⟨jb, A1, n1, c1, rfl, hJ, hc, hn, -⟩
  have hn1 : n1 = 0 := by rw [hn, List.nil_append, scan_nil]; rfl
  subst hn1
  rw [show openS [] [] = [] by simp [openS, scan_nil], show openL [] [] = [] by simp [openL, scan_nil]] at hJ
  have HJ := Lib.hid hJ
  clear hJ hn hc
  go_wp2_with fail
  have hC9 : (Kd.int .u8).C (w2.alloc (.cells #[.int .u8 49, .int .u8 50, .int .u8 51, .int .u8 52, .int .u8 53, .int .u8 54, .int .u8 55, .int .u8 56, .int .u8 57] 5 (9, 10))) (some ⟨w2.heap.size, 0, none⟩) 9 B9 := C_lit w2 B9 (9, 10) _ rfl (by decide)
  refine (put_pk w _ jb fb 0 [] [] B9 99 _ 9 9 (HJ.out.below (below_alloc (Below.refl _ _) _)) (by simp) (by decide) B9_br hC9 (by decide)).mono ?_
  rintro e w3 ⟨rfl, hJ⟩
  rw [al_put9, if_pos rfl, if_pos rfl, List.nil_append] at hJ
  rw [al_put9]
  have HJ3 := Lib.hid hJ
  clear hJ hC9
  go_wp2_with fail
  refine (sync_pk w w3 jb fb (0 + 1) [] (recJ B9) 99 HJ3.out (by rw [al_rec9]; decide)).mono ?_
  rintro e w4 ⟨rfl, hJ⟩
  rw [List.nil_append] at hJ
  have HJ4 := Lib.hid hJ
  clear hJ
  go_wp2_with fail
  have hC2 : (Kd.int .u8).C (w4.alloc (.cells #[.int .u8 97, .int .u8 98] 5 (2, 3))) (some ⟨w4.heap.size, 0, none⟩) 2 B2 := C_lit w4 B2 (2, 3) _ rfl (by decide)
  refine (put_pk w _ jb fb (0 + 1) (recJ B9) [] B2 99 _ 2 2 (HJ4.out.below (below_alloc (Below.refl _ _) _)) (by rw [al_rec9]; decide) (by decide) B2_br hC2 (by decide)).mono ?_
  rintro e w5 ⟨rfl, hJ⟩
  rw [al_put2, if_pos rfl, if_pos rfl, List.nil_append] at hJ
  rw [al_put2]
  have HJ5 := Lib.hid hJ
  clear hJ hC2
  go_wp2_with fail
  refine (crash_pk w w5 fb (recJ B9) (recJ B2) 99 7 HJ5.out.file (by rw [al_rec9, al_rec2]; decide)).mono ?_
  rintro e w6 ⟨rfl, hJ⟩
  rw [al_cat] at hJ
  have HF6 := Lib.hid hJ
  clear hJ
  go_wp2_with fail
  refine (open_pk w w6 fb AL [] 99 HF6.out (by decide)).mono ?_
  rintro e w7 ⟨kb, A2, n2, c2, rfl, hJ, hc, hn, hC⟩
  rw [List.append_nil, al_scan] at hn hC
  obtain rfl : n2 = 1 := hn
  rw [show openS AL [] = AL.take 15 by unfold openS; rw [List.append_nil, al_scan]; rfl, show openL AL [] = [] by unfold openL; split <;> rfl] at hJ
  have HJ7 := Lib.hid hJ
  obtain ⟨ad, A0, c0, x, rfl, hx, hcx, hCx⟩ := at_BB hC 0 (by decide)
  obtain rfl : B9 = x := by simpa using hx
  have HCX := Lib.hid (And.intro hcx hCx)
  clear hJ hC hx hcx hCx
  go_wp2_with fail
  have hb8 : Below w7.heap.size w7 (w7.alloc (.cells #[.int .u8 49, .int .u8 50, .int .u8 51, .int .u8 52, .int .u8 53, .int .u8 54, .int .u8 55, .int .u8 56, .int .u8 57] 5 (9, 10))) := below_alloc (Below.refl _ _) _
  have hC9 : (Kd.int .u8).C (w7.alloc (.cells #[.int .u8 49, .int .u8 50, .int .u8 51, .int .u8 52, .int .u8 53, .int .u8 54, .int .u8 55, .int .u8 56, .int .u8 57] 5 (9, 10))) (some ⟨w7.heap.size, 0, none⟩) 9 B9 := C_lit w7 B9 (9, 10) _ rfl (by decide)
  generalize (some (⟨w7.heap.size, 0, none⟩ : Addr)) = A9 at hC9 ⊢
  generalize w7.alloc (.cells #[.int .u8 49, .int .u8 50, .int .u8 51, .int .u8 52, .int .u8 53, .int .u8 54, .int .u8 55, .int .u8 56, .int .u8 57] 5 (9, 10)) = w8 at hb8 hC9 ⊢
  have HJ8 := Lib.hid (HJ7.out.below hb8)
  have hcx : w8.cell? (ad.add 0) = some (.slice A0 9 c0) := (World.cell?_of_block (hb8.block _ (World.block_lt_of_cell? _ _ HCX.out.1))).trans HCX.out.1
  have hs1 : (convert 32 9 (.slice A0 9 c0)).run Try.prog w8 = .ok (.string ⟨#[49, 50, 51, 52, 53, 54, 55, 56, 57]⟩) w8 := by
    have := Kd.C_string (P := Try.prog) (c := c0) Try.underlying32 Try.underlying5 Try.underlying9 (C_kp HCX.out.2 hb8)
    exact this
  have hcx0 : w8.cell? ad = some (.slice A0 9 c0) := by simpa [Addr.add] using hcx
  clear hb8 kc
  refine (sum_any w8 A9 9 9 B9 B9_br hC9 (by decide)).mono ?_
  rintro e w9 ⟨rfl, rfl⟩
  rw [al_sum]
  clear hC9
  go_wp2_with fail
  refine (len_pk w w9 kb fb 1 _ _ 99 HJ8.out).mono ?_
  rintro e w10 ⟨rfl, rfl⟩
  go_wp2_with fail
  refine (safe_pk w w10 fb _ _ 99 HJ8.out.file).mono ?_
  rintro e w11 ⟨rfl, rfl⟩
  rw [show (AL.take 15).length = 15 by rfl]
  go_wp2_with fail
  go_ret
  exact ⟨rfl, HJ8.out.kept⟩
end Go.Proofs.Ytcplmaeicmmkgaa
