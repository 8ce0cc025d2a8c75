/- rutterref08.Scan. -/
import Derived.Test.YtcplmaeicmmkgaaA21
namespace Go.Proofs.Ytcplmaeicmmkgaa
open Go Go.RowKit Go.Proofs.YtcplmaeicmmkgaaW.PrintWords Go.Proofs.YtcplmaeicmmkgaaW.PrintLast
set_option linter.unusedVariables false
set_option linter.unusedSimpArgs false

set_option maxHeartbeats 2000000 in
theorem scan_ref (w : World) (A : Option Addr) (m c : Nat) (l : List Int) (hBR : BR l) (hC : (Kd.int .u8).C w A m l) (hmc : m ≤ c) (hm : m ≤ 1000000) :
    Calls Try.prog 74 #[.slice A m c] w (ScanPost w l) := by
  obtain ⟨i0, hi, hz⟩ := Option.map_eq_some_iff.1 A_info5
  have hsz : i0.size = 1 := by simp at hz; exact hz.2.1
  have HC := Lib.hid hC
  have Hml := Lib.hid hC.1
  have Hi := Lib.hid hi
  have Hsz := Lib.hid hsz
  clear hC hi hsz hz
  go_enter Try.func74, Try.ntmps74
  go_wp2_with fail
  go_loopw [4, 5] (fun vo va wr => ∃ (pre : List (List Int)) (a : Nat) (A0 : Option Addr) (n0 c0 : Nat), vo = .slice A0 n0 c0 ∧ va = .int .i64 a ∧ Hid (ScanInv l pre a) ∧ BB.R 32 wr w.heap.size (fun _ => True) (.slice A0 n0 c0) pre ∧ Hid (Below w.heap.size w wr)) (fun _ va _ => l.length - (intOf va).toNat)
  case atStart => exact ⟨[], 0, none, 0, 0, rfl, rfl, Lib.hid ⟨Nat.zero_le _, Nat.zero_le _, rfl, by simp⟩, Kd.R_nil _ _ _ _ _, Lib.hid (Below.refl _ _)⟩
  case round =>
    obtain ⟨pre, a, A0, n0, c0, rfl, rfl, HI, hO, HB2⟩ := hrel
    have HO := Lib.hid hO
    clear hO
    have hal : a ≤ m := by have := HI.out.1; have := Hml.out; omega
    have hw1 : IntKind.i64.wrap ((m : Int) - a) = (m : Int) - a := IntWalk.i64_in _ (by omega)
    have fin : ∀ w', Below w.heap.size w w' → BB.R 32 w' w.heap.size (fun _ => True) (.slice A0 n0 c0) pre → okF (l.drop a) = false → ScanPost w l (.returned (.tuple #[.slice A0 n0 c0, .int .i64 a])) w' := by
      intro w' hb hO hok
      obtain ⟨hd1, hd2⟩ := HI.out.done hok
      exact ⟨_, by rw [hd2], by rw [hd1]; exact hO, hb⟩
    have Fin := Lib.hid fin
    clear fin
    by_cases h2 : (m : Int) - a < 2
    · have HF := Lib.hid (Fin.out _ HB2.out HO.out (okF_short _ (by rw [List.length_drop]; have := Hml.out; omega)))
      have hd : decide ((m : Int) - a < 2) = true := decide_eq_true h2
      go_wp2_with fail
      go_ret2
      exact HF.out
    · have hd : decide ((m : Int) - a < 2) = false := decide_eq_false h2
      have hlt : a < m := by omega
      have hlt1 : a + 1 < m := by omega
      have hBd := hBR.drop a
      have hl2 : 2 ≤ (l.drop a).length := by rw [List.length_drop]; have := Hml.out; omega
      have hlf := lead_facts (l.drop a) hBd hl2
      have hCr := C_kp HC.out HB2.out
      obtain ⟨ad, rfl, hx0⟩ := Kd.at_int hCr (a : Int) (by omega) (by omega)
      obtain ⟨ad', had, hx1⟩ := Kd.at_int hCr ((a + 1 : Nat) : Int) (by omega) (by omega)
      obtain rfl := Option.some.inj had
      simp only [Int.toNat_natCast] at hx0 hx1
      rw [Addr.add, if_neg (by omega)] at hx1
      have er0 : rd (l.drop a) 0 = rd l (a : Int) := by simp [rd]
      have er1 : rd (l.drop a) 1 = rd l ((a + 1 : Nat) : Int) := by simp [rd]
      rw [er0, er1] at hlf
      generalize hN : leadN (l.drop a) = N at hlf
      generalize rd l (a : Int) = b0 at hlf hx0
      generalize rd l ((a + 1 : Nat) : Int) = b1 at hlf hx1
      obtain ⟨hNe, -, -, hN6, ⟨hb00, hb01⟩, ⟨hb10, hb11⟩⟩ := hlf
      have HNe := Lib.hid hN
      have hq0 : IntKind.i64.wrap b0 = b0 := IntWalk.i64_in _ (by omega)
      have hq1 : IntKind.i64.wrap b1 = b1 := IntWalk.i64_in _ (by omega)
      have hq2 : IntKind.i64.wrap (256 * b0) = 256 * b0 := IntWalk.i64_in _ (by omega)
      have hq3 : IntKind.i64.wrap (256 * b0 + b1) = (N : Int) := by rw [IntWalk.i64_in _ (by omega)]; exact hNe.symm
      have hq4 : IntKind.i64.wrap ((a : Int) + 1) = (a : Int) + 1 := IntWalk.i64_in _ (by omega)
      have hq5 : (0 : Int) ≤ (a : Int) + 1 := by omega
      have hq6 : (a : Int) + 1 < (m : Int) := by omega
      have hw3 : IntKind.i64.wrap ((m : Int) - a - 6) = (m : Int) - a - 6 := IntWalk.i64_in _ (by omega)
      have HBd := Lib.hid hBd
      have HNb := Lib.hid (And.intro (And.intro hb00 hb01) (And.intro hb10 hb11))
      clear hBd hl2 hN hCr er0 er1 hNe
      have Hw1 := Lib.hid hw1
      go_wp2_with fail
      refine seq_start (fun w' => w' = _) [] [(0, 1), (1, 1), (2, 1), (3, 1), (4, 1), (5, 1), (6, 1), (7, 1), (8, 1), (9, 1), (10, 1), (11, 1), (12, 1), (13, 1)] (by kernel_rfl) (by kernel_rfl) rfl ?_
      intro _
      (refine seq_l (some 17) (v := ?_) (a' := ?_) rfl rfl (fun _ _ _ h => h) rfl (Or.inl ⟨by rfl, ?_⟩) ?_ ?_; rotate_left 2; (· rintro _ rfl; go_simp; with_reducible rfl); (· simp only [Act.put, List.setIfInBounds_toArray, List.set_cons_zero, List.set_cons_succ, i64_w, i32_w]; rfl))
      (refine seq_l (some 18) (v := ?_) (a' := ?_) rfl rfl (fun _ _ _ h => h) rfl (Or.inl ⟨by rfl, ?_⟩) ?_ ?_; rotate_left 2; (· rintro _ rfl; go_simp; with_reducible rfl); (· simp only [Act.put, List.setIfInBounds_toArray, List.set_cons_zero, List.set_cons_succ, i64_w, i32_w]; rfl))
      (refine seq_l (some 19) (v := ?_) (a' := ?_) rfl rfl (fun _ _ _ h => h) rfl (Or.inl ⟨by rfl, ?_⟩) ?_ ?_; rotate_left 2; (· rintro _ rfl; go_simp; with_reducible rfl); (· simp only [Act.put, List.setIfInBounds_toArray, List.set_cons_zero, List.set_cons_succ, i64_w, i32_w]; rfl))
      (refine seq_l (some 20) (v := ?_) (a' := ?_) rfl rfl (fun _ _ _ h => h) rfl (Or.inl ⟨by rfl, ?_⟩) ?_ ?_; rotate_left 2; (· rintro _ rfl; go_simp; with_reducible rfl); (· simp only [Act.put, List.setIfInBounds_toArray, List.set_cons_zero, List.set_cons_succ, i64_w, i32_w]; rfl))
      (refine seq_l (some 21) (v := ?_) (a' := ?_) rfl rfl (fun _ _ _ h => h) rfl (Or.inl ⟨by rfl, ?_⟩) ?_ ?_; rotate_left 2; (· rintro _ rfl; go_simp; with_reducible rfl); (· simp only [Act.put, List.setIfInBounds_toArray, List.set_cons_zero, List.set_cons_succ, i64_w, i32_w]; rfl))
      (refine seq_l (some 22) (v := ?_) (a' := ?_) rfl rfl (fun _ _ _ h => h) rfl (Or.inl ⟨by rfl, ?_⟩) ?_ ?_; rotate_left 2; (· rintro _ rfl; go_simp; with_reducible rfl); (· simp only [Act.put, List.setIfInBounds_toArray, List.set_cons_zero, List.set_cons_succ, i64_w, i32_w]; rfl))
      (refine seq_l (some 23) (v := ?_) (a' := ?_) rfl rfl (fun _ _ _ h => h) rfl (Or.inl ⟨by rfl, ?_⟩) ?_ ?_; rotate_left 2; (· rintro _ rfl; go_simp; with_reducible rfl); (· simp only [Act.put, List.setIfInBounds_toArray, List.set_cons_zero, List.set_cons_succ, i64_w, i32_w]; rfl))
      (refine seq_l (some 24) (v := ?_) (a' := ?_) rfl rfl (fun _ _ _ h => h) rfl (Or.inl ⟨by rfl, ?_⟩) ?_ ?_; rotate_left 2; (· rintro _ rfl; go_simp; with_reducible rfl); (· simp only [Act.put, List.setIfInBounds_toArray, List.set_cons_zero, List.set_cons_succ, i64_w, i32_w]; rfl))
      (refine seq_l (some 25) (v := ?_) (a' := ?_) rfl rfl (fun _ _ _ h => h) rfl (Or.inl ⟨by rfl, ?_⟩) ?_ ?_; rotate_left 2; (· rintro _ rfl; go_simp; with_reducible rfl); (· simp only [Act.put, List.setIfInBounds_toArray, List.set_cons_zero, List.set_cons_succ, i64_w, i32_w]; rfl))
      (refine seq_l (some 26) (v := ?_) (a' := ?_) rfl rfl (fun _ _ _ h => h) rfl (Or.inl ⟨by rfl, ?_⟩) ?_ ?_; rotate_left 2; (· rintro _ rfl; go_simp; with_reducible rfl); (· simp only [Act.put, List.setIfInBounds_toArray, List.set_cons_zero, List.set_cons_succ, i64_w, i32_w]; rfl))
      (refine seq_l (some 27) (v := ?_) (a' := ?_) rfl rfl (fun _ _ _ h => h) rfl (Or.inl ⟨by rfl, ?_⟩) ?_ ?_; rotate_left 2; (· rintro _ rfl; go_simp; with_reducible rfl); (· simp only [Act.put, List.setIfInBounds_toArray, List.set_cons_zero, List.set_cons_succ, i64_w, i32_w]; rfl))
      (refine seq_l (some 28) (v := ?_) (a' := ?_) rfl rfl (fun _ _ _ h => h) rfl (Or.inl ⟨by rfl, ?_⟩) ?_ ?_; rotate_left 2; (· rintro _ rfl; go_simp; with_reducible rfl); (· simp only [Act.put, List.setIfInBounds_toArray, List.set_cons_zero, List.set_cons_succ, i64_w, i32_w]; rfl))
      (refine seq_l (some 29) (v := ?_) (a' := ?_) rfl rfl (fun _ _ _ h => h) rfl (Or.inl ⟨by rfl, ?_⟩) ?_ ?_; rotate_left 2; (· rintro _ rfl; go_simp; with_reducible rfl); (· simp only [Act.put, List.setIfInBounds_toArray, List.set_cons_zero, List.set_cons_succ, i64_w, i32_w]; rfl))
      (refine seq_l (some 6) (v := ?_) (a' := ?_) rfl rfl (fun _ _ _ h => h) rfl (Or.inl ⟨by rfl, ?_⟩) ?_ ?_; rotate_left 2; (· rintro _ rfl; go_simp; with_reducible rfl); (· simp only [Act.put, List.setIfInBounds_toArray, List.set_cons_zero, List.set_cons_succ, i64_w, i32_w]; rfl))
      refine seq_nil ?_
      clear hq0 hq1 hq2 hq3 hq5 hq6 hx0 hx1 hw1
      have hw1 := Hw1.out
      have hn1 : ∀ w', Below w.heap.size w w' → BB.R 32 w' w.heap.size (fun _ => True) (.slice A0 n0 c0) pre → ¬ isRec (l.drop a) → ScanPost w l (.returned (.tuple #[.slice A0 n0 c0, .int .i64 a])) w' := fun w' hb hO hno => Fin.out w' hb hO (okF_norec _ HBd.out hno)
      have Fin2 := Lib.hid hn1
      clear hn1
      have hb1 : Below w.heap.size w wr.drew := HB2.out.trans ((below_drew (Below.refl wr.heap.size wr)).mono HB2.out.size)
      have HB3 := Lib.hid hb1
      have HO3 := Lib.hid (Kd.R_below HO.out (below_drew (Below.refl wr.heap.size wr)))
      clear hb1
      by_cases h6 : (m : Int) - a - 6 < N
      · have HF := Lib.hid (Fin2.out _ HB3.out HO3.out (fun h => by have := h.2.1; rw [HNe.out, List.length_drop, Hml.out] at this; omega))
        have hd6 : decide ((m : Int) - a - 6 < N) = true := decide_eq_true h6
        clear h6 h2
        go_wp2_with fail
        go_ret2
        exact HF.out
      · have hd6 : decide ((m : Int) - a - 6 < N) = false := decide_eq_false h6
        have hNm : a + N + 6 ≤ m := by omega
        clear h6 h2
        have hw4 : IntKind.i64.wrap ((a : Int) + 2) = (a : Int) + 2 := IntWalk.i64_in _ (by omega)
        have hw5 : IntKind.i64.wrap ((a : Int) + 2 + N) = (a : Int) + 2 + N := IntWalk.i64_in _ (by omega)
        obtain ⟨A5, n5, c5, hcut, hn5, hn5c, hC5⟩ := cutC_mid (P := Try.prog) (d := Kd.int .u8) (A := some ad) (n := m) (c := c) (l := l) 32 5 Try.underlying32 Hi.out Hsz.out ((a : Int) + 2) ((a : Int) + 2 + N) Hml.out hmc (by omega) (by omega) (by omega)
        have hC6 := hC5 _ (C_kp HC.out HB3.out)
        have heq : (l.take ((a : Int) + 2 + N).toNat).drop ((a : Int) + 2).toNat = ((l.drop a).drop 2).take N := by
          rw [show ((a : Int) + 2 + N).toNat = a + 2 + N by omega, show ((a : Int) + 2).toNat = a + 2 by omega, List.drop_take, List.drop_drop, show a + 2 + N - (a + 2) = N by omega]
        rw [heq] at hC6
        have hnN : n5 = N := by rw [hn5.out]; omega
        subst hnN
        have HC6 := Lib.hid hC6
        have Hc5 := Lib.hid hn5c
        have hbb : BR (((l.drop a).drop 2).take n5) := (HBd.out.drop _).take _
        have Hbb := Lib.hid hbb
        clear hC5 hC6 heq hn5 hn5c hbb
        go_wp2_with (at_builtin; refine ev_rows .u8 1 wr.heap.size 32 5 _ _ rfl rfl Try.underlying32 A_info5 (by decide) rfl rfl (R_lit0 (Kd.int .u8) 5 wr.drew) (Kd.C_alloc HC6.out _) (fun _ _ => trivial) (by simp) (by simp; omega) ?_; intro v1 w1 ho1 hb1 _ _)
        have hb4 : Below wr.heap.size wr w1 := (below_drew (below_alloc (Below.refl wr.heap.size wr) (.cells #[] 5))).trans hb1
        rw [List.nil_append] at ho1
        obtain ⟨A7, n7, c7, rfl, hn7⟩ : ∃ A7 n7 c7, v1 = .slice A7 n7 c7 ∧ n7 = n5 := by
          obtain ⟨A3, c3, rfl⟩ := Kd.R_slice ho1
          exact ⟨A3, _, c3, rfl, by rw [List.length_take, List.length_drop, List.length_drop]; have := Hml.out; omega⟩
        have hr7 := Kd.R_reads' ho1
        have HR7 := Lib.hid ho1
        have Hn7 := Lib.hid hn7
        have hb5 : Below w.heap.size w w1 := HB2.out.trans (hb4.mono HB2.out.size)
        have HB5 := Lib.hid hb5
        have HO5 := Lib.hid (Kd.R_below HO.out hb4)
        have hc7 := hr7.2.1
        have HC7 := Lib.hid (show (Kd.int .u8).C w1 A7 n7 (((l.drop a).drop 2).take n5) by have := hr7.2.2; rwa [← hr7.1] at this)
        have hn76 : n7 ≤ 1000000 := by omega
        clear hb1 hb4 ho1 hr7 hn7 hb5 hcut hw4 hw5
        refine (enc_ref w1 A7 n7 c7 _ Hbb.out HC7.out hc7 hn76).mono ?_
        rintro e w2 ⟨v2, hE, hR8, hB8⟩
        cases hok : okJ (((l.drop a).drop 2).take n5) with
        | false =>
          rw [hok, if_neg (by decide)] at hE
          subst hE
          have HF := Lib.hid (Fin2.out w2 (HB5.out.trans (hB8.mono HB5.out.size)) (Kd.R_below HO5.out hB8) (fun h => by have := h.2.2.1; rw [HNe.out, hok] at this; cases this))
          clear hok hR8 hB8
          go_wp2_with fail
          refine seq_start (fun w' => w' = _) [] [(0, 1), (1, 1), (2, 1), (3, 1), (4, 1), (5, 1), (6, 1), (7, 1), (8, 1), (9, 1), (10, 1), (11, 1), (12, 1), (13, 1), (14, 1)] (by kernel_rfl) (by kernel_rfl) rfl ?_
          intro _
          (refine seq_l (some 54) (v := ?_) (a' := ?_) rfl rfl (fun _ _ _ h => h) rfl (Or.inl ⟨by rfl, ?_⟩) ?_ ?_; rotate_left 2; (· rintro _ rfl; go_simp; with_reducible rfl); (· simp only [Act.put, List.setIfInBounds_toArray, List.set_cons_zero, List.set_cons_succ, i64_w, i32_w]; rfl))
          (refine seq_l (some 55) (v := ?_) (a' := ?_) rfl rfl (fun _ _ _ h => h) rfl (Or.inl ⟨by rfl, ?_⟩) ?_ ?_; rotate_left 2; (· rintro _ rfl; go_simp; with_reducible rfl); (· simp only [Act.put, List.setIfInBounds_toArray, List.set_cons_zero, List.set_cons_succ, i64_w, i32_w]; rfl))
          (refine seq_l (some 56) (v := ?_) (a' := ?_) rfl rfl (fun _ _ _ h => h) rfl (Or.inl ⟨by rfl, ?_⟩) ?_ ?_; rotate_left 2; (· rintro _ rfl; go_simp; with_reducible rfl); (· simp only [Act.put, List.setIfInBounds_toArray, List.set_cons_zero, List.set_cons_succ, i64_w, i32_w]; rfl))
          first | (refine seq_l (some 57) (v := ?_) (a' := ?_) rfl rfl (fun _ _ _ h => h) rfl (Or.inl ⟨by rfl, ?_⟩) ?_ ?_; rotate_left 2; (· rintro _ rfl; go_simp; with_reducible rfl); (· simp only [Act.put, List.setIfInBounds_toArray, List.set_cons_zero, List.set_cons_succ, i64_w, i32_w]; rfl)) | (refine seq_l (some 57) (v := undef) (a' := ?_) rfl rfl (fun _ _ _ h => h) rfl (Or.inr ⟨by rfl, rfl⟩) ?_ ?_; rotate_left; (· simp only [Act.put, List.setIfInBounds_toArray, List.set_cons_zero, List.set_cons_succ, i64_w, i32_w]; rfl))
          first | (refine seq_l (some 58) (v := ?_) (a' := ?_) rfl rfl (fun _ _ _ h => h) rfl (Or.inl ⟨by rfl, ?_⟩) ?_ ?_; rotate_left 2; (· rintro _ rfl; go_simp; with_reducible rfl); (· simp only [Act.put, List.setIfInBounds_toArray, List.set_cons_zero, List.set_cons_succ, i64_w, i32_w]; rfl)) | (refine seq_l (some 58) (v := undef) (a' := ?_) rfl rfl (fun _ _ _ h => h) rfl (Or.inr ⟨by rfl, rfl⟩) ?_ ?_; rotate_left; (· simp only [Act.put, List.setIfInBounds_toArray, List.set_cons_zero, List.set_cons_succ, i64_w, i32_w]; rfl))
          first | (refine seq_l (some 59) (v := ?_) (a' := ?_) rfl rfl (fun _ _ _ h => h) rfl (Or.inl ⟨by rfl, ?_⟩) ?_ ?_; rotate_left 2; (· rintro _ rfl; go_simp; with_reducible rfl); (· simp only [Act.put, List.setIfInBounds_toArray, List.set_cons_zero, List.set_cons_succ, i64_w, i32_w]; rfl)) | (refine seq_l (some 59) (v := undef) (a' := ?_) rfl rfl (fun _ _ _ h => h) rfl (Or.inr ⟨by rfl, rfl⟩) ?_ ?_; rotate_left; (· simp only [Act.put, List.setIfInBounds_toArray, List.set_cons_zero, List.set_cons_succ, i64_w, i32_w]; rfl))
          first | (refine seq_l (some 60) (v := ?_) (a' := ?_) rfl rfl (fun _ _ _ h => h) rfl (Or.inl ⟨by rfl, ?_⟩) ?_ ?_; rotate_left 2; (· rintro _ rfl; go_simp; with_reducible rfl); (· simp only [Act.put, List.setIfInBounds_toArray, List.set_cons_zero, List.set_cons_succ, i64_w, i32_w]; rfl)) | (refine seq_l (some 60) (v := undef) (a' := ?_) rfl rfl (fun _ _ _ h => h) rfl (Or.inr ⟨by rfl, rfl⟩) ?_ ?_; rotate_left; (· simp only [Act.put, List.setIfInBounds_toArray, List.set_cons_zero, List.set_cons_succ, i64_w, i32_w]; rfl))
          first | (refine seq_l (some 61) (v := ?_) (a' := ?_) rfl rfl (fun _ _ _ h => h) rfl (Or.inl ⟨by rfl, ?_⟩) ?_ ?_; rotate_left 2; (· rintro _ rfl; go_simp; with_reducible rfl); (· simp only [Act.put, List.setIfInBounds_toArray, List.set_cons_zero, List.set_cons_succ, i64_w, i32_w]; rfl)) | (refine seq_l (some 61) (v := undef) (a' := ?_) rfl rfl (fun _ _ _ h => h) rfl (Or.inr ⟨by rfl, rfl⟩) ?_ ?_; rotate_left; (· simp only [Act.put, List.setIfInBounds_toArray, List.set_cons_zero, List.set_cons_succ, i64_w, i32_w]; rfl))
          first | (refine seq_l (some 62) (v := ?_) (a' := ?_) rfl rfl (fun _ _ _ h => h) rfl (Or.inl ⟨by rfl, ?_⟩) ?_ ?_; rotate_left 2; (· rintro _ rfl; go_simp; with_reducible rfl); (· simp only [Act.put, List.setIfInBounds_toArray, List.set_cons_zero, List.set_cons_succ, i64_w, i32_w]; rfl)) | (refine seq_l (some 62) (v := undef) (a' := ?_) rfl rfl (fun _ _ _ h => h) rfl (Or.inr ⟨by rfl, rfl⟩) ?_ ?_; rotate_left; (· simp only [Act.put, List.setIfInBounds_toArray, List.set_cons_zero, List.set_cons_succ, i64_w, i32_w]; rfl))
          first | (refine seq_l (some 63) (v := ?_) (a' := ?_) rfl rfl (fun _ _ _ h => h) rfl (Or.inl ⟨by rfl, ?_⟩) ?_ ?_; rotate_left 2; (· rintro _ rfl; go_simp; with_reducible rfl); (· simp only [Act.put, List.setIfInBounds_toArray, List.set_cons_zero, List.set_cons_succ, i64_w, i32_w]; rfl)) | (refine seq_l (some 63) (v := undef) (a' := ?_) rfl rfl (fun _ _ _ h => h) rfl (Or.inr ⟨by rfl, rfl⟩) ?_ ?_; rotate_left; (· simp only [Act.put, List.setIfInBounds_toArray, List.set_cons_zero, List.set_cons_succ, i64_w, i32_w]; rfl))
          first | (refine seq_l (some 64) (v := ?_) (a' := ?_) rfl rfl (fun _ _ _ h => h) rfl (Or.inl ⟨by rfl, ?_⟩) ?_ ?_; rotate_left 2; (· rintro _ rfl; go_simp; with_reducible rfl); (· simp only [Act.put, List.setIfInBounds_toArray, List.set_cons_zero, List.set_cons_succ, i64_w, i32_w]; rfl)) | (refine seq_l (some 64) (v := undef) (a' := ?_) rfl rfl (fun _ _ _ h => h) rfl (Or.inr ⟨by rfl, rfl⟩) ?_ ?_; rotate_left; (· simp only [Act.put, List.setIfInBounds_toArray, List.set_cons_zero, List.set_cons_succ, i64_w, i32_w]; rfl))
          first | (refine seq_l (some 65) (v := ?_) (a' := ?_) rfl rfl (fun _ _ _ h => h) rfl (Or.inl ⟨by rfl, ?_⟩) ?_ ?_; rotate_left 2; (· rintro _ rfl; go_simp; with_reducible rfl); (· simp only [Act.put, List.setIfInBounds_toArray, List.set_cons_zero, List.set_cons_succ, i64_w, i32_w]; rfl)) | (refine seq_l (some 65) (v := undef) (a' := ?_) rfl rfl (fun _ _ _ h => h) rfl (Or.inr ⟨by rfl, rfl⟩) ?_ ?_; rotate_left; (· simp only [Act.put, List.setIfInBounds_toArray, List.set_cons_zero, List.set_cons_succ, i64_w, i32_w]; rfl))
          first | (refine seq_l (some 66) (v := ?_) (a' := ?_) rfl rfl (fun _ _ _ h => h) rfl (Or.inl ⟨by rfl, ?_⟩) ?_ ?_; rotate_left 2; (· rintro _ rfl; go_simp; with_reducible rfl); (· simp only [Act.put, List.setIfInBounds_toArray, List.set_cons_zero, List.set_cons_succ, i64_w, i32_w]; rfl)) | (refine seq_l (some 66) (v := undef) (a' := ?_) rfl rfl (fun _ _ _ h => h) rfl (Or.inr ⟨by rfl, rfl⟩) ?_ ?_; rotate_left; (· simp only [Act.put, List.setIfInBounds_toArray, List.set_cons_zero, List.set_cons_succ, i64_w, i32_w]; rfl))
          first | (refine seq_l (some 67) (v := ?_) (a' := ?_) rfl rfl (fun _ _ _ h => h) rfl (Or.inl ⟨by rfl, ?_⟩) ?_ ?_; rotate_left 2; (· rintro _ rfl; go_simp; with_reducible rfl); (· simp only [Act.put, List.setIfInBounds_toArray, List.set_cons_zero, List.set_cons_succ, i64_w, i32_w]; rfl)) | (refine seq_l (some 67) (v := undef) (a' := ?_) rfl rfl (fun _ _ _ h => h) rfl (Or.inr ⟨by rfl, rfl⟩) ?_ ?_; rotate_left; (· simp only [Act.put, List.setIfInBounds_toArray, List.set_cons_zero, List.set_cons_succ, i64_w, i32_w]; rfl))
          (refine seq_l (some 68) (v := ?_) (a' := ?_) rfl rfl (fun _ _ _ h => h) rfl (Or.inl ⟨by rfl, ?_⟩) ?_ ?_; rotate_left 2; (· rintro _ rfl; go_simp; with_reducible rfl); (· simp only [Act.put, List.setIfInBounds_toArray, List.set_cons_zero, List.set_cons_succ, i64_w, i32_w]; rfl))
          refine seq_nil ?_
          have HF2 := Lib.hid (show ScanPost w l (.returned (.tuple #[.slice A0 n0 c0, .int .i64 a])) w2.drew by
            obtain ⟨v, h1, h2, h3⟩ := HF.out
            exact ⟨v, h1, Kd.R_drew h2, below_drew h3⟩)
          clear HF
          go_wp2_with fail
          go_ret2
          exact HF2.out
        | true =>
          rw [hok, if_pos rfl] at hE hR8
          subst hE
          have Hok := Lib.hid hok
          clear hok
          have hb9 := HB5.out.trans (hB8.mono HB5.out.size)
          obtain ⟨A8, n8, c8, rfl, hn8⟩ : ∃ A8 n8 c8, v2 = .slice A8 n8 c8 ∧ n8 = (recJ (((l.drop a).drop 2).take n5)).length := by
            obtain ⟨A3, c3, rfl⟩ := Kd.R_slice hR8
            exact ⟨A3, _, c3, rfl, rfl⟩
          have hC8 := (Kd.R_reads' hR8).2.2
          rw [← hn8] at hC8
          have HO9 := Lib.hid (Kd.R_below (Kd.R_below HO5.out hB8) (below_drew (Below.refl w2.heap.size w2)))
          have HR9 := Lib.hid (Kd.R_lower (Kd.R_below (Kd.R_below HR7.out hB8) (below_drew (Below.refl w2.heap.size w2))) HB2.out.size)
          have HB9 := Lib.hid (show Below w.heap.size w w2.drew from below_drew hb9)
          have hw6 : IntKind.i64.wrap ((a : Int) + n5) = (a : Int) + n5 := IntWalk.i64_in _ (by omega)
          have hw7 : IntKind.i64.wrap ((a : Int) + n5 + 6) = (a : Int) + n5 + 6 := IntWalk.i64_in _ (by omega)
          obtain ⟨A6, n6, c6, hcut, hn6, hn6c, hC6⟩ := cutC_mid (P := Try.prog) (d := Kd.int .u8) (A := some ad) (n := m) (c := c) (l := l) 32 5 Try.underlying32 Hi.out Hsz.out (a : Int) ((a : Int) + n5 + 6) Hml.out hmc (by omega) (by omega) (by omega)
          have hC9 := hC6 _ (C_kp HC.out (HB5.out.trans (hB8.mono HB5.out.size)))
          have heq : (l.take ((a : Int) + n5 + 6).toNat).drop ((a : Int)).toNat = (l.drop a).take (n5 + 6) := by
            rw [show ((a : Int) + n5 + 6).toNat = a + n5 + 6 by omega, show ((a : Int)).toNat = a by omega, List.drop_take, show a + n5 + 6 - a = n5 + 6 by omega]
          rw [heq] at hC9
          have s1 := Kd.C_string (P := Try.prog) (c := c8) Try.underlying32 Try.underlying5 Try.underlying9 (Kd.C_drew hC8)
          have s2 := Kd.C_string (P := Try.prog) (c := c6) Try.underlying32 Try.underlying5 Try.underlying9 (Kd.C_drew hC9)
          have HS := Lib.hid (str_eq _ _ (recJ_br _ Hbb.out) (HBd.out.take (n5 + 6)))
          clear hC8 hC9 heq hC6 hR8 hB8 hb9 hn6 hn6c hn8
          by_cases hrec : recJ (((l.drop a).drop 2).take n5) = (l.drop a).take (n5 + 6)
          · have hst : (!((strOfNums (recJ (((l.drop a).drop 2).take n5))).toList == (strOfNums ((l.drop a).take (n5 + 6))).toList)) = false := by
              rw [Bool.not_eq_false', beq_iff_eq]
              exact HS.out.2 hrec
            have hR : isRec (l.drop a) := ⟨by rw [List.length_drop, Hml.out]; omega, by rw [HNe.out, List.length_drop, Hml.out]; omega, by rw [HNe.out]; exact Hok.out, by rw [HNe.out]; exact hrec⟩
            obtain ⟨hoF, hbo⟩ := okF_rec _ HBd.out hR
            rw [HNe.out] at hbo
            have hstep := HI.out.step hoF
            rw [hbo, show (((l.drop a).drop 2).take n5).length = n5 by rw [List.length_take, List.length_drop, List.length_drop, Hml.out]; omega] at hstep
            have Hst := Lib.hid hstep
            have Hhst := Lib.hid hst
            have hap := Kd.R_apart' HR9.out (Kd.R_typed HO9.out) (by decide)
            have Hap := Lib.hid hap
            have hpl : (pre.length + 1) * 24 ≤ 140737488355328 := by have := HI.out.2.1; omega
            have Hpl := Lib.hid hpl
            have hle : w.heap.size ≤ w2.drew.heap.size := HB9.out.size
            clear hR hoF hbo hstep hst hap hpl hrec
            generalize hbd : ((l.drop a).drop 2).take n5 = body at Hst Hap s1 Hhst HR9 HR7 ⊢
            generalize (l.drop a).take (n5 + 6) = rec6 at s2 Hhst
            go_wp2_with fail
            refine seq_start (fun w' => w' = _) [] [(0, 1), (1, 1), (2, 1), (3, 1), (4, 1), (5, 1), (6, 1), (7, 1), (8, 1), (9, 1), (10, 1), (11, 1), (12, 1), (13, 1), (14, 1)] (by kernel_rfl) (by kernel_rfl) rfl ?_
            intro _
            (refine seq_l (some 54) (v := ?_) (a' := ?_) rfl rfl (fun _ _ _ h => h) rfl (Or.inl ⟨by rfl, ?_⟩) ?_ ?_; rotate_left 2; (· rintro _ rfl; go_simp; with_reducible rfl); (· simp only [Act.put, List.setIfInBounds_toArray, List.set_cons_zero, List.set_cons_succ, i64_w, i32_w]; rfl))
            (refine seq_l (some 55) (v := ?_) (a' := ?_) rfl rfl (fun _ _ _ h => h) rfl (Or.inl ⟨by rfl, ?_⟩) ?_ ?_; rotate_left 2; (· rintro _ rfl; go_simp; with_reducible rfl); (· simp only [Act.put, List.setIfInBounds_toArray, List.set_cons_zero, List.set_cons_succ, i64_w, i32_w]; rfl))
            (refine seq_l (some 56) (v := ?_) (a' := ?_) rfl rfl (fun _ _ _ h => h) rfl (Or.inl ⟨by rfl, ?_⟩) ?_ ?_; rotate_left 2; (· rintro _ rfl; go_simp; with_reducible rfl); (· simp only [Act.put, List.setIfInBounds_toArray, List.set_cons_zero, List.set_cons_succ, i64_w, i32_w]; rfl))
            first | (refine seq_l (some 57) (v := ?_) (a' := ?_) rfl rfl (fun _ _ _ h => h) rfl (Or.inl ⟨by rfl, ?_⟩) ?_ ?_; rotate_left 2; (· rintro _ rfl; go_simp; with_reducible rfl); (· simp only [Act.put, List.setIfInBounds_toArray, List.set_cons_zero, List.set_cons_succ, i64_w, i32_w]; rfl)) | (refine seq_l (some 57) (v := undef) (a' := ?_) rfl rfl (fun _ _ _ h => h) rfl (Or.inr ⟨by rfl, rfl⟩) ?_ ?_; rotate_left; (· simp only [Act.put, List.setIfInBounds_toArray, List.set_cons_zero, List.set_cons_succ, i64_w, i32_w]; rfl))
            first | (refine seq_l (some 58) (v := ?_) (a' := ?_) rfl rfl (fun _ _ _ h => h) rfl (Or.inl ⟨by rfl, ?_⟩) ?_ ?_; rotate_left 2; (· rintro _ rfl; go_simp; with_reducible rfl); (· simp only [Act.put, List.setIfInBounds_toArray, List.set_cons_zero, List.set_cons_succ, i64_w, i32_w]; rfl)) | (refine seq_l (some 58) (v := undef) (a' := ?_) rfl rfl (fun _ _ _ h => h) rfl (Or.inr ⟨by rfl, rfl⟩) ?_ ?_; rotate_left; (· simp only [Act.put, List.setIfInBounds_toArray, List.set_cons_zero, List.set_cons_succ, i64_w, i32_w]; rfl))
            first | (refine seq_l (some 59) (v := ?_) (a' := ?_) rfl rfl (fun _ _ _ h => h) rfl (Or.inl ⟨by rfl, ?_⟩) ?_ ?_; rotate_left 2; (· rintro _ rfl; go_simp; with_reducible rfl); (· simp only [Act.put, List.setIfInBounds_toArray, List.set_cons_zero, List.set_cons_succ, i64_w, i32_w]; rfl)) | (refine seq_l (some 59) (v := undef) (a' := ?_) rfl rfl (fun _ _ _ h => h) rfl (Or.inr ⟨by rfl, rfl⟩) ?_ ?_; rotate_left; (· simp only [Act.put, List.setIfInBounds_toArray, List.set_cons_zero, List.set_cons_succ, i64_w, i32_w]; rfl))
            first | (refine seq_l (some 60) (v := ?_) (a' := ?_) rfl rfl (fun _ _ _ h => h) rfl (Or.inl ⟨by rfl, ?_⟩) ?_ ?_; rotate_left 2; (· rintro _ rfl; go_simp; with_reducible rfl); (· simp only [Act.put, List.setIfInBounds_toArray, List.set_cons_zero, List.set_cons_succ, i64_w, i32_w]; rfl)) | (refine seq_l (some 60) (v := undef) (a' := ?_) rfl rfl (fun _ _ _ h => h) rfl (Or.inr ⟨by rfl, rfl⟩) ?_ ?_; rotate_left; (· simp only [Act.put, List.setIfInBounds_toArray, List.set_cons_zero, List.set_cons_succ, i64_w, i32_w]; rfl))
            first | (refine seq_l (some 61) (v := ?_) (a' := ?_) rfl rfl (fun _ _ _ h => h) rfl (Or.inl ⟨by rfl, ?_⟩) ?_ ?_; rotate_left 2; (· rintro _ rfl; go_simp; with_reducible rfl); (· simp only [Act.put, List.setIfInBounds_toArray, List.set_cons_zero, List.set_cons_succ, i64_w, i32_w]; rfl)) | (refine seq_l (some 61) (v := undef) (a' := ?_) rfl rfl (fun _ _ _ h => h) rfl (Or.inr ⟨by rfl, rfl⟩) ?_ ?_; rotate_left; (· simp only [Act.put, List.setIfInBounds_toArray, List.set_cons_zero, List.set_cons_succ, i64_w, i32_w]; rfl))
            first | (refine seq_l (some 62) (v := ?_) (a' := ?_) rfl rfl (fun _ _ _ h => h) rfl (Or.inl ⟨by rfl, ?_⟩) ?_ ?_; rotate_left 2; (· rintro _ rfl; go_simp; with_reducible rfl); (· simp only [Act.put, List.setIfInBounds_toArray, List.set_cons_zero, List.set_cons_succ, i64_w, i32_w]; rfl)) | (refine seq_l (some 62) (v := undef) (a' := ?_) rfl rfl (fun _ _ _ h => h) rfl (Or.inr ⟨by rfl, rfl⟩) ?_ ?_; rotate_left; (· simp only [Act.put, List.setIfInBounds_toArray, List.set_cons_zero, List.set_cons_succ, i64_w, i32_w]; rfl))
            first | (refine seq_l (some 63) (v := ?_) (a' := ?_) rfl rfl (fun _ _ _ h => h) rfl (Or.inl ⟨by rfl, ?_⟩) ?_ ?_; rotate_left 2; (· rintro _ rfl; go_simp; with_reducible rfl); (· simp only [Act.put, List.setIfInBounds_toArray, List.set_cons_zero, List.set_cons_succ, i64_w, i32_w]; rfl)) | (refine seq_l (some 63) (v := undef) (a' := ?_) rfl rfl (fun _ _ _ h => h) rfl (Or.inr ⟨by rfl, rfl⟩) ?_ ?_; rotate_left; (· simp only [Act.put, List.setIfInBounds_toArray, List.set_cons_zero, List.set_cons_succ, i64_w, i32_w]; rfl))
            first | (refine seq_l (some 64) (v := ?_) (a' := ?_) rfl rfl (fun _ _ _ h => h) rfl (Or.inl ⟨by rfl, ?_⟩) ?_ ?_; rotate_left 2; (· rintro _ rfl; go_simp; with_reducible rfl); (· simp only [Act.put, List.setIfInBounds_toArray, List.set_cons_zero, List.set_cons_succ, i64_w, i32_w]; rfl)) | (refine seq_l (some 64) (v := undef) (a' := ?_) rfl rfl (fun _ _ _ h => h) rfl (Or.inr ⟨by rfl, rfl⟩) ?_ ?_; rotate_left; (· simp only [Act.put, List.setIfInBounds_toArray, List.set_cons_zero, List.set_cons_succ, i64_w, i32_w]; rfl))
            first | (refine seq_l (some 65) (v := ?_) (a' := ?_) rfl rfl (fun _ _ _ h => h) rfl (Or.inl ⟨by rfl, ?_⟩) ?_ ?_; rotate_left 2; (· rintro _ rfl; go_simp; with_reducible rfl); (· simp only [Act.put, List.setIfInBounds_toArray, List.set_cons_zero, List.set_cons_succ, i64_w, i32_w]; rfl)) | (refine seq_l (some 65) (v := undef) (a' := ?_) rfl rfl (fun _ _ _ h => h) rfl (Or.inr ⟨by rfl, rfl⟩) ?_ ?_; rotate_left; (· simp only [Act.put, List.setIfInBounds_toArray, List.set_cons_zero, List.set_cons_succ, i64_w, i32_w]; rfl))
            first | (refine seq_l (some 66) (v := ?_) (a' := ?_) rfl rfl (fun _ _ _ h => h) rfl (Or.inl ⟨by rfl, ?_⟩) ?_ ?_; rotate_left 2; (· rintro _ rfl; go_simp; with_reducible rfl); (· simp only [Act.put, List.setIfInBounds_toArray, List.set_cons_zero, List.set_cons_succ, i64_w, i32_w]; rfl)) | (refine seq_l (some 66) (v := undef) (a' := ?_) rfl rfl (fun _ _ _ h => h) rfl (Or.inr ⟨by rfl, rfl⟩) ?_ ?_; rotate_left; (· simp only [Act.put, List.setIfInBounds_toArray, List.set_cons_zero, List.set_cons_succ, i64_w, i32_w]; rfl))
            first | (refine seq_l (some 67) (v := ?_) (a' := ?_) rfl rfl (fun _ _ _ h => h) rfl (Or.inl ⟨by rfl, ?_⟩) ?_ ?_; rotate_left 2; (· rintro _ rfl; go_simp; with_reducible rfl); (· simp only [Act.put, List.setIfInBounds_toArray, List.set_cons_zero, List.set_cons_succ, i64_w, i32_w]; rfl)) | (refine seq_l (some 67) (v := undef) (a' := ?_) rfl rfl (fun _ _ _ h => h) rfl (Or.inr ⟨by rfl, rfl⟩) ?_ ?_; rotate_left; (· simp only [Act.put, List.setIfInBounds_toArray, List.set_cons_zero, List.set_cons_succ, i64_w, i32_w]; rfl))
            (refine seq_l (some 68) (v := ?_) (a' := ?_) rfl rfl (fun _ _ _ h => h) rfl (Or.inl ⟨by rfl, ?_⟩) ?_ ?_; rotate_left 2; (· rintro _ rfl; go_simp; with_reducible rfl); (· simp only [Act.put, List.setIfInBounds_toArray, List.set_cons_zero, List.set_cons_succ, i64_w, i32_w]; rfl))
            refine seq_nil ?_
            have hst := Hhst.out
            rw [hst]
            clear hst s1 s2
            go_wp2_with (at_builtin; refine ev_appR (v := .slice A0 n0 c0) BB w.heap.size rfl _ _ 119 32 (.slice none 0 0) 24 rfl Try.underlying119 A_info32 rfl Nat.one_pos (by decide) (p := body) (cs := [.slice A7 n7 c7]) rfl rfl ⟨_, rfl, Kd.R_mono Hap.out (fun _ h => h.2)⟩ HO9.out hle Hpl.out ?_; intro A10 n10 c10 w3 _ hO3 hB3 _)
            have HO10 := Lib.hid hO3
            have HB10 := Lib.hid (HB9.out.trans hB3)
            clear hO3 hB3
            go_roundw
            case rel => exact ⟨_, a + (n5 + 6), A10, n10, c10, rfl, by go_num, Hst, HO10.out, HB10⟩
            case measure => have h1 := Hml.out; simp [intOf]; omega
          · have HF := Lib.hid (Fin2.out w2.drew HB9.out HO9.out (fun h => hrec (by have := h.2.2.2; rwa [HNe.out] at this)))
            have hst : (!((strOfNums (recJ (((l.drop a).drop 2).take n5))).toList == (strOfNums ((l.drop a).take (n5 + 6))).toList)) = true := by
              rw [Bool.not_eq_true', beq_eq_false_iff_ne]
              exact fun h => hrec (HS.out.1 h)
            have Hhst := Lib.hid hst
            clear hrec hst
            generalize hbd : ((l.drop a).drop 2).take n5 = body at s1 Hhst HR9 HR7 ⊢
            generalize (l.drop a).take (n5 + 6) = rec6 at s2 Hhst
            go_wp2_with fail
            refine seq_start (fun w' => w' = _) [] [(0, 1), (1, 1), (2, 1), (3, 1), (4, 1), (5, 1), (6, 1), (7, 1), (8, 1), (9, 1), (10, 1), (11, 1), (12, 1), (13, 1), (14, 1)] (by kernel_rfl) (by kernel_rfl) rfl ?_
            intro _
            (refine seq_l (some 54) (v := ?_) (a' := ?_) rfl rfl (fun _ _ _ h => h) rfl (Or.inl ⟨by rfl, ?_⟩) ?_ ?_; rotate_left 2; (· rintro _ rfl; go_simp; with_reducible rfl); (· simp only [Act.put, List.setIfInBounds_toArray, List.set_cons_zero, List.set_cons_succ, i64_w, i32_w]; rfl))
            (refine seq_l (some 55) (v := ?_) (a' := ?_) rfl rfl (fun _ _ _ h => h) rfl (Or.inl ⟨by rfl, ?_⟩) ?_ ?_; rotate_left 2; (· rintro _ rfl; go_simp; with_reducible rfl); (· simp only [Act.put, List.setIfInBounds_toArray, List.set_cons_zero, List.set_cons_succ, i64_w, i32_w]; rfl))
            (refine seq_l (some 56) (v := ?_) (a' := ?_) rfl rfl (fun _ _ _ h => h) rfl (Or.inl ⟨by rfl, ?_⟩) ?_ ?_; rotate_left 2; (· rintro _ rfl; go_simp; with_reducible rfl); (· simp only [Act.put, List.setIfInBounds_toArray, List.set_cons_zero, List.set_cons_succ, i64_w, i32_w]; rfl))
            first | (refine seq_l (some 57) (v := ?_) (a' := ?_) rfl rfl (fun _ _ _ h => h) rfl (Or.inl ⟨by rfl, ?_⟩) ?_ ?_; rotate_left 2; (· rintro _ rfl; go_simp; with_reducible rfl); (· simp only [Act.put, List.setIfInBounds_toArray, List.set_cons_zero, List.set_cons_succ, i64_w, i32_w]; rfl)) | (refine seq_l (some 57) (v := undef) (a' := ?_) rfl rfl (fun _ _ _ h => h) rfl (Or.inr ⟨by rfl, rfl⟩) ?_ ?_; rotate_left; (· simp only [Act.put, List.setIfInBounds_toArray, List.set_cons_zero, List.set_cons_succ, i64_w, i32_w]; rfl))
            first | (refine seq_l (some 58) (v := ?_) (a' := ?_) rfl rfl (fun _ _ _ h => h) rfl (Or.inl ⟨by rfl, ?_⟩) ?_ ?_; rotate_left 2; (· rintro _ rfl; go_simp; with_reducible rfl); (· simp only [Act.put, List.setIfInBounds_toArray, List.set_cons_zero, List.set_cons_succ, i64_w, i32_w]; rfl)) | (refine seq_l (some 58) (v := undef) (a' := ?_) rfl rfl (fun _ _ _ h => h) rfl (Or.inr ⟨by rfl, rfl⟩) ?_ ?_; rotate_left; (· simp only [Act.put, List.setIfInBounds_toArray, List.set_cons_zero, List.set_cons_succ, i64_w, i32_w]; rfl))
            first | (refine seq_l (some 59) (v := ?_) (a' := ?_) rfl rfl (fun _ _ _ h => h) rfl (Or.inl ⟨by rfl, ?_⟩) ?_ ?_; rotate_left 2; (· rintro _ rfl; go_simp; with_reducible rfl); (· simp only [Act.put, List.setIfInBounds_toArray, List.set_cons_zero, List.set_cons_succ, i64_w, i32_w]; rfl)) | (refine seq_l (some 59) (v := undef) (a' := ?_) rfl rfl (fun _ _ _ h => h) rfl (Or.inr ⟨by rfl, rfl⟩) ?_ ?_; rotate_left; (· simp only [Act.put, List.setIfInBounds_toArray, List.set_cons_zero, List.set_cons_succ, i64_w, i32_w]; rfl))
            first | (refine seq_l (some 60) (v := ?_) (a' := ?_) rfl rfl (fun _ _ _ h => h) rfl (Or.inl ⟨by rfl, ?_⟩) ?_ ?_; rotate_left 2; (· rintro _ rfl; go_simp; with_reducible rfl); (· simp only [Act.put, List.setIfInBounds_toArray, List.set_cons_zero, List.set_cons_succ, i64_w, i32_w]; rfl)) | (refine seq_l (some 60) (v := undef) (a' := ?_) rfl rfl (fun _ _ _ h => h) rfl (Or.inr ⟨by rfl, rfl⟩) ?_ ?_; rotate_left; (· simp only [Act.put, List.setIfInBounds_toArray, List.set_cons_zero, List.set_cons_succ, i64_w, i32_w]; rfl))
            first | (refine seq_l (some 61) (v := ?_) (a' := ?_) rfl rfl (fun _ _ _ h => h) rfl (Or.inl ⟨by rfl, ?_⟩) ?_ ?_; rotate_left 2; (· rintro _ rfl; go_simp; with_reducible rfl); (· simp only [Act.put, List.setIfInBounds_toArray, List.set_cons_zero, List.set_cons_succ, i64_w, i32_w]; rfl)) | (refine seq_l (some 61) (v := undef) (a' := ?_) rfl rfl (fun _ _ _ h => h) rfl (Or.inr ⟨by rfl, rfl⟩) ?_ ?_; rotate_left; (· simp only [Act.put, List.setIfInBounds_toArray, List.set_cons_zero, List.set_cons_succ, i64_w, i32_w]; rfl))
            first | (refine seq_l (some 62) (v := ?_) (a' := ?_) rfl rfl (fun _ _ _ h => h) rfl (Or.inl ⟨by rfl, ?_⟩) ?_ ?_; rotate_left 2; (· rintro _ rfl; go_simp; with_reducible rfl); (· simp only [Act.put, List.setIfInBounds_toArray, List.set_cons_zero, List.set_cons_succ, i64_w, i32_w]; rfl)) | (refine seq_l (some 62) (v := undef) (a' := ?_) rfl rfl (fun _ _ _ h => h) rfl (Or.inr ⟨by rfl, rfl⟩) ?_ ?_; rotate_left; (· simp only [Act.put, List.setIfInBounds_toArray, List.set_cons_zero, List.set_cons_succ, i64_w, i32_w]; rfl))
            first | (refine seq_l (some 63) (v := ?_) (a' := ?_) rfl rfl (fun _ _ _ h => h) rfl (Or.inl ⟨by rfl, ?_⟩) ?_ ?_; rotate_left 2; (· rintro _ rfl; go_simp; with_reducible rfl); (· simp only [Act.put, List.setIfInBounds_toArray, List.set_cons_zero, List.set_cons_succ, i64_w, i32_w]; rfl)) | (refine seq_l (some 63) (v := undef) (a' := ?_) rfl rfl (fun _ _ _ h => h) rfl (Or.inr ⟨by rfl, rfl⟩) ?_ ?_; rotate_left; (· simp only [Act.put, List.setIfInBounds_toArray, List.set_cons_zero, List.set_cons_succ, i64_w, i32_w]; rfl))
            first | (refine seq_l (some 64) (v := ?_) (a' := ?_) rfl rfl (fun _ _ _ h => h) rfl (Or.inl ⟨by rfl, ?_⟩) ?_ ?_; rotate_left 2; (· rintro _ rfl; go_simp; with_reducible rfl); (· simp only [Act.put, List.setIfInBounds_toArray, List.set_cons_zero, List.set_cons_succ, i64_w, i32_w]; rfl)) | (refine seq_l (some 64) (v := undef) (a' := ?_) rfl rfl (fun _ _ _ h => h) rfl (Or.inr ⟨by rfl, rfl⟩) ?_ ?_; rotate_left; (· simp only [Act.put, List.setIfInBounds_toArray, List.set_cons_zero, List.set_cons_succ, i64_w, i32_w]; rfl))
            first | (refine seq_l (some 65) (v := ?_) (a' := ?_) rfl rfl (fun _ _ _ h => h) rfl (Or.inl ⟨by rfl, ?_⟩) ?_ ?_; rotate_left 2; (· rintro _ rfl; go_simp; with_reducible rfl); (· simp only [Act.put, List.setIfInBounds_toArray, List.set_cons_zero, List.set_cons_succ, i64_w, i32_w]; rfl)) | (refine seq_l (some 65) (v := undef) (a' := ?_) rfl rfl (fun _ _ _ h => h) rfl (Or.inr ⟨by rfl, rfl⟩) ?_ ?_; rotate_left; (· simp only [Act.put, List.setIfInBounds_toArray, List.set_cons_zero, List.set_cons_succ, i64_w, i32_w]; rfl))
            first | (refine seq_l (some 66) (v := ?_) (a' := ?_) rfl rfl (fun _ _ _ h => h) rfl (Or.inl ⟨by rfl, ?_⟩) ?_ ?_; rotate_left 2; (· rintro _ rfl; go_simp; with_reducible rfl); (· simp only [Act.put, List.setIfInBounds_toArray, List.set_cons_zero, List.set_cons_succ, i64_w, i32_w]; rfl)) | (refine seq_l (some 66) (v := undef) (a' := ?_) rfl rfl (fun _ _ _ h => h) rfl (Or.inr ⟨by rfl, rfl⟩) ?_ ?_; rotate_left; (· simp only [Act.put, List.setIfInBounds_toArray, List.set_cons_zero, List.set_cons_succ, i64_w, i32_w]; rfl))
            first | (refine seq_l (some 67) (v := ?_) (a' := ?_) rfl rfl (fun _ _ _ h => h) rfl (Or.inl ⟨by rfl, ?_⟩) ?_ ?_; rotate_left 2; (· rintro _ rfl; go_simp; with_reducible rfl); (· simp only [Act.put, List.setIfInBounds_toArray, List.set_cons_zero, List.set_cons_succ, i64_w, i32_w]; rfl)) | (refine seq_l (some 67) (v := undef) (a' := ?_) rfl rfl (fun _ _ _ h => h) rfl (Or.inr ⟨by rfl, rfl⟩) ?_ ?_; rotate_left; (· simp only [Act.put, List.setIfInBounds_toArray, List.set_cons_zero, List.set_cons_succ, i64_w, i32_w]; rfl))
            (refine seq_l (some 68) (v := ?_) (a' := ?_) rfl rfl (fun _ _ _ h => h) rfl (Or.inl ⟨by rfl, ?_⟩) ?_ ?_; rotate_left 2; (· rintro _ rfl; go_simp; with_reducible rfl); (· simp only [Act.put, List.setIfInBounds_toArray, List.set_cons_zero, List.set_cons_succ, i64_w, i32_w]; rfl))
            refine seq_nil ?_
            have hst := Hhst.out
            rw [hst]
            clear hst s1 s2
            go_wp2_with fail
            go_ret2
            exact HF.out
end Go.Proofs.Ytcplmaeicmmkgaa
