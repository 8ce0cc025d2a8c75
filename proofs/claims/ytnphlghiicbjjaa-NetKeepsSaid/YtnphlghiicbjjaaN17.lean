/- rutterlaw18: step: Double, Find, Put. -/
import Derived.Test.YtnphlghiicbjjaaN16
namespace Go.Proofs.Ytnphlghiicbjjaa
open Go Go.RowKit Go.Proofs.YtnphlghiicbjjaaW.PrintWords Go.Proofs.YtnphlghiicbjjaaW.PrintLast Go.Proofs.Ytnphlghiicbjjaa.PNetPlays
set_option linter.unusedVariables false
set_option linter.unusedSimpArgs false

set_option maxRecDepth 10000 in
set_option maxHeartbeats 4000000 in
theorem step_dbl_no (O : Nat → Prop) (w : World) (b mb : Nat) (xs : List S40) (r : Int) (q : Nat) (h : Both O w b mb xs r q) (hS : OkS xs) (hl : xs.length ≤ 100000) (κ i : Int) (l : List S40) (A : Option Addr) (c : Nat) (hk0 : 0 ≤ κ) (hk1 : κ ≤ 255) (hk : κ % 9 = 6)
    (hi : i < 0 ∨ (xs.length : Int) ≤ i) :
    Calls Try.prog 13 #[.pointer (some ⟨b, 0, none⟩), .pointer (some ⟨mb, 0, none⟩), .agg #[.int .u8 κ, .slice A l.length c, .int .i64 i]] w (StepPost O w b mb xs r q (xs, q)) := by
  have H := Lib.hid h
  have HS := Lib.hid hS
  clear h hS
  go_enter Try.func13, Try.ntmps13
  have hB1 : Below w.heap.size w (w.alloc (.cells #[.int .u8 κ, .slice A l.length c, .int .i64 i] 36)) := below_alloc (Below.refl _ _) _
  have T1 := Lib.hid (Two.below PN.stands QN.stands H.out hB1)
  have hA1 := abk w (.int .u8 κ) (.slice A l.length c) (.int .i64 i)
  have hz1 : w.heap.size < (w.alloc (.cells #[.int .u8 κ, .slice A l.length c, .int .i64 i] 36)).heap.size := by simp
  have HB1 := Lib.hid hB1
  clear hB1
  have d4 : (κ % 9 == 4) = false := beq_eq_false_iff_ne.2 (by omega)
  have d5 : (κ % 9 == 5) = false := beq_eq_false_iff_ne.2 (by omega)
  have d6 : (κ % 9 == 6) = true := beq_iff_eq.2 (by omega)
  clear hk
  go_wp2_with fail
  generalize w.alloc (.cells #[.int .u8 κ, .slice A l.length c, .int .i64 i] 36) = w1 at T1 hA1 hz1 HB1 ⊢
  obtain ⟨FF, hFF⟩ := T1.out.left
  have HFF := Lib.hid hFF
  clear hFF
  refine (dbl_no w1 FF b xs r q HFF.out i hi).mono ?_
  rintro e w2 ⟨rfl, hB2⟩
  have hA2 := hA1.below hB2
  have a2 := hA2.cell 2 _ rfl
  have T2 := Lib.hid (Two.below PN.stands QN.stands T1.out hB2)
  have HB2 := Lib.hid (HB1.out.trans (hB2.mono HB1.out.size))
  clear hA1 hA2 hB2
  go_wp2_with fail
  obtain ⟨GG, hGG⟩ := T2.out.right
  have HGG := Lib.hid hGG
  clear hGG
  refine (rdbl_no w2 GG mb _ r q HGG.out i (by rw [List.length_map]; exact hi)).mono ?_
  rintro e w4 ⟨rfl, hB4⟩
  have HT4 := Lib.hid (Two.below PN.stands QN.stands T2.out hB4)
  have HB4 := Lib.hid (HB2.out.trans (hB4.mono HB2.out.size))
  clear hB4 a2
  go_wp2_with fail
  go_ret
  exact ⟨rfl, HT4.out, KpO.of_below HB4.out⟩

set_option maxRecDepth 10000 in
set_option maxHeartbeats 4000000 in
theorem step_dbl_full (O : Nat → Prop) (w : World) (b mb : Nat) (xs : List S40) (r : Int) (q : Nat) (h : Both O w b mb xs r q) (hS : OkS xs) (hl : xs.length ≤ 100000) (κ i : Int) (l : List S40) (A : Option Addr) (c : Nat) (hk0 : 0 ≤ κ) (hk1 : κ ≤ 255) (hk : κ % 9 = 6)
    (h0 : 0 ≤ i) (hi : i < (xs.length : Int)) (hr : r ≤ xs.length) :
    Calls Try.prog 13 #[.pointer (some ⟨b, 0, none⟩), .pointer (some ⟨mb, 0, none⟩), .agg #[.int .u8 κ, .slice A l.length c, .int .i64 i]] w (StepPost O w b mb xs r q (xs, q)) := by
  have H := Lib.hid h
  have HS := Lib.hid hS
  clear h hS
  go_enter Try.func13, Try.ntmps13
  have hB1 : Below w.heap.size w (w.alloc (.cells #[.int .u8 κ, .slice A l.length c, .int .i64 i] 36)) := below_alloc (Below.refl _ _) _
  have T1 := Lib.hid (Two.below PN.stands QN.stands H.out hB1)
  have hA1 := abk w (.int .u8 κ) (.slice A l.length c) (.int .i64 i)
  have hz1 : w.heap.size < (w.alloc (.cells #[.int .u8 κ, .slice A l.length c, .int .i64 i] 36)).heap.size := by simp
  have HB1 := Lib.hid hB1
  clear hB1
  have d4 : (κ % 9 == 4) = false := beq_eq_false_iff_ne.2 (by omega)
  have d5 : (κ % 9 == 5) = false := beq_eq_false_iff_ne.2 (by omega)
  have d6 : (κ % 9 == 6) = true := beq_iff_eq.2 (by omega)
  clear hk
  go_wp2_with fail
  generalize w.alloc (.cells #[.int .u8 κ, .slice A l.length c, .int .i64 i] 36) = w1 at T1 hA1 hz1 HB1 ⊢
  obtain ⟨FF, hFF⟩ := T1.out.left
  have HFF := Lib.hid hFF
  clear hFF
  refine (dbl_full w1 FF b xs r q HFF.out HS.out.sz i h0 hi hr).mono ?_
  rintro e w2 ⟨rfl, hB2⟩
  have hA2 := hA1.below hB2
  have a2 := hA2.cell 2 _ rfl
  have T2 := Lib.hid (Two.below PN.stands QN.stands T1.out hB2)
  have HB2 := Lib.hid (HB1.out.trans (hB2.mono HB1.out.size))
  clear hA1 hA2 hB2
  go_wp2_with fail
  obtain ⟨GG, hGG⟩ := T2.out.right
  have HGG := Lib.hid hGG
  clear hGG
  refine (rdbl_full w2 GG mb _ r q HGG.out i h0 (by rw [List.length_map]; exact hi) (by rw [List.length_map]; exact hr)).mono ?_
  rintro e w4 ⟨rfl, hB4⟩
  have HT4 := Lib.hid (Two.below PN.stands QN.stands T2.out hB4)
  have HB4 := Lib.hid (HB2.out.trans (hB4.mono HB2.out.size))
  clear hB4 a2
  go_wp2_with fail
  go_ret
  exact ⟨rfl, HT4.out, KpO.of_below HB4.out⟩

set_option maxRecDepth 10000 in
set_option maxHeartbeats 4000000 in
theorem step_dbl (O : Nat → Prop) (w : World) (b mb : Nat) (xs : List S40) (r : Int) (q : Nat) (h : Both O w b mb xs r q) (hS : OkS xs) (hl : xs.length ≤ 100000) (κ i : Int) (l : List S40) (A : Option Addr) (c : Nat) (hk0 : 0 ≤ κ) (hk1 : κ ≤ 255) (hk : κ % 9 = 6)
    (h0 : 0 ≤ i) (hi : i < (xs.length : Int)) (hr : ¬ r ≤ xs.length) :
    Calls Try.prog 13 #[.pointer (some ⟨b, 0, none⟩), .pointer (some ⟨mb, 0, none⟩), .agg #[.int .u8 κ, .slice A l.length c, .int .i64 i]] w (StepPost O w b mb xs r q (xs ++ [rd_T40 xs i], q)) := by
  have H := Lib.hid h
  have HS := Lib.hid hS
  clear h hS
  go_enter Try.func13, Try.ntmps13
  have hB1 : Below w.heap.size w (w.alloc (.cells #[.int .u8 κ, .slice A l.length c, .int .i64 i] 36)) := below_alloc (Below.refl _ _) _
  have T1 := Lib.hid (Two.take PN.stands QN.stands H.out hB1)
  have hA1 := abk w (.int .u8 κ) (.slice A l.length c) (.int .i64 i)
  have hz1 : w.heap.size < (w.alloc (.cells #[.int .u8 κ, .slice A l.length c, .int .i64 i] 36)).heap.size := by simp
  have HB1 := Lib.hid hB1
  clear hB1
  have d4 : (κ % 9 == 4) = false := beq_eq_false_iff_ne.2 (by omega)
  have d5 : (κ % 9 == 5) = false := beq_eq_false_iff_ne.2 (by omega)
  have d6 : (κ % 9 == 6) = true := beq_iff_eq.2 (by omega)
  have Hr := Lib.hid hr
  clear hk hr
  go_wp2_with fail
  generalize w.alloc (.cells #[.int .u8 κ, .slice A l.length c, .int .i64 i] 36) = w1 at T1 hA1 hz1 HB1 ⊢
  refine (two_dbl QN.stands T1.out HS.out.sz hl i h0 hi (by have := Hr.out; omega)).mono ?_
  rintro e w2 ⟨rfl, hT2, hK2⟩
  have hA2 := hK2.blk hA1 (.inr ⟨Nat.le_refl _, hz1⟩)
  have a2 := hA2.cell 2 _ rfl
  have T2 := Lib.hid hT2
  have HK2 := Lib.hid ((KpO.of_below (O := O) HB1.out).trans (hK2.weaken (fun k _ h => .inl h)))
  clear hA1 hA2 hT2 hK2
  go_wp2_with fail
  refine (two_rdbl PN.stands T2.out hl i h0 hi (by have := Hr.out; omega) (HS.out _ (rd_mem h0 hi))).mono ?_
  rintro e w4 ⟨rfl, hT4, hK4⟩
  have HT4 := Lib.hid (hT4.weaken (fun k hk => .inl hk) : Two O w4 _ _)
  have HK4 := Lib.hid (HK2.out.trans (hK4.weaken (fun k _ h => .inl h)))
  clear hT4 hK4 a2
  go_wp2_with fail
  go_ret
  exact ⟨rfl, HT4.out, HK4.out⟩

set_option maxRecDepth 10000 in
set_option maxHeartbeats 4000000 in
theorem step_put (O : Nat → Prop) (w : World) (b mb : Nat) (xs : List S40) (r : Int) (q : Nat) (h : Both O w b mb xs r q) (hS : OkS xs) (hl : xs.length ≤ 100000) (κ i : Int) (l : List S40) (A : Option Addr) (c : Nat) (hk0 : 0 ≤ κ) (hk1 : κ ≤ 255) (hk : κ % 9 = 0 ∨ κ % 9 = 1 ∨ κ % 9 = 2 ∨ κ % 9 = 3)
    (hC : ∀ w', KpO O w w' → k40.C w' A l.length l) (hll : l.length ≤ 100000) (hq : q ≤ 10000000) :
    Calls Try.prog 13 #[.pointer (some ⟨b, 0, none⟩), .pointer (some ⟨mb, 0, none⟩), .agg #[.int .u8 κ, .slice A l.length c, .int .i64 i]] w (StepPost O w b mb xs r q ((putAll r (xs, 0, q) l).1, (putAll r (xs, 0, q) l).2.2)) := by
  have H := Lib.hid h
  have HS := Lib.hid hS
  clear h hS
  go_enter Try.func13, Try.ntmps13
  have hB1 : Below w.heap.size w (w.alloc (.cells #[.int .u8 κ, .slice A l.length c, .int .i64 i] 36)) := below_alloc (Below.refl _ _) _
  have T1 := Lib.hid (Two.take PN.stands QN.stands H.out hB1)
  have hA1 := abk w (.int .u8 κ) (.slice A l.length c) (.int .i64 i)
  have hz1 : w.heap.size < (w.alloc (.cells #[.int .u8 κ, .slice A l.length c, .int .i64 i] 36)).heap.size := by simp
  have HB1 := Lib.hid hB1
  clear hB1
  have d4 : (κ % 9 == 4) = false := beq_eq_false_iff_ne.2 (by omega)
  have d5 : (κ % 9 == 5) = false := beq_eq_false_iff_ne.2 (by omega)
  have d6 : (κ % 9 == 6) = false := beq_eq_false_iff_ne.2 (by omega)
  have d7 : (κ % 9 == 7) = false := beq_eq_false_iff_ne.2 (by omega)
  have d8 : (κ % 9 == 8) = false := beq_eq_false_iff_ne.2 (by omega)
  have HC := Lib.hid hC
  clear hk hC
  go_wp2_with fail
  generalize w.alloc (.cells #[.int .u8 κ, .slice A l.length c, .int .i64 i] 36) = w1 at T1 hA1 hz1 HB1 ⊢
  have hK1 : KpO O w w1 := KpO.of_below HB1.out
  refine (two_put QN.stands T1.out A l.length c l (fun w' hK => HC.out w' (hK1.trans (hK.weaken (fun k _ h => .inl h)))) (by omega) (by omega)).mono ?_
  generalize hp : putAll r (xs, 0, q) l = s
  rintro e w2 ⟨rfl, hT2, hK2⟩
  have Hp := Lib.hid hp
  have hA2 := hK2.blk hA1 (.inr ⟨Nat.le_refl _, hz1⟩)
  have a1 := hA2.cell 1 _ rfl
  have T2 := Lib.hid hT2
  have HK2 := Lib.hid (hK1.trans (hK2.weaken (fun k _ h => .inl h)))
  clear hA1 hA2 hT2 hK2 hp hK1
  go_wp2_with fail
  refine (two_rput PN.stands T2.out A l.length c l (fun w' hK => HC.out w' (HK2.out.trans (hK.weaken (fun k _ h => .inl h)))) (by omega) (by omega)).mono ?_
  rw [Hp.out]
  rintro e w4 ⟨rfl, hT4, hK4⟩
  have HT4 := Lib.hid (hT4.weaken (fun k hk => .inl hk) : Two O w4 _ _)
  have HK4 := Lib.hid (HK2.out.trans (hK4.weaken (fun k _ h => .inl h)))
  clear hT4 hK4 a1
  go_wp2_with fail
  go_ret
  refine ⟨rfl, ?_, HK4.out⟩
  rw [Hp.out]
  exact HT4.out

set_option maxRecDepth 10000 in
set_option maxHeartbeats 4000000 in
theorem step_find0 (O : Nat → Prop) (w : World) (b mb : Nat) (xs : List S40) (r : Int) (q : Nat) (h : Both O w b mb xs r q) (hS : OkS xs) (hl : xs.length ≤ 100000) (κ i : Int) (l : List S40) (A : Option Addr) (c : Nat) (hk0 : 0 ≤ κ) (hk1 : κ ≤ 255) (hk : κ % 9 = 8)
    (hC : ∀ w', KpO O w w' → k40.C w' A l.length l) (hll : l.length ≤ 100000) (h0 : l = []) :
    Calls Try.prog 13 #[.pointer (some ⟨b, 0, none⟩), .pointer (some ⟨mb, 0, none⟩), .agg #[.int .u8 κ, .slice A l.length c, .int .i64 i]] w (StepPost O w b mb xs r q (xs, q)) := by
  have H := Lib.hid h
  have HS := Lib.hid hS
  clear h hS
  go_enter Try.func13, Try.ntmps13
  have hB1 : Below w.heap.size w (w.alloc (.cells #[.int .u8 κ, .slice A l.length c, .int .i64 i] 36)) := below_alloc (Below.refl _ _) _
  have T1 := Lib.hid (Two.below PN.stands QN.stands H.out hB1)
  have hA1 := abk w (.int .u8 κ) (.slice A l.length c) (.int .i64 i)
  have hz1 : w.heap.size < (w.alloc (.cells #[.int .u8 κ, .slice A l.length c, .int .i64 i] 36)).heap.size := by simp
  have HB1 := Lib.hid hB1
  clear hB1
  have d4 : (κ % 9 == 4) = false := beq_eq_false_iff_ne.2 (by omega)
  have d5 : (κ % 9 == 5) = false := beq_eq_false_iff_ne.2 (by omega)
  have d6 : (κ % 9 == 6) = false := beq_eq_false_iff_ne.2 (by omega)
  have d7 : (κ % 9 == 7) = false := beq_eq_false_iff_ne.2 (by omega)
  have d8 : (κ % 9 == 8) = true := beq_iff_eq.2 (by omega)
  have HC := Lib.hid (hC w (KpO.refl O w))
  clear hk hC
  have hpos : decide (0 < l.length) = false := decide_eq_false (by rw [h0]; simp)
  have H0 := Lib.hid h0
  clear h0
  go_wp2_with fail
  generalize w.alloc (.cells #[.int .u8 κ, .slice A l.length c, .int .i64 i] 36) = w1 at T1 hA1 hz1 HB1 ⊢
  obtain ⟨FF, hFF⟩ := T1.out.left
  have HFF := Lib.hid hFF
  clear hFF
  refine (find_any w1 FF b xs r q HFF.out (by omega) i i).mono ?_
  rintro e w2 ⟨rfl, hB2⟩
  rw [← idx_toR]
  have T2 := Lib.hid (Two.below PN.stands QN.stands T1.out hB2)
  have HB2 := Lib.hid (HB1.out.trans (hB2.mono HB1.out.size))
  clear hA1 hB2
  generalize hd : idxP (fitsR i i) (xs.map toR) = d
  have Hd := Lib.hid hd
  clear hd
  go_wp2_with fail
  obtain ⟨GG, hGG⟩ := T2.out.right
  have HGG := Lib.hid hGG
  clear hGG
  refine (rfind_any w2 GG mb _ r q HGG.out (by rw [List.length_map]; omega) i i).mono ?_
  rintro e w4 ⟨rfl, hw4⟩
  rw [Hd.out]
  subst hw4
  go_wp2_with fail
  go_ret
  exact ⟨by simp, T2.out, KpO.of_below HB2.out⟩

set_option maxRecDepth 10000 in
set_option maxHeartbeats 4000000 in
theorem step_find1 (O : Nat → Prop) (w : World) (b mb : Nat) (xs : List S40) (r : Int) (q : Nat) (h : Both O w b mb xs r q) (hS : OkS xs) (hl : xs.length ≤ 100000) (κ i : Int) (l : List S40) (A : Option Addr) (c : Nat) (hk0 : 0 ≤ κ) (hk1 : κ ≤ 255) (hk : κ % 9 = 8)
    (hC : ∀ w', KpO O w w' → k40.C w' A l.length l) (hll : l.length ≤ 100000) (h0 : 0 < l.length) :
    Calls Try.prog 13 #[.pointer (some ⟨b, 0, none⟩), .pointer (some ⟨mb, 0, none⟩), .agg #[.int .u8 κ, .slice A l.length c, .int .i64 i]] w (StepPost O w b mb xs r q (xs, q)) := by
  have H := Lib.hid h
  have HS := Lib.hid hS
  clear h hS
  go_enter Try.func13, Try.ntmps13
  have hB1 : Below w.heap.size w (w.alloc (.cells #[.int .u8 κ, .slice A l.length c, .int .i64 i] 36)) := below_alloc (Below.refl _ _) _
  have T1 := Lib.hid (Two.below PN.stands QN.stands H.out hB1)
  have hA1 := abk w (.int .u8 κ) (.slice A l.length c) (.int .i64 i)
  have hz1 : w.heap.size < (w.alloc (.cells #[.int .u8 κ, .slice A l.length c, .int .i64 i] 36)).heap.size := by simp
  have HB1 := Lib.hid hB1
  clear hB1
  have d4 : (κ % 9 == 4) = false := beq_eq_false_iff_ne.2 (by omega)
  have d5 : (κ % 9 == 5) = false := beq_eq_false_iff_ne.2 (by omega)
  have d6 : (κ % 9 == 6) = false := beq_eq_false_iff_ne.2 (by omega)
  have d7 : (κ % 9 == 7) = false := beq_eq_false_iff_ne.2 (by omega)
  have d8 : (κ % 9 == 8) = true := beq_iff_eq.2 (by omega)
  have HC := Lib.hid (hC w (KpO.refl O w))
  clear hk hC
  obtain ⟨ad, A2, c2, rfl, e0, e1, -⟩ := at_T40 HC.out 0 (by omega) (by omega)
  have E0 := cell_old HB1.out e0
  have E1 := cell_old HB1.out e1
  have hpos : decide (0 < l.length) = true := decide_eq_true h0
  simp only [show (0 : Int).toNat = 0 from rfl, Nat.zero_mul] at E0 E1
  generalize rd_T40 l 0 = x at E0 E1
  have hz : ad.add 0 = ad := by cases ad; rfl
  have E0z := E0
  have E1z := E1
  rw [hz] at E0z E1z
  clear e0 e1
  go_wp2_with fail
  generalize w.alloc (.cells #[.int .u8 κ, .slice (some ad) l.length c, .int .i64 i] 36) = w1 at T1 hA1 hz1 HB1 ⊢
  obtain ⟨FF, hFF⟩ := T1.out.left
  have HFF := Lib.hid hFF
  clear hFF
  clear E0 E1 E0z E1z hz
  refine (find_any w1 FF b xs r q HFF.out (by omega) x.f0 x.f1).mono ?_
  rintro e w2 ⟨rfl, hB2⟩
  rw [← idx_toR]
  have T2 := Lib.hid (Two.below PN.stands QN.stands T1.out hB2)
  have HB2 := Lib.hid (HB1.out.trans (hB2.mono HB1.out.size))
  clear hA1 hB2
  generalize hd : idxP (fitsR x.f0 x.f1) (xs.map toR) = d
  have Hd := Lib.hid hd
  clear hd
  go_wp2_with fail
  obtain ⟨GG, hGG⟩ := T2.out.right
  have HGG := Lib.hid hGG
  clear hGG
  refine (rfind_any w2 GG mb _ r q HGG.out (by rw [List.length_map]; omega) x.f0 x.f1).mono ?_
  rintro e w4 ⟨rfl, hw4⟩
  rw [Hd.out]
  subst hw4
  go_wp2_with fail
  go_ret
  exact ⟨by simp, T2.out, KpO.of_below HB2.out⟩
end Go.Proofs.Ytnphlghiicbjjaa
