-- PRINTED BY print.sh 35421559b90ae4d0a3588c463048766b98c2df88dd9212a6774a882060cdf62d: not written by this session
import Derived.Test.YtcplmaeicmmkgaaPTrackPlaysx0
import Derived.Test.YtcplmaeicmmkgaaPTrackPlaysx1
import Derived.Test.YtcplmaeicmmkgaaPTrackPlaysx2
import Derived.Test.YtcplmaeicmmkgaaPTrackPlaysx3
namespace Go.Proofs.Ytcplmaeicmmkgaa.PTrackPlays
open Go.RowKit Go.Proofs.YtcplmaeicmmkgaaW.PrintWords Go.Proofs.YtcplmaeicmmkgaaW.PrintLast Go.Proofs.YtcplmaeicmmkgaaW.PrintMore
attribute [local go_sem] max2_int min2_int max_two min_two max_three min_three max_four min_four   -- for this text's walks alone
set_option linter.unusedVariables false
set_option linter.unusedSimpArgs false

attribute [local go_sem high] eqA70 eqA83
/-! ### rutterref12_Alike: function 98 -/
def rutterref12_Alike.f (a0_0 : Int) (a0_1 : Int) (a0_2 : Int) (a0_3 : Int) (a0_4 : Int) (a1_0 : Int) (a1_1 : Int) (a1_2 : Int) (a1_3 : Int) (a1_4 : Int) : Option (Bool) := if (a0_0 == a1_0 && (a0_1 == a1_1 && (a0_2 == a1_2 && (a0_3 == a1_3 && (a0_4 == a1_4))))) = true then (some true) else ((rutterref04_Back.f a1_0 a1_1 a1_2 a1_3 a1_4).bind fun bt118 => (some (a0_0 == bt118.1 && (a0_1 == bt118.2.1 && (a0_2 == bt118.2.2.1 && (a0_3 == bt118.2.2.2.1 && (a0_4 == bt118.2.2.2.2)))))))
def rutterref12_Alike.T1 : Bool × List (List Nat × List Nat) := (true, [([], []), ([], []), ([0, 1], [0, 1]), ([2], [2]), ([3], [3]), ([3], [3]), ([5, 3, 3], [3, 5]), ([4, 6, 3], [3, 4, 6]), ([3, 7], [3, 7]), ([8, 6, 0, 1, 2, 3, 4, 5, 6, 7, 8], [8])])
def rutterref12_Alike.B1 : List Nat := [0, 0, 3, 7, 15, 15, 47, 127, 255, 511]
theorem rutterref12_Alike.tab1 : rtab .any (opsOf Try.f98 1) = rutterref12_Alike.T1 := by kernel_rfl
theorem rutterref12_Alike.bits1 : waitsOk rutterref12_Alike.T1.2 rutterref12_Alike.B1 = true := by kernel_rfl
set_option maxHeartbeats 8000000 in
set_option maxRecDepth 100000 in
theorem rutterref12_Alike.calls (a0_0 : Int) (a0_1 : Int) (a0_2 : Int) (a0_3 : Int) (a0_4 : Int) (a1_0 : Int) (a1_1 : Int) (a1_2 : Int) (a1_3 : Int) (a1_4 : Int) (r : Bool) (w : World) (h : rutterref12_Alike.f a0_0 a0_1 a0_2 a0_3 a0_4 a1_0 a1_1 a1_2 a1_3 a1_4 = some r) :
    Calls Try.prog 98 #[.agg #[.int .i64 a0_0, .int .u32 a0_1, .int .u32 a0_2, .int .i64 a0_3, .int .i64 a0_4], .agg #[.int .i64 a1_0, .int .u32 a1_1, .int .u32 a1_2, .int .i64 a1_3, .int .i64 a1_4]] w fun e w' => e = .returned (.bool r) ∧ Below w.heap.size w w' := by
  have hu70 := Try.underlying70
  have HB := Aside0.mk (Below.refl w.heap.size w)
  have H : (if (a0_0 == a1_0 && (a0_1 == a1_1 && (a0_2 == a1_2 && (a0_3 == a1_3 && (a0_4 == a1_4))))) = true then (some true) else ((rutterref04_Back.f a1_0 a1_1 a1_2 a1_3 a1_4).bind fun bt118 => (some (a0_0 == bt118.1 && (a0_1 == bt118.2.1 && (a0_2 == bt118.2.2.1 && (a0_3 == bt118.2.2.2.1 && (a0_4 == bt118.2.2.2.2)))))))) = some r := h
  clear h
  by_cases c3 : (a0_0 == a1_0 && (a0_1 == a1_1 && (a0_2 == a1_2 && (a0_3 == a1_3 && (a0_4 == a1_4))))) = true
  · rw [if_pos c3] at H
    have c3b0 : (a0_0 == a1_0 && (a0_1 == a1_1 && (a0_2 == a1_2 && (a0_3 == a1_3 && (a0_4 == a1_4))))) = true := c3
    (try (have c3b1 : decide (a0_0 = a1_0 && (a0_1 == a1_1 && (a0_2 == a1_2 && (a0_3 == a1_3 && (a0_4 == a1_4))))) = true := by simpa using c3))
    (try (have c3b2 : (a0_0 == a1_0 && (a0_1 == a1_1 && (a0_2 == a1_2 && (a0_3 == a1_3 && (a0_4 == a1_4))))) = true := by simpa using c3))
    clear c3
    obtain rfl := Option.some.inj H
    go_enter Try.func98, Try.ntmps98
    try go_wp2_with (first | ((with_reducible refine gate_dst (N := 2) rfl ?_); refine box_event ?hg (N := 2) ?hd (cs := #[.int .i64 a0_0, .int .u32 a0_1, .int .u32 a0_2, .int .i64 a0_3, .int .i64 a0_4]) (t := 70) ?hr ?_; (case hd => rfl); (case hg => rfl); (case hr => first | (go_simp; done) | (go_simp; rfl)); intro gb116 hg w4 hbox hb; have n0_ := Aside0.mk (below_step (by repeat (first | (with_reducible first | exact HB.out | apply below_alloc | apply pw_below_drewN | apply below_drew1) | exact HB.out)) hb); have n1_ := Aside0.mk (hbox); have n2_ := Aside0.mk ((by rw [hg]; exact (below_size (by repeat (first | (with_reducible first | exact HB.out | apply below_alloc | apply pw_below_drewN | apply below_drew1) | exact HB.out))) : w.heap.size ≤ gb116)); have n3_ := Aside0.mk ((by rw [hg]; exact (below_size (by repeat (first | (with_reducible first | exact HB.out | apply below_alloc | apply pw_below_drewN | apply below_drew1) | exact HB.out))) : w.heap.size ≤ gb116)); clear HB; have HB := n0_; have BK116 := n1_; have GW116 := n2_; have GE116 := n3_; clear n0_ n1_ n2_ n3_; clear hb hbox hg) | ((with_reducible refine gate_dst (N := 3) rfl ?_); refine box_event ?hg (N := 3) ?hd (cs := #[.int .i64 a1_0, .int .u32 a1_1, .int .u32 a1_2, .int .i64 a1_3, .int .i64 a1_4]) (t := 70) ?hr ?_; (case hd => rfl); (case hg => rfl); (case hr => first | (go_simp; done) | (go_simp; rfl)); intro gb117 hg w5 hbox hb; have n0_ := Aside0.mk (blk_below (g := gb116) (o := .cells #[.int .i64 a0_0, .int .u32 a0_1, .int .u32 a0_2, .int .i64 a0_3, .int .i64 a0_4] 70 (0, 0)) (by (with_reducible repeat (first | refine blk_drewN ?_ _ | refine blk_drew ?_ | refine blk_alloc ?_ _)); exact BK116.out) hb); have n1_ := Aside0.mk (below_step (by repeat (first | (with_reducible first | exact HB.out | apply below_alloc | apply pw_below_drewN | apply below_drew1 | refine below_set ?_ GE116.out) | exact HB.out)) hb); have n2_ := Aside0.mk (hbox); have n3_ := Aside0.mk ((by rw [hg]; exact (below_size (by repeat (first | (with_reducible first | exact HB.out | apply below_alloc | apply pw_below_drewN | apply below_drew1 | refine below_set ?_ GE116.out) | exact HB.out))) : w.heap.size ≤ gb117)); have n4_ := Aside0.mk ((by rw [hg]; exact (below_size (by repeat (first | (with_reducible first | exact HB.out | apply below_alloc | apply pw_below_drewN | apply below_drew1 | refine below_set ?_ GE116.out) | exact HB.out))) : w.heap.size ≤ gb117)); have n5_ := Aside0.mk ((by rw [hg]; exact Nat.ne_of_lt (blk_lt (g := gb116) (o := .cells #[.int .i64 a0_0, .int .u32 a0_1, .int .u32 a0_2, .int .i64 a0_3, .int .i64 a0_4] 70 (0, 0)) (by (with_reducible repeat (first | refine blk_drewN ?_ _ | refine blk_drew ?_ | refine blk_alloc ?_ _)); exact BK116.out)) : gb116 ≠ gb117)); have n6_ := Aside0.mk ((by rw [hg]; exact Nat.ne_of_gt (blk_lt (g := gb116) (o := .cells #[.int .i64 a0_0, .int .u32 a0_1, .int .u32 a0_2, .int .i64 a0_3, .int .i64 a0_4] 70 (0, 0)) (by (with_reducible repeat (first | refine blk_drewN ?_ _ | refine blk_drew ?_ | refine blk_alloc ?_ _)); exact BK116.out)) : gb117 ≠ gb116)); clear BK116; clear HB; have BK116 := n0_; have HB := n1_; have BK117 := n2_; have GW117 := n3_; have GE117 := n4_; have NB116_117 := n5_; have NB117_116 := n6_; clear n0_ n1_ n2_ n3_ n4_ n5_ n6_; clear hb hbox hg))
    have n0_ := Aside0.mk (blk_drew BK116.out)
    have n1_ := Aside0.mk (blk_drew BK117.out)
    have n2_ := Aside0.mk (below_drew1 HB.out)
    clear BK116
    clear BK117
    clear HB
    have BK116 := n0_
    have BK117 := n1_
    have HB := n2_
    clear n0_ n1_ n2_
    refine start_ (n := 10) (S := fun w' => w'.cell? ⟨gb116, 0, none⟩ = some (.int .i64 a0_0) ∧ w'.cell? ⟨gb116, 1, none⟩ = some (.int .u32 a0_1) ∧ w'.cell? ⟨gb116, 2, none⟩ = some (.int .u32 a0_2) ∧ w'.cell? ⟨gb116, 3, none⟩ = some (.int .i64 a0_3) ∧ w'.cell? ⟨gb116, 4, none⟩ = some (.int .i64 a0_4) ∧ w'.cell? ⟨gb117, 0, none⟩ = some (.int .i64 a1_0) ∧ w'.cell? ⟨gb117, 1, none⟩ = some (.int .u32 a1_1) ∧ w'.cell? ⟨gb117, 2, none⟩ = some (.int .u32 a1_2) ∧ w'.cell? ⟨gb117, 3, none⟩ = some (.int .i64 a1_3) ∧ w'.cell? ⟨gb117, 4, none⟩ = some (.int .i64 a1_4)) (ds := []) #[false, false, false, false, false, false, false, false, false, false] (by kernel_rfl) rfl rfl ⟨(blk_cell BK116.out 0).trans rfl, (blk_cell BK116.out 1).trans rfl, (blk_cell BK116.out 2).trans rfl, (blk_cell BK116.out 3).trans rfl, (blk_cell BK116.out 4).trans rfl, (blk_cell BK117.out 0).trans rfl, (blk_cell BK117.out 1).trans rfl, (blk_cell BK117.out 2).trans rfl, (blk_cell BK117.out 3).trans rfl, (blk_cell BK117.out 4).trans rfl⟩ (fun hHeld => ?_); refine with_tabW rutterref12_Alike.tab1 rutterref12_Alike.bits1 (fun HT_ HW_ => ?_)
    generalize w5.drew = w6 at BK116 BK117 HB hHeld ⊢
    refine take_ (i := 0) (N := some 5) (v := ?_) (a' := ?_) #[true, false, false, false, false, false, false, false, false, false] rfl rfl (take_ofW HT_.out HW_.out (by kernel_rfl)) (fun _ _ _ h => h) (Or.inl ⟨by rfl, ?_⟩) hHeld ?_ ?_
    rotate_left
    · rintro w' ⟨s0, s1, s2, s3, s4, s5, s6, s7, s8, s9⟩
      go_simp
      with_reducible rfl
    rotate_left
    · simp only [Act.put, List.setIfInBounds_toArray, List.set_cons_zero, List.set_cons_succ, i64_w, i32_w]
      rfl
    refine take_ (i := 1) (N := some 6) (v := ?_) (a' := ?_) #[true, true, false, false, false, false, false, false, false, false] rfl rfl (take_ofW HT_.out HW_.out (by kernel_rfl)) (fun _ _ _ h => h) (Or.inl ⟨by rfl, ?_⟩) hHeld ?_ ?_
    rotate_left
    · rintro w' ⟨s0, s1, s2, s3, s4, s5, s6, s7, s8, s9⟩
      go_simp
      with_reducible rfl
    rotate_left
    · simp only [Act.put, List.setIfInBounds_toArray, List.set_cons_zero, List.set_cons_succ, i64_w, i32_w]
      rfl
    refine pure_ (i := 2) (N := some 7) (v := ?_) (a' := ?_) #[true, true, true, false, false, false, false, false, false, false] rfl rfl (any_of HT_.out (by kernel_rfl)) (fun _ _ _ h => h) (Or.inl ⟨by rfl, ?_⟩) ?_ ?_
    rotate_left
    · intro w'
      go_simp
      with_reducible rfl
    rotate_left
    · simp only [Act.put, List.setIfInBounds_toArray, List.set_cons_zero, List.set_cons_succ, i64_w, i32_w]
      rfl
    refine pure_ (i := 3) (N := some 8) (v := ?_) (a' := ?_) #[true, true, true, true, false, false, false, false, false, false] rfl rfl (any_of HT_.out (by kernel_rfl)) (fun _ _ _ h => h) (Or.inl ⟨by rfl, ?_⟩) ?_ ?_
    rotate_left
    · intro w'
      go_simp
      with_reducible rfl
    rotate_left
    · simp only [Act.put, List.setIfInBounds_toArray, List.set_cons_zero, List.set_cons_succ, i64_w, i32_w]
      rfl
    refine pure_ (i := 4) (N := some 9) (v := undef) (a' := ?_) #[true, true, true, true, true, false, false, false, false, false] rfl rfl (any_of HT_.out (by kernel_rfl)) (fun _ _ _ h => h) (Or.inr ⟨by rfl, rfl⟩) ?_ ?_
    rotate_left
    · simp only [Act.put, List.setIfInBounds_toArray, List.set_cons_zero, List.set_cons_succ, i64_w, i32_w]
      rfl
    refine pure_ (i := 5) (N := some 10) (v := undef) (a' := ?_) #[true, true, true, true, true, true, false, false, false, false] rfl rfl (any_of HT_.out (by kernel_rfl)) (fun _ _ _ h => h) (Or.inr ⟨by rfl, rfl⟩) ?_ ?_
    rotate_left
    · simp only [Act.put, List.setIfInBounds_toArray, List.set_cons_zero, List.set_cons_succ, i64_w, i32_w]
      rfl
    refine pure_ (i := 6) (N := some 11) (v := undef) (a' := ?_) #[true, true, true, true, true, true, true, false, false, false] rfl rfl (any_of HT_.out (by kernel_rfl)) (fun _ _ _ h => h) (Or.inr ⟨by rfl, rfl⟩) ?_ ?_
    rotate_left
    · simp only [Act.put, List.setIfInBounds_toArray, List.set_cons_zero, List.set_cons_succ, i64_w, i32_w]
      rfl
    refine pure_ (i := 7) (N := some 12) (v := undef) (a' := ?_) #[true, true, true, true, true, true, true, true, false, false] rfl rfl (any_of HT_.out (by kernel_rfl)) (fun _ _ _ h => h) (Or.inr ⟨by rfl, rfl⟩) ?_ ?_
    rotate_left
    · simp only [Act.put, List.setIfInBounds_toArray, List.set_cons_zero, List.set_cons_succ, i64_w, i32_w]
      rfl
    refine pure_ (i := 8) (N := some 13) (v := ?_) (a' := ?_) #[true, true, true, true, true, true, true, true, true, false] rfl rfl (any_of HT_.out (by kernel_rfl)) (fun _ _ _ h => h) (Or.inl ⟨by rfl, ?_⟩) ?_ ?_
    rotate_left
    · intro w'
      go_simp
      with_reducible rfl
    rotate_left
    · simp only [Act.put, List.setIfInBounds_toArray, List.set_cons_zero, List.set_cons_succ, i64_w, i32_w]
      rfl
    refine pure_ (i := 9) (N := some 4) (v := ?_) (a' := ?_) #[true, true, true, true, true, true, true, true, true, true] rfl rfl (any_of HT_.out (by kernel_rfl)) (fun _ _ _ h => h) (Or.inl ⟨by rfl, ?_⟩) ?_ ?_
    rotate_left
    · intro w'
      go_simp
      with_reducible rfl
    rotate_left
    · simp only [Act.put, List.setIfInBounds_toArray, List.set_cons_zero, List.set_cons_succ, i64_w, i32_w]
      rfl
    refine done_ (done_of HT_.out (by kernel_rfl)) ?_
    try go_wp2
    go_ret
    exact ⟨by first | rfl | (simp [errW_none, errW_some] <;> rfl) | (simp [*, errW_none, errW_some] <;> rfl), by repeat (first | (with_reducible first | exact HB.out | apply below_alloc | apply pw_below_drewN | apply below_drew1 | refine below_set ?_ GE116.out | refine below_set ?_ GE117.out) | exact HB.out)⟩
  · rw [if_neg c3] at H
    have c3b0 : (a0_0 == a1_0 && (a0_1 == a1_1 && (a0_2 == a1_2 && (a0_3 == a1_3 && (a0_4 == a1_4))))) = false := by simpa using c3
    (try (have c3b1 : decide (a0_0 = a1_0 && (a0_1 == a1_1 && (a0_2 == a1_2 && (a0_3 == a1_3 && (a0_4 == a1_4))))) = false := by simpa using c3))
    (try (have c3b2 : (a0_0 == a1_0 && (a0_1 == a1_1 && (a0_2 == a1_2 && (a0_3 == a1_3 && (a0_4 == a1_4))))) = false := by simpa using c3))
    (try (have c3b3 : ¬ (a0_0 = a1_0 && (a0_1 == a1_1 && (a0_2 == a1_2 && (a0_3 == a1_3 && (a0_4 == a1_4))))) := by simpa using c3))
    clear c3
    replace H := Option.bind_eq_some_iff.mp H
    obtain ⟨⟨t118, t119, t120, t121, t122⟩, A70, H⟩ := H
    replace H : (some (a0_0 == t118 && (a0_1 == t119 && (a0_2 == t120 && (a0_3 == t121 && (a0_4 == t122)))))) = some r := H
    have A7 := Aside0.mk A70
    clear A70
    obtain rfl := Option.some.inj H
    go_enter Try.func98, Try.ntmps98
    try go_wp2_with (first | ((with_reducible refine gate_dst (N := 2) rfl ?_); refine box_event ?hg (N := 2) ?hd (cs := #[.int .i64 a0_0, .int .u32 a0_1, .int .u32 a0_2, .int .i64 a0_3, .int .i64 a0_4]) (t := 70) ?hr ?_; (case hd => rfl); (case hg => rfl); (case hr => first | (go_simp; done) | (go_simp; rfl)); intro gb116 hg w8 hbox hb; have n0_ := Aside0.mk (below_step (by repeat (first | (with_reducible first | exact HB.out | apply below_alloc | apply pw_below_drewN | apply below_drew1) | exact HB.out)) hb); have n1_ := Aside0.mk (hbox); have n2_ := Aside0.mk ((by rw [hg]; exact (below_size (by repeat (first | (with_reducible first | exact HB.out | apply below_alloc | apply pw_below_drewN | apply below_drew1) | exact HB.out))) : w.heap.size ≤ gb116)); have n3_ := Aside0.mk ((by rw [hg]; exact (below_size (by repeat (first | (with_reducible first | exact HB.out | apply below_alloc | apply pw_below_drewN | apply below_drew1) | exact HB.out))) : w.heap.size ≤ gb116)); clear HB; have HB := n0_; have BK116 := n1_; have GW116 := n2_; have GE116 := n3_; clear n0_ n1_ n2_ n3_; clear hb hbox hg) | ((with_reducible refine gate_dst (N := 3) rfl ?_); refine box_event ?hg (N := 3) ?hd (cs := #[.int .i64 a1_0, .int .u32 a1_1, .int .u32 a1_2, .int .i64 a1_3, .int .i64 a1_4]) (t := 70) ?hr ?_; (case hd => rfl); (case hg => rfl); (case hr => first | (go_simp; done) | (go_simp; rfl)); intro gb117 hg w9 hbox hb; have n0_ := Aside0.mk (blk_below (g := gb116) (o := .cells #[.int .i64 a0_0, .int .u32 a0_1, .int .u32 a0_2, .int .i64 a0_3, .int .i64 a0_4] 70 (0, 0)) (by (with_reducible repeat (first | refine blk_drewN ?_ _ | refine blk_drew ?_ | refine blk_alloc ?_ _)); exact BK116.out) hb); have n1_ := Aside0.mk (below_step (by repeat (first | (with_reducible first | exact HB.out | apply below_alloc | apply pw_below_drewN | apply below_drew1 | refine below_set ?_ GE116.out) | exact HB.out)) hb); have n2_ := Aside0.mk (hbox); have n3_ := Aside0.mk ((by rw [hg]; exact (below_size (by repeat (first | (with_reducible first | exact HB.out | apply below_alloc | apply pw_below_drewN | apply below_drew1 | refine below_set ?_ GE116.out) | exact HB.out))) : w.heap.size ≤ gb117)); have n4_ := Aside0.mk ((by rw [hg]; exact (below_size (by repeat (first | (with_reducible first | exact HB.out | apply below_alloc | apply pw_below_drewN | apply below_drew1 | refine below_set ?_ GE116.out) | exact HB.out))) : w.heap.size ≤ gb117)); have n5_ := Aside0.mk ((by rw [hg]; exact Nat.ne_of_lt (blk_lt (g := gb116) (o := .cells #[.int .i64 a0_0, .int .u32 a0_1, .int .u32 a0_2, .int .i64 a0_3, .int .i64 a0_4] 70 (0, 0)) (by (with_reducible repeat (first | refine blk_drewN ?_ _ | refine blk_drew ?_ | refine blk_alloc ?_ _)); exact BK116.out)) : gb116 ≠ gb117)); have n6_ := Aside0.mk ((by rw [hg]; exact Nat.ne_of_gt (blk_lt (g := gb116) (o := .cells #[.int .i64 a0_0, .int .u32 a0_1, .int .u32 a0_2, .int .i64 a0_3, .int .i64 a0_4] 70 (0, 0)) (by (with_reducible repeat (first | refine blk_drewN ?_ _ | refine blk_drew ?_ | refine blk_alloc ?_ _)); exact BK116.out)) : gb117 ≠ gb116)); clear BK116; clear HB; have BK116 := n0_; have HB := n1_; have BK117 := n2_; have GW117 := n3_; have GE117 := n4_; have NB116_117 := n5_; have NB117_116 := n6_; clear n0_ n1_ n2_ n3_ n4_ n5_ n6_; clear hb hbox hg))
    have n0_ := Aside0.mk (blk_drew BK116.out)
    have n1_ := Aside0.mk (blk_drew BK117.out)
    have n2_ := Aside0.mk (below_drew1 HB.out)
    clear BK116
    clear BK117
    clear HB
    have BK116 := n0_
    have BK117 := n1_
    have HB := n2_
    clear n0_ n1_ n2_
    refine start_ (n := 10) (S := fun w' => w'.cell? ⟨gb116, 0, none⟩ = some (.int .i64 a0_0) ∧ w'.cell? ⟨gb116, 1, none⟩ = some (.int .u32 a0_1) ∧ w'.cell? ⟨gb116, 2, none⟩ = some (.int .u32 a0_2) ∧ w'.cell? ⟨gb116, 3, none⟩ = some (.int .i64 a0_3) ∧ w'.cell? ⟨gb116, 4, none⟩ = some (.int .i64 a0_4) ∧ w'.cell? ⟨gb117, 0, none⟩ = some (.int .i64 a1_0) ∧ w'.cell? ⟨gb117, 1, none⟩ = some (.int .u32 a1_1) ∧ w'.cell? ⟨gb117, 2, none⟩ = some (.int .u32 a1_2) ∧ w'.cell? ⟨gb117, 3, none⟩ = some (.int .i64 a1_3) ∧ w'.cell? ⟨gb117, 4, none⟩ = some (.int .i64 a1_4)) (ds := []) #[false, false, false, false, false, false, false, false, false, false] (by kernel_rfl) rfl rfl ⟨(blk_cell BK116.out 0).trans rfl, (blk_cell BK116.out 1).trans rfl, (blk_cell BK116.out 2).trans rfl, (blk_cell BK116.out 3).trans rfl, (blk_cell BK116.out 4).trans rfl, (blk_cell BK117.out 0).trans rfl, (blk_cell BK117.out 1).trans rfl, (blk_cell BK117.out 2).trans rfl, (blk_cell BK117.out 3).trans rfl, (blk_cell BK117.out 4).trans rfl⟩ (fun hHeld => ?_); refine with_tabW rutterref12_Alike.tab1 rutterref12_Alike.bits1 (fun HT_ HW_ => ?_)
    generalize w9.drew = w10 at BK116 BK117 HB hHeld ⊢
    refine take_ (i := 0) (N := some 5) (v := ?_) (a' := ?_) #[true, false, false, false, false, false, false, false, false, false] rfl rfl (take_ofW HT_.out HW_.out (by kernel_rfl)) (fun _ _ _ h => h) (Or.inl ⟨by rfl, ?_⟩) hHeld ?_ ?_
    rotate_left
    · rintro w' ⟨s0, s1, s2, s3, s4, s5, s6, s7, s8, s9⟩
      go_simp
      with_reducible rfl
    rotate_left
    · simp only [Act.put, List.setIfInBounds_toArray, List.set_cons_zero, List.set_cons_succ, i64_w, i32_w]
      rfl
    refine take_ (i := 1) (N := some 6) (v := ?_) (a' := ?_) #[true, true, false, false, false, false, false, false, false, false] rfl rfl (take_ofW HT_.out HW_.out (by kernel_rfl)) (fun _ _ _ h => h) (Or.inl ⟨by rfl, ?_⟩) hHeld ?_ ?_
    rotate_left
    · rintro w' ⟨s0, s1, s2, s3, s4, s5, s6, s7, s8, s9⟩
      go_simp
      with_reducible rfl
    rotate_left
    · simp only [Act.put, List.setIfInBounds_toArray, List.set_cons_zero, List.set_cons_succ, i64_w, i32_w]
      rfl
    refine pure_ (i := 2) (N := some 7) (v := ?_) (a' := ?_) #[true, true, true, false, false, false, false, false, false, false] rfl rfl (any_of HT_.out (by kernel_rfl)) (fun _ _ _ h => h) (Or.inl ⟨by rfl, ?_⟩) ?_ ?_
    rotate_left
    · intro w'
      go_simp
      with_reducible rfl
    rotate_left
    · simp only [Act.put, List.setIfInBounds_toArray, List.set_cons_zero, List.set_cons_succ, i64_w, i32_w]
      rfl
    refine pure_ (i := 3) (N := some 8) (v := ?_) (a' := ?_) #[true, true, true, true, false, false, false, false, false, false] rfl rfl (any_of HT_.out (by kernel_rfl)) (fun _ _ _ h => h) (Or.inl ⟨by rfl, ?_⟩) ?_ ?_
    rotate_left
    · intro w'
      go_simp
      with_reducible rfl
    rotate_left
    · simp only [Act.put, List.setIfInBounds_toArray, List.set_cons_zero, List.set_cons_succ, i64_w, i32_w]
      rfl
    refine take_ (i := 4) (N := some 9) (v := ?_) (a' := ?_) #[true, true, true, true, true, false, false, false, false, false] rfl rfl (take_ofW HT_.out HW_.out (by kernel_rfl)) (fun _ _ _ h => h) (Or.inl ⟨by rfl, ?_⟩) hHeld ?_ ?_
    rotate_left
    · rintro w' ⟨s0, s1, s2, s3, s4, s5, s6, s7, s8, s9⟩
      go_simp
      with_reducible rfl
    rotate_left
    · simp only [Act.put, List.setIfInBounds_toArray, List.set_cons_zero, List.set_cons_succ, i64_w, i32_w]
      rfl
    refine take_ (i := 5) (N := some 10) (v := ?_) (a' := ?_) #[true, true, true, true, true, true, false, false, false, false] rfl rfl (take_ofW HT_.out HW_.out (by kernel_rfl)) (fun _ _ _ h => h) (Or.inl ⟨by rfl, ?_⟩) hHeld ?_ ?_
    rotate_left
    · rintro w' ⟨s0, s1, s2, s3, s4, s5, s6, s7, s8, s9⟩
      go_simp
      with_reducible rfl
    rotate_left
    · simp only [Act.put, List.setIfInBounds_toArray, List.set_cons_zero, List.set_cons_succ, i64_w, i32_w]
      rfl
    refine one_ (i := 6) (N := some 11) #[true, true, true, true, true, true, true, false, false, false] rfl rfl (one_of HT_.out (by kernel_rfl)) (by decide) (fun K hK => ?_)
    refine goes_ Try.func38 (by kernel_rfl) rfl #[.agg #[.int .i64 a1_0, .int .u32 a1_1, .int .u32 a1_2, .int .i64 a1_3, .int .i64 a1_4]] (by rfl) rfl rfl (by (try simp only [List.map_toArray, List.map_cons, List.map_nil]); first | done | rfl | (simp only [List.length_drop, List.length_take]; rfl)) ?_
    with_reducible refine (rutterref04_Back.calls a1_0 a1_1 a1_2 a1_3 a1_4 t118 t119 t120 t121 t122 _ A7.out).mono ?_
    rintro e w11 ⟨rfl, hb⟩
    refine ⟨_, rfl, ?_⟩
    have n0_ := Aside0.mk (blk_below (g := gb116) (o := .cells #[.int .i64 a0_0, .int .u32 a0_1, .int .u32 a0_2, .int .i64 a0_3, .int .i64 a0_4] 70 (0, 0)) (by (with_reducible repeat (first | refine blk_drewN ?_ _ | refine blk_drew ?_ | refine blk_alloc ?_ _)); exact BK116.out) hb)
    have n1_ := Aside0.mk (blk_below (g := gb117) (o := .cells #[.int .i64 a1_0, .int .u32 a1_1, .int .u32 a1_2, .int .i64 a1_3, .int .i64 a1_4] 70 (0, 0)) (by (with_reducible repeat (first | refine blk_drewN ?_ _ | refine blk_drew ?_ | refine blk_alloc ?_ _)); exact BK117.out) hb)
    have n2_ := Aside0.mk (below_step (by repeat (first | (with_reducible first | exact HB.out | apply below_alloc | apply pw_below_drewN | apply below_drew1 | refine below_set ?_ GE116.out | refine below_set ?_ GE117.out) | exact HB.out)) hb)
    clear BK116
    clear BK117
    clear HB
    have BK116 := n0_
    have BK117 := n1_
    have HB := n2_
    clear n0_ n1_ n2_
    (try clear hb)
    (try clear hb2)
    (try clear hk)
    (try clear hi)
    refine hK.out _ _ ⟨(blk_cell BK116.out 0).trans rfl, (blk_cell BK116.out 1).trans rfl, (blk_cell BK116.out 2).trans rfl, (blk_cell BK116.out 3).trans rfl, (blk_cell BK116.out 4).trans rfl, (blk_cell BK117.out 0).trans rfl, (blk_cell BK117.out 1).trans rfl, (blk_cell BK117.out 2).trans rfl, (blk_cell BK117.out 3).trans rfl, (blk_cell BK117.out 4).trans rfl⟩ (fun hHeld => ?_)
    clear hK K
    refine norm_ (a' := ?_) ?_ ?_
    rotate_left
    · show Act.put _ (some 11) _ = _
      simp only [Act.put, List.setIfInBounds_toArray, List.set_cons_zero, List.set_cons_succ, i64_w, i32_w]
      rfl
    refine pure_ (i := 7) (N := some 12) (v := ?_) (a' := ?_) #[true, true, true, true, true, true, true, true, false, false] rfl rfl (any_of HT_.out (by kernel_rfl)) (fun _ _ _ h => h) (Or.inl ⟨by rfl, ?_⟩) ?_ ?_
    rotate_left
    · intro w'
      go_simp
      with_reducible rfl
    rotate_left
    · simp only [Act.put, List.setIfInBounds_toArray, List.set_cons_zero, List.set_cons_succ, i64_w, i32_w]
      rfl
    refine pure_ (i := 8) (N := some 13) (v := ?_) (a' := ?_) #[true, true, true, true, true, true, true, true, true, false] rfl rfl (any_of HT_.out (by kernel_rfl)) (fun _ _ _ h => h) (Or.inl ⟨by rfl, ?_⟩) ?_ ?_
    rotate_left
    · intro w'
      go_simp
      with_reducible rfl
    rotate_left
    · simp only [Act.put, List.setIfInBounds_toArray, List.set_cons_zero, List.set_cons_succ, i64_w, i32_w]
      rfl
    refine pure_ (i := 9) (N := some 4) (v := ?_) (a' := ?_) #[true, true, true, true, true, true, true, true, true, true] rfl rfl (any_of HT_.out (by kernel_rfl)) (fun _ _ _ h => h) (Or.inl ⟨by rfl, ?_⟩) ?_ ?_
    rotate_left
    · intro w'
      go_simp
      with_reducible rfl
    rotate_left
    · simp only [Act.put, List.setIfInBounds_toArray, List.set_cons_zero, List.set_cons_succ, i64_w, i32_w]
      rfl
    refine done_ (done_of HT_.out (by kernel_rfl)) ?_
    try go_wp2
    go_ret
    exact ⟨by first | rfl | (simp [errW_none, errW_some] <;> rfl) | (simp [*, errW_none, errW_some] <;> rfl), by repeat (first | (with_reducible first | exact HB.out | apply below_alloc | apply pw_below_drewN | apply below_drew1 | refine below_set ?_ GE116.out | refine below_set ?_ GE117.out) | exact HB.out)⟩

-- NOT PRINTED: function 93 (rutterref12_Table_put)

-- NOT PRINTED: function 30 (rutterref12_Table_Note)

-- NOT PRINTED: function 32 (rutterref12_Table_Import)

/-! ### rutterref06_Records: function 33 -/
def rutterref06_Records.l0 : Nat → List (S83) → List (S83) → Int → Option (Bool)
  | 0, _, _, _ => none
  | k + 1, x0, x1, x5 => if x5 < (x0.length : Int) then (if 0 ≤ x5 then (if x5 < (x1.length : Int) then (if ((!(((rd_T83 x0 x5).f0.f0) == ((rd_T83 x1 x5).f0.f0)) || (!(((rd_T83 x0 x5).f0.f1) == ((rd_T83 x1 x5).f0.f1)) || (!(((rd_T83 x0 x5).f0.f2) == ((rd_T83 x1 x5).f0.f2)) || (!(((rd_T83 x0 x5).f0.f3) == ((rd_T83 x1 x5).f0.f3)) || (!(((rd_T83 x0 x5).f0.f4) == ((rd_T83 x1 x5).f0.f4))))))) || (!(((rd_T83 x0 x5).f1) == ((rd_T83 x1 x5).f1)))) = true then (some false) else (rutterref06_Records.l0 k x0 x1 (wrap64 (x5 + 1)))) else (none)) else (none)) else (some true)
def rutterref06_Records.f (k : Nat) (l0 : List (S83)) (l1 : List (S83)) : Option (Bool) := if (l0.length : Int) = (l1.length : Int) then (rutterref06_Records.l0 k l0 l1 0) else (some false)
theorem rutterref06_Records.mono_l : ∀ k, (∀ y0 y1 y2, LeO (rutterref06_Records.l0 k y0 y1 y2) (rutterref06_Records.l0 (k + 1) y0 y1 y2))
  | 0 => fun _ _ _ r h => by simp [rutterref06_Records.l0] at h
  | k + 1 => by
    have ih0 := rutterref06_Records.mono_l k
    · intro y0 y1 y2
      unfold rutterref06_Records.l0
      repeat' first
      | (with_reducible exact ih0 _ _ _)
      | (with_reducible exact LeO.refl _)
      | (with_reducible exact LeO.none _)
      | (with_reducible refine LeO.ite ?_ ?_)
      | (with_reducible refine LeO.bind ?_ (fun _ => ?_))
      | exact ih0 _ _ _
      | exact LeO.none _
      | refine LeO.ite ?_ ?_
      | refine LeO.bind ?_ (fun _ => ?_)
theorem rutterref06_Records.mono : ∀ a0 a1 k, LeO (rutterref06_Records.f k a0 a1) (rutterref06_Records.f (k + 1) a0 a1) := by
  intro a0 a1 k
  have ih0 := rutterref06_Records.mono_l k
  unfold rutterref06_Records.f
  repeat' first
      | (with_reducible exact ih0 _ _ _)
      | (with_reducible exact LeO.refl _)
      | (with_reducible exact LeO.none _)
      | (with_reducible refine LeO.ite ?_ ?_)
      | (with_reducible refine LeO.bind ?_ (fun _ => ?_))
      | exact ih0 _ _ _
      | exact LeO.none _
      | refine LeO.ite ?_ ?_
      | refine LeO.bind ?_ (fun _ => ?_)
set_option maxHeartbeats 8000000 in
set_option maxRecDepth 100000 in
theorem rutterref06_Records.calls (k : Nat) (A0 : Option Addr) (c0 : Nat) (l0 : List (S83)) (A1 : Option Addr) (c1 : Nat) (l1 : List (S83)) (r : Bool) (w : World) (hr0 : Kd.C k83 w A0 l0.length l0) (hc0 : l0.length ≤ c0) (hr1 : Kd.C k83 w A1 l1.length l1) (hc1 : l1.length ≤ c1) (h : rutterref06_Records.f k l0 l1 = some r) :
    Calls Try.prog 33 #[.slice A0 l0.length c0, .slice A1 l1.length c1] w fun e w' => e = .returned (.bool r) ∧ Drawn0 w w' := by
  have hu83 := Try.underlying83
  have HR0 := Aside0.mk hr0
  have HC0 := Aside0.mk hc0
  clear hr0 hc0
  have HR1 := Aside0.mk hr1
  have HC1 := Aside0.mk hc1
  clear hr1 hc1
  have H : (if (l0.length : Int) = (l1.length : Int) then (rutterref06_Records.l0 k l0 l1 0) else (some false)) = some r := h
  clear h
  by_cases c3 : (l0.length : Int) = (l1.length : Int)
  · rw [if_pos c3] at H
    have c3b0 : ((l0.length : Int) == (l1.length : Int)) = true := beq_iff_eq.mpr c3
    have c3b1 : ((l0.length : Int) != (l1.length : Int)) = false := bne_eq_false_iff_eq.mpr c3
    have c3b2 : (l0.length == l1.length) = true := by first | simpa using c3 | (simp at c3 ⊢; omega)
    clear c3
    have H' := Aside0.mk H
    clear H
    go_enter Try.func33, Try.ntmps33
    go_wp2
    repeat (go_quiet (fail); try go_wp2)
    go_loopg [5] k (fun kq v5 w' => ∃ (x5_1 : Int), v5 = .int .i64 x5_1 ∧ Aside0 (rutterref06_Records.l0 kq l0 l1 x5_1 = some r) ∧ Aside0 (kq ≤ k) ∧ Drawn0 w w')
    case atStart => exact ⟨(0), (by first | rfl | (simp; done) | (simp [*]; done)), H', ⟨Nat.le_refl _⟩, by repeat (first | exact Drawn0.refl _ | apply Drawn0.step)⟩
    case round =>
      clear H'
      try clear c1
      try clear p2
      try clear c3
      try clear c3b0
      try clear c3b1
      try clear c3b2
      obtain ⟨x5_1, rfl, HA, HK1, ⟨m1, rfl⟩⟩ := hrel
      cases gk with
      | zero => exact absurd HA.out (by simp [rutterref06_Records.l0])
      | succ k1 =>
        have H := HA.out
        clear HA
        simp only [rutterref06_Records.l0] at H
        by_cases c4 : x5_1 < (l0.length : Int)
        · rw [if_pos c4] at H
          have c4b0 : decide (x5_1 < (l0.length : Int)) = true := decide_eq_true c4
          clear c4
          by_cases c5 : 0 ≤ x5_1
          · rw [if_pos c5] at H
            have c5b0 : decide (0 ≤ x5_1) = true := decide_eq_true c5
            clear c5
            by_cases c6 : x5_1 < (l1.length : Int)
            · rw [if_pos c6] at H
              have c6b0 : decide (x5_1 < (l1.length : Int)) = true := decide_eq_true c6
              clear c6
              by_cases c7 : ((!(((rd_T83 l0 x5_1).f0.f0) == ((rd_T83 l1 x5_1).f0.f0)) || (!(((rd_T83 l0 x5_1).f0.f1) == ((rd_T83 l1 x5_1).f0.f1)) || (!(((rd_T83 l0 x5_1).f0.f2) == ((rd_T83 l1 x5_1).f0.f2)) || (!(((rd_T83 l0 x5_1).f0.f3) == ((rd_T83 l1 x5_1).f0.f3)) || (!(((rd_T83 l0 x5_1).f0.f4) == ((rd_T83 l1 x5_1).f0.f4))))))) || (!(((rd_T83 l0 x5_1).f1) == ((rd_T83 l1 x5_1).f1)))) = true
              · rw [if_pos c7] at H
                have c7b0 : ((!(((rd_T83 l0 x5_1).f0.f0) == ((rd_T83 l1 x5_1).f0.f0)) || (!(((rd_T83 l0 x5_1).f0.f1) == ((rd_T83 l1 x5_1).f0.f1)) || (!(((rd_T83 l0 x5_1).f0.f2) == ((rd_T83 l1 x5_1).f0.f2)) || (!(((rd_T83 l0 x5_1).f0.f3) == ((rd_T83 l1 x5_1).f0.f3)) || (!(((rd_T83 l0 x5_1).f0.f4) == ((rd_T83 l1 x5_1).f0.f4))))))) || (!(((rd_T83 l0 x5_1).f1) == ((rd_T83 l1 x5_1).f1)))) = true := c7
                clear c7
                obtain rfl := Option.some.inj H
                have p139 : 0 ≤ (x5_1 : Int) := of_decide_eq_true (by first | (with_reducible assumption) | assumption)
                have q139 : x5_1 < (l0.length : Int) := of_decide_eq_true (by first | (with_reducible assumption) | assumption)
                obtain ⟨ad139, e139, hx139_0, hx139_1, hx139_2, hx139_3, hx139_4, hx139_5⟩ := at_T83 HR0.out x5_1 p139 q139
                cases e139
                replace p139 := eq_true p139
                replace q139 := eq_true q139
                have p140 : 0 ≤ (x5_1 : Int) := of_decide_eq_true (by first | (with_reducible assumption) | assumption)
                have q140 : x5_1 < (l1.length : Int) := of_decide_eq_true (by first | (with_reducible assumption) | assumption)
                obtain ⟨ad140, e140, hx140_0, hx140_1, hx140_2, hx140_3, hx140_4, hx140_5⟩ := at_T83 HR1.out x5_1 p140 q140
                cases e140
                replace p140 := eq_true p140
                replace q140 := eq_true q140
                go_wp2
                repeat (go_quiet (fail); try go_wp2)
                go_ret
                exact ⟨by first | rfl | (simp; done) | (simp [*]; done), by repeat (first | exact Drawn0.refl _ | apply Drawn0.step)⟩
              · rw [if_neg c7] at H
                have c7b0 : ((!(((rd_T83 l0 x5_1).f0.f0) == ((rd_T83 l1 x5_1).f0.f0)) || (!(((rd_T83 l0 x5_1).f0.f1) == ((rd_T83 l1 x5_1).f0.f1)) || (!(((rd_T83 l0 x5_1).f0.f2) == ((rd_T83 l1 x5_1).f0.f2)) || (!(((rd_T83 l0 x5_1).f0.f3) == ((rd_T83 l1 x5_1).f0.f3)) || (!(((rd_T83 l0 x5_1).f0.f4) == ((rd_T83 l1 x5_1).f0.f4))))))) || (!(((rd_T83 l0 x5_1).f1) == ((rd_T83 l1 x5_1).f1)))) = false := by simpa using c7
                clear c7
                have H' := Aside0.mk H
                clear H
                have p139 : 0 ≤ (x5_1 : Int) := of_decide_eq_true (by first | (with_reducible assumption) | assumption)
                have q139 : x5_1 < (l0.length : Int) := of_decide_eq_true (by first | (with_reducible assumption) | assumption)
                obtain ⟨ad139, e139, hx139_0, hx139_1, hx139_2, hx139_3, hx139_4, hx139_5⟩ := at_T83 HR0.out x5_1 p139 q139
                cases e139
                replace p139 := eq_true p139
                replace q139 := eq_true q139
                have p140 : 0 ≤ (x5_1 : Int) := of_decide_eq_true (by first | (with_reducible assumption) | assumption)
                have q140 : x5_1 < (l1.length : Int) := of_decide_eq_true (by first | (with_reducible assumption) | assumption)
                obtain ⟨ad140, e140, hx140_0, hx140_1, hx140_2, hx140_3, hx140_4, hx140_5⟩ := at_T83 HR1.out x5_1 p140 q140
                cases e140
                replace p140 := eq_true p140
                replace q140 := eq_true q140
                go_wp2
                repeat (go_quiet (fail); try go_wp2)
                go_roundg k1
                case measure => have := HK1.out; omega
                case rel => exact ⟨(wrap64 (x5_1 + 1)), (by first | rfl | (simp; done) | (simp [*]; done)), H', ⟨by have := HK1.out; omega⟩, by repeat (first | exact Drawn0.refl _ | apply Drawn0.step)⟩
            · rw [if_neg c6] at H
              exact absurd H (by simp)
          · rw [if_neg c5] at H
            exact absurd H (by simp)
        · rw [if_neg c4] at H
          have c4b0 : decide (x5_1 < (l0.length : Int)) = false := decide_eq_false c4
          clear c4
          obtain rfl := Option.some.inj H
          go_wp2
          repeat (go_quiet (fail); try go_wp2)
          go_ret
          exact ⟨by first | rfl | (simp; done) | (simp [*]; done), by repeat (first | exact Drawn0.refl _ | apply Drawn0.step)⟩
  · rw [if_neg c3] at H
    have c3b0 : ((l0.length : Int) == (l1.length : Int)) = false := beq_eq_false_iff_ne.mpr c3
    have c3b1 : ((l0.length : Int) != (l1.length : Int)) = true := bne_iff_ne.mpr c3
    have c3b2 : (l0.length == l1.length) = false := by first | simpa using c3 | (simp at c3 ⊢; omega)
    obtain rfl := Option.some.inj H
    go_enter Try.func33, Try.ntmps33
    go_wp2
    repeat (go_quiet (fail); try go_wp2)
    go_ret
    exact ⟨by first | rfl | (simp; done) | (simp [*]; done), by repeat (first | exact Drawn0.refl _ | apply Drawn0.step)⟩

/-! ### rutterref12_Table_Known: function 37 -/
def rutterref12_Table_Known.l0 : Nat → List (S83) → Int → Int → List (S83) → Int → Int → Int → Int → Int → Option (Bool × Int)
  | 0, _, _, _, _, _, _, _, _, _ => none
  | k + 1, x7, x8, x1000, x1001, x142000, x142001, x142002, x142003, x142004 => if x8 < (x7.length : Int) then (if 0 ≤ x8 then ((rutterref12_Alike.f ((rd_T83 x7 x8).f0.f0) ((rd_T83 x7 x8).f0.f1) ((rd_T83 x7 x8).f0.f2) ((rd_T83 x7 x8).f0.f3) ((rd_T83 x7 x8).f0.f4) x142000 x142001 x142002 x142003 x142004).bind fun t147 => (if t147 = true then (some (true, x1000)) else (rutterref12_Table_Known.l0 k x7 (wrap64 (x8 + 1)) x1000 x1001 x142000 x142001 x142002 x142003 x142004))) else (none)) else (some (false, x1000))
def rutterref12_Table_Known.f (k : Nat) (s0_0 : Int) (s0_1 : List (S83)) (a1_0 : Int) (a1_1 : Int) (a1_2 : Int) (a1_3 : Int) (a1_4 : Int) (a2 : Int) : Option (Bool × Int) := (rutterref12_Table_Records.f k s0_0 s0_1 a2).bind fun bt142 => (rutterref12_Table_Known.l0 k bt142.1 0 bt142.2 s0_1 a1_0 a1_1 a1_2 a1_3 a1_4)
theorem rutterref12_Table_Known.mono_l : ∀ k, (∀ y0 y1 y2 y3 y4 y5 y6 y7 y8, LeO (rutterref12_Table_Known.l0 k y0 y1 y2 y3 y4 y5 y6 y7 y8) (rutterref12_Table_Known.l0 (k + 1) y0 y1 y2 y3 y4 y5 y6 y7 y8))
  | 0 => fun _ _ _ _ _ _ _ _ _ r h => by simp [rutterref12_Table_Known.l0] at h
  | k + 1 => by
    have ih0 := rutterref12_Table_Known.mono_l k
    · intro y0 y1 y2 y3 y4 y5 y6 y7 y8
      unfold rutterref12_Table_Known.l0
      repeat' first
      | (with_reducible exact ih0 _ _ _ _ _ _ _ _ _)
      | (with_reducible exact rutterref12_Table_Records.mono _ _ _ _)
      | (with_reducible exact LeO.refl _)
      | (with_reducible exact LeO.none _)
      | (with_reducible refine LeO.ite ?_ ?_)
      | (with_reducible refine LeO.bind ?_ (fun _ => ?_))
      | exact ih0 _ _ _ _ _ _ _ _ _
      | exact rutterref12_Table_Records.mono _ _ _ _
      | exact LeO.none _
      | refine LeO.ite ?_ ?_
      | refine LeO.bind ?_ (fun _ => ?_)
theorem rutterref12_Table_Known.mono : ∀ a0 a1 a2 a3 a4 a5 a6 a7 k, LeO (rutterref12_Table_Known.f k a0 a1 a2 a3 a4 a5 a6 a7) (rutterref12_Table_Known.f (k + 1) a0 a1 a2 a3 a4 a5 a6 a7) := by
  intro a0 a1 a2 a3 a4 a5 a6 a7 k
  have ih0 := rutterref12_Table_Known.mono_l k
  unfold rutterref12_Table_Known.f
  repeat' first
      | (with_reducible exact ih0 _ _ _ _ _ _ _ _ _)
      | (with_reducible exact rutterref12_Table_Records.mono _ _ _ _)
      | (with_reducible exact LeO.refl _)
      | (with_reducible exact LeO.none _)
      | (with_reducible refine LeO.ite ?_ ?_)
      | (with_reducible refine LeO.bind ?_ (fun _ => ?_))
      | exact ih0 _ _ _ _ _ _ _ _ _
      | exact rutterref12_Table_Records.mono _ _ _ _
      | exact LeO.none _
      | refine LeO.ite ?_ ?_
      | refine LeO.bind ?_ (fun _ => ?_)
def rutterref12_Table_Known.T5 : Bool × List (List Nat × List Nat) := (true, [([], []), ([], []), ([0, 1], [0, 1]), ([2], [2]), ([3], [3]), ([], []), ([4, 5], [4, 5]), ([6, 6, 0, 1, 2, 3, 4, 5, 6], [6])])
def rutterref12_Table_Known.B5 : List Nat := [0, 0, 3, 7, 15, 0, 63, 127]
theorem rutterref12_Table_Known.tab5 : rtab .any (opsOf Try.f37 5) = rutterref12_Table_Known.T5 := by kernel_rfl
theorem rutterref12_Table_Known.bits5 : waitsOk rutterref12_Table_Known.T5.2 rutterref12_Table_Known.B5 = true := by kernel_rfl
set_option maxHeartbeats 8000000 in
set_option maxRecDepth 100000 in
theorem rutterref12_Table_Known.calls (k : Nat) (g : Nat) (s0_0 : Int) (s0_1 : List (S83)) (a1_0 : Int) (a1_1 : Int) (a1_2 : Int) (a1_3 : Int) (a1_4 : Int) (a2 : Int) (r1 : Bool) (r2 : Int) (w0 w : World) (hI : IsS67 w0 w g s0_0 s0_1) (hB : Below w0.heap.size w0 w) (h : rutterref12_Table_Known.f k s0_0 s0_1 a1_0 a1_1 a1_2 a1_3 a1_4 a2 = some (r1, r2)) :
    Calls Try.prog 37 #[.pointer (some ⟨g, 0, none⟩), .agg #[.int .i64 a1_0, .int .u32 a1_1, .int .u32 a1_2, .int .i64 a1_3, .int .i64 a1_4], .int .i64 a2] w fun e w' => e = .returned (.bool r1) ∧ IsS67 w0 w' g r2 s0_1 ∧ Below w0.heap.size w0 w' ∧ KeepBut w w' g none := by
  have hu70 := Try.underlying70
  have HI0 := Aside0.mk hI
  have HK := Aside0.mk (KeepBut.refl w g none)
  have HL := Aside0.mk hB.size
  clear hI
  have HW0 := Aside0.mk hB.size
  have HB := Aside0.mk hB
  clear hB
  have H : ((rutterref12_Table_Records.f k s0_0 s0_1 a2).bind fun bt142 => (rutterref12_Table_Known.l0 k bt142.1 0 bt142.2 s0_1 a1_0 a1_1 a1_2 a1_3 a1_4)) = some (r1, r2) := h
  clear h
  replace H := Option.bind_eq_some_iff.mp H
  obtain ⟨⟨t142, t145⟩, A40, H⟩ := H
  replace H : (rutterref12_Table_Known.l0 k t142 0 t145 s0_1 a1_0 a1_1 a1_2 a1_3 a1_4) = some (r1, r2) := H
  have A4 := Aside0.mk A40
  clear A40
  have H' := Aside0.mk H
  clear H
  go_enter Try.func37, Try.ntmps37
  go_wp2_with (first | ((with_reducible refine gate_dst (N := 4) rfl ?_); refine box_event ?hg (N := 4) ?hd (cs := #[.int .i64 a1_0, .int .u32 a1_1, .int .u32 a1_2, .int .i64 a1_3, .int .i64 a1_4]) (t := 70) ?hr ?_; (case hd => rfl); (case hg => rfl); (case hr => first | (go_simp; done) | (go_simp; rfl)); intro gb141 hg w5 hbox hb; have n0_ := Aside0.mk (IsS67.below (by repeat (first | (with_reducible first | exact HI0.out | apply IsS67.alloc | apply IsS67.drewN | apply IsS67.drew | apply IsS67.set_0) | exact HI0.out)) hb); have n1_ := Aside0.mk (KeepBut.trans (by repeat (first | (with_reducible first | exact HK.out | apply KeepBut.set_ | apply keep_drewN | apply keep_drew | apply keep_alloc) | exact HK.out)) (KeepBut.of_below hb g none) (.inl rfl)); have n2_ := Aside0.mk (below_step (by repeat (first | (with_reducible first | exact HB.out | apply below_alloc | apply pw_below_drewN | apply below_drew1 | refine below_set ?_ (IsS67.ge HI0.out)) | exact HB.out)) hb); have n3_ := Aside0.mk (hbox); have n4_ := Aside0.mk ((by rw [hg]; exact (keep_size (w := w) (g := g) (row := none) (by repeat (first | (with_reducible first | exact HK.out | apply KeepBut.set_ | apply keep_drewN | apply keep_drew | apply keep_alloc) | exact HK.out))) : w.heap.size ≤ gb141)); have n5_ := Aside0.mk ((Nat.le_trans HW0.out (by rw [hg]; exact (keep_size (w := w) (g := g) (row := none) (by repeat (first | (with_reducible first | exact HK.out | apply KeepBut.set_ | apply keep_drewN | apply keep_drew | apply keep_alloc) | exact HK.out))) : w.heap.size ≤ gb141) : w0.heap.size ≤ gb141)); have n6_ := Aside0.mk ((by rw [hg]; exact Nat.ne_of_lt (IsS67.lt (show IsS67 w0 _ g s0_0 s0_1 from by repeat (first | (with_reducible first | exact HI0.out | apply IsS67.alloc | apply IsS67.drewN | apply IsS67.drew | apply IsS67.set_0) | exact HI0.out))) : g ≠ gb141)); have n7_ := Aside0.mk ((by rw [hg]; exact Nat.ne_of_gt (IsS67.lt (show IsS67 w0 _ g s0_0 s0_1 from by repeat (first | (with_reducible first | exact HI0.out | apply IsS67.alloc | apply IsS67.drewN | apply IsS67.drew | apply IsS67.set_0) | exact HI0.out))) : gb141 ≠ g)); clear HI0; clear HK; clear HB; have HI0 := n0_; have HK := n1_; have HB := n2_; have BK141 := n3_; have GW141 := n4_; have GE141 := n5_; have NB0_141 := n6_; have NB141_0 := n7_; clear n0_ n1_ n2_ n3_ n4_ n5_ n6_ n7_; clear hb hbox hg) | ((with_reducible refine gate_callee (f := 35) rfl ?_); refine goesL_ (some 12) rfl rfl Try.func35 (by kernel_rfl) rfl #[.pointer (some ⟨g, 0, none⟩), .int .i64 a2] rfl (by (try simp only [List.map_toArray, List.map_cons, List.map_nil]); first | done | rfl | (simp only [List.length_drop, List.length_take]; rfl)) ?_; (with_reducible refine (rutterref12_Table_Records.calls k g s0_0 s0_1 a2 t142 t145 w0 _ ?side1 ?side2 A4.out).mono ?_); (case side1 => repeat (first | (with_reducible first | exact HI0.out | apply IsS67.alloc | apply IsS67.drewN | apply IsS67.drew | apply IsS67.set_0 | refine IsS67.far ?_ NB0_141.out _) | exact HI0.out)); (case side2 => repeat (first | (with_reducible first | exact HB.out | apply below_alloc | apply pw_below_drewN | apply below_drew1 | refine below_set ?_ (IsS67.ge HI0.out) | refine below_set ?_ GE141.out) | exact HB.out)); rintro e w6 ⟨v143, rfl, ho0, hi, hb, hk⟩; refine ⟨_, rfl, ?_⟩; have n0_ := Aside0.mk (KeepBut.blk hk (g' := gb141) (o := .cells #[.int .i64 a1_0, .int .u32 a1_1, .int .u32 a1_2, .int .i64 a1_3, .int .i64 a1_4] 70 (0, 0)) (by (with_reducible repeat (first | refine blk_drewN ?_ _ | refine blk_drew ?_ | refine blk_alloc ?_ _)); exact BK141.out) NB141_0.out (by simp)); have n1_ := Aside0.mk (Kd.R_lower ho0 (keep_size (w := w) (g := g) (row := none) (by repeat (first | (with_reducible first | exact HK.out | apply KeepBut.set_ | apply keep_drewN | apply keep_drew | apply keep_alloc | refine keep_far ?_ GW141.out _) | exact HK.out)))); have n2_ := Aside0.mk (KeepBut.trans (by repeat (first | (with_reducible first | exact HK.out | apply KeepBut.set_ | apply keep_drewN | apply keep_drew | apply keep_alloc | refine keep_far ?_ GW141.out _) | exact HK.out)) hk (.inl rfl)); have n3_ := Aside0.mk (hb); have n4_ := Aside0.mk (hi); clear BK141; clear HK; clear HB; clear HI0; have BK141 := n0_; have HO144 := n1_; have HK := n2_; have HB := n3_; have HI0 := n4_; clear n0_ n1_ n2_ n3_ n4_; (try clear hb); (try clear hb2); (try clear hk); (try clear hi); (try clear ho0)))
  go_loopg [8] k (fun kq v8 w' => ∃ (x8_1 : Int), v8 = .int .i64 x8_1 ∧ Aside0 (rutterref12_Table_Known.l0 kq t142 x8_1 t145 s0_1 a1_0 a1_1 a1_2 a1_3 a1_4 = some (r1, r2)) ∧ Aside0 (kq ≤ k) ∧ Aside0 (Kd.R k83 83 w' w.heap.size (fun _ => True) v143 t142) ∧ Aside0 (w'.heap[gb141]? = some (.cells #[.int .i64 a1_0, .int .u32 a1_1, .int .u32 a1_2, .int .i64 a1_3, .int .i64 a1_4] 70 (0, 0))) ∧ Aside0 (IsS67 w0 w' g t145 s0_1) ∧ Aside0 (KeepBut w w' g none) ∧ Aside0 (Below w0.heap.size w0 w'))
  case atStart => exact ⟨(0), (by first | rfl | (simp; done) | (simp [*]; done)), H', ⟨Nat.le_refl _⟩, ⟨by (with_reducible repeat (first | apply Kd.R_alloc | apply Kd.R_drewN | apply Kd.R_drew)); exact HO144.out⟩, ⟨by (with_reducible repeat (first | refine blk_drewN ?_ _ | refine blk_drew ?_ | refine blk_alloc ?_ _)); exact BK141.out⟩, ⟨by repeat (first | (with_reducible first | exact HI0.out | apply IsS67.alloc | apply IsS67.drewN | apply IsS67.drew | apply IsS67.set_0 | refine IsS67.far ?_ NB0_141.out _) | exact HI0.out)⟩, ⟨by repeat (first | (with_reducible first | exact HK.out | apply KeepBut.set_ | apply keep_drewN | apply keep_drew | apply keep_alloc | refine keep_far ?_ GW141.out _) | exact HK.out)⟩, ⟨by repeat (first | (with_reducible first | exact HB.out | apply below_alloc | apply pw_below_drewN | apply below_drew1 | refine below_set ?_ (IsS67.ge HI0.out) | refine below_set ?_ GE141.out) | exact HB.out)⟩⟩
  case round =>
    clear H'
    try clear p2
    try clear c3
    obtain ⟨x8_1, rfl, HA, HK1, HO_7, BK141, HI0, HK, HB⟩ := hrel
    cases gk with
    | zero => exact absurd HA.out (by simp [rutterref12_Table_Known.l0])
    | succ k1 =>
      have H := HA.out
      clear HA
      simp only [rutterref12_Table_Known.l0] at H
      by_cases c7 : x8_1 < (t142.length : Int)
      · rw [if_pos c7] at H
        have c7b0 : decide (x8_1 < (t142.length : Int)) = true := decide_eq_true c7
        clear c7
        by_cases c8 : 0 ≤ x8_1
        · rw [if_pos c8] at H
          have c8b0 : decide (0 ≤ x8_1) = true := decide_eq_true c8
          clear c8
          replace H := Option.bind_eq_some_iff.mp H
          obtain ⟨t147, A90, H⟩ := H
          replace H : (if t147 = true then (some (true, t145)) else (rutterref12_Table_Known.l0 k1 t142 (wrap64 (x8_1 + 1)) t145 s0_1 a1_0 a1_1 a1_2 a1_3 a1_4)) = some (r1, r2) := H
          have A9 := Aside0.mk A90
          clear A90
          by_cases c10 : t147 = true
          · subst c10
            have H1 : (some (true, t145)) = some (r1, r2) := by rw [if_pos rfl] at H; exact H
            clear H
            have H := H1
            clear H1
            simp only [Option.some.injEq, Prod.mk.injEq] at H
            obtain ⟨rfl, rfl⟩ := H
            obtain ⟨Ao11, co11, eo11⟩ := Kd.R_slice HO_7.out
            subst eo11
            try go_wp2
            have n0_ := Aside0.mk (Kd.R_drew HO_7.out)
            have n1_ := Aside0.mk (blk_drew BK141.out)
            have n2_ := Aside0.mk (IsS67.drew HI0.out)
            have n3_ := Aside0.mk (keep_drew HK.out)
            have n4_ := Aside0.mk (below_drew1 HB.out)
            clear HO_7
            clear BK141
            clear HI0
            clear HK
            clear HB
            have HO_7 := n0_
            have BK141 := n1_
            have HI0 := n2_
            have HK := n3_
            have HB := n4_
            clear n0_ n1_ n2_ n3_ n4_
            have p146 : 0 ≤ (x8_1 : Int) := of_decide_eq_true (by first | (with_reducible assumption) | assumption)
            have q146 : x8_1 < (t142.length : Int) := of_decide_eq_true (by first | (with_reducible assumption) | assumption)
            obtain ⟨ad146, e146, hx146_0, hx146_1, hx146_2, hx146_3, hx146_4, hx146_5⟩ := at_T83 (Kd.R_reads' HO_7.out).2.2 x8_1 p146 q146
            cases e146
            replace p146 := eq_true p146
            replace q146 := eq_true q146
            refine start_ (n := 8) (S := fun w' => w'.cell? ⟨gb141, 0, none⟩ = some (.int .i64 a1_0) ∧ w'.cell? ⟨gb141, 1, none⟩ = some (.int .u32 a1_1) ∧ w'.cell? ⟨gb141, 2, none⟩ = some (.int .u32 a1_2) ∧ w'.cell? ⟨gb141, 3, none⟩ = some (.int .i64 a1_3) ∧ w'.cell? ⟨gb141, 4, none⟩ = some (.int .i64 a1_4) ∧ w'.cell? (ad146.add ((x8_1).toNat * 6)) = some (.int .i64 ((rd_T83 t142 x8_1).f0.f0)) ∧ w'.cell? ⟨(ad146.add ((x8_1).toNat * 6)).block, (ad146.add ((x8_1).toNat * 6)).off + 1, none⟩ = some (.int .u32 ((rd_T83 t142 x8_1).f0.f1)) ∧ w'.cell? ⟨(ad146.add ((x8_1).toNat * 6)).block, (ad146.add ((x8_1).toNat * 6)).off + 2, none⟩ = some (.int .u32 ((rd_T83 t142 x8_1).f0.f2)) ∧ w'.cell? ⟨(ad146.add ((x8_1).toNat * 6)).block, (ad146.add ((x8_1).toNat * 6)).off + 3, none⟩ = some (.int .i64 ((rd_T83 t142 x8_1).f0.f3)) ∧ w'.cell? ⟨(ad146.add ((x8_1).toNat * 6)).block, (ad146.add ((x8_1).toNat * 6)).off + 4, none⟩ = some (.int .i64 ((rd_T83 t142 x8_1).f0.f4)) ∧ w'.cell? ⟨(ad146.add ((x8_1).toNat * 6)).block, (ad146.add ((x8_1).toNat * 6)).off + 5, none⟩ = some (.int .i64 ((rd_T83 t142 x8_1).f1))) (ds := []) #[false, false, false, false, false, false, false, false] (by kernel_rfl) rfl rfl ⟨(blk_cell BK141.out 0).trans rfl, (blk_cell BK141.out 1).trans rfl, (blk_cell BK141.out 2).trans rfl, (blk_cell BK141.out 3).trans rfl, (blk_cell BK141.out 4).trans rfl, hx146_0, hx146_1, hx146_2, hx146_3, hx146_4, hx146_5⟩ (fun hHeld => ?_); refine with_tabW rutterref12_Table_Known.tab5 rutterref12_Table_Known.bits5 (fun HT_ HW_ => ?_)
            generalize wr.drew = w12 at HO_7 BK141 HI0 HK HB hx146_0 hx146_1 hx146_2 hx146_3 hx146_4 hx146_5 hHeld ⊢
            refine pure_ (i := 0) (N := some 19) (v := ?_) (a' := ?_) #[true, false, false, false, false, false, false, false] rfl rfl (any_of HT_.out (by kernel_rfl)) (fun _ _ _ h => h) (Or.inl ⟨by rfl, ?_⟩) ?_ ?_
            rotate_left
            · intro w'
              go_simp
              with_reducible rfl
            rotate_left
            · simp only [Act.put, List.setIfInBounds_toArray, List.set_cons_zero, List.set_cons_succ, i64_w, i32_w]
              rfl
            refine pure_ (i := 1) (N := some 20) (v := ?_) (a' := ?_) #[true, true, false, false, false, false, false, false] rfl rfl (any_of HT_.out (by kernel_rfl)) (fun _ _ _ h => h) (Or.inl ⟨by rfl, ?_⟩) ?_ ?_
            rotate_left
            · intro w'
              go_simp
              with_reducible rfl
            rotate_left
            · simp only [Act.put, List.setIfInBounds_toArray, List.set_cons_zero, List.set_cons_succ, i64_w, i32_w]
              rfl
            refine pure_ (i := 2) (N := some 21) (v := ?_) (a' := ?_) #[true, true, true, false, false, false, false, false] rfl rfl (any_of HT_.out (by kernel_rfl)) (fun _ _ _ h => h) (Or.inl ⟨by rfl, ?_⟩) ?_ ?_
            rotate_left
            · intro w'
              go_simp
              with_reducible rfl
            rotate_left
            · simp only [Act.put, List.setIfInBounds_toArray, List.set_cons_zero, List.set_cons_succ, i64_w, i32_w]
              rfl
            refine pure_ (i := 3) (N := some 22) (v := ?_) (a' := ?_) #[true, true, true, true, false, false, false, false] rfl rfl (any_of HT_.out (by kernel_rfl)) (fun _ _ _ h => h) (Or.inl ⟨by rfl, ?_⟩) ?_ ?_
            rotate_left
            · intro w'
              go_simp
              with_reducible rfl
            rotate_left
            · simp only [Act.put, List.setIfInBounds_toArray, List.set_cons_zero, List.set_cons_succ, i64_w, i32_w]
              rfl
            refine take_ (i := 4) (N := some 23) (v := ?_) (a' := ?_) #[true, true, true, true, true, false, false, false] rfl rfl (take_ofW HT_.out HW_.out (by kernel_rfl)) (fun _ _ _ h => h) (Or.inl ⟨by rfl, ?_⟩) hHeld ?_ ?_
            rotate_left
            · rintro w' ⟨s0, s1, s2, s3, s4, s5, s6, s7, s8, s9, s10⟩
              go_simp
              with_reducible rfl
            rotate_left
            · simp only [Act.put, List.setIfInBounds_toArray, List.set_cons_zero, List.set_cons_succ, i64_w, i32_w]
              rfl
            refine take_ (i := 5) (N := some 24) (v := ?_) (a' := ?_) #[true, true, true, true, true, true, false, false] rfl rfl (take_ofW HT_.out HW_.out (by kernel_rfl)) (fun _ _ _ h => h) (Or.inl ⟨by rfl, ?_⟩) hHeld ?_ ?_
            rotate_left
            · rintro w' ⟨s0, s1, s2, s3, s4, s5, s6, s7, s8, s9, s10⟩
              go_simp
              with_reducible rfl
            rotate_left
            · simp only [Act.put, List.setIfInBounds_toArray, List.set_cons_zero, List.set_cons_succ, i64_w, i32_w]
              rfl
            refine one_ (i := 6) (N := some 25) #[true, true, true, true, true, true, true, false] rfl rfl (one_of HT_.out (by kernel_rfl)) (by decide) (fun K hK => ?_)
            refine goes_ Try.func98 (by kernel_rfl) rfl #[.agg #[.int .i64 ((rd_T83 t142 x8_1).f0.f0), .int .u32 ((rd_T83 t142 x8_1).f0.f1), .int .u32 ((rd_T83 t142 x8_1).f0.f2), .int .i64 ((rd_T83 t142 x8_1).f0.f3), .int .i64 ((rd_T83 t142 x8_1).f0.f4)], .agg #[.int .i64 a1_0, .int .u32 a1_1, .int .u32 a1_2, .int .i64 a1_3, .int .i64 a1_4]] (by rfl) rfl rfl (by (try simp only [List.map_toArray, List.map_cons, List.map_nil]); first | done | rfl | (simp only [List.length_drop, List.length_take]; rfl)) ?_
            with_reducible refine (rutterref12_Alike.calls ((rd_T83 t142 x8_1).f0.f0) ((rd_T83 t142 x8_1).f0.f1) ((rd_T83 t142 x8_1).f0.f2) ((rd_T83 t142 x8_1).f0.f3) ((rd_T83 t142 x8_1).f0.f4) a1_0 a1_1 a1_2 a1_3 a1_4 true _ A9.out).mono ?_
            rintro e w13 ⟨rfl, hb⟩
            have HS5_ := (hb.cell (World.block_lt_of_cell? _ _ (hHeld.2.2.2.2.2.1))).trans (hHeld.2.2.2.2.2.1)
            have HS6_ := (hb.cell (World.block_lt_of_cell? _ _ (hHeld.2.2.2.2.2.2.1))).trans (hHeld.2.2.2.2.2.2.1)
            have HS7_ := (hb.cell (World.block_lt_of_cell? _ _ (hHeld.2.2.2.2.2.2.2.1))).trans (hHeld.2.2.2.2.2.2.2.1)
            have HS8_ := (hb.cell (World.block_lt_of_cell? _ _ (hHeld.2.2.2.2.2.2.2.2.1))).trans (hHeld.2.2.2.2.2.2.2.2.1)
            have HS9_ := (hb.cell (World.block_lt_of_cell? _ _ (hHeld.2.2.2.2.2.2.2.2.2.1))).trans (hHeld.2.2.2.2.2.2.2.2.2.1)
            have HS10_ := (hb.cell (World.block_lt_of_cell? _ _ (hHeld.2.2.2.2.2.2.2.2.2.2))).trans (hHeld.2.2.2.2.2.2.2.2.2.2)
            refine ⟨_, rfl, ?_⟩
            have n0_ := Aside0.mk (Kd.R_below (by (with_reducible repeat (first | apply Kd.R_alloc | apply Kd.R_drewN | apply Kd.R_drew)); exact HO_7.out) hb)
            have n1_ := Aside0.mk (blk_below (g := gb141) (o := .cells #[.int .i64 a1_0, .int .u32 a1_1, .int .u32 a1_2, .int .i64 a1_3, .int .i64 a1_4] 70 (0, 0)) (by (with_reducible repeat (first | refine blk_drewN ?_ _ | refine blk_drew ?_ | refine blk_alloc ?_ _)); exact BK141.out) hb)
            have n2_ := Aside0.mk (IsS67.below (by repeat (first | (with_reducible first | exact HI0.out | apply IsS67.alloc | apply IsS67.drewN | apply IsS67.drew | apply IsS67.set_0 | refine IsS67.far ?_ NB0_141.out _) | exact HI0.out)) hb)
            have n3_ := Aside0.mk (KeepBut.trans (by repeat (first | (with_reducible first | exact HK.out | apply KeepBut.set_ | apply keep_drewN | apply keep_drew | apply keep_alloc | refine keep_far ?_ GW141.out _) | exact HK.out)) (KeepBut.of_below hb g none) (.inl rfl))
            have n4_ := Aside0.mk (below_step (by repeat (first | (with_reducible first | exact HB.out | apply below_alloc | apply pw_below_drewN | apply below_drew1 | refine below_set ?_ (IsS67.ge HI0.out) | refine below_set ?_ GE141.out) | exact HB.out)) hb)
            clear HO_7
            clear BK141
            clear HI0
            clear HK
            clear HB
            have HO_7 := n0_
            have BK141 := n1_
            have HI0 := n2_
            have HK := n3_
            have HB := n4_
            clear n0_ n1_ n2_ n3_ n4_
            (try clear hb)
            (try clear hb2)
            (try clear hk)
            (try clear hi)
            refine hK.out _ _ ⟨(blk_cell BK141.out 0).trans rfl, (blk_cell BK141.out 1).trans rfl, (blk_cell BK141.out 2).trans rfl, (blk_cell BK141.out 3).trans rfl, (blk_cell BK141.out 4).trans rfl, HS5_, HS6_, HS7_, HS8_, HS9_, HS10_⟩ (fun hHeld => ?_)
            clear hK K
            refine norm_ (a' := ?_) ?_ ?_
            rotate_left
            · show Act.put _ (some 25) _ = _
              simp only [Act.put, List.setIfInBounds_toArray, List.set_cons_zero, List.set_cons_succ, i64_w, i32_w]
              rfl
            refine pure_ (i := 7) (N := some 9) (v := ?_) (a' := ?_) #[true, true, true, true, true, true, true, true] rfl rfl (any_of HT_.out (by kernel_rfl)) (fun _ _ _ h => h) (Or.inl ⟨by rfl, ?_⟩) ?_ ?_
            rotate_left
            · intro w'
              go_simp
              with_reducible rfl
            rotate_left
            · simp only [Act.put, List.setIfInBounds_toArray, List.set_cons_zero, List.set_cons_succ, i64_w, i32_w]
              rfl
            refine done_ (done_of HT_.out (by kernel_rfl)) ?_
            try go_wp2
            go_ret
            exact ⟨by first | rfl | (simp [errW_none, errW_some] <;> rfl) | (simp [*, errW_none, errW_some] <;> rfl), by repeat (first | (with_reducible first | exact HI0.out | apply IsS67.alloc | apply IsS67.drewN | apply IsS67.drew | apply IsS67.set_0 | refine IsS67.far ?_ NB0_141.out _) | exact HI0.out), by repeat (first | (with_reducible first | exact HB.out | apply below_alloc | apply pw_below_drewN | apply below_drew1 | refine below_set ?_ (IsS67.ge HI0.out) | refine below_set ?_ GE141.out) | exact HB.out), by repeat (first | (with_reducible first | exact HK.out | apply KeepBut.set_ | apply keep_drewN | apply keep_drew | apply keep_alloc | refine keep_far ?_ GW141.out _) | exact HK.out)⟩
          · replace c10 := Bool.eq_false_iff.mpr c10
            subst c10
            have H1 : (rutterref12_Table_Known.l0 k1 t142 (wrap64 (x8_1 + 1)) t145 s0_1 a1_0 a1_1 a1_2 a1_3 a1_4) = some (r1, r2) := by rw [if_neg (show ¬ (false = true) by decide)] at H; exact H
            clear H
            have H := H1
            clear H1
            have H' := Aside0.mk H
            clear H
            obtain ⟨Ao14, co14, eo14⟩ := Kd.R_slice HO_7.out
            subst eo14
            try go_wp2
            have n0_ := Aside0.mk (Kd.R_drew HO_7.out)
            have n1_ := Aside0.mk (blk_drew BK141.out)
            have n2_ := Aside0.mk (IsS67.drew HI0.out)
            have n3_ := Aside0.mk (keep_drew HK.out)
            have n4_ := Aside0.mk (below_drew1 HB.out)
            clear HO_7
            clear BK141
            clear HI0
            clear HK
            clear HB
            have HO_7 := n0_
            have BK141 := n1_
            have HI0 := n2_
            have HK := n3_
            have HB := n4_
            clear n0_ n1_ n2_ n3_ n4_
            have p146 : 0 ≤ (x8_1 : Int) := of_decide_eq_true (by first | (with_reducible assumption) | assumption)
            have q146 : x8_1 < (t142.length : Int) := of_decide_eq_true (by first | (with_reducible assumption) | assumption)
            obtain ⟨ad146, e146, hx146_0, hx146_1, hx146_2, hx146_3, hx146_4, hx146_5⟩ := at_T83 (Kd.R_reads' HO_7.out).2.2 x8_1 p146 q146
            cases e146
            replace p146 := eq_true p146
            replace q146 := eq_true q146
            refine start_ (n := 8) (S := fun w' => w'.cell? ⟨gb141, 0, none⟩ = some (.int .i64 a1_0) ∧ w'.cell? ⟨gb141, 1, none⟩ = some (.int .u32 a1_1) ∧ w'.cell? ⟨gb141, 2, none⟩ = some (.int .u32 a1_2) ∧ w'.cell? ⟨gb141, 3, none⟩ = some (.int .i64 a1_3) ∧ w'.cell? ⟨gb141, 4, none⟩ = some (.int .i64 a1_4) ∧ w'.cell? (ad146.add ((x8_1).toNat * 6)) = some (.int .i64 ((rd_T83 t142 x8_1).f0.f0)) ∧ w'.cell? ⟨(ad146.add ((x8_1).toNat * 6)).block, (ad146.add ((x8_1).toNat * 6)).off + 1, none⟩ = some (.int .u32 ((rd_T83 t142 x8_1).f0.f1)) ∧ w'.cell? ⟨(ad146.add ((x8_1).toNat * 6)).block, (ad146.add ((x8_1).toNat * 6)).off + 2, none⟩ = some (.int .u32 ((rd_T83 t142 x8_1).f0.f2)) ∧ w'.cell? ⟨(ad146.add ((x8_1).toNat * 6)).block, (ad146.add ((x8_1).toNat * 6)).off + 3, none⟩ = some (.int .i64 ((rd_T83 t142 x8_1).f0.f3)) ∧ w'.cell? ⟨(ad146.add ((x8_1).toNat * 6)).block, (ad146.add ((x8_1).toNat * 6)).off + 4, none⟩ = some (.int .i64 ((rd_T83 t142 x8_1).f0.f4)) ∧ w'.cell? ⟨(ad146.add ((x8_1).toNat * 6)).block, (ad146.add ((x8_1).toNat * 6)).off + 5, none⟩ = some (.int .i64 ((rd_T83 t142 x8_1).f1))) (ds := []) #[false, false, false, false, false, false, false, false] (by kernel_rfl) rfl rfl ⟨(blk_cell BK141.out 0).trans rfl, (blk_cell BK141.out 1).trans rfl, (blk_cell BK141.out 2).trans rfl, (blk_cell BK141.out 3).trans rfl, (blk_cell BK141.out 4).trans rfl, hx146_0, hx146_1, hx146_2, hx146_3, hx146_4, hx146_5⟩ (fun hHeld => ?_); refine with_tabW rutterref12_Table_Known.tab5 rutterref12_Table_Known.bits5 (fun HT_ HW_ => ?_)
            generalize wr.drew = w15 at HO_7 BK141 HI0 HK HB hx146_0 hx146_1 hx146_2 hx146_3 hx146_4 hx146_5 hHeld ⊢
            refine pure_ (i := 0) (N := some 19) (v := ?_) (a' := ?_) #[true, false, false, false, false, false, false, false] rfl rfl (any_of HT_.out (by kernel_rfl)) (fun _ _ _ h => h) (Or.inl ⟨by rfl, ?_⟩) ?_ ?_
            rotate_left
            · intro w'
              go_simp
              with_reducible rfl
            rotate_left
            · simp only [Act.put, List.setIfInBounds_toArray, List.set_cons_zero, List.set_cons_succ, i64_w, i32_w]
              rfl
            refine pure_ (i := 1) (N := some 20) (v := ?_) (a' := ?_) #[true, true, false, false, false, false, false, false] rfl rfl (any_of HT_.out (by kernel_rfl)) (fun _ _ _ h => h) (Or.inl ⟨by rfl, ?_⟩) ?_ ?_
            rotate_left
            · intro w'
              go_simp
              with_reducible rfl
            rotate_left
            · simp only [Act.put, List.setIfInBounds_toArray, List.set_cons_zero, List.set_cons_succ, i64_w, i32_w]
              rfl
            refine pure_ (i := 2) (N := some 21) (v := ?_) (a' := ?_) #[true, true, true, false, false, false, false, false] rfl rfl (any_of HT_.out (by kernel_rfl)) (fun _ _ _ h => h) (Or.inl ⟨by rfl, ?_⟩) ?_ ?_
            rotate_left
            · intro w'
              go_simp
              with_reducible rfl
            rotate_left
            · simp only [Act.put, List.setIfInBounds_toArray, List.set_cons_zero, List.set_cons_succ, i64_w, i32_w]
              rfl
            refine pure_ (i := 3) (N := some 22) (v := ?_) (a' := ?_) #[true, true, true, true, false, false, false, false] rfl rfl (any_of HT_.out (by kernel_rfl)) (fun _ _ _ h => h) (Or.inl ⟨by rfl, ?_⟩) ?_ ?_
            rotate_left
            · intro w'
              go_simp
              with_reducible rfl
            rotate_left
            · simp only [Act.put, List.setIfInBounds_toArray, List.set_cons_zero, List.set_cons_succ, i64_w, i32_w]
              rfl
            refine take_ (i := 4) (N := some 23) (v := ?_) (a' := ?_) #[true, true, true, true, true, false, false, false] rfl rfl (take_ofW HT_.out HW_.out (by kernel_rfl)) (fun _ _ _ h => h) (Or.inl ⟨by rfl, ?_⟩) hHeld ?_ ?_
            rotate_left
            · rintro w' ⟨s0, s1, s2, s3, s4, s5, s6, s7, s8, s9, s10⟩
              go_simp
              with_reducible rfl
            rotate_left
            · simp only [Act.put, List.setIfInBounds_toArray, List.set_cons_zero, List.set_cons_succ, i64_w, i32_w]
              rfl
            refine take_ (i := 5) (N := some 24) (v := ?_) (a' := ?_) #[true, true, true, true, true, true, false, false] rfl rfl (take_ofW HT_.out HW_.out (by kernel_rfl)) (fun _ _ _ h => h) (Or.inl ⟨by rfl, ?_⟩) hHeld ?_ ?_
            rotate_left
            · rintro w' ⟨s0, s1, s2, s3, s4, s5, s6, s7, s8, s9, s10⟩
              go_simp
              with_reducible rfl
            rotate_left
            · simp only [Act.put, List.setIfInBounds_toArray, List.set_cons_zero, List.set_cons_succ, i64_w, i32_w]
              rfl
            refine one_ (i := 6) (N := some 25) #[true, true, true, true, true, true, true, false] rfl rfl (one_of HT_.out (by kernel_rfl)) (by decide) (fun K hK => ?_)
            refine goes_ Try.func98 (by kernel_rfl) rfl #[.agg #[.int .i64 ((rd_T83 t142 x8_1).f0.f0), .int .u32 ((rd_T83 t142 x8_1).f0.f1), .int .u32 ((rd_T83 t142 x8_1).f0.f2), .int .i64 ((rd_T83 t142 x8_1).f0.f3), .int .i64 ((rd_T83 t142 x8_1).f0.f4)], .agg #[.int .i64 a1_0, .int .u32 a1_1, .int .u32 a1_2, .int .i64 a1_3, .int .i64 a1_4]] (by rfl) rfl rfl (by (try simp only [List.map_toArray, List.map_cons, List.map_nil]); first | done | rfl | (simp only [List.length_drop, List.length_take]; rfl)) ?_
            with_reducible refine (rutterref12_Alike.calls ((rd_T83 t142 x8_1).f0.f0) ((rd_T83 t142 x8_1).f0.f1) ((rd_T83 t142 x8_1).f0.f2) ((rd_T83 t142 x8_1).f0.f3) ((rd_T83 t142 x8_1).f0.f4) a1_0 a1_1 a1_2 a1_3 a1_4 false _ A9.out).mono ?_
            rintro e w16 ⟨rfl, hb⟩
            have HS5_ := (hb.cell (World.block_lt_of_cell? _ _ (hHeld.2.2.2.2.2.1))).trans (hHeld.2.2.2.2.2.1)
            have HS6_ := (hb.cell (World.block_lt_of_cell? _ _ (hHeld.2.2.2.2.2.2.1))).trans (hHeld.2.2.2.2.2.2.1)
            have HS7_ := (hb.cell (World.block_lt_of_cell? _ _ (hHeld.2.2.2.2.2.2.2.1))).trans (hHeld.2.2.2.2.2.2.2.1)
            have HS8_ := (hb.cell (World.block_lt_of_cell? _ _ (hHeld.2.2.2.2.2.2.2.2.1))).trans (hHeld.2.2.2.2.2.2.2.2.1)
            have HS9_ := (hb.cell (World.block_lt_of_cell? _ _ (hHeld.2.2.2.2.2.2.2.2.2.1))).trans (hHeld.2.2.2.2.2.2.2.2.2.1)
            have HS10_ := (hb.cell (World.block_lt_of_cell? _ _ (hHeld.2.2.2.2.2.2.2.2.2.2))).trans (hHeld.2.2.2.2.2.2.2.2.2.2)
            refine ⟨_, rfl, ?_⟩
            have n0_ := Aside0.mk (Kd.R_below (by (with_reducible repeat (first | apply Kd.R_alloc | apply Kd.R_drewN | apply Kd.R_drew)); exact HO_7.out) hb)
            have n1_ := Aside0.mk (blk_below (g := gb141) (o := .cells #[.int .i64 a1_0, .int .u32 a1_1, .int .u32 a1_2, .int .i64 a1_3, .int .i64 a1_4] 70 (0, 0)) (by (with_reducible repeat (first | refine blk_drewN ?_ _ | refine blk_drew ?_ | refine blk_alloc ?_ _)); exact BK141.out) hb)
            have n2_ := Aside0.mk (IsS67.below (by repeat (first | (with_reducible first | exact HI0.out | apply IsS67.alloc | apply IsS67.drewN | apply IsS67.drew | apply IsS67.set_0 | refine IsS67.far ?_ NB0_141.out _) | exact HI0.out)) hb)
            have n3_ := Aside0.mk (KeepBut.trans (by repeat (first | (with_reducible first | exact HK.out | apply KeepBut.set_ | apply keep_drewN | apply keep_drew | apply keep_alloc | refine keep_far ?_ GW141.out _) | exact HK.out)) (KeepBut.of_below hb g none) (.inl rfl))
            have n4_ := Aside0.mk (below_step (by repeat (first | (with_reducible first | exact HB.out | apply below_alloc | apply pw_below_drewN | apply below_drew1 | refine below_set ?_ (IsS67.ge HI0.out) | refine below_set ?_ GE141.out) | exact HB.out)) hb)
            clear HO_7
            clear BK141
            clear HI0
            clear HK
            clear HB
            have HO_7 := n0_
            have BK141 := n1_
            have HI0 := n2_
            have HK := n3_
            have HB := n4_
            clear n0_ n1_ n2_ n3_ n4_
            (try clear hb)
            (try clear hb2)
            (try clear hk)
            (try clear hi)
            refine hK.out _ _ ⟨(blk_cell BK141.out 0).trans rfl, (blk_cell BK141.out 1).trans rfl, (blk_cell BK141.out 2).trans rfl, (blk_cell BK141.out 3).trans rfl, (blk_cell BK141.out 4).trans rfl, HS5_, HS6_, HS7_, HS8_, HS9_, HS10_⟩ (fun hHeld => ?_)
            clear hK K
            refine norm_ (a' := ?_) ?_ ?_
            rotate_left
            · show Act.put _ (some 25) _ = _
              simp only [Act.put, List.setIfInBounds_toArray, List.set_cons_zero, List.set_cons_succ, i64_w, i32_w]
              rfl
            refine pure_ (i := 7) (N := some 9) (v := ?_) (a' := ?_) #[true, true, true, true, true, true, true, true] rfl rfl (any_of HT_.out (by kernel_rfl)) (fun _ _ _ h => h) (Or.inl ⟨by rfl, ?_⟩) ?_ ?_
            rotate_left
            · intro w'
              go_simp
              with_reducible rfl
            rotate_left
            · simp only [Act.put, List.setIfInBounds_toArray, List.set_cons_zero, List.set_cons_succ, i64_w, i32_w]
              rfl
            refine done_ (done_of HT_.out (by kernel_rfl)) ?_
            try go_wp2
            go_roundg k1
            case measure => have := HK1.out; omega
            case rel => exact ⟨(wrap64 (x8_1 + 1)), (by first | rfl | (simp; done) | (simp [*]; done)), H', ⟨by have := HK1.out; omega⟩, ⟨by (with_reducible repeat (first | apply Kd.R_alloc | apply Kd.R_drewN | apply Kd.R_drew)); exact HO_7.out⟩, ⟨by (with_reducible repeat (first | refine blk_drewN ?_ _ | refine blk_drew ?_ | refine blk_alloc ?_ _)); exact BK141.out⟩, ⟨by repeat (first | (with_reducible first | exact HI0.out | apply IsS67.alloc | apply IsS67.drewN | apply IsS67.drew | apply IsS67.set_0 | refine IsS67.far ?_ NB0_141.out _) | exact HI0.out)⟩, ⟨by repeat (first | (with_reducible first | exact HK.out | apply KeepBut.set_ | apply keep_drewN | apply keep_drew | apply keep_alloc | refine keep_far ?_ GW141.out _) | exact HK.out)⟩, ⟨by repeat (first | (with_reducible first | exact HB.out | apply below_alloc | apply pw_below_drewN | apply below_drew1 | refine below_set ?_ (IsS67.ge HI0.out) | refine below_set ?_ GE141.out) | exact HB.out)⟩⟩
        · rw [if_neg c8] at H
          exact absurd H (by simp)
      · rw [if_neg c7] at H
        have c7b0 : decide (x8_1 < (t142.length : Int)) = false := decide_eq_false c7
        clear c7
        simp only [Option.some.injEq, Prod.mk.injEq] at H
        obtain ⟨rfl, rfl⟩ := H
        obtain ⟨Ao17, co17, eo17⟩ := Kd.R_slice HO_7.out
        subst eo17
        go_wp2
        go_ret
        exact ⟨by first | rfl | (simp [errW_none, errW_some] <;> rfl) | (simp [*, errW_none, errW_some] <;> rfl), by repeat (first | (with_reducible first | exact HI0.out | apply IsS67.alloc | apply IsS67.drewN | apply IsS67.drew | apply IsS67.set_0 | refine IsS67.far ?_ NB0_141.out _) | exact HI0.out), by repeat (first | (with_reducible first | exact HB.out | apply below_alloc | apply pw_below_drewN | apply below_drew1 | refine below_set ?_ (IsS67.ge HI0.out) | refine below_set ?_ GE141.out) | exact HB.out), by repeat (first | (with_reducible first | exact HK.out | apply KeepBut.set_ | apply keep_drewN | apply keep_drew | apply keep_alloc | refine keep_far ?_ GW141.out _) | exact HK.out)⟩

-- NOT PRINTED: function 5 (rutterlaw12_TrackPlays)

end Go.Proofs.Ytcplmaeicmmkgaa.PTrackPlays
