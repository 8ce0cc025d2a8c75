/- rutterref08.Same; strings of bytes. -/
import Derived.Test.YtcplmaeicmmkgaaA18
import Derived.Lib.Bytes
namespace Go.Proofs.Ytcplmaeicmmkgaa
open Go Go.RowKit Go.Proofs.YtcplmaeicmmkgaaW.PrintWords Go.Proofs.YtcplmaeicmmkgaaW.PrintLast
set_option linter.unusedVariables false
set_option linter.unusedSimpArgs false

theorem bytesOf_inj : ∀ xs ys : List Int, BR xs → BR ys → Lib.bytesOf xs = Lib.bytesOf ys → xs = ys
  | [], [], _, _, _ => rfl
  | [], y :: ys, _, _, h => by simp [Lib.bytesOf] at h
  | x :: xs, [], _, _, h => by simp [Lib.bytesOf] at h
  | x :: xs, y :: ys, hx, hy, h => by
    simp only [Lib.bytesOf, List.map_cons, List.cons.injEq] at h
    have hx0 := hx x List.mem_cons_self
    have hy0 := hy y List.mem_cons_self
    have h1 : x = y := by
      have := congrArg UInt8.toNat h.1
      simp at this
      omega
    rw [h1, bytesOf_inj xs ys (fun z hz => hx z (List.mem_cons_of_mem _ hz)) (fun z hz => hy z (List.mem_cons_of_mem _ hz)) h.2]
theorem str_eq (xs ys : List Int) (hx : BR xs) (hy : BR ys) : (strOfNums xs).toList = (strOfNums ys).toList ↔ xs = ys := by
  rw [Lib.strOfNums_toList, Lib.strOfNums_toList]
  exact ⟨bytesOf_inj xs ys hx hy, fun h => by rw [h]⟩

def BRR (l : List (List Int)) : Prop := ∀ x, x ∈ l → BR x

theorem take_snoc {α : Type} (xs ys : List α) (k : Nat) (x y : α) (hx : xs[k]? = some x) (hy : ys[k]? = some y) : (xs.take (k + 1) = ys.take (k + 1)) ↔ (xs.take k = ys.take k ∧ x = y) := by
  rw [List.take_add_one, List.take_add_one, hx, hy]
  simp only [Option.toList]
  constructor
  · intro h
    have h' := List.append_inj h (by
      have e1 := (List.getElem?_eq_some_iff.1 hx).1
      have e2 := (List.getElem?_eq_some_iff.1 hy).1
      simp only [List.length_take]; omega)
    exact ⟨h'.1, by simpa using h'.2⟩
  · rintro ⟨h1, rfl⟩
    rw [h1]
set_option maxHeartbeats 1000000 in
theorem same_any (w : World) (A B : Option Addr) (m c m' c' : Nat) (xs ys : List (List Int)) (hx : BRR xs) (hy : BRR ys) (hA : BB.C w A m xs) (hB : BB.C w B m' ys) (hm : m ≤ 1000000000) (hm' : m' ≤ 1000000000) :
    Calls Try.prog 67 #[.slice A m c, .slice B m' c'] w (fun e w' => e = .returned (.bool (decide (xs = ys))) ∧ Below w.heap.size w w') := by
  have HA := Lib.hid hA
  have HB := Lib.hid hB
  have hmx := hA.1
  have hmy := hB.1
  have Hmx := Lib.hid hmx
  have Hmy := Lib.hid hmy
  clear hA hB hmx hmy
  by_cases hne : m = m'
  · subst hne
    have hd : ((m : Int) == (m : Int)) = true := by simp
    have hd' : (!((m : Int) == (m : Int))) = false := by simp
    go_enter Try.func67, Try.ntmps67
    go_wp2_with fail
    go_loopw [5] (fun i w1 => ∃ k : Nat, k ≤ m ∧ i = .int .i64 k ∧ xs.take k = ys.take k ∧ Below w.heap.size w w1) (fun i _ => m - (intOf i).toNat)
    case atStart => exact ⟨0, Nat.zero_le _, rfl, by simp, Below.refl _ _⟩
    case round =>
      obtain ⟨k, hk, rfl, htk, hB1⟩ := hrel
      have HTK := Lib.hid htk
      have HB1 := Lib.hid hB1
      clear htk hB1
      by_cases hlt : k < m
      · have hCA := C_kp HA.out (HB1.out)
        have hCB := C_kp HB.out (HB1.out)
        obtain ⟨ad, A0, c0, x, rfl, hxk, hcx, hCx⟩ := at_BB hCA k hlt
        obtain ⟨bd, B0, d0, y, rfl, hyk, hcy, hCy⟩ := at_BB hCB k hlt
        have s1 := Kd.C_string (P := Try.prog) (c := c0) Try.underlying32 Try.underlying5 Try.underlying9 (Kd.C_drew hCx)
        have s2 := Kd.C_string (P := Try.prog) (c := d0) Try.underlying32 Try.underlying5 Try.underlying9 (Kd.C_drew hCy)
        have hbx : BR x := hx x (List.mem_of_getElem? hxk)
        have hby : BR y := hy y (List.mem_of_getElem? hyk)
        have HS := Lib.hid (And.intro (str_eq x y hbx hby) (take_snoc xs ys k x y hxk hyk))
        clear hCA hCB hxk hyk hCx hCy hbx hby
        have hdk : decide (k < m) = true := by simp; omega
        by_cases hxy : x = y
        · subst hxy
          have HT1 := Lib.hid (HS.out.2.2 ⟨HTK.out, rfl⟩)
          go_wp2_with fail
          refine seq_start (fun w' => w' = _) [] [(0, 1), (1, 1), (2, 1), (3, 1), (4, 1), (5, 1), (6, 1), (7, 1), (8, 1), (9, 1), (10, 1)] (by kernel_rfl) (by kernel_rfl) rfl ?_
          intro _
          (refine seq_l (some 17) (v := ?_) (a' := ?_) rfl rfl (fun _ _ _ h => h) rfl (Or.inl ⟨by rfl, ?_⟩) ?_ ?_; rotate_left 2; (· rintro _ rfl; go_simp; with_reducible rfl); (· simp only [Act.put, List.setIfInBounds_toArray, List.set_cons_zero, List.set_cons_succ, i64_w, i32_w]; rfl))
          (refine seq_l (some 18) (v := ?_) (a' := ?_) rfl rfl (fun _ _ _ h => h) rfl (Or.inl ⟨by rfl, ?_⟩) ?_ ?_; rotate_left 2; (· rintro _ rfl; go_simp; with_reducible rfl); (· simp only [Act.put, List.setIfInBounds_toArray, List.set_cons_zero, List.set_cons_succ, i64_w, i32_w]; rfl))
          (refine seq_l (some 19) (v := ?_) (a' := ?_) rfl rfl (fun _ _ _ h => h) rfl (Or.inl ⟨by rfl, ?_⟩) ?_ ?_; rotate_left 2; (· rintro _ rfl; go_simp; with_reducible rfl); (· simp only [Act.put, List.setIfInBounds_toArray, List.set_cons_zero, List.set_cons_succ, i64_w, i32_w]; rfl))
          (refine seq_l (some 20) (v := ?_) (a' := ?_) rfl rfl (fun _ _ _ h => h) rfl (Or.inl ⟨by rfl, ?_⟩) ?_ ?_; rotate_left 2; (· rintro _ rfl; go_simp; with_reducible rfl); (· simp only [Act.put, List.setIfInBounds_toArray, List.set_cons_zero, List.set_cons_succ, i64_w, i32_w]; rfl))
          (refine seq_l (some 21) (v := ?_) (a' := ?_) rfl rfl (fun _ _ _ h => h) rfl (Or.inl ⟨by rfl, ?_⟩) ?_ ?_; rotate_left 2; (· rintro _ rfl; go_simp; with_reducible rfl); (· simp only [Act.put, List.setIfInBounds_toArray, List.set_cons_zero, List.set_cons_succ, i64_w, i32_w]; rfl))
          (refine seq_l (some 22) (v := ?_) (a' := ?_) rfl rfl (fun _ _ _ h => h) rfl (Or.inl ⟨by rfl, ?_⟩) ?_ ?_; rotate_left 2; (· rintro _ rfl; go_simp; with_reducible rfl); (· simp only [Act.put, List.setIfInBounds_toArray, List.set_cons_zero, List.set_cons_succ, i64_w, i32_w]; rfl))
          (refine seq_l (some 23) (v := ?_) (a' := ?_) rfl rfl (fun _ _ _ h => h) rfl (Or.inl ⟨by rfl, ?_⟩) ?_ ?_; rotate_left 2; (· rintro _ rfl; go_simp; with_reducible rfl); (· simp only [Act.put, List.setIfInBounds_toArray, List.set_cons_zero, List.set_cons_succ, i64_w, i32_w]; rfl))
          (refine seq_l (some 24) (v := ?_) (a' := ?_) rfl rfl (fun _ _ _ h => h) rfl (Or.inl ⟨by rfl, ?_⟩) ?_ ?_; rotate_left 2; (· rintro _ rfl; go_simp; with_reducible rfl); (· simp only [Act.put, List.setIfInBounds_toArray, List.set_cons_zero, List.set_cons_succ, i64_w, i32_w]; rfl))
          (refine seq_l (some 25) (v := ?_) (a' := ?_) rfl rfl (fun _ _ _ h => h) rfl (Or.inl ⟨by rfl, ?_⟩) ?_ ?_; rotate_left 2; (· rintro _ rfl; go_simp; with_reducible rfl); (· simp only [Act.put, List.setIfInBounds_toArray, List.set_cons_zero, List.set_cons_succ, i64_w, i32_w]; rfl))
          (refine seq_l (some 26) (v := ?_) (a' := ?_) rfl rfl (fun _ _ _ h => h) rfl (Or.inl ⟨by rfl, ?_⟩) ?_ ?_; rotate_left 2; (· rintro _ rfl; go_simp; with_reducible rfl); (· simp only [Act.put, List.setIfInBounds_toArray, List.set_cons_zero, List.set_cons_succ, i64_w, i32_w]; rfl))
          (refine seq_l (some 27) (v := ?_) (a' := ?_) rfl rfl (fun _ _ _ h => h) rfl (Or.inl ⟨by rfl, ?_⟩) ?_ ?_; rotate_left 2; (· rintro _ rfl; go_simp; with_reducible rfl); (· simp only [Act.put, List.setIfInBounds_toArray, List.set_cons_zero, List.set_cons_succ, i64_w, i32_w]; rfl))
          refine seq_nil ?_
          have HB2 := Lib.hid (HB1.out.trans ((below_drew (Below.refl wr.heap.size wr)).mono HB1.out.size))
          clear s1 s2 hcx hcy
          go_wp2_with fail
          go_roundw
          case rel => exact ⟨k + 1, by omega, by go_num, HT1.out, HB2.out⟩
          case measure => simp [intOf] <;> omega
        · have Hfin := Lib.hid (show ¬ xs = ys from fun h => hxy ((HS.out.2.1 (by rw [h])).2))
          go_wp2_with fail
          refine seq_start (fun w' => w' = _) [] [(0, 1), (1, 1), (2, 1), (3, 1), (4, 1), (5, 1), (6, 1), (7, 1), (8, 1), (9, 1), (10, 1)] (by kernel_rfl) (by kernel_rfl) rfl ?_
          intro _
          (refine seq_l (some 17) (v := ?_) (a' := ?_) rfl rfl (fun _ _ _ h => h) rfl (Or.inl ⟨by rfl, ?_⟩) ?_ ?_; rotate_left 2; (· rintro _ rfl; go_simp; with_reducible rfl); (· simp only [Act.put, List.setIfInBounds_toArray, List.set_cons_zero, List.set_cons_succ, i64_w, i32_w]; rfl))
          (refine seq_l (some 18) (v := ?_) (a' := ?_) rfl rfl (fun _ _ _ h => h) rfl (Or.inl ⟨by rfl, ?_⟩) ?_ ?_; rotate_left 2; (· rintro _ rfl; go_simp; with_reducible rfl); (· simp only [Act.put, List.setIfInBounds_toArray, List.set_cons_zero, List.set_cons_succ, i64_w, i32_w]; rfl))
          (refine seq_l (some 19) (v := ?_) (a' := ?_) rfl rfl (fun _ _ _ h => h) rfl (Or.inl ⟨by rfl, ?_⟩) ?_ ?_; rotate_left 2; (· rintro _ rfl; go_simp; with_reducible rfl); (· simp only [Act.put, List.setIfInBounds_toArray, List.set_cons_zero, List.set_cons_succ, i64_w, i32_w]; rfl))
          (refine seq_l (some 20) (v := ?_) (a' := ?_) rfl rfl (fun _ _ _ h => h) rfl (Or.inl ⟨by rfl, ?_⟩) ?_ ?_; rotate_left 2; (· rintro _ rfl; go_simp; with_reducible rfl); (· simp only [Act.put, List.setIfInBounds_toArray, List.set_cons_zero, List.set_cons_succ, i64_w, i32_w]; rfl))
          (refine seq_l (some 21) (v := ?_) (a' := ?_) rfl rfl (fun _ _ _ h => h) rfl (Or.inl ⟨by rfl, ?_⟩) ?_ ?_; rotate_left 2; (· rintro _ rfl; go_simp; with_reducible rfl); (· simp only [Act.put, List.setIfInBounds_toArray, List.set_cons_zero, List.set_cons_succ, i64_w, i32_w]; rfl))
          (refine seq_l (some 22) (v := ?_) (a' := ?_) rfl rfl (fun _ _ _ h => h) rfl (Or.inl ⟨by rfl, ?_⟩) ?_ ?_; rotate_left 2; (· rintro _ rfl; go_simp; with_reducible rfl); (· simp only [Act.put, List.setIfInBounds_toArray, List.set_cons_zero, List.set_cons_succ, i64_w, i32_w]; rfl))
          (refine seq_l (some 23) (v := ?_) (a' := ?_) rfl rfl (fun _ _ _ h => h) rfl (Or.inl ⟨by rfl, ?_⟩) ?_ ?_; rotate_left 2; (· rintro _ rfl; go_simp; with_reducible rfl); (· simp only [Act.put, List.setIfInBounds_toArray, List.set_cons_zero, List.set_cons_succ, i64_w, i32_w]; rfl))
          (refine seq_l (some 24) (v := ?_) (a' := ?_) rfl rfl (fun _ _ _ h => h) rfl (Or.inl ⟨by rfl, ?_⟩) ?_ ?_; rotate_left 2; (· rintro _ rfl; go_simp; with_reducible rfl); (· simp only [Act.put, List.setIfInBounds_toArray, List.set_cons_zero, List.set_cons_succ, i64_w, i32_w]; rfl))
          (refine seq_l (some 25) (v := ?_) (a' := ?_) rfl rfl (fun _ _ _ h => h) rfl (Or.inl ⟨by rfl, ?_⟩) ?_ ?_; rotate_left 2; (· rintro _ rfl; go_simp; with_reducible rfl); (· simp only [Act.put, List.setIfInBounds_toArray, List.set_cons_zero, List.set_cons_succ, i64_w, i32_w]; rfl))
          (refine seq_l (some 26) (v := ?_) (a' := ?_) rfl rfl (fun _ _ _ h => h) rfl (Or.inl ⟨by rfl, ?_⟩) ?_ ?_; rotate_left 2; (· rintro _ rfl; go_simp; with_reducible rfl); (· simp only [Act.put, List.setIfInBounds_toArray, List.set_cons_zero, List.set_cons_succ, i64_w, i32_w]; rfl))
          (refine seq_l (some 27) (v := ?_) (a' := ?_) rfl rfl (fun _ _ _ h => h) rfl (Or.inl ⟨by rfl, ?_⟩) ?_ ?_; rotate_left 2; (· rintro _ rfl; go_simp; with_reducible rfl); (· simp only [Act.put, List.setIfInBounds_toArray, List.set_cons_zero, List.set_cons_succ, i64_w, i32_w]; rfl))
          refine seq_nil ?_
          have HB2 := Lib.hid (HB1.out.trans ((below_drew (Below.refl wr.heap.size wr)).mono HB1.out.size))
          have hst : (!((strOfNums x).toList == (strOfNums y).toList)) = true := by
            rw [Bool.not_eq_true', beq_eq_false_iff_ne]
            exact fun h => hxy (HS.out.1.1 h)
          rw [hst]
          clear hst s1 s2 hcx hcy
          go_wp2_with fail
          go_ret
          exact ⟨by rw [decide_eq_false Hfin.out]; rfl, HB2.out⟩
      · have hkm : k = m := by omega
        subst hkm
        have Hfin := Lib.hid (show xs = ys by
          have := HTK.out
          rwa [List.take_of_length_le (by have := Hmx.out; omega), List.take_of_length_le (by have := Hmy.out; omega)] at this)
        go_wp2_with fail
        go_ret
        exact ⟨by rw [decide_eq_true Hfin.out]; rfl, HB1.out⟩
  · have Hfin := Lib.hid (show ¬ xs = ys from fun h => hne (by rw [← Hmx.out, ← Hmy.out, h]))
    have hd : ((m : Int) == (m' : Int)) = false := by simp; omega
    go_enter Try.func67, Try.ntmps67
    go_wp2_with fail
    go_ret
    exact ⟨by rw [decide_eq_false Hfin.out]; rfl, Below.refl _ _⟩
end Go.Proofs.Ytcplmaeicmmkgaa
