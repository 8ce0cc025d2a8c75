/- slices.Concat of bytes; disk.File.Bytes. -/
import Derived.Test.YtcplmaeicmmkgaaA11
namespace Go.Proofs.Ytcplmaeicmmkgaa
open Go Go.RowKit Go.Proofs.YtcplmaeicmmkgaaW.PrintWords Go.Proofs.YtcplmaeicmmkgaaW.PrintLast
set_option linter.unusedVariables false
set_option linter.unusedSimpArgs false

theorem at_BB {w : World} {A : Option Addr} {n : Nat} {xs : List (List Int)} (h : BB.C w A n xs) (k : Nat) (hk : k < n) : ∃ ad A0 c0 x, A = some ad ∧ xs[k]? = some x ∧ w.cell? (ad.add k) = some (.slice A0 x.length c0) ∧ (Kd.int .u8).C w A0 x.length x := by
  obtain ⟨ad, hA, hc⟩ := h.2.2 (by omega)
  have hl : k < xs.length := by rw [h.1]; exact hk
  obtain ⟨c, hcl, hK, hcell⟩ := hc k _ (List.getElem?_eq_getElem hl)
  obtain ⟨A0, c0, rfl, hle, hC⟩ := hK
  refine ⟨ad, A0, c0, xs[k], hA, List.getElem?_eq_getElem hl, ?_, hC⟩
  have := hcell 0 _ rfl
  simpa [BB, Kd.slice] using this

set_option maxHeartbeats 1000000 in
theorem concat_any (w : World) (A : Option Addr) (m c : Nat) (xs : List (List Int)) (hC : BB.C w A m xs) (hl : xs.flatten.length ≤ 1000000000) (hm : m ≤ 1000000000) : Calls Try.prog 127 #[.slice A m c] w (RetB w xs.flatten) := by
  have HC := Lib.hid hC
  have Hml := Lib.hid hC.1
  have tot : ∀ k x, xs[k]? = some x → (xs.take (k + 1)).flatten = (xs.take k).flatten ++ x ∧ (xs.take k).flatten.length + x.length ≤ 1000000000 := by
    intro k x hx
    obtain ⟨hk, rfl⟩ := List.getElem?_eq_some_iff.1 hx
    have h1 : (xs.take (k + 1)).flatten = (xs.take k).flatten ++ xs[k] := by
      rw [List.take_succ_eq_append_getElem hk, List.flatten_append, List.flatten_cons, List.flatten_nil, List.append_nil]
    refine ⟨h1, ?_⟩
    have h2 : ((xs.take (k + 1)).flatten).length ≤ xs.flatten.length := by
      conv => rhs; rw [← List.take_append_drop (k + 1) xs, List.flatten_append, List.length_append]
      omega
    rw [h1, List.length_append] at h2
    omega
  have Tot := Lib.hid tot
  clear hC tot
  go_enter Try.func127, Try.ntmps127
  go_wp2_with fail
  go_loop [11, 3] (fun i s => ∃ k : Nat, k ≤ m ∧ i = .int .i64 k ∧ s = .int .i64 ((xs.take k).flatten.length : Nat)) (fun i _ => m - (intOf i).toNat)
  case atStart => exact ⟨0, Nat.zero_le _, rfl, by simp⟩
  case round =>
    obtain ⟨k, hk, rfl, rfl⟩ := hrel
    by_cases hlt : k < m
    · obtain ⟨ad, A0, c0, x, rfl, hx, hcell, hCx⟩ := at_BB HC.out k hlt
      obtain ⟨ht1, ht2⟩ := Tot.out k x hx
      have Ht1 := Lib.hid ht1
      clear ht1 hCx hx
      generalize hS : (xs.take k).flatten.length = S at ht2
      have HS := Lib.hid hS
      clear hS
      have hneg : decide (((S : Int) + (x.length : Int)) < 0) = false := decide_eq_false (by omega)
      go_wp2_with fail
      go_round
      case rel => exact ⟨k + 1, by omega, by go_num, by rw [Ht1.out, List.length_append, HS.out]; go_num⟩
      case measure => simp [intOf] <;> omega
    · have hkm : k = m := by omega
      subst hkm
      have htk : xs.take k = xs := List.take_of_length_le (by have := Hml.out; omega)
      rw [htk]
      clear htk
      generalize hS : xs.flatten.length = S at hl
      have HS := Lib.hid hS
      clear hS
      go_wp2_with fail
      refine (grow_nil w S hl).mono ?_
      rintro e w1 ⟨v, rfl, hR1, hB1⟩
      obtain ⟨A1, c1, rfl⟩ := Kd.R_slice hR1
      have HR1 := Lib.hid hR1
      have HB1 := Lib.hid hB1
      clear hR1 hB1
      go_wp2_with fail
      go_loopw [27, 6] (fun i v wr => ∃ (j : Nat) (A0 : Option Addr) (n0 c0 : Nat), j ≤ k ∧ i = .int .i64 j ∧ v = .slice A0 n0 c0 ∧ Hid ((Kd.int .u8).R 5 wr w.heap.size (fun _ => True) (.slice A0 n0 c0) (xs.take j).flatten) ∧ Hid (Below w.heap.size w wr)) (fun i _ _ => k - (intOf i).toNat)
      case atStart => exact ⟨0, A1, 0, c1, Nat.zero_le _, rfl, rfl, HR1, HB1⟩
      case round =>
        obtain ⟨j, A0, n0, c0, hj, rfl, rfl, HR2, HB2⟩ := hrel
        by_cases hjk : j < k
        · have hCr : BB.C wr A k xs := Kd.C_below HC.out HB2.out
          obtain ⟨ad, A3, c3, x, rfl, hx, hcell, hCx⟩ := at_BB hCr j hjk
          obtain ⟨ht1, ht2⟩ := Tot.out j x hx
          have Ht1 := Lib.hid ht1
          have HCx := Lib.hid hCx
          have hle : w.heap.size ≤ wr.heap.size := HB2.out.size
          have hln : ((xs.take j).flatten.length + x.length) * 1 ≤ 140737488355328 := by omega
          have Hln := Lib.hid hln
          clear ht1 hCx hx hCr hln ht2
          go_wp2_with (at_builtin; refine ev_rowsR .u8 1 (v := .slice A0 n0 c0) w.heap.size 32 5 _ _ rfl rfl Try.underlying32 A_info5 (by decide) rfl rfl HR2.out HCx.out hle Hln.out ?_; intro A6 n6 c6 w3 _ hO3 hB3 _)
          have HO3 := Lib.hid hO3
          have HB3 := Lib.hid (HB2.out.trans hB3)
          clear hO3 hB3
          go_roundw
          case rel => exact ⟨j + 1, A6, n6, c6, by omega, by go_num, rfl, Lib.hid (by rw [Ht1.out]; exact HO3.out), HB3⟩
          case measure => simp [intOf] <;> omega
        · have hjk' : j = k := by omega
          subst hjk'
          have htk : xs.take j = xs := List.take_of_length_le (by have := Hml.out; omega)
          rw [htk] at HR2
          clear htk
          go_wp2_with fail
          go_ret
          exact ⟨_, rfl, HR2.out, HB2.out⟩

/-- A block of two slices of bytes. -/
theorem BB_two {w : World} {g : Nat} {A1 A2 : Option Addr} {n1 c1 n2 c2 : Nat} {x y : List Int} (h : Blk w g 32 [.slice A1 n1 c1, .slice A2 n2 c2]) (h1 : (Kd.int .u8).C w A1 n1 x) (hc1 : n1 ≤ c1) (h2 : (Kd.int .u8).C w A2 n2 y) (hc2 : n2 ≤ c2) :
    BB.C w (some ⟨g, 0, none⟩) 2 [x, y] := by
  have e1 : x.length = n1 := h1.1
  have e2 : y.length = n2 := h2.1
  subst e1
  subst e2
  refine ⟨rfl, by decide, fun _ => ⟨_, rfl, fun j p hj => ?_⟩⟩
  match j, hj with
  | 0, hj =>
    obtain rfl : x = p := by simpa using hj
    refine ⟨[.slice A1 x.length c1], rfl, ⟨A1, c1, rfl, hc1, h1⟩, fun i u hu => ?_⟩
    match i, hu with
    | 0, hu =>
      obtain rfl : Value.slice A1 x.length c1 = u := by simpa using hu
      exact h.cell 0 _ rfl
  | 1, hj =>
    obtain rfl : y = p := by simpa using hj
    refine ⟨[.slice A2 y.length c2], rfl, ⟨A2, c2, rfl, hc2, h2⟩, fun i u hu => ?_⟩
    match i, hu with
    | 0, hu =>
      obtain rfl : Value.slice A2 y.length c2 = u := by simpa using hu
      exact h.cell 1 _ rfl
set_option maxHeartbeats 1000000 in
theorem flbytes_any (w : World) (F : Nat → Prop) (b : Nat) (s l : List Int) (r : Int) (hF : FlAt w F b s l r) (hl : s.length + l.length ≤ 1000000000) : Calls Try.prog 71 #[.pointer (some ⟨b, 0, none⟩)] w (RetB w (s ++ l)) := by
  obtain ⟨h1, h2, h3, h4, A1, n1, c1, A2, n2, c2, h5, h6, h7, h8⟩ := hF
  have e0 := h5.cell 0 _ rfl
  have e1 := h5.cell 1 _ rfl
  obtain ⟨hn1, hc1, hC1⟩ := Kd.R_reads' h6
  obtain ⟨hn2, hc2, hC2⟩ := Kd.R_reads' h7
  rw [← hn1] at hC1
  rw [← hn2] at hC2
  have HC1 := Lib.hid hC1
  have HC2 := Lib.hid hC2
  have H5 := Lib.hid h5
  have Hn1 := Lib.hid hn1
  have Hn2 := Lib.hid hn2
  clear h2 h3 h4 h5 h6 h7 h8 hC1 hC2 hn1 hn2
  go_enter Try.func71, Try.ntmps71
  go_wp2_with fail
  refine seq_start (fun w' => w'.cell? ⟨b, 0, none⟩ = some (.slice A1 n1 c1) ∧ w'.cell? ⟨b, 1, none⟩ = some (.slice A2 n2 c2)) [] [(0, 0), (1, 0), (2, 0), (3, 1), (4, 0), (5, 0), (6, 0), (7, 1), (8, 2), (9, 2), (10, 0)] (by kernel_rfl) (by kernel_rfl) ⟨e0, e1⟩ ?_
  intro hS
  (refine seq_v (some 5) (v := ?_) (a' := ?_) rfl rfl (fun _ _ _ h => h) (Or.inl ⟨by rfl, ?_⟩) ?_ ?_; rotate_left 2; (· intro w'; go_simp; with_reducible rfl); (· simp only [Act.put, List.setIfInBounds_toArray, List.set_cons_zero, List.set_cons_succ, i64_w, i32_w]; rfl))
  (refine seq_v (some 6) (v := ?_) (a' := ?_) rfl rfl (fun _ _ _ h => h) (Or.inl ⟨by rfl, ?_⟩) ?_ ?_; rotate_left 2; (· intro w'; go_simp; with_reducible rfl); (· simp only [Act.put, List.setIfInBounds_toArray, List.set_cons_zero, List.set_cons_succ, i64_w, i32_w]; rfl))
  (refine seq_v (some 7) (v := ?_) (a' := ?_) rfl rfl (fun _ _ _ h => h) (Or.inl ⟨by rfl, ?_⟩) ?_ ?_; rotate_left 2; (· intro w'; go_simp; with_reducible rfl); (· simp only [Act.put, List.setIfInBounds_toArray, List.set_cons_zero, List.set_cons_succ, i64_w, i32_w]; rfl))
  (refine seq_l (some 8) (v := ?_) (a' := ?_) rfl rfl (fun _ _ _ h => h) (by assumption) (Or.inl ⟨by rfl, ?_⟩) ?_ ?_; rotate_left 2; (· intro w' hS'; (try dsimp only at hS'); go_simp; with_reducible rfl); (· simp only [Act.put, List.setIfInBounds_toArray, List.set_cons_zero, List.set_cons_succ, i64_w, i32_w]; rfl))
  (refine seq_v (some 9) (v := ?_) (a' := ?_) rfl rfl (fun _ _ _ h => h) (Or.inl ⟨by rfl, ?_⟩) ?_ ?_; rotate_left 2; (· intro w'; go_simp; with_reducible rfl); (· simp only [Act.put, List.setIfInBounds_toArray, List.set_cons_zero, List.set_cons_succ, i64_w, i32_w]; rfl))
  (refine seq_v (some 10) (v := ?_) (a' := ?_) rfl rfl (fun _ _ _ h => h) (Or.inl ⟨by rfl, ?_⟩) ?_ ?_; rotate_left 2; (· intro w'; go_simp; with_reducible rfl); (· simp only [Act.put, List.setIfInBounds_toArray, List.set_cons_zero, List.set_cons_succ, i64_w, i32_w]; rfl))
  (refine seq_v (some 11) (v := ?_) (a' := ?_) rfl rfl (fun _ _ _ h => h) (Or.inl ⟨by rfl, ?_⟩) ?_ ?_; rotate_left 2; (· intro w'; go_simp; with_reducible rfl); (· simp only [Act.put, List.setIfInBounds_toArray, List.set_cons_zero, List.set_cons_succ, i64_w, i32_w]; rfl))
  (refine seq_l (some 12) (v := ?_) (a' := ?_) rfl rfl (fun _ _ _ h => h) (by assumption) (Or.inl ⟨by rfl, ?_⟩) ?_ ?_; rotate_left 2; (· intro w' hS'; (try dsimp only at hS'); go_simp; with_reducible rfl); (· simp only [Act.put, List.setIfInBounds_toArray, List.set_cons_zero, List.set_cons_succ, i64_w, i32_w]; rfl))
  (refine seq_e rfl (by rfl) (fun K hK => ?_))
  go_simp
  have hB0 := H5.out.drew.alloc (.cells #[.slice A1 n1 c1, .slice A2 n2 c2] 32)
  refine hK _ _ ⟨hB0.cell 0 _ rfl, hB0.cell 1 _ rfl⟩ (fun hS => ?_)
  clear hK K
  have hbl : Below w.heap.size w (w.drew.alloc (.cells #[.slice A1 n1 c1, .slice A2 n2 c2] 32)) := below_alloc (below_drew (Below.refl _ _)) _
  have hCC : BB.C (w.drew.alloc (.cells #[.slice A1 n1 c1, .slice A2 n2 c2] 32)) (some ⟨w.heap.size, 0, none⟩) 2 [s, l] := by
    have q1 : (Kd.int .u8).C (w.drew.alloc (.cells #[.slice A1 n1 c1, .slice A2 n2 c2] 32)) A1 n1 s := Kd.C_below HC1.out hbl
    have q2 : (Kd.int .u8).C (w.drew.alloc (.cells #[.slice A1 n1 c1, .slice A2 n2 c2] 32)) A2 n2 l := Kd.C_below HC2.out hbl
    exact BB_two (Blk.new w.drew 32 [.slice A1 n1 c1, .slice A2 n2 c2]) q1 hc1 q2 hc2
  (refine seq_e rfl (by rfl) (fun K hK => ?_))
  go_simp
  refine (concat_any _ _ 2 2 [s, l] hCC (by simp; omega) (by decide)).mono ?_
  rintro e w3 ⟨v, rfl, hR3, hB3⟩
  refine hK _ _ ⟨(hB0.below hB3).cell 0 _ rfl, (hB0.below hB3).cell 1 _ rfl⟩ (fun hS => ?_)
  clear hK K
  (refine seq_v (some 2) (v := ?_) (a' := ?_) rfl rfl (fun _ _ _ h => h) (Or.inl ⟨by rfl, ?_⟩) ?_ ?_; rotate_left 2; (· intro w'; go_simp; with_reducible rfl); (· simp only [Act.put, List.setIfInBounds_toArray, List.set_cons_zero, List.set_cons_succ, i64_w, i32_w]; rfl))
  refine seq_nil ?_
  go_wp2_with fail
  go_ret
  refine ⟨v, rfl, ?_, hbl.trans (hB3.mono hbl.size)⟩
  have := Kd.R_lower hR3 hbl.size
  simpa using this
end Go.Proofs.Ytcplmaeicmmkgaa
