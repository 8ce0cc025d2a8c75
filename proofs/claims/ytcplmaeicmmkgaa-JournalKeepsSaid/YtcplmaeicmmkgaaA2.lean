/- buf's Writer. -/
import Derived.Test.YtcplmaeicmmkgaaA1
import Derived.Deep.DeepMust
import Derived.Test.YtcplmaeicmmkgaaB1
namespace Go.Proofs.Ytcplmaeicmmkgaa
open Go Go.RowKit Go.Proofs.YtcplmaeicmmkgaaW.PrintWords Go.Proofs.YtcplmaeicmmkgaaW.PrintLast
set_option linter.unusedVariables false
set_option linter.unusedSimpArgs false

theorem A_info3 : (Try.prog.info? 3).map (fun i => (i.zero, i.size, i.bytes)) = some (some (.int .i64 0), 1, 8) := by kernel_rfl

/-- A writer: what was written, and whether something was wrong; all of it in the blocks of F. -/
def WrAt (w : World) (F : Nat → Prop) (b : Nat) (l : List Int) (bad : Bool) : Prop :=
  F b ∧ Bd F w ∧ ∃ v, Blk w b 170 [v, .bool bad] ∧ (Kd.int .u8).R 5 w 0 F v l

/-- The bytes of a number, the highest first. -/
def be : Nat → Int → List Int
  | 0, _ => []
  | j + 1, x => (x / 2 ^ (8 * j)) % 256 :: be j x
/-- A number that has no n bytes. -/
def badB (n : Nat) (x : Int) : Bool := decide (x < 0) || (decide ((n : Int) < 8) && decide (0 < x / 2 ^ (8 * n)))
def putL (n : Nat) : List Int → List Int
  | [] => []
  | x :: xs => (if badB n x then [] else be n x) ++ putL n xs
theorem putL_snoc (n : Nat) (xs : List Int) (x : Int) : putL n (xs ++ [x]) = putL n xs ++ (if badB n x then [] else be n x) := by
  induction xs with
  | nil => simp [putL]
  | cons y ys ih => simp [putL, ih]
theorem be_length (n : Nat) (x : Int) : (be n x).length = n := by
  induction n with
  | zero => rfl
  | succ n ih => simp [be, ih]
theorem putL_length (n : Nat) (xs : List Int) : (putL n xs).length ≤ n * xs.length := by
  induction xs with
  | nil => simp [putL]
  | cons y ys ih =>
    simp only [putL, List.length_append, List.length_cons, Nat.mul_succ]
    split
    · simp; omega
    · rw [be_length]; omega
theorem take_succ_rd (xs : List Int) (k : Nat) (h : k < xs.length) : xs.take (k + 1) = xs.take k ++ [rd xs (k : Int)] := by
  rw [List.take_succ_eq_append_getElem h]
  simp [rd, h]

def PutPost (w : World) (F : Nat → Prop) (b : Nat) (l : List Int) (bad : Bool) (e : Ending) (w' : World) : Prop :=
  e = .returned (.pointer (some ⟨b, 0, none⟩)) ∧ WrAt w' (ext F w w') b l bad ∧ Kp F w w'

theorem WrAt.here {w : World} {F : Nat → Prop} {b : Nat} {l : List Int} {bad : Bool} (h : WrAt w F b l bad) : WrAt w (ext F w w) b l bad := by
  obtain ⟨hb, hF, v, hB, hR⟩ := h
  exact ⟨.inl hb, hF.ext (Nat.le_refl _), v, hB, Kd.R_mono hR (fun _ hk => .inl hk)⟩
/-- The wrong mark is set. -/
theorem WrAt.mark {w wq : World} {F : Nat → Prop} {b : Nat} {l : List Int} {bad : Bool} (hF : Bd (ext F w wq) wq) (hq : Kp F w wq) (hb : ext F w wq b) {v : Value} (hB : Blk wq b 170 [v, .bool bad]) (hR : (Kd.int .u8).R 5 wq 0 (ext F w wq) v l) :
    WrAt (wq.setCell ⟨b, 1, none⟩ (.bool true)) (ext F w (wq.setCell ⟨b, 1, none⟩ (.bool true))) b l true ∧ Kp F w (wq.setCell ⟨b, 1, none⟩ (.bool true)) := by
  have hs : (wq.setCell ⟨b, 1, none⟩ (.bool true)).heap.size = wq.heap.size := by simp [World.setCell]
  have he : ∀ k, ext F w wq k → ext F w (wq.setCell ⟨b, 1, none⟩ (.bool true)) k := fun k hk => hk.imp id (fun h => ⟨h.1, by rw [hs]; exact h.2⟩)
  refine ⟨⟨he b hb, fun k hk => by rcases hk with hk | hk; exact (by rw [hs]; exact hF k (.inl hk)); exact hk.2, v, hB.set 1 (.bool true), Kd.R_mono (Kd.R_set hR hB (by decide) 1 _) he⟩, hq.setCell (fun hlt => ?_) _⟩
  rcases hb with hb | hb
  · exact hb
  · exact absurd hlt (by show ¬ b < w.heap.size; omega)
/-- The row has grown, and its value is stored. -/
theorem WrAt.grow {w wq w1 : World} {F : Nat → Prop} {b : Nat} {l l1 : List Int} {bad : Bool} (hF : Bd (ext F w wq) wq) (hq : Kp F w wq) (hb : ext F w wq b) {v v1 : Value} (hB : Blk wq b 170 [v, .bool bad]) (hR : (Kd.int .u8).R 5 wq 0 (ext F w wq) v l)
    (hR1 : (Kd.int .u8).R 5 w1 0 (ext (ext F w wq) wq w1) v1 l1) (hk : Kp (ext F w wq) wq w1) (hg : wq.grownBy w1 v.ownBlock) :
    WrAt (w1.setCell ⟨b, 0, none⟩ v1) (ext F w (w1.setCell ⟨b, 0, none⟩ v1)) b l1 bad ∧ Kp F w (w1.setCell ⟨b, 0, none⟩ v1) := by
  have hB1 : Blk w1 b 170 [v, .bool bad] := hB.grown hg (hB.ne_row hR (by decide))
  have hs : (w1.setCell ⟨b, 0, none⟩ v1).heap.size = w1.heap.size := by simp [World.setCell]
  have he : ∀ k, ext (ext F w wq) wq w1 k → ext F w (w1.setCell ⟨b, 0, none⟩ v1) k := fun k hk => by
    rcases hk with (hk | hk) | hk
    · exact .inl hk
    · exact .inr ⟨hk.1, by rw [hs]; have := hg.size; omega⟩
    · exact .inr ⟨by have := hq.size; omega, by rw [hs]; exact hk.2⟩
  refine ⟨⟨he b (.inl hb), fun k hk => by rcases hk with hk | hk; exact (by rw [hs]; have := hF k (.inl hk); have := hg.size; omega); exact hk.2, v1, hB1.set 0 v1, Kd.R_mono (Kd.R_set hR1 hB1 (by decide) 0 _) he⟩, (hq.transE hk).setCell (fun hlt => ?_) _⟩
  rcases hb with hb | hb
  · exact hb
  · exact absurd hlt (by show ¬ b < w.heap.size; omega)

set_option maxRecDepth 100000 in
set_option maxHeartbeats 1000000 in
theorem put_any (w : World) (F : Nat → Prop) (b : Nat) (l : List Int) (bad : Bool) (n : Nat) (A : Option Addr) (c m : Nat) (xs : List Int) (hW : WrAt w F b l bad) (hC : (Kd.int .i64).R 3 w 0 (fun k => ¬ F k) (.slice A m c) xs) (hn : 1 ≤ n) (hn8 : n ≤ 8) (hm : m ≤ 1000) (hl : l.length ≤ 1000000) :
    Calls Try.prog 108 #[.pointer (some ⟨b, 0, none⟩), .int .i64 n, .slice A m c] w (PutPost w F b (l ++ putL n xs) (bad || xs.any (badB n))) := by
  have HC := Lib.hid hC
  have HW := Lib.hid hW
  clear hC hW
  have d1 : decide ((n : Int) < 1) = false := by simp; omega
  have d8 : decide ((8 : Int) < (n : Int)) = false := by simp; omega
  go_enter Try.func108, Try.ntmps108
  go_wp2_with fail
  go_loopw [24] (fun i w1 => ∃ k : Nat, k ≤ m ∧ i = .int .i64 k ∧ WrAt w1 (ext F w w1) b (l ++ putL n (xs.take k)) (bad || (xs.take k).any (badB n)) ∧ Kp F w w1) (fun i _ => m - (intOf i).toNat)
  case atStart => exact ⟨0, Nat.zero_le _, rfl, by simpa [putL] using HW.out.here, Kp.refl _ _⟩
  case round =>
    obtain ⟨k, hk, rfl, hW1, hB1⟩ := hrel
    have hR3 := R_kp HC.out hB1 (fun _ _ h => h)
    obtain ⟨hmx, hmc, hCw⟩ := Kd.R_reads' hR3
    rw [← hmx] at hCw
    have Hmx := Lib.hid hmx
    clear hmx
    by_cases hlt : k < m
    · obtain ⟨ad, rfl, hx⟩ := Kd.at_int hCw (k : Int) (by omega) (by omega)
      simp only [Int.toNat_natCast] at hx
      have hts := take_succ_rd xs k (by have := Hmx.out; omega)
      generalize hxx : rd xs (k : Int) = x at hx hts
      have Hts := Lib.hid hts
      clear hxx hts
      have hps := putL_length n (xs.take k)
      have hpk : (xs.take k).length ≤ k := List.length_take_le _ _
      have hpl : (l ++ putL n (xs.take k)).length ≤ 1008000 := by
        have := Nat.mul_le_mul hn8 (show (xs.take k).length ≤ 1000 by omega)
        rw [List.length_append]; omega
      clear hps hpk
      generalize hLk : l ++ putL n (xs.take k) = Lk at hW1 hpl
      generalize hWk : (bad || (xs.take k).any (badB n)) = Wk at hW1
      have fin1 : badB n x = true → (l ++ putL n (xs.take (k + 1)) = Lk ∧ (bad || (xs.take (k + 1)).any (badB n)) = true) := fun hb => by
        rw [Hts.out, putL_snoc, hb]; simp [hLk, hb]
      have fin2 : badB n x = false → (l ++ putL n (xs.take (k + 1)) = Lk ++ be n x ∧ (bad || (xs.take (k + 1)).any (badB n)) = Wk) := fun hb => by
        rw [Hts.out, putL_snoc, hb]; simp [← hLk, ← hWk, hb]
      have Hfin1 := Lib.hid fin1
      have Hfin2 := Lib.hid fin2
      clear fin1 fin2 hLk hWk
      obtain ⟨hbb, hFF, v, hBk, hR⟩ := hW1
      have HFF := Lib.hid hFF
      clear hFF
      have HB := Lib.hid hBk
      have HR := Lib.hid hR
      have HB1 := Lib.hid hB1
      clear hBk hR hB1 hR3 hCw
      have c0 := HB.out.cell 0 _ rfl
      have c1 := HB.out.cell 1 _ rfl
      have f0 := HB.out.frozen 0
      have f1 := HB.out.frozen 1
      cases hbad : badB n x with
      | true =>
        have H1 := Lib.hid (Hfin1.out hbad)
        by_cases hneg : x < 0
        · have Hbad := Lib.hid hbad
          clear hbad
          go_wp2_with fail
          go_roundw
          case rel => exact ⟨k + 1, by omega, by go_num, by rw [H1.out.1, H1.out.2]; exact (WrAt.mark HFF.out HB1.out hbb HB.out HR.out)⟩
          case measure => simp [intOf] <;> omega
        · have h8 : (n : Int) < 8 := by
            by_cases h8 : (n : Int) < 8
            · exact h8
            · simp [badB, hneg, h8] at hbad
          have hpos : 0 < x / 2 ^ (8 * n) := by simpa [badB, hneg, h8] using hbad
          have Hbad := Lib.hid hbad
          clear hbad
          go_wp2_with fail
          go_roundw
          case rel => exact ⟨k + 1, by omega, by go_num, by rw [H1.out.1, H1.out.2]; exact (WrAt.mark HFF.out HB1.out hbb HB.out HR.out)⟩
          case measure => simp [intOf] <;> omega
      | false =>
        have H2 := Lib.hid (Hfin2.out hbad)
        have hneg : ¬ x < 0 := by intro h; simp [badB, h] at hbad
        have h8 : (n : Int) < 8 → ¬ 0 < x / 2 ^ (8 * n) := by intro h h'; simp [badB, hneg, h, h'] at hbad
        have Hbad := Lib.hid hbad
        clear hbad
        have h80 : ¬ (n : Int) < 8 ∨ ¬ 0 < x / 2 ^ (8 * n) := (show ¬ (n : Int) < 8 ∨ (n : Int) < 8 by omega).imp id h8
        clear h8
        have hone : 1 ≤ m := by omega
        rcases h80 with key | h8
        case' inr => by_cases key : (n : Int) < 8
        all_goals
          go_wp2_with fail
          go_loopw [9] (fun i w2 => ∃ (j : Int) (p : List Int), -1 ≤ j ∧ j ≤ (n : Int) - 1 ∧ i = .int .i64 j ∧ p ++ be (j + 1).toNat x = be n x ∧ WrAt w2 (ext F w w2) b (Lk ++ p) Wk ∧ Kp F w w2) (fun i _ => (intOf i + 1).toNat)
          case atStart => exact ⟨(n : Int) - 1, [], by omega, by omega, rfl, by simp, by rw [List.append_nil]; exact ⟨hbb, HFF.out, v, HB.out, HR.out⟩, HB1.out⟩
          case round =>
            obtain ⟨j, p, hj1, hj2, rfl, hp, hW2, hB2⟩ := hrel
            have Hp := Lib.hid hp
            clear hp
            by_cases hj : 0 ≤ j
            · obtain ⟨j', rfl⟩ := Int.eq_ofNat_of_zero_le hj
              have Hj := Lib.hid (show be ((j' : Int) + 1).toNat x = (x / 2 ^ (8 * j')) % 256 :: be (((j' : Int) - 1) + 1).toNat x by
                rw [show ((j' : Int) + 1).toNat = j' + 1 by omega, show (((j' : Int) - 1) + 1).toNat = j' by omega]; rfl)
              have hpn : p.length ≤ 8 := by have := congrArg List.length Hp.out; rw [List.length_append, be_length, be_length] at this; omega
              obtain ⟨hbb2, hFF2, v2, hBk2, hR2⟩ := hW2
              have HFF2 := Lib.hid hFF2
              clear hFF2
              have HBk2 := Lib.hid hBk2
              have HR2 := Lib.hid hR2
              have HB2 := Lib.hid hB2
              have e0 := HBk2.out.cell 0 _ rfl
              have e1 := HBk2.out.frozen 0
              clear hBk2 hR2 hB2
              have hq1 : IntKind.i64.wrap (8 * (j' : Int)) = 8 * (j' : Int) := IntWalk.i64_in _ (by omega)
              have hq2 : (0 : Int) ≤ 8 * (j' : Int) := by omega
              have hq3 : (8 * (j' : Int)).toNat = 8 * j' := by omega
              have hq4 : IntKind.u8.wrap (x / 2 ^ (8 * j')) = (x / 2 ^ (8 * j')) % 256 := IntKind.wrap_u8 _
              have HRd := Lib.hid (show (Kd.int .u8).R 5 wr.drew 0 (ext F w wr) v2 (Lk ++ p) from Kd.R_drew HR2.out)
              have Hne := Lib.hid (HBk2.out.ne_row HR2.out (by decide))
              have Hln := Lib.hid (show ((Lk ++ p).length + 1) * 1 ≤ 140737488355328 by rw [List.length_append]; omega)
              go_wp2_with fail
              refine seq_start (fun w' => w'.cell? ⟨b, 0, none⟩ = some v2) [14] [(0, 0), (1, 0), (2, 0), (3, 0), (4, 1), (5, 0), (6, 0), (7, 0), (8, 0), (9, 0), (10, 2), (11, 2), (12, 0), (13, 0), (14, 3)] (by kernel_rfl) (by kernel_rfl) e0 ?_
              intro hS
              (refine seq_v (some 50) (v := ?_) (a' := ?_) rfl rfl (fun _ _ _ h => h) (Or.inl ⟨by rfl, ?_⟩) ?_ ?_; rotate_left 2; (· intro w'; go_simp; with_reducible rfl); (· simp only [Act.put, List.setIfInBounds_toArray, List.set_cons_zero, List.set_cons_succ, i64_w, i32_w]; rfl))
              (refine seq_v (some 51) (v := ?_) (a' := ?_) rfl rfl (fun _ _ _ h => h) (Or.inl ⟨by rfl, ?_⟩) ?_ ?_; rotate_left 2; (· intro w'; go_simp; with_reducible rfl); (· simp only [Act.put, List.setIfInBounds_toArray, List.set_cons_zero, List.set_cons_succ, i64_w, i32_w]; rfl))
              (refine seq_v (some 52) (v := ?_) (a' := ?_) rfl rfl (fun _ _ _ h => h) (Or.inl ⟨by rfl, ?_⟩) ?_ ?_; rotate_left 2; (· intro w'; go_simp; with_reducible rfl); (· simp only [Act.put, List.setIfInBounds_toArray, List.set_cons_zero, List.set_cons_succ, i64_w, i32_w]; rfl))
              (refine seq_v (some 53) (v := ?_) (a' := ?_) rfl rfl (fun _ _ _ h => h) (Or.inl ⟨by rfl, ?_⟩) ?_ ?_; rotate_left 2; (· intro w'; go_simp; with_reducible rfl); (· simp only [Act.put, List.setIfInBounds_toArray, List.set_cons_zero, List.set_cons_succ, i64_w, i32_w]; rfl))
              (refine seq_l (some 54) (v := ?_) (a' := ?_) rfl rfl (fun _ _ _ h => h) (by assumption) (Or.inl ⟨by rfl, ?_⟩) ?_ ?_; rotate_left 2; (· intro w' hS'; (try dsimp only at hS'); go_simp; with_reducible rfl); (· simp only [Act.put, List.setIfInBounds_toArray, List.set_cons_zero, List.set_cons_succ, i64_w, i32_w]; rfl))
              (refine seq_v (some 55) (v := ?_) (a' := ?_) rfl rfl (fun _ _ _ h => h) (Or.inl ⟨by rfl, ?_⟩) ?_ ?_; rotate_left 2; (· intro w'; go_simp; with_reducible rfl); (· simp only [Act.put, List.setIfInBounds_toArray, List.set_cons_zero, List.set_cons_succ, i64_w, i32_w]; rfl))
              (refine seq_v (some 56) (v := ?_) (a' := ?_) rfl rfl (fun _ _ _ h => h) (Or.inl ⟨by rfl, ?_⟩) ?_ ?_; rotate_left 2; (· intro w'; go_simp; with_reducible rfl); (· simp only [Act.put, List.setIfInBounds_toArray, List.set_cons_zero, List.set_cons_succ, i64_w, i32_w]; rfl))
              (refine seq_v (some 57) (v := ?_) (a' := ?_) rfl rfl (fun _ _ _ h => h) (Or.inl ⟨by rfl, ?_⟩) ?_ ?_; rotate_left 2; (· intro w'; go_simp; with_reducible rfl); (· simp only [Act.put, List.setIfInBounds_toArray, List.set_cons_zero, List.set_cons_succ, i64_w, i32_w]; rfl))
              (refine seq_v (some 58) (v := ?_) (a' := ?_) rfl rfl (fun _ _ _ h => h) (Or.inl ⟨by rfl, ?_⟩) ?_ ?_; rotate_left 2; (· intro w'; go_simp; with_reducible rfl); (· simp only [Act.put, List.setIfInBounds_toArray, List.set_cons_zero, List.set_cons_succ, i64_w, i32_w]; rfl))
              (refine seq_v (some 59) (v := ?_) (a' := ?_) rfl rfl (fun _ _ _ h => h) (Or.inl ⟨by rfl, ?_⟩) ?_ ?_; rotate_left 2; (· intro w'; go_simp; with_reducible rfl); (· simp only [Act.put, List.setIfInBounds_toArray, List.set_cons_zero, List.set_cons_succ, i64_w, i32_w]; rfl))
              (refine seq_e rfl (by rfl) (fun K hK => ?_))
              go_simp
              refine hK _ _ (HBk2.out.drew.alloc _ |>.cell 0 _ rfl) (fun hS => ?_)
              clear hK K
              (refine seq_e rfl (by rfl) (fun K hK => ?_))
              refine op_appF .u8 1 (W := wr.drew) (F := ext F w wr) 32 5 _ _ (by rfl) Try.underlying32 A_info5 (by decide) (by rfl) (by rfl) HRd.out Hln.out ?_
              intro A3 n3 c3 w3 _ hR3 hK3 hG3
              have hB3 := HBk2.out.drew.grown hG3 Hne.out
              have e3 := hB3.cell 0 _ rfl
              have f3 := hB3.frozen 0
              refine hK _ _ e3 (fun hS => ?_)
              clear hK K
              (refine seq_v (some 62) (v := ?_) (a' := ?_) rfl rfl (fun _ _ _ h => h) (Or.inl ⟨by rfl, ?_⟩) ?_ ?_; rotate_left 2; (· intro w'; go_simp; with_reducible rfl); (· simp only [Act.put, List.setIfInBounds_toArray, List.set_cons_zero, List.set_cons_succ, i64_w, i32_w]; rfl))
              (refine seq_v (some 63) (v := ?_) (a' := ?_) rfl rfl (fun _ _ _ h => h) (Or.inl ⟨by rfl, ?_⟩) ?_ ?_; rotate_left 2; (· intro w'; go_simp; with_reducible rfl); (· simp only [Act.put, List.setIfInBounds_toArray, List.set_cons_zero, List.set_cons_succ, i64_w, i32_w]; rfl))
              (refine seq_d rfl (by rfl) (fun K hK => ?_))
              go_simp
              refine hK _ _ ?_
              clear hK K
              refine seq_nil ?_
              have hk4 := WrAt.grow (wq := wr.drew) HFF2.out HB2.out.drew hbb2 HBk2.out.drew HRd.out hR3 hK3 hG3
              rw [List.append_assoc] at hk4
              have HK4 := Lib.hid hk4
              clear hk4 hR3 hK3 hG3 hq1 hq2 hq3 hq4
              go_wp2_with fail
              go_roundw
              case rel => exact ⟨(j' : Int) - 1, p ++ [(x / 2 ^ (8 * j')) % 256], by omega, by omega, by go_num, by rw [List.append_assoc, ← Hp.out, Hj.out]; first | rfl | done, HK4.out⟩
              case measure => simp [intOf] <;> omega
            · have hjm : j = -1 := by omega
              subst hjm
              have hpe : p = be n x := by have := Hp.out; simpa [be] using this
              subst hpe
              have HW2 := Lib.hid hW2
              have HB2 := Lib.hid hB2
              clear hW2 hB2
              go_wp2_with fail
              go_roundw
              case rel => exact ⟨k + 1, by omega, by go_num, by rw [H2.out.1, H2.out.2]; exact HW2.out, HB2.out⟩
              case measure => simp [intOf] <;> omega
    · have hkm : k = m := by omega
      subst hkm
      have htk : xs.take k = xs := List.take_of_length_le (by have := Hmx.out; omega)
      have HW1 := Lib.hid (htk ▸ hW1)
      have HB1 := Lib.hid hB1
      clear hW1 hB1 hR3 hCw htk
      go_wp2_with fail
      go_ret
      exact ⟨rfl, HW1.out, HB1.out⟩
end Go.Proofs.Ytcplmaeicmmkgaa
