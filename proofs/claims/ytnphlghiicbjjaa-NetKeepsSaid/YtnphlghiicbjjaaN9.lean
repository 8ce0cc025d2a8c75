/- net: Put's walk. -/
import Derived.Test.YtnphlghiicbjjaaN8
namespace Go.Proofs.Ytnphlghiicbjjaa
open Go Go.RowKit Go.Proofs.YtnphlghiicbjjaaW.PrintWords Go.Proofs.YtnphlghiicbjjaaW.PrintLast Go.Proofs.Ytnphlghiicbjjaa.PNetPlays
set_option linter.unusedVariables false
set_option linter.unusedSimpArgs false

def PutPost (w : World) (F : Nat → Prop) (b : Nat) (s : List S40 × Nat × Nat) (r : Int) (e : Ending) (w' : World) : Prop :=
  e = .returned (.int .i64 (s.2.1 : Nat)) ∧ NtAt w' (ext F w w') b s.1 r (s.2.2 : Nat) ∧ Kp F w w'
theorem NtAt.lose {w : World} {F : Nat → Prop} {b : Nat} {xs : List S40} {r q : Int} (h : NtAt w F b xs r q) (q' : Int) : NtAt (w.setCell ⟨b, 2, none⟩ (.int .i64 q')) F b xs r q' := by
  obtain ⟨h1, h2, A, n, c, h5, h6⟩ := h
  exact ⟨h1, h2.up (by simp [World.setCell]), A, n, c, h5.set 2 _, Kd.R_set h6 h5 (by decide) 2 _⟩
/-- What a round knows. -/
def PutInv (w wr : World) (F : Nat → Prop) (b : Nat) (s : List S40 × Nat × Nat) (r : Int) : Prop := NtAt wr (ext F w wr) b s.1 r (s.2.2 : Nat) ∧ Kp F w wr
set_option maxRecDepth 10000 in
set_option maxHeartbeats 4000000 in
theorem put_any (w : World) (F : Nat → Prop) (b : Nat) (xs : List S40) (r : Int) (q : Nat) (hF : NtAt w F b xs r (q : Nat)) (A : Option Addr) (m c : Nat) (l : List S40) (hC : ∀ w', Kp F w w' → k40.C w' A m l)
    (hl : xs.length + m ≤ 100000000) (hq : q + m ≤ 100000000) : Calls Try.prog 20 #[.pointer (some ⟨b, 0, none⟩), .slice A m c] w (PutPost w F b (putAll r (xs, 0, q) l) r) := by
  have hI0 : PutInv w w F b (putAll r (xs, 0, q) (l.take 0)) r := ⟨hF.mono (fun k hk => .inl hk) (hF.2.1.ext (Nat.le_refl _)), Kp.refl F w⟩
  have HI0 := Lib.hid hI0
  have Hl := Lib.hid (hC w (Kp.refl F w)).1
  have HC := Lib.hid hC
  have HFb := Lib.hid hF.1
  have HFlt := Lib.hid hF.2.1
  clear hI0 hC hF
  go_enter Try.func20, Try.ntmps20
  go_wp2_with fail
  go_loopw [5, 12] (fun v5 v12 wr => ∃ (k : Nat) (s : List S40 × Nat × Nat), k ≤ m ∧ v12 = .int .i64 k ∧ v5 = .int .i64 (s.2.1 : Nat) ∧ Hid (s = putAll r (xs, 0, q) (l.take k)) ∧ Hid (PutInv w wr F b s r)) (fun _ v12 _ => m - (intOf v12).toNat)
  case atStart => exact ⟨0, _, Nat.zero_le _, rfl, rfl, Lib.hid rfl, HI0⟩
  case round =>
    obtain ⟨k, s, hk, rfl, rfl, HS, HP⟩ := hrel
    by_cases hlt : k < m
    · have hw1 : IntKind.i64.wrap ((k : Int) + 1) = (k : Int) + 1 := IntWalk.i64_in _ (by omega)
      have hkl : k < l.length := by rw [Hl.out]; exact hlt
      have hCr := HC.out wr HP.out.2
      obtain ⟨ad, A2, c2, rfl, e0, e1, e2, hle, hC2⟩ := at_T40 hCr (k : Int) (by omega) (by omega)
      rw [Int.toNat_natCast] at e0 e1 e2
      have hrd : rd_T40 l (k : Int) = l[k] := rd_get l k hkl
      rw [hrd] at e0 e1 e2 hle hC2
      have hnx : putAll r (xs, 0, q) (l.take (k + 1)) = putStep r s l[k] := by rw [List.take_succ_eq_append_getElem hkl, putAll_snoc, ← HS.out]
      generalize l[k] = x at e0 e1 e2 hle hC2 hnx
      have HNx := Lib.hid hnx
      have HC2 := Lib.hid hC2
      have hsl : s.1.length + 0 = xs.length + s.2.1 ∧ s.2.1 + s.2.2 = 0 + q + (l.take k).length := by
        have := putAll_len r (xs, 0, q) (l.take k)
        rw [← HS.out] at this
        exact this
      rw [List.length_take] at hsl
      obtain ⟨hs1, hs2⟩ := hsl
      have hs2' : s.2.1 + s.2.2 ≤ q + k := by omega
      clear hCr hrd hnx hC2 hs2
      obtain ⟨hNb, hNBd, A3, n3, c3, hbk, hR3⟩ := HP.out.1
      have hn3 := (Kd.R_reads' hR3).1
      have hbl := HFlt.out b HFb.out
      have hsz0 := HP.out.2.size
      have hb0 : b < wr.heap.size := by omega
      have Hbk := Lib.hid hbk
      have HR3 := Lib.hid hR3
      have Hn3 := Lib.hid hn3
      clear hNb hNBd hbk hR3 hn3
      go_wp2_with fail
      have hB1 : Below wr.heap.size wr (wr.alloc (.cells #[.int .i64 x.f0, .int .i64 x.f1, .slice A2 x.f2.length c2] 40)) := below_alloc (Below.refl _ _) _
      have X1 := Lib.hid (Blk.new wr 40 [.int .i64 x.f0, .int .i64 x.f1, .slice A2 x.f2.length c2])
      have hz1 : wr.heap.size < (wr.alloc (.cells #[.int .i64 x.f0, .int .i64 x.f1, .slice A2 x.f2.length c2] 40)).heap.size := by simp
      generalize wr.alloc (.cells #[.int .i64 x.f0, .int .i64 x.f1, .slice A2 x.f2.length c2] 40) = w1 at hB1 X1 hz1 ⊢
      have HB1 := Lib.hid (hB1.trans (below_drew (Below.refl _ _)))
      have X1d := Lib.hid X1.out.drew
      have Hb1 := Lib.hid (Hbk.out.below HB1.out)
      have hz1d : wr.heap.size < w1.drew.heap.size := hz1
      clear hB1 X1 e0 e1 e2
      have x0 := X1d.out.cell 0 _ rfl
      have x1 := X1d.out.cell 1 _ rfl
      have x2 := X1d.out.cell 2 _ rfl
      have b0 := Hb1.out.cell 0 _ rfl
      have b1 := Hb1.out.cell 1 _ rfl
      have hcs : (okI x = false ∨ (okI x = true ∧ r ≤ (n3 : Int))) ∨ (okI x = true ∧ ¬ r ≤ (n3 : Int)) := by
        cases h : okI x with
        | false => exact .inl (.inl rfl)
        | true =>
          by_cases h' : r ≤ (n3 : Int)
          · exact .inl (.inr ⟨rfl, h'⟩)
          · exact .inr ⟨rfl, h'⟩
      rcases hcs with (hok | ⟨hok, hrm⟩) | ⟨hok, hrm⟩
      · have HST := Lib.hid (show putStep r s x = (s.1, s.2.1, s.2.2 + 1) by unfold putStep; rw [if_neg (fun h => by rw [hok] at h; cases h.1)])
        refine seq_start (fun w' => w'.cell? ⟨b, 0, none⟩ = some (.slice A3 n3 c3) ∧ w'.cell? ⟨b, 1, none⟩ = some (.int .i64 r) ∧ w'.cell? ⟨wr.heap.size, 0, none⟩ = some (.int .i64 x.f0) ∧ w'.cell? ⟨wr.heap.size, 1, none⟩ = some (.int .i64 x.f1) ∧ w'.cell? ⟨wr.heap.size, 2, none⟩ = some (.slice A2 x.f2.length c2)) [] [(0, 1), (1, 2), (2, 0), (3, 0), (4, 0), (5, 0), (6, 0), (7, 1), (8, 0), (9, 0), (10, 0), (11, 0), (12, 1), (13, 0), (14, 0)] (by kernel_rfl) (by kernel_rfl) ⟨b0, b1, x0, x1, x2⟩ ?_
        intro hS
        (refine seq_l (some 16) (v := ?_) (a' := ?_) rfl rfl (fun _ _ _ h => h) (by assumption) (Or.inl ⟨by rfl, ?_⟩) ?_ ?_; rotate_left 2; (· intro w' hS'; (try dsimp only at hS'); go_simp; with_reducible rfl); (· simp only [Act.put, List.setIfInBounds_toArray, List.set_cons_zero, List.set_cons_succ, i64_w, i32_w]; rfl))
        (refine seq_e rfl (by rfl) (fun K hK => ?_))
        go_simp
        refine (net_right.calls x.f0 x.f1 A2 c2 x.f2 _ _ (C_kp HC2.out HB1.out) hle (right_okI x)).mono ?_
        rintro e w2 ⟨rfl, hB2⟩
        rw [hok]
        have Xd2 := X1d.out.below hB2
        have Hbd2 := Hb1.out.below hB2
        refine hK _ _ ⟨Hbd2.cell 0 _ rfl, Hbd2.cell 1 _ rfl, Xd2.cell 0 _ rfl, Xd2.cell 1 _ rfl, Xd2.cell 2 _ rfl⟩ (fun hS => ?_)
        clear hK K hS
        have hS : w2.cell? ⟨b, 0, none⟩ = some (.slice A3 n3 c3) ∧ w2.cell? ⟨b, 1, none⟩ = some (.int .i64 r) ∧ w2.cell? ⟨wr.heap.size, 0, none⟩ = some (.int .i64 x.f0) ∧ w2.cell? ⟨wr.heap.size, 1, none⟩ = some (.int .i64 x.f1) ∧ w2.cell? ⟨wr.heap.size, 2, none⟩ = some (.slice A2 x.f2.length c2) := ⟨Hbd2.cell 0 _ rfl, Hbd2.cell 1 _ rfl, Xd2.cell 0 _ rfl, Xd2.cell 1 _ rfl, Xd2.cell 2 _ rfl⟩
        (refine seq_v (some 18) (v := ?_) (a' := ?_) rfl rfl (fun _ _ _ h => h) (Or.inl ⟨by rfl, ?_⟩) ?_ ?_; rotate_left 2; (· intro w'; go_simp; with_reducible rfl); (· simp only [Act.put, List.setIfInBounds_toArray, List.set_cons_zero, List.set_cons_succ, i64_w, i32_w]; rfl))
        (refine seq_v (some 19) (v := ?_) (a' := ?_) rfl rfl (fun _ _ _ h => h) (Or.inl ⟨by rfl, ?_⟩) ?_ ?_; rotate_left 2; (· intro w'; go_simp; with_reducible rfl); (· simp only [Act.put, List.setIfInBounds_toArray, List.set_cons_zero, List.set_cons_succ, i64_w, i32_w]; rfl))
        first | (refine seq_v (some 20) (v := ?_) (a' := ?_) rfl rfl (fun _ _ _ h => h) (Or.inl ⟨by rfl, ?_⟩) ?_ ?_; rotate_left 2; (· intro w'; go_simp; with_reducible rfl); (· simp only [Act.put, List.setIfInBounds_toArray, List.set_cons_zero, List.set_cons_succ, i64_w, i32_w]; rfl)) | (refine seq_v (some 20) (v := undef) (a' := ?_) rfl rfl (fun _ _ _ h => h) (Or.inr ⟨by rfl, rfl⟩) ?_ ?_; rotate_left; (· simp only [Act.put, List.setIfInBounds_toArray, List.set_cons_zero, List.set_cons_succ, i64_w, i32_w]; rfl))
        first | (refine seq_v (some 21) (v := ?_) (a' := ?_) rfl rfl (fun _ _ _ h => h) (Or.inl ⟨by rfl, ?_⟩) ?_ ?_; rotate_left 2; (· intro w'; go_simp; with_reducible rfl); (· simp only [Act.put, List.setIfInBounds_toArray, List.set_cons_zero, List.set_cons_succ, i64_w, i32_w]; rfl)) | (refine seq_v (some 21) (v := undef) (a' := ?_) rfl rfl (fun _ _ _ h => h) (Or.inr ⟨by rfl, rfl⟩) ?_ ?_; rotate_left; (· simp only [Act.put, List.setIfInBounds_toArray, List.set_cons_zero, List.set_cons_succ, i64_w, i32_w]; rfl))
        first | (refine seq_v (some 22) (v := ?_) (a' := ?_) rfl rfl (fun _ _ _ h => h) (Or.inl ⟨by rfl, ?_⟩) ?_ ?_; rotate_left 2; (· intro w'; go_simp; with_reducible rfl); (· simp only [Act.put, List.setIfInBounds_toArray, List.set_cons_zero, List.set_cons_succ, i64_w, i32_w]; rfl)) | (refine seq_v (some 22) (v := undef) (a' := ?_) rfl rfl (fun _ _ _ h => h) (Or.inr ⟨by rfl, rfl⟩) ?_ ?_; rotate_left; (· simp only [Act.put, List.setIfInBounds_toArray, List.set_cons_zero, List.set_cons_succ, i64_w, i32_w]; rfl))
        first | (refine seq_l (some 23) (v := ?_) (a' := ?_) rfl rfl (fun _ _ _ h => h) (by assumption) (Or.inl ⟨by rfl, ?_⟩) ?_ ?_; rotate_left 2; (· intro w' hS'; (try dsimp only at hS'); go_simp; with_reducible rfl); (· simp only [Act.put, List.setIfInBounds_toArray, List.set_cons_zero, List.set_cons_succ, i64_w, i32_w]; rfl)) | (refine seq_l (some 23) (v := undef) (a' := ?_) rfl rfl (fun _ _ _ h => h) (by assumption) (Or.inr ⟨by rfl, rfl⟩) ?_ ?_; rotate_left; (· simp only [Act.put, List.setIfInBounds_toArray, List.set_cons_zero, List.set_cons_succ, i64_w, i32_w]; rfl))
        first | (refine seq_v (some 24) (v := ?_) (a' := ?_) rfl rfl (fun _ _ _ h => h) (Or.inl ⟨by rfl, ?_⟩) ?_ ?_; rotate_left 2; (· intro w'; go_simp; with_reducible rfl); (· simp only [Act.put, List.setIfInBounds_toArray, List.set_cons_zero, List.set_cons_succ, i64_w, i32_w]; rfl)) | (refine seq_v (some 24) (v := undef) (a' := ?_) rfl rfl (fun _ _ _ h => h) (Or.inr ⟨by rfl, rfl⟩) ?_ ?_; rotate_left; (· simp only [Act.put, List.setIfInBounds_toArray, List.set_cons_zero, List.set_cons_succ, i64_w, i32_w]; rfl))
        first | (refine seq_v (some 25) (v := ?_) (a' := ?_) rfl rfl (fun _ _ _ h => h) (Or.inl ⟨by rfl, ?_⟩) ?_ ?_; rotate_left 2; (· intro w'; go_simp; with_reducible rfl); (· simp only [Act.put, List.setIfInBounds_toArray, List.set_cons_zero, List.set_cons_succ, i64_w, i32_w]; rfl)) | (refine seq_v (some 25) (v := undef) (a' := ?_) rfl rfl (fun _ _ _ h => h) (Or.inr ⟨by rfl, rfl⟩) ?_ ?_; rotate_left; (· simp only [Act.put, List.setIfInBounds_toArray, List.set_cons_zero, List.set_cons_succ, i64_w, i32_w]; rfl))
        first | (refine seq_v (some 26) (v := ?_) (a' := ?_) rfl rfl (fun _ _ _ h => h) (Or.inl ⟨by rfl, ?_⟩) ?_ ?_; rotate_left 2; (· intro w'; go_simp; with_reducible rfl); (· simp only [Act.put, List.setIfInBounds_toArray, List.set_cons_zero, List.set_cons_succ, i64_w, i32_w]; rfl)) | (refine seq_v (some 26) (v := undef) (a' := ?_) rfl rfl (fun _ _ _ h => h) (Or.inr ⟨by rfl, rfl⟩) ?_ ?_; rotate_left; (· simp only [Act.put, List.setIfInBounds_toArray, List.set_cons_zero, List.set_cons_succ, i64_w, i32_w]; rfl))
        first | (refine seq_v (some 27) (v := ?_) (a' := ?_) rfl rfl (fun _ _ _ h => h) (Or.inl ⟨by rfl, ?_⟩) ?_ ?_; rotate_left 2; (· intro w'; go_simp; with_reducible rfl); (· simp only [Act.put, List.setIfInBounds_toArray, List.set_cons_zero, List.set_cons_succ, i64_w, i32_w]; rfl)) | (refine seq_v (some 27) (v := undef) (a' := ?_) rfl rfl (fun _ _ _ h => h) (Or.inr ⟨by rfl, rfl⟩) ?_ ?_; rotate_left; (· simp only [Act.put, List.setIfInBounds_toArray, List.set_cons_zero, List.set_cons_succ, i64_w, i32_w]; rfl))
        first | (refine seq_l (some 28) (v := ?_) (a' := ?_) rfl rfl (fun _ _ _ h => h) (by assumption) (Or.inl ⟨by rfl, ?_⟩) ?_ ?_; rotate_left 2; (· intro w' hS'; (try dsimp only at hS'); go_simp; with_reducible rfl); (· simp only [Act.put, List.setIfInBounds_toArray, List.set_cons_zero, List.set_cons_succ, i64_w, i32_w]; rfl)) | (refine seq_l (some 28) (v := undef) (a' := ?_) rfl rfl (fun _ _ _ h => h) (by assumption) (Or.inr ⟨by rfl, rfl⟩) ?_ ?_; rotate_left; (· simp only [Act.put, List.setIfInBounds_toArray, List.set_cons_zero, List.set_cons_succ, i64_w, i32_w]; rfl))
        first | (refine seq_v (some 29) (v := ?_) (a' := ?_) rfl rfl (fun _ _ _ h => h) (Or.inl ⟨by rfl, ?_⟩) ?_ ?_; rotate_left 2; (· intro w'; go_simp; with_reducible rfl); (· simp only [Act.put, List.setIfInBounds_toArray, List.set_cons_zero, List.set_cons_succ, i64_w, i32_w]; rfl)) | (refine seq_v (some 29) (v := undef) (a' := ?_) rfl rfl (fun _ _ _ h => h) (Or.inr ⟨by rfl, rfl⟩) ?_ ?_; rotate_left; (· simp only [Act.put, List.setIfInBounds_toArray, List.set_cons_zero, List.set_cons_succ, i64_w, i32_w]; rfl))
        (refine seq_v (some 30) (v := ?_) (a' := ?_) rfl rfl (fun _ _ _ h => h) (Or.inl ⟨by rfl, ?_⟩) ?_ ?_; rotate_left 2; (· intro w'; go_simp; with_reducible rfl); (· simp only [Act.put, List.setIfInBounds_toArray, List.set_cons_zero, List.set_cons_succ, i64_w, i32_w]; rfl))
        refine seq_nil ?_
        clear hS x0 x1 x2 b0 b1
        have HB2 := Lib.hid (HB1.out.trans (hB2.mono HB1.out.size))
        have HX2 := Lib.hid Xd2
        have Hb2 := Lib.hid Hbd2
        have HN2 := Lib.hid (HP.out.1.below HB2.out)
        have HK2 := Lib.hid (HP.out.2.below HB2.out)
        clear Xd2 Hbd2 hB2 hok
        have hc := Hb2.out.cell 2 _ rfl
        have hfz := Hb2.out.frozen 2
        go_wp2_with fail
        refine (add_any w2 b (s.2.2 : Nat) hc hfz ⟨by omega, by omega⟩).mono ?_
        rintro e w3 ⟨rfl, hw3⟩
        have hI := HN2.out.lose ((s.2.2 : Nat) + 1)
        have hK3 := HK2.out.setCell (p := ⟨b, 2, none⟩) (fun _ => HFb.out) (.int .i64 ((s.2.2 : Nat) + 1))
        rw [← hw3] at hI hK3
        have HI3 := Lib.hid (show PutInv w w3 F b (s.1, s.2.1, s.2.2 + 1) r from ⟨hI.mono (fun k hk => hk.imp id (fun h => ⟨h.1, by rw [hw3]; simpa [World.setCell] using Nat.lt_of_lt_of_le h.2 HB2.out.size⟩)) (HFlt.out.ext hK3.size), hK3⟩)
        clear hc hfz hw3 hI hK3
        go_wp2_with fail
        go_roundw
        case rel => exact ⟨k + 1, (s.1, s.2.1, s.2.2 + 1), by omega, by go_num, rfl, Lib.hid (HNx.out.trans HST.out).symm, HI3⟩
        case measure => simp [intOf] <;> omega
      · have HST := Lib.hid (show putStep r s x = (s.1, s.2.1, s.2.2 + 1) by unfold putStep; rw [if_neg (fun h => by have := Hn3.out; omega)])
        have d0 : decide (r ≤ (n3 : Int)) = true := decide_eq_true hrm
        refine seq_start (fun w' => w'.cell? ⟨b, 0, none⟩ = some (.slice A3 n3 c3) ∧ w'.cell? ⟨b, 1, none⟩ = some (.int .i64 r) ∧ w'.cell? ⟨wr.heap.size, 0, none⟩ = some (.int .i64 x.f0) ∧ w'.cell? ⟨wr.heap.size, 1, none⟩ = some (.int .i64 x.f1) ∧ w'.cell? ⟨wr.heap.size, 2, none⟩ = some (.slice A2 x.f2.length c2)) [] [(0, 1), (1, 2), (2, 0), (3, 0), (4, 0), (5, 0), (6, 0), (7, 1), (8, 0), (9, 0), (10, 0), (11, 0), (12, 1), (13, 0), (14, 0)] (by kernel_rfl) (by kernel_rfl) ⟨b0, b1, x0, x1, x2⟩ ?_
        intro hS
        (refine seq_l (some 16) (v := ?_) (a' := ?_) rfl rfl (fun _ _ _ h => h) (by assumption) (Or.inl ⟨by rfl, ?_⟩) ?_ ?_; rotate_left 2; (· intro w' hS'; (try dsimp only at hS'); go_simp; with_reducible rfl); (· simp only [Act.put, List.setIfInBounds_toArray, List.set_cons_zero, List.set_cons_succ, i64_w, i32_w]; rfl))
        (refine seq_e rfl (by rfl) (fun K hK => ?_))
        go_simp
        refine (net_right.calls x.f0 x.f1 A2 c2 x.f2 _ _ (C_kp HC2.out HB1.out) hle (right_okI x)).mono ?_
        rintro e w2 ⟨rfl, hB2⟩
        rw [hok]
        have Xd2 := X1d.out.below hB2
        have Hbd2 := Hb1.out.below hB2
        refine hK _ _ ⟨Hbd2.cell 0 _ rfl, Hbd2.cell 1 _ rfl, Xd2.cell 0 _ rfl, Xd2.cell 1 _ rfl, Xd2.cell 2 _ rfl⟩ (fun hS => ?_)
        clear hK K hS
        have hS : w2.cell? ⟨b, 0, none⟩ = some (.slice A3 n3 c3) ∧ w2.cell? ⟨b, 1, none⟩ = some (.int .i64 r) ∧ w2.cell? ⟨wr.heap.size, 0, none⟩ = some (.int .i64 x.f0) ∧ w2.cell? ⟨wr.heap.size, 1, none⟩ = some (.int .i64 x.f1) ∧ w2.cell? ⟨wr.heap.size, 2, none⟩ = some (.slice A2 x.f2.length c2) := ⟨Hbd2.cell 0 _ rfl, Hbd2.cell 1 _ rfl, Xd2.cell 0 _ rfl, Xd2.cell 1 _ rfl, Xd2.cell 2 _ rfl⟩
        (refine seq_v (some 18) (v := ?_) (a' := ?_) rfl rfl (fun _ _ _ h => h) (Or.inl ⟨by rfl, ?_⟩) ?_ ?_; rotate_left 2; (· intro w'; go_simp; with_reducible rfl); (· simp only [Act.put, List.setIfInBounds_toArray, List.set_cons_zero, List.set_cons_succ, i64_w, i32_w]; rfl))
        (refine seq_v (some 19) (v := ?_) (a' := ?_) rfl rfl (fun _ _ _ h => h) (Or.inl ⟨by rfl, ?_⟩) ?_ ?_; rotate_left 2; (· intro w'; go_simp; with_reducible rfl); (· simp only [Act.put, List.setIfInBounds_toArray, List.set_cons_zero, List.set_cons_succ, i64_w, i32_w]; rfl))
        first | (refine seq_v (some 20) (v := ?_) (a' := ?_) rfl rfl (fun _ _ _ h => h) (Or.inl ⟨by rfl, ?_⟩) ?_ ?_; rotate_left 2; (· intro w'; go_simp; with_reducible rfl); (· simp only [Act.put, List.setIfInBounds_toArray, List.set_cons_zero, List.set_cons_succ, i64_w, i32_w]; rfl)) | (refine seq_v (some 20) (v := undef) (a' := ?_) rfl rfl (fun _ _ _ h => h) (Or.inr ⟨by rfl, rfl⟩) ?_ ?_; rotate_left; (· simp only [Act.put, List.setIfInBounds_toArray, List.set_cons_zero, List.set_cons_succ, i64_w, i32_w]; rfl))
        first | (refine seq_v (some 21) (v := ?_) (a' := ?_) rfl rfl (fun _ _ _ h => h) (Or.inl ⟨by rfl, ?_⟩) ?_ ?_; rotate_left 2; (· intro w'; go_simp; with_reducible rfl); (· simp only [Act.put, List.setIfInBounds_toArray, List.set_cons_zero, List.set_cons_succ, i64_w, i32_w]; rfl)) | (refine seq_v (some 21) (v := undef) (a' := ?_) rfl rfl (fun _ _ _ h => h) (Or.inr ⟨by rfl, rfl⟩) ?_ ?_; rotate_left; (· simp only [Act.put, List.setIfInBounds_toArray, List.set_cons_zero, List.set_cons_succ, i64_w, i32_w]; rfl))
        first | (refine seq_v (some 22) (v := ?_) (a' := ?_) rfl rfl (fun _ _ _ h => h) (Or.inl ⟨by rfl, ?_⟩) ?_ ?_; rotate_left 2; (· intro w'; go_simp; with_reducible rfl); (· simp only [Act.put, List.setIfInBounds_toArray, List.set_cons_zero, List.set_cons_succ, i64_w, i32_w]; rfl)) | (refine seq_v (some 22) (v := undef) (a' := ?_) rfl rfl (fun _ _ _ h => h) (Or.inr ⟨by rfl, rfl⟩) ?_ ?_; rotate_left; (· simp only [Act.put, List.setIfInBounds_toArray, List.set_cons_zero, List.set_cons_succ, i64_w, i32_w]; rfl))
        first | (refine seq_l (some 23) (v := ?_) (a' := ?_) rfl rfl (fun _ _ _ h => h) (by assumption) (Or.inl ⟨by rfl, ?_⟩) ?_ ?_; rotate_left 2; (· intro w' hS'; (try dsimp only at hS'); go_simp; with_reducible rfl); (· simp only [Act.put, List.setIfInBounds_toArray, List.set_cons_zero, List.set_cons_succ, i64_w, i32_w]; rfl)) | (refine seq_l (some 23) (v := undef) (a' := ?_) rfl rfl (fun _ _ _ h => h) (by assumption) (Or.inr ⟨by rfl, rfl⟩) ?_ ?_; rotate_left; (· simp only [Act.put, List.setIfInBounds_toArray, List.set_cons_zero, List.set_cons_succ, i64_w, i32_w]; rfl))
        first | (refine seq_v (some 24) (v := ?_) (a' := ?_) rfl rfl (fun _ _ _ h => h) (Or.inl ⟨by rfl, ?_⟩) ?_ ?_; rotate_left 2; (· intro w'; go_simp; with_reducible rfl); (· simp only [Act.put, List.setIfInBounds_toArray, List.set_cons_zero, List.set_cons_succ, i64_w, i32_w]; rfl)) | (refine seq_v (some 24) (v := undef) (a' := ?_) rfl rfl (fun _ _ _ h => h) (Or.inr ⟨by rfl, rfl⟩) ?_ ?_; rotate_left; (· simp only [Act.put, List.setIfInBounds_toArray, List.set_cons_zero, List.set_cons_succ, i64_w, i32_w]; rfl))
        first | (refine seq_v (some 25) (v := ?_) (a' := ?_) rfl rfl (fun _ _ _ h => h) (Or.inl ⟨by rfl, ?_⟩) ?_ ?_; rotate_left 2; (· intro w'; go_simp; with_reducible rfl); (· simp only [Act.put, List.setIfInBounds_toArray, List.set_cons_zero, List.set_cons_succ, i64_w, i32_w]; rfl)) | (refine seq_v (some 25) (v := undef) (a' := ?_) rfl rfl (fun _ _ _ h => h) (Or.inr ⟨by rfl, rfl⟩) ?_ ?_; rotate_left; (· simp only [Act.put, List.setIfInBounds_toArray, List.set_cons_zero, List.set_cons_succ, i64_w, i32_w]; rfl))
        first | (refine seq_v (some 26) (v := ?_) (a' := ?_) rfl rfl (fun _ _ _ h => h) (Or.inl ⟨by rfl, ?_⟩) ?_ ?_; rotate_left 2; (· intro w'; go_simp; with_reducible rfl); (· simp only [Act.put, List.setIfInBounds_toArray, List.set_cons_zero, List.set_cons_succ, i64_w, i32_w]; rfl)) | (refine seq_v (some 26) (v := undef) (a' := ?_) rfl rfl (fun _ _ _ h => h) (Or.inr ⟨by rfl, rfl⟩) ?_ ?_; rotate_left; (· simp only [Act.put, List.setIfInBounds_toArray, List.set_cons_zero, List.set_cons_succ, i64_w, i32_w]; rfl))
        first | (refine seq_v (some 27) (v := ?_) (a' := ?_) rfl rfl (fun _ _ _ h => h) (Or.inl ⟨by rfl, ?_⟩) ?_ ?_; rotate_left 2; (· intro w'; go_simp; with_reducible rfl); (· simp only [Act.put, List.setIfInBounds_toArray, List.set_cons_zero, List.set_cons_succ, i64_w, i32_w]; rfl)) | (refine seq_v (some 27) (v := undef) (a' := ?_) rfl rfl (fun _ _ _ h => h) (Or.inr ⟨by rfl, rfl⟩) ?_ ?_; rotate_left; (· simp only [Act.put, List.setIfInBounds_toArray, List.set_cons_zero, List.set_cons_succ, i64_w, i32_w]; rfl))
        first | (refine seq_l (some 28) (v := ?_) (a' := ?_) rfl rfl (fun _ _ _ h => h) (by assumption) (Or.inl ⟨by rfl, ?_⟩) ?_ ?_; rotate_left 2; (· intro w' hS'; (try dsimp only at hS'); go_simp; with_reducible rfl); (· simp only [Act.put, List.setIfInBounds_toArray, List.set_cons_zero, List.set_cons_succ, i64_w, i32_w]; rfl)) | (refine seq_l (some 28) (v := undef) (a' := ?_) rfl rfl (fun _ _ _ h => h) (by assumption) (Or.inr ⟨by rfl, rfl⟩) ?_ ?_; rotate_left; (· simp only [Act.put, List.setIfInBounds_toArray, List.set_cons_zero, List.set_cons_succ, i64_w, i32_w]; rfl))
        first | (refine seq_v (some 29) (v := ?_) (a' := ?_) rfl rfl (fun _ _ _ h => h) (Or.inl ⟨by rfl, ?_⟩) ?_ ?_; rotate_left 2; (· intro w'; go_simp; with_reducible rfl); (· simp only [Act.put, List.setIfInBounds_toArray, List.set_cons_zero, List.set_cons_succ, i64_w, i32_w]; rfl)) | (refine seq_v (some 29) (v := undef) (a' := ?_) rfl rfl (fun _ _ _ h => h) (Or.inr ⟨by rfl, rfl⟩) ?_ ?_; rotate_left; (· simp only [Act.put, List.setIfInBounds_toArray, List.set_cons_zero, List.set_cons_succ, i64_w, i32_w]; rfl))
        (refine seq_v (some 30) (v := ?_) (a' := ?_) rfl rfl (fun _ _ _ h => h) (Or.inl ⟨by rfl, ?_⟩) ?_ ?_; rotate_left 2; (· intro w'; go_simp; with_reducible rfl); (· simp only [Act.put, List.setIfInBounds_toArray, List.set_cons_zero, List.set_cons_succ, i64_w, i32_w]; rfl))
        refine seq_nil ?_
        clear hS x0 x1 x2 b0 b1
        have HB2 := Lib.hid (HB1.out.trans (hB2.mono HB1.out.size))
        have HX2 := Lib.hid Xd2
        have Hb2 := Lib.hid Hbd2
        have HN2 := Lib.hid (HP.out.1.below HB2.out)
        have HK2 := Lib.hid (HP.out.2.below HB2.out)
        clear Xd2 Hbd2 hB2 hok
        have hc := Hb2.out.cell 2 _ rfl
        have hfz := Hb2.out.frozen 2
        go_wp2_with fail
        refine (add_any w2 b (s.2.2 : Nat) hc hfz ⟨by omega, by omega⟩).mono ?_
        rintro e w3 ⟨rfl, hw3⟩
        have hI := HN2.out.lose ((s.2.2 : Nat) + 1)
        have hK3 := HK2.out.setCell (p := ⟨b, 2, none⟩) (fun _ => HFb.out) (.int .i64 ((s.2.2 : Nat) + 1))
        rw [← hw3] at hI hK3
        have HI3 := Lib.hid (show PutInv w w3 F b (s.1, s.2.1, s.2.2 + 1) r from ⟨hI.mono (fun k hk => hk.imp id (fun h => ⟨h.1, by rw [hw3]; simpa [World.setCell] using Nat.lt_of_lt_of_le h.2 HB2.out.size⟩)) (HFlt.out.ext hK3.size), hK3⟩)
        clear hc hfz hw3 hI hK3
        go_wp2_with fail
        go_roundw
        case rel => exact ⟨k + 1, (s.1, s.2.1, s.2.2 + 1), by omega, by go_num, rfl, Lib.hid (HNx.out.trans HST.out).symm, HI3⟩
        case measure => simp [intOf] <;> omega
      · have HST := Lib.hid (show putStep r s x = (s.1 ++ [x], s.2.1 + 1, s.2.2) by unfold putStep; rw [if_pos ⟨hok, by have := Hn3.out; omega⟩])
        have d0 : decide (r ≤ (n3 : Int)) = false := decide_eq_false hrm
        have hx2k := okI_len hok
        refine seq_start (fun w' => w'.cell? ⟨b, 0, none⟩ = some (.slice A3 n3 c3) ∧ w'.cell? ⟨b, 1, none⟩ = some (.int .i64 r) ∧ w'.cell? ⟨wr.heap.size, 0, none⟩ = some (.int .i64 x.f0) ∧ w'.cell? ⟨wr.heap.size, 1, none⟩ = some (.int .i64 x.f1) ∧ w'.cell? ⟨wr.heap.size, 2, none⟩ = some (.slice A2 x.f2.length c2)) [] [(0, 1), (1, 2), (2, 0), (3, 0), (4, 0), (5, 0), (6, 0), (7, 1), (8, 0), (9, 0), (10, 0), (11, 0), (12, 1), (13, 0), (14, 0)] (by kernel_rfl) (by kernel_rfl) ⟨b0, b1, x0, x1, x2⟩ ?_
        intro hS
        (refine seq_l (some 16) (v := ?_) (a' := ?_) rfl rfl (fun _ _ _ h => h) (by assumption) (Or.inl ⟨by rfl, ?_⟩) ?_ ?_; rotate_left 2; (· intro w' hS'; (try dsimp only at hS'); go_simp; with_reducible rfl); (· simp only [Act.put, List.setIfInBounds_toArray, List.set_cons_zero, List.set_cons_succ, i64_w, i32_w]; rfl))
        (refine seq_e rfl (by rfl) (fun K hK => ?_))
        go_simp
        refine (net_right.calls x.f0 x.f1 A2 c2 x.f2 _ _ (C_kp HC2.out HB1.out) hle (right_okI x)).mono ?_
        rintro e w2 ⟨rfl, hB2⟩
        rw [hok]
        have Xd2 := X1d.out.below hB2
        have Hbd2 := Hb1.out.below hB2
        refine hK _ _ ⟨Hbd2.cell 0 _ rfl, Hbd2.cell 1 _ rfl, Xd2.cell 0 _ rfl, Xd2.cell 1 _ rfl, Xd2.cell 2 _ rfl⟩ (fun hS => ?_)
        clear hK K hS
        have hS : w2.cell? ⟨b, 0, none⟩ = some (.slice A3 n3 c3) ∧ w2.cell? ⟨b, 1, none⟩ = some (.int .i64 r) ∧ w2.cell? ⟨wr.heap.size, 0, none⟩ = some (.int .i64 x.f0) ∧ w2.cell? ⟨wr.heap.size, 1, none⟩ = some (.int .i64 x.f1) ∧ w2.cell? ⟨wr.heap.size, 2, none⟩ = some (.slice A2 x.f2.length c2) := ⟨Hbd2.cell 0 _ rfl, Hbd2.cell 1 _ rfl, Xd2.cell 0 _ rfl, Xd2.cell 1 _ rfl, Xd2.cell 2 _ rfl⟩
        (refine seq_v (some 18) (v := ?_) (a' := ?_) rfl rfl (fun _ _ _ h => h) (Or.inl ⟨by rfl, ?_⟩) ?_ ?_; rotate_left 2; (· intro w'; go_simp; with_reducible rfl); (· simp only [Act.put, List.setIfInBounds_toArray, List.set_cons_zero, List.set_cons_succ, i64_w, i32_w]; rfl))
        (refine seq_v (some 19) (v := ?_) (a' := ?_) rfl rfl (fun _ _ _ h => h) (Or.inl ⟨by rfl, ?_⟩) ?_ ?_; rotate_left 2; (· intro w'; go_simp; with_reducible rfl); (· simp only [Act.put, List.setIfInBounds_toArray, List.set_cons_zero, List.set_cons_succ, i64_w, i32_w]; rfl))
        first | (refine seq_v (some 20) (v := ?_) (a' := ?_) rfl rfl (fun _ _ _ h => h) (Or.inl ⟨by rfl, ?_⟩) ?_ ?_; rotate_left 2; (· intro w'; go_simp; with_reducible rfl); (· simp only [Act.put, List.setIfInBounds_toArray, List.set_cons_zero, List.set_cons_succ, i64_w, i32_w]; rfl)) | (refine seq_v (some 20) (v := undef) (a' := ?_) rfl rfl (fun _ _ _ h => h) (Or.inr ⟨by rfl, rfl⟩) ?_ ?_; rotate_left; (· simp only [Act.put, List.setIfInBounds_toArray, List.set_cons_zero, List.set_cons_succ, i64_w, i32_w]; rfl))
        first | (refine seq_v (some 21) (v := ?_) (a' := ?_) rfl rfl (fun _ _ _ h => h) (Or.inl ⟨by rfl, ?_⟩) ?_ ?_; rotate_left 2; (· intro w'; go_simp; with_reducible rfl); (· simp only [Act.put, List.setIfInBounds_toArray, List.set_cons_zero, List.set_cons_succ, i64_w, i32_w]; rfl)) | (refine seq_v (some 21) (v := undef) (a' := ?_) rfl rfl (fun _ _ _ h => h) (Or.inr ⟨by rfl, rfl⟩) ?_ ?_; rotate_left; (· simp only [Act.put, List.setIfInBounds_toArray, List.set_cons_zero, List.set_cons_succ, i64_w, i32_w]; rfl))
        first | (refine seq_v (some 22) (v := ?_) (a' := ?_) rfl rfl (fun _ _ _ h => h) (Or.inl ⟨by rfl, ?_⟩) ?_ ?_; rotate_left 2; (· intro w'; go_simp; with_reducible rfl); (· simp only [Act.put, List.setIfInBounds_toArray, List.set_cons_zero, List.set_cons_succ, i64_w, i32_w]; rfl)) | (refine seq_v (some 22) (v := undef) (a' := ?_) rfl rfl (fun _ _ _ h => h) (Or.inr ⟨by rfl, rfl⟩) ?_ ?_; rotate_left; (· simp only [Act.put, List.setIfInBounds_toArray, List.set_cons_zero, List.set_cons_succ, i64_w, i32_w]; rfl))
        first | (refine seq_l (some 23) (v := ?_) (a' := ?_) rfl rfl (fun _ _ _ h => h) (by assumption) (Or.inl ⟨by rfl, ?_⟩) ?_ ?_; rotate_left 2; (· intro w' hS'; (try dsimp only at hS'); go_simp; with_reducible rfl); (· simp only [Act.put, List.setIfInBounds_toArray, List.set_cons_zero, List.set_cons_succ, i64_w, i32_w]; rfl)) | (refine seq_l (some 23) (v := undef) (a' := ?_) rfl rfl (fun _ _ _ h => h) (by assumption) (Or.inr ⟨by rfl, rfl⟩) ?_ ?_; rotate_left; (· simp only [Act.put, List.setIfInBounds_toArray, List.set_cons_zero, List.set_cons_succ, i64_w, i32_w]; rfl))
        first | (refine seq_v (some 24) (v := ?_) (a' := ?_) rfl rfl (fun _ _ _ h => h) (Or.inl ⟨by rfl, ?_⟩) ?_ ?_; rotate_left 2; (· intro w'; go_simp; with_reducible rfl); (· simp only [Act.put, List.setIfInBounds_toArray, List.set_cons_zero, List.set_cons_succ, i64_w, i32_w]; rfl)) | (refine seq_v (some 24) (v := undef) (a' := ?_) rfl rfl (fun _ _ _ h => h) (Or.inr ⟨by rfl, rfl⟩) ?_ ?_; rotate_left; (· simp only [Act.put, List.setIfInBounds_toArray, List.set_cons_zero, List.set_cons_succ, i64_w, i32_w]; rfl))
        first | (refine seq_v (some 25) (v := ?_) (a' := ?_) rfl rfl (fun _ _ _ h => h) (Or.inl ⟨by rfl, ?_⟩) ?_ ?_; rotate_left 2; (· intro w'; go_simp; with_reducible rfl); (· simp only [Act.put, List.setIfInBounds_toArray, List.set_cons_zero, List.set_cons_succ, i64_w, i32_w]; rfl)) | (refine seq_v (some 25) (v := undef) (a' := ?_) rfl rfl (fun _ _ _ h => h) (Or.inr ⟨by rfl, rfl⟩) ?_ ?_; rotate_left; (· simp only [Act.put, List.setIfInBounds_toArray, List.set_cons_zero, List.set_cons_succ, i64_w, i32_w]; rfl))
        first | (refine seq_v (some 26) (v := ?_) (a' := ?_) rfl rfl (fun _ _ _ h => h) (Or.inl ⟨by rfl, ?_⟩) ?_ ?_; rotate_left 2; (· intro w'; go_simp; with_reducible rfl); (· simp only [Act.put, List.setIfInBounds_toArray, List.set_cons_zero, List.set_cons_succ, i64_w, i32_w]; rfl)) | (refine seq_v (some 26) (v := undef) (a' := ?_) rfl rfl (fun _ _ _ h => h) (Or.inr ⟨by rfl, rfl⟩) ?_ ?_; rotate_left; (· simp only [Act.put, List.setIfInBounds_toArray, List.set_cons_zero, List.set_cons_succ, i64_w, i32_w]; rfl))
        first | (refine seq_v (some 27) (v := ?_) (a' := ?_) rfl rfl (fun _ _ _ h => h) (Or.inl ⟨by rfl, ?_⟩) ?_ ?_; rotate_left 2; (· intro w'; go_simp; with_reducible rfl); (· simp only [Act.put, List.setIfInBounds_toArray, List.set_cons_zero, List.set_cons_succ, i64_w, i32_w]; rfl)) | (refine seq_v (some 27) (v := undef) (a' := ?_) rfl rfl (fun _ _ _ h => h) (Or.inr ⟨by rfl, rfl⟩) ?_ ?_; rotate_left; (· simp only [Act.put, List.setIfInBounds_toArray, List.set_cons_zero, List.set_cons_succ, i64_w, i32_w]; rfl))
        first | (refine seq_l (some 28) (v := ?_) (a' := ?_) rfl rfl (fun _ _ _ h => h) (by assumption) (Or.inl ⟨by rfl, ?_⟩) ?_ ?_; rotate_left 2; (· intro w' hS'; (try dsimp only at hS'); go_simp; with_reducible rfl); (· simp only [Act.put, List.setIfInBounds_toArray, List.set_cons_zero, List.set_cons_succ, i64_w, i32_w]; rfl)) | (refine seq_l (some 28) (v := undef) (a' := ?_) rfl rfl (fun _ _ _ h => h) (by assumption) (Or.inr ⟨by rfl, rfl⟩) ?_ ?_; rotate_left; (· simp only [Act.put, List.setIfInBounds_toArray, List.set_cons_zero, List.set_cons_succ, i64_w, i32_w]; rfl))
        first | (refine seq_v (some 29) (v := ?_) (a' := ?_) rfl rfl (fun _ _ _ h => h) (Or.inl ⟨by rfl, ?_⟩) ?_ ?_; rotate_left 2; (· intro w'; go_simp; with_reducible rfl); (· simp only [Act.put, List.setIfInBounds_toArray, List.set_cons_zero, List.set_cons_succ, i64_w, i32_w]; rfl)) | (refine seq_v (some 29) (v := undef) (a' := ?_) rfl rfl (fun _ _ _ h => h) (Or.inr ⟨by rfl, rfl⟩) ?_ ?_; rotate_left; (· simp only [Act.put, List.setIfInBounds_toArray, List.set_cons_zero, List.set_cons_succ, i64_w, i32_w]; rfl))
        (refine seq_v (some 30) (v := ?_) (a' := ?_) rfl rfl (fun _ _ _ h => h) (Or.inl ⟨by rfl, ?_⟩) ?_ ?_; rotate_left 2; (· intro w'; go_simp; with_reducible rfl); (· simp only [Act.put, List.setIfInBounds_toArray, List.set_cons_zero, List.set_cons_succ, i64_w, i32_w]; rfl))
        refine seq_nil ?_
        clear hS x0 x1 x2 b0 b1
        have HB2 := Lib.hid (HB1.out.trans (hB2.mono HB1.out.size))
        have HX2 := Lib.hid Xd2
        have Hb2 := Lib.hid Hbd2
        have HN2 := Lib.hid (HP.out.1.below HB2.out)
        have HK2 := Lib.hid (HP.out.2.below HB2.out)
        clear Xd2 Hbd2 hB2 hok
        have hw2 : IntKind.i64.wrap (((s.2.1 : Nat) : Int) + 1) = ((s.2.1 : Nat) : Int) + 1 := IntWalk.i64_in _ (by omega)
        have hz2 : wr.heap.size < w2.heap.size := by have := HB2.out.size; have := HX2.out.lt; omega
        go_wp2_with fail
        refine seq_start (fun w' => w'.cell? ⟨b, 0, none⟩ = some (.slice A3 n3 c3) ∧ w'.cell? ⟨wr.heap.size, 0, none⟩ = some (.int .i64 x.f0) ∧ w'.cell? ⟨wr.heap.size, 1, none⟩ = some (.int .i64 x.f1) ∧ w'.cell? ⟨wr.heap.size, 2, none⟩ = some (.slice A2 x.f2.length c2)) [11] [(0, 0), (1, 0), (2, 0), (3, 0), (4, 1), (5, 1), (6, 2), (7, 2), (8, 2), (9, 0), (10, 0), (11, 3)] (by kernel_rfl) (by kernel_rfl) ⟨Hb2.out.cell 0 _ rfl, HX2.out.cell 0 _ rfl, HX2.out.cell 1 _ rfl, HX2.out.cell 2 _ rfl⟩ ?_
        intro hS
        (refine seq_v (some 35) (v := ?_) (a' := ?_) rfl rfl (fun _ _ _ h => h) (Or.inl ⟨by rfl, ?_⟩) ?_ ?_; rotate_left 2; (· intro w'; go_simp; with_reducible rfl); (· simp only [Act.put, List.setIfInBounds_toArray, List.set_cons_zero, List.set_cons_succ, i64_w, i32_w]; rfl))
        (refine seq_v (some 36) (v := ?_) (a' := ?_) rfl rfl (fun _ _ _ h => h) (Or.inl ⟨by rfl, ?_⟩) ?_ ?_; rotate_left 2; (· intro w'; go_simp; with_reducible rfl); (· simp only [Act.put, List.setIfInBounds_toArray, List.set_cons_zero, List.set_cons_succ, i64_w, i32_w]; rfl))
        (refine seq_v (some 37) (v := ?_) (a' := ?_) rfl rfl (fun _ _ _ h => h) (Or.inl ⟨by rfl, ?_⟩) ?_ ?_; rotate_left 2; (· intro w'; go_simp; with_reducible rfl); (· simp only [Act.put, List.setIfInBounds_toArray, List.set_cons_zero, List.set_cons_succ, i64_w, i32_w]; rfl))
        (refine seq_v (some 38) (v := ?_) (a' := ?_) rfl rfl (fun _ _ _ h => h) (Or.inl ⟨by rfl, ?_⟩) ?_ ?_; rotate_left 2; (· intro w'; go_simp; with_reducible rfl); (· simp only [Act.put, List.setIfInBounds_toArray, List.set_cons_zero, List.set_cons_succ, i64_w, i32_w]; rfl))
        (refine seq_l (some 39) (v := ?_) (a' := ?_) rfl rfl (fun _ _ _ h => h) (by assumption) (Or.inl ⟨by rfl, ?_⟩) ?_ ?_; rotate_left 2; (· intro w' hS'; (try dsimp only at hS'); go_simp; with_reducible rfl); (· simp only [Act.put, List.setIfInBounds_toArray, List.set_cons_zero, List.set_cons_succ, i64_w, i32_w]; rfl))
        (refine seq_l (some 40) (v := ?_) (a' := ?_) rfl rfl (fun _ _ _ h => h) (by assumption) (Or.inl ⟨by rfl, ?_⟩) ?_ ?_; rotate_left 2; (· intro w' hS'; (try dsimp only at hS'); go_simp; with_reducible rfl); (· simp only [Act.put, List.setIfInBounds_toArray, List.set_cons_zero, List.set_cons_succ, i64_w, i32_w]; rfl))
        (refine seq_e rfl (by rfl) (fun K hK => ?_))
        go_simp
        refine (own_any w2.drew x A2 x.f2.length c2 (C_kp HC2.out (HB2.out.trans (below_drew (Below.refl _ _)))) (by omega)).mono ?_
        rintro e w3 ⟨v, rfl, u, rfl, hR4, hB4⟩
        obtain ⟨A4, k4, rfl⟩ := Kd.R_slice hR4
        have hb3 := Hb2.out.drew.below hB4
        have hx3 := HX2.out.drew.below hB4
        refine hK _ _ ⟨hb3.cell 0 _ rfl, hx3.cell 0 _ rfl, hx3.cell 1 _ rfl, hx3.cell 2 _ rfl⟩ (fun hS => ?_)
        clear hK K
        have HR4 := Lib.hid hR4
        have HB4 := Lib.hid hB4
        have Hb3 := Lib.hid hb3
        have HX3 := Lib.hid hx3
        have hz3 : w2.heap.size ≤ w3.heap.size := hB4.size
        clear hR4 hB4 hb3 hx3

        (refine seq_e rfl (by rfl) (fun K hK => ?_))
        go_simp
        have hb5 := Hb3.out.alloc (.cells #[.int .i64 x.f0, .int .i64 x.f1, .slice A4 x.f2.length k4] 40)
        have hx5 := HX3.out.alloc (.cells #[.int .i64 x.f0, .int .i64 x.f1, .slice A4 x.f2.length k4] 40)
        refine hK _ _ ⟨hb5.cell 0 _ rfl, hx5.cell 0 _ rfl, hx5.cell 1 _ rfl, hx5.cell 2 _ rfl⟩ (fun hS => ?_)
        clear hK K hb5 hx5

        (refine seq_e rfl (by rfl) (fun K hK => ?_))
        have hFlt := HFlt.out
        have hB43 : Below wr.heap.size wr w3 := (HB2.out.trans (below_drew (Below.refl _ _))).trans (HB4.out.mono HB2.out.size)
        have hRw := Kd.R_below HR3.out hB43
        have hpM := k40_mkM w3 0 (fun k => w2.heap.size ≤ k ∧ k < w3.heap.size) x (Kd.R_lower (Kd.R_mono (Kd.R_bound HR4.out) (fun k hk => ⟨hk.2.1, hk.2.2.1⟩)) (Nat.zero_le _))
        refine op_appG (some 43) (by rfl) (by rfl) k40 (W := w3) (G := fun k => ext F w wr k ∧ k ≠ b) _ _ 34 40 _ 40 (by rfl) Try.underlying34 N_info40 (by rfl) (by decide) (by decide) (by rfl) (by rfl) hpM (fun k hk he => by
          rcases (hRw.1 k he.symm).1 with h | h
          · have := hFlt k h; omega
          · omega) hRw (by have := Hn3.out; omega) ?_
        intro A5 n5 c5 w4 hn5 hR5 hK5 hG5
        have hb6 := Hb3.out.kp hK5 (by simp)
        have hx6 := HX3.out.kp hK5 (fun h => by
          rcases h.1 with h | h
          · have := hFlt _ h; omega
          · omega)
        refine hK _ _ ⟨hb6.cell 0 _ rfl, hx6.cell 0 _ rfl, hx6.cell 1 _ rfl, hx6.cell 2 _ rfl⟩ (fun hS => ?_)
        clear hK K
        have f6 := hb6.frozen 0
        have c6 := hb6.cell 0 _ rfl
        have Hb6 := Lib.hid hb6
        have HR5 := Lib.hid hR5
        have HK5 := Lib.hid hK5
        have HB43 := Lib.hid hB43
        clear hb6 hx6 hR5 hK5 hG5 hn5 hpM hFlt hRw hB43
        (refine seq_v (some 44) (v := ?_) (a' := ?_) rfl rfl (fun _ _ _ h => h) (Or.inl ⟨by rfl, ?_⟩) ?_ ?_; rotate_left 2; (· intro w'; go_simp; with_reducible rfl); (· simp only [Act.put, List.setIfInBounds_toArray, List.set_cons_zero, List.set_cons_succ, i64_w, i32_w]; rfl))
        (refine seq_v (some 45) (v := ?_) (a' := ?_) rfl rfl (fun _ _ _ h => h) (Or.inl ⟨by rfl, ?_⟩) ?_ ?_; rotate_left 2; (· intro w'; go_simp; with_reducible rfl); (· simp only [Act.put, List.setIfInBounds_toArray, List.set_cons_zero, List.set_cons_succ, i64_w, i32_w]; rfl))
        (refine seq_d rfl (by rfl) (fun K hK => ?_))
        go_simp
        refine hK _ _ ?_
        clear hK K hS
        refine seq_nil ?_
        clear f6 c6
        have hKw : Kp F w w4 := (HP.out.2.below HB43.out).trans HK5.out (fun k hk h => by
          rcases h.1 with h | h
          · exact h
          · omega)
        have hsz3 := HK5.out.size
        have hN := NtAt.put (F := ext F w w4) (.inl HFb.out) (HFlt.out.ext hKw.size) Hb6.out (Kd.R_mono HR5.out (fun k hk => by
          rcases hk with (hk | hk) | hk
          · exact ⟨hk.1.imp id (fun h => ⟨h.1, by omega⟩), hk.2⟩
          · exact ⟨.inr ⟨by omega, by omega⟩, by omega⟩
          · exact ⟨.inr ⟨by omega, hk.2⟩, by omega⟩))
        have hKf := hKw.setCell (p := ⟨b, 0, none⟩) (fun _ => HFb.out) (.slice A5 n5 c5)
        have HI3 := Lib.hid (show PutInv w (w4.setCell ⟨b, 0, none⟩ (.slice A5 n5 c5)) F b (s.1 ++ [x], s.2.1 + 1, s.2.2) r from ⟨hN.mono (fun k hk => hk.imp id (fun h => ⟨h.1, by simpa [World.setCell] using h.2⟩)) (HFlt.out.ext hKf.size), hKf⟩)
        clear hN hKf hKw hsz3
        go_wp2_with fail
        go_roundw
        case rel => exact ⟨k + 1, (s.1 ++ [x], s.2.1 + 1, s.2.2), by omega, by go_num, by go_num, Lib.hid (HNx.out.trans HST.out).symm, HI3⟩
        case measure => simp [intOf] <;> omega
    · have hkm : k = m := by omega
      subst hkm
      have hfin : s = putAll r (xs, 0, q) l := by rw [HS.out, List.take_of_length_le (by have := Hl.out; omega)]
      have HFin := Lib.hid hfin
      clear hfin
      go_wp2_with fail
      go_ret
      rw [← HFin.out]
      exact ⟨rfl, HP.out.1, HP.out.2⟩
end Go.Proofs.Ytnphlghiicbjjaa
