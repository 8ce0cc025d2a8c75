/- rutterlaw18.NetPlays: the law's walk. -/
import Derived.Test.YtnphlghiicbjjaaN20
namespace Go.Proofs.Ytnphlghiicbjjaa
open Go Go.RowKit Go.Proofs.YtnphlghiicbjjaaW.PrintWords Go.Proofs.YtnphlghiicbjjaaW.PrintLast Go.Proofs.Ytnphlghiicbjjaa.PNetPlays
set_option linter.unusedVariables false
set_option linter.unusedSimpArgs false

def LawPost (w : World) (e : Ending) (w' : World) : Prop := e = .returned (.bool true) ∧ Below w.heap.size w w'
/-- What the loop knows. -/
def NInv (O : Nat → Prop) (w wr : World) (b mb : Nat) (xs : List S40) (r : Int) (q : Nat) : Prop := Both O wr b mb xs r q ∧ OkS xs ∧ (xs.length : Int) ≤ r ∧ KpO O w wr
def Kind8 (l : List S36) : Prop := ∀ a, a ∈ l → 0 ≤ a.f0 ∧ a.f0 ≤ 255
theorem tot_get (l : List S36) (k : Nat) (hk : k < l.length) : tot (l.take (k + 1)) = tot (l.take k) + l[k].f1.length ∧ tot (l.take (k + 1)) ≤ tot l := by
  refine ⟨?_, ?_⟩
  · rw [List.take_succ_eq_append_getElem hk]
    unfold tot
    rw [List.map_append, List.sum_append]
    simp only [List.map_cons, List.map_nil, List.sum_cons, List.sum_nil, Nat.add_zero]
  · conv => rhs; rw [← List.take_append_drop (k + 1) l]
    simp only [tot, List.map_append, List.sum_append]
    omega

set_option maxRecDepth 10000 in
set_option maxHeartbeats 4000000 in
theorem netPlays_any (w : World) (r : Int) (A : Option Addr) (m c : Nat) (l : List S36) (hC : k36.C w A m l) (hc : m ≤ c) (hK : Kind8 l) :
    Calls Try.prog 3 #[.int .i64 r, .slice A m c] w (LawPost w) := by
  obtain rfl : l.length = m := hC.1
  have HC := Lib.hid hC
  have HK8 := Lib.hid hK
  clear hC hK
  go_enter Try.func3, Try.ntmps3
  go_wp2_with fail
  refine (fits_any w A c l HC.out hc).mono ?_
  rintro e wa ⟨ok, rfl, hok, hBa⟩
  have Hok := Lib.hid hok
  have HBa := Lib.hid hBa
  clear hok hBa
  cases ok with
  | false =>
    go_wp2_with fail
    refine (alive_any wa).mono ?_
    rintro e w1 ⟨rfl, hb⟩
    have HB := Lib.hid (HBa.out.trans (hb.mono HBa.out.size))
    clear hb
    go_wp2_with fail
    go_ret
    exact ⟨rfl, HB.out⟩
  | true =>
    obtain ⟨hlen, htot, hsz⟩ := Hok.out rfl
    have HS := Lib.hid hsz
    clear hsz
    by_cases hr : r < 0 ∨ 4096 < r
    · go_wp2_with fail
      refine (newnt_bad wa r hr).mono ?_
      rintro e w1 ⟨rfl, hw1⟩
      subst hw1
      have hrr : (r < 0) ∨ (¬ r < 0 ∧ 4096 < r) := by omega
      rcases hrr with h | ⟨h, h'⟩
      · have d0 : decide (r < 0) = true := decide_eq_true h
        clear hr
        go_wp2_with fail
        refine (alive_any _).mono ?_
        rintro e w1 ⟨rfl, hb⟩
        have HB := Lib.hid (HBa.out.trans (hb.mono HBa.out.size))
        clear hb
        go_wp2_with fail
        go_ret
        exact ⟨rfl, HB.out⟩
      · have d0 : decide (r < 0) = false := decide_eq_false h
        have d1 : decide (4096 < r) = true := decide_eq_true h'
        clear hr
        go_wp2_with fail
        refine (alive_any _).mono ?_
        rintro e w1 ⟨rfl, hb⟩
        have HB := Lib.hid (HBa.out.trans (hb.mono HBa.out.size))
        clear hb
        go_wp2_with fail
        go_ret
        exact ⟨rfl, HB.out⟩
    · have hr0 : 0 ≤ r := by omega
      have hr1 : r ≤ 4096 := by omega
      have d0 : decide (r < 0) = false := decide_eq_false (by omega)
      have d1 : decide (4096 < r) = false := decide_eq_false (by omega)
      clear hr
      go_wp2_with fail
      refine (newnt_any wa r hr0 hr1).mono ?_
      rintro e w1 ⟨b, rfl, hN, hB1⟩
      have HO := Lib.hid (one_new (P := PN b [] r 0) hB1 hN)
      have HB1 := Lib.hid hB1
      clear hN hB1
      go_wp2_with fail
      have hB2 : Below w1.heap.size w1 (w1.alloc (.cells #[.slice none 0 0, .int .i64 r, .int .i64 0] 32)) := below_alloc (Below.refl _ _) _
      have hQ2 : QN w1.heap.size [] r 0 (w1.alloc (.cells #[.slice none 0 0, .int .i64 r, .int .i64 0] 32)) (ext (fun _ => False) w1 (w1.alloc (.cells #[.slice none 0 0, .int .i64 r, .int .i64 0] 32))) := ⟨.inr ⟨Nat.le_refl _, by simp⟩, (Bd.no w1).ext (by simp), _, _, _, Blk.new w1 32 [.slice none 0 0, .int .i64 r, .int .i64 0], Kd.R_nil _ _ _ _ _⟩
      have HI := Lib.hid (show NInv (fun k => k < wa.heap.size) w1 _ b w1.heap.size [] r 0 from ⟨One.two PN.stands HO.out hB2 hQ2, (fun x hx => by cases hx), by simpa using hr0, KpO.of_below hB2⟩)
      clear hB2 hQ2
      generalize w1.heap.size = mb at HI ⊢
      generalize w1.alloc (.cells #[.slice none 0 0, .int .i64 r, .int .i64 0] 32) = w2 at HI ⊢
      go_loopw [9] (fun v9 wr => ∃ (k q : Nat) (xs : List S40), k ≤ l.length ∧ v9 = .int .i64 k ∧ q ≤ tot (l.take k) ∧ Hid (NInv (fun k => k < wa.heap.size) w1 wr b mb xs r q)) (fun v9 _ => l.length - (intOf v9).toNat)
      case atStart => exact ⟨0, 0, [], Nat.zero_le _, rfl, Nat.zero_le _, HI⟩
      case round =>
        obtain ⟨k, q, xs, hk, rfl, hq, HP⟩ := hrel
        by_cases hlt : k < l.length
        · have hw1 : IntKind.i64.wrap ((k : Int) + 1) = (k : Int) + 1 := IntWalk.i64_in _ (by omega)
          obtain ⟨hT1, hT2⟩ := tot_get l k hlt
          have hBr : Below wa.heap.size wa wr := HB1.out.trans (KpO.below HP.out.2.2.2 HB1.out.size (fun k hk => hk))
          have hCa := C_kp HC.out HBa.out
          obtain ⟨ad, A1, c1, rfl, e0, e1, e2, hle, hC1⟩ := at_T36 hCa (k : Int) (by omega) (by omega)
          rw [Int.toNat_natCast] at e0 e1 e2
          have hrd : rd_T36 l (k : Int) = l[k] := rd36 l k hlt
          rw [hrd] at e0 e1 e2 hle hC1
          have hmem : l[k] ∈ l := List.getElem_mem hlt
          obtain ⟨hk0, hk1⟩ := HK8.out _ hmem
          have hC0 : ∀ w', KpO (fun k => k < wa.heap.size) wr w' → k40.C w' A1 l[k].f1.length l[k].f1 := fun w' hK => C_kp hC1 (hBr.trans (KpO.below hK hBr.size (fun k hk => hk)))
          generalize l[k] = a at *
          have E0 := cell_old hBr e0
          have E1 := cell_old hBr e1
          have E2 := cell_old hBr e2
          have HC0 := Lib.hid hC0
          have HT1 := Lib.hid hT1
          have hact := actN_ok r xs q a HP.out.2.1 HP.out.2.2.1
          have Hact := Lib.hid hact
          have hxl : xs.length ≤ 100000 := by have := HP.out.2.2.1; omega
          have hal : a.f1.length ≤ 100 := by omega
          have hql : q ≤ 100 := by omega
          clear hC0 hT1 hact hBr hCa e0 e1 e2 hC1 hrd
          go_wp2_with fail
          refine (step_any _ wr b mb xs r q HP.out.1 HP.out.2.1 hxl a A1 c1 hk0 hk1 HC0.out (by omega) (by omega)).mono ?_
          generalize hs : actN r xs q a = s at Hact
          rintro e w3 ⟨rfl, hB3, hK3⟩
          have HI3 := Lib.hid (show NInv (fun k => k < wa.heap.size) w1 w3 b mb s.1 r s.2 from ⟨hB3, Hact.out.1, Hact.out.2.1, HP.out.2.2.2.trans hK3⟩)
          have hq3 := Hact.out.2.2
          clear hB3 hK3 hs E0 E1 E2
          go_wp2_with fail
          obtain ⟨Am, cm, m0, m2⟩ := two_rcells HI3.out.1
          have HI4 := Lib.hid (show NInv (fun k => k < wa.heap.size) w1 w3.drew b mb s.1 r s.2 from ⟨Two.below PN.stands QN.stands HI3.out.1 (below_drew (Below.refl _ _)), HI3.out.2.1, HI3.out.2.2.1, HI3.out.2.2.2.trans (KpO.of_below (below_drew (Below.refl _ _)))⟩)
          refine seq_start (fun w' => w' = w3.drew ∧ w'.cell? ⟨mb, 0, none⟩ = some (.slice Am s.1.length cm) ∧ w'.cell? ⟨mb, 2, none⟩ = some (.int .i64 (s.2 : Nat))) [] [(0, 0), (1, 0), (2, 0), (3, 0), (5, 0), (6, 0), (7, 0), (8, 1), (9, 0), (4, 2), (10, 0), (11, 0), (12, 0), (13, 0), (15, 0), (16, 0), (17, 0), (18, 1), (14, 2), (19, 0), (20, 0)] (by kernel_rfl) (by kernel_rfl) ⟨rfl, m0, m2⟩ ?_
          intro hS
          (refine seq_v (some 63) (v := ?_) (a' := ?_) rfl rfl (fun _ _ _ h => h) (Or.inl ⟨by rfl, ?_⟩) ?_ ?_; rotate_left 2; (· intro w'; go_simp; with_reducible rfl); (· simp only [Act.put, List.setIfInBounds_toArray, List.set_cons_zero, List.set_cons_succ, i64_w, i32_w]; rfl))
          (refine seq_v (some 64) (v := ?_) (a' := ?_) rfl rfl (fun _ _ _ h => h) (Or.inl ⟨by rfl, ?_⟩) ?_ ?_; rotate_left 2; (· intro w'; go_simp; with_reducible rfl); (· simp only [Act.put, List.setIfInBounds_toArray, List.set_cons_zero, List.set_cons_succ, i64_w, i32_w]; rfl))
          (refine seq_v (some 65) (v := ?_) (a' := ?_) rfl rfl (fun _ _ _ h => h) (Or.inl ⟨by rfl, ?_⟩) ?_ ?_; rotate_left 2; (· intro w'; go_simp; with_reducible rfl); (· simp only [Act.put, List.setIfInBounds_toArray, List.set_cons_zero, List.set_cons_succ, i64_w, i32_w]; rfl))
          first | (refine seq_v (some 66) (v := ?_) (a' := ?_) rfl rfl (fun _ _ _ h => h) (Or.inl ⟨by rfl, ?_⟩) ?_ ?_; rotate_left 2; (· intro w'; go_simp; with_reducible rfl); (· simp only [Act.put, List.setIfInBounds_toArray, List.set_cons_zero, List.set_cons_succ, i64_w, i32_w]; rfl)) | (refine seq_v (some 66) (v := undef) (a' := ?_) rfl rfl (fun _ _ _ h => h) (Or.inr ⟨by rfl, rfl⟩) ?_ ?_; rotate_left; (· simp only [Act.put, List.setIfInBounds_toArray, List.set_cons_zero, List.set_cons_succ, i64_w, i32_w]; rfl))
          first | (refine seq_v (some 68) (v := ?_) (a' := ?_) rfl rfl (fun _ _ _ h => h) (Or.inl ⟨by rfl, ?_⟩) ?_ ?_; rotate_left 2; (· intro w'; go_simp; with_reducible rfl); (· simp only [Act.put, List.setIfInBounds_toArray, List.set_cons_zero, List.set_cons_succ, i64_w, i32_w]; rfl)) | (refine seq_v (some 68) (v := undef) (a' := ?_) rfl rfl (fun _ _ _ h => h) (Or.inr ⟨by rfl, rfl⟩) ?_ ?_; rotate_left; (· simp only [Act.put, List.setIfInBounds_toArray, List.set_cons_zero, List.set_cons_succ, i64_w, i32_w]; rfl))
          first | (refine seq_v (some 69) (v := ?_) (a' := ?_) rfl rfl (fun _ _ _ h => h) (Or.inl ⟨by rfl, ?_⟩) ?_ ?_; rotate_left 2; (· intro w'; go_simp; with_reducible rfl); (· simp only [Act.put, List.setIfInBounds_toArray, List.set_cons_zero, List.set_cons_succ, i64_w, i32_w]; rfl)) | (refine seq_v (some 69) (v := undef) (a' := ?_) rfl rfl (fun _ _ _ h => h) (Or.inr ⟨by rfl, rfl⟩) ?_ ?_; rotate_left; (· simp only [Act.put, List.setIfInBounds_toArray, List.set_cons_zero, List.set_cons_succ, i64_w, i32_w]; rfl))
          first | (refine seq_v (some 70) (v := ?_) (a' := ?_) rfl rfl (fun _ _ _ h => h) (Or.inl ⟨by rfl, ?_⟩) ?_ ?_; rotate_left 2; (· intro w'; go_simp; with_reducible rfl); (· simp only [Act.put, List.setIfInBounds_toArray, List.set_cons_zero, List.set_cons_succ, i64_w, i32_w]; rfl)) | (refine seq_v (some 70) (v := undef) (a' := ?_) rfl rfl (fun _ _ _ h => h) (Or.inr ⟨by rfl, rfl⟩) ?_ ?_; rotate_left; (· simp only [Act.put, List.setIfInBounds_toArray, List.set_cons_zero, List.set_cons_succ, i64_w, i32_w]; rfl))
          first | (refine seq_l (some 71) (v := ?_) (a' := ?_) rfl rfl (fun _ _ _ h => h) (by assumption) (Or.inl ⟨by rfl, ?_⟩) ?_ ?_; rotate_left 2; (· intro w' hS'; (try dsimp only at hS'); go_simp; with_reducible rfl); (· simp only [Act.put, List.setIfInBounds_toArray, List.set_cons_zero, List.set_cons_succ, i64_w, i32_w]; rfl)) | (refine seq_l (some 71) (v := undef) (a' := ?_) rfl rfl (fun _ _ _ h => h) (by assumption) (Or.inr ⟨by rfl, rfl⟩) ?_ ?_; rotate_left; (· simp only [Act.put, List.setIfInBounds_toArray, List.set_cons_zero, List.set_cons_succ, i64_w, i32_w]; rfl))
          first | (refine seq_v (some 72) (v := ?_) (a' := ?_) rfl rfl (fun _ _ _ h => h) (Or.inl ⟨by rfl, ?_⟩) ?_ ?_; rotate_left 2; (· intro w'; go_simp; with_reducible rfl); (· simp only [Act.put, List.setIfInBounds_toArray, List.set_cons_zero, List.set_cons_succ, i64_w, i32_w]; rfl)) | (refine seq_v (some 72) (v := undef) (a' := ?_) rfl rfl (fun _ _ _ h => h) (Or.inr ⟨by rfl, rfl⟩) ?_ ?_; rotate_left; (· simp only [Act.put, List.setIfInBounds_toArray, List.set_cons_zero, List.set_cons_succ, i64_w, i32_w]; rfl))
          (refine seq_e rfl (by rfl) (fun K hK => ?_))
          go_simp
          refine (two_len HI4.out.1).mono ?_
          rintro e w4 ⟨rfl, hw4⟩
          refine hK _ _ ⟨hw4, by rw [hw4]; exact m0, by rw [hw4]; exact m2⟩ (fun hS => ?_)
          clear hK K
          subst hw4
          first | (refine seq_v (some 73) (v := ?_) (a' := ?_) rfl rfl (fun _ _ _ h => h) (Or.inl ⟨by rfl, ?_⟩) ?_ ?_; rotate_left 2; (· intro w'; go_simp; with_reducible rfl); (· simp only [Act.put, List.setIfInBounds_toArray, List.set_cons_zero, List.set_cons_succ, i64_w, i32_w]; rfl)) | (refine seq_v (some 73) (v := undef) (a' := ?_) rfl rfl (fun _ _ _ h => h) (Or.inr ⟨by rfl, rfl⟩) ?_ ?_; rotate_left; (· simp only [Act.put, List.setIfInBounds_toArray, List.set_cons_zero, List.set_cons_succ, i64_w, i32_w]; rfl))
          (refine seq_v (some 74) (v := ?_) (a' := ?_) rfl rfl (fun _ _ _ h => h) (Or.inl ⟨by rfl, ?_⟩) ?_ ?_; rotate_left 2; (· intro w'; go_simp; with_reducible rfl); (· simp only [Act.put, List.setIfInBounds_toArray, List.set_cons_zero, List.set_cons_succ, i64_w, i32_w]; rfl))
          (refine seq_v (some 75) (v := ?_) (a' := ?_) rfl rfl (fun _ _ _ h => h) (Or.inl ⟨by rfl, ?_⟩) ?_ ?_; rotate_left 2; (· intro w'; go_simp; with_reducible rfl); (· simp only [Act.put, List.setIfInBounds_toArray, List.set_cons_zero, List.set_cons_succ, i64_w, i32_w]; rfl))
          first | (refine seq_v (some 76) (v := ?_) (a' := ?_) rfl rfl (fun _ _ _ h => h) (Or.inl ⟨by rfl, ?_⟩) ?_ ?_; rotate_left 2; (· intro w'; go_simp; with_reducible rfl); (· simp only [Act.put, List.setIfInBounds_toArray, List.set_cons_zero, List.set_cons_succ, i64_w, i32_w]; rfl)) | (refine seq_v (some 76) (v := undef) (a' := ?_) rfl rfl (fun _ _ _ h => h) (Or.inr ⟨by rfl, rfl⟩) ?_ ?_; rotate_left; (· simp only [Act.put, List.setIfInBounds_toArray, List.set_cons_zero, List.set_cons_succ, i64_w, i32_w]; rfl))
          first | (refine seq_v (some 78) (v := ?_) (a' := ?_) rfl rfl (fun _ _ _ h => h) (Or.inl ⟨by rfl, ?_⟩) ?_ ?_; rotate_left 2; (· intro w'; go_simp; with_reducible rfl); (· simp only [Act.put, List.setIfInBounds_toArray, List.set_cons_zero, List.set_cons_succ, i64_w, i32_w]; rfl)) | (refine seq_v (some 78) (v := undef) (a' := ?_) rfl rfl (fun _ _ _ h => h) (Or.inr ⟨by rfl, rfl⟩) ?_ ?_; rotate_left; (· simp only [Act.put, List.setIfInBounds_toArray, List.set_cons_zero, List.set_cons_succ, i64_w, i32_w]; rfl))
          first | (refine seq_v (some 79) (v := ?_) (a' := ?_) rfl rfl (fun _ _ _ h => h) (Or.inl ⟨by rfl, ?_⟩) ?_ ?_; rotate_left 2; (· intro w'; go_simp; with_reducible rfl); (· simp only [Act.put, List.setIfInBounds_toArray, List.set_cons_zero, List.set_cons_succ, i64_w, i32_w]; rfl)) | (refine seq_v (some 79) (v := undef) (a' := ?_) rfl rfl (fun _ _ _ h => h) (Or.inr ⟨by rfl, rfl⟩) ?_ ?_; rotate_left; (· simp only [Act.put, List.setIfInBounds_toArray, List.set_cons_zero, List.set_cons_succ, i64_w, i32_w]; rfl))
          first | (refine seq_v (some 80) (v := ?_) (a' := ?_) rfl rfl (fun _ _ _ h => h) (Or.inl ⟨by rfl, ?_⟩) ?_ ?_; rotate_left 2; (· intro w'; go_simp; with_reducible rfl); (· simp only [Act.put, List.setIfInBounds_toArray, List.set_cons_zero, List.set_cons_succ, i64_w, i32_w]; rfl)) | (refine seq_v (some 80) (v := undef) (a' := ?_) rfl rfl (fun _ _ _ h => h) (Or.inr ⟨by rfl, rfl⟩) ?_ ?_; rotate_left; (· simp only [Act.put, List.setIfInBounds_toArray, List.set_cons_zero, List.set_cons_succ, i64_w, i32_w]; rfl))
          first | (refine seq_l (some 81) (v := ?_) (a' := ?_) rfl rfl (fun _ _ _ h => h) (by assumption) (Or.inl ⟨by rfl, ?_⟩) ?_ ?_; rotate_left 2; (· intro w' hS'; (try dsimp only at hS'); go_simp; with_reducible rfl); (· simp only [Act.put, List.setIfInBounds_toArray, List.set_cons_zero, List.set_cons_succ, i64_w, i32_w]; rfl)) | (refine seq_l (some 81) (v := undef) (a' := ?_) rfl rfl (fun _ _ _ h => h) (by assumption) (Or.inr ⟨by rfl, rfl⟩) ?_ ?_; rotate_left; (· simp only [Act.put, List.setIfInBounds_toArray, List.set_cons_zero, List.set_cons_succ, i64_w, i32_w]; rfl))
          (refine seq_e rfl (by rfl) (fun K hK => ?_))
          go_simp
          refine (two_lost HI4.out.1 (by omega)).mono ?_
          rintro e w5 ⟨rfl, hw5⟩
          refine hK _ _ ⟨hw5, by rw [hw5]; exact m0, by rw [hw5]; exact m2⟩ (fun hS => ?_)
          clear hK K
          subst hw5
          first | (refine seq_v (some 82) (v := ?_) (a' := ?_) rfl rfl (fun _ _ _ h => h) (Or.inl ⟨by rfl, ?_⟩) ?_ ?_; rotate_left 2; (· intro w'; go_simp; with_reducible rfl); (· simp only [Act.put, List.setIfInBounds_toArray, List.set_cons_zero, List.set_cons_succ, i64_w, i32_w]; rfl)) | (refine seq_v (some 82) (v := undef) (a' := ?_) rfl rfl (fun _ _ _ h => h) (Or.inr ⟨by rfl, rfl⟩) ?_ ?_; rotate_left; (· simp only [Act.put, List.setIfInBounds_toArray, List.set_cons_zero, List.set_cons_succ, i64_w, i32_w]; rfl))
          (refine seq_v (some 83) (v := ?_) (a' := ?_) rfl rfl (fun _ _ _ h => h) (Or.inl ⟨by rfl, ?_⟩) ?_ ?_; rotate_left 2; (· intro w'; go_simp; with_reducible rfl); (· simp only [Act.put, List.setIfInBounds_toArray, List.set_cons_zero, List.set_cons_succ, i64_w, i32_w]; rfl))
          refine seq_nil ?_
          clear hS m0 m2
          go_wp2_with fail
          go_roundw
          case rel => exact ⟨k + 1, s.2, s.1, by omega, by go_num, by have := HT1.out; omega, HI4⟩
          case measure => simp [intOf] <;> omega
        · have hkm : k = l.length := by omega
          have HBw := Lib.hid (show Below w.heap.size w wr from (HBa.out.trans (HB1.out.mono HBa.out.size)).trans (KpO.below HP.out.2.2.2 (by have := HBa.out.size; have := HB1.out.size; omega) (fun k hk => by have := HBa.out.size; show k < wa.heap.size; omega)))
          clear HP
          go_wp2_with fail
          refine (at_nil wr 0).mono ?_
          rintro e w3 ⟨rfl, hB3⟩
          have HB3 := Lib.hid (below_alloc (HBw.out.trans (hB3.mono HBw.out.size)) (.cells #[.int .i64 0, .int .i64 0, .slice none 0 0] 40))
          clear hB3
          go_wp2_with fail
          refine (take_nil _ 0).mono ?_
          rintro e w4 ⟨rfl, hB4⟩
          have HB4 := Lib.hid (HB3.out.trans (hB4.mono HB3.out.size))
          have HB4a := Lib.hid (below_alloc HB4.out (.cells #[.int .i64 0, .int .i64 0, .slice none 0 0] 40))
          clear hB4
          go_wp2_with fail
          refine (alive_any _).mono ?_
          rintro e w5 ⟨rfl, hB5⟩
          have HB5 := Lib.hid (HB4a.out.trans (hB5.mono HB4a.out.size))
          clear hB5
          go_wp2_with fail
          refine (dbl_nil _ 0).mono ?_
          rintro e w6 ⟨rfl, hB6⟩
          have HB6 := Lib.hid (HB5.out.trans (hB6.mono HB5.out.size))
          clear hB6
          go_wp2_with fail
          refine (find_nil _ 0 0).mono ?_
          rintro e w7 ⟨rfl, hB7⟩
          have HB7 := Lib.hid (HB6.out.trans (hB7.mono HB6.out.size))
          clear hB7
          go_wp2_with fail
          have HB8 := Lib.hid (below_alloc HB7.out (.cells #[.int .i64 0, .int .i64 0, .slice none 0 0] 40))
          refine (put_nil _ _ _ _).mono ?_
          rintro e w8 ⟨rfl, hw8⟩
          have HB9 := Lib.hid (show Below w.heap.size w w8 by rw [hw8]; exact HB8.out)
          clear hw8
          go_wp2_with fail
          refine (len_nil _).mono ?_
          rintro e w9 ⟨rfl, hw9⟩
          have HB10 := Lib.hid (show Below w.heap.size w w9 by rw [hw9]; exact HB9.out)
          clear hw9
          go_wp2_with fail
          refine (lost_nil _).mono ?_
          rintro e w10 ⟨rfl, hw10⟩
          have HB11 := Lib.hid (show Below w.heap.size w w10 by rw [hw10]; exact HB10.out)
          clear hw10
          go_wp2_with fail
          go_ret
          exact ⟨rfl, HB11.out⟩
end Go.Proofs.Ytnphlghiicbjjaa
