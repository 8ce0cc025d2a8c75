/- rutterlaw18: Fits, said plainly. -/
import Derived.Test.YtnphlghiicbjjaaN17
namespace Go.Proofs.Ytnphlghiicbjjaa
open Go Go.RowKit Go.Proofs.YtnphlghiicbjjaaW.PrintWords Go.Proofs.YtnphlghiicbjjaaW.PrintLast Go.Proofs.Ytnphlghiicbjjaa.PNetPlays
set_option linter.unusedVariables false
set_option linter.unusedSimpArgs false

def tot (l : List S36) : Nat := (l.map fun a => a.f1.length).sum
def SzA (l : List S36) : Prop := ∀ a, a ∈ l → ∀ x, x ∈ a.f1 → x.f2.length ≤ 3000
def QF (x0 : List S36) (n i : Nat) (r : Bool) : Prop := r = true → x0.length ≤ 100 ∧ n + tot (x0.drop i) ≤ 100 ∧ SzA (x0.drop i)
def QF1 (x0 : List S36) (a : S36) (n i j : Nat) (r : Bool) : Prop := r = true → x0.length ≤ 100 ∧ n + (a.f1.length - j) + tot (x0.drop (i + 1)) ≤ 100 ∧ (∀ x, x ∈ a.f1.drop j → x.f2.length ≤ 3000) ∧ SzA (x0.drop (i + 1))
theorem rd36 (xs : List S36) (k : Nat) (hk : k < xs.length) : rd_T36 xs (k : Int) = xs[k] := by
  unfold rd_T36
  rw [Int.toNat_natCast, List.getD_eq_getElem?_getD, List.getElem?_eq_getElem hk]; rfl
theorem wr1 (k : Nat) (h : k ≤ 1000000) : wrap64 ((k : Int) + 1) = ((k + 1 : Nat) : Int) := by unfold wrap64; omega
theorem tot_cons (a : S36) (l : List S36) : tot (a :: l) = a.f1.length + tot l := by simp [tot]
theorem j3_f (k : Nat) (x0 : List S36) (n i j : Int) : rutterlaw18_Fits.j3 (k + 1) x0 n i j false = rutterlaw18_Fits.l0 k x0 n (wrap64 (i + 1)) := by rw [rutterlaw18_Fits.j3]; exact if_neg (by simp)
theorem j1_f (k : Nat) (x0 : List S36) (n i : Int) : rutterlaw18_Fits.j1 (k + 1) x0 n i false = if (x0.length : Int) ≤ 100 then (some (decide (n ≤ 100))) else (some false) := by rw [rutterlaw18_Fits.j1]; exact if_neg (by simp)
theorem l1_eq (k : Nat) (x0 : List S36) (n : Int) (i j : Nat) (hi : i < x0.length) : rutterlaw18_Fits.l1 (k + 1) x0 n (i : Nat) (j : Nat) = if (j : Int) < (x0[i].f1.length : Int) then rutterlaw18_Fits.j3 k x0 n (i : Nat) (j : Nat) (decide ((j : Int) ≤ 100)) else rutterlaw18_Fits.j3 k x0 n (i : Nat) (j : Nat) false := by
  rw [rutterlaw18_Fits.l1, if_pos (by omega), if_pos (by omega), rd36 x0 i hi]
theorem j3_t (k : Nat) (x0 : List S36) (n : Int) (i j : Nat) (hi : i < x0.length) (hj : j < x0[i].f1.length) : rutterlaw18_Fits.j3 (k + 1) x0 n (i : Nat) (j : Nat) true = if (x0[i].f1[j].f2.length : Int) > 3000 then some false else rutterlaw18_Fits.l1 k x0 (wrap64 (n + 1)) (i : Nat) (wrap64 ((j : Int) + 1)) := by
  rw [rutterlaw18_Fits.j3, if_pos rfl, if_pos (by omega), if_pos (by omega), if_pos (by omega), rd36 x0 i hi, if_pos (by omega), rd_get _ j hj]
theorem l0_eq (k : Nat) (x0 : List S36) (n : Int) (i : Nat) : rutterlaw18_Fits.l0 (k + 1) x0 n (i : Nat) = if (i : Int) < (x0.length : Int) then rutterlaw18_Fits.j1 k x0 n (i : Nat) (decide ((i : Int) ≤ 100)) else rutterlaw18_Fits.j1 k x0 n (i : Nat) false := by rw [rutterlaw18_Fits.l0]
theorem j1_t (k : Nat) (x0 : List S36) (n i : Int) : rutterlaw18_Fits.j1 (k + 1) x0 n i true = rutterlaw18_Fits.l1 k x0 n i 0 := by rw [rutterlaw18_Fits.j1, if_pos rfl]
theorem fits_l1 (x0 : List S36) (i : Nat) (hi : i < x0.length) (hi1 : i ≤ 100) (hnext : ∀ n, n ≤ 101 * (i + 1) → ∃ k r, rutterlaw18_Fits.l0 k x0 (n : Nat) ((i + 1 : Nat) : Int) = some r ∧ QF x0 n (i + 1) r) :
    ∀ d j n, d = 101 - j → j ≤ n → n ≤ 101 * i + j → j ≤ 101 → j ≤ x0[i].f1.length → ∃ k r, rutterlaw18_Fits.l1 k x0 (n : Nat) (i : Nat) (j : Nat) = some r ∧ QF1 x0 x0[i] n i j r := by
  intro d
  induction d with
  | zero =>
    intro j n hd hjn hn hj hjl
    obtain ⟨k, r, h1, h2⟩ := hnext n (by omega)
    refine ⟨k + 2, r, ?_, fun hr => ?_⟩
    · rw [l1_eq (k + 1) x0 n i j hi, show decide ((j : Int) ≤ 100) = false from decide_eq_false (by omega), ite_self, j3_f, wr1 i (by omega)]
      exact h1
    · have := (h2 hr).2.1
      omega
  | succ d ih =>
    intro j n hd hjn hn hj hjl
    by_cases hlt : j < x0[i].f1.length
    · have d1 : decide ((j : Int) ≤ 100) = true := decide_eq_true (by omega)
      by_cases hbig : 3000 < x0[i].f1[j].f2.length
      · refine ⟨2, false, ?_, fun h => by cases h⟩
        rw [l1_eq 1 x0 n i j hi, if_pos (by omega), d1, j3_t 0 x0 n i j hi hlt, if_pos (by omega)]
      · obtain ⟨k, r, h1, h2⟩ := ih (j + 1) (n + 1) (by omega) (by omega) (by omega) (by omega) (by omega)
        refine ⟨k + 2, r, ?_, fun hr => ?_⟩
        · rw [l1_eq (k + 1) x0 n i j hi, if_pos (by omega), d1, j3_t k x0 n i j hi hlt, if_neg (by omega), wr1 n (by omega), wr1 j (by omega)]
          exact h1
        · obtain ⟨g1, g2, g3, g4⟩ := h2 hr
          refine ⟨g1, by omega, fun x hx => ?_, g4⟩
          rw [List.drop_eq_getElem_cons hlt] at hx
          rcases List.mem_cons.1 hx with rfl | hx
          · omega
          · exact g3 x hx
    · obtain ⟨k, r, h1, h2⟩ := hnext n (by omega)
      refine ⟨k + 2, r, ?_, fun hr => ?_⟩
      · rw [l1_eq (k + 1) x0 n i j hi, if_neg (by omega), j3_f, wr1 i (by omega)]
        exact h1
      · obtain ⟨g1, g2, g3⟩ := h2 hr
        refine ⟨g1, by omega, fun x hx => ?_, g3⟩
        rw [List.drop_eq_nil_of_le (by omega)] at hx
        cases hx
theorem fits_l0 (x0 : List S36) : ∀ d i n, d = x0.length - i → i ≤ x0.length → n ≤ 101 * i → ∃ k r, rutterlaw18_Fits.l0 k x0 (n : Nat) (i : Nat) = some r ∧ QF x0 n i r := by
  intro d
  induction d with
  | zero =>
    intro i n hd hi hn
    have hil : i = x0.length := by omega
    by_cases hl : x0.length ≤ 100
    · refine ⟨2, decide ((n : Int) ≤ 100), ?_, fun hr => ⟨hl, ?_, ?_⟩⟩
      · rw [l0_eq, if_neg (by omega), j1_f, if_pos (by omega)]
      · have := of_decide_eq_true hr
        rw [hil, List.drop_length]
        simp [tot]; omega
      · rw [hil, List.drop_length]; intro a ha; cases ha
    · refine ⟨2, false, ?_, fun h => by cases h⟩
      rw [l0_eq, if_neg (by omega), j1_f, if_neg (by omega)]
  | succ d ih =>
    intro i n hd hi hn
    have hlt : i < x0.length := by omega
    by_cases hi1 : i ≤ 100
    · obtain ⟨k, r, h1, h2⟩ := fits_l1 x0 i hlt hi1 (fun n hn => ih (i + 1) n (by omega) (by omega) hn) 101 0 n (by omega) (by omega) (by omega) (by omega) (by omega)
      refine ⟨k + 2, r, ?_, fun hr => ?_⟩
      · rw [l0_eq, if_pos (by omega), show decide ((i : Int) ≤ 100) = true from decide_eq_true (by omega), j1_t]
        exact h1
      · obtain ⟨g1, g2, g3, g4⟩ := h2 hr
        refine ⟨g1, ?_, ?_⟩
        · rw [List.drop_eq_getElem_cons hlt, tot_cons]; omega
        · rw [List.drop_eq_getElem_cons hlt]
          intro a ha
          rcases List.mem_cons.1 ha with rfl | ha
          · exact g3
          · exact g4 a ha
    · refine ⟨2, false, ?_, fun h => by cases h⟩
      rw [l0_eq, if_pos (by omega), show decide ((i : Int) ≤ 100) = false from decide_eq_false (by omega), j1_f, if_neg (by omega)]
/-- Fits, of acts that came in. -/
theorem fits_any (w : World) (A : Option Addr) (c : Nat) (l : List S36) (hC : k36.C w A l.length l) (hc : l.length ≤ c) :
    Calls Try.prog 10 #[.slice A l.length c] w (fun e w' => ∃ r, e = .returned (.bool r) ∧ (r = true → l.length ≤ 100 ∧ tot l ≤ 100 ∧ SzA l) ∧ Below w.heap.size w w') := by
  obtain ⟨k, r, h1, h2⟩ := fits_l0 l l.length 0 0 (by omega) (by omega) (by omega)
  refine (rutterlaw18_Fits.calls k A c l r w hC hc h1).mono ?_
  rintro e w' ⟨rfl, n, rfl⟩
  exact ⟨r, rfl, fun hr => by have := h2 hr; simpa using this, pw_below_drewN (Below.refl _ _) _⟩
end Go.Proofs.Ytnphlghiicbjjaa
