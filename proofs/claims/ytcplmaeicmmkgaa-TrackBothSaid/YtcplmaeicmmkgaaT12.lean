/- track: Fits; TrackBoth's walk. -/
import Derived.Test.YtcplmaeicmmkgaaT11
namespace Go.Proofs.Ytcplmaeicmmkgaa
open Go Go.RowKit Go.Proofs.YtcplmaeicmmkgaaW.PrintWords Go.Proofs.YtcplmaeicmmkgaaW.PrintLast Go.Proofs.YtcplmaeicmmkgaaW.PrintMore Go.Proofs.Ytcplmaeicmmkgaa.PTrackPlays
attribute [local go_sem] max2_int min2_int max_two min_two
set_option linter.unusedVariables false
set_option linter.unusedSimpArgs false

theorem rd72 (xs : List S72) (k : Nat) (hk : k < xs.length) : rd_T72 xs (k : Int) = xs[k] := by
  unfold rd_T72
  rw [Int.toNat_natCast, List.getD_eq_getElem?_getD, List.getElem?_eq_getElem hk]; rfl
theorem wr1 (k : Nat) (h : k ≤ 1000000) : wrap64 ((k : Int) + 1) = ((k + 1 : Nat) : Int) := by unfold wrap64; omega
theorem fits_l0 (x0 : List S72) : ∀ d i, d = x0.length - i → i ≤ x0.length → i ≤ 61 → ∃ k r, rutterlaw12_Fits.l0 k x0 (i : Nat) = some r ∧ (r = true → x0.length ≤ 60 ∧ ∀ a, a ∈ x0.drop i → a.f3.length ≤ 60) := by
  intro d
  induction d with
  | zero =>
    intro i hd hi _
    refine ⟨2, decide ((x0.length : Int) ≤ 60), ?_, fun hr => ⟨by have := of_decide_eq_true hr; omega, fun a ha => ?_⟩⟩
    · rw [rutterlaw12_Fits.l0, if_neg (by omega), rutterlaw12_Fits.j1, if_neg (by simp)]
    · rw [List.drop_eq_nil_of_le (by omega)] at ha; cases ha
  | succ d ih =>
    intro i hd hi h61
    have hlt : i < x0.length := by omega
    by_cases h60 : i ≤ 60
    · by_cases hbig : 60 < x0[i].f3.length
      · refine ⟨2, false, ?_, fun h => by cases h⟩
        rw [rutterlaw12_Fits.l0, if_pos (by omega), show decide ((i : Int) ≤ 60) = true from decide_eq_true (by omega), rutterlaw12_Fits.j1, if_pos rfl, if_pos (by omega), if_pos (by omega), rd72 x0 i hlt, if_pos (by omega)]
      · obtain ⟨k, r, h1, h2⟩ := ih (i + 1) (by omega) (by omega) (by omega)
        refine ⟨k + 2, r, ?_, fun hr => ⟨(h2 hr).1, fun a ha => ?_⟩⟩
        · rw [rutterlaw12_Fits.l0, if_pos (by omega), show decide ((i : Int) ≤ 60) = true from decide_eq_true (by omega), rutterlaw12_Fits.j1, if_pos rfl, if_pos (by omega), if_pos (by omega), rd72 x0 i hlt, if_neg (by omega), wr1 i (by omega)]
          exact h1
        · rw [List.drop_eq_getElem_cons hlt] at ha
          rcases List.mem_cons.1 ha with rfl | ha
          · omega
          · exact (h2 hr).2 a ha
    · refine ⟨2, decide ((x0.length : Int) ≤ 60), ?_, fun hr => ?_⟩
      · rw [rutterlaw12_Fits.l0, if_pos (by omega), show decide ((i : Int) ≤ 60) = false from decide_eq_false (by omega), rutterlaw12_Fits.j1, if_neg (by simp)]
      · have := of_decide_eq_true hr; omega
theorem fits_any (w : World) (A : Option Addr) (c : Nat) (l : List S72) (hC : k72.C w A l.length l) (hc : l.length ≤ c) :
    Calls Try.prog 26 #[.slice A l.length c] w (fun e w' => ∃ r, e = .returned (.bool r) ∧ (r = true → l.length ≤ 60 ∧ ∀ a, a ∈ l → a.f3.length ≤ 60) ∧ Below w.heap.size w w') := by
  obtain ⟨k, r, h1, h2⟩ := fits_l0 l l.length 0 rfl (Nat.zero_le _) (by omega)
  refine (rutterlaw12_Fits.calls k A c l r w hC hc h1).mono ?_
  rintro e w' ⟨rfl, n, rfl⟩
  exact ⟨r, rfl, fun hr => by simpa using h2 hr, pw_below_drewN (Below.refl _ _) _⟩
def LawPost (w : World) (e : Ending) (w' : World) : Prop := e = .returned (.bool true) ∧ Below w.heap.size w w'
def Kind8 (l : List S72) : Prop := ∀ a, a ∈ l → 0 ≤ a.f0 ∧ a.f0 ≤ 255
section
variable {O : Nat → Prop} {w : World} {b : Nat} {life : Int} {xs : List S83} {Q : World → (Nat → Prop) → Prop}
theorem two_note (hQ : Stands Q) (h : Two O w (PT 158 b life xs) Q) (hl : xs.length ≤ 1000000) (h0 : 0 ≤ life) (h1 : life ≤ 2147483648) (f : S70) (now : Int) :
    Calls Try.prog 29 #[pt b, v70 f, .int .i64 now] w (fun e w' => e = .returned (.int .i64 (noteF life xs f now).2) ∧ Two O w' (PT 158 b life (noteF life xs f now).1) Q ∧ KpO O w w') :=
  two_callL (P := PT 158 b life xs) hQ h (fun F hF _ => note_any w F b life xs hF hl h0 h1 f now)
theorem two_imp (hQ : Stands Q) (h : Two O w (PT 158 b life xs) Q) (hl : xs.length ≤ 1000000) (now : Int) (A : Option Addr) (m c : Nat) (l : List S83) (hC : ∀ w', KpO O w w' → k83.C w' A m l) (hm : m ≤ 1000000) :
    Calls Try.prog 31 #[pt b, .int .i64 now, .slice A m c] w (fun e w' => e = .returned (.int .i64 ((impF xs now l).2 : Nat)) ∧ Two O w' (PT 158 b life (impF xs now l).1) Q ∧ KpO O w w') :=
  two_callL (P := PT 158 b life xs) hQ h (fun F hF hlo => imp_any w F b life xs hF hl now A m c l (fun w' hK => hC w' (KpO.of_kp hK hlo)) hm)
end
end Go.Proofs.Ytcplmaeicmmkgaa
