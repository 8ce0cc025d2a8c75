/- What is whole in a file of records, of which the last bytes are lost. -/
import Derived.Test.YtcplmaeicmmkgaaA30b
namespace Go.Proofs.Ytcplmaeicmmkgaa
open Go Go.RowKit Go.Proofs.YtcplmaeicmmkgaaW.PrintWords Go.Proofs.YtcplmaeicmmkgaaW.PrintLast
set_option linter.unusedVariables false
set_option linter.unusedSimpArgs false

theorem be2_len (n : Nat) (h : n ≤ 65535) : be 2 (n : Int) = [(n : Int) / 256, (n : Int) % 256] := by
  simp only [be]
  simp only [show (2 : Int) ^ (8 * 1) = 256 by rfl, show (2 : Int) ^ (8 * 0) = 1 by rfl]
  congr 1
  · omega
  · congr 1
    omega
theorem recJ_split (b : List Int) (h : b.length ≤ 65535) : recJ b = (b.length : Int) / 256 :: (b.length : Int) % 256 :: (b ++ be 4 (sumS b)) := by
  rw [recJ, be2_len _ h]; rfl
theorem lead_rec (b rest : List Int) (h : b.length ≤ 65535) : leadN ((b.length : Int) / 256 :: (b.length : Int) % 256 :: rest) = b.length := by
  unfold leadN
  have e0 : rd ((b.length : Int) / 256 :: (b.length : Int) % 256 :: rest) 0 = (b.length : Int) / 256 := rfl
  have e1 : rd ((b.length : Int) / 256 :: (b.length : Int) % 256 :: rest) 1 = (b.length : Int) % 256 := rfl
  rw [e0, e1]
  omega
/-- A whole record, and what stands behind it. -/
theorem scan_rec (b rest : List Int) (hok : okJ b = true) (hb : BR b) (hr : BR rest) : scanJ (recJ b ++ rest) = (b :: (scanJ rest).1, (recJ b).length + (scanJ rest).2) := by
  have hlen : 1 ≤ b.length ∧ b.length ≤ 200 := by
    unfold okJ at hok
    simpa using hok
  have hd : recJ b ++ rest = (b.length : Int) / 256 :: (b.length : Int) % 256 :: (b ++ be 4 (sumS b) ++ rest) := by
    rw [recJ_split b (by omega)]; simp
  have hlead : leadN (recJ b ++ rest) = b.length := by rw [hd]; exact lead_rec b _ (by omega)
  have hbody : ((recJ b ++ rest).drop 2).take b.length = b := by
    rw [hd]
    simp only [List.drop_succ_cons, List.drop_zero]
    rw [List.append_assoc, List.take_left' rfl]
  have hl := recJ_length b
  have hrec : isRec (recJ b ++ rest) := by
    refine ⟨by rw [List.length_append]; omega, by rw [hlead, List.length_append]; omega, by rw [hlead, hbody]; exact hok, ?_⟩
    rw [hlead, hbody, List.take_left' (by omega)]
  obtain ⟨h1, h2⟩ := okF_rec _ ((recJ_br b hb).append hr) hrec
  rw [hlead, hbody] at h2
  rw [scanJ_yes _ h1, h2, ← hl, List.drop_left' rfl]
/-- Less than a record. -/
theorem scan_part (b : List Int) (m : Nat) (hok : okJ b = true) (hb : BR b) (hm : m < (recJ b).length) : scanJ ((recJ b).take m) = ([], 0) := by
  have hlen : 1 ≤ b.length ∧ b.length ≤ 200 := by
    unfold okJ at hok
    simpa using hok
  have hl := recJ_length b
  apply scanJ_no
  apply okF_norec _ ((recJ_br b hb).take m)
  rintro ⟨h2, h6, -, -⟩
  rw [List.length_take] at h2 h6
  have hm2 : ∃ m', m = m' + 2 := ⟨m - 2, by omega⟩
  obtain ⟨m', rfl⟩ := hm2
  rw [recJ_split b (by omega), List.take_succ_cons, List.take_succ_cons, lead_rec b _ (by omega)] at h6
  simp only [List.length_cons, List.length_append, be_length] at h6
  omega
def recs (P : List (List Int)) : List Int := P.flatMap recJ
def OkP (P : List (List Int)) : Prop := ∀ b, b ∈ P → okJ b = true ∧ BR b
theorem recs_br (P : List (List Int)) (h : OkP P) : BR (recs P) := by
  induction P with
  | nil => exact BR.nil
  | cons b P ih =>
    unfold recs
    rw [List.flatMap_cons]
    exact (recJ_br b (h b (by simp)).2).append (ih fun x hx => h x (by simp [hx]))
/-- What is whole of a beginning. -/
theorem scan_cut (P : List (List Int)) (h : OkP P) : ∀ q, ∃ j, j ≤ P.length ∧ (scanJ ((recs P).take q)).1 = P.take j ∧ (q = 0 → j = 0) := by
  induction P with
  | nil => intro q; exact ⟨0, Nat.le_refl _, by simp [recs, scan_nil], fun _ => rfl⟩
  | cons b P ih =>
    intro q
    have hb := h b (by simp)
    have hP : OkP P := fun x hx => h x (by simp [hx])
    have he : recs (b :: P) = recJ b ++ recs P := by unfold recs; rw [List.flatMap_cons]
    by_cases hq : q < (recJ b).length
    · refine ⟨0, Nat.zero_le _, ?_, fun _ => rfl⟩
      rw [he, List.take_append_of_le_length (by omega), scan_part b q hb.1 hb.2 hq]
      rfl
    · obtain ⟨j, hj, hs, -⟩ := ih hP (q - (recJ b).length)
      refine ⟨j + 1, by simp only [List.length_cons]; omega, ?_, fun h0 => ?_⟩
      · rw [he, List.take_append, List.take_of_length_le (by omega), scan_rec b _ hb.1 hb.2 ((recs_br P hP).take _), hs]
        rfl
      · have := recJ_length b
        omega
/-- What was synced is whole; of the rest a beginning. -/
theorem scan_two (P Q : List (List Int)) (hP : OkP P) (hQ : OkP Q) (q : Nat) : ∃ j, j ≤ Q.length ∧ (scanJ (recs P ++ (recs Q).take q)).1 = P ++ Q.take j ∧ (q = 0 → j = 0) := by
  induction P with
  | nil =>
    obtain ⟨j, h1, h2, h3⟩ := scan_cut Q hQ q
    exact ⟨j, h1, by simpa [recs] using h2, h3⟩
  | cons b P ih =>
    obtain ⟨j, h1, h2, h3⟩ := ih (fun x hx => hP x (by simp [hx]))
    have hb := hP b (by simp)
    refine ⟨j, h1, ?_, h3⟩
    have he : recs (b :: P) = recJ b ++ recs P := by unfold recs; rw [List.flatMap_cons]
    rw [he, List.append_assoc, scan_rec b _ hb.1 hb.2 ((recs_br P fun x hx => hP x (by simp [hx])).append ((recs_br Q hQ).take q)), h2]
    rfl
theorem recs_snoc (P : List (List Int)) (b : List Int) : recs (P ++ [b]) = recs P ++ recJ b := by
  simp [recs, List.flatMap_append]
theorem recs_length (P : List (List Int)) (h : OkP P) : (recs P).length ≤ 206 * P.length := by
  induction P with
  | nil => simp [recs]
  | cons b P ih =>
    have hb := (h b (by simp)).1
    have := ih fun x hx => h x (by simp [hx])
    have hl := recJ_length b
    have hlen : b.length ≤ 200 := by
      unfold okJ at hb
      simp at hb
      exact hb.2
    have he : recs (b :: P) = recJ b ++ recs P := by unfold recs; rw [List.flatMap_cons]
    rw [he, List.length_append, List.length_cons]
    omega
end Go.Proofs.Ytcplmaeicmmkgaa
