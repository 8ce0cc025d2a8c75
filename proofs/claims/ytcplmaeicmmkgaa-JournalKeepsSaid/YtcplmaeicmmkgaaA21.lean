/- What a record is, as the reference says it. -/
import Derived.Test.YtcplmaeicmmkgaaA20
namespace Go.Proofs.Ytcplmaeicmmkgaa
open Go Go.RowKit Go.Proofs.YtcplmaeicmmkgaaW.PrintWords Go.Proofs.YtcplmaeicmmkgaaW.PrintLast
set_option linter.unusedVariables false
set_option linter.unusedSimpArgs false

theorem be4_of (b0 b1 b2 b3 : Int) (h0 : 0 ≤ b0 ∧ b0 ≤ 255) (h1 : 0 ≤ b1 ∧ b1 ≤ 255) (h2 : 0 ≤ b2 ∧ b2 ≤ 255) (h3 : 0 ≤ b3 ∧ b3 ≤ 255) : be 4 (beV [b0, b1, b2, b3]) = [b0, b1, b2, b3] := by
  simp only [be, beV, List.foldl]
  simp only [show (2 : Int) ^ (8 * 3) = 16777216 by rfl, show (2 : Int) ^ (8 * 2) = 65536 by rfl, show (2 : Int) ^ (8 * 1) = 256 by rfl, show (2 : Int) ^ (8 * 0) = 1 by rfl]
  congr 1
  · omega
  · congr 1
    · omega
    · congr 1
      · omega
      · congr 1
        omega
theorem be4_V (x : Int) (h : 0 ≤ x ∧ x ≤ 4294967295) : beV (be 4 x) = x := by
  simp only [be, beV, List.foldl]
  simp only [show (2 : Int) ^ (8 * 3) = 16777216 by rfl, show (2 : Int) ^ (8 * 2) = 65536 by rfl, show (2 : Int) ^ (8 * 1) = 256 by rfl, show (2 : Int) ^ (8 * 0) = 1 by rfl]
  omega
theorem be4_iff (l : List Int) (hBR : BR l) (hl : l.length = 4) (x : Int) (h : 0 ≤ x ∧ x ≤ 4294967295) : beV l = x ↔ be 4 x = l := by
  match l, hl with
  | [b0, b1, b2, b3], _ =>
    constructor
    · intro e
      rw [← e]
      exact be4_of b0 b1 b2 b3 (hBR b0 (by simp)) (hBR b1 (by simp)) (hBR b2 (by simp)) (hBR b3 (by simp))
    · intro e
      rw [← e]
      exact be4_V x h
theorem be2_of (b0 b1 : Int) (h0 : 0 ≤ b0 ∧ b0 ≤ 255) (h1 : 0 ≤ b1 ∧ b1 ≤ 255) : be 2 (256 * b0 + b1) = [b0, b1] := by
  simp only [be]
  simp only [show (2 : Int) ^ (8 * 1) = 256 by rfl, show (2 : Int) ^ (8 * 0) = 1 by rfl]
  congr 1
  · omega
  · congr 1
    omega
theorem sumS_u32 (l : List Int) : 0 ≤ sumS l ∧ sumS l ≤ 4294967295 := by
  have hu := sumX_u32 l
  have h1 := hu.1
  have h2 := hu.2
  unfold sumS
  omega

/-- The number that leads a record. -/
def leadN (d : List Int) : Nat := (256 * rd d 0 + rd d 1).toNat
theorem lead_facts (d : List Int) (hBR : BR d) (h2 : 2 ≤ d.length) : ((leadN d : Nat) : Int) = 256 * rd d 0 + rd d 1 ∧ be 2 (leadN d : Int) = d.take 2 ∧ (beV (d.take 2)).toNat = leadN d ∧ leadN d ≤ 65535 ∧ (0 ≤ rd d 0 ∧ rd d 0 ≤ 255) ∧ (0 ≤ rd d 1 ∧ rd d 1 ≤ 255) := by
  match d, h2 with
  | b0 :: b1 :: t, _ =>
    have h0 := hBR b0 (by simp)
    have h1 := hBR b1 (by simp)
    have e0 : rd (b0 :: b1 :: t) 0 = b0 := rfl
    have e1 : rd (b0 :: b1 :: t) 1 = b1 := rfl
    have e : ((leadN (b0 :: b1 :: t) : Nat) : Int) = 256 * b0 + b1 := by unfold leadN; rw [e0, e1]; omega
    refine ⟨by rw [e, e0, e1], by rw [e]; exact be2_of b0 b1 h0 h1, ?_, by omega, by rw [e0]; exact h0, by rw [e1]; exact h1⟩
    unfold leadN
    rw [e0, e1]
    simp [beV]
    omega

theorem okF_short (d : List Int) (h : d.length < 2) : okF d = false := by
  cases ho : okF d with
  | false => rfl
  | true => have := okF_facts d ho; omega
theorem bodyJ_eq (d : List Int) (hBR : BR d) (h2 : 2 ≤ d.length) (hN : leadN d ≤ 200) (hL : leadN d + 6 ≤ d.length) : f1J d = false ∧ f2J d = false ∧ bodyJ d = (d.drop 2).take (leadN d) ∧ wantJ d = beV ((d.drop (leadN d + 2)).take 4) := by
  have hl := lead_facts d hBR h2
  have hg : getBad 2 (d.take 206) false = false := by
    simp only [getBad, Bool.false_or, decide_eq_false_iff_not, List.length_take]; omega
  have ht2 : (d.take 206).take 2 = d.take 2 := by rw [List.take_take]; rfl
  have hbN : bytesN (d.take 206) false = leadN d := by unfold bytesN; rw [hg, ht2]; exact hl.2.2.1
  have hbL : bytesL (d.take 206) false = (d.take 206).drop 2 := by unfold bytesL; rw [hg]; rfl
  have h1 : f1J d = false := by
    unfold f1J bytesF
    rw [hg, hbN, hbL]
    simp only [Bool.false_or, decide_eq_false_iff_not, List.length_drop, List.length_take]
    omega
  have hr : restJ d = ((d.take 206).drop 2).drop (leadN d) := by unfold restJ; rw [h1, hbN, hbL]; rfl
  have h2' : f2J d = false := by
    unfold f2J getBad
    rw [h1, hr]
    simp only [Bool.false_or, decide_eq_false_iff_not, List.length_drop, List.length_take]
    omega
  refine ⟨h1, h2', ?_, ?_⟩
  · unfold bodyJ
    rw [h1, hbN, hbL]
    simp only [Bool.false_eq_true, if_false]
    rw [List.drop_take, List.take_take, Nat.min_eq_left (by omega)]
  · unfold wantJ
    rw [h2', hr]
    simp only [Bool.false_eq_true, if_false]
    rw [List.drop_drop, List.drop_take, List.take_take, Nat.min_eq_left (by omega), Nat.add_comm]

/-- A record stands there. -/
def isRec (d : List Int) : Prop := 2 ≤ d.length ∧ leadN d + 6 ≤ d.length ∧ okJ ((d.drop 2).take (leadN d)) = true ∧ recJ ((d.drop 2).take (leadN d)) = d.take (leadN d + 6)
theorem okF_rec (d : List Int) (hBR : BR d) (h : isRec d) : okF d = true ∧ bodyJ d = (d.drop 2).take (leadN d) := by
  obtain ⟨h2, hL, hok, hrec⟩ := h
  have hbl : ((d.drop 2).take (leadN d)).length = leadN d := by rw [List.length_take, List.length_drop]; omega
  have hN : 1 ≤ leadN d ∧ leadN d ≤ 200 := by
    unfold okJ at hok
    rw [hbl] at hok
    simpa using hok
  obtain ⟨e1, e2, e3, e4⟩ := bodyJ_eq d hBR h2 hN.2 hL
  refine ⟨?_, e3⟩
  unfold okF
  rw [e2, e3, e4, hbl]
  have h4 : ((d.drop (leadN d + 2)).take 4).length = 4 := by rw [List.length_take, List.length_drop]; omega
  have hw : beV ((d.drop (leadN d + 2)).take 4) = sumS ((d.drop 2).take (leadN d)) := by
    rw [be4_iff _ ((hBR.drop _).take _) h4 _ (sumS_u32 _)]
    have hd := congrArg (fun z => z.drop (leadN d + 2)) hrec
    simp only [recJ, hbl] at hd
    rw [List.drop_left' (by simp only [List.length_append, be_length, hbl]; omega)] at hd
    rw [hd, List.drop_take]
    congr 1
    omega
  simp only [hw, Bool.not_false, Bool.true_and, decide_true, Bool.and_true, decide_eq_true_eq]
  omega
theorem okF_norec (d : List Int) (hBR : BR d) (h : ¬ isRec d) : okF d = false := by
  cases ho : okF d with
  | false => rfl
  | true =>
    exfalso
    apply h
    have hf := okF_facts d ho
    have h2 : 2 ≤ d.length := by omega
    have hl := lead_facts d hBR h2
    have ho' := ho
    unfold okF at ho'
    simp only [Bool.and_eq_true, Bool.not_eq_true', decide_eq_true_eq] at ho'
    obtain ⟨⟨hf2, hpos⟩, hw⟩ := ho'
    have hg : getBad 2 (d.take 206) false = false := by
      simp only [getBad, Bool.false_or, decide_eq_false_iff_not, List.length_take]; omega
    have ht2 : (d.take 206).take 2 = d.take 2 := by rw [List.take_take]; rfl
    have hbN : bytesN (d.take 206) false = leadN d := by unfold bytesN; rw [hg, ht2]; exact hl.2.2.1
    have hbL : bytesL (d.take 206) false = (d.take 206).drop 2 := by unfold bytesL; rw [hg]; rfl
    have hf1 : f1J d = false := by
      unfold f2J getBad at hf2
      simp only [Bool.or_eq_false_iff] at hf2
      exact hf2.1
    have hN : leadN d ≤ 200 ∧ leadN d + 2 ≤ d.length := by
      have := hf1
      unfold f1J bytesF at this
      rw [hg, hbN, hbL] at this
      simp only [Bool.false_or, decide_eq_false_iff_not, List.length_drop, List.length_take] at this
      omega
    have hL : leadN d + 6 ≤ d.length := by
      have := hf2
      unfold f2J getBad restJ at this
      rw [hf1, hbN, hbL] at this
      simp only [Bool.false_eq_true, if_false, Bool.false_or, decide_eq_false_iff_not, List.length_drop, List.length_take] at this
      omega
    obtain ⟨e1, e2, e3, e4⟩ := bodyJ_eq d hBR h2 hN.1 hL
    have hbl : ((d.drop 2).take (leadN d)).length = leadN d := by rw [List.length_take, List.length_drop]; omega
    rw [e3] at hpos hw
    rw [e4] at hw
    rw [hbl] at hpos
    refine ⟨h2, hL, by simp [okJ, hbl]; omega, ?_⟩
    have h4 : ((d.drop (leadN d + 2)).take 4).length = 4 := by rw [List.length_take, List.length_drop]; omega
    rw [be4_iff _ ((hBR.drop _).take _) h4 _ (sumS_u32 _)] at hw
    unfold recJ
    rw [hbl, hw, hl.2.1]
    have t1 : d.take (leadN d + 6) = d.take (leadN d + 2) ++ (d.drop (leadN d + 2)).take 4 := by
      rw [show leadN d + 6 = (leadN d + 2) + 4 by omega, List.take_add]
    have t2 : d.take (leadN d + 2) = d.take 2 ++ (d.drop 2).take (leadN d) := by
      rw [Nat.add_comm, List.take_add]
    rw [t1, t2]
end Go.Proofs.Ytcplmaeicmmkgaa
