/- The reference's Sum, One and Encode, in plain Lean. -/
import Derived.Test.YtcplmaeicmmkgaaA19
import Derived.Test.YtcplmaeicmmkgaaP1
namespace Go.Proofs.Ytcplmaeicmmkgaa
open Go Go.RowKit Go.Proofs.YtcplmaeicmmkgaaW.PrintWords Go.Proofs.YtcplmaeicmmkgaaW.PrintLast Go.Proofs.YtcplmaeicmmkgaaW.PrintMore Go.Proofs.Ytcplmaeicmmkgaa.PJournalScans
set_option linter.unusedVariables false
set_option linter.unusedSimpArgs false

theorem one_l0 (x : Int) : ∀ (j k : Nat) (acc : List Int), j ≤ 8 → j < k → acc.length + j ≤ 1000 → rutterref01_One.l0 k x acc ((j : Int) - 1) = some (acc ++ be j x)
  | 0, k + 1, acc, _, _, _ => by
    have h0 : ¬ ((0 : Nat) : Int) - 1 ≥ 0 := by decide
    rw [rutterref01_One.l0, if_neg h0]
    simp [be]
  | j + 1, k + 1, acc, h8, hk, ha => by
    have h0 : ((j + 1 : Nat) : Int) - 1 ≥ 0 := by omega
    have e1 : ((j + 1 : Nat) : Int) - 1 = (j : Int) := by omega
    have e2 : wrap64 (8 * (j : Int)) = 8 * (j : Int) := IntWalk.wrap64_in _ (by omega)
    have e3 : IntKind.u64.wrap (8 * (j : Int)) = 8 * (j : Int) := by rw [IntKind.wrap_u64]; omega
    have e4 : wrap64 ((j : Int) - 1) = (j : Int) - 1 := IntWalk.wrap64_in _ (by omega)
    have e5 : shr .i64 x (8 * (j : Int)) = x / 2 ^ (8 * j) := by
      unfold shr
      rw [Nat.min_eq_left (by show (8 * (j : Int)).toNat ≤ 64; omega)]
      congr 2
    rw [rutterref01_One.l0, e1, e2, e3, e4, e5, if_pos (by omega), if_pos (by omega), if_pos (by omega), one_l0 x j k _ (by omega) (by omega) (by simp; omega)]
    simp [be]
theorem one_f (n : Nat) (x : Int) (k : Nat) (hn : n ≤ 8) (hk : n < k) : rutterref01_One.f k n x = some (be n x) := by
  unfold rutterref01_One.f
  rw [IntWalk.wrap64_in _ (by omega), one_l0 x n k [] hn hk (by simp; omega)]
  simp

def halvesR : Nat → Int → Int
  | 0, x => x
  | n + 1, x => halvesR n (halfS x)
theorem halves_snoc (n : Nat) (x : Int) : halves (n + 1) x = halves n (halfS x) := by
  induction n with
  | zero => rfl
  | succ n ih => rw [halves, ih]; rfl
theorem sum_l1 (l : List Int) (i : Int) : ∀ (j k : Nat) (x : Int), j ≤ 8 → U32 x → rutterref08_Sum.l1 (k + j + 1) l x i (8 - (j : Int)) = rutterref08_Sum.l0 k l (halves j x) (wrap64 (i + 1))
  | 0, k, x, _, _ => by
    rw [rutterref08_Sum.l1, if_neg (by omega)]; rfl
  | j + 1, k, x, h8, hu => by
    have e1 : wrap64 (8 - ((j + 1 : Nat) : Int) + 1) = 8 - (j : Int) := by rw [IntWalk.wrap64_in _ (by omega)]; omega
    have e2 : Int.tdiv x 2 = x / 2 := Int.tdiv_eq_ediv_of_nonneg hu.1
    have e3 : Int.tmod x 2 = x % 2 := Int.tmod_eq_emod_of_nonneg hu.1
    have e4 : x / 2 % 4294967296 = x / 2 := by have := hu.1; have := hu.2; omega
    rw [rutterref08_Sum.l1, if_pos (by omega), e1, e2, e3, e4, halves_snoc]
    by_cases h1 : x % 2 = 1
    · rw [if_pos h1, show k + (j + 1) = k + j + 1 by omega, sum_l1 l i j k _ (by omega) (xor_u32 _ _)]
      unfold halfS
      rw [if_pos h1]
    · have hq := half_u32 x hu
      unfold halfS at hq ⊢
      rw [if_neg h1] at hq ⊢
      rw [if_neg h1, show k + (j + 1) = k + j + 1 by omega, sum_l1 l i j k _ (by omega) hq]

theorem sum_l0 (l : List Int) (hBR : BR l) (hl : l.length ≤ 1000000000) : ∀ (n k i : Nat), n + i = l.length → 10 * n < k → rutterref08_Sum.l0 k l (sumX (l.take i)) (i : Int) = some (4294967295 - sumX l)
  | 0, k + 1, i, hi, hk => by
    have : i = l.length := by omega
    subst this
    have hu := sumX_u32 l
    rw [rutterref08_Sum.l0, if_neg (by omega), List.take_length]
    congr 1
    have := hu.1; have := hu.2; omega
  | n + 1, k + 1, i, hi, hk => by
    have hlt : i < l.length := by omega
    have hr := hBR.get i hlt
    obtain ⟨k', rfl⟩ : ∃ k', k = k' + 8 + 1 := ⟨k - 9, by omega⟩
    rw [rutterref08_Sum.l0, if_pos (by omega), if_pos (by omega)]
    have e0 : rd l (i : Int) % 4294967296 = rd l (i : Int) := by omega
    have := sum_l1 l (i : Int) 8 k' (bits .xor .u32 (sumX (l.take i)) (rd l (i : Int))) (by omega) (xor_u32 _ _)
    rw [show (8 : Int) - ((8 : Nat) : Int) = 0 by rfl] at this
    rw [e0, this]
    have e1 : wrap64 ((i : Int) + 1) = ((i + 1 : Nat) : Int) := by rw [IntWalk.wrap64_in _ (by omega)]; rfl
    have e2 : halves 8 (bits .xor .u32 (sumX (l.take i)) (rd l (i : Int))) = sumX (l.take (i + 1)) := by
      rw [take_succ_rd l i hlt, sumX_snoc]; rfl
    rw [e1, e2]
    exact sum_l0 l hBR hl n k' (i + 1) (by omega) (by omega)
theorem sum_f (l : List Int) (hBR : BR l) (hl : l.length ≤ 1000000000) (k : Nat) (hk : 10 * l.length < k) : rutterref08_Sum.f k l = some (sumS l) := by
  have := sum_l0 l hBR hl l.length k 0 (by omega) hk
  exact this

theorem enc_f (l : List Int) (hBR : BR l) (hl : l.length ≤ 1000000) (k : Nat) (hk : 10 * l.length + 20 < k) : rutterref08_Encode.f k l = some (if okJ l then (recJ l, 0) else ([], 1)) := by
  obtain ⟨k, rfl⟩ : ∃ k', k = k' + 1 := ⟨k - 1, by omega⟩
  unfold rutterref08_Encode.f
  by_cases h1 : (l.length : Int) < 1
  · have ho : okJ l = false := by simp [okJ]; omega
    rw [if_pos h1, ho, rutterref08_Encode.j0]; rfl
  · rw [if_neg h1]
    by_cases h2 : (l.length : Int) > 200
    · have ho : okJ l = false := by simp [okJ]; omega
      rw [decide_eq_true h2, ho, rutterref08_Encode.j0]; rfl
    · have ho : okJ l = true := by simp [okJ]; omega
      have e1 := one_f 2 (l.length : Int) k (by omega) (by omega)
      have e2 := sum_f l hBR (by omega) k (by omega)
      have e3 := one_f 4 (sumS l) k (by omega) (by omega)
      have b2 := be_length 2 (l.length : Int)
      have b4 := be_length 4 (sumS l)
      rw [decide_eq_false h2, ho, rutterref08_Encode.j0, if_neg (by decide)]
      simp only [show ((2 : Nat) : Int) = 2 by rfl, show ((4 : Nat) : Int) = 4 by rfl] at e1 e3
      rw [e1, Option.bind_some, if_pos (by omega), Option.bind_some, e2, Option.bind_some, e3, Option.bind_some, if_pos (by simp only [List.length_append]; omega)]
      rfl

/-- The reference's Encode. -/
theorem enc_ref (w : World) (A : Option Addr) (m c : Nat) (l : List Int) (hBR : BR l) (hC : (Kd.int .u8).C w A m l) (hc : m ≤ c) (hm : m ≤ 1000000) : Calls Try.prog 76 #[.slice A m c] w (EncJ w l) := by
  have hml : l.length = m := hC.1
  subst hml
  have := enc_f l hBR hm (10 * l.length + 21) (by omega)
  cases ho : okJ l with
  | true =>
    rw [ho, if_pos rfl] at this
    refine (rutterref08_Encode.calls _ A c l _ _ w hC hc this).mono ?_
    rintro e w' ⟨v, rfl, h2, h3⟩
    exact ⟨v, by rw [ho]; rfl, by rw [ho]; exact h2, h3⟩
  | false =>
    rw [ho, if_neg (by decide)] at this
    refine (rutterref08_Encode.calls _ A c l _ _ w hC hc this).mono ?_
    rintro e w' ⟨v, rfl, h2, h3⟩
    exact ⟨v, by rw [ho]; rfl, by rw [ho]; exact h2, h3⟩
/-- The reference's Sum. -/
theorem sum_ref (w : World) (A : Option Addr) (m c : Nat) (l : List Int) (hBR : BR l) (hC : (Kd.int .u8).C w A m l) (hc : m ≤ c) (hm : m ≤ 1000000) : Calls Try.prog 78 #[.slice A m c] w (fun e w' => e = .returned (.int .i64 (sumS l)) ∧ Below w.heap.size w w') := by
  have hml : l.length = m := hC.1
  subst hml
  refine (rutterref08_Sum.calls _ A c l _ w hC hc (sum_f l hBR (by omega) (10 * l.length + 1) (by omega))).mono ?_
  rintro e w' ⟨rfl, h⟩
  exact ⟨rfl, h.below⟩
end Go.Proofs.Ytcplmaeicmmkgaa
