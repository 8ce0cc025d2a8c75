/- journal.Sum. -/
import Derived.Test.YtcplmaeicmmkgaaA6
namespace Go.Proofs.Ytcplmaeicmmkgaa
open Go Go.RowKit Go.Proofs.YtcplmaeicmmkgaaW.PrintWords Go.Proofs.YtcplmaeicmmkgaaW.PrintLast
set_option linter.unusedVariables false
set_option linter.unusedSimpArgs false

def halfS (x : Int) : Int := if x % 2 = 1 then bits .xor .u32 (x / 2) 3988292384 else x / 2
def halves : Nat → Int → Int
  | 0, x => x
  | n + 1, x => halfS (halves n x)
def stepS (x c : Int) : Int := halves 8 (bits .xor .u32 x c)
def sumX (l : List Int) : Int := l.foldl stepS 4294967295
def sumS (l : List Int) : Int := 4294967295 - sumX l
theorem sumX_snoc (l : List Int) (c : Int) : sumX (l ++ [c]) = stepS (sumX l) c := by simp [sumX]
def U32 (x : Int) : Prop := 0 ≤ x ∧ x ≤ 4294967295
theorem xor_u32 (a b : Int) : U32 (bits .xor .u32 a b) := by
  unfold bits U32
  rw [IntKind.wrap_u32]
  omega
theorem half_u32 (x : Int) (h : U32 x) : U32 (halfS x) := by
  unfold halfS
  split
  · exact xor_u32 _ _
  · unfold U32 at *; omega
theorem halves_u32 (n : Nat) (x : Int) (h : U32 x) : U32 (halves n x) := by
  induction n with
  | zero => exact h
  | succ n ih => exact half_u32 _ ih
theorem step_u32 (x c : Int) : U32 (stepS x c) := halves_u32 8 _ (xor_u32 _ _)
theorem sumX_u32 (l : List Int) : U32 (sumX l) := by
  rcases List.eq_nil_or_concat l with rfl | ⟨l', x, rfl⟩
  · unfold sumX U32; simp
  · rw [List.concat_eq_append, sumX_snoc]; exact step_u32 _ _
/-- A half step, as the walk spells it. -/
theorem half_walk (x : Int) (h : U32 x) : bits .xor .u32 (x / 2) (3988292384 * bits .and .u32 x 1 % 4294967296) = halfS x := by
  have hm : bits .and .u32 x 1 = x % 2 := bits_mask .u32 32 (by decide) (fun n h0 h1 => by rw [IntKind.wrap_u32]; omega) 1 (by decide) x h.1 (by have := h.2; omega)
  rw [hm]
  unfold halfS
  split
  · rename_i h1
    rw [h1]; rfl
  · rename_i h1
    have h0 : x % 2 = 0 := by omega
    rw [h0, show (3988292384 : Int) * 0 % 4294967296 = 0 by rfl]
    have hz : BitVec.ofInt IntKind.u32.bits 0 = 0#32 := rfl
    unfold bits
    simp only [IntKind.wrap_u32, hz]
    obtain ⟨a, ha⟩ := Int.eq_ofNat_of_zero_le (show 0 ≤ x / 2 by have := h.1; omega)
    have hl : a < 4294967296 := by have := h.2; omega
    have hx : (BitVec.ofInt IntKind.u32.bits (x / 2)) = BitVec.ofNat 32 a := by rw [ha]; rfl
    rw [hx]
    have hxz : (BitVec.ofNat 32 a ^^^ (0#32 : BitVec 32)) = BitVec.ofNat 32 a := BitVec.xor_zero
    have hnn : (BitVec.ofNat 32 a).toNat = a := by rw [BitVec.toNat_ofNat]; omega
    exact (congrArg (fun (z : BitVec 32) => ((z.toNat : Int) % 4294967296)) hxz).trans (by simp only [hnn]; omega)
/-- '^x', as the walk spells it. -/
theorem not_walk (x : Int) (h : U32 x) : wrap64 (bits .xor .u32 IntKind.u32.max x) = 4294967295 - x := by
  obtain ⟨a, rfl⟩ := Int.eq_ofNat_of_zero_le h.1
  have hl : a < 4294967296 := by have := h.2; omega
  have hm : BitVec.ofInt IntKind.u32.bits IntKind.u32.max = BitVec.allOnes 32 := rfl
  have hb : bits .xor .u32 IntKind.u32.max (a : Int) = 4294967295 - (a : Int) := by
    unfold bits
    simp only [IntKind.wrap_u32, hm]
    have hx : (BitVec.ofInt IntKind.u32.bits (a : Int)) = BitVec.ofNat 32 a := rfl
    rw [hx]
    have hxz : (BitVec.allOnes 32 ^^^ BitVec.ofNat 32 a) = ~~~ (BitVec.ofNat 32 a) := BitVec.allOnes_xor
    have hnn : (~~~ (BitVec.ofNat 32 a)).toNat = 4294967295 - a := by rw [BitVec.toNat_not, BitVec.toNat_ofNat]; omega
    exact (congrArg (fun (z : BitVec 32) => ((z.toNat : Int) % 4294967296)) hxz).trans (by simp only [hnn]; omega)
  rw [hb]
  exact IntWalk.wrap64_in _ (by omega)

set_option maxHeartbeats 1000000 in
theorem sum_any (w : World) (A : Option Addr) (m c : Nat) (l : List Int) (hBR : BR l) (hC : (Kd.int .u8).C w A m l) (hm : m ≤ 1000000000) :
    Calls Try.prog 77 #[.slice A m c] w (fun e w' => e = .returned (.int .i64 (sumS l)) ∧ w' = w) := by
  have hml := hC.1
  have HC := Lib.hid hC
  have Hml := Lib.hid hml
  clear hC hml
  go_enter Try.func77, Try.ntmps77
  go_wp2_with fail
  go_loop [8, 3] (fun i x => ∃ k : Nat, k ≤ m ∧ i = .int .i64 k ∧ x = .int .u32 (sumX (l.take k))) (fun i _ => m - (intOf i).toNat)
  case atStart => exact ⟨0, Nat.zero_le _, rfl, by simp [sumX]⟩
  case round =>
    obtain ⟨k, hk, rfl, rfl⟩ := hrel
    by_cases hlt : k < m
    · obtain ⟨ad, rfl, hx⟩ := Kd.at_int HC.out (k : Int) (by omega) (by omega)
      simp only [Int.toNat_natCast] at hx
      have hts := take_succ_rd l k (by have := Hml.out; omega)
      have hbr := hBR.get k (by have := Hml.out; omega)
      generalize rd l (k : Int) = y at hx hts hbr
      have Hts := Lib.hid hts
      have hu := sumX_u32 (l.take k)
      generalize hX : sumX (l.take k) = X at hu
      have HX := Lib.hid hX
      clear hts hX
      go_wp2_with fail
      go_loop [16, 3] (fun j x => ∃ i : Nat, i ≤ 8 ∧ j = .int .i64 i ∧ x = .int .u32 (halves i (bits .xor .u32 X y))) (fun j _ => 8 - (intOf j).toNat)
      case atStart => exact ⟨0, Nat.zero_le _, rfl, rfl⟩
      case round =>
        obtain ⟨i, hi, rfl, rfl⟩ := hrel
        have hu2 := halves_u32 i _ (xor_u32 X y)
        have hw2 := half_walk _ hu2
        by_cases hi8 : i < 8
        · generalize hZ : halves i (bits .xor .u32 X y) = Z at hu2 hw2
          have HZ := Lib.hid hZ
          have Hw2 := Lib.hid hw2
          clear hZ hw2
          go_wp2_with fail
          go_round
          case rel => exact ⟨i + 1, by omega, by go_num, by rw [Hw2.out, halves, HZ.out]⟩
          case measure => simp [intOf] <;> omega
        · have hi8' : i = 8 := by omega
          subst hi8'
          clear hw2 hu2
          have hst : sumX (l.take (k + 1)) = halves 8 (bits .xor .u32 X y) := by rw [Hts.out, sumX_snoc, HX.out]; rfl
          have Hst := Lib.hid hst
          clear hst
          go_wp2_with fail
          go_round
          case rel => exact ⟨k + 1, by omega, by go_num, by rw [Hst.out]⟩
          case measure => simp [intOf] <;> omega
    · have hkm : k = m := by omega
      subst hkm
      have htk : l.take k = l := List.take_of_length_le (by have := Hml.out; omega)
      have hu := sumX_u32 l
      have Htk := Lib.hid htk
      rw [htk]
      clear htk
      generalize hX : sumX l = X at hu ⊢
      have HX := Lib.hid hX
      clear hX
      have hsg : IntKind.u32.signed = false := rfl
      have hnw := not_walk X hu
      have Hnw := Lib.hid hnw
      clear hnw
      go_wp2_with fail
      go_ret
      exact ⟨by show Ending.returned (Value.int IntKind.i64 (wrap64 (bits BinOp.xor IntKind.u32 IntKind.u32.max X))) = _; rw [Hnw.out]; unfold sumS; rw [HX.out], rfl⟩
end Go.Proofs.Ytcplmaeicmmkgaa
