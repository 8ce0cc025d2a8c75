/- buf's Reader: Get, Bytes, Rest, Done, Read. -/
import Derived.Test.YtcplmaeicmmkgaaA3
namespace Go.Proofs.Ytcplmaeicmmkgaa
open Go Go.RowKit Go.Proofs.YtcplmaeicmmkgaaW.PrintWords Go.Proofs.YtcplmaeicmmkgaaW.PrintLast
set_option linter.unusedVariables false
set_option linter.unusedSimpArgs false

def beV (l : List Int) : Int := l.foldl (fun x c => x * 256 + c) 0
theorem beV_snoc (l : List Int) (c : Int) : beV (l ++ [c]) = beV l * 256 + c := by simp [beV]
theorem beV_bound (l : List Int) (h : BR l) : 0 ≤ beV l ∧ beV l < 256 ^ l.length := by
  suffices ∀ (n : Nat) (l : List Int), l.length = n → BR l → 0 ≤ beV l ∧ beV l < 256 ^ n by
    exact this l.length l rfl h
  intro n
  induction n with
  | zero => intro l hl _; rw [List.eq_nil_of_length_eq_zero hl]; simp [beV]
  | succ n ih =>
    intro l hl hb
    rcases List.eq_nil_or_concat l with rfl | ⟨l', x, rfl⟩
    · simp at hl
    · simp only [List.concat_eq_append] at hl hb ⊢
      obtain ⟨h1, h2⟩ := ih l' (by simpa using hl) (fun y hy => hb y (by simp [hy]))
      have h3 := hb x (by simp)
      rw [beV_snoc, Int.pow_succ]
      omega

theorem pow256_le (n : Nat) (h : n ≤ 6) : (256 : Int) ^ n ≤ 281474976710656 := by
  rcases (by omega : n = 0 ∨ n = 1 ∨ n = 2 ∨ n = 3 ∨ n = 4 ∨ n = 5 ∨ n = 6) with rfl | rfl | rfl | rfl | rfl | rfl | rfl <;> decide
theorem or_byte (a x : Int) (h0 : 0 ≤ a) (h1 : a < 281474976710656) (h2 : 0 ≤ x) (h3 : x ≤ 255) : bits BinOp.or IntKind.i64 (wrap64 (a * 256)) (wrap64 x) = a * 256 + x := by
  rw [IntWalk.wrap64_in _ (by omega), IntWalk.wrap64_in _ (by omega)]
  exact bits_join .i64 63 (by decide) (fun n hn0 hn1 => IntWalk.i64_in n (by omega)) 8 (a * 256) x (by omega) (by omega) (by omega) h2 (by omega) (by omega)
def getBad (n : Nat) (l : List Int) (f : Bool) : Bool := f || decide (l.length < n)
def GetPost (w : World) (F : Nat → Prop) (b : Nat) (l : List Int) (f : Bool) (n : Nat) (e : Ending) (w' : World) : Prop :=
  e = .returned (.int .i64 (if getBad n l f then 0 else beV (l.take n))) ∧ RdAt w' F b (if getBad n l f then l else l.drop n) (getBad n l f) ∧ Kp F w w' ∧ w'.heap.size = w.heap.size

set_option maxHeartbeats 1000000 in
theorem get_any (w : World) (F : Nat → Prop) (b : Nat) (l : List Int) (f : Bool) (n : Nat) (hn : 1 ≤ n) (hn8 : n < 8) (hR : RdAt w F b l f) : Calls Try.prog 111 #[.pointer (some ⟨b, 0, none⟩), .int .i64 n] w (GetPost w F b l f n) := by
  have d1 : decide ((n : Int) < 1) = false := by simp; omega
  have d8 : decide ((8 : Int) < (n : Int)) = false := by simp; omega
  have d9 : ((n : Int) == 8) = false := by simp; omega
  have HR := Lib.hid hR
  obtain ⟨hb, hF, hBR, A, m, c, hB, hQ⟩ := hR
  clear hF
  have hm := (Kd.Q_reads' hQ).1
  have c0 := hB.cell 0 _ rfl
  have c1 := hB.cell 1 _ rfl
  clear hB hQ
  cases hbad : getBad n l f with
  | true =>
    have Hbad := Lib.hid hbad
    have hor : (f || decide (m < n)) = true := by
      simp only [getBad] at hbad; rw [hm]; exact hbad
    have Hor := Lib.hid hor
    clear hbad hor hm
    go_enter Try.func111, Try.ntmps111
    go_wp2_with fail
    refine (fails_any w F b l f _ HR.out).mono ?_
    rintro e w1 ⟨rfl, hR1, hK1, hs1⟩
    rw [Hor.out] at hR1 ⊢
    have HR1 := Lib.hid hR1
    have Hs1 := Lib.hid hs1
    clear hR1 hs1
    go_wp2_with fail
    go_ret
    exact ⟨by simp [Hbad.out], by simp only [Hbad.out, if_true]; exact HR1.out, hK1, Hs1.out⟩
  | false =>
    have Hbad := Lib.hid hbad
    simp only [getBad, Bool.or_eq_false_iff, decide_eq_false_iff_not] at hbad
    obtain ⟨rfl, hlen⟩ := hbad
    have hd : decide (m < n) = false := by simp; omega
    have Hm := Lib.hid hm
    clear hm
    go_enter Try.func111, Try.ntmps111
    go_wp2_with fail
    refine (fails_any w F b l false _ HR.out).mono ?_
    rintro e w1 ⟨rfl, hR1, hK1, hs1⟩
    have HK1 := Lib.hid hK1
    clear hK1
    have HR1 := Lib.hid hR1
    have Hs1 := Lib.hid hs1
    clear hR1 hs1
    go_wp2_with fail
    refine (fails_any w1 F b l false _ HR1.out).mono ?_
    rintro e w2 ⟨rfl, hR2, hK2, hs2⟩
    have HK2 := Lib.hid hK2
    clear hK2
    have HR2 := Lib.hid hR2
    have Hs2 := Lib.hid hs2
    clear hR2 hs2
    go_wp2_with fail
    refine (take_any w2 F b l n HR2.out (by omega)).mono ?_
    rintro e w3 ⟨A3, n3, c3, rfl, hC3, hR3, hK3, hs3⟩
    have HK3 := Lib.hid hK3
    clear hK3
    have HC3 := Lib.hid hC3
    have HR3 := Lib.hid hR3
    have Hs3 := Lib.hid hs3
    have hn3 : n3 = n := by have := hC3.1; rw [List.length_take] at this; omega
    subst hn3
    clear hC3 hR3 hs3
    go_wp2_with fail
    go_loop [48, 5] (fun i x => ∃ k : Nat, k ≤ n3 ∧ i = .int .i64 k ∧ x = .int .i64 (beV ((l.take n3).take k))) (fun i _ => n3 - (intOf i).toNat)
    case atStart => exact ⟨0, Nat.zero_le _, rfl, by simp [beV]⟩
    case round =>
      obtain ⟨k, hk, rfl, rfl⟩ := hrel
      by_cases hlt : k < n3
      · obtain ⟨ad, rfl, hx⟩ := Kd.at_int HC3.out (k : Int) (by omega) (by omega)
        simp only [Int.toNat_natCast] at hx
        have hts := take_succ_rd (l.take n3) k (by rw [List.length_take]; omega)
        have hbr := (hBR.take n3).get k (by rw [List.length_take]; omega)
        have hbv := beV_bound ((l.take n3).take k) ((hBR.take n3).take k)
        have hbl : ((l.take n3).take k).length ≤ 6 := by simp; omega
        have hbb : beV ((l.take n3).take k) < 281474976710656 := Int.lt_of_lt_of_le hbv.2 (pow256_le _ hbl)
        have hor := or_byte _ _ hbv.1 hbb hbr.1 hbr.2
        have Hor := Lib.hid hor
        have Hts := Lib.hid hts
        clear hts hbr hbv hbb hor hbl
        go_wp2_with fail
        go_round
        case rel => exact ⟨k + 1, by omega, by go_num, by rw [Hts.out, beV_snoc, Hor.out]⟩
        case measure => simp [intOf] <;> omega
      · have hkn : k = n3 := by omega
        subst hkn
        go_wp2_with fail
        go_ret
        refine ⟨?_, ?_, (HK1.out.trans HK2.out (fun _ _ h => h)).trans HK3.out (fun _ _ h => h), by rw [Hs3.out, Hs2.out, Hs1.out]⟩
        · have e1 : (l.take k).take k = l.take k := by rw [List.take_take, Nat.min_self]
          rw [Hbad.out, e1]; rfl
        · simp only [Hbad.out]; exact HR3.out
end Go.Proofs.Ytcplmaeicmmkgaa
