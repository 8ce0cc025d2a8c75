/- rutterlaw18: puts; an item as the document has it. -/
import Derived.Test.YtnphlghiicbjjaaN12
import Derived.Lib.Bytes
namespace Go.Proofs.Ytnphlghiicbjjaa
open Go Go.RowKit Go.Proofs.YtnphlghiicbjjaaW.PrintWords Go.Proofs.YtnphlghiicbjjaaW.PrintLast Go.Proofs.Ytnphlghiicbjjaa.PNetPlays
set_option linter.unusedVariables false
set_option linter.unusedSimpArgs false

theorem str_size (xs : List Int) : (strOfNums xs).size = xs.length := by
  show Array.size _ = _
  simp [strOfNums]
def toR (x : S40) : S49 := ⟨x.f0, x.f1, strOfNums x.f2⟩
theorem ok_toR (x : S40) : okR (toR x) = okI x := by
  unfold okR okI toR
  dsimp only
  rw [str_size]
  congr 1
  congr 1
  · congr 1
    congr 1
    exact decide_eq_decide.2 (by omega)
  · exact decide_eq_decide.2 (by omega)
theorem fits_toR (k c : Int) (x : S40) : fitsR k c (toR x) = fits k c x := rfl
theorem idx_toR (k c : Int) (xs : List S40) : idxP (fitsR k c) (xs.map toR) = idxP (fits k c) xs := by
  unfold idxP
  rw [List.findIdx_map, List.length_map]
  rfl
theorem rd_toR (xs : List S40) (i : Int) (h0 : 0 ≤ i) (h1 : i < xs.length) : rd_T49 (xs.map toR) i = toR (rd_T40 xs i) := by
  obtain ⟨k, rfl⟩ : ∃ k : Nat, i = k := ⟨i.toNat, by omega⟩
  rw [rd_get49 _ k (by rw [List.length_map]; omega), rd_get _ k (by omega), List.getElem_map]

theorem of_any (w : World) (x : S40) (v : Value) (hI : ItemC w x v) : Calls Try.prog 21 #[v] w (fun e w' => e = .returned (val49 (toR x)) ∧ Below w.heap.size w w') := by
  obtain ⟨A, c, rfl, hc, hC⟩ := hI
  exact rutterlaw18_Of.calls x.f0 x.f1 A c x.f2 _ _ _ w hC hc rfl

def RPutsPost (w : World) (F : Nat → Prop) (b : Nat) (s : List S40 × Nat × Nat) (r : Int) (e : Ending) (w' : World) : Prop :=
  e = .returned (.int .i64 (s.2.1 : Nat)) ∧ RnAt w' (ext F w w') b (s.1.map toR) r (s.2.2 : Nat) ∧ Kp F w w'
def RPutInv (w wr : World) (F : Nat → Prop) (b : Nat) (s : List S40 × Nat × Nat) (r : Int) : Prop := RnAt wr (ext F w wr) b (s.1.map toR) r (s.2.2 : Nat) ∧ Kp F w wr
set_option maxRecDepth 10000 in
set_option maxHeartbeats 4000000 in
theorem puts_any (w : World) (F : Nat → Prop) (b : Nat) (xs : List S40) (r : Int) (q : Nat) (hF : RnAt w F b (xs.map toR) r (q : Nat)) (A : Option Addr) (m c : Nat) (l : List S40) (hC : ∀ w', Kp F w w' → k40.C w' A m l)
    (hl : xs.length + m ≤ 100000000) (hq : q + m ≤ 100000000) : Calls Try.prog 47 #[.pointer (some ⟨b, 0, none⟩), .slice A m c] w (RPutsPost w F b (putAll r (xs, 0, q) l) r) := by
  have hI0 : RPutInv w w F b (putAll r (xs, 0, q) (l.take 0)) r := ⟨hF.mono (fun k hk => .inl hk) (hF.2.1.ext (Nat.le_refl _)), Kp.refl F w⟩
  have HI0 := Lib.hid hI0
  have Hl := Lib.hid (hC w (Kp.refl F w)).1
  have HC := Lib.hid hC
  have HFb := Lib.hid hF.1
  have HFlt := Lib.hid hF.2.1
  clear hI0 hC hF
  go_enter Try.func47, Try.ntmps47
  go_wp2_with fail
  go_loopw [5, 6] (fun v5 v6 wr => ∃ (k : Nat) (s : List S40 × Nat × Nat), k ≤ m ∧ v6 = .int .i64 k ∧ v5 = .int .i64 (s.2.1 : Nat) ∧ Hid (s = putAll r (xs, 0, q) (l.take k)) ∧ Hid (RPutInv w wr F b s r)) (fun _ v6 _ => m - (intOf v6).toNat)
  case atStart => exact ⟨0, _, Nat.zero_le _, rfl, rfl, Lib.hid rfl, HI0⟩
  case round =>
    obtain ⟨k, s, hk, rfl, rfl, HS, HP⟩ := hrel
    by_cases hlt : k < m
    · have hw1 : IntKind.i64.wrap ((k : Int) + 1) = (k : Int) + 1 := IntWalk.i64_in _ (by omega)
      have hkl : k < l.length := by rw [Hl.out]; exact hlt
      have hCr := HC.out wr HP.out.2
      obtain ⟨ad, A2, c2, rfl, e0, e1, e2, hle, hC2⟩ := at_T40 hCr (k : Int) (by omega) (by omega)
      rw [Int.toNat_natCast] at e0 e1 e2
      have hrd : rd_T40 l (k : Int) = l[k] := rd_get l k hkl
      rw [hrd] at e0 e1 e2 hle hC2
      have hnx : putAll r (xs, 0, q) (l.take (k + 1)) = putStep r s l[k] := by rw [List.take_succ_eq_append_getElem hkl, putAll_snoc, ← HS.out]
      generalize l[k] = x at e0 e1 e2 hle hC2 hnx
      have HNx := Lib.hid hnx
      have HC2 := Lib.hid hC2
      have hsl : s.1.length + 0 = xs.length + s.2.1 ∧ s.2.1 + s.2.2 = 0 + q + (l.take k).length := by
        have := putAll_len r (xs, 0, q) (l.take k)
        rw [← HS.out] at this
        exact this
      rw [List.length_take] at hsl
      obtain ⟨hs1, hs2⟩ := hsl
      have hs2' : s.2.1 + s.2.2 ≤ q + k := by omega
      have hw2 : IntKind.i64.wrap (((s.2.1 : Nat) : Int) + 1) = ((s.2.1 : Nat) : Int) + 1 := IntWalk.i64_in _ (by omega)
      clear hCr hrd hnx hC2 hs2
      go_wp2_with fail
      refine (of_any wr x _ ⟨A2, c2, rfl, hle, HC2.out⟩).mono ?_
      rintro e w1 ⟨rfl, hB1⟩
      have HN1 := Lib.hid (HP.out.1.below hB1)
      have HK1 := Lib.hid (HP.out.2.below hB1)
      have hz1 : wr.heap.size ≤ w1.heap.size := hB1.size
      have hzw := HP.out.2.size
      clear hB1 e0 e1 e2
      go_wp2_with fail
      by_cases hok : okI x = true ∧ (s.1.length : Int) < r
      · have HST := Lib.hid (show putStep r s x = (s.1 ++ [x], s.2.1 + 1, s.2.2) by unfold putStep; rw [if_pos hok])
        refine (rput_ok w1 _ b _ r _ HN1.out (toR x) (by rw [List.length_map]; omega) (by rw [ok_toR]; exact hok.1) (by rw [List.length_map]; have := hok.2; omega)).mono ?_
        rintro e w2 ⟨rfl, hN2, hK2⟩
        have hKf : Kp F w w2 := HK1.out.trans hK2 (fun k hk h => by
          rcases h with h | h
          · exact h
          · omega)
        have hz2 := hK2.size
        have hI : RPutInv w w2 F b (s.1 ++ [x], s.2.1 + 1, s.2.2) r := ⟨by
          show RnAt w2 _ b ((s.1 ++ [x]).map toR) r _
          rw [List.map_append]
          refine hN2.mono (fun k hk => ?_) (HFlt.out.ext hKf.size)
          rcases hk with (h | h) | h
          · exact .inl h
          · exact .inr ⟨h.1, by have := h.2; omega⟩
          · exact .inr ⟨by have := h.1; omega, h.2⟩, hKf⟩
        have HI := Lib.hid hI
        clear hN2 hK2 hKf hI hok
        go_wp2_with fail
        go_roundw
        case rel => exact ⟨k + 1, (s.1 ++ [x], s.2.1 + 1, s.2.2), by omega, by go_num, by go_num, Lib.hid (HNx.out.trans HST.out).symm, HI⟩
        case measure => simp [intOf] <;> omega
      · have HST := Lib.hid (show putStep r s x = (s.1, s.2.1, s.2.2 + 1) by unfold putStep; rw [if_neg hok])
        refine (rput_lost w1 _ b _ r _ HN1.out (toR x) ⟨by omega, by omega⟩ (by
          rw [List.length_map, ok_toR]
          cases h : okI x with
          | false => exact .inl rfl
          | true => right; have h3 : ¬ (s.1.length : Int) < r := fun h2 => hok ⟨h, h2⟩; omega)).mono ?_
        rintro e w2 ⟨rfl, hN2, hK2⟩
        have hKf : Kp F w w2 := HK1.out.trans hK2 (fun k hk h => by
          rcases h with h | h
          · exact h
          · omega)
        have hz2 := hK2.size
        have hI : RPutInv w w2 F b (s.1, s.2.1, s.2.2 + 1) r := ⟨by
          refine hN2.mono (fun k hk => ?_) (HFlt.out.ext hKf.size)
          rcases hk with (h | h) | h
          · exact .inl h
          · exact .inr ⟨h.1, by have := h.2; omega⟩
          · exact .inr ⟨by have := h.1; omega, h.2⟩, hKf⟩
        have HI := Lib.hid hI
        clear hN2 hK2 hKf hI hok
        go_wp2_with fail
        go_roundw
        case rel => exact ⟨k + 1, (s.1, s.2.1, s.2.2 + 1), by omega, by go_num, rfl, Lib.hid (HNx.out.trans HST.out).symm, HI⟩
        case measure => simp [intOf] <;> omega
    · have hkm : k = m := by omega
      subst hkm
      have hfin : s = putAll r (xs, 0, q) l := by rw [HS.out, List.take_of_length_le (by have := Hl.out; omega)]
      have HFin := Lib.hid hfin
      clear hfin
      go_wp2_with fail
      go_ret
      rw [← HFin.out]
      exact ⟨rfl, HP.out.1, HP.out.2⟩
end Go.Proofs.Ytnphlghiicbjjaa
