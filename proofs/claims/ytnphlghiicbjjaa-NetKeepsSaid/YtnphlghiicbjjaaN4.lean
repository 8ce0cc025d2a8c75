/- net: Find. -/
import Derived.Test.YtnphlghiicbjjaaN3
namespace Go.Proofs.Ytnphlghiicbjjaa
open Go Go.RowKit Go.Proofs.YtnphlghiicbjjaaW.PrintWords Go.Proofs.YtnphlghiicbjjaaW.PrintLast Go.Proofs.Ytnphlghiicbjjaa.PNetPlays
set_option linter.unusedVariables false
set_option linter.unusedSimpArgs false

def fits (k c : Int) (x : S40) : Bool := (x.f0 == k) && (x.f1 == c)
set_option maxHeartbeats 1000000 in
theorem close_any (w : World) (k ch : Int) (b1 b2 : Nat) (x : S40) (A : Option Addr) (n c : Nat) (h1 : w.cell? ⟨b1, 0, none⟩ = some (.int .i64 k)) (h2 : w.cell? ⟨b2, 0, none⟩ = some (.int .i64 ch)) :
    Calls Try.prog 53 #[.agg #[.int .i64 x.f0, .int .i64 x.f1, .slice A n c], .pointer (some ⟨b1, 0, none⟩), .pointer (some ⟨b2, 0, none⟩)] w (fun e w' => e = .returned (.bool (fits k ch x)) ∧ Below w.heap.size w w') := by
  have hB : Below w.heap.size w (w.alloc (.cells #[.int .i64 x.f0, .int .i64 x.f1, .slice A n c] 40)) := below_alloc (Below.refl _ _) _
  have HB := Lib.hid hB
  have c1 := cell_old hB h1
  have c2 := cell_old hB h2
  clear hB h1 h2
  unfold fits
  cases hk : (x.f0 == k) with
  | true =>
    go_enter Try.func53, Try.ntmps53
    go_wp2
    go_ret
    exact ⟨by simp, HB.out⟩
  | false =>
    go_enter Try.func53, Try.ntmps53
    go_wp2
    go_ret
    exact ⟨by simp, HB.out⟩

def idxP {α : Type} (p : α → Bool) (xs : List α) : Int := if xs.findIdx p < xs.length then (xs.findIdx p : Int) else -1
theorem idxP_hit {α : Type} {p : α → Bool} {xs : List α} {k : Nat} (hk : k < xs.length) (h : p xs[k] = true) (hn : ∀ j (hj : j < k), p (xs[j]'(by omega)) = false) : idxP p xs = k := by
  have he : xs.findIdx p = k := (List.findIdx_eq hk).2 ⟨h, fun j hj => hn j hj⟩
  unfold idxP
  rw [he, if_pos hk]
theorem idxP_no {α : Type} {p : α → Bool} {xs : List α} (hn : ∀ x, x ∈ xs → p x = false) : idxP p xs = -1 := by
  have he : xs.findIdx p = xs.length := List.findIdx_eq_length.2 hn
  unfold idxP
  rw [he, if_neg (by omega)]

theorem rd_get (xs : List S40) (k : Nat) (hk : k < xs.length) : rd_T40 xs (k : Int) = xs[k] := by
  unfold rd_T40
  rw [Int.toNat_natCast, List.getD_eq_getElem?_getD, List.getElem?_eq_getElem hk]; rfl
def FindPost (w : World) (k ch : Int) (xs : List S40) (e : Ending) (w' : World) : Prop := e = .returned (.int .i64 (idxP (fits k ch) xs)) ∧ Below w.heap.size w w'
set_option maxHeartbeats 1000000 in
theorem index_any (w : World) (k ch : Int) (b1 b2 : Nat) (xs : List S40) (A : Option Addr) (n c : Nat) (hC : k40.C w A n xs) (hn : n ≤ 1000000000) (h1 : w.cell? ⟨b1, 0, none⟩ = some (.int .i64 k)) (h2 : w.cell? ⟨b2, 0, none⟩ = some (.int .i64 ch)) :
    Calls Try.prog 52 #[.slice A n c, .func (.func 53) #[] #[.pointer (some ⟨b1, 0, none⟩), .pointer (some ⟨b2, 0, none⟩)]] w (FindPost w k ch xs) := by
  have HC := Lib.hid hC
  have Hl := Lib.hid hC.1
  have H1 := Lib.hid h1
  have H2 := Lib.hid h2
  clear hC h1 h2
  go_enter Try.func52, Try.ntmps52
  go_wp2_with fail
  go_loopw [5, 8] (fun _ s8 wr => ∃ kk : Nat, kk ≤ n ∧ s8 = .int .i64 kk ∧ Hid (Below w.heap.size w wr) ∧ Hid (∀ j (hj : j < xs.length), j < kk → fits k ch xs[j] = false)) (fun _ s8 _ => n - (intOf s8).toNat)
  case atStart => exact ⟨0, Nat.zero_le _, rfl, Lib.hid (Below.refl _ w), Lib.hid (fun j _ hj => absurd hj (Nat.not_lt_zero _))⟩
  case round =>
    obtain ⟨kk, hkk, rfl, HB, HA⟩ := hrel
    by_cases hlt : kk < n
    · have hw1 : IntKind.i64.wrap ((kk : Int) + 1) = (kk : Int) + 1 := IntWalk.i64_in _ (by omega)
      have hkx : kk < xs.length := by rw [Hl.out]; exact hlt
      obtain ⟨ad, A2, c2, rfl, e0, e1, e2, hle, hC2⟩ := at_T40 HC.out (kk : Int) (by omega) (by omega)
      rw [Int.toNat_natCast] at e0 e1 e2
      rw [rd_get xs kk hkx] at e0 e1 e2 hle hC2
      generalize hx : xs[kk] = x at e0 e1 e2 hle hC2
      have HX := Lib.hid hx
      have E0 := cell_old HB.out e0
      have E1 := cell_old HB.out e1
      have E2 := cell_old HB.out e2
      clear hx e0 e1 e2 hle hC2
      cases hf : fits k ch x with
      | true =>
        go_wp2_with fail
        refine (close_any wr k ch b1 b2 x A2 x.f2.length c2 (cell_old HB.out H1.out) (cell_old HB.out H2.out)).mono ?_
        rintro e w1 ⟨rfl, hb⟩
        rw [hf]
        have HB1 := Lib.hid (HB.out.trans (hb.mono HB.out.size))
        have Hfin := Lib.hid (idxP_hit hkx (by rw [HX.out]; exact hf) (fun j hj => HA.out j (by omega) hj))
        clear hb
        go_wp2_with fail
        go_ret
        exact ⟨by rw [Hfin.out]; rfl, HB1.out⟩
      | false =>
        go_wp2_with fail
        refine (close_any wr k ch b1 b2 x A2 x.f2.length c2 (cell_old HB.out H1.out) (cell_old HB.out H2.out)).mono ?_
        rintro e w1 ⟨rfl, hb⟩
        rw [hf]
        have HB1 := Lib.hid (HB.out.trans (hb.mono HB.out.size))
        have Hf := Lib.hid hf
        clear hb hf
        go_wp2_with fail
        go_roundw
        case rel => exact ⟨kk + 1, by omega, by go_num, HB1, Lib.hid (fun j hj hjk => by
          by_cases hjj : j < kk
          · exact HA.out j hj hjj
          · have : j = kk := by omega
            subst this
            rw [HX.out]; exact Hf.out)⟩
        case measure => simp [intOf] <;> omega
    · have hkm : kk = n := by omega
      subst hkm
      have Hfin := Lib.hid (idxP_no (p := fits k ch) (xs := xs) (fun x hx => by
        obtain ⟨j, hj, rfl⟩ := List.mem_iff_getElem.1 hx
        exact HA.out j hj (by have := Hl.out; omega)))
      go_wp2_with fail
      go_ret
      exact ⟨by rw [Hfin.out]; rfl, HB.out⟩

theorem find_nil (w : World) (k ch : Int) : Calls Try.prog 19 #[.pointer none, .int .i64 k, .int .i64 ch] w (fun e w' => e = .returned (.int .i64 (-1)) ∧ Below w.heap.size w w') := by
  go_enter Try.func19, Try.ntmps19
  go_wp2
  go_ret
  exact ⟨rfl, below_alloc (below_alloc (Below.refl _ _) _) _⟩
set_option maxHeartbeats 1000000 in
theorem find_any (w : World) (F : Nat → Prop) (b : Nat) (xs : List S40) (r q : Int) (hF : NtAt w F b xs r q) (hl : xs.length ≤ 1000000000) (k ch : Int) :
    Calls Try.prog 19 #[.pointer (some ⟨b, 0, none⟩), .int .i64 k, .int .i64 ch] w (FindPost w k ch xs) := by
  obtain ⟨h1, h2, A, n, c, h5, h6⟩ := hF
  obtain ⟨hn, hc, hC⟩ := Kd.R_reads' h6
  subst hn
  have hB : Below w.heap.size w ((w.alloc (.cells #[.int .i64 k] 3)).alloc (.cells #[.int .i64 ch] 3)) := below_alloc (below_alloc (Below.refl _ _) _) _
  have c0 := cell_old hB (h5.cell 0 _ rfl)
  have HB := Lib.hid hB
  have HC := Lib.hid (C_kp hC hB)
  clear h5 h6 h2 hC hc hB
  go_enter Try.func19, Try.ntmps19
  go_wp2_with fail
  refine (index_any _ k ch w.heap.size (w.heap.size + 1) xs A xs.length c HC.out hl (by go_simp) (by go_simp)).mono ?_
  rintro e w1 ⟨rfl, hb⟩
  have HB1 := Lib.hid (HB.out.trans (hb.mono (by simp; omega)))
  clear hb
  go_wp2_with fail
  go_ret
  exact ⟨rfl, HB1.out⟩
end Go.Proofs.Ytnphlghiicbjjaa
