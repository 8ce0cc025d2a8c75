/- track: closures; slices.IndexFunc of records. -/
import Derived.Test.YtcplmaeicmmkgaaT1
namespace Go.Proofs.Ytcplmaeicmmkgaa
open Go Go.RowKit Go.Proofs.YtcplmaeicmmkgaaW.PrintWords Go.Proofs.YtcplmaeicmmkgaaW.PrintLast Go.Proofs.Ytcplmaeicmmkgaa.PTrackPlays
set_option linter.unusedVariables false
set_option linter.unusedSimpArgs false

notation "pt" b:max => Value.pointer (some (Addr.mk b 0 none))
def Box70 (w : World) (b : Nat) (f : S70) : Prop := Blk w b 70 [.int .i64 f.f0, .int .u32 f.f1, .int .u32 f.f2, .int .i64 f.f3, .int .i64 f.f4]
set_option maxHeartbeats 1000000 in
theorem at1_any (w : World) (x : S83) (f : S70) (b : Nat) (hb : Box70 w b f) : Calls Try.prog 131 #[v83 x, pt b] w (fun e w' => e = .returned (.bool (alikeF x.f0 f)) ∧ Below w.heap.size w w') := by
  have hal := fun w' => alike_any w' x.f0 f
  have h1 := hb.alloc (.cells #[.int .i64 x.f0.f0, .int .u32 x.f0.f1, .int .u32 x.f0.f2, .int .i64 x.f0.f3, .int .i64 x.f0.f4, .int .i64 x.f1] 83)
  have hlt := hb.lt
  have hB : Below w.heap.size w (w.alloc (.cells #[.int .i64 x.f0.f0, .int .u32 x.f0.f1, .int .u32 x.f0.f2, .int .i64 x.f0.f3, .int .i64 x.f0.f4, .int .i64 x.f1] 83)) := below_alloc (Below.refl _ _) _
  have HB := Lib.hid hB
  have c0 := h1.cell 0 _ rfl
  have c1 := h1.cell 1 _ rfl
  have c2 := h1.cell 2 _ rfl
  have c3 := h1.cell 3 _ rfl
  have c4 := h1.cell 4 _ rfl
  clear h1 hb hB
  unfold v70 at *
  go_enter Try.func131, Try.ntmps131
  go_wp2_with fail
  refine (hal _).mono ?_
  rintro e w2 ⟨rfl, hB2⟩
  have HB2 := Lib.hid (HB.out.trans (hB2.mono HB.out.size))
  clear hB2 c0 c1 c2 c3 c4
  go_wp2_with fail
  go_ret
  exact ⟨rfl, HB2.out⟩
def liveF (now : Int) (x : S83) : Bool := decide (now < x.f1)
set_option maxHeartbeats 1000000 in
theorem rec1_any (w : World) (x : S83) (now : Int) (b : Nat) (hb : w.cell? ⟨b, 0, none⟩ = some (.int .i64 now)) : Calls Try.prog 96 #[v83 x, pt b] w (fun e w' => e = .returned (.bool (!liveF now x)) ∧ Below w.heap.size w w') := by
  have hB : Below w.heap.size w (w.alloc (.cells #[.int .i64 x.f0.f0, .int .u32 x.f0.f1, .int .u32 x.f0.f2, .int .i64 x.f0.f3, .int .i64 x.f0.f4, .int .i64 x.f1] 83)) := below_alloc (Below.refl _ _) _
  have HB := Lib.hid hB
  have c0 := cell_old hB hb
  clear hb hB
  go_enter Try.func96, Try.ntmps96
  go_wp2_with fail
  go_ret
  refine ⟨?_, HB.out⟩
  unfold liveF
  congr 2
  by_cases h : now < x.f1
  · rw [decide_eq_true h, decide_eq_false (by omega)]; rfl
  · rw [decide_eq_false h, decide_eq_true (by omega)]; rfl

def idxP {α : Type} (p : α → Bool) (xs : List α) : Int := if xs.findIdx p < xs.length then (xs.findIdx p : Int) else -1
theorem idxP_hit {α : Type} {p : α → Bool} {xs : List α} {k : Nat} (hk : k < xs.length) (h : p xs[k] = true) (hn : ∀ j (hj : j < k), p (xs[j]'(by omega)) = false) : idxP p xs = k := by
  have he : xs.findIdx p = k := (List.findIdx_eq hk).2 ⟨h, fun j hj => hn j hj⟩
  unfold idxP
  rw [he, if_pos hk]
theorem idxP_no {α : Type} {p : α → Bool} {xs : List α} (hn : ∀ x, x ∈ xs → p x = false) : idxP p xs = -1 := by
  have he : xs.findIdx p = xs.length := List.findIdx_eq_length.2 hn
  unfold idxP
  rw [he, if_neg (by omega)]
theorem rd_get83 (xs : List S83) (k : Nat) (hk : k < xs.length) : rd_T83 xs (k : Int) = xs[k] := by
  unfold rd_T83
  rw [Int.toNat_natCast, List.getD_eq_getElem?_getD, List.getElem?_eq_getElem hk]; rfl
/-- What a closure over one box answers. -/
def Clo (w : World) (id : FuncId) (b : Nat) (p : S83 → Bool) : Prop := ∀ x, Calls Try.prog id #[v83 x, pt b] w (fun e w' => e = .returned (.bool (p x)) ∧ Below w.heap.size w w')
def FindPost (w : World) (p : S83 → Bool) (xs : List S83) (e : Ending) (w' : World) : Prop := e = .returned (.int .i64 (idxP p xs)) ∧ Below w.heap.size w w'
set_option maxRecDepth 10000 in
set_option maxHeartbeats 1000000 in
theorem index_131 (w : World) (b : Nat) (p : S83 → Bool) (hp : ∀ w', Below w.heap.size w w' → Clo w' 131 b p) (xs : List S83) (A : Option Addr) (n c : Nat) (hC : k83.C w A n xs) (hn : n ≤ 1000000000) :
    Calls Try.prog 130 #[.slice A n c, .func (.func 131) #[] #[pt b]] w (FindPost w p xs) := by
  have HC := Lib.hid hC
  have Hl := Lib.hid hC.1
  have HP := Lib.hid hp
  clear hC hp
  go_enter Try.func130, Try.ntmps130
  go_wp2_with fail
  go_loopw [5, 8] (fun _ s8 wr => ∃ kk : Nat, kk ≤ n ∧ s8 = .int .i64 kk ∧ Hid (Below w.heap.size w wr) ∧ Hid (∀ j (hj : j < xs.length), j < kk → p xs[j] = false)) (fun _ s8 _ => n - (intOf s8).toNat)
  case atStart => exact ⟨0, Nat.zero_le _, rfl, Lib.hid (Below.refl _ w), Lib.hid (fun j _ hj => absurd hj (Nat.not_lt_zero _))⟩
  case round =>
    obtain ⟨kk, hkk, rfl, HB, HA⟩ := hrel
    by_cases hlt : kk < n
    · have hw1 : IntKind.i64.wrap ((kk : Int) + 1) = (kk : Int) + 1 := IntWalk.i64_in _ (by omega)
      have hkx : kk < xs.length := by rw [Hl.out]; exact hlt
      obtain ⟨ad, rfl, e0, e1, e2, e3, e4, e5⟩ := at_T83 HC.out (kk : Int) (by omega) (by omega)
      rw [Int.toNat_natCast] at e0 e1 e2 e3 e4 e5
      rw [rd_get83 xs kk hkx] at e0 e1 e2 e3 e4 e5
      generalize hx : xs[kk] = x at e0 e1 e2 e3 e4 e5
      have HX := Lib.hid hx
      have E0 := cell_old HB.out e0
      have E1 := cell_old HB.out e1
      have E2 := cell_old HB.out e2
      have E3 := cell_old HB.out e3
      have E4 := cell_old HB.out e4
      have E5 := cell_old HB.out e5
      clear hx e0 e1 e2 e3 e4 e5
      go_wp2_with fail
      refine (HP.out wr HB.out x).mono ?_
      rintro e w1 ⟨rfl, hb⟩
      have HB1 := Lib.hid (HB.out.trans (hb.mono HB.out.size))
      clear hb E0 E1 E2 E3 E4 E5
      cases hf : p x with
      | true =>
        have Hfin := Lib.hid (idxP_hit hkx (by rw [HX.out]; exact hf) (fun j hj => HA.out j (by omega) hj))
        clear hf
        go_wp2_with fail
        go_ret
        exact ⟨by rw [Hfin.out]; rfl, HB1.out⟩
      | false =>
        have Hf := Lib.hid hf
        clear hf
        go_wp2_with fail
        go_roundw
        case rel => exact ⟨kk + 1, by omega, by go_num, HB1, Lib.hid (fun j hj hjk => by
          by_cases hjj : j < kk
          · exact HA.out j hj hjj
          · have : j = kk := by omega
            subst this
            rw [HX.out]; exact Hf.out)⟩
        case measure => simp [intOf] <;> omega
    · have hkm : kk = n := by omega
      subst hkm
      have Hfin := Lib.hid (idxP_no (p := p) (xs := xs) (fun x hx => by
        obtain ⟨j, hj, rfl⟩ := List.mem_iff_getElem.1 hx
        exact HA.out j hj (by have := Hl.out; omega)))
      go_wp2_with fail
      go_ret
      exact ⟨by rw [Hfin.out]; rfl, HB.out⟩
set_option maxRecDepth 10000 in
set_option maxHeartbeats 1000000 in
theorem index_96 (w : World) (b : Nat) (p : S83 → Bool) (hp : ∀ w', Below w.heap.size w w' → Clo w' 96 b p) (xs : List S83) (A : Option Addr) (n c : Nat) (hC : k83.C w A n xs) (hn : n ≤ 1000000000) :
    Calls Try.prog 130 #[.slice A n c, .func (.func 96) #[] #[pt b]] w (FindPost w p xs) := by
  have HC := Lib.hid hC
  have Hl := Lib.hid hC.1
  have HP := Lib.hid hp
  clear hC hp
  go_enter Try.func130, Try.ntmps130
  go_wp2_with fail
  go_loopw [5, 8] (fun _ s8 wr => ∃ kk : Nat, kk ≤ n ∧ s8 = .int .i64 kk ∧ Hid (Below w.heap.size w wr) ∧ Hid (∀ j (hj : j < xs.length), j < kk → p xs[j] = false)) (fun _ s8 _ => n - (intOf s8).toNat)
  case atStart => exact ⟨0, Nat.zero_le _, rfl, Lib.hid (Below.refl _ w), Lib.hid (fun j _ hj => absurd hj (Nat.not_lt_zero _))⟩
  case round =>
    obtain ⟨kk, hkk, rfl, HB, HA⟩ := hrel
    by_cases hlt : kk < n
    · have hw1 : IntKind.i64.wrap ((kk : Int) + 1) = (kk : Int) + 1 := IntWalk.i64_in _ (by omega)
      have hkx : kk < xs.length := by rw [Hl.out]; exact hlt
      obtain ⟨ad, rfl, e0, e1, e2, e3, e4, e5⟩ := at_T83 HC.out (kk : Int) (by omega) (by omega)
      rw [Int.toNat_natCast] at e0 e1 e2 e3 e4 e5
      rw [rd_get83 xs kk hkx] at e0 e1 e2 e3 e4 e5
      generalize hx : xs[kk] = x at e0 e1 e2 e3 e4 e5
      have HX := Lib.hid hx
      have E0 := cell_old HB.out e0
      have E1 := cell_old HB.out e1
      have E2 := cell_old HB.out e2
      have E3 := cell_old HB.out e3
      have E4 := cell_old HB.out e4
      have E5 := cell_old HB.out e5
      clear hx e0 e1 e2 e3 e4 e5
      go_wp2_with fail
      refine (HP.out wr HB.out x).mono ?_
      rintro e w1 ⟨rfl, hb⟩
      have HB1 := Lib.hid (HB.out.trans (hb.mono HB.out.size))
      clear hb E0 E1 E2 E3 E4 E5
      cases hf : p x with
      | true =>
        have Hfin := Lib.hid (idxP_hit hkx (by rw [HX.out]; exact hf) (fun j hj => HA.out j (by omega) hj))
        clear hf
        go_wp2_with fail
        go_ret
        exact ⟨by rw [Hfin.out]; rfl, HB1.out⟩
      | false =>
        have Hf := Lib.hid hf
        clear hf
        go_wp2_with fail
        go_roundw
        case rel => exact ⟨kk + 1, by omega, by go_num, HB1, Lib.hid (fun j hj hjk => by
          by_cases hjj : j < kk
          · exact HA.out j hj hjj
          · have : j = kk := by omega
            subst this
            rw [HX.out]; exact Hf.out)⟩
        case measure => simp [intOf] <;> omega
    · have hkm : kk = n := by omega
      subst hkm
      have Hfin := Lib.hid (idxP_no (p := p) (xs := xs) (fun x hx => by
        obtain ⟨j, hj, rfl⟩ := List.mem_iff_getElem.1 hx
        exact HA.out j hj (by have := Hl.out; omega)))
      go_wp2_with fail
      go_ret
      exact ⟨by rw [Hfin.out]; rfl, HB.out⟩
/-- The place of a flow's record. -/
def atF (xs : List S83) (f : S70) : Int := idxP (fun x => alikeF x.f0 f) xs
set_option maxHeartbeats 1000000 in
theorem at_any (w : World) (f : S70) (xs : List S83) (A : Option Addr) (n c : Nat) (hC : k83.C w A n xs) (hn : n ≤ 1000000000) :
    Calls Try.prog 97 #[.slice A n c, v70 f] w (fun e w' => e = .returned (.int .i64 (atF xs f)) ∧ Below w.heap.size w w') := by
  have hB : Below w.heap.size w (w.alloc (.cells #[.int .i64 f.f0, .int .u32 f.f1, .int .u32 f.f2, .int .i64 f.f3, .int .i64 f.f4] 70)) := below_alloc (Below.refl _ _) _
  have hbx : Box70 (w.alloc (.cells #[.int .i64 f.f0, .int .u32 f.f1, .int .u32 f.f2, .int .i64 f.f3, .int .i64 f.f4] 70)) w.heap.size f := Blk.new w 70 [.int .i64 f.f0, .int .u32 f.f1, .int .u32 f.f2, .int .i64 f.f3, .int .i64 f.f4]
  have hix := index_131 _ w.heap.size (fun x => alikeF x.f0 f) (fun w' hb x => at1_any w' x f w.heap.size (hbx.below hb)) xs A n c (C_kp hC hB) hn
  have HB := Lib.hid hB
  have HIX := Lib.hid hix
  clear hB hbx hix hC
  unfold v70
  go_enter Try.func97, Try.ntmps97
  go_wp2_with fail
  refine HIX.out.mono ?_
  rintro e w1 ⟨rfl, hB1⟩
  have HB1 := Lib.hid (HB.out.trans (hB1.mono HB.out.size))
  clear hB1
  go_wp2_with fail
  go_ret
  exact ⟨rfl, HB1.out⟩
end Go.Proofs.Ytcplmaeicmmkgaa
