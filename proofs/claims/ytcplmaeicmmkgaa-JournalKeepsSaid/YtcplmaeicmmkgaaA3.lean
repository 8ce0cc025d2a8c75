/- buf's Reader. -/
import Derived.Test.YtcplmaeicmmkgaaA2
namespace Go.Proofs.Ytcplmaeicmmkgaa
open Go Go.RowKit Go.Proofs.YtcplmaeicmmkgaaW.PrintWords Go.Proofs.YtcplmaeicmmkgaaW.PrintLast
set_option linter.unusedVariables false
set_option linter.unusedSimpArgs false

/-- A reader: what is left, and whether it has failed; all of it in the blocks of F. -/
def RdAt (w : World) (F : Nat → Prop) (b : Nat) (l : List Int) (f : Bool) : Prop :=
  F b ∧ Bd F w ∧ BR l ∧ ∃ A n c, Blk w b 202 [.slice A n c, .bool f] ∧ (Kd.int .u8).Q 5 w 0 F (.slice A n c) l

def FailsPost (w : World) (F : Nat → Prop) (b : Nat) (l : List Int) (r : Bool) (e : Ending) (w' : World) : Prop :=
  e = .returned (.bool r) ∧ RdAt w' F b l r ∧ Kp F w w' ∧ w'.heap.size = w.heap.size

set_option maxHeartbeats 400000 in
theorem fails_any (w : World) (F : Nat → Prop) (b : Nat) (l : List Int) (f now : Bool) (hR : RdAt w F b l f) : Calls Try.prog 135 #[.pointer (some ⟨b, 0, none⟩), .bool now] w (FailsPost w F b l (f || now)) := by
  obtain ⟨hb, hF, hBR, A, n, c, hB, hQ⟩ := hR
  have hsz0 : ∀ (p : Addr) (u : Value), Bd F (w.setCell p u) := fun p u => hF.up (by simp [World.setCell])
  have c0 := hB.cell 0 _ rfl
  have c1 := hB.cell 1 _ rfl
  have f1 := hB.frozen 1
  have fin : ∀ r : Bool, FailsPost w F b l r (.returned (.bool r)) (w.setCell ⟨b, 1, none⟩ (.bool r)) := fun r =>
    ⟨rfl, ⟨hb, hsz0 _ _, hBR, A, n, c, hB.set 1 (.bool r), Kd.Q_set hQ hB (by decide) 1 _⟩, (Kp.refl F w).setCell (fun _ => hb) _, by simp [World.setCell]⟩
  have Fin := Lib.hid fin
  have HB := Lib.hid hB
  have HQ := Lib.hid hQ
  clear fin hB hQ hsz0 hF
  cases f with
  | true =>
    go_enter Try.func135, Try.ntmps135
    go_wp2
    go_ret
    exact Fin.out true
  | false =>
    go_enter Try.func135, Try.ntmps135
    go_wp2
    go_ret
    exact Fin.out now

def TakePost (w : World) (F : Nat → Prop) (b : Nat) (l : List Int) (k : Nat) (e : Ending) (w' : World) : Prop :=
  ∃ A n c, e = .returned (.slice A n c) ∧ (Kd.int .u8).C w' A n (l.take k) ∧ RdAt w' F b (l.drop k) false ∧ Kp F w w' ∧ w'.heap.size = w.heap.size

set_option maxHeartbeats 400000 in
theorem take_any (w : World) (F : Nat → Prop) (b : Nat) (l : List Int) (k : Nat) (hR : RdAt w F b l false) (hk : k ≤ l.length) : Calls Try.prog 136 #[.pointer (some ⟨b, 0, none⟩), .int .i64 k] w (TakePost w F b l k) := by
  obtain ⟨hb, hF, hBR, A, n, c, hB, hQ⟩ := hR
  have hsz0 : ∀ (p : Addr) (u : Value), Bd F (w.setCell p u) := fun p u => hF.up (by simp [World.setCell])
  obtain ⟨i0, hi, hz⟩ := Option.map_eq_some_iff.1 A_info5
  have hsz : i0.size = 1 := by simp at hz; exact hz.2.1
  obtain ⟨hn, hnc, hC⟩ := Kd.Q_reads' hQ
  have hC' : (Kd.int .u8).C w A n l := by rw [hn]; exact hC
  obtain ⟨n2, c2, hcut2, hn2, hC2⟩ := cutC_cap (P := Try.prog) (d := Kd.int .u8) 32 5 Try.underlying32 hi (k : Int) hC' hnc (by omega) (by omega)
  obtain ⟨A1, n1, c1, hcut1, hn1, hQ1⟩ := cutQ_from (P := Try.prog) (d := Kd.int .u8) 32 5 Try.underlying32 hi hsz (k : Int) hQ (by omega) (by omega)
  simp only [Int.toNat_natCast] at hC2 hQ1
  have fin : TakePost w F b l k (.returned (.slice A n2 c2)) (w.setCell ⟨b, 0, none⟩ (.slice A1 n1 c1)) := by
    have hk : Kp F w (w.setCell ⟨b, 0, none⟩ (.slice A1 n1 c1)) := (Kp.refl F w).setCell (fun _ => hb) _
    refine ⟨A, n2, c2, rfl, ?_, ⟨hb, hsz0 _ _, hBR.drop k, A1, n1, c1, hB.set 0 _, Kd.Q_set hQ1 hB (by decide) 0 _⟩, hk, by simp [World.setCell]⟩
    have h3 := (Kd.Q_reads' (Kd.Q_set (u := .slice A1 n1 c1) hQ hB (by decide) 0)).2.2
    rw [← hn] at h3
    have := C_take h3 (m := k) (by omega)
    rw [show n2 = k by simpa using hn2.out]
    exact this
  have c0 := hB.cell 0 _ rfl
  have f0 := hB.frozen 0
  have Fin := Lib.hid fin
  clear hsz0 hF fin hB hQ hQ1 hC2 hC hC' hi hsz hz hn
  go_enter Try.func136, Try.ntmps136
  go_wp2
  go_ret
  exact Fin.out
end Go.Proofs.Ytcplmaeicmmkgaa
