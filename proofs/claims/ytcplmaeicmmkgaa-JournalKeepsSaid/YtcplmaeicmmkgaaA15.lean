/- disk.File: Crash. -/
import Derived.Test.YtcplmaeicmmkgaaA14
namespace Go.Proofs.Ytcplmaeicmmkgaa
open Go Go.RowKit Go.Proofs.YtcplmaeicmmkgaaW.PrintWords Go.Proofs.YtcplmaeicmmkgaaW.PrintLast
set_option linter.unusedVariables false
set_option linter.unusedSimpArgs false

/-- How many loose bytes stay. -/
def keepN (l : List Int) (k : Int) : Nat := (min (max k 0) (l.length : Int)).toNat
def CrashPost (w : World) (F : Nat → Prop) (b : Nat) (s l : List Int) (r k : Int) (e : Ending) (w' : World) : Prop :=
  e = .returned (.int .i64 ((l.length : Int) - (keepN l k : Nat))) ∧ FlAt w' (ext F w w') b (s ++ l.take (keepN l k)) [] r ∧ Kp F w w'

theorem keep_le (l : List Int) (k : Int) : keepN l k ≤ l.length := by unfold keepN; omega

/-- What is loose is cut. -/
theorem FlAt.cut {w : World} {F : Nat → Prop} {b : Nat} {s l : List Int} {r : Int} {v1 : Value} {A2 : Option Addr} {n2 c2 : Nat} (h : FlAt w F b s l r) (hB : Blk w b 189 [v1, .slice A2 n2 c2, .int .i64 r])
    (h6 : (Kd.int .u8).R 5 w 0 F v1 s) (h7 : (Kd.int .u8).R 5 w 0 F (.slice A2 n2 c2) l) (h8 : NeRow v1 (.slice A2 n2 c2)) (q : Nat) (hq : q ≤ l.length) :
    FlAt (w.setCell ⟨b, 1, none⟩ (.slice A2 q c2)) F b s (l.take q) r ∧ Kp F w (w.setCell ⟨b, 1, none⟩ (.slice A2 q c2)) := by
  have hsz : (w.setCell ⟨b, 1, none⟩ (.slice A2 q c2)).heap.size = w.heap.size := by simp [World.setCell]
  obtain ⟨A1, c1, rfl⟩ := Kd.R_slice h6
  refine ⟨⟨h.1, h.2.1.up (by rw [hsz]; exact Nat.le_refl _), h.2.2.1, h.2.2.2.1.take q, A1, _, c1, A2, q, c2, hB.set 1 _, Kd.R_set h6 hB (by decide) 1 _, Kd.R_set (Kd.R_take h7 hq) hB (by decide) 1 _, ?_⟩, (Kp.refl F w).setCell (fun _ => h.1) _⟩
  exact fun j hj hq => h8 j hj (by cases A2 <;> exact hq)

set_option maxHeartbeats 1000000 in
theorem flcrash_any (w : World) (F : Nat → Prop) (b : Nat) (s l : List Int) (r k : Int) (hF : FlAt w F b s l r) (hl : s.length + l.length ≤ 1000000000) :
    Calls Try.prog 65 #[.pointer (some ⟨b, 0, none⟩), .int .i64 k] w (CrashPost w F b s l r k) := by
  have HF := Lib.hid hF
  obtain ⟨h1, h2, h3, h4, A1, n1, c1, A2, n2, c2, h5, h6, h7, h8⟩ := hF
  have e1 := h5.cell 1 _ rfl
  have f1 := h5.frozen 1
  obtain ⟨hn2, hc2, hC2⟩ := Kd.R_reads' h7
  have H5 := Lib.hid h5
  have H6 := Lib.hid h6
  have H7 := Lib.hid h7
  have H8 := Lib.hid h8
  clear h2 h3 h4 h5 h6 h7 h8 hC2
  have hql : keepN l k ≤ n2 := by have := keep_le l k; omega
  have Hq := Lib.hid (show (k < 0 → keepN l k = 0) ∧ ((n2 : Int) < k → keepN l k = n2) ∧ (0 ≤ k → k ≤ (n2 : Int) → (keepN l k : Int) = k) by unfold keepN; omega)
  have Hn2 := Lib.hid hn2
  have hn9 : n2 ≤ 1000000000 := by omega
  have HQ := Lib.hid (show CrashPost w F b s l r k = CrashPost w F b s l r k from rfl)
  clear hn2
  have hcases : k < 0 ∨ (n2 : Int) < k ∨ (0 ≤ k ∧ k ≤ (n2 : Int)) := by omega
  have fin : ∀ q : Nat, q = keepN l k → ∀ e w', SyncPost (w.setCell ⟨b, 1, none⟩ (.slice A2 q c2)) F b s (l.take q) r e w' → FlAt w' (ext F w w') b (s ++ l.take (keepN l k)) [] r ∧ Kp F w w' := by
    rintro q rfl e w' ⟨_, h2, h3⟩
    have hc := FlAt.cut HF.out H5.out H6.out H7.out H8.out (keepN l k) (keep_le l k)
    refine ⟨h2.mono (fun j hj => hj.imp id (fun hj => ⟨by have := hj.1; simpa [World.setCell] using this, hj.2⟩)) (HF.out.2.1.ext (hc.2.trans h3 (fun _ _ h => h)).size), hc.2.trans h3 (fun _ _ h => h)⟩
  have call : ∀ q : Nat, q = keepN l k → Calls Try.prog 124 #[.pointer (some ⟨b, 0, none⟩)] (w.setCell ⟨b, 1, none⟩ (.slice A2 q c2)) (SyncPost (w.setCell ⟨b, 1, none⟩ (.slice A2 q c2)) F b s (l.take q) r) := by
    rintro q rfl
    have hc := FlAt.cut HF.out H5.out H6.out H7.out H8.out (keepN l k) (keep_le l k)
    exact flsync_any _ F b s _ r hc.1 (by rw [List.length_take]; omega)
  have Fin := Lib.hid fin
  have Call := Lib.hid call
  clear fin call
  rcases hcases with hk | hk | ⟨hk0, hk1⟩
  · have hq0 := Hq.out.1 hk
    have HQ0 := Lib.hid hq0
    clear hq0
    have hw : IntKind.i64.wrap (n2 : Int) = (n2 : Int) := IntWalk.i64_in _ (by omega)
    go_enter Try.func65, Try.ntmps65
    go_wp2_with fail
    refine (Call.out 0 HQ0.out.symm).mono ?_
    intro e w' h
    have HP := Lib.hid (Fin.out 0 HQ0.out.symm e w' h)
    obtain ⟨rfl, -, -⟩ := h
    go_wp2_with fail
    go_ret
    exact ⟨by rw [HQ0.out, ← Hn2.out]; simp <;> rfl, HP.out⟩
  · have hq0 := Hq.out.2.1 hk
    have HQ0 := Lib.hid hq0
    clear hq0
    have hk' : ¬ k < 0 := by omega
    have hw : IntKind.i64.wrap 0 = 0 := by decide
    go_enter Try.func65, Try.ntmps65
    go_wp2_with fail
    refine (Call.out n2 HQ0.out.symm).mono ?_
    intro e w' h
    have HP := Lib.hid (Fin.out n2 HQ0.out.symm e w' h)
    obtain ⟨rfl, -, -⟩ := h
    go_wp2_with fail
    go_ret
    exact ⟨by rw [HQ0.out, ← Hn2.out]; simp <;> rfl, HP.out⟩
  · have hq0 := Hq.out.2.2 hk0 hk1
    have HQ0 := Lib.hid hq0
    generalize hg : keepN l k = q at hq0 hql
    have Hg := Lib.hid hg.symm
    clear hg
    subst hq0
    have hk' : ¬ (q : Int) < 0 := by omega
    have hw : IntKind.i64.wrap ((n2 : Int) - q) = (n2 : Int) - q := IntWalk.i64_in _ (by omega)
    go_enter Try.func65, Try.ntmps65
    go_wp2_with fail
    refine (Call.out q Hg.out).mono ?_
    intro e w' h
    have HP := Lib.hid (Fin.out q Hg.out e w' h)
    obtain ⟨rfl, -, -⟩ := h
    go_wp2_with fail
    go_ret
    exact ⟨by rw [← Hg.out, ← Hn2.out]; rfl, HP.out⟩
end Go.Proofs.Ytcplmaeicmmkgaa
