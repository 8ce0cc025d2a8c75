/- track: New; a live question. -/
import Derived.Test.YtcplmaeicmmkgaaT8
namespace Go.Proofs.Ytcplmaeicmmkgaa
open Go Go.RowKit Go.Proofs.YtcplmaeicmmkgaaW.PrintWords Go.Proofs.YtcplmaeicmmkgaaW.PrintLast Go.Proofs.YtcplmaeicmmkgaaW.PrintMore Go.Proofs.Ytcplmaeicmmkgaa.PTrackPlays
attribute [local go_sem] max2_int min2_int max_two min_two
set_option linter.unusedVariables false
set_option linter.unusedSimpArgs false

def NewT (w : World) (life : Int) (e : Ending) (w' : World) : Prop :=
  ∃ b, e = .returned (.tuple #[pt b, .int .i64 0]) ∧ TbAt 158 w' (ext (fun _ => False) w w') b life [] ∧ Below w.heap.size w w'
set_option maxHeartbeats 400000 in
theorem newt_any (w : World) (life : Int) (h0 : 1 ≤ life) (h1 : life ≤ 2147483648) : Calls Try.prog 28 #[.int .i64 life] w (NewT w life) := by
  have d0 : decide (life < 1) = false := decide_eq_false (by omega)
  have d1 : decide (2147483648 < life) = false := decide_eq_false (by omega)
  go_enter Try.func28, Try.ntmps28
  go_wp2
  go_ret2
  exact ⟨w.heap.size, rfl, ⟨.inr ⟨Nat.le_refl _, by simp⟩, (Bd.no w).ext (by simp), _, _, _, Blk.new w 158 [.int .i64 life, .slice none 0 0], Kd.R_nil _ _ _ _ _⟩, below_alloc (Below.refl _ _) _⟩
theorem newt_bad (w : World) (life : Int) (h0 : life < 1 ∨ 2147483648 < life) : Calls Try.prog 28 #[.int .i64 life] w (fun e w' => e = .returned (.tuple #[.pointer none, .int .i64 1]) ∧ w' = w) := by
  by_cases h : life < 1
  · have d0 : decide (life < 1) = true := decide_eq_true h
    go_enter Try.func28, Try.ntmps28
    go_wp2
    go_ret2
    exact ⟨rfl, rfl⟩
  · have d0 : decide (life < 1) = false := decide_eq_false (by omega)
    have d1 : decide (2147483648 < life) = true := decide_eq_true (by omega)
    go_enter Try.func28, Try.ntmps28
    go_wp2
    go_ret2
    exact ⟨rfl, rfl⟩
theorem rback_any (w : World) (f : S70) : Calls Try.prog 38 #[v70 f] w (fun e w' => e = .returned (v70 (backF f)) ∧ Below w.heap.size w w') :=
  rutterref04_Back.calls f.f0 f.f1 f.f2 f.f3 f.f4 f.f0 f.f2 f.f1 f.f4 f.f3 w rfl
def f0 : S70 := ⟨6, 1, 2, 3, 4⟩
theorem al1 : noteF 10 [] f0 5 = ([⟨f0, 15⟩], 0) := by kernel_rfl
theorem al2 : noteF 10 [⟨f0, 15⟩] (backF f0) 9 = ([⟨f0, 19⟩], 0) := by kernel_rfl
theorem al3 : liveL 18 [⟨f0, 19⟩] = [⟨f0, 19⟩] := by kernel_rfl
theorem al4 : impF [] 18 [⟨f0, 19⟩] = ([⟨f0, 19⟩], 1) := by kernel_rfl
theorem al5 : decide (0 ≤ atF (liveL 18 [⟨f0, 19⟩]) f0) = true := by decide +kernel
theorem al6 : decide (0 ≤ atF (liveL 19 [⟨f0, 19⟩]) f0) = false := by decide +kernel
theorem al7 : decide (0 ≤ atF (liveL 18 [⟨f0, 19⟩]) (backF f0)) = true := by decide +kernel
theorem eq83 (a b : S83) (W : World) : (binOp .eql 83 (v83 a) (v83 b)).run Try.prog W = .ok (.bool (eqF a.f0 b.f0 && a.f1 == b.f1)) W := by
  rw [run_eql_struct, eqA83 9997]
  rfl
theorem eqg83 : Try.prog.eqGuardType Try.prog.depth 83 = false := by kernel_rfl
/-- A table stands beside others' blocks. -/
def PT (T : TypeId) (b : Nat) (life : Int) (xs : List S83) (w : World) (F : Nat → Prop) : Prop := TbAt T w F b life xs
theorem PT.stands {T : TypeId} {b : Nat} {life : Int} {xs : List S83} : Stands (PT T b life xs) := fun _ _ _ _ h hk hd => TbAt.kp h hk hd
section
variable {O : Nat → Prop} {w : World} {b : Nat} {life : Int} {xs : List S83}
theorem one_note (h : One O w (PT 158 b life xs)) (hl : xs.length ≤ 1000000) (h0 : 0 ≤ life) (h1 : life ≤ 2147483648) (f : S70) (now : Int) :
    Calls Try.prog 29 #[pt b, v70 f, .int .i64 now] w (fun e w' => e = .returned (.int .i64 (noteF life xs f now).2) ∧ One O w' (PT 158 b life (noteF life xs f now).1) ∧ KpO O w w') :=
  one_call (P := PT 158 b life xs) h (fun F hF _ => note_any w F b life xs hF hl h0 h1 f now)
theorem one_imp (h : One O w (PT 158 b life xs)) (hl : xs.length ≤ 1000000) (now : Int) (A : Option Addr) (m c : Nat) (l : List S83) (hC : ∀ w', KpO O w w' → k83.C w' A m l) (hm : m ≤ 1000000) :
    Calls Try.prog 31 #[pt b, .int .i64 now, .slice A m c] w (fun e w' => e = .returned (.int .i64 ((impF xs now l).2 : Nat)) ∧ One O w' (PT 158 b life (impF xs now l).1) ∧ KpO O w w') :=
  one_call (P := PT 158 b life xs) h (fun F hF hlo => imp_any w F b life xs hF hl now A m c l (fun w' hK => hC w' (KpO.of_kp hK hlo)) hm)
theorem one_recs (h : One O w (PT 158 b life xs)) (hl : xs.length ≤ 1000000) (now : Int) : Calls Try.prog 34 #[pt b, .int .i64 now] w (RetN w (liveL now xs)) := by
  obtain ⟨F, hF, h2⟩ := h
  exact recs_any w F b life xs hF (by omega) now
theorem one_known (h : One O w (PT 158 b life xs)) (hl : xs.length ≤ 1000000) (f : S70) (now : Int) : Calls Try.prog 36 #[pt b, v70 f, .int .i64 now] w (fun e w' => e = .returned (.bool (decide (0 ≤ atF (liveL now xs) f))) ∧ Below w.heap.size w w') := by
  obtain ⟨F, hF, h2⟩ := h
  exact known_any w F b life xs hF (by omega) f now
end
end Go.Proofs.Ytcplmaeicmmkgaa
