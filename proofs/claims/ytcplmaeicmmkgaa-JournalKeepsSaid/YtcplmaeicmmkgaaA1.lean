/- slices.Clone and bytes.Clone of bytes. -/
import Derived.Test.YtcplmaeicmmkgaaB0
import Derived.Test.YtcplmaeicmmkgaaProg
namespace Go.Proofs.Ytcplmaeicmmkgaa
open Go Go.RowKit Go.Proofs.YtcplmaeicmmkgaaW.PrintWords

theorem A_info5 : (Try.prog.info? 5).map (fun i => (i.zero, i.size, i.bytes)) = some (some (.int .u8 0), 1, 1) := by kernel_rfl

/-- A new row of bytes comes back. -/
def RetB (w : World) (l : List Int) (e : Ending) (w' : World) : Prop :=
  ∃ v, e = .returned v ∧ (Kd.int .u8).R 5 w' w.heap.size (fun _ => True) v l ∧ Below w.heap.size w w'

theorem nil32 (w : World) (a : Option Addr) (n c n' c' : Nat) : (binOp .eql 32 (.slice a n c) (.slice none n' c')).run Try.prog w = .ok (.bool a.isNone) w := Lib.run_eql_slice_nil w _ _ a n c n' c' Try.underlying32

set_option maxHeartbeats 400000 in
theorem clone_any (w : World) (A : Option Addr) (n c : Nat) (l : List Int) (hC : (Kd.int .u8).C w A n l) (hl : n ≤ 140737488355232) :
    Calls Try.prog 134 #[.slice A n c] w (RetB w l) := by
  have qT := nil32
  cases A with
  | none =>
    obtain ⟨rfl, rfl⟩ := C_none hC
    clear hC
    go_enter Try.func134, Try.ntmps134
    go_wp2
    go_ret
    exact ⟨_, rfl, Kd.R_nil _ _ _ _ _, Below.refl _ _⟩
  | some ad =>
    have HC := Lib.hid hC
    clear hC
    go_enter Try.func134, Try.ntmps134
    go_wp2_with (at_builtin; refine ev_rows .u8 1 w.heap.size 32 5 _ _ rfl rfl Try.underlying32 A_info5 (by decide) rfl rfl (R_lit0 (Kd.int .u8) 5 w) (Kd.C_alloc HC.out _) (fun _ _ => trivial) (by simp) (by simp; omega) ?_; intro v1 w1 ho1 hb1 _ _)
    go_ret
    exact ⟨_, rfl, ho1, (below_alloc (Below.refl _ _) _).trans hb1⟩

set_option maxHeartbeats 400000 in
theorem bclone_any (w : World) (A : Option Addr) (n c : Nat) (l : List Int) (hC : (Kd.int .u8).C w A n l) (hl : n ≤ 140737488355232) :
    Calls Try.prog 84 #[.slice A n c] w (RetB w l) := by
  have qT := nil32
  cases A with
  | none =>
    obtain ⟨rfl, rfl⟩ := C_none hC
    clear hC
    go_enter Try.func84, Try.ntmps84
    go_wp2
    go_ret
    exact ⟨_, rfl, Kd.R_nil _ _ _ _ _, Below.refl _ _⟩
  | some ad =>
    have HC := Lib.hid hC
    clear hC
    go_enter Try.func84, Try.ntmps84
    go_wp2_with (at_builtin; refine ev_rows .u8 1 w.heap.size 32 5 _ _ rfl rfl Try.underlying32 A_info5 (by decide) rfl rfl (R_lit0 (Kd.int .u8) 5 w) (Kd.C_alloc HC.out _) (fun _ _ => trivial) (by simp) (by simp; omega) ?_; intro v1 w1 ho1 hb1 _ _)
    go_ret
    exact ⟨_, rfl, ho1, (below_alloc (Below.refl _ _) _).trans hb1⟩
end Go.Proofs.Ytcplmaeicmmkgaa
