/- The reference's file and journal. -/
import Derived.Test.YtcplmaeicmmkgaaA25
namespace Go.Proofs.Ytcplmaeicmmkgaa
open Go Go.RowKit Go.Proofs.YtcplmaeicmmkgaaW.PrintWords Go.Proofs.YtcplmaeicmmkgaaW.PrintLast
set_option linter.unusedVariables false
set_option linter.unusedSimpArgs false

/-- The reference's file: its bytes, how many are safe, its room. -/
def RfAt (w : World) (F : Nat → Prop) (b : Nat) (B : List Int) (sf : Nat) (r : Int) : Prop :=
  F b ∧ Bd F w ∧ BR B ∧ ∃ A n c, Blk w b 124 [.slice A n c, .int .i64 sf, .int .i64 r] ∧ (Kd.int .u8).R 5 w 0 F (.slice A n c) B
theorem RfAt.below {w w1 : World} {F : Nat → Prop} {b : Nat} {B : List Int} {sf : Nat} {r : Int} (h : RfAt w F b B sf r) (hb : Below w.heap.size w w1) : RfAt w1 F b B sf r := by
  obtain ⟨h1, h2, h3, A, n, c, h4, h5⟩ := h
  exact ⟨h1, h2.up hb.size, h3, A, n, c, h4.below hb, Kd.R_below h5 hb⟩
theorem RfAt.kp {w w1 : World} {F G : Nat → Prop} {b : Nat} {B : List Int} {sf : Nat} {r : Int} (h : RfAt w F b B sf r) (hk : Kp G w w1) (hd : ∀ k, F k → ¬ G k) : RfAt w1 F b B sf r := by
  obtain ⟨h1, h2, h3, A, n, c, h4, h5⟩ := h
  exact ⟨h1, h2.up hk.size, h3, A, n, c, h4.kp hk (hd b h1), R_kp h5 hk (fun k _ hf => hd k hf)⟩
theorem RfAt.mono {w : World} {F G : Nat → Prop} {b : Nat} {B : List Int} {sf : Nat} {r : Int} (h : RfAt w F b B sf r) (hG : ∀ k, F k → G k) (hB : Bd G w) : RfAt w G b B sf r := by
  obtain ⟨h1, h2, h3, A, n, c, h4, h5⟩ := h
  exact ⟨hG b h1, hB, h3, A, n, c, h4, Kd.R_mono h5 hG⟩
/-- One cell of the file's block is stored anew. -/
theorem RfAt.store {w w1 : World} {F : Nat → Prop} {b : Nat} {B1 : List Int} {sf sf1 : Nat} {r : Int} {v0 : Value} {A1 : Option Addr} {n1 c1 : Nat} (hb : F b) (hBd : Bd F w) (hK : Kp F w w1) (i : Nat) (u : Value)
    (hB : Blk w1 b 124 [v0, .int .i64 sf, .int .i64 r]) (hi : [v0, Value.int .i64 sf, .int .i64 r].set i u = [.slice A1 n1 c1, .int .i64 sf1, .int .i64 r]) (hR : (Kd.int .u8).R 5 w1 0 (ext F w w1) (.slice A1 n1 c1) B1) (hBR : BR B1) :
    RfAt (w1.setCell ⟨b, i, none⟩ u) (ext F w (w1.setCell ⟨b, i, none⟩ u)) b B1 sf1 r ∧ Kp F w (w1.setCell ⟨b, i, none⟩ u) := by
  have hs : (w1.setCell ⟨b, i, none⟩ u).heap.size = w1.heap.size := by simp [World.setCell]
  have he : ∀ k, ext F w w1 k → ext F w (w1.setCell ⟨b, i, none⟩ u) k := fun k hk => hk.imp id (fun hk => ⟨hk.1, by rw [hs]; exact hk.2⟩)
  have hB1 := hB.set i u
  rw [hi] at hB1
  exact ⟨⟨.inl hb, hBd.ext (by rw [hs]; exact hK.size), hBR, A1, n1, c1, hB1, Kd.R_mono (Kd.R_set hR hB (by decide) i u) he⟩, hK.setCell (fun _ => hb) _⟩

def RfPost (w : World) (F : Nat → Prop) (b : Nat) (B : List Int) (sf : Nat) (r : Int) (v : Int) (e : Ending) (w' : World) : Prop :=
  e = .returned (.int .i64 v) ∧ RfAt w' (ext F w w') b B sf r ∧ Kp F w w'

set_option maxHeartbeats 1000000 in
theorem rfsync_any (w : World) (F : Nat → Prop) (b : Nat) (B : List Int) (sf : Nat) (r : Int) (hF : RfAt w F b B sf r) : Calls Try.prog 64 #[.pointer (some ⟨b, 0, none⟩)] w (RfPost w F b B B.length r (B.length : Nat)) := by
  obtain ⟨h1, h2, h3, A, n, c, h4, h5⟩ := hF
  have e0 := h4.cell 0 _ rfl
  have e1 := h4.cell 1 _ rfl
  have f1 := h4.frozen 1
  have Hn := Lib.hid (Kd.R_reads' h5).1
  have Hst := Lib.hid (RfAt.store (F := F) (w := w) (w1 := w) (B1 := B) (sf1 := n) h1 h2 (Kp.refl F w) 1 (.int .i64 n) h4 rfl (Kd.R_mono h5 (fun _ hk => .inl hk)) h3)
  clear h1 h2 h3 h4 h5
  go_enter Try.func64, Try.ntmps64
  go_wp2_with fail
  go_ret
  exact ⟨by rw [← Hn.out]; rfl, by rw [← Hn.out]; exact Hst.out.1, Hst.out.2⟩

set_option maxHeartbeats 1000000 in
theorem rfcut_any (w : World) (F : Nat → Prop) (b : Nat) (B : List Int) (sf : Nat) (r : Int) (hF : RfAt w F b B sf r) (q : Nat) (hq : q ≤ B.length) (hl : B.length ≤ 1000000000) :
    Calls Try.prog 123 #[.pointer (some ⟨b, 0, none⟩), .int .i64 q] w (RfPost w F b (B.take q) q r 0) := by
  obtain ⟨h1, h2, h3, A, n, c, h4, h5⟩ := hF
  have e0 := h4.cell 0 _ rfl
  have e1 := h4.cell 1 _ rfl
  have f0 := h4.frozen 0
  have f1 := h4.frozen 1
  have hn := (Kd.R_reads' h5).1
  have hc := (Kd.R_reads' h5).2.1
  have hqn : q ≤ n := by omega
  have hqc : q ≤ c := by omega
  have hn9 : n ≤ 1000000000 := by omega
  have hst := RfAt.store (F := F) (w := w) (w1 := w) (B1 := B.take q) (sf1 := sf) h1 h2 (Kp.refl F w) 0 (.slice A q c) h4 rfl (Kd.R_mono (Kd.R_take h5 hq) (fun _ hk => .inl hk)) (h3.take q)
  obtain ⟨⟨g1, g2, g3, A', n', c', g4, g5⟩, gK⟩ := hst
  have hB1 := h4.set 0 (.slice A q c)
  have f1' := hB1.frozen 1
  have hR1 := Kd.R_set (Kd.R_mono (Kd.R_take h5 hq) (fun _ hk => Or.inl hk) : (Kd.int .u8).R 5 w 0 (ext F w w) (.slice A q c) (B.take q)) h4 (by decide) 0 (.slice A q c)
  have hs1 : (w.setCell ⟨b, 0, none⟩ (.slice A q c)).heap.size = w.heap.size := by simp [World.setCell]
  have Hst := Lib.hid (RfAt.store (F := F) (w := w) (w1 := w.setCell ⟨b, 0, none⟩ (.slice A q c)) (B1 := B.take q) (sf1 := q) h1 h2 gK 1 (.int .i64 q) hB1 rfl (Kd.R_mono hR1 (fun k hk => hk.imp id (fun hk => ⟨hk.1, by rw [hs1]; exact hk.2⟩))) (h3.take q))
  have d0 : decide ((q : Int) < 0) = false := decide_eq_false (by omega)
  have d1 : decide (n < q) = false := decide_eq_false (by omega)
  clear h1 h2 h3 h4 h5 g1 g2 g3 g4 g5 gK hB1 hR1 hn hs1
  go_enter Try.func123, Try.ntmps123
  go_wp2_with fail
  go_ret
  exact ⟨rfl, Hst.out⟩

/-- How many of what is loose a crash keeps. -/
def keepQ (n sf : Nat) (k : Int) : Nat := (min (max k 0) ((n : Int) - sf)).toNat
set_option maxHeartbeats 1000000 in
theorem rfcrash_any (w : World) (F : Nat → Prop) (b : Nat) (B : List Int) (sf : Nat) (r : Int) (hF : RfAt w F b B sf r) (hsf : sf ≤ B.length) (hl : B.length ≤ 1000000000) (k : Int) :
    Calls Try.prog 66 #[.pointer (some ⟨b, 0, none⟩), .int .i64 k] w (RfPost w F b (B.take (sf + keepQ B.length sf k)) (sf + keepQ B.length sf k) r ((B.length : Int) - ((sf + keepQ B.length sf k : Nat) : Int))) := by
  have HF := Lib.hid hF
  obtain ⟨h1, h2, h3, A, n, c, h4, h5⟩ := hF
  have e0 := h4.cell 0 _ rfl
  have e1 := h4.cell 1 _ rfl
  have hn := (Kd.R_reads' h5).1
  obtain ⟨q, hq⟩ : ∃ q, q = keepQ B.length sf k := ⟨_, rfl⟩
  rw [← hq]
  have hqn : sf + q ≤ n := by rw [hq]; unfold keepQ; omega
  have Hq := Lib.hid (show ∀ j : Nat, j ≤ q → (j < q ↔ (j : Int) < k ∧ sf + j < n) by rw [hq]; unfold keepQ; omega)
  have Hn := Lib.hid hn
  have hn9 : n ≤ 1000000000 := by omega
  have Hcut := Lib.hid (rfcut_any w F b B sf r HF.out (sf + q) (by omega) hl)
  clear h1 h2 h3 h4 h5 hn hq
  go_enter Try.func66, Try.ntmps66
  go_wp2_with fail
  go_loopw [6, 7] (fun vs vi wr => ∃ j : Nat, j ≤ q ∧ vs = .int .i64 ((sf + j : Nat) : Int) ∧ vi = .int .i64 j ∧ wr = w) (fun _ vi _ => q - (intOf vi).toNat)
  case atStart => exact ⟨0, Nat.zero_le _, rfl, rfl, by first | rfl | trivial⟩
  case round =>
    obtain ⟨j, hj, rfl, rfl, hw⟩ := hrel
    subst hw
    have hw1 : IntKind.i64.wrap ((j : Int) + 1) = (j : Int) + 1 := IntWalk.i64_in _ (by omega)
    have hw2 : IntKind.i64.wrap ((sf : Int) + (j : Int) + 1) = (sf : Int) + (j : Int) + 1 := IntWalk.i64_in _ (by omega)
    by_cases hlt : j < q
    · have hh := (Hq.out j hj).1 hlt
      have d0 : decide ((j : Int) < k) = true := decide_eq_true hh.1
      have d1 : decide (sf + j < n) = true := decide_eq_true hh.2
      have d2 : decide ((sf : Int) + (j : Int) < (n : Int)) = true := decide_eq_true (by omega)
      clear hh
      go_wp2_with fail
      go_roundw
      case rel => exact ⟨j + 1, by omega, by go_num, by go_num, by first | rfl | trivial⟩
      case measure => simp [intOf] <;> omega
    · have hjq : j = q := by omega
      subst hjq
      have hh : ¬ ((j : Int) < k ∧ sf + j < n) := fun h => hlt ((Hq.out j hj).2 h)
      have hw3 : IntKind.i64.wrap ((n : Int) - ((sf : Int) + (j : Int))) = (n : Int) - ((sf : Int) + (j : Int)) := IntWalk.i64_in _ (by omega)
      by_cases hk : (j : Int) < k
      all_goals
        first
          | (have d0 : decide ((j : Int) < k) = true := decide_eq_true hk
             have d1 : decide (sf + j < n) = false := decide_eq_false (fun h => hh ⟨hk, h⟩)
             have d2 : decide ((sf : Int) + (j : Int) < (n : Int)) = false := decide_eq_false (by have := of_decide_eq_false d1; omega))
          | (have d0 : decide ((j : Int) < k) = false := decide_eq_false hk)
        clear hh hk hlt
        go_wp2_with fail
        have hcut := Hcut.out
        refine hcut.mono ?_
        rintro e w1 ⟨rfl, h1, h2⟩
        have HP := Lib.hid (And.intro h1 h2)
        clear h1 h2 hcut
        go_wp2_with fail
        go_ret
        exact ⟨by rw [← Hn.out]; rfl, HP.out⟩
end Go.Proofs.Ytcplmaeicmmkgaa
