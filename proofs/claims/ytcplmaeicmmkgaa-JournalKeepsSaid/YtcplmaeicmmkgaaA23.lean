/- The journal's acts, with what a law keeps: everything that they touch is new since the law began. -/
import Derived.Test.YtcplmaeicmmkgaaA22
namespace Go.Proofs.Ytcplmaeicmmkgaa
open Go Go.RowKit Go.Proofs.YtcplmaeicmmkgaaW.PrintWords Go.Proofs.YtcplmaeicmmkgaaW.PrintLast
set_option linter.unusedVariables false
set_option linter.unusedSimpArgs false

/-- A file that is new since w0, where all of w0 still stands. -/
def FAt (w0 w : World) (b : Nat) (s l : List Int) (r : Int) : Prop := ∃ F, FlAt w F b s l r ∧ (∀ k, F k → w0.heap.size ≤ k) ∧ Below w0.heap.size w0 w
def JAt (w0 w : World) (jb fb n : Nat) (s l : List Int) (r : Int) : Prop := ∃ F, JoAt w F jb fb n s l r ∧ (∀ k, F k → w0.heap.size ≤ k) ∧ Below w0.heap.size w0 w

theorem JAt.file {w0 w : World} {jb fb n : Nat} {s l : List Int} {r : Int} (h : JAt w0 w jb fb n s l r) : FAt w0 w fb s l r := by
  obtain ⟨F, h1, h2, h3⟩ := h
  exact ⟨_, h1.2.2.2, fun k hk => h2 k hk.1, h3⟩
theorem FAt.kept {w0 w : World} {b : Nat} {s l : List Int} {r : Int} (h : FAt w0 w b s l r) : Below w0.heap.size w0 w := by
  obtain ⟨F, h1, h2, h3⟩ := h
  exact h3
theorem JAt.kept {w0 w : World} {jb fb n : Nat} {s l : List Int} {r : Int} (h : JAt w0 w jb fb n s l r) : Below w0.heap.size w0 w := h.file.kept
theorem FAt.below {w0 w w1 : World} {b : Nat} {s l : List Int} {r : Int} (h : FAt w0 w b s l r) (hb : Below w.heap.size w w1) : FAt w0 w1 b s l r := by
  obtain ⟨F, h1, h2, h3⟩ := h
  exact ⟨F, h1.below hb, h2, h3.trans (hb.mono h3.size)⟩
theorem JAt.below {w0 w w1 : World} {jb fb n : Nat} {s l : List Int} {r : Int} (h : JAt w0 w jb fb n s l r) (hb : Below w.heap.size w w1) : JAt w0 w1 jb fb n s l r := by
  obtain ⟨F, h1, h2, h3⟩ := h
  exact ⟨F, h1.below hb, h2, h3.trans (hb.mono h3.size)⟩
/-- Behind an act. -/
theorem kp_new {w0 w w1 : World} {F : Nat → Prop} (hF : ∀ k, F k → w0.heap.size ≤ k) (hb : Below w0.heap.size w0 w) (hk : Kp F w w1) : (∀ k, ext F w w1 k → w0.heap.size ≤ k) ∧ Below w0.heap.size w0 w1 :=
  ⟨ext_ge hF hb.size, hb.trans (hk.to_below hb.size hF)⟩

theorem new_pk (w0 w : World) (hb : Below w0.heap.size w0 w) (room : Int) (h0 : 0 ≤ room) (h1 : room ≤ 16777216) :
    Calls Try.prog 60 #[.int .i64 room] w (fun e w' => ∃ b, e = .returned (.tuple #[.pointer (some ⟨b, 0, none⟩), .int .i64 0]) ∧ FAt w0 w' b [] [] room) := by
  refine (newfl_any w room h0 h1).mono ?_
  rintro e w1 ⟨b, rfl, hF, hB⟩
  exact ⟨b, rfl, _, hF, ext_ge (fun _ h => h.elim) hb.size, hb.trans (hB.mono hb.size)⟩
def OpenPk (w0 : World) (b : Nat) (s l : List Int) (r : Int) (e : Ending) (w' : World) : Prop :=
  ∃ jb A n c, e = .returned (.tuple #[.pointer (some ⟨jb, 0, none⟩), .slice A n c, .int .i64 0]) ∧ JAt w0 w' jb b n (openS s l) (openL s l) r ∧ n ≤ c ∧ n = (scanJ (s ++ l)).1.length ∧ BB.C w' A n (scanJ (s ++ l)).1
theorem open_pk (w0 w : World) (b : Nat) (s l : List Int) (r : Int) (h : FAt w0 w b s l r) (hl : s.length + l.length ≤ 1000000000) : Calls Try.prog 61 #[.pointer (some ⟨b, 0, none⟩)] w (OpenPk w0 b s l r) := by
  obtain ⟨F, h1, h2, h3⟩ := h
  refine (open_any w F b s l r h1 hl).mono ?_
  rintro e w1 ⟨jb, A, n, c, rfl, hs, hJ, hc, hn, hC, hK⟩
  obtain ⟨k1, k2⟩ := kp_new h2 h3 hK
  have hC' := (Kd.R_reads' hC).2.2
  rw [← hn] at hC'
  exact ⟨jb, A, n, c, rfl, ⟨_, hJ, k1, k2⟩, hc, hn, hC'⟩
theorem put_pk (w0 w : World) (jb fb n : Nat) (s l body : List Int) (r : Int) (A : Option Addr) (m c : Nat) (h : JAt w0 w jb fb n s l r) (hl : s.length + l.length ≤ 1000000) (hn : n ≤ 1000000000) (hBR : BR body) (hC : (Kd.int .u8).C w A m body) (hm : m ≤ 1000000000) :
    Calls Try.prog 68 #[.pointer (some ⟨jb, 0, none⟩), .slice A m c] w (fun e w' => e = .returned (.int .i64 (putE s l body r)) ∧ JAt w0 w' jb fb (if putE s l body r = 0 then n + 1 else n) s (if putE s l body r = 0 then l ++ recJ body else l) r) := by
  obtain ⟨F, h1, h2, h3⟩ := h
  refine (jput_any w F jb fb n s l body r A m c h1 hl hn hBR hC hm).mono ?_
  rintro e w1 ⟨rfl, hJ, hK⟩
  obtain ⟨k1, k2⟩ := kp_new h2 h3 hK
  exact ⟨rfl, _, hJ, k1, k2⟩
theorem sync_pk (w0 w : World) (jb fb n : Nat) (s l : List Int) (r : Int) (h : JAt w0 w jb fb n s l r) (hl : s.length + l.length ≤ 1000000000) :
    Calls Try.prog 63 #[.pointer (some ⟨jb, 0, none⟩)] w (fun e w' => e = .returned (.tuple #[]) ∧ JAt w0 w' jb fb n (s ++ l) [] r) := by
  obtain ⟨F, h1, h2, h3⟩ := h
  refine (jsync_any w F jb fb n s l r h1 hl).mono ?_
  rintro e w1 ⟨rfl, hJ, hK⟩
  obtain ⟨k1, k2⟩ := kp_new h2 h3 hK
  exact ⟨rfl, _, hJ, k1, k2⟩
theorem crash_pk (w0 w : World) (fb : Nat) (s l : List Int) (r k : Int) (h : FAt w0 w fb s l r) (hl : s.length + l.length ≤ 1000000000) :
    Calls Try.prog 65 #[.pointer (some ⟨fb, 0, none⟩), .int .i64 k] w (fun e w' => e = .returned (.int .i64 ((l.length : Int) - (keepN l k : Nat))) ∧ FAt w0 w' fb (s ++ l.take (keepN l k)) [] r) := by
  obtain ⟨F, h1, h2, h3⟩ := h
  refine (flcrash_any w F fb s l r k h1 hl).mono ?_
  rintro e w1 ⟨rfl, hJ, hK⟩
  obtain ⟨k1, k2⟩ := kp_new h2 h3 hK
  exact ⟨rfl, _, hJ, k1, k2⟩
theorem len_pk (w0 w : World) (jb fb n : Nat) (s l : List Int) (r : Int) (h : JAt w0 w jb fb n s l r) : Calls Try.prog 70 #[.pointer (some ⟨jb, 0, none⟩)] w (fun e w' => e = .returned (.int .i64 n) ∧ w' = w) := by
  obtain ⟨F, h1, h2, h3⟩ := h
  exact jlen_any w F jb fb n s l r h1
theorem safe_pk (w0 w : World) (b : Nat) (s l : List Int) (r : Int) (h : FAt w0 w b s l r) : Calls Try.prog 72 #[.pointer (some ⟨b, 0, none⟩)] w (fun e w' => e = .returned (.int .i64 (s.length : Nat)) ∧ w' = w) := by
  obtain ⟨F, h1, h2, h3⟩ := h
  exact safe_any w F b s l r h1
theorem bytes_pk (w0 w : World) (b : Nat) (s l : List Int) (r : Int) (h : FAt w0 w b s l r) (hl : s.length + l.length ≤ 1000000000) : Calls Try.prog 71 #[.pointer (some ⟨b, 0, none⟩)] w (RetB w (s ++ l)) := by
  obtain ⟨F, h1, h2, h3⟩ := h
  exact flbytes_any w F b s l r h1 hl

/-! ### The live question's numbers -/
def B9 : List Int := [49, 50, 51, 52, 53, 54, 55, 56, 57]
def B2 : List Int := [97, 98]
theorem B9_br : BR B9 := by intro x hx; simp [B9] at hx; omega
theorem B2_br : BR B2 := by intro x hx; simp [B2] at hx; omega
theorem al_sum : sumS B9 = 3421780262 := by kernel_rfl
theorem al_rec9 : recJ B9 = [0, 9, 49, 50, 51, 52, 53, 54, 55, 56, 57, 203, 244, 57, 38] := by kernel_rfl
theorem al_rec2 : recJ B2 = [0, 2, 97, 98, 158, 131, 72, 109] := by kernel_rfl
theorem al_put9 : putE [] [] B9 99 = 0 := by kernel_rfl
theorem al_put2 : putE (recJ B9) [] B2 99 = 0 := by kernel_rfl
theorem al_keep : keepN (recJ B2) 7 = 7 := by kernel_rfl
def AL : List Int := [0, 9, 49, 50, 51, 52, 53, 54, 55, 56, 57, 203, 244, 57, 38, 0, 2, 97, 98, 158, 131, 72]
theorem al_cat : recJ B9 ++ (recJ B2).take (keepN (recJ B2) 7) = AL := by kernel_rfl
theorem al_ok1 : okF AL = true := by kernel_rfl
theorem al_body : bodyJ AL = B9 := by kernel_rfl
theorem al_ok2 : okF (AL.drop 15) = false := by kernel_rfl
theorem al_scan : scanJ AL = ([B9], 15) := by
  rw [scanJ_yes AL al_ok1, al_body]
  have h : scanJ (AL.drop (B9.length + 6)) = ([], 0) := scanJ_no _ al_ok2
  rw [h]; rfl
theorem scan_nil : scanJ [] = ([], 0) := scanJ_no _ (by kernel_rfl)
end Go.Proofs.Ytcplmaeicmmkgaa
