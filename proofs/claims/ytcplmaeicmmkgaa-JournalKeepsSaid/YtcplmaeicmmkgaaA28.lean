/- rutterref08.Open. -/
import Derived.Test.YtcplmaeicmmkgaaA27
namespace Go.Proofs.Ytcplmaeicmmkgaa
open Go Go.RowKit Go.Proofs.YtcplmaeicmmkgaaW.PrintWords Go.Proofs.YtcplmaeicmmkgaaW.PrintLast
set_option linter.unusedVariables false
set_option linter.unusedSimpArgs false

def openB (B : List Int) : List Int := if (scanJ B).2 < B.length then B.take (scanJ B).2 else B
def openN (B : List Int) (sf : Nat) : Nat := if (scanJ B).2 < B.length then (scanJ B).2 else sf
def ROpenPost (w : World) (F : Nat → Prop) (b : Nat) (B : List Int) (sf : Nat) (r : Int) (e : Ending) (w' : World) : Prop :=
  ∃ jb A n c, e = .returned (.tuple #[.pointer (some ⟨jb, 0, none⟩), .slice A n c]) ∧ w.heap.size ≤ jb ∧ RjAt w' (ext F w w') jb b n (openB B) (openN B sf) r ∧ n ≤ c ∧
    n = (scanJ B).1.length ∧ BB.C w' A n (scanJ B).1 ∧ Kp F w w'

theorem ROpenPost.mk {w w2 : World} {F : Nat → Prop} {b : Nat} {B : List Int} {sf : Nat} {r : Int} {A : Option Addr} {n c : Nat} (hF : RfAt w2 (ext F w w2) b (openB B) (openN B sf) r) (hn : n = (scanJ B).1.length) (hc : n ≤ c) (hC : BB.C w2 A n (scanJ B).1) (hK : Kp F w w2) :
    ROpenPost w F b B sf r (.returned (.tuple #[.pointer (some ⟨w2.heap.size, 0, none⟩), .slice A n c])) (w2.alloc (.cells #[.pointer (some ⟨b, 0, none⟩), .int .i64 n] 133)) := by
  have hb : Below w2.heap.size w2 (w2.alloc (.cells #[.pointer (some ⟨b, 0, none⟩), .int .i64 n] 133)) := below_alloc (Below.refl _ _) _
  have hs : (w2.alloc (.cells #[.pointer (some ⟨b, 0, none⟩), .int .i64 n] 133)).heap.size = w2.heap.size + 1 := by simp
  have hsz := hK.size
  have hBd : Bd (ext F w (w2.alloc (.cells #[.pointer (some ⟨b, 0, none⟩), .int .i64 n] 133))) (w2.alloc (.cells #[.pointer (some ⟨b, 0, none⟩), .int .i64 n] 133)) := by
    intro k hk
    rcases hk with hk | hk
    · have := hF.2.1 k (.inl hk); omega
    · exact hk.2
  exact ⟨w2.heap.size, A, n, c, rfl, hsz, ⟨.inr ⟨hsz, by omega⟩, Blk.new w2 133 [.pointer (some ⟨b, 0, none⟩), .int .i64 n], hBd, (hF.below hb).mono (fun k hk => ⟨hk.imp id (fun hk => ⟨hk.1, by omega⟩), by have := hF.2.1 k hk; omega⟩) (fun k hk => hBd k hk.1)⟩, hc, hn, C_kp hC hb, hK.below hb⟩

set_option maxHeartbeats 1000000 in
theorem rjopen_any (w : World) (F : Nat → Prop) (b : Nat) (B : List Int) (sf : Nat) (r : Int) (hF : RfAt w F b B sf r) (hl : B.length ≤ 1000000) :
    Calls Try.prog 62 #[.pointer (some ⟨b, 0, none⟩)] w (ROpenPost w F b B sf r) := by
  have HF := Lib.hid hF
  obtain ⟨h1, h2, h3, A1, n1, c1, h4, h5⟩ := hF
  have e0 := h4.cell 0 _ rfl
  obtain ⟨hn1, hc1, hC1⟩ := Kd.R_reads' h5
  have hC1' : (Kd.int .u8).C w A1 n1 B := hn1 ▸ hC1
  have H4 := Lib.hid h4
  have HC1 := Lib.hid hC1'
  have hle := scan_le B
  rw [← hn1] at hle
  have hn9 : n1 ≤ 1000000 := by omega
  have Hn1 := Lib.hid hn1
  have Hs := Lib.hid h2
  clear h1 h2 h4 h5 hC1 hC1' hn1 hl
  go_enter Try.func62, Try.ntmps62
  go_wp2_with fail
  refine (scan_ref w A1 n1 c1 B h3 HC1.out hc1 hn9).mono ?_
  rintro e w2 ⟨v, rfl, hR2, hB2⟩
  obtain ⟨A2, n2, c2, rfl, hn2⟩ : ∃ A2 n2 c2, v = .slice A2 n2 c2 ∧ n2 = (scanJ B).1.length := by
    obtain ⟨A3, c3, rfl⟩ := Kd.R_slice hR2
    exact ⟨A3, _, c3, rfl, rfl⟩
  obtain ⟨-, hc2, hC2⟩ := Kd.R_reads' hR2
  rw [← hn2] at hC2
  have HC2 := Lib.hid hC2
  have HR2 := Lib.hid hR2
  have HK2 := Lib.hid (Kp.of_below hB2 F)
  have HF2 := Lib.hid (HF.out.below hB2)
  have e2 := (H4.out.below hB2).cell 0 _ rfl
  have Hn2 := Lib.hid hn2
  obtain ⟨q, hq⟩ : ∃ q, q = (scanJ B).2 := ⟨_, rfl⟩
  have Hq := Lib.hid hq
  rw [← hq] at hle ⊢
  clear hq hC2 hR2 hn2 hB2 e0
  by_cases hlt : q < n1
  · have hd : decide (q < n1) = true := decide_eq_true hlt
    have hsc : (scanJ B).2 < B.length := by rw [← Hq.out, ← Hn1.out]; exact hlt
    have Hsc := Lib.hid hsc
    clear hsc
    go_wp2_with fail
    refine (rfcut_any w2 F b B sf r HF2.out q (by rw [← Hn1.out]; exact hle) (by rw [← Hn1.out]; omega)).mono ?_
    rintro e w3 ⟨rfl, hF3, hK3⟩
    have hB : B.take q = openB B := by rw [openB, if_pos Hsc.out, ← Hq.out]
    have hN : q = openN B sf := by rw [openN, if_pos Hsc.out, ← Hq.out]
    rw [hB] at hF3
    have hF3' : RfAt w3 (ext F w2 w3) b (openB B) (openN B sf) r := by rw [← hN]; exact hF3
    have hKw : Kp F w w3 := HK2.out.trans hK3 (fun _ _ h => h)
    have hs2 := HK2.out.size
    have HF3 := Lib.hid (hF3'.mono (fun k hk => hk.imp id (fun hk => ⟨by omega, hk.2⟩)) (Hs.out.ext hKw.size) : RfAt w3 (ext F w w3) b (openB B) (openN B sf) r)
    have HK3 := Lib.hid hKw
    have HC3 := Lib.hid (show BB.C w3 A2 n2 (scanJ B).1 by
      have := (Kd.R_reads' (R_kp (Kd.R_bound HR2.out) hK3 (fun k _ h hf => by have := Hs.out k hf; have := h.2.1; omega))).2.2
      rw [← Hn2.out] at this
      exact this)
    clear hF3 hF3' hK3 hKw hB hN
    go_wp2_with fail
    go_ret2
    exact ROpenPost.mk HF3.out Hn2.out hc2 HC3.out HK3.out
  · have hd : decide (q < n1) = false := decide_eq_false hlt
    have hnl : ¬ (scanJ B).2 < B.length := by rw [← Hq.out, ← Hn1.out]; exact hlt
    have hB : B = openB B := by rw [openB, if_neg hnl]
    have hN : sf = openN B sf := by rw [openN, if_neg hnl]
    have HFx := Lib.hid (show RfAt w2 (ext F w w2) b (openB B) (openN B sf) r by rw [← hB, ← hN]; exact HF2.out.mono (fun k hk => .inl hk) (Hs.out.ext HK2.out.size))
    clear hnl hB hN
    go_wp2_with fail
    go_ret2
    exact ROpenPost.mk HFx.out Hn2.out hc2 HC2.out HK2.out

/-! ### Two sides, apart -/
/-- Two things, each in its own blocks, new since w0. -/
def Two (w0 w : World) (P Q : World → (Nat → Prop) → Prop) : Prop :=
  ∃ F G, P w F ∧ Q w G ∧ (∀ k, F k → ¬ G k) ∧ Bd F w ∧ Bd G w ∧ (∀ k, F k → w0.heap.size ≤ k) ∧ (∀ k, G k → w0.heap.size ≤ k) ∧ Below w0.heap.size w0 w
/-- What stands, stands where others move. -/
def Stands (P : World → (Nat → Prop) → Prop) : Prop := ∀ (w w1 : World) (F G : Nat → Prop), P w F → Kp G w w1 → (∀ k, F k → ¬ G k) → P w1 F
theorem Two.below {w0 w w1 : World} {P Q : World → (Nat → Prop) → Prop} (hP : Stands P) (hQ : Stands Q) (h : Two w0 w P Q) (hb : Below w.heap.size w w1) : Two w0 w1 P Q := by
  obtain ⟨F, G, h1, h2, h3, h4, h5, h6, h7, h8⟩ := h
  exact ⟨F, G, hP w w1 F _ h1 (Kp.of_below hb (fun _ => False)) (fun _ _ h => h), hQ w w1 G _ h2 (Kp.of_below hb (fun _ => False)) (fun _ _ h => h), h3, h4.up hb.size, h5.up hb.size, h6, h7, h8.trans (hb.mono h8.size)⟩
theorem Two.kept {w0 w : World} {P Q : World → (Nat → Prop) → Prop} (h : Two w0 w P Q) : Below w0.heap.size w0 w := by
  obtain ⟨F, G, h1, h2, h3, h4, h5, h6, h7, h8⟩ := h
  exact h8
/-- The left side moves. -/
theorem two_left {w0 w w1 : World} {P P' Q : World → (Nat → Prop) → Prop} {F G : Nat → Prop} (hQ : Stands Q) (h2 : Q w G) (h3 : ∀ k, F k → ¬ G k) (h4 : Bd F w) (h5 : Bd G w) (h6 : ∀ k, F k → w0.heap.size ≤ k) (h7 : ∀ k, G k → w0.heap.size ≤ k) (h8 : Below w0.heap.size w0 w)
    (hP : P' w1 (ext F w w1)) (hK : Kp F w w1) : Two w0 w1 P' Q := by
  obtain ⟨k1, k2⟩ := kp_new h6 h8 hK
  refine ⟨_, G, hP, hQ w w1 G F h2 hK (fun k hg hf => h3 k hf hg), fun k hk hg => ?_, h4.ext hK.size, h5.up hK.size, k1, h7, k2⟩
  rcases hk with hk | hk
  · exact h3 k hk hg
  · have := h5 k hg; omega
/-- The right side moves. -/
theorem two_right {w0 w w1 : World} {P Q Q' : World → (Nat → Prop) → Prop} {F G : Nat → Prop} (hP : Stands P) (h1 : P w F) (h3 : ∀ k, F k → ¬ G k) (h4 : Bd F w) (h5 : Bd G w) (h6 : ∀ k, F k → w0.heap.size ≤ k) (h7 : ∀ k, G k → w0.heap.size ≤ k) (h8 : Below w0.heap.size w0 w)
    (hQ : Q' w1 (ext G w w1)) (hK : Kp G w w1) : Two w0 w1 P Q' := by
  obtain ⟨k1, k2⟩ := kp_new h7 h8 hK
  refine ⟨F, _, hP w w1 F G h1 hK h3, hQ, fun k hf hk => ?_, h4.up hK.size, h5.ext hK.size, h6, k1, k2⟩
  rcases hk with hk | hk
  · exact h3 k hf hk
  · have := h4 k hf; omega
def PJ (jb fb n : Nat) (s l : List Int) (r : Int) (w : World) (F : Nat → Prop) : Prop := JoAt w F jb fb n s l r
def PF (fb : Nat) (s l : List Int) (r : Int) (w : World) (F : Nat → Prop) : Prop := FlAt w F fb s l r
def QJ (jb fb n : Nat) (B : List Int) (sf : Nat) (r : Int) (w : World) (F : Nat → Prop) : Prop := RjAt w F jb fb n B sf r
def QF (fb : Nat) (B : List Int) (sf : Nat) (r : Int) (w : World) (F : Nat → Prop) : Prop := RfAt w F fb B sf r
theorem PJ.stands {jb fb n : Nat} {s l : List Int} {r : Int} : Stands (PJ jb fb n s l r) := fun _ _ _ _ h hk hd => JoAt.kp h hk hd
theorem PF.stands {fb : Nat} {s l : List Int} {r : Int} : Stands (PF fb s l r) := fun _ _ _ _ h hk hd => FlAt.kp h hk hd
theorem QJ.stands {jb fb n : Nat} {B : List Int} {sf : Nat} {r : Int} : Stands (QJ jb fb n B sf r) := fun _ _ _ _ h hk hd => RjAt.kp h hk hd
theorem QF.stands {fb : Nat} {B : List Int} {sf : Nat} {r : Int} : Stands (QF fb B sf r) := fun _ _ _ _ h hk hd => RfAt.kp h hk hd
/-- A side may forget its journal. -/
theorem Two.fileL {w0 w : World} {Q : World → (Nat → Prop) → Prop} {jb fb n : Nat} {s l : List Int} {r : Int} (h : Two w0 w (PJ jb fb n s l r) Q) : Two w0 w (PF fb s l r) Q := by
  obtain ⟨F, G, h1, h2, h3, h4, h5, h6, h7, h8⟩ := h
  exact ⟨fun k => F k ∧ k ≠ jb, G, h1.2.2.2, h2, fun k hk => h3 k hk.1, fun k hk => h4 k hk.1, h5, fun k hk => h6 k hk.1, h7, h8⟩
theorem Two.fileR {w0 w : World} {P : World → (Nat → Prop) → Prop} {jb fb n : Nat} {B : List Int} {sf : Nat} {r : Int} (h : Two w0 w P (QJ jb fb n B sf r)) : Two w0 w P (QF fb B sf r) := by
  obtain ⟨F, G, h1, h2, h3, h4, h5, h6, h7, h8⟩ := h
  exact ⟨F, fun k => G k ∧ k ≠ jb, h1, h2.2.2.2, fun k hf hk => h3 k hf hk.1, h4, fun k hk => h5 k hk.1, h6, fun k hk => h7 k hk.1, h8⟩
theorem Two.left {w0 w : World} {P Q : World → (Nat → Prop) → Prop} (h : Two w0 w P Q) : ∃ F, P w F ∧ (∀ k, F k → w0.heap.size ≤ k) := by
  obtain ⟨F, G, h1, h2, h3, h4, h5, h6, h7, h8⟩ := h
  exact ⟨F, h1, h6⟩
end Go.Proofs.Ytcplmaeicmmkgaa
