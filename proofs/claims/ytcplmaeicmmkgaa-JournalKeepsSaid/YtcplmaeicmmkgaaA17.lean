/- journal.Journal: Open, Put, Sync, Len. -/
import Derived.Test.YtcplmaeicmmkgaaA16
namespace Go.Proofs.Ytcplmaeicmmkgaa
open Go Go.RowKit Go.Proofs.YtcplmaeicmmkgaaW.PrintWords Go.Proofs.YtcplmaeicmmkgaaW.PrintLast
set_option linter.unusedVariables false
set_option linter.unusedSimpArgs false

/-- A journal of a file: how many records there are. -/
def JoAt (w : World) (F : Nat → Prop) (jb fb : Nat) (n : Nat) (s l : List Int) (r : Int) : Prop :=
  F jb ∧ Blk w jb 192 [.pointer (some ⟨fb, 0, none⟩), .int .i64 n] ∧ Bd F w ∧ FlAt w (fun k => F k ∧ k ≠ jb) fb s l r
theorem JoAt.below {w w1 : World} {F : Nat → Prop} {jb fb n : Nat} {s l : List Int} {r : Int} (h : JoAt w F jb fb n s l r) (hb : Below w.heap.size w w1) : JoAt w1 F jb fb n s l r := ⟨h.1, h.2.1.below hb, h.2.2.1.up hb.size, h.2.2.2.below hb⟩
theorem JoAt.kp {w w1 : World} {F G : Nat → Prop} {jb fb n : Nat} {s l : List Int} {r : Int} (h : JoAt w F jb fb n s l r) (hk : Kp G w w1) (hd : ∀ k, F k → ¬ G k) : JoAt w1 F jb fb n s l r := ⟨h.1, h.2.1.kp hk (hd jb h.1), h.2.2.1.up hk.size, h.2.2.2.kp hk (fun k hk => hd k hk.1)⟩
theorem JoAt.mono {w : World} {F G : Nat → Prop} {jb fb n : Nat} {s l : List Int} {r : Int} (h : JoAt w F jb fb n s l r) (hG : ∀ k, F k → G k) (hB : Bd G w) : JoAt w G jb fb n s l r := ⟨hG jb h.1, h.2.1, hB, h.2.2.2.mono (fun k hk => ⟨hG k hk.1, hk.2⟩) (fun k hk => hB k hk.1)⟩

/-- Behind Open: what of the file is whole is kept. -/
def openS (s l : List Int) : List Int := if (scanJ (s ++ l)).2 < (s ++ l).length then (s ++ l).take (scanJ (s ++ l)).2 else s
def openL (s l : List Int) : List Int := if (scanJ (s ++ l)).2 < (s ++ l).length then [] else l
theorem scan_len (n : Nat) : ∀ l : List Int, l.length ≤ n → (scanJ l).2 ≤ l.length ∧ (scanJ l).1.length ≤ l.length := by
  induction n with
  | zero =>
    intro l h
    cases hok : okF l with
    | false => rw [scanJ_no l hok]; simp
    | true => have := okF_facts l hok; omega
  | succ n ih =>
    intro l h
    cases hok : okF l with
    | false => rw [scanJ_no l hok]; simp
    | true =>
      have hf := okF_facts l hok
      have := ih (l.drop ((bodyJ l).length + 6)) (by rw [List.length_drop]; omega)
      rw [List.length_drop] at this
      rw [scanJ_yes l hok]
      simp only [List.length_cons]
      omega
theorem scan_le (l : List Int) : (scanJ l).2 ≤ l.length := (scan_len _ l (Nat.le_refl _)).1
theorem scan_le1 (l : List Int) : (scanJ l).1.length ≤ l.length := (scan_len _ l (Nat.le_refl _)).2

def OpenPost' (w : World) (F : Nat → Prop) (b : Nat) (s l : List Int) (r : Int) (e : Ending) (w' : World) : Prop :=
  ∃ jb A n c, e = .returned (.tuple #[.pointer (some ⟨jb, 0, none⟩), .slice A n c, .int .i64 0]) ∧ w.heap.size ≤ jb ∧ JoAt w' (ext F w w') jb b n (openS s l) (openL s l) r ∧ n ≤ c ∧
    n = (scanJ (s ++ l)).1.length ∧ BB.R 32 w' w.heap.size (fun _ => True) (.slice A n c) (scanJ (s ++ l)).1 ∧ Kp F w w'

/-- The journal is laid. -/
theorem OpenPost'.mk {w w2 : World} {F : Nat → Prop} {b : Nat} {s l : List Int} {r : Int} {A : Option Addr} {n c : Nat} (hF : FlAt w2 (ext F w w2) b (openS s l) (openL s l) r) (hn : n = (scanJ (s ++ l)).1.length) (hc : n ≤ c) (hC : BB.R 32 w2 w.heap.size (fun _ => True) (.slice A n c) (scanJ (s ++ l)).1) (hK : Kp F w w2) :
    OpenPost' w F b s l r (.returned (.tuple #[.pointer (some ⟨w2.heap.size, 0, none⟩), .slice A n c, .int .i64 0])) (w2.alloc (.cells #[.pointer (some ⟨b, 0, none⟩), .int .i64 n] 192)) := by
  have hb : Below w2.heap.size w2 (w2.alloc (.cells #[.pointer (some ⟨b, 0, none⟩), .int .i64 n] 192)) := below_alloc (Below.refl _ _) _
  have hs : (w2.alloc (.cells #[.pointer (some ⟨b, 0, none⟩), .int .i64 n] 192)).heap.size = w2.heap.size + 1 := by simp
  have hsz := hK.size
  have hBd : Bd (ext F w (w2.alloc (.cells #[.pointer (some ⟨b, 0, none⟩), .int .i64 n] 192))) (w2.alloc (.cells #[.pointer (some ⟨b, 0, none⟩), .int .i64 n] 192)) := by
    intro k hk
    rcases hk with hk | hk
    · have := hF.2.1 k (.inl hk); omega
    · exact hk.2
  refine ⟨w2.heap.size, A, n, c, rfl, hsz, ⟨.inr ⟨hsz, by omega⟩, Blk.new w2 192 [.pointer (some ⟨b, 0, none⟩), .int .i64 n], hBd, (hF.below hb).mono (fun k hk => ⟨hk.imp id (fun hk => ⟨hk.1, by omega⟩), by have := hF.2.1 k hk; omega⟩) (fun k hk => hBd k hk.1)⟩, hc, hn, Kd.R_below hC hb, hK.below hb⟩

set_option maxHeartbeats 1000000 in
theorem open_any (w : World) (F : Nat → Prop) (b : Nat) (s l : List Int) (r : Int) (hF : FlAt w F b s l r) (hl : s.length + l.length ≤ 1000000000) :
    Calls Try.prog 61 #[.pointer (some ⟨b, 0, none⟩)] w (OpenPost' w F b s l r) := by
  have HF := Lib.hid hF
  clear hF
  have hl' : (s ++ l).length ≤ 1000000000 := by rw [List.length_append]; exact hl
  have Hle := Lib.hid (scan_le (s ++ l))
  go_enter Try.func61, Try.ntmps61
  go_wp2_with fail
  refine (flbytes_any w F b s l r HF.out hl).mono ?_
  rintro e w1 ⟨v, rfl, hR1, hB1⟩
  obtain ⟨A1, n1, c1, rfl, hn1⟩ : ∃ A1 n1 c1, v = .slice A1 n1 c1 ∧ n1 = (s ++ l).length := by
    obtain ⟨A3, c3, rfl⟩ := Kd.R_slice hR1
    exact ⟨A3, _, c3, rfl, rfl⟩
  obtain ⟨-, hc1, hC1⟩ := Kd.R_reads' hR1
  rw [← hn1] at hC1
  have HR1 := Lib.hid hR1
  clear hR1
  have hn9 : n1 ≤ 1000000000 := by omega
  have hBR : BR (s ++ l) := HF.out.2.2.1.append HF.out.2.2.2.1
  have Hn1 := Lib.hid hn1
  have hle : (scanJ (s ++ l)).2 ≤ n1 := by rw [hn1]; exact Hle.out
  clear hn1 hl'
  go_wp2_with fail
  refine (scan_any w1 A1 n1 c1 (s ++ l) hBR hC1 hc1 hn9).mono ?_
  rintro e w2 ⟨v, rfl, hR2, hB2⟩
  obtain ⟨A2, n2, c2, rfl, hn2⟩ : ∃ A2 n2 c2, v = .slice A2 n2 c2 ∧ n2 = (scanJ (s ++ l)).1.length := by
    obtain ⟨A3, c3, rfl⟩ := Kd.R_slice hR2
    exact ⟨A3, _, c3, rfl, rfl⟩
  obtain ⟨-, hc2, hC2⟩ := Kd.R_reads' hR2
  rw [← hn2] at hC2
  have hK2 : Kp F w w2 := Kp.of_below (hB1.trans (hB2.mono hB1.size)) F
  have HC2 := Lib.hid hC2
  have HR2 := Lib.hid hR2
  have HK2 := Lib.hid hK2
  have HF2 := Lib.hid ((HF.out.below hB1).below hB2)
  clear hC2 hR2 hC1 hB2 hK2
  obtain ⟨q, hq⟩ : ∃ q, q = (scanJ (s ++ l)).2 := ⟨_, rfl⟩
  have Hq := Lib.hid hq
  rw [← hq] at hle ⊢
  clear hq
  have Hn2 := Lib.hid hn2
  have hs1 := hB1.size
  have Hs1 := Lib.hid hs1
  clear hn2 hs1
  by_cases hlt : q < n1
  · have hd : decide (q < n1) = true := by simp; omega
    go_wp2_with fail
    refine (flcut_any w2 F b s l r q HF2.out hl).mono ?_
    rintro e w3 ⟨hE, hF3, hK3⟩
    have hok : cutOk s l (q : Int) = true := by
      have : (q : Int) ≤ ((s.length + l.length : Nat) : Int) := by have := Hn1.out; rw [List.length_append] at this; omega
      simp only [cutOk, this, decide_true, Bool.and_true, decide_eq_true_eq]; first | done | omega
    have hS : cutS s l q = openS s l := by
      have h' : (scanJ (s ++ l)).2 < (s ++ l).length := by rw [← Hq.out, ← Hn1.out]; exact hlt
      rw [cutS, hok, openS, if_pos h', ← Hq.out]; rfl
    have hL : cutL s l q = openL s l := by
      have h' : (scanJ (s ++ l)).2 < (s ++ l).length := by rw [← Hq.out, ← Hn1.out]; exact hlt
      rw [cutL, hok, openL, if_pos h']; rfl
    rw [hS, hL] at hF3
    have hKw : Kp F w w3 := HK2.out.trans hK3 (fun _ _ h => h)
    have hs2 := HK2.out.size
    have HF3 := Lib.hid (hF3.mono (fun k hk => hk.imp id (fun hk => ⟨by omega, hk.2⟩)) (HF.out.2.1.ext hKw.size) : FlAt w3 (ext F w w3) b (openS s l) (openL s l) r)
    have HK3 := Lib.hid hKw
    have HC3 := Lib.hid (show BB.R 32 w3 w.heap.size (fun _ => True) (.slice A2 n2 c2) (scanJ (s ++ l)).1 from
      Kd.R_mono (Kd.R_lower (R_kp (Kd.R_bound HR2.out) hK3 (fun k _ h hf => by have := HF.out.2.1 k hf; have := h.2.1; have := Hs1.out; omega)) Hs1.out) (fun _ _ => trivial))
    rw [hok, if_pos rfl] at hE
    subst hE
    clear hF3 hK3 hKw hS hL hok
    go_wp2_with fail
    go_ret3
    exact OpenPost'.mk HF3.out Hn2.out hc2 HC3.out HK3.out
  · have hd : decide (q < n1) = false := by simp; omega
    have hnl : ¬ (scanJ (s ++ l)).2 < (s ++ l).length := by rw [← Hq.out, ← Hn1.out]; exact hlt
    have hS : s = openS s l := by rw [openS, if_neg hnl]
    have hL : l = openL s l := by rw [openL, if_neg hnl]
    have HFx := Lib.hid (show FlAt w2 (ext F w w2) b (openS s l) (openL s l) r by rw [← hS, ← hL]; exact HF2.out.mono (fun k hk => .inl hk) (HF.out.2.1.ext HK2.out.size))
    clear hnl hS hL
    go_wp2_with fail
    go_ret3
    exact OpenPost'.mk HFx.out Hn2.out hc2 (Kd.R_lower HR2.out Hs1.out) HK2.out
end Go.Proofs.Ytcplmaeicmmkgaa
