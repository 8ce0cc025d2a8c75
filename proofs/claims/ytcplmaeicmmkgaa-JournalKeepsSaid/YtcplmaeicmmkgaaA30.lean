/- The journal's methods of nil; the two sides' acts. -/
import Derived.Test.YtcplmaeicmmkgaaA29
namespace Go.Proofs.Ytcplmaeicmmkgaa
open Go Go.RowKit Go.Proofs.YtcplmaeicmmkgaaW.PrintWords Go.Proofs.YtcplmaeicmmkgaaW.PrintLast
set_option linter.unusedVariables false
set_option linter.unusedSimpArgs false

theorem jsync_nil (w : World) : Calls Try.prog 63 #[.pointer none] w (fun e w' => e = .returned (.tuple #[]) ∧ w' = w) := by
  go_enter Try.func63, Try.ntmps63
  go_wp2_with fail
  go_end0
  exact ⟨rfl, rfl⟩
theorem jlen_nil (w : World) : Calls Try.prog 70 #[.pointer none] w (fun e w' => e = .returned (.int .i64 0) ∧ w' = w) := by
  go_enter Try.func70, Try.ntmps70
  go_wp2_with fail
  go_ret
  exact ⟨rfl, rfl⟩
theorem jput_nil (w : World) (A : Option Addr) (n c : Nat) : Calls Try.prog 68 #[.pointer none, .slice A n c] w (fun e w' => e = .returned (.int .i64 1) ∧ w' = w) := by
  go_enter Try.func68, Try.ntmps68
  go_wp2_with fail
  go_ret
  exact ⟨rfl, rfl⟩
theorem open_nil (w : World) : Calls Try.prog 61 #[.pointer none] w (fun e w' => e = .returned (.tuple #[.pointer none, .slice none 0 0, .int .i64 1]) ∧ w' = w) := by
  go_enter Try.func61, Try.ntmps61
  go_wp2_with fail
  go_ret3
  exact ⟨rfl, rfl⟩

/-- A journal, and a list of bodies beside it. -/
def PJL (jb fb n : Nat) (s l : List Int) (r : Int) (v : Value) (xs : List (List Int)) (w : World) (F : Nat → Prop) : Prop := JoAt w F jb fb n s l r ∧ BB.R 32 w 0 F v xs
theorem PJL.stands {jb fb n : Nat} {s l : List Int} {r : Int} {v : Value} {xs : List (List Int)} : Stands (PJL jb fb n s l r v xs) := fun _ _ _ _ h hk hd => ⟨JoAt.kp h.1 hk hd, R_kp h.2 hk (fun k _ hf => hd k hf)⟩
theorem Two.forget {w0 w : World} {Q : World → (Nat → Prop) → Prop} {jb fb n : Nat} {s l : List Int} {r : Int} {v : Value} {xs : List (List Int)} (h : Two w0 w (PJL jb fb n s l r v xs) Q) : Two w0 w (PJ jb fb n s l r) Q := by
  obtain ⟨F, G, h1, h2, h3, h4, h5, h6, h7, h8⟩ := h
  exact ⟨F, G, h1.1, h2, h3, h4, h5, h6, h7, h8⟩
theorem Two.list {w0 w : World} {Q : World → (Nat → Prop) → Prop} {jb fb n k : Nat} {s l : List Int} {r : Int} {A : Option Addr} {c : Nat} {xs : List (List Int)} (h : Two w0 w (PJL jb fb n s l r (.slice A k c) xs) Q) (hk : k = xs.length) : BB.C w A k xs := by
  obtain ⟨F, G, h1, h2, h3, h4, h5, h6, h7, h8⟩ := h
  have := (Kd.R_reads' h1.2).2.2
  rwa [← hk] at this

section
variable {w0 w : World} {jb fb kb mb n : Nat} {s l B : List Int} {sf : Nat} {r : Int} {P Q : World → (Nat → Prop) → Prop}
theorem two_sync (hQ : Stands Q) (h : Two w0 w (PJ jb fb n s l r) Q) (hl : s.length + l.length ≤ 1000000000) :
    Calls Try.prog 63 #[.pointer (some ⟨jb, 0, none⟩)] w (fun e w' => e = .returned (.tuple #[]) ∧ Two w0 w' (PJ jb fb n (s ++ l) [] r) Q) := by
  obtain ⟨F, G, h1, h2, h3, h4, h5, h6, h7, h8⟩ := h
  refine (jsync_any w F jb fb n s l r h1 hl).mono ?_
  rintro e w1 ⟨rfl, hJ, hK⟩
  exact ⟨rfl, two_left (P := PJ jb fb n s l r) hQ h2 h3 h4 h5 h6 h7 h8 hJ hK⟩
theorem two_put (hQ : Stands Q) (h : Two w0 w (PJ jb fb n s l r) Q) (body : List Int) (A : Option Addr) (m c : Nat) (hl : s.length + l.length ≤ 1000000) (hn : n ≤ 1000000000) (hBR : BR body) (hC : (Kd.int .u8).C w A m body) (hm : m ≤ 1000000000) :
    Calls Try.prog 68 #[.pointer (some ⟨jb, 0, none⟩), .slice A m c] w (fun e w' => e = .returned (.int .i64 (putE s l body r)) ∧ Two w0 w' (PJ jb fb (if putE s l body r = 0 then n + 1 else n) s (if putE s l body r = 0 then l ++ recJ body else l) r) Q) := by
  obtain ⟨F, G, h1, h2, h3, h4, h5, h6, h7, h8⟩ := h
  refine (jput_any w F jb fb n s l body r A m c h1 hl hn hBR hC hm).mono ?_
  rintro e w1 ⟨rfl, hJ, hK⟩
  exact ⟨rfl, two_left (P := PJ jb fb n s l r) hQ h2 h3 h4 h5 h6 h7 h8 hJ hK⟩
theorem two_crash (hQ : Stands Q) (h : Two w0 w (PF fb s l r) Q) (k : Int) (hl : s.length + l.length ≤ 1000000000) :
    Calls Try.prog 65 #[.pointer (some ⟨fb, 0, none⟩), .int .i64 k] w (fun e w' => ∃ x, e = .returned (.int .i64 x) ∧ Two w0 w' (PF fb (s ++ l.take (keepN l k)) [] r) Q) := by
  obtain ⟨F, G, h1, h2, h3, h4, h5, h6, h7, h8⟩ := h
  refine (flcrash_any w F fb s l r k h1 hl).mono ?_
  rintro e w1 ⟨rfl, hJ, hK⟩
  exact ⟨_, rfl, two_left (P := PF fb s l r) hQ h2 h3 h4 h5 h6 h7 h8 hJ hK⟩
theorem two_open (hQ : Stands Q) (h : Two w0 w (PF fb s l r) Q) (hl : s.length + l.length ≤ 1000000000) :
    Calls Try.prog 61 #[.pointer (some ⟨fb, 0, none⟩)] w (fun e w' => ∃ jb A n c, e = .returned (.tuple #[.pointer (some ⟨jb, 0, none⟩), .slice A n c, .int .i64 0]) ∧ Two w0 w' (PJL jb fb n (openS s l) (openL s l) r (.slice A n c) (scanJ (s ++ l)).1) Q ∧ n ≤ c ∧ n = (scanJ (s ++ l)).1.length) := by
  obtain ⟨F, G, h1, h2, h3, h4, h5, h6, h7, h8⟩ := h
  refine (open_any w F fb s l r h1 hl).mono ?_
  rintro e w1 ⟨jb, A, n, c, rfl, hs, hJ, hc, hn, hC, hK⟩
  exact ⟨jb, A, n, c, rfl, two_left (P := PF fb s l r) hQ h2 h3 h4 h5 h6 h7 h8 ⟨hJ, R_new_ext hC F⟩ hK, hc, hn⟩
theorem two_len (h : Two w0 w (PJ jb fb n s l r) Q) : Calls Try.prog 70 #[.pointer (some ⟨jb, 0, none⟩)] w (fun e w' => e = .returned (.int .i64 n) ∧ w' = w) := by
  obtain ⟨F, h1, h2⟩ := h.left
  exact jlen_any w F jb fb n s l r h1
theorem two_safe (h : Two w0 w (PF fb s l r) Q) : Calls Try.prog 72 #[.pointer (some ⟨fb, 0, none⟩)] w (fun e w' => e = .returned (.int .i64 (s.length : Nat)) ∧ w' = w) := by
  obtain ⟨F, h1, h2⟩ := h.left
  exact safe_any w F fb s l r h1
theorem two_bytes (h : Two w0 w (PF fb s l r) Q) (hl : s.length + l.length ≤ 1000000000) : Calls Try.prog 71 #[.pointer (some ⟨fb, 0, none⟩)] w (RetB w (s ++ l)) := by
  obtain ⟨F, h1, h2⟩ := h.left
  exact flbytes_any w F fb s l r h1 hl
theorem two_rsync (hP : Stands P) (h : Two w0 w P (QF mb B sf r)) : Calls Try.prog 64 #[.pointer (some ⟨mb, 0, none⟩)] w (fun e w' => ∃ x, e = .returned (.int .i64 x) ∧ Two w0 w' P (QF mb B B.length r)) := by
  obtain ⟨F, G, h1, h2, h3, h4, h5, h6, h7, h8⟩ := h
  refine (rfsync_any w G mb B sf r h2).mono ?_
  rintro e w1 ⟨rfl, hJ, hK⟩
  exact ⟨_, rfl, two_right (Q := QF mb B sf r) hP h1 h3 h4 h5 h6 h7 h8 hJ hK⟩
theorem two_rcrash (hP : Stands P) (h : Two w0 w P (QF mb B sf r)) (hsf : sf ≤ B.length) (hl : B.length ≤ 1000000000) (k : Int) :
    Calls Try.prog 66 #[.pointer (some ⟨mb, 0, none⟩), .int .i64 k] w (fun e w' => ∃ x, e = .returned (.int .i64 x) ∧ Two w0 w' P (QF mb (B.take (sf + keepQ B.length sf k)) (sf + keepQ B.length sf k) r)) := by
  obtain ⟨F, G, h1, h2, h3, h4, h5, h6, h7, h8⟩ := h
  refine (rfcrash_any w G mb B sf r h2 hsf hl k).mono ?_
  rintro e w1 ⟨rfl, hJ, hK⟩
  exact ⟨_, rfl, two_right (Q := QF mb B sf r) hP h1 h3 h4 h5 h6 h7 h8 hJ hK⟩
theorem two_ropen (hP : Stands P) (h : Two w0 w P (QF mb B sf r)) (hl : B.length ≤ 1000000) :
    Calls Try.prog 62 #[.pointer (some ⟨mb, 0, none⟩)] w (fun e w' => ∃ kb A n c, e = .returned (.tuple #[.pointer (some ⟨kb, 0, none⟩), .slice A n c]) ∧ Two w0 w' P (QJ kb mb n (openB B) (openN B sf) r) ∧ n ≤ c ∧ n = (scanJ B).1.length ∧ BB.C w' A n (scanJ B).1) := by
  obtain ⟨F, G, h1, h2, h3, h4, h5, h6, h7, h8⟩ := h
  refine (rjopen_any w G mb B sf r h2 hl).mono ?_
  rintro e w1 ⟨jb, A, n, c, rfl, hs, hJ, hc, hn, hC, hK⟩
  exact ⟨jb, A, n, c, rfl, two_right (Q := QF mb B sf r) hP h1 h3 h4 h5 h6 h7 h8 hJ hK, hc, hn, hC⟩
theorem two_rput (hP : Stands P) (h : Two w0 w P (QJ kb mb n B sf r)) (body : List Int) (A : Option Addr) (m c : Nat) (hl : B.length ≤ 1000000) (hn : n ≤ 1000000000) (hBR : BR body) (hC : (Kd.int .u8).C w A m body) (hmc : m ≤ c) (hm : m ≤ 1000000) :
    Calls Try.prog 69 #[.pointer (some ⟨kb, 0, none⟩), .slice A m c] w (fun e w' => e = .returned (.int .i64 (putR B body r)) ∧ Two w0 w' P (QJ kb mb (if putR B body r = 0 then n + 1 else n) (if putR B body r = 0 then B ++ recJ body else B) sf r)) := by
  obtain ⟨F, G, h1, h2, h3, h4, h5, h6, h7, h8⟩ := h
  refine (rjput_any w G kb mb n B body sf r A m c h2 hl hn hBR hC hmc hm).mono ?_
  rintro e w1 ⟨rfl, hJ, hK⟩
  exact ⟨rfl, two_right (Q := QJ kb mb n B sf r) hP h1 h3 h4 h5 h6 h7 h8 hJ hK⟩
end
end Go.Proofs.Ytcplmaeicmmkgaa
