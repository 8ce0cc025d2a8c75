/- journal.Scan. -/
import Derived.Test.YtcplmaeicmmkgaaA9
import Derived.Test.YtcplmaeicmmkgaaB2
namespace Go.Proofs.Ytcplmaeicmmkgaa
open Go Go.RowKit Go.Proofs.YtcplmaeicmmkgaaW.PrintWords Go.Proofs.YtcplmaeicmmkgaaW.PrintLast
set_option linter.unusedVariables false
set_option linter.unusedSimpArgs false

theorem A_info32 : (Try.prog.info? 32).map (fun i => (i.zero, i.size, i.bytes)) = some (some (.slice none 0 0), 1, 24) := by kernel_rfl

theorem okF_facts (l : List Int) (h : okF l = true) : 0 < (bodyJ l).length ∧ (bodyJ l).length + 6 ≤ l.length := by
  unfold okF at h
  simp only [Bool.and_eq_true, Bool.not_eq_true', decide_eq_true_eq] at h
  obtain ⟨⟨h1, h2⟩, h3⟩ := h
  refine ⟨h2, ?_⟩
  unfold f2J getBad at h1
  simp only [Bool.or_eq_false_iff, decide_eq_false_iff_not] at h1
  obtain ⟨hf1, hl⟩ := h1
  have hb : bodyJ l = (bytesL (l.take 206) false).take (bytesN (l.take 206) false) := by unfold bodyJ; rw [hf1]; rfl
  have hr : restJ l = (bytesL (l.take 206) false).drop (bytesN (l.take 206) false) := by unfold restJ; rw [hf1]; rfl
  unfold f1J bytesF at hf1
  simp only [Bool.or_eq_false_iff, decide_eq_false_iff_not] at hf1
  rw [hr] at hl
  rw [hb]
  have hL : bytesL (l.take 206) false = (l.take 206).drop 2 := by unfold bytesL; rw [hf1.1]; rfl
  have h2l : 2 ≤ (l.take 206).length := by have := hf1.1; unfold getBad at this; simp at this; simp; omega
  rw [hL] at hl ⊢
  simp only [List.length_take, List.length_drop] at hl h2l ⊢
  omega
/-- The bodies of records, and how many bytes these have. -/
def scanJ (l : List Int) : List (List Int) × Nat :=
  if h : okF l = true then
    let r := scanJ (l.drop ((bodyJ l).length + 6))
    (bodyJ l :: r.1, (bodyJ l).length + 6 + r.2)
  else ([], 0)
termination_by l.length
decreasing_by have := okF_facts l h; simp; omega
theorem scanJ_yes (l : List Int) (h : okF l = true) : scanJ l = (bodyJ l :: (scanJ (l.drop ((bodyJ l).length + 6))).1, (bodyJ l).length + 6 + (scanJ (l.drop ((bodyJ l).length + 6))).2) := by
  rw [scanJ, dif_pos h]
theorem scanJ_no (l : List Int) (h : okF l = false) : scanJ l = ([], 0) := by
  rw [scanJ, dif_neg (by simp [h])]

def BB : Kd (List Int) := Kd.slice 5 (Kd.int .u8)
def ScanPost (w : World) (l : List Int) (e : Ending) (w' : World) : Prop :=
  ∃ v, e = .returned (.tuple #[v, .int .i64 ((scanJ l).2 : Nat)]) ∧ BB.R 32 w' w.heap.size (fun _ => True) v (scanJ l).1 ∧ Below w.heap.size w w'

/-- What the loop knows: so many bodies, so many bytes. -/
def ScanInv (l : List Int) (pre : List (List Int)) (at_ : Nat) : Prop :=
  at_ ≤ l.length ∧ pre.length ≤ at_ ∧ (scanJ l).1 = pre ++ (scanJ (l.drop at_)).1 ∧ (scanJ l).2 = at_ + (scanJ (l.drop at_)).2
theorem ScanInv.step {l : List Int} {pre : List (List Int)} {a : Nat} (h : ScanInv l pre a) (hok : okF (l.drop a) = true) : ScanInv l (pre ++ [bodyJ (l.drop a)]) (a + ((bodyJ (l.drop a)).length + 6)) := by
  obtain ⟨h1, h2, h3, h4⟩ := h
  have hf := okF_facts _ hok
  rw [List.length_drop] at hf
  rw [scanJ_yes _ hok, List.drop_drop] at h3 h4
  refine ⟨by omega, by simp; omega, by rw [h3]; simp, by rw [h4]; simp only []; omega⟩
theorem ScanInv.done {l : List Int} {pre : List (List Int)} {a : Nat} (h : ScanInv l pre a) (hok : okF (l.drop a) = false) : (scanJ l).1 = pre ∧ (scanJ l).2 = a := by
  obtain ⟨h1, h2, h3, h4⟩ := h
  rw [scanJ_no _ hok] at h3 h4
  exact ⟨by simpa using h3, by simpa using h4⟩

set_option maxHeartbeats 2000000 in
theorem scan_any (w : World) (A : Option Addr) (m c : Nat) (l : List Int) (hBR : BR l) (hC : (Kd.int .u8).C w A m l) (hmc : m ≤ c) (hm : m ≤ 1000000000) :
    Calls Try.prog 73 #[.slice A m c] w (ScanPost w l) := by
  obtain ⟨i0, hi, hz⟩ := Option.map_eq_some_iff.1 A_info5
  have hsz : i0.size = 1 := by simp at hz; exact hz.2.1
  have HC := Lib.hid hC
  have Hml := Lib.hid hC.1
  have Hi := Lib.hid hi
  have Hsz := Lib.hid hsz
  clear hC hi hsz hz
  go_enter Try.func73, Try.ntmps73
  go_wp2_with fail
  refine (first_any w A m c l hBR HC.out hmc hm).mono ?_
  rintro e w1 ⟨v, rfl, hR1, hB1⟩
  obtain ⟨A1, c1, rfl⟩ := Kd.R_slice hR1
  have HR1 := Lib.hid hR1
  have HB1 := Lib.hid hB1
  clear hR1 hB1
  go_wp2_with fail
  go_loopw [4, 5, 6, 7] (fun vo va vb vk wr => ∃ (pre : List (List Int)) (a : Nat) (A0 : Option Addr) (n0 c0 : Nat) (A2 : Option Addr) (n2 c2 : Nat), vo = .slice A0 n0 c0 ∧ va = .int .i64 a ∧ vb = .slice A2 n2 c2 ∧ vk = .bool (okF (l.drop a)) ∧ Hid (ScanInv l pre a) ∧ BB.R 32 wr w.heap.size (fun _ => True) (.slice A0 n0 c0) pre ∧ Hid ((Kd.int .u8).R 5 wr w.heap.size (fun _ => True) (.slice A2 n2 c2) (bodyJ (l.drop a))) ∧ Hid (Below w.heap.size w wr)) (fun _ va _ _ _ => l.length - (intOf va).toNat)
  case atStart => exact ⟨[], 0, none, 0, 0, A1, _, c1, rfl, rfl, rfl, rfl, Lib.hid ⟨Nat.zero_le _, Nat.zero_le _, rfl, by simp⟩, Kd.R_nil _ _ _ _ _, HR1, HB1⟩
  case round =>
    obtain ⟨pre, a, A0, n0, c0, A2, n2, c2, rfl, rfl, rfl, rfl, HI, hO, HR2, HB2⟩ := hrel
    have HO := Lib.hid hO
    clear hO
    cases hok : okF (l.drop a) with
    | false =>
      obtain ⟨hd1, hd2⟩ := HI.out.done hok
      have Hd1 := Lib.hid hd1
      have Hd2 := Lib.hid hd2
      clear hok hd1 hd2
      go_wp2_with fail
      go_ret2
      exact ⟨_, by rw [Hd2.out]; rfl, by rw [Hd1.out]; exact HO.out, HB2.out⟩
    | true =>
      have hf := okF_facts _ hok
      have hst := HI.out.step hok
      have hn2 : n2 = (bodyJ (l.drop a)).length := (Kd.R_reads' HR2.out).1
      rw [← hn2] at hf hst
      have hal : a ≤ m := by have := HI.out.1; have := Hml.out; omega
      have hfl : n2 + 6 ≤ m - a := by have := hf.2; rw [List.length_drop] at this; have := Hml.out; omega
      obtain ⟨A5, n5, c5, hcut, hn5, hn5c, hC5⟩ := cutC_from (P := Try.prog) (d := Kd.int .u8) (A := A) (n := m) (c := c) (l := l) 32 5 Try.underlying32 Hi.out Hsz.out ((a : Int) + ((n2 : Int) + 6)) Hml.out hmc (by omega) (by omega)
      rw [show ((a : Int) + ((n2 : Int) + 6)).toNat = a + (n2 + 6) by omega] at hC5
      have HC5 := Lib.hid (hC5 w HC.out)
      have Hst := Lib.hid hst
      have Hn5 := Lib.hid hn5c
      have hap := Kd.R_apart' HR2.out (Kd.R_typed HO.out) (by decide)
      have Hap := Lib.hid hap
      have hl5 : n5 ≤ 1000000000 := by have := hn5.out; omega
      have hpl : (pre.length + 1) * 24 ≤ 140737488355328 := by have := HI.out.2.1; omega
      have Hpl := Lib.hid hpl
      have hle : w.heap.size ≤ wr.heap.size := HB2.out.size
      clear hok hst hC5 hn5c hap hf hn2 hn5 hpl
      go_wp2_with (at_builtin; refine ev_appR (v := .slice A0 n0 c0) BB w.heap.size rfl _ _ 119 32 (.slice none 0 0) 24 rfl Try.underlying119 A_info32 rfl Nat.one_pos (by decide) (p := bodyJ (l.drop a)) (cs := [.slice A2 n2 c2]) rfl rfl ⟨_, rfl, Kd.R_mono Hap.out (fun _ h => h.2)⟩ HO.out hle Hpl.out ?_; intro A6 n6 c6 w3 _ hO3 hB3 _)
      have HO3 := Lib.hid hO3
      have hb3 := HB2.out.trans hB3
      have HB3 := Lib.hid hb3
      clear hO3 hB3 hb3
      refine (first_any w3 A5 n5 c5 (l.drop (a + (n2 + 6))) (hBR.drop _) (Kd.C_below HC5.out HB3.out) Hn5.out hl5).mono ?_
      rintro e w4 ⟨v4, rfl, hR4, hB4⟩
      obtain ⟨A4, c4, rfl⟩ := Kd.R_slice hR4
      have HR4 := Lib.hid hR4
      have HB4 := Lib.hid hB4
      clear hR4 hB4
      go_wp2_with fail
      go_roundw
      case rel => exact ⟨_, a + (n2 + 6), A6, n6, c6, A4, _, c4, rfl, by go_num, rfl, rfl, Hst, Kd.R_below HO3.out HB4.out, Lib.hid (Kd.R_lower HR4.out HB3.out.size), Lib.hid (HB3.out.trans (HB4.out.mono HB3.out.size))⟩
      case measure => have h1 := Hml.out; simp [intOf]; omega
end Go.Proofs.Ytcplmaeicmmkgaa
