/- journal.Journal: Put, Sync, Len. -/
import Derived.Test.YtcplmaeicmmkgaaA17
namespace Go.Proofs.Ytcplmaeicmmkgaa
open Go Go.RowKit Go.Proofs.YtcplmaeicmmkgaaW.PrintWords Go.Proofs.YtcplmaeicmmkgaaW.PrintLast
set_option linter.unusedVariables false
set_option linter.unusedSimpArgs false

set_option maxHeartbeats 1000000 in
theorem jlen_any (w : World) (F : Nat → Prop) (jb fb n : Nat) (s l : List Int) (r : Int) (h : JoAt w F jb fb n s l r) : Calls Try.prog 70 #[.pointer (some ⟨jb, 0, none⟩)] w (fun e w' => e = .returned (.int .i64 n) ∧ w' = w) := by
  have e1 := h.2.1.cell 1 _ rfl
  clear h
  go_enter Try.func70, Try.ntmps70
  go_wp2_with fail
  go_ret
  exact ⟨rfl, rfl⟩

/-- The file has moved on; the journal stands. -/
theorem JoAt.moved {w w1 : World} {F : Nat → Prop} {jb fb n : Nat} {s l s1 l1 : List Int} {r : Int} (h : JoAt w F jb fb n s l r) (h1 : FlAt w1 (ext (fun k => F k ∧ k ≠ jb) w w1) fb s1 l1 r) (hK : Kp (fun k => F k ∧ k ≠ jb) w w1) :
    JoAt w1 (ext F w w1) jb fb n s1 l1 r ∧ Kp F w w1 := by
  have hlt := h.2.1.lt
  refine ⟨⟨.inl h.1, h.2.1.kp hK (fun hf => hf.2 rfl), h.2.2.1.ext hK.size, h1.mono (fun k hk => ?_) (fun k hk => (h.2.2.1.ext hK.size) k hk.1)⟩, hK.mono (fun _ _ hf => hf.1)⟩
  rcases hk with hk | hk
  · exact ⟨.inl hk.1, hk.2⟩
  · exact ⟨.inr hk, by have := hk.1; omega⟩

def JSyncPost (w : World) (F : Nat → Prop) (jb fb n : Nat) (s l : List Int) (r : Int) (e : Ending) (w' : World) : Prop :=
  e = .returned (.tuple #[]) ∧ JoAt w' (ext F w w') jb fb n (s ++ l) [] r ∧ Kp F w w'
set_option maxHeartbeats 1000000 in
theorem jsync_any (w : World) (F : Nat → Prop) (jb fb n : Nat) (s l : List Int) (r : Int) (h : JoAt w F jb fb n s l r) (hl : s.length + l.length ≤ 1000000000) :
    Calls Try.prog 63 #[.pointer (some ⟨jb, 0, none⟩)] w (JSyncPost w F jb fb n s l r) := by
  have e0 := h.2.1.cell 0 _ rfl
  have H := Lib.hid h
  clear h
  go_enter Try.func63, Try.ntmps63
  go_wp2_with fail
  refine (flsync_any w _ fb s l r H.out.2.2.2 hl).mono ?_
  rintro e w1 ⟨rfl, h1, hK⟩
  have HP := Lib.hid (H.out.moved h1 hK)
  clear h1 hK
  go_wp2_with fail
  go_end0
  exact ⟨rfl, HP.out⟩

def putE (s l body : List Int) (r : Int) : Int := if okJ body then (if r < s.length + l.length + (recJ body).length then 3 else 0) else 1
def JPutPost (w : World) (F : Nat → Prop) (jb fb n : Nat) (s l body : List Int) (r : Int) (e : Ending) (w' : World) : Prop :=
  e = .returned (.int .i64 (putE s l body r)) ∧ JoAt w' (ext F w w') jb fb (if putE s l body r = 0 then n + 1 else n) s (if putE s l body r = 0 then l ++ recJ body else l) r ∧ Kp F w w'

theorem be_br (n : Nat) (x : Int) : BR (be n x) := by
  induction n with
  | zero => exact BR.nil
  | succ n ih => exact BR.cons (by omega) (by omega) ih
theorem recJ_br (l : List Int) (h : BR l) : BR (recJ l) := ((be_br _ _).append h).append (be_br _ _)
theorem recJ_length (l : List Int) : (recJ l).length = l.length + 6 := by
  simp only [recJ, List.length_append, be_length]; omega

/-- The records' number is stored. -/
theorem JoAt.count {w w1 : World} {F : Nat → Prop} {jb fb n : Nat} {s l : List Int} {r : Int} (h : JoAt w1 (ext F w w1) jb fb n s l r) (hF : F jb) (hK : Kp F w w1) (n1 : Nat) :
    JoAt (w1.setCell ⟨jb, 1, none⟩ (.int .i64 n1)) (ext F w (w1.setCell ⟨jb, 1, none⟩ (.int .i64 n1))) jb fb n1 s l r ∧ Kp F w (w1.setCell ⟨jb, 1, none⟩ (.int .i64 n1)) := by
  have hs : (w1.setCell ⟨jb, 1, none⟩ (.int .i64 n1)).heap.size = w1.heap.size := by simp [World.setCell]
  have he : ∀ k, ext F w w1 k → ext F w (w1.setCell ⟨jb, 1, none⟩ (.int .i64 n1)) k := fun k hk => hk.imp id (fun hk => ⟨hk.1, by rw [hs]; exact hk.2⟩)
  have hk1 : Kp (fun k => k = jb) w1 (w1.setCell ⟨jb, 1, none⟩ (.int .i64 n1)) := Kp.setCell (p := ⟨jb, 1, none⟩) (Kp.refl (fun k => k = jb) w1) (fun _ => rfl) _
  have hBd : Bd (ext F w (w1.setCell ⟨jb, 1, none⟩ (.int .i64 n1))) (w1.setCell ⟨jb, 1, none⟩ (.int .i64 n1)) := fun k hk => by
    rw [hs]; exact h.2.2.1 k (hk.imp id (fun hk => ⟨hk.1, by rw [← hs]; exact hk.2⟩))
  refine ⟨⟨he jb h.1, h.2.1.set 1 _, hBd, (h.2.2.2.kp hk1 (fun k hk e => hk.2 e)).mono (fun k hk => ⟨he k hk.1, hk.2⟩) (fun k hk => hBd k hk.1)⟩, hK.setCell (fun _ => hF) _⟩

set_option maxHeartbeats 1000000 in
theorem jput_any (w : World) (F : Nat → Prop) (jb fb n : Nat) (s l body : List Int) (r : Int) (A : Option Addr) (m c : Nat) (h : JoAt w F jb fb n s l r) (hl : s.length + l.length ≤ 1000000) (hn : n ≤ 1000000000) (hBR : BR body) (hC : (Kd.int .u8).C w A m body) (hm : m ≤ 1000000000) :
    Calls Try.prog 68 #[.pointer (some ⟨jb, 0, none⟩), .slice A m c] w (JPutPost w F jb fb n s l body r) := by
  have H := Lib.hid h
  have HC := Lib.hid hC
  clear h hC
  have finE : ∀ w1, okJ body = false → Below w.heap.size w w1 → JPutPost w F jb fb n s l body r (.returned (.int .i64 1)) w1 := by
    intro w1 ho hb
    have : putE s l body r = 1 := by rw [putE, ho]; rfl
    refine ⟨by rw [this], ?_, Kp.of_below hb F⟩
    rw [this, if_neg (by decide), if_neg (by decide)]
    exact (H.out.below hb).mono (fun k hk => .inl hk) (H.out.2.2.1.ext hb.size)
  have FinE := Lib.hid finE
  clear finE
  go_enter Try.func68, Try.ntmps68
  go_wp2_with fail
  refine (encJ_any w A m c body hBR HC.out hm).mono ?_
  rintro e w1 ⟨v, hE, hR1, hB1⟩
  have Hb := Lib.hid hB1
  clear hB1
  cases hok : okJ body with
  | false =>
    rw [hok, if_neg (by decide)] at hE
    subst hE
    have HF := Lib.hid (FinE.out w1 hok Hb.out)
    clear hok hR1
    go_wp2_with fail
    go_ret
    exact HF.out
  | true =>
    rw [hok, if_pos rfl] at hE
    rw [hok, if_pos rfl] at hR1
    subst hE
    have hlen : body.length ≤ 200 := by
      unfold okJ at hok
      simp at hok
      exact hok.2
    have Hok := Lib.hid hok
    clear hok
    have hrl := recJ_length body
    obtain ⟨A1, n1, c1, rfl, hn1⟩ : ∃ A1 n1 c1, v = .slice A1 n1 c1 ∧ n1 = (recJ body).length := by
      obtain ⟨A3, c3, rfl⟩ := Kd.R_slice hR1
      exact ⟨A3, _, c3, rfl, rfl⟩
    have hC1 := (Kd.R_reads' hR1).2.2
    rw [← hn1] at hC1
    have HC1 := Lib.hid hC1
    have Hrl := Lib.hid hrl
    have hl9 : s.length + l.length + (recJ body).length ≤ 1000000000 := by omega
    have HR1 := Lib.hid hR1
    clear hC1 hR1 hn1 hrl
    have HJ1 := Lib.hid (H.out.below Hb.out)
    have e0 := HJ1.out.2.1.cell 0 _ rfl
    go_wp2_with fail
    refine (fladd_any w1 _ fb s l (recJ body) r A1 n1 c1 HJ1.out.2.2.2 HC1.out (recJ_br _ hBR) hl9).mono ?_
    rintro e w2 ⟨hE, hF2, hK2⟩
    have hM := HJ1.out.moved hF2 hK2
    have hKw : Kp F w w2 := (Kp.of_below Hb.out F).trans hM.2 (fun _ _ h => h)
    have hMw := hM.1.mono (G := ext F w w2) (fun k hk => hk.imp id (fun hk => ⟨by have := Hb.out.size; omega, hk.2⟩)) (H.out.2.2.1.ext hKw.size)
    have HM := Lib.hid hMw
    have HKw := Lib.hid hKw
    clear hM hKw hMw hF2 hK2 e0
    by_cases hr : r < s.length + l.length + (recJ body).length
    · have hp : putE s l body r = 3 := by rw [putE, Hok.out, if_pos rfl, if_pos hr]
      rw [if_pos hr] at hE
      have HM3 := HM.out
      rw [if_pos hr] at HM3
      have HM4 := Lib.hid HM3
      have Hp := Lib.hid hp
      clear hr hp HM3 HM
      subst hE
      go_wp2_with fail
      go_ret
      refine ⟨by rw [Hp.out]; rfl, ?_, HKw.out⟩
      rw [Hp.out, if_neg (by decide), if_neg (by decide)]
      exact HM4.out
    · have hp : putE s l body r = 0 := by rw [putE, Hok.out, if_pos rfl, if_neg hr]
      rw [if_neg hr] at hE
      have HM3 := HM.out
      rw [if_neg hr] at HM3
      have HM4 := Lib.hid HM3
      have Hp := Lib.hid hp
      clear hr hp HM3 HM
      subst hE
      have e1 := HM4.out.2.1.cell 1 _ rfl
      have f1 := HM4.out.2.1.frozen 1
      have hw : IntKind.i64.wrap ((n : Int) + 1) = ((n + 1 : Nat) : Int) := by rw [IntWalk.i64_in _ (by omega)]; rfl
      go_wp2_with fail
      go_ret
      refine ⟨by rw [Hp.out]; rfl, ?_⟩
      rw [Hp.out, if_pos rfl, if_pos rfl]
      exact HM4.out.count H.out.1 HKw.out (n + 1)
end Go.Proofs.Ytcplmaeicmmkgaa
