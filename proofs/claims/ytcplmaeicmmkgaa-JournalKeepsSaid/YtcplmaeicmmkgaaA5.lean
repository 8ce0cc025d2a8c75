/- buf's Reader: Bytes, Rest, Done, Read; its Writer: Done, Bytes. -/
import Derived.Test.YtcplmaeicmmkgaaA4
namespace Go.Proofs.Ytcplmaeicmmkgaa
open Go Go.RowKit Go.Proofs.YtcplmaeicmmkgaaW.PrintWords Go.Proofs.YtcplmaeicmmkgaaW.PrintLast
set_option linter.unusedVariables false
set_option linter.unusedSimpArgs false

/-- What Bytes reads: the bytes, what is left, whether the reader has failed. -/
def bytesN (l : List Int) (f : Bool) : Nat := if getBad 2 l f then 0 else (beV (l.take 2)).toNat
def bytesL (l : List Int) (f : Bool) : List Int := if getBad 2 l f then l else l.drop 2
def bytesF (most : Nat) (l : List Int) (f : Bool) : Bool := getBad 2 l f || decide (min most (bytesL l f).length < bytesN l f)

def BytesPost (w : World) (F : Nat → Prop) (b : Nat) (l : List Int) (f : Bool) (most : Nat) (e : Ending) (w' : World) : Prop :=
  ∃ v, e = .returned v ∧ (Kd.int .u8).R 5 w' w.heap.size (fun _ => True) v (if bytesF most l f then [] else (bytesL l f).take (bytesN l f)) ∧
    RdAt w' F b (if bytesF most l f then bytesL l f else (bytesL l f).drop (bytesN l f)) (bytesF most l f) ∧ Kp F w w'

theorem RdAt.below {w w1 : World} {F : Nat → Prop} {b : Nat} {l : List Int} {f : Bool} (h : RdAt w F b l f) (hb : Below w.heap.size w w1) : RdAt w1 F b l f := by
  obtain ⟨h1, h2, h3, A, n, c, h4, h5⟩ := h
  exact ⟨h1, h2.up hb.size, h3, A, n, c, h4.below hb, Kd.Q_below h5 hb⟩
theorem RdAt.kp {w w1 : World} {F G : Nat → Prop} {b : Nat} {l : List Int} {f : Bool} (h : RdAt w F b l f) (hk : Kp G w w1) (hd : ∀ k, F k → ¬ G k) : RdAt w1 F b l f := by
  obtain ⟨h1, h2, h3, A, n, c, h4, h5⟩ := h
  exact ⟨h1, h2.up hk.size, h3, A, n, c, h4.kp hk (hd b h1), Q_kp h5 hk (fun k _ hf => hd k hf)⟩

set_option maxHeartbeats 1000000 in
theorem bytes_any (w : World) (F : Nat → Prop) (b : Nat) (l : List Int) (f : Bool) (most : Nat) (hmost : most ≤ 100000) (hR : RdAt w F b l f) : Calls Try.prog 120 #[.pointer (some ⟨b, 0, none⟩), .int .i64 most] w (BytesPost w F b l f most) := by
  have HR := Lib.hid hR
  have hval : (if getBad 2 l f then (0 : Int) else beV (l.take 2)) = ((bytesN l f : Nat) : Int) := by
    unfold bytesN
    split
    · rfl
    · have := (beV_bound (l.take 2) (hR.2.2.1.take 2)).1; omega
  have Hval := Lib.hid hval
  clear hR hval
  go_enter Try.func120, Try.ntmps120
  go_wp2_with fail
  refine (get_any w F b l f 2 (by decide) (by decide) HR.out).mono ?_
  rintro e w1 ⟨rfl, hR1, hK1, hs1⟩
  rw [Hval.out]
  have HR1 := Lib.hid hR1
  have HK1 := Lib.hid hK1
  have Hs1 := Lib.hid hs1
  clear hR1 hK1 hs1
  obtain ⟨hb, hF, hBR, A, m, c, hB, hQ⟩ := HR1.out
  have hm := (Kd.Q_reads' hQ).1
  have Hm := Lib.hid hm
  have c0 := hB.cell 0 _ rfl
  clear hB hQ hm hF
  obtain ⟨N, hN⟩ : ∃ N, N = bytesN l f := ⟨_, rfl⟩
  rw [← hN]
  have HN := Lib.hid hN
  clear hN
  have key1 : ¬ m < most → (getBad 2 l f || decide (most < N)) = bytesF most l f := fun h => by
    unfold bytesF bytesL; rw [← Hm.out, ← HN.out, Nat.min_eq_left (by omega)]
  have key2 : m < most → (getBad 2 l f || decide (m < N)) = bytesF most l f := fun h => by
    unfold bytesF bytesL; rw [← Hm.out, ← HN.out, Nat.min_eq_right (by omega)]
  have Key1 := Lib.hid key1
  have Key2 := Lib.hid key2
  have hNm : bytesF most l f = false → N ≤ m ∧ N ≤ most := fun h => by
    unfold bytesF bytesL at h; rw [← Hm.out, ← HN.out] at h; simp at h; omega
  have HNm := Lib.hid hNm
  have hok : bytesF most l f = true → BytesPost w F b l f most (.returned (.slice none 0 0)) w1 → True := fun _ _ => trivial
  clear key1 key2 hNm hok hBR
  go_wp2_with fail
  all_goals
    refine (fails_any w1 F b _ _ _ HR1.out).mono ?_
    rintro e w2 ⟨rfl, hR2, hK2, hs2⟩
    first | rw [Key1.out (by omega)] at hR2 ⊢ | rw [Key2.out (by omega)] at hR2 ⊢
    have HR2 := Lib.hid hR2
    have HK2 := Lib.hid hK2
    have Hs2 := Lib.hid hs2
    clear hR2 hK2 hs2
    cases hbf : bytesF most l f with
    | true =>
      have Hbf := Lib.hid hbf
      rw [hbf] at HR2
      clear hbf
      go_wp2_with fail
      go_ret
      exact ⟨_, rfl, by rw [Hbf.out]; exact Kd.R_nil _ _ _ _ _, by rw [Hbf.out]; exact HR2.out, HK1.out.trans HK2.out (fun _ _ h => h)⟩
    | false =>
      have Hbf := Lib.hid hbf
      rw [hbf] at HR2
      have hle := HNm.out hbf
      clear hbf
      go_wp2_with fail
      refine (take_any w2 F b _ N HR2.out (by rw [← show m = (if getBad 2 l f = true then l else l.drop 2).length from Hm.out]; exact hle.1)).mono ?_
      rintro e w3 ⟨A3, n3, c3, rfl, hC3, hR3, hK3, hs3⟩
      have HR3 := Lib.hid hR3
      have HC3 := Lib.hid hC3
      have HK3 := Lib.hid hK3
      have Hs3 := Lib.hid hs3
      clear hR3 hC3 hK3 hs3
      go_wp2_with fail
      refine (clone_any w3 A3 n3 c3 _ HC3.out (by have h1 := HC3.out.1; rw [List.length_take] at h1; omega)).mono ?_
      rintro e w4 ⟨v, rfl, hR4, hB4⟩
      have HR4 := Lib.hid hR4
      have HB4 := Lib.hid hB4
      clear hR4 hB4
      go_wp2_with fail
      go_ret
      refine ⟨v, rfl, ?_, ?_, ((HK1.out.trans HK2.out (fun _ _ h => h)).trans HK3.out (fun _ _ h => h)).below HB4.out⟩
      · have := HR4.out
        rw [Hs3.out, Hs2.out, Hs1.out] at this
        rw [Hbf.out, ← HN.out]
        exact this
      · rw [Hbf.out, ← HN.out]
        exact HR3.out.below HB4.out

def DoneW (w : World) (l : List Int) (bad : Bool) (e : Ending) (w' : World) : Prop :=
  ∃ v, e = .returned (.tuple #[v, .int .i64 (if bad then 1 else 0)]) ∧ (Kd.int .u8).R 5 w' w.heap.size (fun _ => True) v (if bad then [] else l) ∧ Below w.heap.size w w'

set_option maxHeartbeats 400000 in
theorem wdone_any (w : World) (F : Nat → Prop) (b : Nat) (l : List Int) (bad : Bool) (hl : l.length ≤ 1000000000) (hW : WrAt w F b l bad) : Calls Try.prog 109 #[.pointer (some ⟨b, 0, none⟩)] w (DoneW w l bad) := by
  obtain ⟨hb, hF, v, hB, hR⟩ := hW
  obtain ⟨A, c, rfl⟩ := Kd.R_slice hR
  obtain ⟨_, _, hC⟩ := Kd.R_reads' hR
  have c0 := hB.cell 0 _ rfl
  have c1 := hB.cell 1 _ rfl
  have HC := Lib.hid hC
  clear hB hR hC hF
  cases bad with
  | true =>
    go_enter Try.func109, Try.ntmps109
    go_wp2
    go_ret2
    exact ⟨_, rfl, Kd.R_nil _ _ _ _ _, Below.refl _ _⟩
  | false =>
    go_enter Try.func109, Try.ntmps109
    go_wp2_with fail
    refine (clone_any w A _ c l HC.out (by omega)).mono ?_
    rintro e w1 ⟨v, rfl, hR1, hB1⟩
    go_wp2_with fail
    go_ret2
    exact ⟨v, rfl, hR1, hB1⟩

def ReadPost (w : World) (l : List Int) (e : Ending) (w' : World) : Prop :=
  ∃ b, e = .returned (.pointer (some ⟨b, 0, none⟩)) ∧ RdAt w' (ext (fun _ => False) w w') b l false ∧ Below w.heap.size w w'

set_option maxHeartbeats 400000 in
theorem read_any (w : World) (A : Option Addr) (n c : Nat) (l : List Int) (hl : n ≤ 140737488355232) (hBR : BR l) (hC : (Kd.int .u8).C w A n l) : Calls Try.prog 110 #[.slice A n c] w (ReadPost w l) := by
  have HC := Lib.hid hC
  clear hC
  go_enter Try.func110, Try.ntmps110
  go_wp2_with fail
  refine (clone_any w A n c l HC.out (by omega)).mono ?_
  rintro e w1 ⟨v, rfl, hR1, hB1⟩
  obtain ⟨A1, c1, rfl⟩ := Kd.R_slice hR1
  have hs := hB1.size
  have HR1 := Lib.hid hR1
  have HB1 := Lib.hid hB1
  clear hR1 hB1
  go_wp2_with fail
  go_ret
  have hb2 : Below w.heap.size w (w1.alloc (.cells #[.slice A1 l.length c1, .bool false] 202)) := below_alloc HB1.out _
  refine ⟨w1.heap.size, rfl, ⟨.inr ⟨hs, by simp⟩, fun k hk => hk.elim (fun h => h.elim) (fun h => h.2), hBR, A1, l.length, c1, Blk.new w1 202 [.slice A1 l.length c1, .bool false], ?_⟩, hb2⟩
  refine Kd.Q_of_R (Kd.R_mono (Kd.R_alloc (R_new_ext HR1.out (fun _ => False)) _) (fun k hk => ?_))
  rcases hk with hk | hk
  · exact hk.elim
  · exact .inr ⟨hk.1, by simp; omega⟩

def RestPost (w : World) (F : Nat → Prop) (b : Nat) (l : List Int) (f : Bool) (e : Ending) (w' : World) : Prop :=
  ∃ v, e = .returned v ∧ (Kd.int .u8).R 5 w' w.heap.size (fun _ => True) v (if f then [] else l) ∧ RdAt w' F b (if f then l else []) f ∧ Kp F w w'

set_option maxHeartbeats 400000 in
theorem rest_any (w : World) (F : Nat → Prop) (b : Nat) (l : List Int) (f : Bool) (hl : l.length ≤ 100000000000) (hR : RdAt w F b l f) : Calls Try.prog 139 #[.pointer (some ⟨b, 0, none⟩)] w (RestPost w F b l f) := by
  have HR := Lib.hid hR
  obtain ⟨hb, hF, hBR, A, m, c, hB, hQ⟩ := hR
  have hm := (Kd.Q_reads' hQ).1
  subst hm
  have c0 := hB.cell 0 _ rfl
  have c1 := hB.cell 1 _ rfl
  clear hB hQ hF
  cases f with
  | true =>
    go_enter Try.func139, Try.ntmps139
    go_wp2
    go_ret
    exact ⟨_, rfl, Kd.R_nil _ _ _ _ _, HR.out, Kp.refl _ _⟩
  | false =>
    go_enter Try.func139, Try.ntmps139
    go_wp2_with fail
    refine (take_any w F b l l.length HR.out (Nat.le_refl _)).mono ?_
    rintro e w1 ⟨A1, n1, c1', rfl, hC1, hR1, hK1, hs1⟩
    rw [List.take_length] at hC1
    rw [List.drop_length] at hR1
    have HR1 := Lib.hid hR1
    have HC1 := Lib.hid hC1
    have HK1 := Lib.hid hK1
    have Hs1 := Lib.hid hs1
    clear hR1 hC1 hK1 hs1
    go_wp2_with fail
    refine (clone_any w1 A1 n1 c1' l HC1.out (by have := HC1.out.1; omega)).mono ?_
    rintro e w2 ⟨v, rfl, hR2, hB2⟩
    have HR2 := Lib.hid hR2
    have HB2 := Lib.hid hB2
    clear hR2 hB2
    go_wp2_with fail
    go_ret
    refine ⟨v, rfl, ?_, HR1.out.below HB2.out, HK1.out.below HB2.out⟩
    have := HR2.out
    rw [Hs1.out] at this
    exact this

def RDone (w : World) (l : List Int) (f : Bool) (e : Ending) (w' : World) : Prop := e = .returned (.int .i64 (if f || decide (0 < l.length) then 2 else 0)) ∧ w' = w
set_option maxHeartbeats 400000 in
theorem rdone_any (w : World) (F : Nat → Prop) (b : Nat) (l : List Int) (f : Bool) (hR : RdAt w F b l f) : Calls Try.prog 112 #[.pointer (some ⟨b, 0, none⟩)] w (RDone w l f) := by
  obtain ⟨hb, hF, hBR, A, m, c, hB, hQ⟩ := hR
  have hm := (Kd.Q_reads' hQ).1
  subst hm
  have c0 := hB.cell 0 _ rfl
  have c1 := hB.cell 1 _ rfl
  clear hB hQ hF
  cases f with
  | true =>
    go_enter Try.func112, Try.ntmps112
    go_wp2
    go_ret
    exact ⟨rfl, rfl⟩
  | false =>
    by_cases h0 : 0 < l.length
    · go_enter Try.func112, Try.ntmps112
      go_wp2
      go_ret
      exact ⟨by simp [h0], rfl⟩
    · go_enter Try.func112, Try.ntmps112
      go_wp2
      go_ret
      exact ⟨by simp [h0], rfl⟩
end Go.Proofs.Ytcplmaeicmmkgaa
