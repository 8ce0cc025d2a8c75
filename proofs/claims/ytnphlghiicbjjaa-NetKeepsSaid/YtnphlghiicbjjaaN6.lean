/- net: Take. -/
import Derived.Test.YtnphlghiicbjjaaN5
namespace Go.Proofs.Ytnphlghiicbjjaa
open Go Go.RowKit Go.Proofs.YtnphlghiicbjjaaW.PrintWords Go.Proofs.YtnphlghiicbjjaaW.PrintLast Go.Proofs.Ytnphlghiicbjjaa.PNetPlays
set_option linter.unusedVariables false
set_option linter.unusedSimpArgs false

/-- An item that is read. -/
def ItemC (w : World) (x : S40) (v : Value) : Prop := ∃ A c, v = .agg #[.int .i64 x.f0, .int .i64 x.f1, .slice A x.f2.length c] ∧ x.f2.length ≤ c ∧ (Kd.int .u8).C w A x.f2.length x.f2
theorem ItemIs.read {w w' : World} {x : S40} {v : Value} (h : ItemIs w w' x v) : ItemC w' x v := by
  obtain ⟨u, rfl, hR, -⟩ := h
  obtain ⟨A, c, rfl⟩ := Kd.R_slice hR
  exact ⟨A, c, rfl, (Kd.R_reads' hR).2.1, (Kd.R_reads' hR).2.2⟩
theorem ItemC.below {w w' : World} {x : S40} {v : Value} (h : ItemC w x v) (hb : Below w.heap.size w w') : ItemC w' x v := by
  obtain ⟨A, c, rfl, hc, hC⟩ := h
  exact ⟨A, c, rfl, hc, C_kp hC hb⟩
/-- A net's items are stored anew. -/
theorem NtAt.put {w1 : World} {F : Nat → Prop} {b : Nat} {ys : List S40} {r q : Int} {u : Value} {A : Option Addr} {n c : Nat} (hF : F b) (hBd : Bd F w1) (hB : Blk w1 b 100 [u, .int .i64 r, .int .i64 q])
    (hR : k40.R 40 w1 0 (fun k => F k ∧ k ≠ b) (.slice A n c) ys) : NtAt (w1.setCell ⟨b, 0, none⟩ (.slice A n c)) F b ys r q :=
  ⟨hF, hBd.up (by simp [World.setCell]), A, n, c, hB.set 0 _, Kd.R_set hR hB (by decide) 0 _⟩

def TakeOk (w : World) (F : Nat → Prop) (b : Nat) (xs : List S40) (r q i : Int) (e : Ending) (w' : World) : Prop :=
  ∃ A c, e = .returned (.tuple #[.agg #[.int .i64 (rd_T40 xs i).f0, .int .i64 (rd_T40 xs i).f1, .slice A (rd_T40 xs i).f2.length c], .int .i64 0]) ∧ (Kd.int .u8).R 5 w' 0 (ext (fun _ => False) w w') (.slice A (rd_T40 xs i).f2.length c) (rd_T40 xs i).f2 ∧ NtAt w' F b (xs.eraseIdx i.toNat) r q ∧ Kp F w w'
set_option maxHeartbeats 1000000 in
theorem take_ok (w : World) (F : Nat → Prop) (b : Nat) (xs : List S40) (r q : Int) (hF : NtAt w F b xs r q) (hS : SzI xs) (hl : xs.length ≤ 1000000000) (i : Int) (h0 : 0 ≤ i) (hi : i < (xs.length : Int)) :
    Calls Try.prog 17 #[.pointer (some ⟨b, 0, none⟩), .int .i64 i] w (TakeOk w F b xs r q i) := by
  obtain ⟨k, rfl⟩ : ∃ k : Nat, i = k := ⟨i.toNat, by omega⟩
  unfold TakeOk
  rw [Int.toNat_natCast]
  have HF := Lib.hid hF
  have HS := Lib.hid hS
  have hFlt := hF.2.1
  have HFlt := Lib.hid hFlt
  have HFb := Lib.hid hF.1
  have hw1 : IntKind.i64.wrap ((k : Int) + 1) = (k : Int) + 1 := IntWalk.i64_in _ (by omega)
  clear hF hS hFlt
  go_enter Try.func17, Try.ntmps17
  go_wp2_with fail
  refine (at_ok _ F b xs r q (HF.out.below (below_alloc (Below.refl _ _) _)) HS.out (k : Int) h0 hi).mono ?_
  rintro e w2 ⟨v, rfl, hI⟩
  have HIr := Lib.hid hI.read
  obtain ⟨u, rfl, hR, hB⟩ := hI
  obtain ⟨A1, k1, rfl⟩ := Kd.R_slice hR
  have HRI := Lib.hid hR
  generalize hx : rd_T40 xs (k : Int) = x at *
  have HX := Lib.hid hx
  clear hx
  have hB0 : Below w.heap.size w w2 := (below_alloc (Below.refl _ _) _).trans (hB.mono (by simp))
  have Z := Lib.hid ((zblk w).below hB)
  have hsz : w.heap.size < w2.heap.size := by have := hB.size; simp at this; omega
  have HB0 := Lib.hid hB0
  have hF2 := HF.out.below hB0
  obtain ⟨-, -, A, n, c, hbk, hRk⟩ := hF2
  obtain ⟨hn, hc, -⟩ := Kd.R_reads' hRk
  have hbl : b < w.heap.size := HFlt.out b HFb.out
  have c0 := hbk.cell 0 _ rfl
  have HBk := Lib.hid hbk
  have HRk := Lib.hid hRk
  have Hn := Lib.hid hn
  have hb2 : b < w2.heap.size := by omega
  clear hR hB hbk hRk hn hB0
  go_wp2_with fail
  have hB3 : Below w2.heap.size w2 (w2.alloc (.cells #[.int .i64 x.f0, .int .i64 x.f1, .slice A1 x.f2.length k1] 40)) := below_alloc (Below.refl _ _) _
  have X3 := Lib.hid (Blk.new w2 40 [.int .i64 x.f0, .int .i64 x.f1, .slice A1 x.f2.length k1])
  have hz3 : w2.heap.size < (w2.alloc (.cells #[.int .i64 x.f0, .int .i64 x.f1, .slice A1 x.f2.length k1] 40)).heap.size := by simp
  generalize w2.alloc (.cells #[.int .i64 x.f0, .int .i64 x.f1, .slice A1 x.f2.length k1] 40) = w3 at hB3 X3 hz3 ⊢
  have hR3 := Kd.R_below HRk.out hB3
  refine (delete_any w3 _ A n c xs hR3 (by have := Hn.out; omega) k (by have := Hn.out; omega)).mono ?_
  rintro e w4 ⟨A4, n4, c4, rfl, hR4, hK4⟩
  have hb4 := (HBk.out.below hB3).kp hK4 (by simp)
  have z4 := (Z.out.below hB3).kp hK4 (fun h => by have := HFlt.out _ h.1; omega)
  have x4 := X3.out.kp hK4 (fun h => by have := HFlt.out _ h.1; omega)
  have c4_0 := hb4.cell 0 _ rfl
  have f4_0 := hb4.frozen 0
  have x0 := x4.cell 0 _ rfl
  have x1 := x4.cell 1 _ rfl
  have x2 := x4.cell 2 _ rfl
  have z0 := z4.cell 0 _ rfl
  have z1 := z4.cell 1 _ rfl
  have z2 := z4.cell 2 _ rfl
  have g0 := z4.frozen 0
  have g1 := z4.frozen 1
  have g2 := z4.frozen 2
  have hne1 : ¬ b = w2.heap.size := by omega
  have hne2 : ¬ b = w.heap.size := by omega
  have hne3 : ¬ w2.heap.size = w.heap.size := by omega
  have hne4 : ¬ w2.heap.size = b := by omega
  have hne5 : ¬ w.heap.size = b := by omega
  have hne6 : ¬ w.heap.size = w2.heap.size := by omega
  have HB4 := Lib.hid hb4
  have HZ4 := Lib.hid z4
  have HB3 := Lib.hid hB3
  have HR4 := Lib.hid hR4
  have HK4 := Lib.hid hK4
  clear hb4 z4 x4 hB3 hR3 hR4 hK4 c0
  go_wp2
  obtain ⟨hbk, K5⟩ := put3 (HZ4.out.far (p := ⟨b, 0, none⟩) (by simpa using hne5) (.slice A4 n4 c4)) (.int .i64 x.f0) (.int .i64 x.f1) (.slice A1 x.f2.length k1)
  have hK2 : Kp F w w4 := ((Kp.of_below HB0.out F).below HB3.out).trans HK4.out (fun k _ hk => hk.1)
  have hn5 := (NtAt.put HFb.out (HFlt.out.up hK2.size) HB4.out HR4.out).kp K5 (fun k hk he => by have := HFlt.out k hk; omega)
  have hKb : Kp F w (w4.setCell ⟨b, 0, none⟩ (.slice A4 n4 c4)) := hK2.setCell (p := ⟨b, 0, none⟩) (fun _ => HFb.out) _
  have hK6 := hKb.trans K5 (fun k hk he => by omega)
  refine bodyPost_ret (results_ct rfl _ _ w.heap.size 40 #[.int .i64 x.f0, .int .i64 x.f1, .slice A1 x.f2.length k1] (0, 0) _ rfl hbk Try.underlying40 rfl (by kernel_rfl)) rfl ?_
  rw [HX.out]
  refine ⟨A1, k1, rfl, ?_, hn5, hK6⟩
  have KA : Kp (fun k => F k ∨ k = w.heap.size) w2 (w4.setCell ⟨b, 0, none⟩ (.slice A4 n4 c4)) := ((((Kp.refl _ w2).below HB3.out).trans HK4.out (fun k _ hk => .inl hk.1)).setCell (p := ⟨b, 0, none⟩) (fun _ => .inl HFb.out) _)
  have KB := KA.trans K5 (fun k _ hk => .inr hk)
  have hRf := R_kp (Kd.R_bound HRI.out) KB (fun k _ hk hf => by
    have h1 := hk.2.1
    simp at h1
    rcases hf with hf | hf
    · have := HFlt.out k hf; omega
    · omega)
  exact Kd.R_lower (Kd.R_mono (Kd.R_bound hRf) (fun k hk => .inr ⟨by have := hk.1.2.1; simp at this; omega, hk.2.2.1⟩)) (Nat.zero_le _)

def TakeNo (w : World) (k : Int) (e : Ending) (w' : World) : Prop := RetZ w k e w'
set_option maxHeartbeats 1000000 in
theorem take_no (w : World) (F : Nat → Prop) (b : Nat) (xs : List S40) (r q : Int) (hF : NtAt w F b xs r q) (i : Int) (hi : i < 0 ∨ (xs.length : Int) ≤ i) :
    Calls Try.prog 17 #[.pointer (some ⟨b, 0, none⟩), .int .i64 i] w (RetZ w 4) := by
  have HF := Lib.hid hF
  clear hF
  go_enter Try.func17, Try.ntmps17
  go_wp2_with fail
  refine (at_no _ F b xs r q (HF.out.below (below_alloc (Below.refl _ _) _)) i hi).mono ?_
  rintro e w2 ⟨rfl, hB⟩
  have Z := Lib.hid ((zblk w).below hB)
  have HB0 := Lib.hid ((below_alloc (Below.refl w.heap.size w) (.cells #[.int .i64 0, .int .i64 0, .slice none 0 0] 40)).trans (hB.mono (by simp)))
  have hsz : w.heap.size < w2.heap.size := by have := hB.size; simp at this; omega
  have z0 := Z.out.cell 0 _ rfl
  have z1 := Z.out.cell 1 _ rfl
  have z2 := Z.out.cell 2 _ rfl
  have g0 := Z.out.frozen 0
  have g1 := Z.out.frozen 1
  have g2 := Z.out.frozen 2
  clear hB
  go_wp2
  refine bodyPost_ret (results_ct rfl _ _ w.heap.size 40 #[.int .i64 0, .int .i64 0, .slice none 0 0] (0, 0) _ rfl ((put3 Z.out (.int .i64 0) (.int .i64 0) (.slice none 0 0)).1.alloc _) Try.underlying40 rfl (by kernel_rfl)) rfl ?_
  refine ⟨rfl, ?_⟩
  exact below_alloc (HB0.out.trans ((put3 Z.out (.int .i64 0) (.int .i64 0) (.slice none 0 0)).2.to_below (by omega) (fun k hk => by omega))) _
set_option maxHeartbeats 1000000 in
theorem take_nil (w : World) (i : Int) : Calls Try.prog 17 #[.pointer none, .int .i64 i] w (RetZ w 1) := by
  go_enter Try.func17, Try.ntmps17
  go_wp2_with fail
  refine (at_nil _ i).mono ?_
  rintro e w2 ⟨rfl, hB⟩
  have Z := Lib.hid ((zblk w).below hB)
  have HB0 := Lib.hid ((below_alloc (Below.refl w.heap.size w) (.cells #[.int .i64 0, .int .i64 0, .slice none 0 0] 40)).trans (hB.mono (by simp)))
  have hsz : w.heap.size < w2.heap.size := by have := hB.size; simp at this; omega
  have z0 := Z.out.cell 0 _ rfl
  have z1 := Z.out.cell 1 _ rfl
  have z2 := Z.out.cell 2 _ rfl
  have g0 := Z.out.frozen 0
  have g1 := Z.out.frozen 1
  have g2 := Z.out.frozen 2
  clear hB
  go_wp2
  refine bodyPost_ret (results_ct rfl _ _ w.heap.size 40 #[.int .i64 0, .int .i64 0, .slice none 0 0] (0, 0) _ rfl ((put3 Z.out (.int .i64 0) (.int .i64 0) (.slice none 0 0)).1.alloc _) Try.underlying40 rfl (by kernel_rfl)) rfl ?_
  refine ⟨rfl, ?_⟩
  exact below_alloc (HB0.out.trans ((put3 Z.out (.int .i64 0) (.int .i64 0) (.slice none 0 0)).2.to_below (by omega) (fun k hk => by omega))) _
end Go.Proofs.Ytnphlghiicbjjaa
