/- rutterlaw18: the two nets' acts. -/
import Derived.Test.YtnphlghiicbjjaaN13
import Derived.Test.YtnphlghiicbjjaaB4
import Derived.Test.YtnphlghiicbjjaaWEqStruct
namespace Go.Proofs.Ytnphlghiicbjjaa
open Go Go.RowKit Go.Proofs.YtnphlghiicbjjaaW.PrintWords Go.Proofs.YtnphlghiicbjjaaW.PrintLast Go.Proofs.Ytnphlghiicbjjaa.PNetPlays
set_option linter.unusedVariables false
set_option linter.unusedSimpArgs false

theorem eqA49 (d : Nat) (w : World) (x0 y0 : Int) (x1 y1 : Int) (x2 y2 : ByteArray) :
    (Op.equalIn (d + 2) 49 (.agg #[.int .i64 x0, .int .i64 x1, .string x2]) (.agg #[.int .i64 y0, .int .i64 y1, .string y2])).run Try.prog w = .ok (x0 == y0 && (x1 == y1 && (x2.toList == y2.toList))) w := by
  refine eqA_of Try.underlying49 (by kernel_rfl) ?_
  refine eqf_cons (by rfl) (by go_simp; rfl) (by go_simp; rfl) (by go_simp) ?_
  refine eqf_cons (by rfl) (by go_simp; rfl) (by go_simp; rfl) (by go_simp) ?_
  exact eqf_last (by rfl) (by go_simp; rfl) (by go_simp; rfl) (by go_simp)
theorem eq49 (y z : S49) (W : World) : (binOp .eql 49 (.agg #[.int .i64 y.f0, .int .i64 y.f1, .string y.f2]) (.agg #[.int .i64 z.f0, .int .i64 z.f1, .string z.f2])).run Try.prog W = .ok (.bool (y.f0 == z.f0 && (y.f1 == z.f1 && (y.f2.toList == z.f2.toList)))) W := by
  rw [run_eql_struct, eqA49 9998]
  rfl

theorem map_erase {α β : Type} (f : α → β) (l : List α) (i : Nat) : (l.eraseIdx i).map f = (l.map f).eraseIdx i := by
  rw [List.eraseIdx_eq_take_drop_succ, List.eraseIdx_eq_take_drop_succ, List.map_append, List.map_take, List.map_drop]
def PN (b : Nat) (xs : List S40) (r : Int) (q : Nat) (w : World) (F : Nat → Prop) : Prop := NtAt w F b xs r (q : Nat)
def QN (b : Nat) (xs : List S40) (r : Int) (q : Nat) (w : World) (F : Nat → Prop) : Prop := RnAt w F b (xs.map toR) r (q : Nat)
theorem PN.stands {b : Nat} {xs : List S40} {r : Int} {q : Nat} : Stands (PN b xs r q) := fun _ _ _ _ h hk hd => NtAt.kp h hk hd
theorem QN.stands {b : Nat} {xs : List S40} {r : Int} {q : Nat} : Stands (QN b xs r q) := fun _ _ _ _ h hk hd => RnAt.kp h hk hd
section
variable {O : Nat → Prop} {w : World} {b mb : Nat} {xs ys : List S40} {r : Int} {q q' : Nat} {P Q : World → (Nat → Prop) → Prop}
/-- A net, and bytes beside it. -/
def PNI (b : Nat) (xs : List S40) (r : Int) (q : Nat) (v : Value) (bs : List Int) (w : World) (F : Nat → Prop) : Prop := PN b xs r q w F ∧ (Kd.int .u8).R 5 w 0 F v bs
theorem PNI.stands {b : Nat} {xs : List S40} {r : Int} {q : Nat} {v : Value} {bs : List Int} : Stands (PNI b xs r q v bs) := fun _ _ _ _ h hk hd => ⟨PN.stands _ _ _ _ h.1 hk hd, R_kp h.2 hk (fun k _ hf => hd k hf)⟩
theorem Two.bytes {v : Value} {bs : List Int} (h : Two O w (PNI b xs r q v bs) Q) : ∃ A c, v = .slice A bs.length c ∧ bs.length ≤ c ∧ (Kd.int .u8).C w A bs.length bs := by
  obtain ⟨F, hF⟩ := h.left
  obtain ⟨A, c, rfl⟩ := Kd.R_slice hF.2
  exact ⟨A, c, rfl, (Kd.R_reads' hF.2).2.1, (Kd.R_reads' hF.2).2.2⟩
theorem Two.drop {v : Value} {bs : List Int} (h : Two O w (PNI b xs r q v bs) Q) : Two O w (PN b xs r q) Q := by
  obtain ⟨F, G, h1, h2⟩ := h
  exact ⟨F, G, h1.1, h2⟩
theorem two_take (hQ : Stands Q) (h : Two O w (PN b xs r q) Q) (hS : SzI xs) (hl : xs.length ≤ 100000) (i : Int) (h0 : 0 ≤ i) (hi : i < (xs.length : Int)) :
    Calls Try.prog 17 #[.pointer (some ⟨b, 0, none⟩), .int .i64 i] w (fun e w' => ∃ A c, e = .returned (.tuple #[.agg #[.int .i64 (rd_T40 xs i).f0, .int .i64 (rd_T40 xs i).f1, .slice A (rd_T40 xs i).f2.length c], .int .i64 0]) ∧ Two O w' (PNI b (xs.eraseIdx i.toNat) r q (.slice A (rd_T40 xs i).f2.length c) (rd_T40 xs i).f2) Q ∧ KpO O w w') := by
  obtain ⟨F, G, h1, h2, h3, h4, h5, h6, h7, h8⟩ := h
  refine (take_ok w F b xs r q h1 hS (by omega) i h0 hi).mono ?_
  rintro e w1 ⟨A, c, he, hR, hN, hK⟩
  have := two_left (P' := PNI b (xs.eraseIdx i.toNat) r q (.slice A (rd_T40 xs i).f2.length c) (rd_T40 xs i).f2) hQ h2 h3 h4 h5 h6 h7 h8 ⟨hN.mono (fun k hk => .inl hk) (h4.ext hK.size), Kd.R_mono hR (fun k hk => hk.elim (fun h => h.elim) .inr)⟩ hK
  exact ⟨A, c, he, this⟩
theorem two_rtake (hP : Stands P) (h : Two O w P (QN mb ys r q')) (hl : ys.length ≤ 100000) (i : Int) (h0 : 0 ≤ i) (hi : i < (ys.length : Int)) :
    Calls Try.prog 43 #[.pointer (some ⟨mb, 0, none⟩), .int .i64 i] w (fun e w' => e = .returned (.tuple #[val49 (toR (rd_T40 ys i)), .int .i64 0]) ∧ Two O w' P (QN mb (ys.eraseIdx i.toNat) r q') ∧ KpO O w w') :=
  two_callR (Q := QN mb ys r q') hP h (fun F hF _ => (rtake_ok w F mb _ r _ hF (by rw [List.length_map]; omega) i h0 (by rw [List.length_map]; exact hi)).mono (fun e w' ⟨he, hN, hK⟩ => by
    rw [rd_toR ys i h0 hi] at he
    refine ⟨he, ?_, hK⟩
    show RnAt w' _ mb ((ys.eraseIdx i.toNat).map toR) r _
    rw [map_erase]
    exact hN))
theorem two_dbl (hQ : Stands Q) (h : Two O w (PN b xs r q) Q) (hS : SzI xs) (hl : xs.length ≤ 100000) (i : Int) (h0 : 0 ≤ i) (hi : i < (xs.length : Int)) (hr : ¬ r ≤ xs.length) :
    Calls Try.prog 18 #[.pointer (some ⟨b, 0, none⟩), .int .i64 i] w (fun e w' => e = .returned (.int .i64 0) ∧ Two O w' (PN b (xs ++ [rd_T40 xs i]) r q) Q ∧ KpO O w w') :=
  two_callL (P := PN b xs r q) hQ h (fun F hF _ => dbl_ok w F b xs r q hF hS (by omega) i h0 hi hr)
theorem two_rdbl (hP : Stands P) (h : Two O w P (QN mb ys r q')) (hl : ys.length ≤ 100000) (i : Int) (h0 : 0 ≤ i) (hi : i < (ys.length : Int)) (hr : ¬ r ≤ ys.length) (hok : okI (rd_T40 ys i) = true) :
    Calls Try.prog 44 #[.pointer (some ⟨mb, 0, none⟩), .int .i64 i] w (fun e w' => e = .returned (.int .i64 0) ∧ Two O w' P (QN mb (ys ++ [rd_T40 ys i]) r q') ∧ KpO O w w') :=
  two_callR (Q := QN mb ys r q') hP h (fun F hF _ => (rdbl_ok w F mb _ r _ hF (by rw [List.length_map]; omega) i h0 (by rw [List.length_map]; exact hi) (by rw [List.length_map]; exact hr) (by rw [rd_toR ys i h0 hi, ok_toR]; exact hok)).mono (fun e w' ⟨he, hN, hK⟩ => by
    refine ⟨he, ?_, hK⟩
    show RnAt w' _ mb ((ys ++ [rd_T40 ys i]).map toR) r _
    rw [List.map_append, List.map_cons, List.map_nil, ← rd_toR ys i h0 hi]
    exact hN))
theorem two_put (hQ : Stands Q) (h : Two O w (PN b xs r q) Q) (A : Option Addr) (m c : Nat) (l : List S40) (hC : ∀ w', KpO O w w' → k40.C w' A m l) (hl : xs.length + m ≤ 100000000) (hq : q + m ≤ 100000000) :
    Calls Try.prog 20 #[.pointer (some ⟨b, 0, none⟩), .slice A m c] w (fun e w' => e = .returned (.int .i64 ((putAll r (xs, 0, q) l).2.1 : Nat)) ∧ Two O w' (PN b (putAll r (xs, 0, q) l).1 r (putAll r (xs, 0, q) l).2.2) Q ∧ KpO O w w') :=
  two_callL (P := PN b xs r q) hQ h (fun F hF hlo => put_any w F b xs r q hF A m c l (fun w' hK => hC w' (KpO.of_kp hK hlo)) hl hq)
theorem two_rput (hP : Stands P) (h : Two O w P (QN mb xs r q)) (A : Option Addr) (m c : Nat) (l : List S40) (hC : ∀ w', KpO O w w' → k40.C w' A m l) (hl : xs.length + m ≤ 100000000) (hq : q + m ≤ 100000000) :
    Calls Try.prog 47 #[.pointer (some ⟨mb, 0, none⟩), .slice A m c] w (fun e w' => e = .returned (.int .i64 ((putAll r (xs, 0, q) l).2.1 : Nat)) ∧ Two O w' P (QN mb (putAll r (xs, 0, q) l).1 r (putAll r (xs, 0, q) l).2.2) ∧ KpO O w w') :=
  two_callR (Q := QN mb xs r q) hP h (fun F hF hlo => puts_any w F mb xs r q hF A m c l (fun w' hK => hC w' (KpO.of_kp hK hlo)) hl hq)
end
end Go.Proofs.Ytnphlghiicbjjaa
