/- rutterref18: Put. -/
import Derived.Test.YtnphlghiicbjjaaN10
namespace Go.Proofs.Ytnphlghiicbjjaa
open Go Go.RowKit Go.Proofs.YtnphlghiicbjjaaW.PrintWords Go.Proofs.YtnphlghiicbjjaaW.PrintLast Go.Proofs.Ytnphlghiicbjjaa.PNetPlays
set_option linter.unusedVariables false
set_option linter.unusedSimpArgs false

def okR (y : S49) : Bool := decide (0 ≤ y.f0) && decide (y.f0 ≤ 2) && decide (0 ≤ y.f1) && decide (y.f1 ≤ 15) && decide ((y.f2.size : Int) ≤ 2000)
theorem right_okR (y : S49) : rutterref18_Right.f y.f0 y.f1 y.f2 = some (okR y) := by
  unfold rutterref18_Right.f okR
  by_cases h1 : 0 ≤ y.f0 <;> by_cases h2 : y.f0 ≤ 2 <;> by_cases h3 : 0 ≤ y.f1 <;> by_cases h4 : y.f1 ≤ 15 <;> simp [h1, h2, h3, h4]
theorem k49_M {w : World} {base : Nat} {ok : Nat → Prop} {w' : World} (x : S49) (cs : List Value) (h : k49.K w' x cs) : k49.M w base ok x cs := by
  rw [k49_open h]
  exact k49_mkM w base ok x
section
variable {P : Program} {ops : Array Oper} {rest : List Oper} {o : Oper} {a : Act} {Q : Exit → Act → World → Prop}
/-- append(v, ys...) of the document's items, v the call's own. -/
theorem ev_rows49 {W : World} (base : Nat) (t : TypeId) (s x : Operand) (hgd : o.guard = none)
    (ho : o.op = .call { callee := .builtin .append, args := #[s, x], argTypes := #[t, t] })
    (ht : P.underlying t = some (.slice 49)) (hinfo : (P.info? 49).map (fun i => (i.zero, i.size, i.bytes)) = some (some (.agg #[.int .i64 0, .int .i64 0, .string ⟨#[]⟩]), 3, 32))
    {v : Value} {xs ys : List S49} {A : Option Addr} {m c : Nat} (hs : a.eval s = v) (hx : a.eval x = .slice A m c)
    (HO : k49.R 49 W base (fun _ => True) v xs) (HR : k49.C W A m ys) (hbase : base ≤ W.heap.size) (hl : (xs.length + m) * 32 ≤ 140737488355328)
    (h : ∀ A1 n1 c1 w1, k49.R 49 w1 base (fun _ => True) (.slice A1 n1 c1) (xs ++ ys) → Below base W w1 → wpList P ops Q rest (a.put o.dst (.slice A1 n1 c1)) w1) :
    wpList P ops Q (o :: rest) a W :=
  Kd.R_append_rows k49 (Rr := k49.K W) (w0 := W) base hgd s x t 49 (.agg #[.int .i64 0, .int .i64 0, .string ⟨#[]⟩]) 32 ho ht hinfo rfl (by decide) (by decide) v xs ys A m c (fun _ => True) (fun _ => False) hs hx HO HR (fun x cs h => k49_M x cs h) (fun _ h => h.elim) (fun _ _ => trivial) (Below.refl _ _) hbase hl
    (fun v1 w1 h1 h2 _ _ => by
      obtain ⟨A1, c1, rfl⟩ := Kd.R_slice h1
      exact h A1 _ c1 w1 h1 h2)
end

def RPutPost (w : World) (F : Nat → Prop) (b : Nat) (ys : List S49) (r q : Int) (ok : Bool) (e : Ending) (w' : World) : Prop := e = .returned (.bool ok) ∧ RnAt w' (ext F w w') b ys r q ∧ Kp F w w'
set_option maxHeartbeats 1000000 in
theorem rput_lost (w : World) (F : Nat → Prop) (b : Nat) (ys : List S49) (r q : Int) (hF : RnAt w F b ys r q) (y : S49) (hq : 0 ≤ q ∧ q ≤ 1000000000) (hno : okR y = false ∨ r ≤ ys.length) :
    Calls Try.prog 64 #[.pointer (some ⟨b, 0, none⟩), val49 y] w (RPutPost w F b ys r (q + 1) false) := by
  have HF := Lib.hid hF
  obtain ⟨h1, h2, A, n, c, h5, h6⟩ := hF
  have hn := (Kd.R_reads' h6).1
  subst hn
  have hb := h5.lt
  have H5 := Lib.hid h5
  have hwq : IntKind.i64.wrap (q + 1) = q + 1 := IntWalk.i64_in _ (by omega)
  obtain ⟨hq0, hq1⟩ := hq
  clear h5 h6 h2
  cases hok : okR y with
  | false =>
    unfold val49
    go_enter Try.func64, Try.ntmps64
    go_wp2_with fail
    refine (rutterref18_Right.calls y.f0 y.f1 y.f2 _ _ (right_okR y)).mono ?_
    rintro e w1 ⟨rfl, hB⟩
    rw [hok]
    have hB1 : Below w.heap.size w w1 := (below_alloc (Below.refl _ _) _).trans (hB.mono (by simp))
    have HB1 := Lib.hid hB1
    have hb1 := H5.out.below hB1
    have c0 := hb1.cell 0 _ rfl
    have c1 := hb1.cell 1 _ rfl
    have c2 := hb1.cell 2 _ rfl
    have f2 := hb1.frozen 2
    clear hB hB1 hb1
    go_wp2_with fail
    refine seq_start (fun w' => w'.cell? ⟨b, 0, none⟩ = some (.slice A ys.length c) ∧ w'.cell? ⟨b, 1, none⟩ = some (.int .i64 r)) [] [(0, 0), (1, 0), (2, 0), (3, 0), (4, 0), (5, 0), (6, 1), (7, 0), (8, 0), (9, 0), (10, 0), (11, 1), (12, 0), (13, 0)] (by kernel_rfl) (by kernel_rfl) ⟨c0, c1⟩ ?_
    intro hS
    (refine seq_v (some 9) (v := ?_) (a' := ?_) rfl rfl (fun _ _ _ h => h) (Or.inl ⟨by rfl, ?_⟩) ?_ ?_; rotate_left 2; (· intro w'; go_simp; with_reducible rfl); (· simp only [Act.put, List.setIfInBounds_toArray, List.set_cons_zero, List.set_cons_succ, i64_w, i32_w]; rfl))
    (refine seq_v (some 10) (v := ?_) (a' := ?_) rfl rfl (fun _ _ _ h => h) (Or.inl ⟨by rfl, ?_⟩) ?_ ?_; rotate_left 2; (· intro w'; go_simp; with_reducible rfl); (· simp only [Act.put, List.setIfInBounds_toArray, List.set_cons_zero, List.set_cons_succ, i64_w, i32_w]; rfl))
    (refine seq_v (some 11) (v := ?_) (a' := ?_) rfl rfl (fun _ _ _ h => h) (Or.inl ⟨by rfl, ?_⟩) ?_ ?_; rotate_left 2; (· intro w'; go_simp; with_reducible rfl); (· simp only [Act.put, List.setIfInBounds_toArray, List.set_cons_zero, List.set_cons_succ, i64_w, i32_w]; rfl))
    first | (refine seq_v (some 12) (v := ?_) (a' := ?_) rfl rfl (fun _ _ _ h => h) (Or.inl ⟨by rfl, ?_⟩) ?_ ?_; rotate_left 2; (· intro w'; go_simp; with_reducible rfl); (· simp only [Act.put, List.setIfInBounds_toArray, List.set_cons_zero, List.set_cons_succ, i64_w, i32_w]; rfl)) | (refine seq_v (some 12) (v := undef) (a' := ?_) rfl rfl (fun _ _ _ h => h) (Or.inr ⟨by rfl, rfl⟩) ?_ ?_; rotate_left; (· simp only [Act.put, List.setIfInBounds_toArray, List.set_cons_zero, List.set_cons_succ, i64_w, i32_w]; rfl))
    first | (refine seq_v (some 13) (v := ?_) (a' := ?_) rfl rfl (fun _ _ _ h => h) (Or.inl ⟨by rfl, ?_⟩) ?_ ?_; rotate_left 2; (· intro w'; go_simp; with_reducible rfl); (· simp only [Act.put, List.setIfInBounds_toArray, List.set_cons_zero, List.set_cons_succ, i64_w, i32_w]; rfl)) | (refine seq_v (some 13) (v := undef) (a' := ?_) rfl rfl (fun _ _ _ h => h) (Or.inr ⟨by rfl, rfl⟩) ?_ ?_; rotate_left; (· simp only [Act.put, List.setIfInBounds_toArray, List.set_cons_zero, List.set_cons_succ, i64_w, i32_w]; rfl))
    first | (refine seq_v (some 14) (v := ?_) (a' := ?_) rfl rfl (fun _ _ _ h => h) (Or.inl ⟨by rfl, ?_⟩) ?_ ?_; rotate_left 2; (· intro w'; go_simp; with_reducible rfl); (· simp only [Act.put, List.setIfInBounds_toArray, List.set_cons_zero, List.set_cons_succ, i64_w, i32_w]; rfl)) | (refine seq_v (some 14) (v := undef) (a' := ?_) rfl rfl (fun _ _ _ h => h) (Or.inr ⟨by rfl, rfl⟩) ?_ ?_; rotate_left; (· simp only [Act.put, List.setIfInBounds_toArray, List.set_cons_zero, List.set_cons_succ, i64_w, i32_w]; rfl))
    first | (refine seq_l (some 15) (v := ?_) (a' := ?_) rfl rfl (fun _ _ _ h => h) (by assumption) (Or.inl ⟨by rfl, ?_⟩) ?_ ?_; rotate_left 2; (· intro w' hS'; (try dsimp only at hS'); go_simp; with_reducible rfl); (· simp only [Act.put, List.setIfInBounds_toArray, List.set_cons_zero, List.set_cons_succ, i64_w, i32_w]; rfl)) | (refine seq_l (some 15) (v := undef) (a' := ?_) rfl rfl (fun _ _ _ h => h) (by assumption) (Or.inr ⟨by rfl, rfl⟩) ?_ ?_; rotate_left; (· simp only [Act.put, List.setIfInBounds_toArray, List.set_cons_zero, List.set_cons_succ, i64_w, i32_w]; rfl))
    first | (refine seq_v (some 16) (v := ?_) (a' := ?_) rfl rfl (fun _ _ _ h => h) (Or.inl ⟨by rfl, ?_⟩) ?_ ?_; rotate_left 2; (· intro w'; go_simp; with_reducible rfl); (· simp only [Act.put, List.setIfInBounds_toArray, List.set_cons_zero, List.set_cons_succ, i64_w, i32_w]; rfl)) | (refine seq_v (some 16) (v := undef) (a' := ?_) rfl rfl (fun _ _ _ h => h) (Or.inr ⟨by rfl, rfl⟩) ?_ ?_; rotate_left; (· simp only [Act.put, List.setIfInBounds_toArray, List.set_cons_zero, List.set_cons_succ, i64_w, i32_w]; rfl))
    first | (refine seq_v (some 17) (v := ?_) (a' := ?_) rfl rfl (fun _ _ _ h => h) (Or.inl ⟨by rfl, ?_⟩) ?_ ?_; rotate_left 2; (· intro w'; go_simp; with_reducible rfl); (· simp only [Act.put, List.setIfInBounds_toArray, List.set_cons_zero, List.set_cons_succ, i64_w, i32_w]; rfl)) | (refine seq_v (some 17) (v := undef) (a' := ?_) rfl rfl (fun _ _ _ h => h) (Or.inr ⟨by rfl, rfl⟩) ?_ ?_; rotate_left; (· simp only [Act.put, List.setIfInBounds_toArray, List.set_cons_zero, List.set_cons_succ, i64_w, i32_w]; rfl))
    first | (refine seq_v (some 18) (v := ?_) (a' := ?_) rfl rfl (fun _ _ _ h => h) (Or.inl ⟨by rfl, ?_⟩) ?_ ?_; rotate_left 2; (· intro w'; go_simp; with_reducible rfl); (· simp only [Act.put, List.setIfInBounds_toArray, List.set_cons_zero, List.set_cons_succ, i64_w, i32_w]; rfl)) | (refine seq_v (some 18) (v := undef) (a' := ?_) rfl rfl (fun _ _ _ h => h) (Or.inr ⟨by rfl, rfl⟩) ?_ ?_; rotate_left; (· simp only [Act.put, List.setIfInBounds_toArray, List.set_cons_zero, List.set_cons_succ, i64_w, i32_w]; rfl))
    first | (refine seq_v (some 19) (v := ?_) (a' := ?_) rfl rfl (fun _ _ _ h => h) (Or.inl ⟨by rfl, ?_⟩) ?_ ?_; rotate_left 2; (· intro w'; go_simp; with_reducible rfl); (· simp only [Act.put, List.setIfInBounds_toArray, List.set_cons_zero, List.set_cons_succ, i64_w, i32_w]; rfl)) | (refine seq_v (some 19) (v := undef) (a' := ?_) rfl rfl (fun _ _ _ h => h) (Or.inr ⟨by rfl, rfl⟩) ?_ ?_; rotate_left; (· simp only [Act.put, List.setIfInBounds_toArray, List.set_cons_zero, List.set_cons_succ, i64_w, i32_w]; rfl))
    first | (refine seq_l (some 20) (v := ?_) (a' := ?_) rfl rfl (fun _ _ _ h => h) (by assumption) (Or.inl ⟨by rfl, ?_⟩) ?_ ?_; rotate_left 2; (· intro w' hS'; (try dsimp only at hS'); go_simp; with_reducible rfl); (· simp only [Act.put, List.setIfInBounds_toArray, List.set_cons_zero, List.set_cons_succ, i64_w, i32_w]; rfl)) | (refine seq_l (some 20) (v := undef) (a' := ?_) rfl rfl (fun _ _ _ h => h) (by assumption) (Or.inr ⟨by rfl, rfl⟩) ?_ ?_; rotate_left; (· simp only [Act.put, List.setIfInBounds_toArray, List.set_cons_zero, List.set_cons_succ, i64_w, i32_w]; rfl))
    first | (refine seq_v (some 21) (v := ?_) (a' := ?_) rfl rfl (fun _ _ _ h => h) (Or.inl ⟨by rfl, ?_⟩) ?_ ?_; rotate_left 2; (· intro w'; go_simp; with_reducible rfl); (· simp only [Act.put, List.setIfInBounds_toArray, List.set_cons_zero, List.set_cons_succ, i64_w, i32_w]; rfl)) | (refine seq_v (some 21) (v := undef) (a' := ?_) rfl rfl (fun _ _ _ h => h) (Or.inr ⟨by rfl, rfl⟩) ?_ ?_; rotate_left; (· simp only [Act.put, List.setIfInBounds_toArray, List.set_cons_zero, List.set_cons_succ, i64_w, i32_w]; rfl))
    (refine seq_v (some 22) (v := ?_) (a' := ?_) rfl rfl (fun _ _ _ h => h) (Or.inl ⟨by rfl, ?_⟩) ?_ ?_; rotate_left 2; (· intro w'; go_simp; with_reducible rfl); (· simp only [Act.put, List.setIfInBounds_toArray, List.set_cons_zero, List.set_cons_succ, i64_w, i32_w]; rfl))
    refine seq_nil ?_
    clear hS
    go_wp2
    go_ret
    have hN := (HF.out.below (HB1.out.trans (below_drew (Below.refl _ _)))).lose (q + 1)
    have hK := ((Kp.of_below HB1.out F).drew).setCell (p := ⟨b, 2, none⟩) (fun _ => h1) (.int .i64 (q + 1))
    exact ⟨rfl, hN.mono (fun k hk => .inl hk) (HF.out.2.1.ext hK.size), hK⟩
  | true =>
    have d0 : decide (r ≤ (ys.length : Int)) = true := decide_eq_true (by rcases hno with h | h; · rw [hok] at h; cases h
                                                                          · exact h)
    unfold val49
    go_enter Try.func64, Try.ntmps64
    go_wp2_with fail
    refine (rutterref18_Right.calls y.f0 y.f1 y.f2 _ _ (right_okR y)).mono ?_
    rintro e w1 ⟨rfl, hB⟩
    rw [hok]
    have hB1 : Below w.heap.size w w1 := (below_alloc (Below.refl _ _) _).trans (hB.mono (by simp))
    have HB1 := Lib.hid hB1
    have hb1 := H5.out.below hB1
    have c0 := hb1.cell 0 _ rfl
    have c1 := hb1.cell 1 _ rfl
    have c2 := hb1.cell 2 _ rfl
    have f2 := hb1.frozen 2
    clear hB hB1 hb1 hno
    go_wp2_with fail
    refine seq_start (fun w' => w'.cell? ⟨b, 0, none⟩ = some (.slice A ys.length c) ∧ w'.cell? ⟨b, 1, none⟩ = some (.int .i64 r)) [] [(0, 0), (1, 0), (2, 0), (3, 0), (4, 0), (5, 0), (6, 1), (7, 0), (8, 0), (9, 0), (10, 0), (11, 1), (12, 0), (13, 0)] (by kernel_rfl) (by kernel_rfl) ⟨c0, c1⟩ ?_
    intro hS
    (refine seq_v (some 9) (v := ?_) (a' := ?_) rfl rfl (fun _ _ _ h => h) (Or.inl ⟨by rfl, ?_⟩) ?_ ?_; rotate_left 2; (· intro w'; go_simp; with_reducible rfl); (· simp only [Act.put, List.setIfInBounds_toArray, List.set_cons_zero, List.set_cons_succ, i64_w, i32_w]; rfl))
    (refine seq_v (some 10) (v := ?_) (a' := ?_) rfl rfl (fun _ _ _ h => h) (Or.inl ⟨by rfl, ?_⟩) ?_ ?_; rotate_left 2; (· intro w'; go_simp; with_reducible rfl); (· simp only [Act.put, List.setIfInBounds_toArray, List.set_cons_zero, List.set_cons_succ, i64_w, i32_w]; rfl))
    (refine seq_v (some 11) (v := ?_) (a' := ?_) rfl rfl (fun _ _ _ h => h) (Or.inl ⟨by rfl, ?_⟩) ?_ ?_; rotate_left 2; (· intro w'; go_simp; with_reducible rfl); (· simp only [Act.put, List.setIfInBounds_toArray, List.set_cons_zero, List.set_cons_succ, i64_w, i32_w]; rfl))
    first | (refine seq_v (some 12) (v := ?_) (a' := ?_) rfl rfl (fun _ _ _ h => h) (Or.inl ⟨by rfl, ?_⟩) ?_ ?_; rotate_left 2; (· intro w'; go_simp; with_reducible rfl); (· simp only [Act.put, List.setIfInBounds_toArray, List.set_cons_zero, List.set_cons_succ, i64_w, i32_w]; rfl)) | (refine seq_v (some 12) (v := undef) (a' := ?_) rfl rfl (fun _ _ _ h => h) (Or.inr ⟨by rfl, rfl⟩) ?_ ?_; rotate_left; (· simp only [Act.put, List.setIfInBounds_toArray, List.set_cons_zero, List.set_cons_succ, i64_w, i32_w]; rfl))
    first | (refine seq_v (some 13) (v := ?_) (a' := ?_) rfl rfl (fun _ _ _ h => h) (Or.inl ⟨by rfl, ?_⟩) ?_ ?_; rotate_left 2; (· intro w'; go_simp; with_reducible rfl); (· simp only [Act.put, List.setIfInBounds_toArray, List.set_cons_zero, List.set_cons_succ, i64_w, i32_w]; rfl)) | (refine seq_v (some 13) (v := undef) (a' := ?_) rfl rfl (fun _ _ _ h => h) (Or.inr ⟨by rfl, rfl⟩) ?_ ?_; rotate_left; (· simp only [Act.put, List.setIfInBounds_toArray, List.set_cons_zero, List.set_cons_succ, i64_w, i32_w]; rfl))
    first | (refine seq_v (some 14) (v := ?_) (a' := ?_) rfl rfl (fun _ _ _ h => h) (Or.inl ⟨by rfl, ?_⟩) ?_ ?_; rotate_left 2; (· intro w'; go_simp; with_reducible rfl); (· simp only [Act.put, List.setIfInBounds_toArray, List.set_cons_zero, List.set_cons_succ, i64_w, i32_w]; rfl)) | (refine seq_v (some 14) (v := undef) (a' := ?_) rfl rfl (fun _ _ _ h => h) (Or.inr ⟨by rfl, rfl⟩) ?_ ?_; rotate_left; (· simp only [Act.put, List.setIfInBounds_toArray, List.set_cons_zero, List.set_cons_succ, i64_w, i32_w]; rfl))
    first | (refine seq_l (some 15) (v := ?_) (a' := ?_) rfl rfl (fun _ _ _ h => h) (by assumption) (Or.inl ⟨by rfl, ?_⟩) ?_ ?_; rotate_left 2; (· intro w' hS'; (try dsimp only at hS'); go_simp; with_reducible rfl); (· simp only [Act.put, List.setIfInBounds_toArray, List.set_cons_zero, List.set_cons_succ, i64_w, i32_w]; rfl)) | (refine seq_l (some 15) (v := undef) (a' := ?_) rfl rfl (fun _ _ _ h => h) (by assumption) (Or.inr ⟨by rfl, rfl⟩) ?_ ?_; rotate_left; (· simp only [Act.put, List.setIfInBounds_toArray, List.set_cons_zero, List.set_cons_succ, i64_w, i32_w]; rfl))
    first | (refine seq_v (some 16) (v := ?_) (a' := ?_) rfl rfl (fun _ _ _ h => h) (Or.inl ⟨by rfl, ?_⟩) ?_ ?_; rotate_left 2; (· intro w'; go_simp; with_reducible rfl); (· simp only [Act.put, List.setIfInBounds_toArray, List.set_cons_zero, List.set_cons_succ, i64_w, i32_w]; rfl)) | (refine seq_v (some 16) (v := undef) (a' := ?_) rfl rfl (fun _ _ _ h => h) (Or.inr ⟨by rfl, rfl⟩) ?_ ?_; rotate_left; (· simp only [Act.put, List.setIfInBounds_toArray, List.set_cons_zero, List.set_cons_succ, i64_w, i32_w]; rfl))
    first | (refine seq_v (some 17) (v := ?_) (a' := ?_) rfl rfl (fun _ _ _ h => h) (Or.inl ⟨by rfl, ?_⟩) ?_ ?_; rotate_left 2; (· intro w'; go_simp; with_reducible rfl); (· simp only [Act.put, List.setIfInBounds_toArray, List.set_cons_zero, List.set_cons_succ, i64_w, i32_w]; rfl)) | (refine seq_v (some 17) (v := undef) (a' := ?_) rfl rfl (fun _ _ _ h => h) (Or.inr ⟨by rfl, rfl⟩) ?_ ?_; rotate_left; (· simp only [Act.put, List.setIfInBounds_toArray, List.set_cons_zero, List.set_cons_succ, i64_w, i32_w]; rfl))
    first | (refine seq_v (some 18) (v := ?_) (a' := ?_) rfl rfl (fun _ _ _ h => h) (Or.inl ⟨by rfl, ?_⟩) ?_ ?_; rotate_left 2; (· intro w'; go_simp; with_reducible rfl); (· simp only [Act.put, List.setIfInBounds_toArray, List.set_cons_zero, List.set_cons_succ, i64_w, i32_w]; rfl)) | (refine seq_v (some 18) (v := undef) (a' := ?_) rfl rfl (fun _ _ _ h => h) (Or.inr ⟨by rfl, rfl⟩) ?_ ?_; rotate_left; (· simp only [Act.put, List.setIfInBounds_toArray, List.set_cons_zero, List.set_cons_succ, i64_w, i32_w]; rfl))
    first | (refine seq_v (some 19) (v := ?_) (a' := ?_) rfl rfl (fun _ _ _ h => h) (Or.inl ⟨by rfl, ?_⟩) ?_ ?_; rotate_left 2; (· intro w'; go_simp; with_reducible rfl); (· simp only [Act.put, List.setIfInBounds_toArray, List.set_cons_zero, List.set_cons_succ, i64_w, i32_w]; rfl)) | (refine seq_v (some 19) (v := undef) (a' := ?_) rfl rfl (fun _ _ _ h => h) (Or.inr ⟨by rfl, rfl⟩) ?_ ?_; rotate_left; (· simp only [Act.put, List.setIfInBounds_toArray, List.set_cons_zero, List.set_cons_succ, i64_w, i32_w]; rfl))
    first | (refine seq_l (some 20) (v := ?_) (a' := ?_) rfl rfl (fun _ _ _ h => h) (by assumption) (Or.inl ⟨by rfl, ?_⟩) ?_ ?_; rotate_left 2; (· intro w' hS'; (try dsimp only at hS'); go_simp; with_reducible rfl); (· simp only [Act.put, List.setIfInBounds_toArray, List.set_cons_zero, List.set_cons_succ, i64_w, i32_w]; rfl)) | (refine seq_l (some 20) (v := undef) (a' := ?_) rfl rfl (fun _ _ _ h => h) (by assumption) (Or.inr ⟨by rfl, rfl⟩) ?_ ?_; rotate_left; (· simp only [Act.put, List.setIfInBounds_toArray, List.set_cons_zero, List.set_cons_succ, i64_w, i32_w]; rfl))
    first | (refine seq_v (some 21) (v := ?_) (a' := ?_) rfl rfl (fun _ _ _ h => h) (Or.inl ⟨by rfl, ?_⟩) ?_ ?_; rotate_left 2; (· intro w'; go_simp; with_reducible rfl); (· simp only [Act.put, List.setIfInBounds_toArray, List.set_cons_zero, List.set_cons_succ, i64_w, i32_w]; rfl)) | (refine seq_v (some 21) (v := undef) (a' := ?_) rfl rfl (fun _ _ _ h => h) (Or.inr ⟨by rfl, rfl⟩) ?_ ?_; rotate_left; (· simp only [Act.put, List.setIfInBounds_toArray, List.set_cons_zero, List.set_cons_succ, i64_w, i32_w]; rfl))
    (refine seq_v (some 22) (v := ?_) (a' := ?_) rfl rfl (fun _ _ _ h => h) (Or.inl ⟨by rfl, ?_⟩) ?_ ?_; rotate_left 2; (· intro w'; go_simp; with_reducible rfl); (· simp only [Act.put, List.setIfInBounds_toArray, List.set_cons_zero, List.set_cons_succ, i64_w, i32_w]; rfl))
    refine seq_nil ?_
    clear hS
    go_wp2
    go_ret
    have hN := (HF.out.below (HB1.out.trans (below_drew (Below.refl _ _)))).lose (q + 1)
    have hK := ((Kp.of_below HB1.out F).drew).setCell (p := ⟨b, 2, none⟩) (fun _ => h1) (.int .i64 (q + 1))
    exact ⟨rfl, hN.mono (fun k hk => .inl hk) (HF.out.2.1.ext hK.size), hK⟩
set_option maxHeartbeats 1000000 in
theorem rput_ok (w : World) (F : Nat → Prop) (b : Nat) (ys : List S49) (r q : Int) (hF : RnAt w F b ys r q) (y : S49) (hl : ys.length ≤ 1000000000) (hok : okR y = true) (hr : ¬ r ≤ ys.length) :
    Calls Try.prog 64 #[.pointer (some ⟨b, 0, none⟩), val49 y] w (RPutPost w F b (ys ++ [y]) r q true) := by
  have HF := Lib.hid hF
  obtain ⟨h1, h2, A, n, c, h5, h6⟩ := hF
  have hn := (Kd.R_reads' h6).1
  subst hn
  have hb := h5.lt
  have H5 := Lib.hid h5
  have H6 := Lib.hid h6
  have d0 : decide (r ≤ (ys.length : Int)) = false := decide_eq_false hr
  clear h5 h6 h2
  unfold val49
  go_enter Try.func64, Try.ntmps64
  go_wp2_with fail
  refine (rutterref18_Right.calls y.f0 y.f1 y.f2 _ _ (right_okR y)).mono ?_
  rintro e w1 ⟨rfl, hB⟩
  rw [hok]
  have hB1 : Below w.heap.size w w1 := (below_alloc (Below.refl _ _) _).trans (hB.mono (by simp))
  have HB1 := Lib.hid hB1
  have hb1 := H5.out.below hB1
  have hy1 := (blk49 w y).below hB
  have HY1 := Lib.hid hy1
  have c0 := hb1.cell 0 _ rfl
  have c1 := hb1.cell 1 _ rfl
  have hzw : w.heap.size < w1.heap.size := hy1.lt
  have Hb1 := Lib.hid hb1
  clear hB hB1 hb1 hy1
  go_wp2_with fail
  refine seq_start (fun w' => w'.cell? ⟨b, 0, none⟩ = some (.slice A ys.length c) ∧ w'.cell? ⟨b, 1, none⟩ = some (.int .i64 r)) [] [(0, 0), (1, 0), (2, 0), (3, 0), (4, 0), (5, 0), (6, 1), (7, 0), (8, 0), (9, 0), (10, 0), (11, 1), (12, 0), (13, 0)] (by kernel_rfl) (by kernel_rfl) ⟨c0, c1⟩ ?_
  intro hS
  (refine seq_v (some 9) (v := ?_) (a' := ?_) rfl rfl (fun _ _ _ h => h) (Or.inl ⟨by rfl, ?_⟩) ?_ ?_; rotate_left 2; (· intro w'; go_simp; with_reducible rfl); (· simp only [Act.put, List.setIfInBounds_toArray, List.set_cons_zero, List.set_cons_succ, i64_w, i32_w]; rfl))
  (refine seq_v (some 10) (v := ?_) (a' := ?_) rfl rfl (fun _ _ _ h => h) (Or.inl ⟨by rfl, ?_⟩) ?_ ?_; rotate_left 2; (· intro w'; go_simp; with_reducible rfl); (· simp only [Act.put, List.setIfInBounds_toArray, List.set_cons_zero, List.set_cons_succ, i64_w, i32_w]; rfl))
  (refine seq_v (some 11) (v := ?_) (a' := ?_) rfl rfl (fun _ _ _ h => h) (Or.inl ⟨by rfl, ?_⟩) ?_ ?_; rotate_left 2; (· intro w'; go_simp; with_reducible rfl); (· simp only [Act.put, List.setIfInBounds_toArray, List.set_cons_zero, List.set_cons_succ, i64_w, i32_w]; rfl))
  first | (refine seq_v (some 12) (v := ?_) (a' := ?_) rfl rfl (fun _ _ _ h => h) (Or.inl ⟨by rfl, ?_⟩) ?_ ?_; rotate_left 2; (· intro w'; go_simp; with_reducible rfl); (· simp only [Act.put, List.setIfInBounds_toArray, List.set_cons_zero, List.set_cons_succ, i64_w, i32_w]; rfl)) | (refine seq_v (some 12) (v := undef) (a' := ?_) rfl rfl (fun _ _ _ h => h) (Or.inr ⟨by rfl, rfl⟩) ?_ ?_; rotate_left; (· simp only [Act.put, List.setIfInBounds_toArray, List.set_cons_zero, List.set_cons_succ, i64_w, i32_w]; rfl))
  first | (refine seq_v (some 13) (v := ?_) (a' := ?_) rfl rfl (fun _ _ _ h => h) (Or.inl ⟨by rfl, ?_⟩) ?_ ?_; rotate_left 2; (· intro w'; go_simp; with_reducible rfl); (· simp only [Act.put, List.setIfInBounds_toArray, List.set_cons_zero, List.set_cons_succ, i64_w, i32_w]; rfl)) | (refine seq_v (some 13) (v := undef) (a' := ?_) rfl rfl (fun _ _ _ h => h) (Or.inr ⟨by rfl, rfl⟩) ?_ ?_; rotate_left; (· simp only [Act.put, List.setIfInBounds_toArray, List.set_cons_zero, List.set_cons_succ, i64_w, i32_w]; rfl))
  first | (refine seq_v (some 14) (v := ?_) (a' := ?_) rfl rfl (fun _ _ _ h => h) (Or.inl ⟨by rfl, ?_⟩) ?_ ?_; rotate_left 2; (· intro w'; go_simp; with_reducible rfl); (· simp only [Act.put, List.setIfInBounds_toArray, List.set_cons_zero, List.set_cons_succ, i64_w, i32_w]; rfl)) | (refine seq_v (some 14) (v := undef) (a' := ?_) rfl rfl (fun _ _ _ h => h) (Or.inr ⟨by rfl, rfl⟩) ?_ ?_; rotate_left; (· simp only [Act.put, List.setIfInBounds_toArray, List.set_cons_zero, List.set_cons_succ, i64_w, i32_w]; rfl))
  first | (refine seq_l (some 15) (v := ?_) (a' := ?_) rfl rfl (fun _ _ _ h => h) (by assumption) (Or.inl ⟨by rfl, ?_⟩) ?_ ?_; rotate_left 2; (· intro w' hS'; (try dsimp only at hS'); go_simp; with_reducible rfl); (· simp only [Act.put, List.setIfInBounds_toArray, List.set_cons_zero, List.set_cons_succ, i64_w, i32_w]; rfl)) | (refine seq_l (some 15) (v := undef) (a' := ?_) rfl rfl (fun _ _ _ h => h) (by assumption) (Or.inr ⟨by rfl, rfl⟩) ?_ ?_; rotate_left; (· simp only [Act.put, List.setIfInBounds_toArray, List.set_cons_zero, List.set_cons_succ, i64_w, i32_w]; rfl))
  first | (refine seq_v (some 16) (v := ?_) (a' := ?_) rfl rfl (fun _ _ _ h => h) (Or.inl ⟨by rfl, ?_⟩) ?_ ?_; rotate_left 2; (· intro w'; go_simp; with_reducible rfl); (· simp only [Act.put, List.setIfInBounds_toArray, List.set_cons_zero, List.set_cons_succ, i64_w, i32_w]; rfl)) | (refine seq_v (some 16) (v := undef) (a' := ?_) rfl rfl (fun _ _ _ h => h) (Or.inr ⟨by rfl, rfl⟩) ?_ ?_; rotate_left; (· simp only [Act.put, List.setIfInBounds_toArray, List.set_cons_zero, List.set_cons_succ, i64_w, i32_w]; rfl))
  first | (refine seq_v (some 17) (v := ?_) (a' := ?_) rfl rfl (fun _ _ _ h => h) (Or.inl ⟨by rfl, ?_⟩) ?_ ?_; rotate_left 2; (· intro w'; go_simp; with_reducible rfl); (· simp only [Act.put, List.setIfInBounds_toArray, List.set_cons_zero, List.set_cons_succ, i64_w, i32_w]; rfl)) | (refine seq_v (some 17) (v := undef) (a' := ?_) rfl rfl (fun _ _ _ h => h) (Or.inr ⟨by rfl, rfl⟩) ?_ ?_; rotate_left; (· simp only [Act.put, List.setIfInBounds_toArray, List.set_cons_zero, List.set_cons_succ, i64_w, i32_w]; rfl))
  first | (refine seq_v (some 18) (v := ?_) (a' := ?_) rfl rfl (fun _ _ _ h => h) (Or.inl ⟨by rfl, ?_⟩) ?_ ?_; rotate_left 2; (· intro w'; go_simp; with_reducible rfl); (· simp only [Act.put, List.setIfInBounds_toArray, List.set_cons_zero, List.set_cons_succ, i64_w, i32_w]; rfl)) | (refine seq_v (some 18) (v := undef) (a' := ?_) rfl rfl (fun _ _ _ h => h) (Or.inr ⟨by rfl, rfl⟩) ?_ ?_; rotate_left; (· simp only [Act.put, List.setIfInBounds_toArray, List.set_cons_zero, List.set_cons_succ, i64_w, i32_w]; rfl))
  first | (refine seq_v (some 19) (v := ?_) (a' := ?_) rfl rfl (fun _ _ _ h => h) (Or.inl ⟨by rfl, ?_⟩) ?_ ?_; rotate_left 2; (· intro w'; go_simp; with_reducible rfl); (· simp only [Act.put, List.setIfInBounds_toArray, List.set_cons_zero, List.set_cons_succ, i64_w, i32_w]; rfl)) | (refine seq_v (some 19) (v := undef) (a' := ?_) rfl rfl (fun _ _ _ h => h) (Or.inr ⟨by rfl, rfl⟩) ?_ ?_; rotate_left; (· simp only [Act.put, List.setIfInBounds_toArray, List.set_cons_zero, List.set_cons_succ, i64_w, i32_w]; rfl))
  first | (refine seq_l (some 20) (v := ?_) (a' := ?_) rfl rfl (fun _ _ _ h => h) (by assumption) (Or.inl ⟨by rfl, ?_⟩) ?_ ?_; rotate_left 2; (· intro w' hS'; (try dsimp only at hS'); go_simp; with_reducible rfl); (· simp only [Act.put, List.setIfInBounds_toArray, List.set_cons_zero, List.set_cons_succ, i64_w, i32_w]; rfl)) | (refine seq_l (some 20) (v := undef) (a' := ?_) rfl rfl (fun _ _ _ h => h) (by assumption) (Or.inr ⟨by rfl, rfl⟩) ?_ ?_; rotate_left; (· simp only [Act.put, List.setIfInBounds_toArray, List.set_cons_zero, List.set_cons_succ, i64_w, i32_w]; rfl))
  first | (refine seq_v (some 21) (v := ?_) (a' := ?_) rfl rfl (fun _ _ _ h => h) (Or.inl ⟨by rfl, ?_⟩) ?_ ?_; rotate_left 2; (· intro w'; go_simp; with_reducible rfl); (· simp only [Act.put, List.setIfInBounds_toArray, List.set_cons_zero, List.set_cons_succ, i64_w, i32_w]; rfl)) | (refine seq_v (some 21) (v := undef) (a' := ?_) rfl rfl (fun _ _ _ h => h) (Or.inr ⟨by rfl, rfl⟩) ?_ ?_; rotate_left; (· simp only [Act.put, List.setIfInBounds_toArray, List.set_cons_zero, List.set_cons_succ, i64_w, i32_w]; rfl))
  (refine seq_v (some 22) (v := ?_) (a' := ?_) rfl rfl (fun _ _ _ h => h) (Or.inl ⟨by rfl, ?_⟩) ?_ ?_; rotate_left 2; (· intro w'; go_simp; with_reducible rfl); (· simp only [Act.put, List.setIfInBounds_toArray, List.set_cons_zero, List.set_cons_succ, i64_w, i32_w]; rfl))
  refine seq_nil ?_
  clear hS c1 c0
  have HB2 := Lib.hid (below_drew HB1.out : Below w.heap.size w w1.drew)
  have Hb2 := Lib.hid (show Blk w1.drew b 32 _ from Hb1.out.drew)
  have HY2 := Lib.hid (show Blk w1.drew w.heap.size 49 _ from HY1.out.drew)
  clear HB1 Hb1 HY1 hzw
  generalize w1.drew = w2 at HB2 Hb2 HY2 ⊢
  have hb2 : b < w2.heap.size := Hb2.out.lt
  have hz2 : w.heap.size < w2.heap.size := HY2.out.lt
  have c0 := Hb2.out.cell 0 _ rfl
  have hCy : k49.C w2 A ys.length ys := (Kd.R_reads' (Kd.R_below H6.out HB2.out)).2.2
  have HCy := Lib.hid (Kd.C_alloc hCy (.cells #[] 49))
  have hbs : w2.heap.size ≤ (w2.alloc (.cells #[] 49)).heap.size := by simp
  have hll : (([] : List S49).length + ys.length) * 32 ≤ 140737488355328 := by simp; omega
  clear hCy
  go_wp2_with (first | (at_builtin; refine ev_rows49 w2.heap.size 30 _ _ rfl rfl Try.underlying30 N_info49 rfl rfl (R_lit0 k49 49 w2) HCy.out hbs hll ?_; intro A2 n2 c2 w3 hR3 hB3; have HB3 := Lib.hid ((below_alloc (Below.refl w2.heap.size w2) (.cells #[] 49)).trans hB3); have HR3 := Lib.hid (show k49.R 49 w3 w2.heap.size (fun _ => True) (.slice A2 n2 c2) ys from hR3); clear hB3 hR3; have hy3 := HY2.out.below HB3.out; have y0 := hy3.cell 0 _ rfl; have y1 := hy3.cell 1 _ rfl; have y2 := hy3.cell 2 _ rfl; have hz3 := hy3.lt; have hle3 : w2.heap.size ≤ w3.heap.size := HB3.out.size; have hl3 : (ys.length + 1) * 32 ≤ 140737488355328 := (by omega); have HpM := Lib.hid (k49_mkM w3 w2.heap.size (fun k => some k ≠ (Value.slice A2 n2 c2).ownBlock) y); clear hy3) | (at_builtin; refine ev_appR k49 (W := w3) (v := .slice A2 n2 c2) w2.heap.size rfl _ _ 30 49 _ 32 rfl Try.underlying30 N_info49 rfl (by decide) (by decide) rfl rfl HpM.out HR3.out hle3 hl3 ?_; intro A4 n4 c4 w4 _ hR4 hB4 _; have HB4 := Lib.hid (HB3.out.trans hB4); have HR4 := Lib.hid hR4; clear hB4 hR4; have hb4 := Hb2.out.below HB4.out; have f4 := hb4.frozen 0; have b4 := hb4.cell 0 _ rfl; have Hb4 := Lib.hid hb4; clear hb4))
  go_ret
  have hKw : Kp F w w4 := (Kp.of_below HB2.out F).below HB4.out
  have hsz := HB2.out.size
  have hN := RnAt.put (F := ext F w w4) (.inl h1) (HF.out.2.1.ext hKw.size) Hb4.out (Kd.R_lower (Kd.R_mono (Kd.R_bound HR4.out) (fun k hk => ⟨.inr ⟨Nat.le_trans hsz hk.2.1, hk.2.2.1⟩, fun h => by have := hk.2.1; omega⟩)) (Nat.zero_le _))
  have hKf := hKw.setCell (p := ⟨b, 0, none⟩) (fun _ => h1) (.slice A4 n4 c4)
  exact ⟨rfl, hN.mono (fun k hk => hk.imp id (fun h => ⟨h.1, by simpa [World.setCell] using h.2⟩)) (HF.out.2.1.ext hKf.size), hKf⟩
end Go.Proofs.Ytnphlghiicbjjaa
