/- net: slices.Delete of one item. -/
import Derived.Test.YtnphlghiicbjjaaN4
namespace Go.Proofs.Ytnphlghiicbjjaa
open Go Go.RowKit Go.Proofs.YtnphlghiicbjjaaW.PrintWords Go.Proofs.YtnphlghiicbjjaaW.PrintLast Go.Proofs.Ytnphlghiicbjjaa.PNetPlays
set_option linter.unusedVariables false
set_option linter.unusedSimpArgs false

/-- A store behind a row, in its own block. -/
theorem R_past {α : Type} {d : Kd α} {e base : Nat} {ok : Nat → Prop} {W : World} {g n c o : Nat} {xs : List α} (h : d.R e W base ok (.slice (some ⟨g, 0, none⟩) n c) xs) (ho : n * d.sz ≤ o) (u : Value) :
    d.R e (W.setCell ⟨g, o, none⟩ u) base ok (.slice (some ⟨g, 0, none⟩) n c) xs := by
  obtain ⟨hok, inner, hown, hr⟩ := h
  refine ⟨hok, inner, ?_, hr.imp_ (fun _ _ hp => d.M_move (fun k hk => ?_) hp)⟩
  · obtain ⟨h1, h2⟩ := hown
    refine ⟨h1, ?_⟩
    rcases h2 with ⟨hv, h0⟩ | ⟨g', cap, cur, hv, hg, hh, hn, hc, hcs, ht⟩
    · exact .inl ⟨hv, h0⟩
    · injection hv with ha hl hcc
      injection ha with ha
      injection ha with ha
      subst ha; subst hcc
      refine .inr ⟨g, c, cur.setIfInBounds o u, by rw [hl], hg, ?_, hn, hc, by simpa using hcs, ?_⟩
      · unfold World.setCell
        simp only [Array.getElem?_modify, if_true, hh, Option.map_some]
        simp
      · rw [Array.toList_setIfInBounds, List.take_set_of_le (by rw [← hl]; exact ho)]
        exact ht
  · refine Below.heap_setCell W _ u k ?_
    have := hk.2
    simp [Value.ownBlock] at this
    exact this

section
variable {P : Program} {o : Oper} {a : Act} {Q : Exit → Act → World → Prop} {K : Act → World → Prop} {α : Type}
/-- append(xs[:k], xs[k+1:]...), as one operation. -/
theorem op_delete (N : Option Tmp) (hN : o.dst = N) (d : Kd α) {W : World} (s x : Operand) (t e : TypeId) (ho : o.op = .call { callee := .builtin .append, args := #[s, x], argTypes := #[t, t] })
    (ht : P.underlying t = some (.slice e)) (hinfo : (P.info? e).map (·.size) = some d.sz) {g n c k m c2 : Nat} {A : Option Addr} {xs : List α} {ok : Nat → Prop}
    (hs : a.eval s = .slice (some ⟨g, 0, none⟩) k c) (hx : a.eval x = .slice A m c2) (hA : A = if c = k + 1 then some ⟨g, 0, none⟩ else (some (⟨g, 0, none⟩ : Addr)).map (·.add ((k + 1) * d.sz))) (hm : m = n - (k + 1))
    (HO : d.R e W 0 ok (.slice (some ⟨g, 0, none⟩) n c) xs) (hk : k < n)
    (h : ∀ w1, d.R e w1 0 ok (.slice (some ⟨g, 0, none⟩) (n - 1) c) (xs.eraseIdx k) → W.grownBy w1 (some g) → K (a.put N (.slice (some ⟨g, 0, none⟩) (n - 1) c)) w1) :
    Oper.wp P o a W K Q := by
  subst hN
  obtain ⟨i0, hi, hsz⟩ := Option.map_eq_some_iff.1 hinfo
  subst hm
  obtain ⟨w1, hr, h1, h2⟩ := Kd.R_delete_run (P := P) d 0 t o.type e i0 ht hi hsz HO hk hA c2
  unfold Oper.wp execOp
  simp only [ho, resolve, invoke, builtin, Sem.run_bind, Sem.run_pure, Result.andThen_ok, List.map_toArray, List.map_cons, List.map_nil, hs, hx, hr]
  exact h w1 h1 h2
end

theorem clear_one (w : World) (g o c1 : Nat) (ty : TypeId) (h0 : (w.cell? ⟨g, o, none⟩).isSome = true) (h1 : (w.cell? ⟨g, o + 1, none⟩).isSome = true) (h2 : (w.cell? ⟨g, o + 2, none⟩).isSome = true) (hf : ∀ k, w.frozen? ⟨g, k, none⟩ = false) :
    (Builtin.clear_ #[34] ty #[.slice (some ⟨g, o, none⟩) 1 c1]).run Try.prog w = .ok (.tuple #[]) (((w.setCell ⟨g, o, none⟩ (.int .i64 0)).setCell ⟨g, o + 1, none⟩ (.int .i64 0)).setCell ⟨g, o + 2, none⟩ (.slice none 0 0)) := by
  obtain ⟨u0, h0⟩ := Option.isSome_iff_exists.1 h0
  obtain ⟨u1, h1⟩ := Option.isSome_iff_exists.1 h1
  obtain ⟨u2, h2⟩ := Option.isSome_iff_exists.1 h2
  have f0 := hf o
  have f1 := hf (o + 1)
  have f2 := hf (o + 2)
  clear hf
  have hu := run_underlying (P := Try.prog) Try.underlying34
  have hz := Try.zeroValue40
  simp only [Builtin.clear_]
  go_simp
  rw [show (Builtin.zeroCells #[Value.int IntKind.i64 0, Value.int IntKind.i64 0, Value.slice none 0 0] 1).toList = [Value.int IntKind.i64 0, Value.int IntKind.i64 0, Value.slice none 0 0] from by kernel_rfl]
  go_simp

def DelPost (w : World) (G : Nat → Prop) (xs : List S40) (i : Nat) (e : Ending) (w' : World) : Prop :=
  ∃ A n c, e = .returned (.slice A n c) ∧ k40.R 40 w' 0 G (.slice A n c) (xs.eraseIdx i) ∧ Kp G w w'
set_option maxRecDepth 100000 in
set_option maxHeartbeats 1000000 in
theorem delete_any (w : World) (G : Nat → Prop) (A : Option Addr) (n c : Nat) (xs : List S40) (hR : k40.R 40 w 0 G (.slice A n c) xs) (hn : n ≤ 1000000000) (k : Nat) (hk : k < n) :
    Calls Try.prog 51 #[.slice A n c, .int .i64 k, .int .i64 ((k : Int) + 1)] w (DelPost w G xs k) := by
  obtain ⟨hnx, hnc, hC⟩ := Kd.R_reads' hR
  obtain ⟨g, rfl⟩ : ∃ g, A = some ⟨g, 0, none⟩ := by
    obtain ⟨inner, ho⟩ := Kd.R_own hR
    rcases ho.2 with ⟨hv, h0⟩ | ⟨g', cap, cur, hv, hg, hh, r⟩
    · injection hv with _ h1; omega
    · injection hv with h1; exact ⟨g', h1⟩
  have HR := Lib.hid hR
  have HG := Lib.hid (hR.1 g rfl)
  have Hnx := Lib.hid hnx
  clear hC hR hnx
  have hw1 : ((k : Int) == (k : Int) + 1) = false := by rw [beq_eq_false_iff_ne]; omega
  go_enter Try.func51, Try.ntmps51
  go_wp2_with fail
  obtain ⟨i40, hi40, hz⟩ := Option.map_eq_some_iff.1 N_info40
  simp only [Prod.mk.injEq] at hz
  obtain ⟨hz0, hsz40, hz2⟩ := hz
  have hcut1 := cut_to (P := Try.prog) 34 40 .i64 Try.underlying34 hi40 (some ⟨g, 0, none⟩) n c (k : Int) (by omega) (by omega) hnc
  have hcut2 := cut_from (P := Try.prog) 34 40 .i64 Try.underlying34 hi40 3 hsz40 (some ⟨g, 0, none⟩) n c ((k : Int) + 1) (by omega) (by omega)
  have hk1 : ((k : Int) + 1).toNat = k + 1 := by omega
  rw [Int.toNat_natCast] at hcut1
  rw [hk1] at hcut2
  generalize hA : (if c = k + 1 then (some ⟨g, 0, none⟩ : Option Addr) else (some (⟨g, 0, none⟩ : Addr)).map (·.add ((k + 1) * 3))) = A2 at hcut2
  generalize hm : n - (k + 1) = m2 at hcut2
  have HA := Lib.hid hA
  have HM := Lib.hid hm
  clear hA hm hk1 hi40 hsz40 hz0 hz2
  refine seq_start (fun _ => True) [] [(0, 0), (1, 0), (2, 0), (3, 0), (4, 0), (5, 0), (6, 2), (7, 0)] (by kernel_rfl) (by kernel_rfl) trivial ?_
  intro hS
  (refine seq_v (some 20) (v := ?_) (a' := ?_) rfl rfl (fun _ _ _ h => h) (Or.inl ⟨by rfl, ?_⟩) ?_ ?_; rotate_left 2; (· intro w'; go_simp; with_reducible rfl); (· simp only [Act.put, List.setIfInBounds_toArray, List.set_cons_zero, List.set_cons_succ, i64_w, i32_w]; rfl))
  (refine seq_v (some 21) (v := ?_) (a' := ?_) rfl rfl (fun _ _ _ h => h) (Or.inl ⟨by rfl, ?_⟩) ?_ ?_; rotate_left 2; (· intro w'; go_simp; with_reducible rfl); (· simp only [Act.put, List.setIfInBounds_toArray, List.set_cons_zero, List.set_cons_succ, i64_w, i32_w]; rfl))
  (refine seq_v (some 22) (v := ?_) (a' := ?_) rfl rfl (fun _ _ _ h => h) (Or.inl ⟨by rfl, ?_⟩) ?_ ?_; rotate_left 2; (· intro w'; go_simp; with_reducible rfl); (· simp only [Act.put, List.setIfInBounds_toArray, List.set_cons_zero, List.set_cons_succ, i64_w, i32_w]; rfl))
  (refine seq_v (some 23) (v := ?_) (a' := ?_) rfl rfl (fun _ _ _ h => h) (Or.inl ⟨by rfl, ?_⟩) ?_ ?_; rotate_left 2; (· intro w'; go_simp; with_reducible rfl); (· simp only [Act.put, List.setIfInBounds_toArray, List.set_cons_zero, List.set_cons_succ, i64_w, i32_w]; rfl))
  (refine seq_v (some 24) (v := ?_) (a' := ?_) rfl rfl (fun _ _ _ h => h) (Or.inl ⟨by rfl, ?_⟩) ?_ ?_; rotate_left 2; (· intro w'; go_simp; with_reducible rfl); (· simp only [Act.put, List.setIfInBounds_toArray, List.set_cons_zero, List.set_cons_succ, i64_w, i32_w]; rfl))
  (refine seq_v (some 25) (v := ?_) (a' := ?_) rfl rfl (fun _ _ _ h => h) (Or.inl ⟨by rfl, ?_⟩) ?_ ?_; rotate_left 2; (· intro w'; go_simp; with_reducible rfl); (· simp only [Act.put, List.setIfInBounds_toArray, List.set_cons_zero, List.set_cons_succ, i64_w, i32_w]; rfl))
  (refine seq_e rfl (by rfl) (fun K hK => ?_))
  refine op_delete (some 26) (by rfl) k40 (W := w.drew) (ok := G) _ _ 34 40 (by rfl) Try.underlying34 (by kernel_rfl) (by rfl) (by rfl) HA.out.symm HM.out.symm (Kd.R_drew HR.out) hk ?_
  intro w1 hR1 hG1
  refine hK _ _ trivial (fun hS => ?_)
  clear hK K
  (refine seq_norm (by simp only [Act.put, List.setIfInBounds_toArray, List.set_cons_zero, List.set_cons_succ, i64_w, i32_w]; exact rfl) ?_)
  (refine seq_v (some 0) (v := ?_) (a' := ?_) rfl rfl (fun _ _ _ h => h) (Or.inl ⟨by rfl, ?_⟩) ?_ ?_; rotate_left 2; (· intro w'; go_simp; with_reducible rfl); (· simp only [Act.put, List.setIfInBounds_toArray, List.set_cons_zero, List.set_cons_succ, i64_w, i32_w]; rfl))
  refine seq_nil ?_
  have hmn : n - 1 < n := by omega
  have hnm : n - (n - 1) = 1 := by omega
  have hcm : ¬ c = n - 1 := by omega
  generalize n - 1 = m at hR1 hmn hnm hcm ⊢
  have hmn' : m ≤ n := by omega
  have HR1 := Lib.hid hR1
  have HG1 := Lib.hid hG1
  have Hnm := Lib.hid hnm
  have hcur : ∃ cur, w1.heap[g]? = some (.cells cur 40 (0, 0)) ∧ (m + 1) * 3 ≤ cur.size := by
    obtain ⟨_, inner, ho, hr⟩ := hR1
    rcases ho.2 with ⟨hv, _⟩ | ⟨g', cap, cur, hv, hg, hh, hn', hc', hcs, ht⟩
    · cases hv
    · injection hv with ha hl hcc
      injection ha with ha
      injection ha with ha
      subst ha; subst hcc
      have : (m + 1) * 3 ≤ c * 3 := Nat.mul_le_mul_right 3 (by omega)
      exact ⟨cur, hh, by rw [hcs]; exact this⟩
  obtain ⟨cur, hcu, hcz⟩ := hcur
  have hcell : ∀ j, j < 3 → (w1.cell? ⟨g, m * 3 + j, none⟩).isSome = true := fun j hj => by
    rw [cell_of_row w1 g (m * 3 + j) cur 40 (0, 0) hcu, Array.getElem?_eq_getElem (by omega)]; rfl
  have hfr : ∀ k, w1.frozen? ⟨g, k, none⟩ = false := fun k => blk_frozen hcu k
  have hcl : ∀ ty, (Builtin.clear_ #[34] ty #[.slice (some ⟨g, m * 3, none⟩) (n - m) (c - m)]).run Try.prog w1 = .ok (.tuple #[]) (((w1.setCell ⟨g, m * 3, none⟩ (.int .i64 0)).setCell ⟨g, m * 3 + 1, none⟩ (.int .i64 0)).setCell ⟨g, m * 3 + 2, none⟩ (.slice none 0 0)) := by
    intro ty
    rw [hnm]
    exact clear_one w1 g (m * 3) (c - m) ty (hcell 0 (by omega)) (hcell 1 (by omega)) (hcell 2 (by omega)) hfr
  have HRf := Lib.hid (R_past (R_past (R_past hR1 (by show m * 3 ≤ m * 3; omega) (.int .i64 0)) (by show m * 3 ≤ m * 3 + 1; omega) (.int .i64 0)) (by show m * 3 ≤ m * 3 + 2; omega) (.slice none 0 0))
  have HKf : Kp G w _ := ((((Kp.refl G w).drew).trans (Kp.of_grown (F := G) hG1 (fun j hj => by injection hj with hj; subst hj; exact HG.out)) (fun _ _ h => h)).setCell (p := ⟨g, m * 3, none⟩) (fun _ => HG.out) (.int .i64 0)).setCell (p := ⟨g, m * 3 + 1, none⟩) (fun _ => HG.out) (.int .i64 0)
  have HK := Lib.hid (HKf.setCell (p := ⟨g, m * 3 + 2, none⟩) (fun _ => HG.out) (.slice none 0 0))
  clear hR1 hG1 hcut1 hcut2 hnm HKf hcell hfr hcu hcz
  go_wp2_with fail
  go_ret
  exact ⟨_, _, _, rfl, HRf.out, HK.out⟩
end Go.Proofs.Ytnphlghiicbjjaa
