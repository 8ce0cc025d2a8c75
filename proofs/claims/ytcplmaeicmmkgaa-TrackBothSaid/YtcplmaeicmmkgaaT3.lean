/- track: slices.Clone and slices.DeleteFunc of records. -/
import Derived.Test.YtcplmaeicmmkgaaT2
import Derived.Lib.SliceRun
namespace Go.Proofs.Ytcplmaeicmmkgaa
open Go Go.RowKit Go.Proofs.YtcplmaeicmmkgaaW.PrintWords Go.Proofs.YtcplmaeicmmkgaaW.PrintLast Go.Proofs.Ytcplmaeicmmkgaa.PTrackPlays
set_option linter.unusedVariables false
set_option linter.unusedSimpArgs false

theorem k83_M {w : World} {base : Nat} {ok : Nat → Prop} {w' : World} (x : S83) (cs : List Value) (h : k83.K w' x cs) : k83.M w base ok x cs := by
  rw [k83_open h]
  exact k83_mkM w base ok x
theorem add0 (g m : Nat) : Addr.add ⟨g, 0, none⟩ m = ⟨g, m, none⟩ := by
  unfold Addr.add
  split
  · rename_i h0; rw [h0]
  · simp
section
variable {P : Program} {ops : Array Oper} {rest : List Oper} {o : Oper} {a : Act} {Q : Exit → Act → World → Prop}
/-- append(v, ys...) of records, v the call's own. -/
theorem ev_rows83 {W : World} (base : Nat) (t : TypeId) (s x : Operand) (hgd : o.guard = none)
    (ho : o.op = .call { callee := .builtin .append, args := #[s, x], argTypes := #[t, t] })
    (ht : P.underlying t = some (.slice 83)) (hinfo : (P.info? 83).map (fun i => (i.zero, i.size, i.bytes)) = some (some (.agg #[(.int .i64 0), (.int .u32 0), (.int .u32 0), (.int .i64 0), (.int .i64 0), (.int .i64 0)]), 6, 40))
    {v : Value} {xs ys : List S83} {A : Option Addr} {m c : Nat} (hs : a.eval s = v) (hx : a.eval x = .slice A m c)
    (HO : k83.R 83 W base (fun _ => True) v xs) (HR : k83.C W A m ys) (hbase : base ≤ W.heap.size) (hl : (xs.length + m) * 40 ≤ 140737488355328)
    (h : ∀ A1 n1 c1 w1, k83.R 83 w1 base (fun _ => True) (.slice A1 n1 c1) (xs ++ ys) → Below base W w1 → wpList P ops Q rest (a.put o.dst (.slice A1 n1 c1)) w1) :
    wpList P ops Q (o :: rest) a W :=
  Kd.R_append_rows k83 (Rr := k83.K W) (w0 := W) base hgd s x t 83 (.agg #[(.int .i64 0), (.int .u32 0), (.int .u32 0), (.int .i64 0), (.int .i64 0), (.int .i64 0)]) 40 ho ht hinfo rfl (by decide) (by decide) v xs ys A m c (fun _ => True) (fun _ => False) hs hx HO HR (fun x cs h => k83_M x cs h) (fun _ h => h.elim) (fun _ _ => trivial) (Below.refl _ _) hbase hl
    (fun v1 w1 h1 h2 _ _ => by
      obtain ⟨A1, c1, rfl⟩ := Kd.R_slice h1
      exact h A1 _ c1 w1 h1 h2)
end
theorem inf83 : (Try.prog.info? 83).map (·.size) = some 6 := by kernel_rfl
section
variable {ops : Array Oper} {rest : List Oper} {o : Oper} {a : Act} {Q : Exit → Act → World → Prop}
/-- out[i] = y. -/
theorem st83 {W : World} (hN : o.dst = none) (hgd : o.guard = none) (p x : Operand) (ho : o.op = .store 83 p x) {g n cap : Nat} (i : Nat) (M : List S83) (y : S83) {G : Nat → Prop}
    (haddr : a.eval p = .pointer (some ⟨g, i * 6, none⟩)) (hx : a.eval x = v83 y) (HO : k83.R 83 W 0 G (.slice (some ⟨g, 0, none⟩) n cap) M) (hi : i < n)
    (h : ∀ w1, k83.R 83 w1 0 G (.slice (some ⟨g, 0, none⟩) n cap) (M.set i y) → Kp G W w1 → wpList Try.prog ops Q rest a w1) : wpList Try.prog ops Q (o :: rest) a W := by
  have hG : G g := HO.1 g rfl
  have hn := (Kd.R_reads' HO).1
  have hC := (Kd.R_reads' HO).2.2
  obtain ⟨ad, c, e, hcl, hK, hc⟩ := Kd.C_get hC z83 (i : Int) (by omega) (by omega)
  injection e with e
  subst e
  have hc' := k83_open hK
  refine Kd.R_store (d := k83) (w0 := W) 0 hN hgd 83 p x ho 83 (i : Int) 0 M y (v83 y) [.int .i64 y.f0.f0, .int .u32 y.f0.f1, .int .u32 y.f0.f2, .int .i64 y.f0.f3, .int .i64 y.f0.f4, .int .i64 y.f1] c G (fun _ => False) haddr (by rw [Int.toNat_natCast]; rfl) hx rfl inf83 (by intro q hq; simp at hq; rcases hq with rfl | rfl | rfl | rfl | rfl | rfl <;> rfl) HO (by omega) (by omega) (by rw [hc']; rfl)
    (fun j u hj => by have := hc j u hj; rwa [add0] at this) (by show 0 + 6 ≤ 6; omega) (by rw [hc']; exact k83_mkM _ _ _ y) (fun _ hk => hk.elim) (Below.refl _ _) ?_
  intro w1 h1 _ h3
  rw [Int.toNat_natCast] at h1
  exact h w1 h1 (Kp.of_grown (F := G) h3 (fun j hj => by injection hj with hj; subst hj; exact hG))
end
def RetC (w : World) (xs : List S83) (e : Ending) (w' : World) : Prop := ∃ A n c, e = .returned (.slice A n c) ∧ k83.R 83 w' w.heap.size (fun _ => True) (.slice A n c) xs ∧ Below w.heap.size w w'
set_option maxHeartbeats 1000000 in
theorem clone_any (w : World) (xs : List S83) (A : Option Addr) (n c : Nat) (hC : k83.C w A n xs) (hn : n ≤ 1000000000) : Calls Try.prog 95 #[.slice A n c] w (RetC w xs) := by
  cases A with
  | none =>
    obtain ⟨rfl, rfl⟩ := C_none hC
    clear hC
    have qT := fun (w : World) (n c n' c' : Nat) => Lib.run_eql_slice_nil (P := Try.prog) w 65 83 none n c n' c' Try.underlying65
    go_enter Try.func95, Try.ntmps95
    go_wp2_with fail
    go_ret
    exact ⟨_, _, _, rfl, Kd.R_nil _ _ _ _ _, Below.refl _ _⟩
  | some ad =>
    have qT := fun (w : World) (n c n' c' : Nat) => Lib.run_eql_slice_nil (P := Try.prog) w 65 83 (some ad) n c n' c' Try.underlying65
    have HC := Lib.hid (C_kp hC (below_alloc (Below.refl _ _) (.cells #[] 83)))
    have hbs : w.heap.size ≤ (w.alloc (.cells #[] 83)).heap.size := by simp
    have hll : (([] : List S83).length + n) * 40 ≤ 140737488355328 := by simp; omega
    clear hC
    go_enter Try.func95, Try.ntmps95
    go_wp2_with (at_builtin; refine ev_rows83 w.heap.size 65 _ _ rfl rfl Try.underlying65 info83 rfl rfl (R_lit0 k83 83 w) HC.out hbs hll ?_; intro A2 n2 c2 w3 hR3 hB3; have HB3 := Lib.hid ((below_alloc (Below.refl w.heap.size w) (.cells #[] 83)).trans hB3); have HR3 := Lib.hid (show k83.R 83 w3 w.heap.size (fun _ => True) (.slice A2 n2 c2) xs from hR3); clear hB3 hR3)
    go_ret
    exact ⟨_, _, _, rfl, HR3.out, HB3.out⟩
/-- A store behind a row, in its own block. -/
theorem R_past {α : Type} {d : Kd α} {e base : Nat} {ok : Nat → Prop} {W : World} {g n c o : Nat} {xs : List α} (h : d.R e W base ok (.slice (some ⟨g, 0, none⟩) n c) xs) (ho : n * d.sz ≤ o) (u : Value) :
    d.R e (W.setCell ⟨g, o, none⟩ u) base ok (.slice (some ⟨g, 0, none⟩) n c) xs := by
  obtain ⟨hok, inner, hown, hr⟩ := h
  refine ⟨hok, inner, ?_, hr.imp_ (fun _ _ hp => d.M_move (fun k hk => ?_) hp)⟩
  · obtain ⟨h1, h2⟩ := hown
    refine ⟨h1, ?_⟩
    rcases h2 with ⟨hv, h0⟩ | ⟨g', cap, cur, hv, hg, hh, hn, hc, hcs, ht⟩
    · exact .inl ⟨hv, h0⟩
    · injection hv with ha hl hcc
      injection ha with ha
      injection ha with ha
      subst ha; subst hcc
      refine .inr ⟨g, c, cur.setIfInBounds o u, by rw [hl], hg, ?_, hn, hc, by simpa using hcs, ?_⟩
      · unfold World.setCell
        simp only [Array.getElem?_modify, if_true, hh, Option.map_some]
        simp
      · rw [Array.toList_setIfInBounds, List.take_set_of_le (by rw [← hl]; exact ho)]
        exact ht
  · refine Below.heap_setCell W _ u k ?_
    have := hk.2
    simp [Value.ownBlock] at this
    exact this
theorem R_pasts {α : Type} {d : Kd α} {e base : Nat} {ok : Nat → Prop} {g n c : Nat} {xs : List α} : ∀ (vs : List Value) (o : Nat) (W : World), d.R e W base ok (.slice (some ⟨g, 0, none⟩) n c) xs → n * d.sz ≤ o → d.R e (W.setCells g o vs) base ok (.slice (some ⟨g, 0, none⟩) n c) xs
  | [], _, _, h, _ => h
  | v :: r, o, W, h, ho => R_pasts r (o + 1) _ (R_past h ho v) (by omega)
theorem Kp_sets {G : Nat → Prop} {w0 : World} {g : Nat} (hG : G g) : ∀ (vs : List Value) (o : Nat) (W : World), Kp G w0 W → Kp G w0 (W.setCells g o vs)
  | [], _, _, h => h
  | v :: r, o, W, h => Kp_sets hG r (o + 1) _ (h.setCell (p := ⟨g, o, none⟩) (fun _ => hG) v)
def zs83 (m : Nat) : List Value := (Builtin.zeroCells #[(.int .i64 0), (.int .u32 0), (.int .u32 0), (.int .i64 0), (.int .i64 0), (.int .i64 0)] m).toList
theorem zs83_len (m : Nat) : (zs83 m).length = m * 6 := by simp [zs83, Builtin.zeroCells]
theorem zs83_one (m : Nat) : ∀ v ∈ zs83 m, v.oneCell' = true := by
  intro v hv
  simp only [zs83, Builtin.zeroCells, Array.toList_map, List.mem_map] at hv
  obtain ⟨i, _, rfl⟩ := hv
  have : i % 6 < 6 := Nat.mod_lt _ (by decide)
  show (#[Value.int .i64 0, .int .u32 0, .int .u32 0, .int .i64 0, .int .i64 0, .int .i64 0][i % 6]!).oneCell' = true
  generalize i % 6 = k at this
  match k, this with
  | 0, _ => rfl
  | 1, _ => rfl
  | 2, _ => rfl
  | 3, _ => rfl
  | 4, _ => rfl
  | 5, _ => rfl
/-- clear of records. -/
theorem clear83 (w : World) (g o m c1 : Nat) (ty : TypeId) (hm : 0 < m) (hc : ∀ j, j < m * 6 → (w.cell? ⟨g, o + j, none⟩).isSome = true) (hf : ∀ k, w.frozen? ⟨g, k, none⟩ = false) :
    (Builtin.clear_ #[65] ty #[.slice (some ⟨g, o, none⟩) m c1]).run Try.prog w = .ok (.tuple #[]) (w.setCells g o (zs83 m)) := by
  have hst := run_storeCells_cells (P := Try.prog) g o (zs83 m) 0 w (by rw [zs83_len]; simpa using hc) (fun j _ => hf _) (zs83_one m)
  simp only [Nat.add_zero] at hst
  obtain ⟨m, rfl⟩ : ∃ k, m = k + 1 := ⟨m - 1, by omega⟩
  have hv := Try.zeroValue83
  have hu := run_underlying (P := Try.prog) Try.underlying65
  unfold zs83 at hst ⊢
  simp [Builtin.clear_, hu, hv, hst, Value.cells]
end Go.Proofs.Ytcplmaeicmmkgaa
