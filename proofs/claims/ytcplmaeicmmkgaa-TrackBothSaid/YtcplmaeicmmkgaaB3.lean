/- More words: operations of their own, in a region that draws; old cells; stores of structs. -/
import Derived.Test.YtcplmaeicmmkgaaB2
namespace Go.Proofs.Ytcplmaeicmmkgaa
open Go Go.RowKit Go.Proofs.YtcplmaeicmmkgaaW.PrintWords Go.Proofs.YtcplmaeicmmkgaaW.PrintLast

/-- The blocks of G and E, and what has come since. -/
def ext2 (G E : Nat → Prop) (w w' : World) (k : Nat) : Prop := (G k ∨ E k) ∨ (w.heap.size ≤ k ∧ k < w'.heap.size)
section
variable {P : Program} {ops : Array Oper} {rest : List Oper} {o : Oper} {a : Act} {Q : Exit → Act → World → Prop} {K : Act → World → Prop} {α : Type}
/-- append(v, x), x an element of any kind, as one operation; the world is W behind the variadic's box. -/
theorem op_appG (N : Option Tmp) (hN : o.dst = N) (hgd : o.guard = none) (d : Kd α) {W : World} {G E : Nat → Prop} (s x : Operand) (t e : TypeId) (z : Value) (bytes : Nat)
    (ho : o.op = .call { callee := .builtin .append, args := #[s, x], argTypes := #[t, t] })
    (ht : P.underlying t = some (.slice e)) (hinfo : (P.info? e).map (fun i => (i.zero, i.size, i.bytes)) = some (some z, d.sz, bytes)) (hz : z.cells.size = d.sz) (hs0 : 0 < d.sz) (hb0 : 0 < bytes)
    {v : Value} {xs : List α} {p : α} {cs : List Value} (hs : a.eval s = v) (hx : a.eval x = .slice (some ⟨W.heap.size, 0, none⟩) 1 1) (hp : d.M W 0 E p cs) (hE : ∀ k, E k → some k ≠ v.ownBlock)
    (HO : d.R e W 0 G v xs) (hl : (xs.length + 1) * bytes ≤ 140737488355328)
    (h : ∀ A1 n1 c1 w1, Hid (n1 = (xs ++ [p]).length) → d.R e w1 0 (ext2 G E W w1) (.slice A1 n1 c1) (xs ++ [p]) → Kp G W w1 → W.grownBy w1 v.ownBlock → K (a.put N (.slice A1 n1 c1)) w1) :
    Oper.wp P o a (W.alloc (.cells cs.toArray e)) K Q := by
  subst hN
  have hw : Region.wanted o (yielded (#[] : Array Oper) a.tmps) = true := by simp [Region.wanted, hgd]
  have := Kd.R_append_step (P := P) (ops := #[]) (Q := Q) (Kc := K) d (w0 := W) 0 hw s x t e z bytes ho ht hinfo hz hs0 hb0 v xs p cs (fun k => (G k ∨ E k) ∨ W.heap.size ≤ k) E hs hx hp (fun k hk => ⟨.inl (.inr hk), hE k hk⟩) (fun k hk => .inr hk)
    (Kd.R_mono HO (fun _ hk => .inl (.inl hk))) (Below.refl _ _) (Nat.zero_le _) hl (fun v1 w1 h1 _ h3 _ => by
      obtain ⟨A1, c1, rfl⟩ := Kd.R_slice h1
      refine h A1 _ c1 w1 rfl (Kd.R_mono (Kd.R_bound h1) (fun k hk => ?_)) (Kp.of_grown h3 HO.1) h3
      rcases hk.1 with hk1 | hk1
      · exact .inl hk1
      · exact .inr ⟨hk1, hk.2.2.1⟩)
  rwa [if_pos hw] at this
/-- The same, as the walk of a list has it. -/
theorem ev_appE (N : Option Tmp) (hN : o.dst = N) (hgd : o.guard = none) (d : Kd α) {W : World} {G E : Nat → Prop} (s x : Operand) (t e : TypeId) (z : Value) (bytes : Nat)
    (ho : o.op = .call { callee := .builtin .append, args := #[s, x], argTypes := #[t, t] })
    (ht : P.underlying t = some (.slice e)) (hinfo : (P.info? e).map (fun i => (i.zero, i.size, i.bytes)) = some (some z, d.sz, bytes)) (hz : z.cells.size = d.sz) (hs0 : 0 < d.sz) (hb0 : 0 < bytes)
    {v : Value} {xs : List α} {p : α} {cs : List Value} (hs : a.eval s = v) (hx : a.eval x = .slice (some ⟨W.heap.size, 0, none⟩) 1 1) (hp : d.M W 0 E p cs) (hE : ∀ k, E k → some k ≠ v.ownBlock)
    (HO : d.R e W 0 G v xs) (hl : (xs.length + 1) * bytes ≤ 140737488355328)
    (h : ∀ A1 n1 c1 w1, Hid (n1 = (xs ++ [p]).length) → d.R e w1 0 (ext2 G E W w1) (.slice A1 n1 c1) (xs ++ [p]) → Kp G W w1 → W.grownBy w1 v.ownBlock → wpList P ops Q rest (a.put N (.slice A1 n1 c1)) w1) :
    wpList P ops Q (o :: rest) a (W.alloc (.cells cs.toArray e)) :=
  wpList_plain hgd (fun K hK => op_appG N hN hgd d s x t e z bytes ho ht hinfo hz hs0 hb0 hs hx hp hE HO hl (fun A1 n1 c1 w1 h1 h2 h3 h4 => hK _ _ (h A1 n1 c1 w1 h1 h2 h3 h4)))
end

theorem cell_old {w w1 : World} {p : Addr} {v : Value} (hb : Below w.heap.size w w1) (h : w.cell? p = some v) : w1.cell? p = some v := (World.cell?_of_block (hb.block _ (World.block_lt_of_cell? _ _ h))).trans h
theorem put3 {w : World} {g : Nat} {e : TypeId} {a0 a1 a2 : Value} (h : Blk w g e [a0, a1, a2]) (v0 v1 v2 : Value) :
    Blk (((w.setCell ⟨g, 0, none⟩ v0).setCell ⟨g, 1, none⟩ v1).setCell ⟨g, 2, none⟩ v2) g e [v0, v1, v2] ∧ Kp (fun k => k = g) w (((w.setCell ⟨g, 0, none⟩ v0).setCell ⟨g, 1, none⟩ v1).setCell ⟨g, 2, none⟩ v2) :=
  ⟨((h.set 0 v0).set 1 v1).set 2 v2, (((Kp.refl (fun k => k = g) w).setCell (p := ⟨g, 0, none⟩) (fun _ => rfl) v0).setCell (p := ⟨g, 1, none⟩) (fun _ => rfl) v1).setCell (p := ⟨g, 2, none⟩) (fun _ => rfl) v2⟩
/-- From the end. -/
theorem snoc_ind {α : Type} {p : List α → Prop} (h0 : p []) (hs : ∀ l x, p l → p (l ++ [x])) (l : List α) : p l := by
  have : ∀ n (l : List α), l.length = n → p l := by
    intro n
    induction n with
    | zero => intro l hl; rw [List.eq_nil_of_length_eq_zero hl]; exact h0
    | succ n ih =>
      intro l hl
      have hne : l ≠ [] := by intro h; rw [h] at hl; cases hl
      rw [← List.dropLast_concat_getLast hne]
      exact hs _ _ (ih _ (by rw [List.length_dropLast]; omega))
  exact this _ l rfl
end Go.Proofs.Ytcplmaeicmmkgaa
