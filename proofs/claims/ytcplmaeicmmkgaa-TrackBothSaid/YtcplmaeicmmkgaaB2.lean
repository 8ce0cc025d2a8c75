/- More words: cuts of what is read, elements appended. -/
import Derived.Test.YtcplmaeicmmkgaaB1
namespace Go.Proofs.Ytcplmaeicmmkgaa
open Go Go.RowKit Go.Proofs.YtcplmaeicmmkgaaW.PrintWords Go.Proofs.YtcplmaeicmmkgaaW.PrintLast

/-- A row of whole numbers has no rows inside. -/
theorem R_nums_ok {k : IntKind} {e base : Nat} {ok ok' : Nat → Prop} {w : World} {v : Value} {xs : List Int} (h : (Kd.int k).R e w base ok v xs) (h' : ∀ j, v.ownBlock = some j → ok' j) : (Kd.int k).R e w base ok' v xs :=
  ⟨h', h.2.imp_ (fun _ _ hp => hp)⟩
section
variable {P : Program} {α : Type} {d : Kd α} {A : Option Addr} {n c : Nat} {l : List α}
/-- 'xs[j:]' of what is read. -/
theorem cutC_from (t e : TypeId) {i : TypeInfo} (ht : P.underlying t = some (.slice e)) (hi : P.info? e = some i) (hsz : i.size = d.sz) (j : Int) (hn : l.length = n) (hc : n ≤ c) (h0 : 0 ≤ j) (hm : j ≤ n) :
    ∃ A1 n1 c1, (∀ W : World, (Instr.slice t (.slice A n c) (some (.int .i64 j)) none none).run P W = .ok (.slice A1 n1 c1) W) ∧ Hid (n1 = n - j.toNat) ∧ n1 ≤ c1 ∧ (∀ w, d.C w A n l → d.C w A1 n1 (l.drop j.toNat)) := by
  refine ⟨_, _, _, cut_from t e .i64 ht hi d.sz hsz A n c j h0 hm, rfl, by omega, fun w h => ?_⟩
  subst hn
  have := Kd.C_drop (c := c) h (m := j.toNat) (by omega) hc
  rwa [List.length_drop] at this
/-- 'xs[lo:hi]' of what is read. -/
theorem cutC_mid (t e : TypeId) {i : TypeInfo} (ht : P.underlying t = some (.slice e)) (hi : P.info? e = some i) (hsz : i.size = d.sz) (lo hh : Int) (hn : l.length = n) (hc : n ≤ c) (h0 : 0 ≤ lo) (h1 : lo ≤ hh) (hm : hh ≤ n) :
    ∃ A1 n1 c1, (∀ W : World, (Instr.slice t (.slice A n c) (some (.int .i64 lo)) (some (.int .i64 hh)) none).run P W = .ok (.slice A1 n1 c1) W) ∧ Hid (n1 = hh.toNat - lo.toNat) ∧ n1 ≤ c1 ∧ (∀ w, d.C w A n l → d.C w A1 n1 ((l.take hh.toNat).drop lo.toNat)) := by
  refine ⟨_, _, _, cut_mid t e .i64 .i64 ht hi d.sz hsz A n c lo hh h0 h1 hm hc, rfl, by omega, fun w h => ?_⟩
  subst hn
  have := Kd.C_mid (c := c) h (lo := lo.toNat) (hi := hh.toNat) (by omega) (by omega) hc
  rwa [List.length_drop, List.length_take, Nat.min_eq_left (by omega)] at this
end
section
variable {P : Program} {ops : Array Oper} {rest : List Oper} {o : Oper} {a : Act} {Q : Exit → Act → World → Prop} {α : Type}
/-- append(v, x), x an element of any kind; the world is W behind the variadic's box. -/
theorem ev_appR (d : Kd α) {W : World} (base : Nat) (hgd : o.guard = none) (s x : Operand) (t e : TypeId) (z : Value) (bytes : Nat)
    (ho : o.op = .call { callee := .builtin .append, args := #[s, x], argTypes := #[t, t] })
    (ht : P.underlying t = some (.slice e)) (hinfo : (P.info? e).map (fun i => (i.zero, i.size, i.bytes)) = some (some z, d.sz, bytes)) (hz : z.cells.size = d.sz) (hs0 : 0 < d.sz) (hb0 : 0 < bytes)
    {v : Value} {xs : List α} {p : α} {cs : List Value} (hs : a.eval s = v) (hx : a.eval x = .slice (some ⟨W.heap.size, 0, none⟩) 1 1) (hp : d.M W base (fun k => some k ≠ v.ownBlock) p cs)
    (HO : d.R e W base (fun _ => True) v xs) (hbase : base ≤ W.heap.size) (hl : (xs.length + 1) * bytes ≤ 140737488355328)
    (h : ∀ A1 n1 c1 w1, Hid (n1 = (xs ++ [p]).length) → d.R e w1 base (fun _ => True) (.slice A1 n1 c1) (xs ++ [p]) → Below base W w1 → W.grownBy w1 v.ownBlock → wpList P ops Q rest (a.put o.dst (.slice A1 n1 c1)) w1) :
    wpList P ops Q (o :: rest) a (W.alloc (.cells cs.toArray e)) :=
  Kd.R_append d (w0 := W) base hgd s x t e z bytes ho ht hinfo hz hs0 hb0 v xs p cs (fun _ => True) (fun k => some k ≠ v.ownBlock) hs hx hp (fun _ hk => ⟨trivial, hk⟩) (fun _ _ => trivial) HO (Below.refl _ _) hbase hl
    (fun v1 w1 h1 h2 h3 _ => by
      obtain ⟨A1, c1, rfl⟩ := Kd.R_slice h1
      exact h A1 _ c1 w1 rfl h1 h2 h3)
/-- An append whose run is known. -/
theorem ev_append_run {W w1 : World} {ats : Array TypeId} {v y v1 : Value} (hgd : o.guard = none) (s x : Operand) (ho : o.op = .call { callee := .builtin .append, args := #[s, x], argTypes := ats })
    (hs : a.eval s = v) (hx : a.eval x = y) (hr : ∀ ty, (Builtin.append_ ats ty #[v, y]).run P W = .ok v1 w1) (h : wpList P ops Q rest (a.put o.dst v1) w1) : wpList P ops Q (o :: rest) a W := by
  refine wpList_plain hgd fun K hK => ?_
  unfold Oper.wp execOp
  simp only [ho, resolve, invoke, builtin, Sem.run_bind, Sem.run_pure, Result.andThen_ok, List.map_toArray, List.map_cons, List.map_nil, hs, hx, hr]
  exact hK _ _ h
/-- append(v, ys...) of whole numbers, v the call's own. -/
theorem ev_rowsR (k : IntKind) (bytes : Nat) {W : World} (base : Nat) (t e : TypeId) (s x : Operand) (hgd : o.guard = none)
    (ho : o.op = .call { callee := .builtin .append, args := #[s, x], argTypes := #[t, t] })
    (ht : P.underlying t = some (.slice e)) (hinfo : (P.info? e).map (fun i => (i.zero, i.size, i.bytes)) = some (some (.int k 0), 1, bytes)) (hb0 : 0 < bytes)
    {v : Value} {xs ys : List Int} {A : Option Addr} {m c : Nat} (hs : a.eval s = v) (hx : a.eval x = .slice A m c)
    (HO : (Kd.int k).R e W base (fun _ => True) v xs) (HR : (Kd.int k).C W A m ys) (hbase : base ≤ W.heap.size) (hl : (xs.length + m) * bytes ≤ 140737488355328)
    (h : ∀ A1 n1 c1 w1, Hid (n1 = (xs ++ ys).length) → (Kd.int k).R e w1 base (fun _ => True) (.slice A1 n1 c1) (xs ++ ys) → Below base W w1 → W.grownBy w1 v.ownBlock → wpList P ops Q rest (a.put o.dst (.slice A1 n1 c1)) w1) :
    wpList P ops Q (o :: rest) a W :=
  ev_rows k bytes base t e s x hgd ho ht hinfo hb0 hs hx HO HR (fun _ _ => trivial) hbase hl
    (fun v1 w1 h1 h2 h3 _ => by
      obtain ⟨A1, c1, rfl⟩ := Kd.R_slice h1
      exact h A1 _ c1 w1 rfl h1 h2 h3)
/-- append(v, ys...) of whole numbers, with a footprint, and a word on where the row is then; as one operation. -/
theorem op_rowsG (k : IntKind) (bytes : Nat) {W : World} {F : Nat → Prop} {K : Act → World → Prop} (t e : TypeId) (s x : Operand)
    (ho : o.op = .call { callee := .builtin .append, args := #[s, x], argTypes := #[t, t] })
    (ht : P.underlying t = some (.slice e)) (hinfo : (P.info? e).map (fun i => (i.zero, i.size, i.bytes)) = some (some (.int k 0), 1, bytes)) (hb0 : 0 < bytes)
    {v : Value} {xs ys : List Int} {A : Option Addr} {m c : Nat} (hs : a.eval s = v) (hx : a.eval x = .slice A m c)
    (HO : (Kd.int k).R e W 0 F v xs) (HR : (Kd.int k).C W A m ys) (hl : (xs.length + m) * bytes ≤ 140737488355328)
    (h : ∀ A1 n1 c1 w1, Hid (n1 = (xs ++ ys).length) → (Kd.int k).R e w1 0 (ext F W w1) (.slice A1 n1 c1) (xs ++ ys) → Kp F W w1 → W.grownBy w1 v.ownBlock → ((Value.slice A1 n1 c1).ownBlock = v.ownBlock ∨ ∃ b, (Value.slice A1 n1 c1).ownBlock = some b ∧ W.heap.size ≤ b) → K (a.put o.dst (.slice A1 n1 c1)) w1) :
    Oper.wp P o a W K Q := by
  obtain ⟨v1, w1, hr, h1, hg, hat⟩ := rows_run (P := P) (Kd.int k) (Rr := (Kd.int k).K W) 0 t o.type e (.int k 0) bytes ht hinfo rfl (Nat.one_pos) hb0 v xs ys A m c (fun j => F j ∨ W.heap.size ≤ j) (fun _ => False)
    (Kd.R_mono HO (fun _ hk => .inl hk)) HR (fun _ _ h => h) (fun _ h => h.elim) (fun _ hk => .inr hk) (Nat.zero_le _) hl
  unfold Oper.wp execOp
  simp only [ho, resolve, invoke, builtin, Sem.run_bind, Sem.run_pure, Result.andThen_ok, List.map_toArray, List.map_cons, List.map_nil, hs, hx, hr]
  obtain ⟨A1, c1, rfl⟩ := Kd.R_slice h1
  exact h A1 _ c1 w1 rfl (ext_of_bound h1) (Kp.of_grown hg HO.1) hg hat
end
end Go.Proofs.Ytcplmaeicmmkgaa
