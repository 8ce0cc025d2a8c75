/- Words that the proofs of this seat share: rows of whole numbers that are appended, what a struct's block holds. -/
import Derived.WalkKit
import Derived.WalkSpells
import Derived.KernelRfl
import Derived.Lib.Hide
import Derived.Deep.QuietTactic
import Derived.BigQuiet
import Derived.Deep.RegionHeld3
import Derived.Deep.DeepCutAuto
import Derived.Test.YtcplmaeicmmkgaaWWords
import Derived.Test.YtcplmaeicmmkgaaWLast
import Derived.Test.YtcplmaeicmmkgaaWQPut
namespace Go.Proofs.Ytcplmaeicmmkgaa
open Go Go.RowKit Go.Proofs.YtcplmaeicmmkgaaW.PrintWords

/-- Of a slice that is read and has no address. -/
theorem C_none {α : Type} {d : Kd α} {w : World} {n : Nat} {xs : List α} (h : d.C w none n xs) : n = 0 ∧ xs = [] := by
  have hn : n = 0 := by
    rcases Nat.eq_zero_or_pos n with h0 | h0
    · exact h0
    · obtain ⟨ad, h, _⟩ := h.2.2 h0
      cases h
  exact ⟨hn, List.eq_nil_of_length_eq_zero (by rw [h.1, hn])⟩

section
variable {P : Program} {ops : Array Oper} {rest : List Oper} {o : Oper} {a : Act} {Q : Exit → Act → World → Prop}
/-- '[]T{}', as the walk has run it. -/
theorem R_lit0 {α : Type} (d : Kd α) (e : Nat) (W : World) : d.R e (W.alloc (.cells #[] e)) W.heap.size (fun _ => True) (.slice (some ⟨W.heap.size, 0, none⟩) 0 0) [] := by
  have h := OwnRow.lit (R := d.M (W.alloc (.cells #[] e)) W.heap.size (fun k => True ∧ some k ≠ (Value.slice (some ⟨W.heap.size, 0, none⟩) 0 0).ownBlock)) (e := e) (size := d.sz) W W.heap.size (Reps.none _ _) (Nat.le_refl _) (by simp)
  exact ⟨fun _ _ => trivial, h⟩

/-- append(v, ys...) of whole numbers. -/
theorem ev_rows (k : IntKind) (bytes : Nat) {W : World} (base : Nat) (t e : TypeId) (s x : Operand) (hgd : o.guard = none)
    (ho : o.op = .call { callee := .builtin .append, args := #[s, x], argTypes := #[t, t] })
    (ht : P.underlying t = some (.slice e)) (hinfo : (P.info? e).map (fun i => (i.zero, i.size, i.bytes)) = some (some (.int k 0), 1, bytes)) (hb0 : 0 < bytes)
    {v : Value} {xs ys : List Int} {A : Option Addr} {m c : Nat} {ok : Nat → Prop} (hs : a.eval s = v) (hx : a.eval x = .slice A m c)
    (HO : (Kd.int k).R e W base ok v xs) (HR : (Kd.int k).C W A m ys) (hfresh : ∀ k, W.heap.size ≤ k → ok k)
    (hbase : base ≤ W.heap.size) (hl : (xs.length + m) * bytes ≤ 140737488355328)
    (h : ∀ v1 w1, (Kd.int k).R e w1 base ok v1 (xs ++ ys) → Below base W w1 → W.grownBy w1 v.ownBlock → (v1.ownBlock = v.ownBlock ∨ ∃ b, v1.ownBlock = some b ∧ W.heap.size ≤ b) → wpList P ops Q rest (a.put o.dst v1) w1) :
    wpList P ops Q (o :: rest) a W :=
  Kd.R_append_rows (Kd.int k) (Rr := (Kd.int k).K W) (w0 := W) base hgd s x t e (.int k 0) bytes ho ht hinfo rfl (Nat.one_pos) hb0 v xs ys A m c ok (fun _ => False) hs hx HO HR (fun _ _ h => h) (fun _ h => h.elim) hfresh (Below.refl _ _) hbase hl h
end


/-! ### What a call keeps: all blocks but those of F -/
structure Kp (F : Nat → Prop) (w w' : World) : Prop where
  os : w'.os = w.os
  tape : w'.tape = w.tape
  output : w'.output = w.output
  size : w.heap.size ≤ w'.heap.size
  block : ∀ k, k < w.heap.size → ¬ F k → w'.heap[k]? = w.heap[k]?
/-- F and the blocks that have come since. -/
def ext (F : Nat → Prop) (w w' : World) (k : Nat) : Prop := F k ∨ (w.heap.size ≤ k ∧ k < w'.heap.size)
/-- F names blocks of w alone. -/
def Bd (F : Nat → Prop) (w : World) : Prop := ∀ k, F k → k < w.heap.size
theorem Bd.up {F : Nat → Prop} {w w1 : World} (h : Bd F w) (hs : w.heap.size ≤ w1.heap.size) : Bd F w1 := fun k hk => Nat.lt_of_lt_of_le (h k hk) hs
theorem Bd.ext {F : Nat → Prop} {w w1 : World} (h : Bd F w) (hs : w.heap.size ≤ w1.heap.size) : Bd (ext F w w1) w1 := fun k hk => hk.elim (fun hk => Nat.lt_of_lt_of_le (h k hk) hs) (fun hk => hk.2)
theorem Bd.no (w : World) : Bd (fun _ => False) w := fun _ h => h.elim
namespace Kp
variable {F G : Nat → Prop} {w w1 w2 : World}
theorem refl (F : Nat → Prop) (w : World) : Kp F w w := ⟨rfl, rfl, rfl, Nat.le_refl _, fun _ _ _ => rfl⟩
theorem mono (h : Kp F w w1) (hG : ∀ k, k < w.heap.size → F k → G k) : Kp G w w1 := ⟨h.os, h.tape, h.output, h.size, fun k hk hn => h.block k hk (fun hf => hn (hG k hk hf))⟩
theorem trans (h : Kp F w w1) (h' : Kp G w1 w2) (hG : ∀ k, k < w.heap.size → G k → F k) : Kp F w w2 :=
  ⟨h'.os.trans h.os, h'.tape.trans h.tape, h'.output.trans h.output, Nat.le_trans h.size h'.size,
    fun k hk hn => (h'.block k (Nat.lt_of_lt_of_le hk h.size) (fun hg => hn (hG k hk hg))).trans (h.block k hk hn)⟩
theorem transE (h : Kp F w w1) (h' : Kp (ext F w w1) w1 w2) : Kp F w w2 :=
  h.trans h' (fun k hk hg => by
    rcases hg with hg | hg
    · exact hg
    · omega)
theorem of_below (h : Below w.heap.size w w1) (F : Nat → Prop) : Kp F w w1 := ⟨h.os, h.tape, h.output, h.size, fun k hk _ => h.block k hk⟩
theorem to_below (h : Kp F w w1) {B : Nat} (hB : B ≤ w.heap.size) (hF : ∀ k, F k → B ≤ k) : Below B w w1 :=
  ⟨h.os, h.tape, h.output, h.size, fun k hk => h.block k (by omega) (fun hf => by have := hF k hf; omega)⟩
theorem of_grown {row : Option Nat} (h : w.grownBy w1 row) (hF : ∀ k, row = some k → F k) : Kp F w w1 :=
  ⟨h.os, h.tape, h.output, h.size, fun k hk hn => h.block k hk (fun e => hn (hF k e.symm))⟩
theorem alloc (h : Kp F w w1) (o : Obj) : Kp F w (w1.alloc o) := h.trans (of_below (below_alloc (Below.refl _ _) o) F) (fun _ _ hf => hf)
theorem drew (h : Kp F w w1) : Kp F w w1.drew := ⟨h.os, h.tape, h.output, h.size, h.block⟩
theorem drewN (h : Kp F w w1) (n : Nat) : Kp F w (w1.drewN n) := ⟨h.os, h.tape, h.output, h.size, h.block⟩
theorem below (h : Kp F w w1) (hb : Below w1.heap.size w1 w2) : Kp F w w2 := h.trans (of_below hb F) (fun _ _ hf => hf)
theorem setCell (h : Kp F w w1) {p : Addr} (hp : p.block < w.heap.size → F p.block) (u : Value) : Kp F w (w1.setCell p u) :=
  ⟨h.os, h.tape, h.output, by have := h.size; simpa [World.setCell] using this,
    fun k hk hn => (Below.heap_setCell w1 p u k (fun e => hn (by rw [e]; exact hp (by rw [← e]; exact hk)))).trans (h.block k hk hn)⟩
theorem cell (h : Kp F w w1) {p : Addr} (hp : p.block < w.heap.size) (hn : ¬ F p.block) : w1.cell? p = w.cell? p := World.cell?_of_block (h.block _ hp hn)
end Kp

/-! ### A struct's block -/
/-- Block b holds just these cells, and none of them is frozen. -/
def Blk (w : World) (b : Nat) (e : TypeId) (cs : List Value) : Prop := w.heap[b]? = some (.cells cs.toArray e (0, 0))
namespace Blk
variable {w w1 : World} {b i : Nat} {e : TypeId} {cs : List Value} {v : Value}
theorem lt (h : Blk w b e cs) : b < w.heap.size := (Array.getElem?_eq_some_iff.1 h).1
theorem cell (h : Blk w b e cs) (i : Nat) (v : Value) (hi : cs[i]? = some v) : w.cell? ⟨b, i, none⟩ = some v := by
  have h' : w.heap[b]? = some (.cells cs.toArray e (0, 0)) := h
  rw [cell_of_row w b i cs.toArray e (0, 0) h']
  simpa using hi
theorem frozen (h : Blk w b e cs) (i : Nat) : w.frozen? ⟨b, i, none⟩ = false := blk_frozen h i
theorem of (h : Blk w b e cs) (hb : w1.heap[b]? = w.heap[b]?) : Blk w1 b e cs := hb.trans h
theorem new (w : World) (e : TypeId) (cs : List Value) : Blk (w.alloc (.cells cs.toArray e)) w.heap.size e cs := heap_alloc_new w _
theorem alloc (h : Blk w b e cs) (o : Obj) : Blk (w.alloc o) b e cs := h.of (Below.heap_alloc w o b h.lt)
theorem drew (h : Blk w b e cs) : Blk w.drew b e cs := h
theorem drewN (h : Blk w b e cs) (n : Nat) : Blk (w.drewN n) b e cs := h
theorem below (h : Blk w b e cs) (hb : Below w.heap.size w w1) : Blk w1 b e cs := h.of (hb.block b h.lt)
theorem kp {F : Nat → Prop} (h : Blk w b e cs) (hk : Kp F w w1) (hn : ¬ F b) : Blk w1 b e cs := h.of (hk.block b h.lt hn)
theorem grown (h : Blk w b e cs) {row : Option Nat} (hg : w.grownBy w1 row) (hr : some b ≠ row) : Blk w1 b e cs := h.of (hg.block b h.lt hr)
theorem far (h : Blk w b e cs) {p : Addr} (hp : b ≠ p.block) (u : Value) : Blk (w.setCell p u) b e cs := h.of (Below.heap_setCell w p u b hp)
theorem set (h : Blk w b e cs) (i : Nat) (v : Value) : Blk (w.setCell ⟨b, i, none⟩ v) b e (cs.set i v) := by
  have h' : w.heap[b]? = some (.cells cs.toArray e (0, 0)) := h
  unfold Blk World.setCell
  simp only [Array.getElem?_modify, if_true, h', Option.map_some]
  simp
theorem ne_of (h : Blk w b e cs) {b' : Nat} {e' : TypeId} {cur : Array Value} (h' : w.heap[b']? = some (.cells cur e' (0, 0))) (he : e ≠ e') : b ≠ b' := by
  rintro rfl
  rw [show w.heap[b]? = some (.cells cs.toArray e (0, 0)) from h] at h'
  injection h' with h'
  injection h' with _ h'
  exact he h'
/-- A row of another element type lies elsewhere. -/
theorem ne_row (h : Blk w b e cs) {α : Type} {d : Kd α} {e' base : Nat} {ok : Nat → Prop} {u : Value} {xs : List α} (hR : d.R e' w base ok u xs) (he : e ≠ e') : some b ≠ u.ownBlock := by
  intro hb
  obtain ⟨cur, hc⟩ := Kd.R_typed hR b hb.symm
  exact h.ne_of hc he rfl
end Blk

/-! ### Rows with a footprint -/
section
variable {α : Type} {d : Kd α} {e base : Nat} {F G : Nat → Prop} {w w1 : World} {v : Value} {xs : List α}
theorem R_kp (h : d.R e w base F v xs) (hk : Kp G w w1) (hd : ∀ k, k < w.heap.size → F k → ¬ G k) : d.R e w1 base F v xs := Kd.R_step h (fun k hf hlt => hk.block k hlt (hd k hlt hf))
theorem M_kp {x : α} {cs : List Value} (h : d.M w base F x cs) (hk : Kp G w w1) (hd : ∀ k, k < w.heap.size → F k → ¬ G k) : d.M w1 base F x cs := Kd.M_step h (fun k hf hlt => hk.block k hlt (hd k hlt hf))
/-- What a call gives back new, told with the blocks that have come. -/
theorem R_new_ext (h : d.R e w1 w.heap.size (fun _ => True) v xs) (F : Nat → Prop) : d.R e w1 0 (ext F w w1) v xs :=
  Kd.R_lower (Kd.R_mono (Kd.R_bound h) (fun _ hk => .inr ⟨hk.2.1, hk.2.2.1⟩)) (Nat.zero_le _)
/-- A literal of whole numbers, as the walk has made it. -/
theorem R_nums (k : IntKind) (e : Nat) (W : World) (xs : List Int) (hm : xs.length ≤ 9223372036854775807) :
    (Kd.int k).R e (W.alloc (.cells (nums k xs).toArray e)) 0 (fun j => j = W.heap.size) (.slice (some ⟨W.heap.size, 0, none⟩) xs.length xs.length) xs := by
  have hr : Reps ((Kd.int k).M (W.alloc (.cells (nums k xs).toArray e)) 0 (fun j => j = W.heap.size ∧ some j ≠ (Value.slice (some ⟨W.heap.size, 0, none⟩) xs.length xs.length).ownBlock)) 1 xs (nums k xs) := by
    refine ⟨by simp [nums], fun j p hj => ?_⟩
    have hjl := (List.getElem?_eq_some_iff.1 hj).1
    have hp := (List.getElem?_eq_some_iff.1 hj).2
    show ((nums k xs).drop (j * 1)).take 1 = [Value.int k p]
    rw [Nat.mul_one, List.drop_eq_getElem_cons (by simpa [nums] using hjl)]
    simp [nums, hp]
  have h := OwnRow.lit (e := e) (size := 1) W 0 hr (Nat.zero_le _) hm
  exact ⟨fun j hj => by simpa [Value.ownBlock] using hj.symm, h⟩
end
section
variable {P : Program} {ops : Array Oper} {rest : List Oper} {o : Oper} {a : Act} {Q : Exit → Act → World → Prop} {K : Act → World → Prop}
theorem ext_of_bound {α : Type} {d : Kd α} {e : Nat} {F : Nat → Prop} {W w1 : World} {v : Value} {xs : List α} (h : d.R e w1 0 (fun k => F k ∨ W.heap.size ≤ k) v xs) : d.R e w1 0 (ext F W w1) v xs :=
  Kd.R_mono (Kd.R_bound h) (fun k hk => by
    rcases hk.1 with h1 | h1
    · exact .inl h1
    · exact .inr ⟨h1, hk.2.2.1⟩)
/-- append(v, ys...) of whole numbers, with a footprint. -/
theorem ev_rowsF (k : IntKind) (bytes : Nat) {W : World} {F : Nat → Prop} (t e : TypeId) (s x : Operand) (hgd : o.guard = none)
    (ho : o.op = .call { callee := .builtin .append, args := #[s, x], argTypes := #[t, t] })
    (ht : P.underlying t = some (.slice e)) (hinfo : (P.info? e).map (fun i => (i.zero, i.size, i.bytes)) = some (some (.int k 0), 1, bytes)) (hb0 : 0 < bytes)
    {v : Value} {xs ys : List Int} {A : Option Addr} {m c : Nat} (hs : a.eval s = v) (hx : a.eval x = .slice A m c)
    (HO : (Kd.int k).R e W 0 F v xs) (HR : (Kd.int k).C W A m ys) (hl : (xs.length + m) * bytes ≤ 140737488355328)
    (h : ∀ A1 n1 c1 w1, Hid (n1 = (xs ++ ys).length) → (Kd.int k).R e w1 0 (ext F W w1) (.slice A1 n1 c1) (xs ++ ys) → Kp F W w1 → W.grownBy w1 v.ownBlock → wpList P ops Q rest (a.put o.dst (.slice A1 n1 c1)) w1) :
    wpList P ops Q (o :: rest) a W :=
  ev_rows k bytes 0 t e s x hgd ho ht hinfo hb0 hs hx (Kd.R_mono HO (fun _ hk => .inl hk)) HR (ok := fun k => F k ∨ W.heap.size ≤ k) (fun _ hk => .inr hk) (Nat.zero_le _) hl
    (fun v1 w1 h1 _ h3 _ => by
      obtain ⟨A1, c1, rfl⟩ := Kd.R_slice h1
      exact h A1 _ c1 w1 rfl (ext_of_bound h1) (Kp.of_grown h3 HO.1) h3)
/-- append(v, x) of whole numbers in a region that draws, with a footprint; the world is W behind the variadic's box. -/
theorem st_appF (k : IntKind) (bytes : Nat) {W : World} {F : Nat → Prop} (t e : TypeId) (s x : Operand) (hw : Region.wanted o (yielded ops a.tmps) = true)
    (ho : o.op = .call { callee := .builtin .append, args := #[s, x], argTypes := #[t, t] })
    (ht : P.underlying t = some (.slice e)) (hinfo : (P.info? e).map (fun i => (i.zero, i.size, i.bytes)) = some (some (.int k 0), 1, bytes)) (hb0 : 0 < bytes)
    {v : Value} {xs : List Int} {y : Int} (hs : a.eval s = v) (hx : a.eval x = .slice (some ⟨W.heap.size, 0, none⟩) 1 1)
    (HO : (Kd.int k).R e W 0 F v xs) (hl : (xs.length + 1) * bytes ≤ 140737488355328)
    (h : ∀ A1 n1 c1 w1, Hid (n1 = (xs ++ [y]).length) → (Kd.int k).R e w1 0 (ext F W w1) (.slice A1 n1 c1) (xs ++ [y]) → Kp F W w1 → W.grownBy w1 v.ownBlock → K (a.put o.dst (.slice A1 n1 c1)) w1) :
    if Region.wanted o (yielded ops a.tmps) = true then Oper.wp P o a (W.alloc (.cells #[.int k y] e)) K Q else K (a.put o.dst undef) (W.alloc (.cells #[.int k y] e)) := by
  obtain ⟨hok, hrow⟩ := HO
  refine OwnRow.append_step (R := (Kd.int k).M W 0 F) (w0 := W) 0 hw s x t e (.int k 0) 1 bytes ho ht hinfo rfl (by decide) hb0 v xs y [.int k y] hs hx rfl rfl (by intro u hu; rw [List.mem_singleton.1 hu]; rfl)
    (hrow.imp_ (fun _ _ hp => hp)) (Below.refl _ _) (Nat.zero_le _) hl ?_
  intro v1 w1 h1 _ hg hat
  obtain ⟨A1, c1, rfl, _⟩ := h1.slice_
  refine h A1 _ c1 w1 rfl (ext_of_bound ⟨fun j hj => ?_, h1.imp_ (fun _ _ hp => hp)⟩) (Kp.of_grown hg hok) hg
  rcases hat with hat | ⟨b, hb, hle⟩
  · exact .inl (hok j (hat ▸ hj))
  · rw [hb] at hj
    injection hj with hj
    exact .inr (by omega)
theorem rows_run {α : Type} (d : Kd α) {Rr : α → List Value → Prop} {W : World} (base : Nat) (t ty e : TypeId) (z : Value) (bytes : Nat)
    (ht : P.underlying t = some (.slice e)) (hinfo : (P.info? e).map (fun i => (i.zero, i.size, i.bytes)) = some (some z, d.sz, bytes)) (hz : z.cells.size = d.sz) (hs0 : 0 < d.sz) (hb0 : 0 < bytes)
    (v : Value) (xs ys : List α) (A : Option Addr) (m c : Nat) (ok okp : Nat → Prop)
    (HO : d.R e W base ok v xs) (HR : ReadsRow Rr d.sz W A m ys) (hKM : ∀ x cs, Rr x cs → d.M W base okp x cs) (hokp : ∀ k, okp k → ok k ∧ some k ≠ v.ownBlock) (hfresh : ∀ k, W.heap.size ≤ k → ok k)
    (hbase : base ≤ W.heap.size) (hl : (xs.length + m) * bytes ≤ 140737488355328) :
    ∃ v1 w1, (Builtin.append_ #[t, t] ty #[v, .slice A m c]).run P W = .ok v1 w1 ∧ d.R e w1 base ok v1 (xs ++ ys) ∧ W.grownBy w1 v.ownBlock ∧ (v1.ownBlock = v.ownBlock ∨ ∃ b, v1.ownBlock = some b ∧ W.heap.size ≤ b) := by
  obtain ⟨i0, hi, hzz⟩ := Option.map_eq_some_iff.1 hinfo
  simp only [Prod.mk.injEq] at hzz
  obtain ⟨hz0, hz1, hz2⟩ := hzz
  have hm : ys.length = m := HR.1
  have hlen : xs.length + m ≤ 140737488355328 := Nat.le_trans (Nat.le_mul_of_pos_right _ hb0) hl
  obtain ⟨hok, inner, hown, hr⟩ := HO
  have hrun : ∃ v1 w1, (Builtin.append_ #[t, t] ty #[v, .slice A m c]).run P W = .ok v1 w1 ∧ d.R e w1 base ok v1 (xs ++ ys) ∧ W.grownBy w1 v.ownBlock ∧ (v1.ownBlock = v.ownBlock ∨ ∃ b, v1.ownBlock = some b ∧ W.heap.size ≤ b) := by
    rcases A with _ | ad
    · have h0 : m = 0 := by
        rcases Nat.eq_zero_or_pos m with h0 | h0
        · exact h0
        · obtain ⟨ad, h, _⟩ := HR.2.2 h0
          cases h
      subst h0
      obtain rfl : ys = [] := List.eq_nil_of_length_eq_zero hm
      refine ⟨v, W, ?_, by rw [List.append_nil]; exact ⟨hok, inner, hown, hr⟩, World.grownBy.refl W _, .inl rfl⟩
      rcases hown.2 with ⟨rfl, hn⟩ | ⟨g, cap, cur, rfl, _, _, hnc, _⟩
      · simp [Builtin.append_, run_underlying ht, sizeOf, typeInfo, hi, Builtin.lenOf, Builtin.firstCells]
      · simp [Builtin.append_, run_underlying ht, sizeOf, typeInfo, hi, Builtin.lenOf, Builtin.firstCells, hnc, storeCells]
    · obtain ⟨news, hnr, hnc⟩ := ReadsRow.inner_ HR
      have hnM : Reps (d.M W base okp) d.sz ys news := hnr.imp_ (fun p c hp => hKM p c hp)
      have hone : ∀ u ∈ news, u.oneCell' = true := by
        intro u hu
        obtain ⟨q, hq, rfl⟩ := List.mem_iff_getElem.1 hu
        have hql : q / d.sz < ys.length := by
          rw [Nat.div_lt_iff_lt_mul hs0]
          rw [← hnM.1]
          exact hq
        have hc := hnM.2 (q / d.sz) _ (List.getElem?_eq_getElem hql)
        refine d.K_one (d.K_of_M hc) _ ?_
        rw [List.mem_iff_getElem?]
        refine ⟨q % d.sz, ?_⟩
        rw [List.getElem?_take, if_pos (Nat.mod_lt _ hs0), List.getElem?_drop, Nat.mul_comm, Nat.div_add_mod, List.getElem?_eq_getElem hq]
      obtain ⟨v1, w1, hrun, h2, hg, _, hat⟩ := run_append_own_at (P := P) W base t ty e i0 z d.sz bytes ht hi hz0 hz1 hz2 hz hs0 v xs.length inner hown ad m c news (by rw [hnM.1, hm]) hnc hone (by simp only [maxLen]; omega) hl hbase
      have hat' : v1.ownBlock = v.ownBlock ∨ ∃ b, v1.ownBlock = some b ∧ W.heap.size ≤ b := by
        rcases hat with hat | hat
        · exact .inl hat
        · exact .inr ⟨_, hat, Nat.le_refl _⟩
      have hne : ∀ k, some k ≠ v.ownBlock → k < W.heap.size → some k ≠ v1.ownBlock := by
        intro k hk hlt
        rcases hat' with hat | ⟨b, hb, hle⟩
        · rw [hat]; exact hk
        · rw [hb]
          intro he
          injection he with he
          omega
      have step : ∀ {q : α} {c : List Value} {o : Nat → Prop}, d.M W base o q c → (∀ k, o k → ok k ∧ some k ≠ v.ownBlock) → d.M w1 base (fun k => ok k ∧ some k ≠ v1.ownBlock) q c := by
        intro q c o hq ho
        have h1 := d.M_move (w1 := w1) (fun k hk => hg.block k hk.2.2.1 (ho k hk.1).2) (d.M_bound hq)
        exact d.M_mono (fun k hk => ⟨(ho k hk.1).1, hne k (ho k hk.1).2 hk.2.2.1⟩) h1
      refine ⟨v1, w1, hrun, ⟨fun k hk => ?_, inner ++ news, by rw [List.length_append, hm]; exact h2, Kd.reps_append (hr.imp_ (fun _ _ hq => step hq (fun _ hk => hk))) (hnM.imp_ (fun _ _ hq => step hq hokp))⟩, hg, hat'⟩
      rcases hat' with hat | ⟨b, hb, hle⟩
      · exact hok k (hat ▸ hk)
      · rw [hb] at hk
        injection hk with hk
        exact hfresh k (by omega)
  exact hrun
/-- append(v, ys...) of whole numbers, as one operation. -/
theorem op_rowsF (k : IntKind) (bytes : Nat) {W : World} {F : Nat → Prop} (t e : TypeId) (s x : Operand)
    (ho : o.op = .call { callee := .builtin .append, args := #[s, x], argTypes := #[t, t] })
    (ht : P.underlying t = some (.slice e)) (hinfo : (P.info? e).map (fun i => (i.zero, i.size, i.bytes)) = some (some (.int k 0), 1, bytes)) (hb0 : 0 < bytes)
    {v : Value} {xs ys : List Int} {A : Option Addr} {m c : Nat} (hs : a.eval s = v) (hx : a.eval x = .slice A m c)
    (HO : (Kd.int k).R e W 0 F v xs) (HR : (Kd.int k).C W A m ys) (hl : (xs.length + m) * bytes ≤ 140737488355328)
    (h : ∀ A1 n1 c1 w1, Hid (n1 = (xs ++ ys).length) → (Kd.int k).R e w1 0 (ext F W w1) (.slice A1 n1 c1) (xs ++ ys) → Kp F W w1 → W.grownBy w1 v.ownBlock → K (a.put o.dst (.slice A1 n1 c1)) w1) :
    Oper.wp P o a W K Q := by
  obtain ⟨v1, w1, hr, h1, hg, hat⟩ := rows_run (P := P) (Kd.int k) (Rr := (Kd.int k).K W) 0 t o.type e (.int k 0) bytes ht hinfo rfl (Nat.one_pos) hb0 v xs ys A m c (fun j => F j ∨ W.heap.size ≤ j) (fun _ => False)
    (Kd.R_mono HO (fun _ hk => .inl hk)) HR (fun _ _ h => h) (fun _ h => h.elim) (fun _ hk => .inr hk) (Nat.zero_le _) hl
  unfold Oper.wp execOp
  simp only [ho, resolve, invoke, builtin, Sem.run_bind, Sem.run_pure, Result.andThen_ok, List.map_toArray, List.map_cons, List.map_nil, hs, hx, hr]
  obtain ⟨A1, c1, rfl⟩ := Kd.R_slice h1
  exact h A1 _ c1 w1 rfl (ext_of_bound h1) (Kp.of_grown hg HO.1) hg
/-- append(v, x) of whole numbers, as one operation; the world is W behind the variadic's box. -/
theorem op_appF (k : IntKind) (bytes : Nat) {W : World} {F : Nat → Prop} (t e : TypeId) (s x : Operand)
    (ho : o.op = .call { callee := .builtin .append, args := #[s, x], argTypes := #[t, t] })
    (ht : P.underlying t = some (.slice e)) (hinfo : (P.info? e).map (fun i => (i.zero, i.size, i.bytes)) = some (some (.int k 0), 1, bytes)) (hb0 : 0 < bytes)
    {v : Value} {xs : List Int} {y : Int} (hs : a.eval s = v) (hx : a.eval x = .slice (some ⟨W.heap.size, 0, none⟩) 1 1)
    (HO : (Kd.int k).R e W 0 F v xs) (hl : (xs.length + 1) * bytes ≤ 140737488355328)
    (h : ∀ A1 n1 c1 w1, Hid (n1 = (xs ++ [y]).length) → (Kd.int k).R e w1 0 (ext F W w1) (.slice A1 n1 c1) (xs ++ [y]) → Kp F W w1 → W.grownBy w1 v.ownBlock → K (a.put o.dst (.slice A1 n1 c1)) w1) :
    Oper.wp P o a (W.alloc (.cells #[.int k y] e)) K Q := by
  have hC := (Kd.R_reads' (R_nums k e W [y] (by simp))).2.2
  refine op_rowsF (W := W.alloc (.cells #[.int k y] e)) (F := F) (ys := [y]) k bytes t e s x ho ht hinfo hb0 hs hx (Kd.R_alloc HO _) hC hl ?_
  intro A1 n1 c1 w1 hn h1 h2 h3
  refine h A1 n1 c1 w1 hn (Kd.R_mono h1 (fun j hj => hj.imp id (fun hj => ⟨by have := hj.1; simp at this; omega, hj.2⟩))) (((Kp.refl F W).alloc _).trans h2 (fun _ _ hf => hf)) (World.grownBy.trans (World.grownBy_alloc W _ _) h3)
end

/-! ### Cuts of a row with a footprint, with letters for what they give -/
section
variable {P : Program} {α : Type} {d : Kd α} {F : Nat → Prop} {w : World} {A : Option Addr} {n c : Nat} {l : List α}
theorem cutQ_from (t e : TypeId) {i : TypeInfo} (ht : P.underlying t = some (.slice e)) (hi : P.info? e = some i) (hsz : i.size = d.sz) (j : Int) (hQ : d.Q e w 0 F (.slice A n c) l) (h0 : 0 ≤ j) (hm : j ≤ n) :
    ∃ A1 n1 c1, (∀ W : World, (Instr.slice t (.slice A n c) (some (.int .i64 j)) none none).run P W = .ok (.slice A1 n1 c1) W) ∧ Hid (n1 = n - j.toNat) ∧ d.Q e w 0 F (.slice A1 n1 c1) (l.drop j.toNat) := by
  have hn := (Kd.Q_reads' hQ).1
  exact ⟨_, _, _, cut_from t e .i64 ht hi d.sz hsz A n c j h0 hm, rfl, Kd.Q_drop hQ (by omega)⟩
theorem cutQ_to (t e : TypeId) {i : TypeInfo} (ht : P.underlying t = some (.slice e)) (hi : P.info? e = some i) (j : Int) (hQ : d.Q e w 0 F (.slice A n c) l) (h0 : 0 ≤ j) (hm : j ≤ n) :
    ∃ A1 n1 c1, (∀ W : World, (Instr.slice t (.slice A n c) none (some (.int .i64 j)) none).run P W = .ok (.slice A1 n1 c1) W) ∧ Hid (n1 = j.toNat) ∧ d.Q e w 0 F (.slice A1 n1 c1) (l.take j.toNat) := by
  have hn := (Kd.Q_reads' hQ).1
  have hc := (Kd.Q_reads' hQ).2.1
  exact ⟨_, _, _, cut_to t e .i64 ht hi A n c j h0 hm hc, rfl, Kd.Q_take hQ (by omega)⟩
theorem C_take (h : d.C w A n l) {m : Nat} (hm : m ≤ n) : d.C w A m (l.take m) :=
  ⟨by rw [List.length_take, h.1]; omega, by have := h.2.1; omega, fun h0 => by
    obtain ⟨ad, hA, hc⟩ := h.2.2 (by omega)
    refine ⟨ad, hA, fun j p hj => hc j p ?_⟩
    rw [List.getElem?_take] at hj
    split at hj
    · exact hj
    · cases hj⟩
/-- 'xs[:j:j]'. -/
theorem cutC_cap (t e : TypeId) {i : TypeInfo} (ht : P.underlying t = some (.slice e)) (hi : P.info? e = some i) (j : Int) (hC : d.C w A n l) (hc : n ≤ c) (h0 : 0 ≤ j) (hm : j ≤ n) :
    ∃ n1 c1, (∀ W : World, (Instr.slice t (.slice A n c) none (some (.int .i64 j)) (some (.int .i64 j))).run P W = .ok (.slice A n1 c1) W) ∧ Hid (n1 = j.toNat) ∧ d.C w A n1 (l.take j.toNat) := by
  refine ⟨j.toNat, j.toNat, fun W => ?_, rfl, C_take hC (by omega)⟩
  have hel : P.elem t = e := by simp [Program.elem, ht]
  have hu : P.underlying t = some (.slice (P.elem t)) := by rw [hel]; exact ht
  have ha : (A.map fun x => x.add 0) = A := by cases A <;> simp [Addr.add]
  rw [run_slice_hm W t A n c hu .i64 .i64 j j h0 (by omega) (by omega), hel]
  simp [sizeOf, typeInfo, hi, sliced, Result.andThen, ha]
end
section
variable {α : Type} {d : Kd α} {e base : Nat} {F G : Nat → Prop} {w w1 : World} {v : Value} {xs : List α}
theorem Q_kp (h : d.Q e w base F v xs) (hk : Kp G w w1) (hd : ∀ k, k < w.heap.size → F k → ¬ G k) : d.Q e w1 base F v xs := Kd.Q_step h (fun k hf hlt => hk.block k hlt (hd k hlt hf))
theorem C_kp {A : Option Addr} {n : Nat} (h : d.C w A n xs) (hk : Below w.heap.size w w1) : d.C w1 A n xs := Kd.C_below h hk
end
/-- Bytes are such. -/
def BR (l : List Int) : Prop := ∀ x, x ∈ l → 0 ≤ x ∧ x ≤ 255
theorem BR.drop {l : List Int} (h : BR l) (n : Nat) : BR (l.drop n) := fun x hx => h x (List.mem_of_mem_drop hx)
theorem BR.take {l : List Int} (h : BR l) (n : Nat) : BR (l.take n) := fun x hx => h x (List.mem_of_mem_take hx)
theorem BR.append {l m : List Int} (h : BR l) (h' : BR m) : BR (l ++ m) := fun x hx => (List.mem_append.1 hx).elim (h x) (h' x)
theorem BR.nil : BR [] := fun _ hx => nomatch hx
theorem BR.cons {x : Int} {l : List Int} (h0 : 0 ≤ x) (h1 : x ≤ 255) (h : BR l) : BR (x :: l) := fun y hy => by
  rcases List.mem_cons.1 hy with rfl | hy
  · exact ⟨h0, h1⟩
  · exact h y hy
theorem BR.get {l : List Int} (h : BR l) (k : Nat) (hk : k < l.length) : 0 ≤ rd l (k : Int) ∧ rd l (k : Int) ≤ 255 := by
  have : rd l (k : Int) = l[k] := by simp [rd, hk]
  rw [this]
  exact h _ (List.getElem_mem hk)

theorem ext_ge {F : Nat → Prop} {w w1 : World} {B : Nat} (h : ∀ k, F k → B ≤ k) (hB : B ≤ w.heap.size) : ∀ k, ext F w w1 k → B ≤ k := fun k hk => hk.elim (h k) (fun hk => Nat.le_trans hB hk.1)

end Go.Proofs.Ytcplmaeicmmkgaa
