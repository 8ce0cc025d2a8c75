/- A region that draws its order, walked once, in one order: a check by program says that this order stands for all others. -/
import Derived.Test.YtcplmaeicmmkgaaB0
namespace Go.Proofs.Ytcplmaeicmmkgaa
open Go Go.RowKit Go.Proofs.YtcplmaeicmmkgaaW.PrintWords Go.Proofs.YtcplmaeicmmkgaaW.PrintLast

/-- Kinds of steps: 0: yields the same in every world · 1: in every world that meets S · 2: whatever it does, S holds behind it · 3: behind it S is not asked any more. -/
def seqB (ops : Array Oper) (ds : List Nat) : List (Nat × Nat) → Array Bool → Bool
  | [], l => Region.ready .any ops l == []
  | (i, k) :: r, l =>
    (match k with
      | 0 => Region.free .any ops l i && (Region.ready .any ops l).contains i
      | 1 => Region.free .any ops l i && (Region.ready .any ops l).contains i && Region.closedB .any ops l && Region.lastB .any ops l ds i
      | 2 => (Region.ready .any ops l == [i]) && !ds.contains i
      | _ => (Region.ready .any ops l == [i]) && ds.contains i) && seqB ops ds r (l.setIfInBounds i true)

section
variable {P : Program} {ops : Array Oper} {Q : Exit → Act → World → Prop} {S : World → Prop} {ds : List Nat}

def wpSeq (P : Program) (ops : Array Oper) (Q : Exit → Act → World → Prop) (S : World → Prop) : List (Nat × Nat) → Act → World → Prop
  | [], a, w => Q .normal a w
  | (i, k) :: r, a, w =>
    match k with
    | 0 => ∃ oi v, ops[i]? = some oi ∧ (∀ c a w, Q (.panic c) (a.put oi.dst v) w → Q (.panic c) a w) ∧ Yields P ops oi v a ∧ wpSeq P ops Q S r (a.put oi.dst v) w
    | 1 => ∃ oi v, ops[i]? = some oi ∧ (∀ c a w, Q (.panic c) (a.put oi.dst v) w → Q (.panic c) a w) ∧ YieldsIf P ops S oi v a ∧ S w ∧ wpSeq P ops Q S r (a.put oi.dst v) w
    | 2 => wpOp P ops Q i (fun a' w' => S w' ∧ wpSeq P ops Q S r a' w') a w
    | _ => wpOp P ops Q i (fun a' w' => wpSeq P ops Q S r a' w') a w

theorem seq_sound (hs : Region.noSelect ops = true) : ∀ (lst : List (Nat × Nat)) (l : Array Bool) (a : Act) (w : World), seqB ops ds lst l = true → wpSeq P ops Q S lst a w → wpAnyLast P .any ops Q S ds lst.length l a w
  | [], l, a, w, hc, h => wpAnyLast_done (by simpa [seqB] using hc) h 0
  | (i, k) :: r, l, a, w, hc, h => by
    match k with
    | 0 =>
      simp only [seqB, Bool.and_eq_true] at hc
      obtain ⟨⟨h1, h2⟩, h3⟩ := hc
      obtain ⟨oi, v, hi, hQ, hy, hr⟩ := h
      exact wpAnyLast_any hi (Region.noSelect_spec hs) hQ r.length l a w (Region.free_spec hi h1) (by simpa using h2) hy (seq_sound hs r _ _ _ h3 hr)
    | 1 =>
      simp only [seqB, Bool.and_eq_true] at hc
      obtain ⟨⟨⟨⟨h1, h2⟩, h4⟩, h5⟩, h3⟩ := hc
      obtain ⟨oi, v, hi, hQ, hy, hS, hr⟩ := h
      exact wpAnyLast_take hi hs h1 h2 h4 h5 hQ hy hS (seq_sound hs r _ _ _ h3 hr)
    | 2 =>
      simp only [seqB, Bool.and_eq_true, beq_iff_eq, Bool.not_eq_true', List.contains_eq_mem, decide_eq_false_iff_not] at hc
      obtain ⟨⟨h1, _⟩, h3⟩ := hc
      refine wpAnyLast_all h1 (by simp) fun j hj => ?_
      rw [List.mem_singleton.1 hj]
      have h' : wpOp P ops Q i (fun a' w' => S w' ∧ wpSeq P ops Q S r a' w') a w := h
      exact wpOp_mono (fun a' w' h' => ⟨fun _ _ => h'.1, seq_sound hs r _ _ _ h3 h'.2⟩) h'
    | k + 3 =>
      simp only [seqB, Bool.and_eq_true, beq_iff_eq, List.contains_eq_mem, decide_eq_true_eq] at hc
      obtain ⟨⟨h1, hd⟩, h3⟩ := hc
      refine wpAnyLast_all h1 (by simp) fun j hj => ?_
      rw [List.mem_singleton.1 hj]
      have h' : wpOp P ops Q i (fun a' w' => wpSeq P ops Q S r a' w') a w := h
      exact wpOp_mono (fun a' w' h' => ⟨fun hn => absurd hd hn, seq_sound hs r _ _ _ h3 h'⟩) h'

theorem seq_start {id : Nat} {a : Act} {w : World} (S : World → Prop) (ds : List Nat) (lst : List (Nat × Nat)) (hm : P.follows .mixedOrders = true)
    (hc : (Region.noSelect ops && (ops.size == lst.length) && seqB ops ds lst (Array.replicate ops.size false)) = true) (hS : S w.drew)
    (h : S w.drew → wpSeq P ops Q S lst a w.drew) : (Code.region id ops true).wp P Q a w := by
  simp only [Bool.and_eq_true, beq_iff_eq] at hc
  obtain ⟨⟨h1, h2⟩, h3⟩ := hc
  refine wp_region_last hm (S := S) (ds := ds) ?_
  have := seq_sound h1 lst _ a w.drew h3 (h hS)
  rw [← h2] at this
  exact this
theorem seq_v (N : Option Tmp) {i : Nat} {r : List (Nat × Nat)} {oi : Oper} {v : Value} {a a' : Act} {w : World} (hi : ops[i]? = some oi) (hN : oi.dst = N) (hQ : ∀ c a w, Q (.panic c) (a.put oi.dst v) w → Q (.panic c) a w)
    (hy : Yields P ops oi v a) (ha : a.put N v = a') (h : wpSeq P ops Q S r a' w) : wpSeq P ops Q S ((i, 0) :: r) a w := ⟨oi, v, hi, hQ, hy, by rw [hN, ha]; exact h⟩
theorem seq_l (N : Option Tmp) {i : Nat} {r : List (Nat × Nat)} {oi : Oper} {v : Value} {a a' : Act} {w : World} (hi : ops[i]? = some oi) (hN : oi.dst = N) (hQ : ∀ c a w, Q (.panic c) (a.put oi.dst v) w → Q (.panic c) a w)
    (hS : S w) (hy : YieldsIf P ops S oi v a) (ha : a.put N v = a') (h : wpSeq P ops Q S r a' w) : wpSeq P ops Q S ((i, 1) :: r) a w := ⟨oi, v, hi, hQ, hy, hS, by rw [hN, ha]; exact h⟩
theorem seq_e {i : Nat} {r : List (Nat × Nat)} {oi : Oper} {a : Act} {w : World} (hi : ops[i]? = some oi) (hw : Region.wanted oi (yielded ops a.tmps) = true)
    (h : ∀ K : Act → World → Prop, Shut (∀ a' w', S w' → (S w' → wpSeq P ops Q S r a' w') → K a' w') → oi.wp P a w K Q) : wpSeq P ops Q S ((i, 2) :: r) a w := by
  unfold wpSeq wpOp
  simp only [hi, hw, if_true]
  exact .inl (h _ (fun a' w' hS hr => ⟨hS, hr hS⟩))
theorem seq_d {i k : Nat} {r : List (Nat × Nat)} {oi : Oper} {a : Act} {w : World} (hi : ops[i]? = some oi) (hw : Region.wanted oi (yielded ops a.tmps) = true)
    (h : ∀ K : Act → World → Prop, Shut (∀ a' w', wpSeq P ops Q S r a' w' → K a' w') → oi.wp P a w K Q) : wpSeq P ops Q S ((i, k + 3) :: r) a w := by
  unfold wpSeq wpOp
  simp only [hi, hw, if_true]
  exact .inl (h _ (fun a' w' hr => hr))
theorem seq_norm {r : List (Nat × Nat)} {a a' : Act} {w : World} (ha : a = a') (h : wpSeq P ops Q S r a' w) : wpSeq P ops Q S r a w := ha ▸ h
theorem seq_nil {a : Act} {w : World} (h : Q .normal a w) : wpSeq P ops Q S [] a w := h
end
end Go.Proofs.Ytcplmaeicmmkgaa
