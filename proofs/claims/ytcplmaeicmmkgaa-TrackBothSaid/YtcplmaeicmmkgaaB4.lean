/- Two sides, apart, and the blocks of others: what each one does leaves the rest alone. -/
import Derived.Test.YtcplmaeicmmkgaaB3
namespace Go.Proofs.Ytcplmaeicmmkgaa
open Go Go.RowKit Go.Proofs.YtcplmaeicmmkgaaW.PrintWords Go.Proofs.YtcplmaeicmmkgaaW.PrintLast
set_option linter.unusedVariables false

/-- All blocks of O stand. -/
def KpO (O : Nat → Prop) (w w' : World) : Prop := Kp (fun k => ¬ O k) w w'
theorem KpO.refl (O : Nat → Prop) (w : World) : KpO O w w := Kp.refl _ _
theorem KpO.trans {O : Nat → Prop} {w w1 w2 : World} (h : KpO O w w1) (h' : KpO O w1 w2) : KpO O w w2 := Kp.trans h h' (fun _ _ h => h)
theorem KpO.weaken {O O' : Nat → Prop} {w w1 : World} (h : KpO O w w1) (hO : ∀ k, k < w.heap.size → O' k → O k) : KpO O' w w1 := Kp.mono h (fun k hk hn ho => hn (hO k hk ho))
theorem KpO.of_below {O : Nat → Prop} {w w1 : World} (h : Below w.heap.size w w1) : KpO O w w1 := Kp.of_below h _
theorem KpO.of_kp {O F : Nat → Prop} {w w1 : World} (h : Kp F w w1) (hd : ∀ k, F k → ¬ O k) : KpO O w w1 := h.mono (fun k _ hf => hd k hf)
theorem KpO.below {O : Nat → Prop} {w w1 : World} {B : Nat} (h : KpO O w w1) (hB : B ≤ w.heap.size) (hO : ∀ k, k < B → O k) : Below B w w1 := Kp.to_below h hB (fun k hk => by
  rcases Nat.lt_or_ge k B with hl | hl
  · exact absurd (hO k hl) hk
  · exact hl)
theorem KpO.blk {O : Nat → Prop} {w w1 : World} {b : Nat} {e : TypeId} {cs : List Value} (h : KpO O w w1) (hb : Blk w b e cs) (hO : O b) : Blk w1 b e cs := hb.kp h (fun hn => hn hO)
theorem KpO.size {O : Nat → Prop} {w w1 : World} (h : KpO O w w1) : w.heap.size ≤ w1.heap.size := Kp.size h
/-- What stands, stands where others move. -/
def Stands (P : World → (Nat → Prop) → Prop) : Prop := ∀ (w w1 : World) (F G : Nat → Prop), P w F → Kp G w w1 → (∀ k, F k → ¬ G k) → P w1 F
/-- One thing, in blocks that are not O's. -/
def One (O : Nat → Prop) (w : World) (P : World → (Nat → Prop) → Prop) : Prop := ∃ F, P w F ∧ Bd F w ∧ (∀ k, F k → ¬ O k) ∧ Bd O w
/-- Two things, each in its own blocks, that are not O's. -/
def Two (O : Nat → Prop) (w : World) (P Q : World → (Nat → Prop) → Prop) : Prop :=
  ∃ F G, P w F ∧ Q w G ∧ (∀ k, F k → ¬ G k) ∧ Bd F w ∧ Bd G w ∧ (∀ k, F k → ¬ O k) ∧ (∀ k, G k → ¬ O k) ∧ Bd O w
theorem ext_apart {O F : Nat → Prop} {w w1 : World} (h : ∀ k, F k → ¬ O k) (hO : Bd O w) : ∀ k, ext F w w1 k → ¬ O k := fun k hk ho => hk.elim (fun hf => h k hf ho) (fun hn => by have := hO k ho; omega)
section
variable {O O' : Nat → Prop} {w w1 : World} {P P' Q Q' : World → (Nat → Prop) → Prop}
theorem Two.symm (h : Two O w P Q) : Two O w Q P := by
  obtain ⟨F, G, h1, h2, h3, h4, h5, h6, h7, h8⟩ := h
  exact ⟨G, F, h2, h1, fun k hg hf => h3 k hf hg, h5, h4, h7, h6, h8⟩
theorem Two.weaken (h : Two O w P Q) (hO : ∀ k, O' k → O k) : Two O' w P Q := by
  obtain ⟨F, G, h1, h2, h3, h4, h5, h6, h7, h8⟩ := h
  exact ⟨F, G, h1, h2, h3, h4, h5, fun k hf ho => h6 k hf (hO k ho), fun k hf ho => h7 k hf (hO k ho), fun k hk => h8 k (hO k hk)⟩
theorem Two.below (hP : Stands P) (hQ : Stands Q) (h : Two O w P Q) (hb : Below w.heap.size w w1) : Two O w1 P Q := by
  obtain ⟨F, G, h1, h2, h3, h4, h5, h6, h7, h8⟩ := h
  exact ⟨F, G, hP w w1 F _ h1 (Kp.of_below hb (fun _ => False)) (fun _ _ h => h), hQ w w1 G _ h2 (Kp.of_below hb (fun _ => False)) (fun _ _ h => h), h3, h4.up hb.size, h5.up hb.size, h6, h7, h8.up hb.size⟩
/-- What has come since is O's, too. -/
theorem Two.take (hP : Stands P) (hQ : Stands Q) (h : Two O w P Q) (hb : Below w.heap.size w w1) : Two (ext O w w1) w1 P Q := by
  obtain ⟨F, G, h1, h2, h3, h4, h5, h6, h7, h8⟩ := h
  refine ⟨F, G, hP w w1 F _ h1 (Kp.of_below hb (fun _ => False)) (fun _ _ h => h), hQ w w1 G _ h2 (Kp.of_below hb (fun _ => False)) (fun _ _ h => h), h3, h4.up hb.size, h5.up hb.size, fun k hk ho => ?_, fun k hk ho => ?_, h8.ext hb.size⟩
  · rcases ho with ho | ho
    · exact h6 k hk ho
    · have := h4 k hk; omega
  · rcases ho with ho | ho
    · exact h7 k hk ho
    · have := h5 k hk; omega
/-- The left side moves. -/
theorem two_left {F G : Nat → Prop} (hQ : Stands Q) (h2 : Q w G) (h3 : ∀ k, F k → ¬ G k) (h4 : Bd F w) (h5 : Bd G w) (h6 : ∀ k, F k → ¬ O k) (h7 : ∀ k, G k → ¬ O k) (h8 : Bd O w)
    (hP : P' w1 (ext F w w1)) (hK : Kp F w w1) : Two O w1 P' Q ∧ KpO O w w1 := by
  refine ⟨⟨_, G, hP, hQ w w1 G F h2 hK (fun k hg hf => h3 k hf hg), fun k hk hg => ?_, h4.ext hK.size, h5.up hK.size, ext_apart h6 h8, h7, h8.up hK.size⟩, KpO.of_kp hK h6⟩
  rcases hk with hk | hk
  · exact h3 k hk hg
  · have := h5 k hg; omega
/-- A call of the left side. -/
theorem two_callL {Pg : Program} {f : FuncId} {args : Array Value} {E : Ending → World → Prop} (hQ : Stands Q) (h : Two O w P Q)
    (hc : ∀ F, P w F → (∀ k, F k → ¬ O k) → Calls Pg f args w (fun e w' => E e w' ∧ P' w' (ext F w w') ∧ Kp F w w')) : Calls Pg f args w (fun e w' => E e w' ∧ Two O w' P' Q ∧ KpO O w w') := by
  obtain ⟨F, G, h1, h2, h3, h4, h5, h6, h7, h8⟩ := h
  refine (hc F h1 h6).mono ?_
  rintro e w1 ⟨he, hJ, hK⟩
  exact ⟨he, two_left hQ h2 h3 h4 h5 h6 h7 h8 hJ hK⟩
/-- A call of the right side. -/
theorem two_callR {Pg : Program} {f : FuncId} {args : Array Value} {E : Ending → World → Prop} (hP : Stands P) (h : Two O w P Q)
    (hc : ∀ F, Q w F → (∀ k, F k → ¬ O k) → Calls Pg f args w (fun e w' => E e w' ∧ Q' w' (ext F w w') ∧ Kp F w w')) : Calls Pg f args w (fun e w' => E e w' ∧ Two O w' P Q' ∧ KpO O w w') :=
  (two_callL hP h.symm hc).mono (fun e w' ⟨he, hT, hK⟩ => ⟨he, hT.symm, hK⟩)
theorem Two.left (h : Two O w P Q) : ∃ F, P w F := by
  obtain ⟨F, G, h1, h2⟩ := h
  exact ⟨F, h1⟩
theorem Two.right (h : Two O w P Q) : ∃ G, Q w G := by
  obtain ⟨F, G, h1, h2, h3⟩ := h
  exact ⟨G, h2⟩
theorem Two.one (h : Two O w P Q) : One O w P := by
  obtain ⟨F, G, h1, h2, h3, h4, h5, h6, h7, h8⟩ := h
  exact ⟨F, h1, h4, h6, h8⟩
/-- A second thing, all new. -/
theorem One.two (hP : Stands P) (h : One O w P) (hb : Below w.heap.size w w1) (hQ : Q w1 (ext (fun _ => False) w w1)) : Two O w1 P Q := by
  obtain ⟨F, h1, h2, h3, h4⟩ := h
  refine ⟨F, _, hP w w1 F _ h1 (Kp.of_below hb (fun _ => False)) (fun _ _ h => h), hQ, fun k hk hg => ?_, h2.up hb.size, (Bd.no w).ext hb.size, h3, fun k hk ho => ?_, h4.up hb.size⟩
  · rcases hg with hg | hg
    · exact hg
    · have := h2 k hk; omega
  · rcases hk with hg | hg
    · exact hg
    · have := h4 k ho; omega
theorem One.below (hP : Stands P) (h : One O w P) (hb : Below w.heap.size w w1) : One O w1 P := by
  obtain ⟨F, h1, h2, h3, h4⟩ := h
  exact ⟨F, hP w w1 F _ h1 (Kp.of_below hb (fun _ => False)) (fun _ _ h => h), h2.up hb.size, h3, h4.up hb.size⟩
theorem One.take (hP : Stands P) (h : One O w P) (hb : Below w.heap.size w w1) : One (ext O w w1) w1 P := by
  obtain ⟨F, h1, h2, h3, h4⟩ := h
  refine ⟨F, hP w w1 F _ h1 (Kp.of_below hb (fun _ => False)) (fun _ _ h => h), h2.up hb.size, fun k hk ho => ?_, h4.ext hb.size⟩
  rcases ho with ho | ho
  · exact h3 k hk ho
  · have := h2 k hk; omega
theorem One.weaken (h : One O w P) (hO : ∀ k, O' k → O k) : One O' w P := by
  obtain ⟨F, h1, h2, h3, h4⟩ := h
  exact ⟨F, h1, h2, fun k hf ho => h3 k hf (hO k ho), fun k hk => h4 k (hO k hk)⟩
theorem one_new (hb : Below w.heap.size w w1) (hP : P w1 (ext (fun _ => False) w w1)) : One (fun k => k < w.heap.size) w1 P :=
  ⟨_, hP, (Bd.no w).ext hb.size, fun k hk ho => hk.elim id (fun h => by omega), fun k hk => Nat.lt_of_lt_of_le hk hb.size⟩
/-- A call of one thing. -/
theorem one_call {Pg : Program} {f : FuncId} {args : Array Value} {E : Ending → World → Prop} (h : One O w P)
    (hc : ∀ F, P w F → (∀ k, F k → ¬ O k) → Calls Pg f args w (fun e w' => E e w' ∧ P' w' (ext F w w') ∧ Kp F w w')) : Calls Pg f args w (fun e w' => E e w' ∧ One O w' P' ∧ KpO O w w') := by
  obtain ⟨F, h1, h2, h3, h4⟩ := h
  refine (hc F h1 h3).mono ?_
  rintro e w1 ⟨he, hJ, hK⟩
  exact ⟨he, ⟨_, hJ, h2.ext hK.size, ext_apart h3 h4, h4.up hK.size⟩, KpO.of_kp hK h3⟩
end
end Go.Proofs.Ytcplmaeicmmkgaa
