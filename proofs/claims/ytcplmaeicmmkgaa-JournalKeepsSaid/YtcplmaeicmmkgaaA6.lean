/- buf's Writer: Bytes; a new writer. -/
import Derived.Test.YtcplmaeicmmkgaaA5
namespace Go.Proofs.Ytcplmaeicmmkgaa
open Go Go.RowKit Go.Proofs.YtcplmaeicmmkgaaW.PrintWords Go.Proofs.YtcplmaeicmmkgaaW.PrintLast
set_option linter.unusedVariables false
set_option linter.unusedSimpArgs false

theorem WrAt.below {w w1 : World} {F : Nat → Prop} {b : Nat} {l : List Int} {bad : Bool} (h : WrAt w F b l bad) (hb : Below w.heap.size w w1) : WrAt w1 F b l bad := by
  obtain ⟨h1, h2, v, h4, h5⟩ := h
  exact ⟨h1, h2.up hb.size, v, h4.below hb, Kd.R_below h5 hb⟩
theorem WrAt.mono {w : World} {F G : Nat → Prop} {b : Nat} {l : List Int} {bad : Bool} (h : WrAt w F b l bad) (hG : ∀ k, F k → G k) (hB : Bd G w) : WrAt w G b l bad := by
  obtain ⟨h1, h2, v, h4, h5⟩ := h
  exact ⟨hG b h1, hB, v, h4, Kd.R_mono h5 hG⟩
theorem ext_alloc {F : Nat → Prop} {w w1 : World} {o : Obj} (k : Nat) (h : ext F (w.alloc o) w1 k) : ext F w w1 k := h.imp id (fun h => ⟨by have := h.1; simp at this; omega, h.2⟩)
theorem Bd.of_ext {F : Nat → Prop} {w w1 : World} (h : Bd F w) (hs : w.heap.size ≤ w1.heap.size) : Bd (Go.Proofs.Ytcplmaeicmmkgaa.ext F w w1) w1 := h.ext hs
/-- '&buf.Writer{}'. -/
theorem WrAt.fresh (w : World) : WrAt (w.alloc (.cells #[.slice none 0 0, .bool false] 170)) (ext (fun _ => False) w (w.alloc (.cells #[.slice none 0 0, .bool false] 170))) w.heap.size [] false :=
  ⟨.inr ⟨Nat.le_refl _, by simp⟩, (Bd.no w).ext (by simp), _, Blk.new w 170 [.slice none 0 0, .bool false], Kd.R_nil _ _ _ _ _⟩

set_option maxHeartbeats 1000000 in
theorem wbytes_any (w : World) (F : Nat → Prop) (b : Nat) (l : List Int) (bad : Bool) (A : Option Addr) (m c : Nat) (bs : List Int) (hW : WrAt w F b l bad) (hC : ∀ w', Kp F w w' → (Kd.int .u8).C w' A m bs) (hm : m ≤ 1000000) (hl : l.length ≤ 1000000) :
    Calls Try.prog 118 #[.pointer (some ⟨b, 0, none⟩), .slice A m c] w (PutPost w F b (l ++ putL 2 [(m : Int)] ++ bs) (bad || badB 2 m)) := by
  have HW := Lib.hid hW
  have HC := Lib.hid hC
  clear hW hC
  go_enter Try.func118, Try.ntmps118
  go_wp2_with fail
  have hb0 : Below w.heap.size w (w.alloc (.cells #[.int .i64 m] 3)) := below_alloc (Below.refl _ _) _
  have hW1 := HW.out.below hb0
  have hR3 : (Kd.int .i64).R 3 (w.alloc (.cells #[.int .i64 m] 3)) 0 (fun k => ¬ F k) (.slice (some ⟨w.heap.size, 0, none⟩) 1 1) [(m : Int)] :=
    Kd.R_mono (R_nums .i64 3 w [(m : Int)] (by simp)) (fun k hk hf => by have := HW.out.2.1 k hf; omega)
  refine (put_any _ F b l bad 2 _ 1 1 [(m : Int)] hW1 hR3 (by decide) (by decide) (by decide) hl).mono ?_
  rintro e w1 ⟨rfl, hW2, hK2⟩
  have hs1 : w.heap.size ≤ w1.heap.size := by have := hK2.size; simp at this; omega
  have hK1 : Kp F w w1 := (Kp.of_below hb0 F).trans hK2 (fun _ _ h => h)
  have hW3 : WrAt w1 (ext F w w1) b (l ++ putL 2 [(m : Int)]) (bad || badB 2 m) := by
    have := hW2.mono (G := ext F w w1) (fun k hk => ext_alloc k hk) (HW.out.2.1.ext hs1)
    simpa using this
  obtain ⟨hb, hF, v, hB, hR⟩ := hW3
  have HC1 := Lib.hid (HC.out w1 hK1)
  have c0 := hB.cell 0 _ rfl
  have HB := Lib.hid hB
  have HR := Lib.hid hR
  have HK1 := Lib.hid hK1
  have HF := Lib.hid hF
  clear hB hR hK1 hF hK2 hW2 hW1 hR3 hb0
  have hlen : ((l ++ putL 2 [(m : Int)]).length + m) * 1 ≤ 140737488355328 := by
    have := putL_length 2 [(m : Int)]
    rw [List.length_append]; simp at this ⊢; omega
  have Hlen := Lib.hid hlen
  clear hlen
  go_wp2_with (at_builtin; refine ev_rowsF .u8 1 32 5 _ _ rfl rfl Try.underlying32 A_info5 (by decide) rfl rfl HR.out HC1.out Hlen.out ?_; intro A3 n3 c3 w3 _ hR3 hK3 hG3; have hB3 := HB.out.grown hG3 (HB.out.ne_row HR.out (by decide)); have e3 := hB3.cell 0 _ rfl; have f3 := hB3.frozen 0)
  go_ret
  exact ⟨rfl, WrAt.grow HF.out HK1.out hb HB.out HR.out hR3 hK3 hG3⟩
end Go.Proofs.Ytcplmaeicmmkgaa
