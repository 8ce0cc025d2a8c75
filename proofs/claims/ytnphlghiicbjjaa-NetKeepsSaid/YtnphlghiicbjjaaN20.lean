/- rutterlaw18: alive. -/
import Derived.Test.YtnphlghiicbjjaaN19
import Derived.Lib.SlBytesConst
import Derived.Lib.SmallJoins
namespace Go.Proofs.Ytnphlghiicbjjaa
open Go Go.RowKit Go.Proofs.YtnphlghiicbjjaaW.PrintWords Go.Proofs.YtnphlghiicbjjaaW.PrintLast Go.Proofs.Ytnphlghiicbjjaa.PNetPlays
set_option linter.unusedVariables false
set_option linter.unusedSimpArgs false

/-- The bytes of a constant. -/
theorem C_lit (W : World) (xs : List Int) (fr : Nat × Nat) (C : Array Value) (hC : C = (xs.map (Value.int .u8)).toArray) (hm : xs.length ≤ 9223372036854775807) : (Kd.int .u8).C (W.alloc (.cells C 5 fr)) (some ⟨W.heap.size, 0, none⟩) xs.length xs := by
  refine ⟨rfl, hm, fun _ => ⟨_, rfl, fun j p hj => ?_⟩⟩
  refine ⟨[.int .u8 p], rfl, rfl, fun i u hu => ?_⟩
  match i, hu with
  | 0, hu =>
    obtain rfl : Value.int .u8 p = u := by simpa using hu
    have := World.cell?_alloc_mark W C 5 fr j
    rw [hC] at this ⊢
    simp [hj] at this
    have e : Addr.add ⟨W.heap.size, 0, none⟩ (j * (Kd.int .u8).sz + 0) = ⟨W.heap.size, j, none⟩ := by
      have h1 : (Kd.int .u8).sz = 1 := rfl
      rw [h1, Nat.mul_one, Nat.add_zero, Addr.add]
      split
      · rename_i h0; rw [h0]
      · simp
    rw [e]
    exact this
theorem add_block (a : Addr) (n : Nat) : (a.add n).block = a.block := by
  unfold Addr.add
  split <;> rfl
theorem Cint_stay {k : IntKind} {w w' : World} {ad : Addr} {n : Nat} {xs : List Int} (h : (Kd.int k).C w (some ad) n xs) (hb : w'.heap[ad.block]? = w.heap[ad.block]?) : (Kd.int k).C w' (some ad) n xs := by
  refine ⟨h.1, h.2.1, fun h0 => ?_⟩
  obtain ⟨a, ha, hc⟩ := h.2.2 h0
  injection ha with ha
  subst ha
  refine ⟨_, rfl, fun j p hj => ?_⟩
  obtain ⟨c, h1, h2, h3⟩ := hc j p hj
  exact ⟨c, h1, h2, fun i u hu => (World.cell?_of_block (by rw [add_block]; exact hb)).trans (h3 i u hu)⟩
/-- A block's cells, read as a row. -/
theorem C_of_blk {α : Type} {d : Kd α} {w : World} {g : Nat} {e : TypeId} {xs : List α} {cs : List Value} (hB : Blk w g e cs) (hm : xs.length ≤ 9223372036854775807)
    (h : ∀ j x, xs[j]? = some x → ∃ c, c.length = d.sz ∧ d.K w x c ∧ ∀ i u, c[i]? = some u → cs[j * d.sz + i]? = some u) : d.C w (some ⟨g, 0, none⟩) xs.length xs := by
  refine ⟨rfl, hm, fun _ => ⟨_, rfl, fun j p hj => ?_⟩⟩
  obtain ⟨c, h1, h2, h3⟩ := h j p hj
  refine ⟨c, h1, h2, fun i u hu => ?_⟩
  have := hB.cell _ u (h3 i u hu)
  have e : Addr.add ⟨g, 0, none⟩ (j * d.sz + i) = ⟨g, j * d.sz + i, none⟩ := by
    unfold Addr.add
    split
    · rename_i h0; rw [h0]
    · simp
  rw [e]
  exact this
def AB : List Int := [97, 98]
def i1 : S40 := ⟨1, 4, AB⟩
def i2 : S40 := ⟨3, 0, []⟩
def i3 : S40 := ⟨0, 15, []⟩
def i4 : S40 := ⟨0, 0, []⟩
theorem K_nil40 (w : World) (a b : Int) : k40.K w ⟨a, b, []⟩ [.int .i64 a, .int .i64 b, .slice none 0 0] := k40_mk w ⟨a, b, []⟩ (A2 := none) (c2 := 0) (Nat.le_refl _) (Kd.C_nil _ _)
theorem C_four {w : World} {g h : Nat} (hB : Blk w h 40 [.int .i64 1, .int .i64 4, .slice (some ⟨g, 0, none⟩) 2 2, .int .i64 3, .int .i64 0, .slice none 0 0, .int .i64 0, .int .i64 15, .slice none 0 0, .int .i64 0, .int .i64 0, .slice none 0 0])
    (hC : (Kd.int .u8).C w (some ⟨g, 0, none⟩) 2 AB) : k40.C w (some ⟨h, 0, none⟩) 4 [i1, i2, i3, i4] := by
  refine C_of_blk (xs := [i1, i2, i3, i4]) hB (by decide) (fun j x hj => ?_)
  have hs : k40.sz = 3 := rfl
  rw [hs]
  match j, hj with
  | 0, hj =>
    obtain rfl : i1 = x := by simpa using hj
    exact ⟨[.int .i64 1, .int .i64 4, .slice (some ⟨g, 0, none⟩) 2 2], rfl, k40_mk w i1 (A2 := some ⟨g, 0, none⟩) (c2 := 2) (by decide) hC, fun i u hu => by
      match i, hu with
      | 0, hu => exact hu
      | 1, hu => exact hu
      | 2, hu => exact hu⟩
  | 1, hj =>
    obtain rfl : i2 = x := by simpa using hj
    exact ⟨_, rfl, K_nil40 w 3 0, fun i u hu => by
      match i, hu with
      | 0, hu => exact hu
      | 1, hu => exact hu
      | 2, hu => exact hu⟩
  | 2, hj =>
    obtain rfl : i3 = x := by simpa using hj
    exact ⟨_, rfl, K_nil40 w 0 15, fun i u hu => by
      match i, hu with
      | 0, hu => exact hu
      | 1, hu => exact hu
      | 2, hu => exact hu⟩
  | 3, hj =>
    obtain rfl : i4 = x := by simpa using hj
    exact ⟨_, rfl, K_nil40 w 0 0, fun i u hu => by
      match i, hu with
      | 0, hu => exact hu
      | 1, hu => exact hu
      | 2, hu => exact hu⟩
theorem al_put : putAll 2 ([], 0, 0) [i1, i2, i3, i4] = ([i1, i3], 2, 2) := by
  have o1 : okI i1 = true := by decide
  have o2 : okI i2 = false := by decide
  have o3 : okI i3 = true := by decide
  have o4 : okI i4 = true := by decide
  simp [putAll, putStep, o1, o2, o3, o4]
theorem al_find : idxP (fits 0 15) [i1, i3] = 1 := by kernel_rfl

def QB (v : Value) (bs : List Int) (w : World) (F : Nat → Prop) : Prop := (Kd.int .u8).R 5 w 0 F v bs
theorem QB.stands {v : Value} {bs : List Int} : Stands (QB v bs) := fun _ _ _ _ h hk hd => R_kp h hk (fun k _ hf => hd k hf)
section
variable {O : Nat → Prop} {w : World} {b : Nat} {xs : List S40} {r : Int} {q : Nat}
theorem one_put (h : One O w (PN b xs r q)) (A : Option Addr) (m c : Nat) (l : List S40) (hC : ∀ w', KpO O w w' → k40.C w' A m l) (hl : xs.length + m ≤ 100000000) (hq : q + m ≤ 100000000) :
    Calls Try.prog 20 #[.pointer (some ⟨b, 0, none⟩), .slice A m c] w (fun e w' => e = .returned (.int .i64 ((putAll r (xs, 0, q) l).2.1 : Nat)) ∧ One O w' (PN b (putAll r (xs, 0, q) l).1 r (putAll r (xs, 0, q) l).2.2) ∧ KpO O w w') :=
  one_call (P := PN b xs r q) h (fun F hF hlo => put_any w F b xs r q hF A m c l (fun w' hK => hC w' (KpO.of_kp hK hlo)) hl hq)
theorem one_dbl (h : One O w (PN b xs r q)) (hS : SzI xs) (hl : xs.length ≤ 100000) (i : Int) (h0 : 0 ≤ i) (hi : i < (xs.length : Int)) (hr : ¬ r ≤ xs.length) :
    Calls Try.prog 18 #[.pointer (some ⟨b, 0, none⟩), .int .i64 i] w (fun e w' => e = .returned (.int .i64 0) ∧ One O w' (PN b (xs ++ [rd_T40 xs i]) r q) ∧ KpO O w w') :=
  one_call (P := PN b xs r q) h (fun F hF _ => dbl_ok w F b xs r q hF hS (by omega) i h0 hi hr)
theorem one_take (h : One O w (PN b xs r q)) (hS : SzI xs) (hl : xs.length ≤ 100000) (i : Int) (h0 : 0 ≤ i) (hi : i < (xs.length : Int)) :
    Calls Try.prog 17 #[.pointer (some ⟨b, 0, none⟩), .int .i64 i] w (fun e w' => ∃ A c, e = .returned (.tuple #[.agg #[.int .i64 (rd_T40 xs i).f0, .int .i64 (rd_T40 xs i).f1, .slice A (rd_T40 xs i).f2.length c], .int .i64 0]) ∧ Two O w' (PN b (xs.eraseIdx i.toNat) r q) (QB (.slice A (rd_T40 xs i).f2.length c) (rd_T40 xs i).f2) ∧ KpO O w w') := by
  obtain ⟨F, h1, h2, h3, h4⟩ := h
  refine (take_ok w F b xs r q h1 hS (by omega) i h0 hi).mono ?_
  rintro e w1 ⟨A, c, he, hR, hN, hK⟩
  refine ⟨A, c, he, ⟨F, _, hN, hR, fun k hk hg => ?_, h2.up hK.size, (Bd.no w).ext hK.size, h3, fun k hk ho => ?_, h4.up hK.size⟩, KpO.of_kp hK h3⟩
  · rcases hg with hg | hg
    · exact hg
    · have := h2 k hk; omega
  · rcases hk with hg | hg
    · exact hg
    · have := h4 k ho; omega
end
set_option maxRecDepth 10000 in
set_option maxHeartbeats 4000000 in
theorem alive_any (w : World) : Calls Try.prog 11 #[] w (fun e w' => e = .returned (.bool true) ∧ Below w.heap.size w w') := by
  have kc := fun (w : World) (C : Array Value) (n c : Nat) => Lib.run_convert_bytes_const (P := Try.prog) w 38 5 C n c Try.underlying38 Try.underlying5
  go_enter Try.func11, Try.ntmps11
  go_wp2_with fail
  refine (newnt_any w 2 (by decide) (by decide)).mono ?_
  rintro e w1 ⟨b, rfl, hN, hB1⟩
  have HO := Lib.hid (one_new (P := PN b [] 2 0) hB1 hN)
  have HB1 := Lib.hid hB1
  clear hN hB1
  go_wp2_with fail
  have hBa : Below w1.heap.size w1 (w1.alloc (.cells #[.int .u8 97, .int .u8 98] 5 (2, 3))) := below_alloc (Below.refl _ _) _
  have hBb : Below w1.heap.size w1 ((w1.alloc (.cells #[.int .u8 97, .int .u8 98] 5 (2, 3))).alloc (.cells #[.int .i64 1, .int .i64 4, .slice (some ⟨w1.heap.size, 0, none⟩) 2 2, .int .i64 3, .int .i64 0, .slice none 0 0, .int .i64 0, .int .i64 15, .slice none 0 0, .int .i64 0, .int .i64 0, .slice none 0 0] 40)) := below_alloc hBa _
  have hCb := C_kp (C_lit w1 AB (2, 3) #[.int .u8 97, .int .u8 98] rfl (by decide)) (below_alloc (Below.refl _ _) (.cells #[.int .i64 1, .int .i64 4, .slice (some ⟨w1.heap.size, 0, none⟩) 2 2, .int .i64 3, .int .i64 0, .slice none 0 0, .int .i64 0, .int .i64 15, .slice none 0 0, .int .i64 0, .int .i64 0, .slice none 0 0] 40))
  have hI := Blk.new (w1.alloc (.cells #[.int .u8 97, .int .u8 98] 5 (2, 3))) 40 [.int .i64 1, .int .i64 4, .slice (some ⟨w1.heap.size, 0, none⟩) 2 2, .int .i64 3, .int .i64 0, .slice none 0 0, .int .i64 0, .int .i64 15, .slice none 0 0, .int .i64 0, .int .i64 0, .slice none 0 0]
  have hs : (w1.alloc (.cells #[.int .u8 97, .int .u8 98] 5 (2, 3))).heap.size = w1.heap.size + 1 := by simp
  rw [hs] at hI
  have hzb : w1.heap.size + 1 < ((w1.alloc (.cells #[.int .u8 97, .int .u8 98] 5 (2, 3))).alloc (.cells #[.int .i64 1, .int .i64 4, .slice (some ⟨w1.heap.size, 0, none⟩) 2 2, .int .i64 3, .int .i64 0, .slice none 0 0, .int .i64 0, .int .i64 15, .slice none 0 0, .int .i64 0, .int .i64 0, .slice none 0 0] 40)).heap.size := by simp
  have O2 := Lib.hid (One.take PN.stands HO.out hBb)
  have hK2 : KpO (fun k => k < w.heap.size) w1 _ := KpO.of_below hBb
  generalize (w1.alloc (.cells #[.int .u8 97, .int .u8 98] 5 (2, 3))).alloc (.cells #[.int .i64 1, .int .i64 4, .slice (some ⟨w1.heap.size, 0, none⟩) 2 2, .int .i64 3, .int .i64 0, .slice none 0 0, .int .i64 0, .int .i64 15, .slice none 0 0, .int .i64 0, .int .i64 0, .slice none 0 0] 40) = w2 at hCb hI hzb O2 hK2 ⊢
  have HK2 := Lib.hid hK2
  refine (one_put O2.out (some ⟨w1.heap.size + 1, 0, none⟩) 4 4 [i1, i2, i3, i4] (fun w' hK => C_four (hK.blk hI (.inr ⟨by omega, hzb⟩)) (Cint_stay hCb (Kp.block hK _ (by show w1.heap.size < _; omega) (fun hn => hn (.inr ⟨Nat.le_refl _, by show w1.heap.size < _; omega⟩))))) (by decide) (by decide)).mono ?_
  rw [al_put]
  rintro e w3 ⟨rfl, hO3, hK3⟩
  have HO3 := Lib.hid (hO3.weaken (fun k hk => .inl hk) : One (fun k => k < w.heap.size) w3 _)
  have HK3 := Lib.hid (HK2.out.trans (hK3.weaken (fun k _ hk => .inl hk)))
  clear hBa hBb hCb hI hs hzb hK2 hO3 hK3
  go_wp2_with fail
  obtain ⟨F3, hF3, -⟩ := HO3.out
  have HF3 := Lib.hid hF3
  clear hF3
  have hS13 : SzI [i1, i3] := (show OkS [i1, i3] from fun x hx => by
    rcases List.mem_cons.1 hx with rfl | hx
    · decide
    · obtain rfl : x = i3 := by simpa using hx
      decide).sz
  refine (dbl_full w3 F3 b [i1, i3] 2 _ HF3.out hS13 0 (by decide) (by decide) (by decide)).mono ?_
  rintro e w4 ⟨rfl, hB4⟩
  have HO4 := Lib.hid (One.below PN.stands HO3.out hB4)
  have HK4 := Lib.hid (HK3.out.trans (KpO.of_below hB4))
  clear hB4
  go_wp2_with fail
  obtain ⟨F4, hF4, -⟩ := HO4.out
  have HF4 := Lib.hid hF4
  clear hF4
  refine (find_any w4 F4 b [i1, i3] 2 _ HF4.out (by decide) 0 15).mono ?_
  unfold FindPost
  rw [al_find]
  rintro e w5 ⟨rfl, hB5⟩
  have HO5 := Lib.hid (One.below PN.stands HO4.out hB5)
  have HK5 := Lib.hid (HK4.out.trans (KpO.of_below hB5))
  clear hB5
  go_wp2_with fail
  refine (one_take HO5.out hS13 (by decide) 0 (by decide) (by decide)).mono ?_
  rw [show rd_T40 [i1, i3] 0 = i1 from rfl, show [i1, i3].eraseIdx (0 : Int).toNat = [i3] from rfl]
  rintro e w6 ⟨A6, c6, rfl, hT6, hK6⟩
  dsimp only [i1]
  have HT6 := Lib.hid hT6
  have HK6 := Lib.hid (HK5.out.trans hK6)
  clear hT6 hK6 hS13
  go_wp2_with fail
  have hB7 : Below w6.heap.size w6 (w6.alloc (.cells #[.int .i64 1, .int .i64 4, .slice A6 AB.length c6] 40)) := below_alloc (Below.refl _ _) _
  have T7 := Lib.hid (Two.take PN.stands QB.stands HT6.out hB7)
  have hX7 := Blk.new w6 40 [.int .i64 1, .int .i64 4, .slice A6 AB.length c6]
  have hz7 : w6.heap.size < (w6.alloc (.cells #[.int .i64 1, .int .i64 4, .slice A6 AB.length c6] 40)).heap.size := by simp
  have HK7 := Lib.hid (HK6.out.trans (KpO.of_below hB7))
  clear hB7
  generalize w6.alloc (.cells #[.int .i64 1, .int .i64 4, .slice A6 AB.length c6] 40) = w7 at T7 hX7 hz7 HK7 ⊢
  refine (two_dbl QB.stands T7.out (fun x hx => by obtain rfl : x = i3 := by simpa using hx
                                                   decide) (by decide) 0 (by decide) (by decide) (by decide)).mono ?_
  rw [show rd_T40 [i3] 0 = i3 from rfl, show [i3] ++ [i3] = [i3, i3] from rfl]
  rintro e w8 ⟨rfl, hT8, hK8⟩
  have hX8 := hK8.blk hX7 (.inr ⟨Nat.le_refl _, hz7⟩)
  have hz8 : w6.heap.size < w8.heap.size := Nat.lt_of_lt_of_le hz7 hK8.size
  have HT8 := Lib.hid hT8
  have HX8 := Lib.hid hX8
  have HK8 := Lib.hid (HK7.out.trans (hK8.weaken (fun k _ hk => .inl hk)))
  clear hX7 hT8 hX8 hK8
  go_wp2_with fail
  obtain ⟨F8, hF8⟩ := HT8.out.left
  have HF8 := Lib.hid hF8
  clear hF8
  refine (at_ok w8 F8 b [i3, i3] 2 _ HF8.out (fun x hx => by obtain rfl : x = i3 := by simpa using hx
                                                             decide) 1 (by decide) (by decide)).mono ?_
  rw [show rd_T40 [i3, i3] 1 = i3 from rfl]
  rintro e w9 ⟨v, rfl, u, rfl, hR9, hB9⟩
  obtain ⟨A9, c9, rfl⟩ := Kd.R_slice hR9
  dsimp only [i3]
  have HT9 := Lib.hid (Two.below PN.stands QB.stands HT8.out hB9)
  have HX9 := Lib.hid (HX8.out.below hB9)
  have hz9 : w6.heap.size < w9.heap.size := Nat.lt_of_lt_of_le hz8 hB9.size
  have HK9 := Lib.hid (HK8.out.trans (KpO.of_below hB9))
  clear hR9 hB9
  have hB10 : Below w9.heap.size w9 (w9.alloc (.cells #[.int .i64 0, .int .i64 15, .slice A9 0 c9] 40)) := below_alloc (Below.refl _ _) _
  have HT10 := Lib.hid (Two.below PN.stands QB.stands HT9.out hB10)
  have x10 := HX9.out.alloc (.cells #[.int .i64 0, .int .i64 15, .slice A9 0 c9] 40)
  have HK10 := Lib.hid (HK9.out.trans (KpO.of_below hB10))
  have x1 := HX9.out.cell 1 _ rfl
  have x2 := HX9.out.cell 2 _ rfl
  obtain ⟨G10, hG10⟩ := HT10.out.right
  have hCb := (Kd.R_reads' hG10).2.2
  have hs0 := Kd.C_string (P := Try.prog) (c := c6) Try.underlying38 Try.underlying5 Try.underlying9 hCb
  rw [show strOfNums i1.f2 = ⟨#[97, 98]⟩ from rfl] at hs0
  dsimp only [i1] at hs0
  clear hG10 hCb hB10 x10
  go_wp2_with fail
  refine (two_lost HT10.out (by decide)).mono ?_
  rintro e w11 ⟨rfl, hw11⟩
  have HT11 := Lib.hid (show Two _ w11 _ _ by rw [hw11]; exact HT10.out)
  have HK11 := Lib.hid (show KpO (fun k => k < w.heap.size) w1 w11 by rw [hw11]; exact HK10.out)
  clear hw11 hs0 x1 x2
  go_wp2_with fail
  refine (two_len HT11.out).mono ?_
  rintro e w12 ⟨rfl, hw12⟩
  have HK12 := Lib.hid (show KpO (fun k => k < w.heap.size) w1 w12 by rw [hw12]; exact HK11.out)
  clear hw12
  go_wp2_with fail
  go_ret
  exact ⟨rfl, HB1.out.trans (KpO.below HK12.out HB1.out.size (fun k hk => hk))⟩
end Go.Proofs.Ytnphlghiicbjjaa
