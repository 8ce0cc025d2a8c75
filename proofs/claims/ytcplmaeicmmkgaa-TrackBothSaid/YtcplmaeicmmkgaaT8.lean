/- track: Import. -/
import Derived.Test.YtcplmaeicmmkgaaT7
namespace Go.Proofs.Ytcplmaeicmmkgaa
open Go Go.RowKit Go.Proofs.YtcplmaeicmmkgaaW.PrintWords Go.Proofs.YtcplmaeicmmkgaaW.PrintLast Go.Proofs.YtcplmaeicmmkgaaW.PrintMore Go.Proofs.Ytcplmaeicmmkgaa.PTrackPlays
attribute [local go_sem] max2_int min2_int max_two min_two
set_option linter.unusedVariables false
set_option linter.unusedSimpArgs false

def impStep (now : Int) (s : List S83 × Nat) (x : S83) : List S83 × Nat :=
  if rightF x.f0 = true ∧ now < x.f1 ∧ x.f1 ≤ maxT then ((putF s.1 x).1, s.2 + (if (putF s.1 x).2 = true then 1 else 0)) else s
def impAll (now : Int) (s : List S83 × Nat) (l : List S83) : List S83 × Nat := l.foldl (impStep now) s
def impF (xs : List S83) (now : Int) (l : List S83) : List S83 × Nat := if timeB now = true then impAll now (liveL now xs, 0) l else (xs, 0)
theorem impAll_snoc (now : Int) (s : List S83 × Nat) (l : List S83) (x : S83) : impAll now s (l ++ [x]) = impStep now (impAll now s l) x := by simp [impAll, List.foldl_append]
theorem putF_len (xs : List S83) (x : S83) : (putF xs x).1.length ≤ xs.length + 1 := by
  unfold putF
  split
  · simp
  · split <;> simp
theorem impAll_le (now : Int) (s : List S83 × Nat) (l : List S83) : (impAll now s l).1.length ≤ s.1.length + l.length ∧ (impAll now s l).2 ≤ s.2 + l.length := by
  induction l using snoc_ind with
  | h0 => simp [impAll]
  | hs l x ih =>
    rw [impAll_snoc]
    unfold impStep
    split
    · have := putF_len (impAll now s l).1 x
      rw [List.length_append, List.length_singleton]
      constructor
      · show (putF _ x).1.length ≤ _; omega
      · show _ + _ ≤ _; split <;> omega
    · rw [List.length_append, List.length_singleton]; omega
theorem imp_nil (w : World) (now : Int) (A : Option Addr) (n c : Nat) : Calls Try.prog 31 #[.pointer none, .int .i64 now, .slice A n c] w (fun e w' => e = .returned (.int .i64 0) ∧ w' = w) := by
  go_enter Try.func31, Try.ntmps31
  go_wp2_with fail
  go_ret
  exact ⟨rfl, rfl⟩
def ImpInv (T : TypeId) (w wr : World) (F : Nat → Prop) (b : Nat) (life : Int) (xs : List S83) : Prop := TbAt T wr (ext F w wr) b life xs ∧ Kp F w wr
theorem ImpInv.below {T : TypeId} {w wr w1 : World} {F : Nat → Prop} {b : Nat} {life : Int} {xs : List S83} (h : ImpInv T w wr F b life xs) (hF : Bd F w) (hb : Below wr.heap.size wr w1) : ImpInv T w w1 F b life xs :=
  ⟨(h.1.below hb).mono (fun k hk => hk.imp id (fun h => ⟨h.1, by have := hb.size; omega⟩)) (hF.ext (h.2.below hb).size), h.2.below hb⟩
theorem ImpInv.put {T : TypeId} {w wr w1 : World} {F : Nat → Prop} {b : Nat} {life : Int} {xs ys : List S83} (h : ImpInv T w wr F b life xs) (hF : Bd F w) (hT : TbAt T w1 (ext (ext F w wr) wr w1) b life ys) (hK : Kp (ext F w wr) wr w1) : ImpInv T w w1 F b life ys :=
  ⟨hT.mono (fun k hk => ext_ext h.2.size hK.size k hk) (hF.ext (kp_ext h.2 hK).size), kp_ext h.2 hK⟩
set_option maxRecDepth 10000 in
set_option maxHeartbeats 4000000 in
theorem imp_any (w : World) (F : Nat → Prop) (b : Nat) (life : Int) (xs : List S83) (hF : TbAt 158 w F b life xs) (hl : xs.length ≤ 1000000) (now : Int) (A : Option Addr) (m c : Nat) (l : List S83) (hC : ∀ w', Kp F w w' → k83.C w' A m l) (hm : m ≤ 1000000) :
    Calls Try.prog 31 #[pt b, .int .i64 now, .slice A m c] w (ActPost 158 w F b life ((impF xs now l).1, ((impF xs now l).2 : Nat))) := by
  have HFd := Lib.hid hF.2.1
  have HF := Lib.hid hF
  have HC := Lib.hid hC
  have Hlm := Lib.hid (hC w (Kp.refl F w)).1
  clear hF hC
  go_enter Try.func31, Try.ntmps31
  go_wp2_with fail
  refine (time_any w now).mono ?_
  rintro e w2 ⟨rfl, hB2⟩
  have HF2 := Lib.hid (HF.out.below hB2)
  have HB2 := Lib.hid hB2
  clear hB2 HF
  cases ht : timeB now with
  | false =>
    have HN := Lib.hid (show impF xs now l = (xs, 0) by unfold impF; rw [if_neg (by simp [ht])])
    clear ht
    go_wp2_with fail
    go_ret
    exact ⟨by rw [HN.out]; rfl, by rw [HN.out]; exact HF2.out.mono (fun k hk => .inl hk) (HFd.out.ext HB2.out.size), Kp.of_below HB2.out F⟩
  | true =>
  have HN := Lib.hid (show impF xs now l = impAll now (liveL now xs, 0) l by unfold impF; rw [if_pos ht])
  clear ht
  go_wp2_with fail
  refine (recs_any w2 F b life xs HF2.out (by omega) now).mono ?_
  rintro e w4 ⟨A4, n4, c4, rfl, hR4, hB4⟩
  obtain ⟨hT5, hK5⟩ := tb_assign HF2.out hR4 hB4
  obtain ⟨-, -, A0, n0, c0, hb4, -⟩ := HF2.out.below hB4
  have hb0 := hb4.cell 1 _ rfl
  have hf0 := hb4.frozen 1
  have hz2 := HB2.out.size
  have HI5 := Lib.hid (show ImpInv 158 w _ F b life (liveL now xs) from ⟨hT5.mono (fun k hk => hk.imp id (fun h => ⟨by omega, h.2⟩)) (HFd.out.ext (by have := hK5.size; omega)), (Kp.of_below HB2.out F).trans hK5 (fun _ _ h => h)⟩)
  clear hT5 hK5 hR4 hB4 hb4
  have hly : (liveL now xs).length ≤ xs.length := List.length_filter_le _ _
  generalize liveL now xs = ys at HI5 HN hly
  go_wp2_with fail
  clear hb0 hf0
  generalize w4.setCell ⟨b, 1, none⟩ (.slice A4 n4 c4) = w5 at HI5 ⊢
  go_loopw [7, 25] (fun v7 v25 wr => ∃ (k : Nat) (s : List S83 × Nat), k ≤ m ∧ v25 = .int .i64 k ∧ v7 = .int .i64 (s.2 : Nat) ∧ s.1.length ≤ 1000000 + k ∧ s.2 ≤ k ∧ Hid (s = impAll now (ys, 0) (l.take k)) ∧ Hid (ImpInv 158 w wr F b life s.1)) (fun _ v25 _ => m - (intOf v25).toNat)
  case atStart => exact ⟨0, (ys, 0), Nat.zero_le _, rfl, rfl, by show ys.length ≤ _; omega, Nat.le_refl _, Lib.hid rfl, HI5⟩
  case round =>
    obtain ⟨k, s, hk, rfl, rfl, hs1, hs2, HS, HI⟩ := hrel
    by_cases hlt : k < m
    · have hw1 : IntKind.i64.wrap ((k : Int) + 1) = (k : Int) + 1 := IntWalk.i64_in _ (by omega)
      have hw2 : IntKind.i64.wrap (((s.2 : Nat) : Int) + 1) = ((s.2 : Nat) : Int) + 1 := IntWalk.i64_in _ (by omega)
      have hkl : k < l.length := by have := Hlm.out; omega
      obtain ⟨ad, rfl, e0, e1, e2, e3, e4, e5⟩ := at_T83 (HC.out wr HI.out.2) (k : Int) (by omega) (by omega)
      rw [Int.toNat_natCast] at e0 e1 e2 e3 e4 e5
      rw [rd_get83 l k hkl] at e0 e1 e2 e3 e4 e5
      have hnx : impAll now (ys, 0) (l.take (k + 1)) = impStep now s l[k] := by rw [List.take_succ_eq_append_getElem hkl, impAll_snoc, ← HS.out]
      generalize l[k] = x at e0 e1 e2 e3 e4 e5 hnx
      have HNx := Lib.hid hnx
      have HX := Lib.hid (Blk.new wr 83 [.int .i64 x.f0.f0, .int .u32 x.f0.f1, .int .u32 x.f0.f2, .int .i64 x.f0.f3, .int .i64 x.f0.f4, .int .i64 x.f1])
      have HIa := Lib.hid (HI.out.below HFd.out (below_alloc (Below.refl wr.heap.size wr) (.cells #[.int .i64 x.f0.f0, .int .u32 x.f0.f1, .int .u32 x.f0.f2, .int .i64 x.f0.f3, .int .i64 x.f0.f4, .int .i64 x.f1] 83)))
      have hrt := fun w' => inet_Right.calls x.f0.f0 x.f0.f1 x.f0.f2 x.f0.f3 x.f0.f4 _ w' (right_eq x.f0)
      have HRT := Lib.hid hrt
      clear hnx hkl hrt
      go_wp2_with fail
      generalize (wr.alloc (.cells #[.int .i64 x.f0.f0, .int .u32 x.f0.f1, .int .u32 x.f0.f2, .int .i64 x.f0.f3, .int .i64 x.f0.f4, .int .i64 x.f1] 83)) = wa at HX HIa ⊢
      refine (HRT.out wa).mono ?_
      rintro e w6 ⟨rfl, hB6⟩
      have hX6 := HX.out.below hB6
      have HI6 := Lib.hid (HIa.out.below HFd.out hB6)
      have x0 := hX6.cell 0 _ rfl
      have x1 := hX6.cell 1 _ rfl
      have x2 := hX6.cell 2 _ rfl
      have x3 := hX6.cell 3 _ rfl
      have x4 := hX6.cell 4 _ rfl
      have x5 := hX6.cell 5 _ rfl
      clear hX6 hB6 e0 e1 e2 e3 e4 e5 HX HIa HI
      by_cases hok : rightF x.f0 = true ∧ now < x.f1 ∧ x.f1 ≤ maxT
      · have HST := Lib.hid (HNx.out.trans (show impStep now s x = _ by unfold impStep; rw [if_pos hok]))
        have d1 : decide (now < x.f1) = true := decide_eq_true hok.2.1
        have d2 : decide (x.f1 ≤ 1099511627776) = true := decide_eq_true hok.2.2
        rw [hok.1]
        clear hok
        go_wp2_with fail
        refine (put_any w6 (ext F w w6) b life s.1 HI6.out.1 (by omega) x).mono ?_
        have hpl := putF_len s.1 x
        generalize putF s.1 x = z at HST hpl ⊢
        rintro e w7 ⟨rfl, hT7, hK7⟩
        have HI7 := Lib.hid (HI6.out.put HFd.out hT7 hK7)
        clear hT7 hK7 x0 x1 x2 x3 x4 x5
        cases hz : z.2 with
        | true =>
          rw [hz, if_pos rfl] at HST
          clear hz
          go_wp2_with fail
          go_roundw
          case rel => exact ⟨k + 1, (z.1, s.2 + 1), by omega, by go_num, by go_num, by show z.1.length ≤ _; omega, by show s.2 + 1 ≤ _; omega, Lib.hid HST.out.symm, HI7⟩
          case measure => simp [intOf] <;> omega
        | false =>
          rw [hz, if_neg (by simp)] at HST
          clear hz
          go_wp2_with fail
          go_roundw
          case rel => exact ⟨k + 1, (z.1, s.2 + 0), by omega, by go_num, by go_num, by show z.1.length ≤ _; omega, by show s.2 + 0 ≤ _; omega, Lib.hid HST.out.symm, HI7⟩
          case measure => simp [intOf] <;> omega
      · have HST := Lib.hid (HNx.out.trans (show impStep now s x = s by unfold impStep; rw [if_neg hok]))
        have hno : rightF x.f0 = false ∨ (rightF x.f0 = true ∧ ¬ now < x.f1) ∨ (rightF x.f0 = true ∧ now < x.f1 ∧ ¬ x.f1 ≤ maxT) := by
          cases hr : rightF x.f0 with
          | false => exact .inl rfl
          | true =>
            by_cases h1 : now < x.f1
            · exact .inr (.inr ⟨rfl, h1, fun h2 => hok ⟨hr, h1, h2⟩⟩)
            · exact .inr (.inl ⟨rfl, h1⟩)
        clear hok
        rcases hno with hr | ⟨hr, h1⟩ | ⟨hr, h1, h2⟩
        · rw [hr]
          clear hr
          go_wp2_with fail
          clear x0 x1 x2 x3 x4 x5
          go_roundw
          case rel => exact ⟨k + 1, s, by omega, by go_num, rfl, by omega, by omega, Lib.hid HST.out.symm, HI6⟩
          case measure => simp [intOf] <;> omega
        · have d1 : decide (now < x.f1) = false := decide_eq_false h1
          rw [hr]
          clear hr h1
          go_wp2_with fail
          clear x0 x1 x2 x3 x4 x5
          go_roundw
          case rel => exact ⟨k + 1, s, by omega, by go_num, rfl, by omega, by omega, Lib.hid HST.out.symm, HI6⟩
          case measure => simp [intOf] <;> omega
        · have d1 : decide (now < x.f1) = true := decide_eq_true h1
          have d2 : decide (x.f1 ≤ 1099511627776) = false := decide_eq_false h2
          rw [hr]
          clear hr h1 h2
          go_wp2_with fail
          clear x0 x1 x2 x3 x4 x5
          go_roundw
          case rel => exact ⟨k + 1, s, by omega, by go_num, rfl, by omega, by omega, Lib.hid HST.out.symm, HI6⟩
          case measure => simp [intOf] <;> omega
    · have hkm : k = m := by omega
      have HS2 := Lib.hid (show impF xs now l = s by rw [HN.out, HS.out, List.take_of_length_le (by have := Hlm.out; omega)])
      clear hkm
      go_wp2_with fail
      go_ret
      exact ⟨by rw [HS2.out]; rfl, by rw [HS2.out]; exact HI.out.1, HI.out.2⟩
end Go.Proofs.Ytcplmaeicmmkgaa
