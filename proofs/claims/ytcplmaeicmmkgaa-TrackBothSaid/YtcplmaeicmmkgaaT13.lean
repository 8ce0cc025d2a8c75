/- rutterlaw12.TrackBoth: the law's walk. -/
import Derived.Test.YtcplmaeicmmkgaaT12
namespace Go.Proofs.Ytcplmaeicmmkgaa
open Go Go.RowKit Go.Proofs.YtcplmaeicmmkgaaW.PrintWords Go.Proofs.YtcplmaeicmmkgaaW.PrintLast Go.Proofs.YtcplmaeicmmkgaaW.PrintMore Go.Proofs.Ytcplmaeicmmkgaa.PTrackPlays
attribute [local go_sem] max2_int min2_int max_two min_two
set_option linter.unusedVariables false
set_option linter.unusedSimpArgs false

set_option maxRecDepth 10000 in
set_option maxHeartbeats 8000000 in
theorem trackBoth_any (w : World) (life : Int) (hl0 : 0 ≤ life) (hl1 : life ≤ 65535) (A : Option Addr) (m c : Nat) (l : List S72) (hC : k72.C w A m l) (hc : m ≤ c) (hK : Kind8 l) (x0 : Int) (f : S70) (now : Int) (u : Value) :
    Calls Try.prog 6 #[.int .u16 life, .slice A m c, .agg #[.int .u8 x0, .int .i64 f.f0, .int .u32 f.f1, .int .u32 f.f2, .int .i64 f.f3, .int .i64 f.f4, .int .i64 now, u]] w (LawPost w) := by
  obtain rfl : l.length = m := hC.1
  have HC := Lib.hid hC
  have HK8 := Lib.hid hK
  clear hC hK
  go_enter Try.func6, Try.ntmps6
  go_wp2_with fail
  have hB1 : Below w.heap.size w ((w.alloc (.cells #[.int .u8 x0, .int .i64 f.f0, .int .u32 f.f1, .int .u32 f.f2, .int .i64 f.f3, .int .i64 f.f4, .int .i64 now, u] 72)).alloc (.cells #[.int .i64 f.f0, .int .u32 f.f1, .int .u32 f.f2, .int .i64 f.f3, .int .i64 f.f4] 70)) := below_alloc (below_alloc (Below.refl _ _) _) _
  have hs : (w.alloc (.cells #[.int .u8 x0, .int .i64 f.f0, .int .u32 f.f1, .int .u32 f.f2, .int .i64 f.f3, .int .i64 f.f4, .int .i64 now, u] 72)).heap.size = w.heap.size + 1 := by simp
  have hx1 := Blk.new (w.alloc (.cells #[.int .u8 x0, .int .i64 f.f0, .int .u32 f.f1, .int .u32 f.f2, .int .i64 f.f3, .int .i64 f.f4, .int .i64 now, u] 72)) 70 [.int .i64 f.f0, .int .u32 f.f1, .int .u32 f.f2, .int .i64 f.f3, .int .i64 f.f4]
  rw [hs] at hx1
  have HX1 := Lib.hid hx1
  have HB1 := Lib.hid hB1
  clear hx1 hB1 hs
  generalize ((w.alloc (.cells #[.int .u8 x0, .int .i64 f.f0, .int .u32 f.f1, .int .u32 f.f2, .int .i64 f.f3, .int .i64 f.f4, .int .i64 now, u] 72)).alloc (.cells #[.int .i64 f.f0, .int .u32 f.f1, .int .u32 f.f2, .int .i64 f.f3, .int .i64 f.f4] 70)) = w1 at HX1 HB1 ⊢
  refine (fits_any w1 A c l (C_kp HC.out HB1.out) hc).mono ?_
  rintro e w2 ⟨ok, rfl, hok, hB2⟩
  have Hok := Lib.hid hok
  have HX2 := Lib.hid (HX1.out.below hB2)
  have HB2 := Lib.hid (HB1.out.trans (hB2.mono HB1.out.size))
  clear hok hB2 HX1 HB1
  have hwl : IntKind.i64.wrap life = life := IntWalk.i64_in _ (by omega)
  have hwl1 : IntKind.i64.wrap (life + 1) = life + 1 := IntWalk.i64_in _ (by omega)
  go_wp2_with fail
  refine (newt_any w2 (life + 1) (by omega) (by omega)).mono ?_
  rintro e w3 ⟨b, rfl, hN3, hB3⟩
  have HO3 := Lib.hid (one_new (P := PT 158 b (life + 1) []) hB3 hN3)
  have HB3 := Lib.hid hB3
  clear hN3 hB3
  go_wp2_with fail
  refine (newt_any w3 1 (by decide) (by decide)).mono ?_
  rintro e w4 ⟨b2, rfl, hN4, hB4⟩
  have HT4 := Lib.hid (One.two PT.stands HO3.out hB4 (show PT 158 b2 1 [] w4 _ from hN4))
  have HB4 := Lib.hid (HB3.out.trans (hB4.mono HB3.out.size))
  clear hN4 hB4 HO3 HB3
  cases ok with
  | false =>
    go_wp2_with fail
    refine (alive_any w4).mono ?_
    rintro e w5 ⟨rfl, hB5⟩
    have HB5 := Lib.hid ((HB2.out.trans (HB4.out.mono HB2.out.size)).trans (hB5.mono (by have := HB2.out.size; have := HB4.out.size; omega)))
    clear hB5
    go_wp2_with fail
    go_ret
    exact ⟨rfl, HB5.out⟩
  | true =>
  obtain ⟨hlen, hrow⟩ := Hok.out rfl
  have HRow := Lib.hid hrow
  have HC2 := Lib.hid (C_kp HC.out HB2.out)
  clear hrow Hok HC
  have HI4 := Lib.hid Inv.nil
  go_wp2_with fail
  go_loopg [14] l.length (fun kq v14 wr => ∃ (k : Nat) (xs : List S83), k + kq = l.length ∧ v14 = .int .i64 k ∧ Hid (Inv xs) ∧ Hid (Two (fun k => k < w2.heap.size) wr (PT 158 b (life + 1) xs) (PT 158 b2 1 [])) ∧ Hid (KpO (fun k => k < w2.heap.size) w4 wr))
  case atStart => exact ⟨0, [], by omega, rfl, HI4, HT4, Lib.hid (KpO.refl _ _)⟩
  case round =>
    clear HI4 HT4
    obtain ⟨k, xs, hkk, rfl, HI, HT, HK⟩ := hrel
    have hx16 : xs.length ≤ 16 := HI.out.1
    have HBr := Lib.hid (HB4.out.trans (KpO.below HK.out HB4.out.size (fun k hk => hk)))
    by_cases hlt : k < l.length
    · have hw1 : IntKind.i64.wrap ((k : Int) + 1) = (k : Int) + 1 := IntWalk.i64_in _ (by omega)
      obtain ⟨ad, A7, c7, hA, e0, e1, e2, e3, e4, e5, e6, e7, hle, hC7⟩ := at_T72 (C_kp HC2.out HBr.out) (k : Int) (by omega) (by omega)
      rw [Int.toNat_natCast] at e0 e1 e2 e3 e4 e5 e6 e7
      rw [rd72 l k hlt] at e0 e1 e2 e3 e4 e5 e6 e7 hle hC7
      have hmem : l[k] ∈ l := List.getElem_mem hlt
      obtain ⟨hk0, hk1⟩ := HK8.out _ hmem
      have hr60 := HRow.out _ hmem
      subst hA
      have hC7c : k83.C w2 A7 l[k].f3.length l[k].f3 := by
        obtain ⟨ad', A7', c7', hA', d0, d1, d2, d3, d4, d5, d6, d7, hle', hC7'⟩ := at_T72 HC2.out (k : Int) (by omega) (by omega)
        injection hA' with hA'
        subst hA'
        rw [Int.toNat_natCast, rd72 l k hlt] at d7
        rw [rd72 l k hlt] at hC7'
        have := cell_old HBr.out d7
        rw [e7] at this
        injection this with this
        injection this with h1 h2 h3
        rw [h1]
        exact hC7'
      have HC7 := Lib.hid hC7c
      generalize l[k] = a at e0 e1 e2 e3 e4 e5 e6 e7 hle hk0 hk1 hr60 HC7
      clear hC7 hC7c hmem
      by_cases h4 : a.f0 % 6 < 4
      · have d4 : decide (a.f0 % 6 < 4) = true := decide_eq_true h4
        clear h4
        go_wp2_with fail
        have HTd := Lib.hid (Two.below PT.stands PT.stands HT.out (below_drew (Below.refl wr.heap.size wr)))
        refine seq_start (fun w' => w'.cell? ⟨(ad.add (k * 8)).block, (ad.add (k * 8)).off + 1, none⟩ = some (.int .i64 a.f1.f0) ∧ w'.cell? ⟨(ad.add (k * 8)).block, (ad.add (k * 8)).off + 2, none⟩ = some (.int .u32 a.f1.f1) ∧ w'.cell? ⟨(ad.add (k * 8)).block, (ad.add (k * 8)).off + 3, none⟩ = some (.int .u32 a.f1.f2) ∧ w'.cell? ⟨(ad.add (k * 8)).block, (ad.add (k * 8)).off + 4, none⟩ = some (.int .i64 a.f1.f3) ∧ w'.cell? ⟨(ad.add (k * 8)).block, (ad.add (k * 8)).off + 5, none⟩ = some (.int .i64 a.f1.f4) ∧ w'.cell? ⟨(ad.add (k * 8)).block, (ad.add (k * 8)).off + 6, none⟩ = some (.int .i64 a.f2)) [11] [(0, 0), (1, 0), (2, 0), (3, 0), (4, 0), (5, 1), (6, 0), (7, 0), (8, 0), (9, 0), (10, 1), (11, 3)] (by kernel_rfl) (by kernel_rfl) ⟨e1, e2, e3, e4, e5, e6⟩ ?_
        intro hS
        (refine seq_v (some 66) (v := ?_) (a' := ?_) rfl rfl (fun _ _ _ h => h) (Or.inl ⟨by rfl, ?_⟩) ?_ ?_; rotate_left 2; (· intro w'; go_simp; with_reducible rfl); (· simp only [Act.put, List.setIfInBounds_toArray, List.set_cons_zero, List.set_cons_succ, i64_w, i32_w]; rfl))
        (refine seq_v (some 67) (v := ?_) (a' := ?_) rfl rfl (fun _ _ _ h => h) (Or.inl ⟨by rfl, ?_⟩) ?_ ?_; rotate_left 2; (· intro w'; go_simp; with_reducible rfl); (· simp only [Act.put, List.setIfInBounds_toArray, List.set_cons_zero, List.set_cons_succ, i64_w, i32_w]; rfl))
        (refine seq_v (some 68) (v := ?_) (a' := ?_) rfl rfl (fun _ _ _ h => h) (Or.inl ⟨by rfl, ?_⟩) ?_ ?_; rotate_left 2; (· intro w'; go_simp; with_reducible rfl); (· simp only [Act.put, List.setIfInBounds_toArray, List.set_cons_zero, List.set_cons_succ, i64_w, i32_w]; rfl))
        (refine seq_v (some 69) (v := ?_) (a' := ?_) rfl rfl (fun _ _ _ h => h) (Or.inl ⟨by rfl, ?_⟩) ?_ ?_; rotate_left 2; (· intro w'; go_simp; with_reducible rfl); (· simp only [Act.put, List.setIfInBounds_toArray, List.set_cons_zero, List.set_cons_succ, i64_w, i32_w]; rfl))
        (refine seq_v (some 70) (v := ?_) (a' := ?_) rfl rfl (fun _ _ _ h => h) (Or.inl ⟨by rfl, ?_⟩) ?_ ?_; rotate_left 2; (· intro w'; go_simp; with_reducible rfl); (· simp only [Act.put, List.setIfInBounds_toArray, List.set_cons_zero, List.set_cons_succ, i64_w, i32_w]; rfl))
        (refine seq_l (some 71) (v := ?_) (a' := ?_) rfl rfl (fun _ _ _ h => h) (by assumption) (Or.inl ⟨by rfl, ?_⟩) ?_ ?_; rotate_left 2; (· intro w' hS'; (try dsimp only at hS'); go_simp; with_reducible rfl); (· simp only [Act.put, List.setIfInBounds_toArray, List.set_cons_zero, List.set_cons_succ, i64_w, i32_w]; rfl))
        (refine seq_v (some 72) (v := ?_) (a' := ?_) rfl rfl (fun _ _ _ h => h) (Or.inl ⟨by rfl, ?_⟩) ?_ ?_; rotate_left 2; (· intro w'; go_simp; with_reducible rfl); (· simp only [Act.put, List.setIfInBounds_toArray, List.set_cons_zero, List.set_cons_succ, i64_w, i32_w]; rfl))
        (refine seq_v (some 73) (v := ?_) (a' := ?_) rfl rfl (fun _ _ _ h => h) (Or.inl ⟨by rfl, ?_⟩) ?_ ?_; rotate_left 2; (· intro w'; go_simp; with_reducible rfl); (· simp only [Act.put, List.setIfInBounds_toArray, List.set_cons_zero, List.set_cons_succ, i64_w, i32_w]; rfl))
        (refine seq_v (some 74) (v := ?_) (a' := ?_) rfl rfl (fun _ _ _ h => h) (Or.inl ⟨by rfl, ?_⟩) ?_ ?_; rotate_left 2; (· intro w'; go_simp; with_reducible rfl); (· simp only [Act.put, List.setIfInBounds_toArray, List.set_cons_zero, List.set_cons_succ, i64_w, i32_w]; rfl))
        (refine seq_v (some 75) (v := ?_) (a' := ?_) rfl rfl (fun _ _ _ h => h) (Or.inl ⟨by rfl, ?_⟩) ?_ ?_; rotate_left 2; (· intro w'; go_simp; with_reducible rfl); (· simp only [Act.put, List.setIfInBounds_toArray, List.set_cons_zero, List.set_cons_succ, i64_w, i32_w]; rfl))
        (refine seq_l (some 76) (v := ?_) (a' := ?_) rfl rfl (fun _ _ _ h => h) (by assumption) (Or.inl ⟨by rfl, ?_⟩) ?_ ?_; rotate_left 2; (· intro w' hS'; (try dsimp only at hS'); go_simp; with_reducible rfl); (· simp only [Act.put, List.setIfInBounds_toArray, List.set_cons_zero, List.set_cons_succ, i64_w, i32_w]; rfl))
        (refine seq_d rfl (by rfl) (fun K hK => ?_))
        go_simp
        refine (two_note PT.stands HTd.out (by omega) (by omega) (by omega) a.f1 a.f2).mono ?_
        rintro e w6 ⟨rfl, hT6, hK6⟩
        refine hK _ _ ?_
        clear hK K hS
        refine seq_nil ?_
        have HT6 := Lib.hid hT6
        have HK6 := Lib.hid (HK.out.trans ((KpO.of_below (below_drew (Below.refl wr.heap.size wr))).trans hK6))
        have HI6 := Lib.hid (HI.out.note (life + 1) a.f1 a.f2)
        clear hT6 hK6 e0 e1 e2 e3 e4 e5 e6 e7
        go_wp2_with fail
        go_roundg (l.length - (k + 1))
        case rel => exact ⟨k + 1, _, by omega, by go_num, HI6, HT6, HK6⟩
        case measure => omega
      · have d4 : decide (a.f0 % 6 < 4) = false := decide_eq_false h4
        clear h4
        go_wp2_with fail
        have HTd := Lib.hid (Two.below PT.stands PT.stands HT.out (below_drew (Below.refl wr.heap.size wr)))
        have HBd := Lib.hid (HBr.out.trans ((below_drew (Below.refl wr.heap.size wr)).mono HBr.out.size))
        refine seq_start (fun w' => w'.cell? ⟨(ad.add (k * 8)).block, (ad.add (k * 8)).off + 6, none⟩ = some (.int .i64 a.f2) ∧ w'.cell? ⟨(ad.add (k * 8)).block, (ad.add (k * 8)).off + 7, none⟩ = some (.slice A7 a.f3.length c7)) [11] [(0, 0), (1, 0), (2, 0), (3, 0), (4, 0), (5, 1), (6, 0), (7, 0), (8, 0), (9, 0), (10, 1), (11, 3)] (by kernel_rfl) (by kernel_rfl) ⟨e6, e7⟩ ?_
        intro hS
        (refine seq_v (some 78) (v := ?_) (a' := ?_) rfl rfl (fun _ _ _ h => h) (Or.inl ⟨by rfl, ?_⟩) ?_ ?_; rotate_left 2; (· intro w'; go_simp; with_reducible rfl); (· simp only [Act.put, List.setIfInBounds_toArray, List.set_cons_zero, List.set_cons_succ, i64_w, i32_w]; rfl))
        (refine seq_v (some 79) (v := ?_) (a' := ?_) rfl rfl (fun _ _ _ h => h) (Or.inl ⟨by rfl, ?_⟩) ?_ ?_; rotate_left 2; (· intro w'; go_simp; with_reducible rfl); (· simp only [Act.put, List.setIfInBounds_toArray, List.set_cons_zero, List.set_cons_succ, i64_w, i32_w]; rfl))
        (refine seq_v (some 80) (v := ?_) (a' := ?_) rfl rfl (fun _ _ _ h => h) (Or.inl ⟨by rfl, ?_⟩) ?_ ?_; rotate_left 2; (· intro w'; go_simp; with_reducible rfl); (· simp only [Act.put, List.setIfInBounds_toArray, List.set_cons_zero, List.set_cons_succ, i64_w, i32_w]; rfl))
        (refine seq_v (some 81) (v := ?_) (a' := ?_) rfl rfl (fun _ _ _ h => h) (Or.inl ⟨by rfl, ?_⟩) ?_ ?_; rotate_left 2; (· intro w'; go_simp; with_reducible rfl); (· simp only [Act.put, List.setIfInBounds_toArray, List.set_cons_zero, List.set_cons_succ, i64_w, i32_w]; rfl))
        (refine seq_v (some 82) (v := ?_) (a' := ?_) rfl rfl (fun _ _ _ h => h) (Or.inl ⟨by rfl, ?_⟩) ?_ ?_; rotate_left 2; (· intro w'; go_simp; with_reducible rfl); (· simp only [Act.put, List.setIfInBounds_toArray, List.set_cons_zero, List.set_cons_succ, i64_w, i32_w]; rfl))
        (refine seq_l (some 83) (v := ?_) (a' := ?_) rfl rfl (fun _ _ _ h => h) (by assumption) (Or.inl ⟨by rfl, ?_⟩) ?_ ?_; rotate_left 2; (· intro w' hS'; (try dsimp only at hS'); go_simp; with_reducible rfl); (· simp only [Act.put, List.setIfInBounds_toArray, List.set_cons_zero, List.set_cons_succ, i64_w, i32_w]; rfl))
        (refine seq_v (some 84) (v := ?_) (a' := ?_) rfl rfl (fun _ _ _ h => h) (Or.inl ⟨by rfl, ?_⟩) ?_ ?_; rotate_left 2; (· intro w'; go_simp; with_reducible rfl); (· simp only [Act.put, List.setIfInBounds_toArray, List.set_cons_zero, List.set_cons_succ, i64_w, i32_w]; rfl))
        (refine seq_v (some 85) (v := ?_) (a' := ?_) rfl rfl (fun _ _ _ h => h) (Or.inl ⟨by rfl, ?_⟩) ?_ ?_; rotate_left 2; (· intro w'; go_simp; with_reducible rfl); (· simp only [Act.put, List.setIfInBounds_toArray, List.set_cons_zero, List.set_cons_succ, i64_w, i32_w]; rfl))
        (refine seq_v (some 86) (v := ?_) (a' := ?_) rfl rfl (fun _ _ _ h => h) (Or.inl ⟨by rfl, ?_⟩) ?_ ?_; rotate_left 2; (· intro w'; go_simp; with_reducible rfl); (· simp only [Act.put, List.setIfInBounds_toArray, List.set_cons_zero, List.set_cons_succ, i64_w, i32_w]; rfl))
        (refine seq_v (some 87) (v := ?_) (a' := ?_) rfl rfl (fun _ _ _ h => h) (Or.inl ⟨by rfl, ?_⟩) ?_ ?_; rotate_left 2; (· intro w'; go_simp; with_reducible rfl); (· simp only [Act.put, List.setIfInBounds_toArray, List.set_cons_zero, List.set_cons_succ, i64_w, i32_w]; rfl))
        (refine seq_l (some 88) (v := ?_) (a' := ?_) rfl rfl (fun _ _ _ h => h) (by assumption) (Or.inl ⟨by rfl, ?_⟩) ?_ ?_; rotate_left 2; (· intro w' hS'; (try dsimp only at hS'); go_simp; with_reducible rfl); (· simp only [Act.put, List.setIfInBounds_toArray, List.set_cons_zero, List.set_cons_succ, i64_w, i32_w]; rfl))
        (refine seq_d rfl (by rfl) (fun K hK => ?_))
        go_simp
        refine (two_imp PT.stands HTd.out (by omega) a.f2 A7 a.f3.length c7 a.f3 (fun w' hK => C_kp HC7.out (HBd.out.trans (KpO.below hK HBd.out.size (fun k hk => hk)))) (by omega)).mono ?_
        rintro e w6 ⟨rfl, hT6, hK6⟩
        refine hK _ _ ?_
        clear hK K hS
        refine seq_nil ?_
        have HT6 := Lib.hid hT6
        have HK6 := Lib.hid (HK.out.trans ((KpO.of_below (below_drew (Below.refl wr.heap.size wr))).trans hK6))
        have HI6 := Lib.hid (HI.out.imp a.f2 a.f3)
        clear hT6 hK6 e0 e1 e2 e3 e4 e5 e6 e7
        go_wp2_with fail
        go_roundg (l.length - (k + 1))
        case rel => exact ⟨k + 1, _, by omega, by go_num, HI6, HT6, HK6⟩
        case measure => omega
    · have hkl : k = l.length := by omega
      have hx := HX2.out.below HBr.out
      have f0 := hx.cell 0 _ rfl
      have f1 := hx.cell 1 _ rfl
      have f2 := hx.cell 2 _ rfl
      have f3 := hx.cell 3 _ rfl
      have f4 := hx.cell 4 _ rfl
      have HXr := Lib.hid hx
      clear hx hkk HK8 HRow
      go_wp2_with fail
      refine (two_note PT.stands HT.out (by omega) (by omega) (by omega) f now).mono ?_
      have HIn := Lib.hid (HI.out.note (life + 1) f now)
      have HKl := Lib.hid (fun (h : (noteF (life + 1) xs f now).2 = 0) (t : Int) (ht : t < mn (now + (life + 1)) maxT) => known_last h ht)
      have HKb := Lib.hid (fun (h : (noteF (life + 1) xs f now).2 = 0) (t : Int) (ht : t < mn (now + (life + 1)) maxT) => known_back h ht)
      have HNk := Lib.hid (fun (h : (noteF (life + 1) xs f now).2 = 0) => (note_ok h).1)
      generalize noteF (life + 1) xs f now = z at HIn HKl HKb HNk ⊢
      rintro e w6 ⟨rfl, hT6, hK6⟩
      have HT6 := Lib.hid hT6
      have HB6 := Lib.hid (HBr.out.trans (KpO.below hK6 HBr.out.size (fun k hk => hk)))
      have HX6 := Lib.hid (hK6.blk HXr.out HX2.out.lt)
      clear hT6 hK6 HXr f0 f1 f2 f3 f4
      by_cases hz : z.2 = 0
      · have ht := HNk.out hz
        have hrg := timeB_rg ht
        have hn0 : 0 ≤ now := hrg.1
        have hn1 : now ≤ 1099511627776 := hrg.2
        have hwn : IntKind.i64.wrap (now + life) = now + life := IntWalk.i64_in _ (by omega)
        have HZ := Lib.hid hz
        have HT := Lib.hid ht
        rw [hz]
        clear hz ht hrg HNk
        go_upto_region 18 with fail
        go_cut [15] (fun v15 wx => v15 = .int .i64 (mn (now + life) 1099511627775) ∧ wx = w6)
        case first =>
          by_cases hm : 1099511627775 < now + life
          · have hq : mn (now + life) 1099511627775 = 1099511627775 := by unfold mn; rw [if_pos hm]
            have HQ := Lib.hid hq
            clear hq
            go_wp2_with fail
            go_meet
            exact ⟨by rw [HQ.out], rfl⟩
          · have hq : mn (now + life) 1099511627775 = now + life := by unfold mn; rw [if_neg hm]
            have HQ := Lib.hid hq
            clear hq
            go_wp2_with fail
            go_meet
            exact ⟨by rw [HQ.out], rfl⟩
        case rest =>
        obtain ⟨rfl, hwc⟩ := hcut
        subst wc
        have hla : mn (now + life) 1099511627775 < mn (now + (life + 1)) maxT := by
          unfold mn maxT
          split <;> split <;> omega
        generalize mn (now + life) 1099511627775 = last at hla ⊢
        have hz16 : z.1.length ≤ 16 := HIn.out.1
        have HLa := Lib.hid hla
        clear hla
        go_upto_region 19 with fail
        go_cut [118] (fun v118 wx => v118 = .bool false ∧ Hid (Below w6.heap.size w6 wx))
        case first =>
          by_cases hnl : now ≤ last
          · have dn : decide (now ≤ last) = true := decide_eq_true hnl
            have g0 := HX6.out.cell 0 _ rfl
            have g1 := HX6.out.cell 1 _ rfl
            have g2 := HX6.out.cell 2 _ rfl
            have g3 := HX6.out.cell 3 _ rfl
            have g4 := HX6.out.cell 4 _ rfl
            go_wp2_with fail
            refine (one_known HT6.out.one (by omega) f last).mono ?_
            rw [HKl.out HZ.out last HLa.out]
            rintro e w7 ⟨rfl, hB7⟩
            have HX7 := Lib.hid (HX6.out.below hB7)
            have HT7 := Lib.hid (Two.below PT.stands PT.stands HT6.out hB7)
            have HB7 := Lib.hid hB7
            have g0 := HX7.out.cell 0 _ rfl
            have g1 := HX7.out.cell 1 _ rfl
            have g2 := HX7.out.cell 2 _ rfl
            have g3 := HX7.out.cell 3 _ rfl
            have g4 := HX7.out.cell 4 _ rfl
            clear hB7
            go_wp2_with fail
            refine (rback_any w7 f).mono ?_
            rintro e w8 ⟨rfl, hB8⟩
            have HT8 := Lib.hid (Two.below PT.stands PT.stands HT7.out hB8)
            have HB8 := Lib.hid (HB7.out.trans (hB8.mono HB7.out.size))
            clear hB8
            go_wp2_with fail
            refine (one_known HT8.out.one (by omega) (backF f) now).mono ?_
            rw [HKb.out HZ.out now (by have := HLa.out; omega)]
            rintro e w9 ⟨rfl, hB9⟩
            have HB9 := Lib.hid (HB8.out.trans (hB9.mono HB8.out.size))
            clear hB9 g0 g1 g2 g3 g4
            go_wp2_with fail
            go_meet
            exact ⟨rfl, HB9⟩
          · have dn : decide (now ≤ last) = false := decide_eq_false hnl
            clear hnl
            go_wp2_with fail
            go_meet
            exact ⟨rfl, Lib.hid (Below.refl _ _)⟩
        case rest =>
        obtain ⟨rfl, HBc⟩ := hcut
        have HT7 := Lib.hid (Two.below PT.stands PT.stands HT6.out HBc.out)
        have HB7 := Lib.hid (HB6.out.trans (HBc.out.mono HB6.out.size))
        clear HBc HKl HKb HT6 HB6 HLa HX6
        go_wp2_with fail
        refine (one_recs HT7.out.one (by omega) now).mono ?_
        have hIr := HIn.out.live now
        have hlv : ∀ x, x ∈ liveL now z.1 → now < x.f1 := fun x hx => of_decide_eq_true (List.mem_filter.1 hx).2
        generalize liveL now z.1 = rs at hIr hlv ⊢
        have HIr := Lib.hid hIr
        have HLv := Lib.hid hlv
        have hr16 : rs.length ≤ 16 := hIr.1
        clear hIr hlv HIn
        rintro e w8 ⟨A8, n8, c8, rfl, hR8, hB8⟩
        have hn8 : n8 = rs.length := (Kd.R_reads' hR8).1
        subst hn8
        have HT8 := Lib.hid (Two.take PT.stands PT.stands HT7.out hB8)
        have HR8 := Lib.hid (show k83.R 83 w8 0 (ext (fun k => k < w2.heap.size) wc w8) (.slice A8 rs.length c8) rs from Kd.R_mono hR8 (fun k hk => hk.elim (fun h => h.elim) .inr))
        have HB8 := Lib.hid (HB7.out.trans (hB8.mono HB7.out.size))
        have HOw := Lib.hid (show ∀ k, k < w2.heap.size → ext (fun k => k < w2.heap.size) wc w8 k from fun k hk => .inl hk)
        clear hR8 hB8 HT7 HB7
        generalize ext (fun k => k < w2.heap.size) wc w8 = O8 at HT8 HR8 HOw
        go_wp2_with fail
        refine (two_imp PT.stands HT8.out.symm (by decide) now A8 rs.length c8 rs (fun w' hK => (Kd.R_reads' (R_kp HR8.out hK (fun k _ ho hf => hf ho))).2.2) (by omega)).mono ?_
        rw [imp_all HIr.out HT.out HLv.out]
        rintro e w9 ⟨rfl, hT9, hK9⟩
        have HT9 := Lib.hid hT9.one
        have HC9 := Lib.hid (show k83.C w9 A8 rs.length rs from (Kd.R_reads' (R_kp HR8.out hK9 (fun k _ ho hf => hf ho))).2.2)
        have HB9 := Lib.hid (HB8.out.trans (KpO.below hK9 HB8.out.size HOw.out))
        have dq : ((rs.length : Int) != (rs.length : Int)) = false := by simp
        clear hT9 hK9 HT8 HR8 HB8
        go_wp2_with fail
        go_loopg [17] rs.length (fun kq v17 wr => ∃ (k : Nat), k + kq = rs.length ∧ v17 = .int .i64 k ∧ Hid (Below w9.heap.size w9 wr))
        case atStart => exact ⟨0, by omega, rfl, Lib.hid (Below.refl _ _)⟩
        case round =>
          obtain ⟨k, hkk, rfl, HBr⟩ := hrel
          by_cases hlt : k < rs.length
          · have hw1 : IntKind.i64.wrap ((k : Int) + 1) = (k : Int) + 1 := IntWalk.i64_in _ (by omega)
            obtain ⟨ad, hA, e0, e1, e2, e3, e4, e5⟩ := at_T83 (C_kp HC9.out HBr.out) (k : Int) (by omega) (by omega)
            rw [Int.toNat_natCast] at e0 e1 e2 e3 e4 e5
            rw [rd_get83 rs k hlt] at e0 e1 e2 e3 e4 e5
            have hmem : rs[k] ∈ rs := List.getElem_mem hlt
            have hrn := HLv.out _ hmem
            have hrt := (HIr.out.2.1 _ hmem).2
            have hk1 := (known_of_mem hmem (t := rs[k].f1 - 1) (by omega)).1
            have hk2 := (known_of_mem hmem (t := now) hrn).2
            subst hA
            generalize rs[k] = r at e0 e1 e2 e3 e4 e5 hrn hrt hk1 hk2
            have hrt' : r.f1 ≤ 1099511627776 := hrt
            have hws : IntKind.i64.wrap (r.f1 - 1) = r.f1 - 1 := IntWalk.i64_in _ (by omega)
            have HK1 := Lib.hid hk1
            have HK2 := Lib.hid hk2
            have hBx : Below wr.heap.size wr (wr.alloc (.cells #[.int .i64 r.f0.f0, .int .u32 r.f0.f1, .int .u32 r.f0.f2, .int .i64 r.f0.f3, .int .i64 r.f0.f4, .int .i64 r.f1] 83)) := below_alloc (Below.refl _ _) _
            have HX := Lib.hid (Blk.new wr 83 [.int .i64 r.f0.f0, .int .u32 r.f0.f1, .int .u32 r.f0.f2, .int .i64 r.f0.f3, .int .i64 r.f0.f4, .int .i64 r.f1])
            have HBx := Lib.hid (HBr.out.trans (hBx.mono HBr.out.size))
            clear hmem hrt hk1 hk2 hBx
            go_wp2_with fail
            generalize (wr.alloc (.cells #[.int .i64 r.f0.f0, .int .u32 r.f0.f1, .int .u32 r.f0.f2, .int .i64 r.f0.f3, .int .i64 r.f0.f4, .int .i64 r.f1] 83)) = wx at HX HBx ⊢
            refine (one_known (One.below PT.stands HT9.out HBx.out) (by omega) r.f0 (r.f1 - 1)).mono ?_
            rw [HK1.out]
            rintro e w10 ⟨rfl, hB10⟩
            have HX10 := Lib.hid (HX.out.below hB10)
            have HB10 := Lib.hid (HBx.out.trans (hB10.mono HBx.out.size))
            have x0 := HX10.out.cell 0 _ rfl
            have x1 := HX10.out.cell 1 _ rfl
            have x2 := HX10.out.cell 2 _ rfl
            have x3 := HX10.out.cell 3 _ rfl
            have x4 := HX10.out.cell 4 _ rfl
            clear hB10 e0 e1 e2 e3 e4 e5
            go_wp2_with fail
            refine (rback_any w10 r.f0).mono ?_
            rintro e w11 ⟨rfl, hB11⟩
            have HB11 := Lib.hid (HB10.out.trans (hB11.mono HB10.out.size))
            clear hB11 x0 x1 x2 x3 x4
            go_wp2_with fail
            refine (one_known (One.below PT.stands HT9.out HB11.out) (by omega) (backF r.f0) now).mono ?_
            rw [HK2.out]
            rintro e w12 ⟨rfl, hB12⟩
            have HB12 := Lib.hid (HB11.out.trans (hB12.mono HB11.out.size))
            clear hB12
            go_wp2_with fail
            go_roundg (rs.length - (k + 1))
            case rel => exact ⟨k + 1, by omega, by go_num, HB12⟩
            case measure => omega
          · have hkm : k = rs.length := by omega
            clear hkk
            go_wp2_with fail
            refine (alive_any wr).mono ?_
            rintro e w10 ⟨rfl, hB10⟩
            have HB10 := Lib.hid ((HB2.out.trans ((HB9.out.trans (HBr.out.mono HB9.out.size)).mono HB2.out.size)).trans (hB10.mono (by have := HB2.out.size; have := HB9.out.size; have := HBr.out.size; omega)))
            clear hB10
            go_wp2_with fail
            go_ret
            exact ⟨rfl, HB10.out⟩
      · have dz : (z.2 != 0) = true := by simp [hz]
        clear hz
        go_wp2_with fail
        refine (alive_any w6).mono ?_
        rintro e w7 ⟨rfl, hB7⟩
        have HB7 := Lib.hid ((HB2.out.trans (HB6.out.mono HB2.out.size)).trans (hB7.mono (by have := HB2.out.size; have := HB6.out.size; omega)))
        clear hB7
        go_wp2_with fail
        go_ret
        exact ⟨rfl, HB7.out⟩
end Go.Proofs.Ytcplmaeicmmkgaa
