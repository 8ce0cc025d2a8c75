/- rutterlaw18.NetKeeps: the law's walk. -/
import Derived.Test.YtnphlghiicbjjaaN23
import Derived.Deep.CutBlock
namespace Go.Proofs.Ytnphlghiicbjjaa
open Go Go.RowKit Go.Proofs.YtnphlghiicbjjaaW.PrintWords Go.Proofs.YtnphlghiicbjjaaW.PrintLast Go.Proofs.Ytnphlghiicbjjaa.PNetPlays
set_option linter.unusedVariables false
set_option linter.unusedSimpArgs false

theorem ne49t (y : S49) (W : World) : (binOp .neq 49 (.agg #[.int .i64 y.f0, .int .i64 y.f1, .string y.f2]) (.agg #[.int .i64 y.f0, .int .i64 y.f1, .string y.f2])).run Try.prog W = .ok (.bool false) W := by
  rw [run_neq_struct, eqA49 9998]
  simp [strl]
set_option maxRecDepth 10000 in
set_option maxHeartbeats 8000000 in
theorem netKeeps_any (w : World) (r : Int) (hr0 : 0 ≤ r) (hr1 : r ≤ 65535) (A : Option Addr) (m c : Nat) (l : List S36) (hC : k36.C w A m l) (hc : m ≤ c) (hK : Kind8 l)
    (B : Option Addr) (mb cb : Nat) (more : List S40) (hD : k40.C w B mb more) (hd : mb ≤ cb) :
    Calls Try.prog 4 #[.int .u16 r, .slice A m c, .slice B mb cb] w (LawPost w) := by
  obtain rfl : l.length = m := hC.1
  obtain rfl : more.length = mb := hD.1
  have HC := Lib.hid hC
  have HD := Lib.hid hD
  have HK8 := Lib.hid hK
  clear hC hK hD
  go_enter Try.func4, Try.ntmps4
  go_wp2_with fail
  refine (fits_any w A c l HC.out hc).mono ?_
  rintro e wa ⟨ok, rfl, hok, hBa⟩
  have Hok := Lib.hid hok
  have HBa := Lib.hid hBa
  have HDa := Lib.hid (C_kp HD.out hBa)
  clear hok hBa
  have hM := Lib.hid (C_one36 wa B cb more HDa.out hd)
  have hBb : Below wa.heap.size wa (wa.alloc (.cells #[.int .u8 0, .slice B more.length cb, .int .i64 0] 36)) := below_alloc (Below.refl _ _) _
  have HBb := Lib.hid (HBa.out.trans (hBb.mono HBa.out.size))
  clear hBb
  go_wp2_with fail
  generalize (wa.alloc (.cells #[.int .u8 0, .slice B more.length cb, .int .i64 0] 36)) = wb at hM HBb ⊢
  refine (fits_any wb (some ⟨wa.heap.size, 0, none⟩) 1 [⟨0, more, 0⟩] hM.out (Nat.le_refl _)).mono ?_
  rintro e wc ⟨ok2, rfl, hok2, hBc⟩
  have Hok2 := Lib.hid hok2
  have HBc := Lib.hid (HBb.out.trans (hBc.mono HBb.out.size))
  clear hok2 hBc hM HBb
  have hs0 : 0 ≤ r % 4097 := by omega
  have hs1 : r % 4097 ≤ 4096 := by omega
  have hmod : Int.tmod r 4097 = r % 4097 := Int.tmod_eq_emod_of_nonneg hr0
  have hwr : IntKind.i64.wrap (r % 4097) = r % 4097 := IntWalk.i64_in _ (by omega)
  have hwu : IntKind.u16.wrap (r % 4097) = r % 4097 := IntWalk.u16_in _ (by omega)
  go_wp2_with fail
  generalize r % 4097 = s at hs0 hs1 ⊢
  clear hmod hwr hwu
  refine (newnt_any wc s hs0 hs1).mono ?_
  rintro e w1 ⟨b, rfl, hN, hB1⟩
  have HO1 := Lib.hid (one_new (P := PN b [] s 0) hB1 hN)
  have HB1 := Lib.hid hB1
  clear hN hB1
  cases ok with
  | false =>
    go_wp2_with fail
    refine (alive_any w1).mono ?_
    rintro e w2 ⟨rfl, hb⟩
    have HB := Lib.hid ((HBc.out.trans (HB1.out.mono HBc.out.size)).trans (hb.mono (by have := HBc.out.size; have := HB1.out.size; omega)))
    clear hb
    go_wp2_with fail
    go_ret
    exact ⟨rfl, HB.out⟩
  | true =>
  cases ok2 with
  | false =>
    go_wp2_with fail
    refine (alive_any w1).mono ?_
    rintro e w2 ⟨rfl, hb⟩
    have HB := Lib.hid ((HBc.out.trans (HB1.out.mono HBc.out.size)).trans (hb.mono (by have := HBc.out.size; have := HB1.out.size; omega)))
    clear hb
    go_wp2_with fail
    go_ret
    exact ⟨rfl, HB.out⟩
  | true =>
  obtain ⟨hlen, htot, hsz⟩ := Hok.out rfl
  obtain ⟨-, htot2, hsz2⟩ := Hok2.out rfl
  have hml : more.length ≤ 100 := by simpa [tot] using htot2
  clear htot2 hsz hsz2 Hok Hok2
  have HCc := Lib.hid (C_kp HC.out (HBc.out.mono (Nat.le_refl _)))
  have HDc := Lib.hid (C_kp HD.out (HBc.out.mono (Nat.le_refl _)))
  clear HC HD HDa HBa
  have HI := Lib.hid (show KI (fun k => k < wc.heap.size) w1 w1 b [] s 0 0 0 from ⟨HO1.out, (fun x hx => by cases hx), by simpa using hs0, KpO.refl _ _, rfl⟩)
  go_wp2_with fail
  go_loopg [12, 13, 14] l.length (fun kq v12 v13 v14 wr => ∃ (k q t p : Nat) (xs : List S40), k + kq = l.length ∧ v12 = .int .i64 p ∧ v13 = .int .i64 t ∧ v14 = .int .i64 k ∧ t ≤ k ∧ q ≤ tot (l.take k) ∧ Hid (KI (fun k => k < wc.heap.size) w1 wr b xs s q t p))
  case atStart => exact ⟨0, 0, 0, 0, [], by omega, rfl, rfl, rfl, Nat.zero_le _, Nat.zero_le _, HI⟩
  case round =>
    clear HI HO1
    obtain ⟨k, q, t, p, xs, hkk, rfl, rfl, rfl, ht, hq, HP⟩ := hrel
    by_cases hlt : k < l.length
    · have hw1 : IntKind.i64.wrap ((k : Int) + 1) = (k : Int) + 1 := IntWalk.i64_in _ (by omega)
      obtain ⟨hT1, hT2⟩ := tot_get l k hlt
      have hBr : Below wc.heap.size wc wr := HB1.out.trans (KpO.below HP.out.2.2.2.1 HB1.out.size (fun k hk => hk))
      obtain ⟨ad, A1, c1, rfl, e0, e1, e2, hle, hC1⟩ := at_T36 HCc.out (k : Int) (by omega) (by omega)
      rw [Int.toNat_natCast] at e0 e1 e2
      have hrd : rd_T36 l (k : Int) = l[k] := rd36 l k hlt
      rw [hrd] at e0 e1 e2 hle hC1
      have hmem : l[k] ∈ l := List.getElem_mem hlt
      obtain ⟨hk0, hk1⟩ := HK8.out _ hmem
      have hC0 : ∀ w', KpO (fun k => k < wc.heap.size) wr w' → k40.C w' A1 l[k].f1.length l[k].f1 := fun w' hK => C_kp hC1 (hBr.trans (KpO.below hK hBr.size (fun k hk => hk)))
      generalize l[k] = a at *
      have E0 := cell_old hBr e0
      have E1 := cell_old hBr e1
      have E2 := cell_old hBr e2
      have He1 := Lib.hid e1
      have HC0 := Lib.hid hC0
      have HT1 := Lib.hid hT1
      have hxl : xs.length ≤ 100000 := by have := HP.out.2.2.1; omega
      have hal : a.f1.length ≤ 100 := by omega
      have hql : q ≤ 100 := by omega
      have hpl : p ≤ 1000000 := by have := HP.out.2.2.2.2; omega
      have hwt : IntKind.i64.wrap ((t : Int) + 1) = (t : Int) + 1 := IntWalk.i64_in _ (by omega)
      have hwp1 : IntKind.i64.wrap ((p : Int) + 1) = (p : Int) + 1 := IntWalk.i64_in _ (by omega)
      clear hC0 hT1 hBr e0 e1 e2 hC1 hrd
      go_upto_block 2 with fail

      go_cut [12, 13] (fun v12 v13 wx => ∃ (q' t' p' : Nat) (xs' : List S40), v12 = .int .i64 p' ∧ v13 = .int .i64 t' ∧ t' ≤ k + 1 ∧ q' ≤ q + a.f1.length ∧ Hid (KI (fun k => k < wc.heap.size) w1 wx b xs' s q' t' p'))
      case first =>
        by_cases h4 : a.f0 % 9 = 4
        · have d4 : (a.f0 % 9 == 4) = true := beq_iff_eq.2 h4
          clear h4
          by_cases hi : 0 ≤ a.f2 ∧ a.f2 < xs.length
          · go_wp2_with fail
            refine (one_take HP.out.1 HP.out.2.1.sz hxl a.f2 hi.1 hi.2).mono ?_
            generalize hx : rd_T40 xs a.f2 = x
            rintro e w3 ⟨A3, c3, rfl, hT3, hK3⟩
            have hlE : (xs.eraseIdx a.f2.toNat).length + 1 = xs.length := by
              rw [List.length_eraseIdx, if_pos (by omega)]; omega
            have hI3 : KI (fun k => k < wc.heap.size) w1 w3 b (xs.eraseIdx a.f2.toNat) s q (t + 1) p := ⟨hT3.one, fun x hx => HP.out.2.1 x (List.mem_of_mem_eraseIdx hx), by have := HP.out.2.2.1; omega, HP.out.2.2.2.1.trans hK3, by have := HP.out.2.2.2.2; omega⟩
            have HI3 := Lib.hid (KI.below hI3 (below_alloc (Below.refl _ _) (.cells #[.int .i64 x.f0, .int .i64 x.f1, .slice A3 x.f2.length c3] 40)))
            clear hT3 hK3 hI3 hlE hx E0 E1 E2
            go_wp2_with fail
            go_meet
            exact ⟨q, t + 1, p, _, rfl, by go_num, by omega, by omega, HI3⟩
          · go_wp2_with fail
            refine (one_take_no HP.out.1 a.f2 (by omega)).mono ?_
            rintro e w3 ⟨rfl, hO3, hK3⟩
            have hI3 : KI (fun k => k < wc.heap.size) w1 w3 b xs s q t p := ⟨hO3, HP.out.2.1, HP.out.2.2.1, HP.out.2.2.2.1.trans hK3, HP.out.2.2.2.2⟩
            have HI3 := Lib.hid (KI.below hI3 (below_alloc (Below.refl _ _) (.cells #[.int .i64 0, .int .i64 0, .slice none 0 0] 40)))
            clear hO3 hK3 hI3 E0 E1 E2
            go_wp2_with fail
            go_meet
            exact ⟨q, t, p, _, rfl, rfl, by omega, by omega, HI3⟩

        by_cases h5 : a.f0 % 9 = 5
        · have d4 : (a.f0 % 9 == 4) = false := beq_eq_false_iff_ne.2 (by omega)
          have d5 : (a.f0 % 9 == 5) = true := beq_iff_eq.2 h5
          clear h4 h5
          by_cases hi : 0 ≤ a.f2 ∧ a.f2 < xs.length
          · go_wp2_with fail
            refine (one_take HP.out.1 HP.out.2.1.sz hxl a.f2 hi.1 hi.2).mono ?_
            generalize hx : rd_T40 xs a.f2 = x
            rintro e w3 ⟨A3, c3, rfl, hT3, hK3⟩
            have hlE : (xs.eraseIdx a.f2.toNat).length + 1 = xs.length := by
              rw [List.length_eraseIdx, if_pos (by omega)]; omega
            have hI3 : KI (fun k => k < wc.heap.size) w1 w3 b (xs.eraseIdx a.f2.toNat) s q (t + 1) p := ⟨hT3.one, fun x hx => HP.out.2.1 x (List.mem_of_mem_eraseIdx hx), by have := HP.out.2.2.1; omega, HP.out.2.2.2.1.trans hK3, by have := HP.out.2.2.2.2; omega⟩
            have HI3 := Lib.hid (KI.below hI3 (below_alloc (Below.refl _ _) (.cells #[.int .i64 x.f0, .int .i64 x.f1, .slice A3 x.f2.length c3] 40)))
            clear hT3 hK3 hI3 hlE hx E0 E1 E2
            go_wp2_with fail
            go_meet
            exact ⟨q, t + 1, p, _, rfl, by go_num, by omega, by omega, HI3⟩
          · go_wp2_with fail
            refine (one_take_no HP.out.1 a.f2 (by omega)).mono ?_
            rintro e w3 ⟨rfl, hO3, hK3⟩
            have hI3 : KI (fun k => k < wc.heap.size) w1 w3 b xs s q t p := ⟨hO3, HP.out.2.1, HP.out.2.2.1, HP.out.2.2.2.1.trans hK3, HP.out.2.2.2.2⟩
            have HI3 := Lib.hid (KI.below hI3 (below_alloc (Below.refl _ _) (.cells #[.int .i64 0, .int .i64 0, .slice none 0 0] 40)))
            clear hO3 hK3 hI3 E0 E1 E2
            go_wp2_with fail
            go_meet
            exact ⟨q, t, p, _, rfl, rfl, by omega, by omega, HI3⟩

        by_cases h6 : a.f0 % 9 = 6
        · have d4 : (a.f0 % 9 == 4) = false := beq_eq_false_iff_ne.2 (by omega)
          have d5 : (a.f0 % 9 == 5) = false := beq_eq_false_iff_ne.2 (by omega)
          have d6 : (a.f0 % 9 == 6) = true := beq_iff_eq.2 h6
          clear h4 h5 h6
          by_cases hi : 0 ≤ a.f2 ∧ a.f2 < xs.length
          · by_cases hr : s ≤ xs.length
            · go_wp2_with fail
              refine (one_dbl_full HP.out.1 HP.out.2.1.sz a.f2 hi.1 hi.2 hr).mono ?_
              rintro e w3 ⟨rfl, hO3, hK3⟩
              have HI3 := Lib.hid (show KI (fun k => k < wc.heap.size) w1 w3 b xs s q t p from ⟨hO3, HP.out.2.1, HP.out.2.2.1, HP.out.2.2.2.1.trans hK3, HP.out.2.2.2.2⟩)
              clear hO3 hK3 E0 E1 E2
              go_wp2_with fail
              go_meet
              exact ⟨q, t, p, _, rfl, rfl, by omega, by omega, HI3⟩
            · go_wp2_with fail
              refine (one_dbl HP.out.1 HP.out.2.1.sz hxl a.f2 hi.1 hi.2 (by omega)).mono ?_
              have hxo := HP.out.2.1 _ (rd_mem hi.1 hi.2)
              generalize rd_T40 xs a.f2 = x at hxo ⊢
              rintro e w3 ⟨rfl, hO3, hK3⟩
              have HI3 := Lib.hid (show KI (fun k => k < wc.heap.size) w1 w3 b (xs ++ [x]) s q t (p + 1) from ⟨hO3, fun y hy => by
                rcases List.mem_append.1 hy with hy | hy
                · exact HP.out.2.1 y hy
                · obtain rfl : y = x := by simpa using hy
                  exact hxo, by rw [List.length_append, List.length_singleton]; omega, HP.out.2.2.2.1.trans hK3, by rw [List.length_append, List.length_singleton]; have := HP.out.2.2.2.2; omega⟩)
              clear hO3 hK3 hxo E0 E1 E2
              go_wp2_with fail
              go_meet
              exact ⟨q, t, p + 1, _, by go_num, rfl, by omega, by omega, HI3⟩
          · go_wp2_with fail
            refine (one_dbl_no HP.out.1 a.f2 (by omega)).mono ?_
            rintro e w3 ⟨rfl, hO3, hK3⟩
            have HI3 := Lib.hid (show KI (fun k => k < wc.heap.size) w1 w3 b xs s q t p from ⟨hO3, HP.out.2.1, HP.out.2.2.1, HP.out.2.2.2.1.trans hK3, HP.out.2.2.2.2⟩)
            clear hO3 hK3 E0 E1 E2
            go_wp2_with fail
            go_meet
            exact ⟨q, t, p, _, rfl, rfl, by omega, by omega, HI3⟩

        have d4 : (a.f0 % 9 == 4) = false := beq_eq_false_iff_ne.2 (by omega)
        have d5 : (a.f0 % 9 == 5) = false := beq_eq_false_iff_ne.2 (by omega)
        have d6 : (a.f0 % 9 == 6) = false := beq_eq_false_iff_ne.2 (by omega)
        by_cases g0 : a.f0 % 9 = 0
        · have d0 : (a.f0 % 9 == 0) = true := beq_iff_eq.2 g0
          clear h4 h5 h6 g0
          go_wp2_with fail
          refine (one_put HP.out.1 A1 a.f1.length c1 a.f1 HC0.out (by omega) (by omega)).mono ?_
          have hzO := putAll_ok s xs q a.f1 HP.out.2.1
          have hzl := putAll_le s (xs, 0, q) a.f1 HP.out.2.2.1
          have hlen := putAll_len s (xs, 0, q) a.f1
          generalize putAll s (xs, 0, q) a.f1 = z at hzO hzl hlen ⊢
          rintro e w3 ⟨rfl, hO3, hK3⟩
          have hlen1 : z.1.length + 0 = xs.length + z.2.1 := hlen.1
          have hlen2 : z.2.1 + z.2.2 = 0 + q + a.f1.length := hlen.2
          have HI3 := Lib.hid (show KI (fun k => k < wc.heap.size) w1 w3 b z.1 s z.2.2 t (p + a.f1.length) from ⟨hO3, hzO, hzl, HP.out.2.2.2.1.trans hK3, by have := HP.out.2.2.2.2; omega⟩)
          have hwp : IntKind.i64.wrap ((p : Int) + (a.f1.length : Int)) = (p : Int) + (a.f1.length : Int) := IntWalk.i64_in _ (by omega)
          have hq3 : z.2.2 ≤ q + a.f1.length := by omega
          have E1' := cell_old (HB1.out.trans (KpO.below (HP.out.2.2.2.1.trans hK3) HB1.out.size (fun k hk => hk))) He1.out
          clear hO3 hK3 hzO hzl hlen hlen1 hlen2 E0 E1 E2
          go_wp2_with fail
          go_meet
          exact ⟨z.2.2, t, p + a.f1.length, z.1, by go_num, rfl, by omega, by omega, HI3⟩

        have d0 : (a.f0 % 9 == 0) = false := beq_eq_false_iff_ne.2 g0
        by_cases g1 : a.f0 % 9 = 1
        · have d1 : (a.f0 % 9 == 1) = true := beq_iff_eq.2 g1
          clear h4 h5 h6 g0 g1
          go_wp2_with fail
          refine (one_put HP.out.1 A1 a.f1.length c1 a.f1 HC0.out (by omega) (by omega)).mono ?_
          have hzO := putAll_ok s xs q a.f1 HP.out.2.1
          have hzl := putAll_le s (xs, 0, q) a.f1 HP.out.2.2.1
          have hlen := putAll_len s (xs, 0, q) a.f1
          generalize putAll s (xs, 0, q) a.f1 = z at hzO hzl hlen ⊢
          rintro e w3 ⟨rfl, hO3, hK3⟩
          have hlen1 : z.1.length + 0 = xs.length + z.2.1 := hlen.1
          have hlen2 : z.2.1 + z.2.2 = 0 + q + a.f1.length := hlen.2
          have HI3 := Lib.hid (show KI (fun k => k < wc.heap.size) w1 w3 b z.1 s z.2.2 t (p + a.f1.length) from ⟨hO3, hzO, hzl, HP.out.2.2.2.1.trans hK3, by have := HP.out.2.2.2.2; omega⟩)
          have hwp : IntKind.i64.wrap ((p : Int) + (a.f1.length : Int)) = (p : Int) + (a.f1.length : Int) := IntWalk.i64_in _ (by omega)
          have hq3 : z.2.2 ≤ q + a.f1.length := by omega
          have E1' := cell_old (HB1.out.trans (KpO.below (HP.out.2.2.2.1.trans hK3) HB1.out.size (fun k hk => hk))) He1.out
          clear hO3 hK3 hzO hzl hlen hlen1 hlen2 E0 E1 E2
          go_wp2_with fail
          go_meet
          exact ⟨z.2.2, t, p + a.f1.length, z.1, by go_num, rfl, by omega, by omega, HI3⟩

        have d1 : (a.f0 % 9 == 1) = false := beq_eq_false_iff_ne.2 g1
        by_cases g2 : a.f0 % 9 = 2
        · have d2 : (a.f0 % 9 == 2) = true := beq_iff_eq.2 g2
          clear h4 h5 h6 g0 g1 g2
          go_wp2_with fail
          refine (one_put HP.out.1 A1 a.f1.length c1 a.f1 HC0.out (by omega) (by omega)).mono ?_
          have hzO := putAll_ok s xs q a.f1 HP.out.2.1
          have hzl := putAll_le s (xs, 0, q) a.f1 HP.out.2.2.1
          have hlen := putAll_len s (xs, 0, q) a.f1
          generalize putAll s (xs, 0, q) a.f1 = z at hzO hzl hlen ⊢
          rintro e w3 ⟨rfl, hO3, hK3⟩
          have hlen1 : z.1.length + 0 = xs.length + z.2.1 := hlen.1
          have hlen2 : z.2.1 + z.2.2 = 0 + q + a.f1.length := hlen.2
          have HI3 := Lib.hid (show KI (fun k => k < wc.heap.size) w1 w3 b z.1 s z.2.2 t (p + a.f1.length) from ⟨hO3, hzO, hzl, HP.out.2.2.2.1.trans hK3, by have := HP.out.2.2.2.2; omega⟩)
          have hwp : IntKind.i64.wrap ((p : Int) + (a.f1.length : Int)) = (p : Int) + (a.f1.length : Int) := IntWalk.i64_in _ (by omega)
          have hq3 : z.2.2 ≤ q + a.f1.length := by omega
          have E1' := cell_old (HB1.out.trans (KpO.below (HP.out.2.2.2.1.trans hK3) HB1.out.size (fun k hk => hk))) He1.out
          clear hO3 hK3 hzO hzl hlen hlen1 hlen2 E0 E1 E2
          go_wp2_with fail
          go_meet
          exact ⟨z.2.2, t, p + a.f1.length, z.1, by go_num, rfl, by omega, by omega, HI3⟩

        have d2 : (a.f0 % 9 == 2) = false := beq_eq_false_iff_ne.2 g2
        by_cases g3 : a.f0 % 9 = 3
        · have d3 : (a.f0 % 9 == 3) = true := beq_iff_eq.2 g3
          clear h4 h5 h6 g0 g1 g2 g3
          go_wp2_with fail
          refine (one_put HP.out.1 A1 a.f1.length c1 a.f1 HC0.out (by omega) (by omega)).mono ?_
          have hzO := putAll_ok s xs q a.f1 HP.out.2.1
          have hzl := putAll_le s (xs, 0, q) a.f1 HP.out.2.2.1
          have hlen := putAll_len s (xs, 0, q) a.f1
          generalize putAll s (xs, 0, q) a.f1 = z at hzO hzl hlen ⊢
          rintro e w3 ⟨rfl, hO3, hK3⟩
          have hlen1 : z.1.length + 0 = xs.length + z.2.1 := hlen.1
          have hlen2 : z.2.1 + z.2.2 = 0 + q + a.f1.length := hlen.2
          have HI3 := Lib.hid (show KI (fun k => k < wc.heap.size) w1 w3 b z.1 s z.2.2 t (p + a.f1.length) from ⟨hO3, hzO, hzl, HP.out.2.2.2.1.trans hK3, by have := HP.out.2.2.2.2; omega⟩)
          have hwp : IntKind.i64.wrap ((p : Int) + (a.f1.length : Int)) = (p : Int) + (a.f1.length : Int) := IntWalk.i64_in _ (by omega)
          have hq3 : z.2.2 ≤ q + a.f1.length := by omega
          have E1' := cell_old (HB1.out.trans (KpO.below (HP.out.2.2.2.1.trans hK3) HB1.out.size (fun k hk => hk))) He1.out
          clear hO3 hK3 hzO hzl hlen hlen1 hlen2 E0 E1 E2
          go_wp2_with fail
          go_meet
          exact ⟨z.2.2, t, p + a.f1.length, z.1, by go_num, rfl, by omega, by omega, HI3⟩

        have d3 : (a.f0 % 9 == 3) = false := beq_eq_false_iff_ne.2 g3
        clear h4 h5 h6 g0 g1 g2 g3
        go_wp2_with fail
        go_meet
        exact ⟨q, t, p, xs, rfl, rfl, by omega, by omega, HP⟩
      case rest =>
        clear HP E0 E1 E2 hmem hk0 hk1
        obtain ⟨q', t', p', xs', rfl, rfl, ht', hq', HI⟩ := hcut
        have hxs := HI.out.2.2.1
        have hs5 := HI.out.2.2.2.2
        have hT1 := HT1.out
        have hwa1 : IntKind.i64.wrap ((xs'.length : Int) + (t' : Int)) = (xs'.length : Int) + (t' : Int) := IntWalk.i64_in _ (by omega)
        have hwa2 : IntKind.i64.wrap ((xs'.length : Int) + (t' : Int) + (q' : Int)) = (p' : Int) := by rw [IntWalk.i64_in _ (by omega)]; omega
        have dn : decide ((xs'.length : Int) < 0) = false := decide_eq_false (by omega)
        have dg : decide (s < (xs'.length : Int)) = false := decide_eq_false (by omega)
        clear hs5 hT1
        go_wp2_with fail
        refine (one_len HI.out.1).mono ?_
        rintro e w4 ⟨rfl, hw4⟩
        subst hw4
        go_wp2_with fail
        refine (one_len HI.out.1).mono ?_
        rintro e w4 ⟨rfl, hw4⟩
        subst hw4
        go_wp2_with fail
        refine (one_len HI.out.1).mono ?_
        rintro e w4 ⟨rfl, hw4⟩
        subst hw4
        go_wp2_with fail
        refine (one_lost HI.out.1 (by omega)).mono ?_
        rintro e w4 ⟨rfl, hw4⟩
        subst hw4
        go_wp2_with fail
        have hT1 := HT1.out
        go_roundg (l.length - (k + 1))
        case rel => exact ⟨k + 1, q', t', p', xs', by omega, rfl, rfl, by go_num, by omega, by omega, HI⟩
        case measure => omega
    · have hkl : k = l.length := by omega
      clear HK8 hkk
      have hxl : xs.length ≤ 4096 := by have := HP.out.2.2.1; omega
      have hql : q ≤ 100 := by subst hkl; rw [List.take_length] at hq; omega
      clear ht hq
      go_wp2_with fail
      refine (one_len HP.out.1).mono ?_
      rintro e w4 ⟨rfl, hw4⟩
      subst hw4
      go_wp2_with fail
      refine (one_put HP.out.1 B more.length cb more (fun w' hK => C_kp HDc.out (HB1.out.trans (KpO.below (HP.out.2.2.2.1.trans hK) HB1.out.size (fun k hk => hk)))) (by omega) (by omega)).mono ?_
      have hzO := putAll_ok s xs q more HP.out.2.1
      have hzl := putAll_le s (xs, 0, q) more HP.out.2.2.1
      have hlen := putAll_len s (xs, 0, q) more
      obtain ⟨ys, hys⟩ := putAll_pre s xs q more
      generalize hz : putAll s (xs, 0, q) more = z at hzO hzl hlen hys ⊢
      have HZ := Lib.hid hz
      have hxs0 := HP.out.2.2.1
      clear hz
      rintro e w5 ⟨rfl, hO5, hK5⟩
      have hlen1 : z.1.length + 0 = xs.length + z.2.1 := hlen.1
      have HO5 := Lib.hid hO5
      have HB5 := Lib.hid (HB1.out.trans (KpO.below (HP.out.2.2.2.1.trans hK5) HB1.out.size (fun k hk => hk)))
      have HS5 := Lib.hid hzO
      have HY5 := Lib.hid hys
      have hz0 : z.2.1 ≤ 5000 := by omega
      have hzx : xs.length ≤ z.1.length := by omega
      have hzm : z.1.length ≤ 4096 := by omega
      have dn : decide (((z.2.1 : Nat) : Int) < 0) = false := decide_eq_false (by omega)
      have hwp : IntKind.i64.wrap ((xs.length : Int) + ((z.2.1 : Nat) : Int)) = (z.1.length : Int) := by rw [IntWalk.i64_in _ (by omega)]; omega
      clear hO5 hK5 hzO hzl hlen hlen1 hys HP
      go_wp2_with fail
      refine (one_len HO5.out).mono ?_
      rintro e w4 ⟨rfl, hw4⟩
      subst w4
      go_wp2_with fail
      go_loopg [19, 20] xs.length (fun kq v19 v20 wr => ∃ (k : Nat) (A0 : Option Addr) (n0 c0 : Nat), k + kq = xs.length ∧ v20 = .int .i64 k ∧ v19 = .slice A0 n0 c0 ∧ Hid (k49.R 49 wr w5.heap.size (fun _ => True) (.slice A0 n0 c0) ((z.1.take k).map toR)) ∧ Hid (Below w5.heap.size w5 wr))
      case atStart => exact ⟨0, none, 0, 0, by omega, rfl, rfl, Lib.hid (Kd.R_nil _ _ _ _ _), Lib.hid (Below.refl _ _)⟩
      case round =>
        obtain ⟨k, A0, n0, c0, hkk, rfl, rfl, HR, HB⟩ := hrel
        by_cases hlt : k < xs.length
        · have hw1 : IntKind.i64.wrap ((k : Int) + 1) = (k : Int) + 1 := IntWalk.i64_in _ (by omega)
          have hkz : k < z.1.length := by omega
          have HOk := Lib.hid (One.below PN.stands HO5.out HB.out)
          go_wp2_with fail
          refine (one_at HOk.out HS5.out.sz (k : Int) (by omega) (by omega)).mono ?_
          rw [rd_get z.1 k hkz]
          have htk : z.1.take (k + 1) = z.1.take k ++ [z.1[k]] := List.take_succ_eq_append_getElem hkz
          have hll : ((z.1.take k).map toR).length = k := by rw [List.length_map, List.length_take]; omega
          generalize z.1[k] = x at htk ⊢
          generalize z.1.take k = L at htk HR hll
          rintro e w6 ⟨v, rfl, u, rfl, hR6, hB6⟩
          obtain ⟨A2, c2, rfl⟩ := Kd.R_slice hR6
          have hc2 := (Kd.R_reads' hR6).2.1
          have HC6 := Lib.hid (Kd.R_reads' hR6).2.2
          have hB6a : Below wr.heap.size wr (w6.alloc (.cells #[.int .i64 x.f0, .int .i64 x.f1, .slice A2 x.f2.length c2] 40)) := below_alloc hB6 _
          have HC6a := Lib.hid (C_kp HC6.out (below_alloc (Below.refl _ _) (.cells #[.int .i64 x.f0, .int .i64 x.f1, .slice A2 x.f2.length c2] 40)))
          have HX6 := Lib.hid (Blk.new w6 40 [.int .i64 x.f0, .int .i64 x.f1, .slice A2 x.f2.length c2])
          have HB6 := Lib.hid hB6a
          have HTK := Lib.hid htk
          have HLL := Lib.hid hll
          clear hR6 hB6 hB6a htk hll HC6
          go_wp2_with fail
          refine (of_any _ x _ ⟨A2, c2, rfl, hc2, HC6a.out⟩).mono ?_
          unfold val49
          generalize hy : toR x = y
          rintro e w7 ⟨rfl, hB7⟩
          have HYX := Lib.hid hy
          have hB7w : Below wr.heap.size wr w7 := HB6.out.trans (hB7.mono HB6.out.size)
          have HR7 := Lib.hid (Kd.R_below HR.out hB7w)
          have HB7 := Lib.hid (HB.out.trans (hB7w.mono HB.out.size))
          have HpM := Lib.hid (k49_mkM w7 w5.heap.size (fun k => some k ≠ (Value.slice A0 n0 c0).ownBlock) y)
          have hle7 := HB7.out.size
          have hl7 : ((L.map toR).length + 1) * 32 ≤ 140737488355328 := by rw [HLL.out]; omega
          clear hy hB7 hB7w
          go_wp2_with (at_builtin; refine ev_appR k49 (W := w7) (v := .slice A0 n0 c0) w5.heap.size rfl _ _ 30 49 _ 32 rfl Try.underlying30 N_info49 rfl (by decide) (by decide) rfl rfl HpM.out HR7.out hle7 hl7 ?_; intro A4 n4 c4 w8 _ hR8 hB8 _; have HB8 := Lib.hid (HB7.out.trans hB8); have HR8 := Lib.hid hR8; clear hB8 hR8)
          go_roundg (xs.length - (k + 1))
          case rel => exact ⟨k + 1, A4, n4, c4, by omega, by go_num, rfl, Lib.hid (by rw [HTK.out, List.map_append, List.map_cons, List.map_nil, HYX.out]; exact HR8.out), HB8⟩
          case measure => omega
        · have hkx : k = xs.length := by omega
          clear hkk
          have htx : z.1.take k = xs := by rw [hkx, HY5.out, List.take_left]
          rw [htx] at HR
          have HR0 := Lib.hid (show k49.R 49 wr w5.heap.size (fun _ => True) (.slice A0 n0 c0) ((putAll s (xs, 0, q) (more.take 0)).1.map toR) from HR.out)
          clear htx HR hkx HY5
          go_wp2_with fail
          go_loopg [19, 23] more.length (fun kq v19 v23 wr => ∃ (k : Nat) (A0 : Option Addr) (n0 c0 : Nat), k + kq = more.length ∧ v23 = .int .i64 k ∧ v19 = .slice A0 n0 c0 ∧ Hid (k49.R 49 wr w5.heap.size (fun _ => True) (.slice A0 n0 c0) ((putAll s (xs, 0, q) (more.take k)).1.map toR)) ∧ Hid (Below w5.heap.size w5 wr))
          case atStart => exact ⟨0, A0, n0, c0, by omega, rfl, rfl, HR0, HB⟩
          case round =>
            clear HR0 HB
            obtain ⟨k, A0, n0, c0, hkk, rfl, rfl, HR, HB⟩ := hrel
            by_cases hlt : k < more.length
            · have hw1 : IntKind.i64.wrap ((k : Int) + 1) = (k : Int) + 1 := IntWalk.i64_in _ (by omega)
              obtain ⟨ad, A2, c2, hA, e0, e1, e2, hle, hC2⟩ := at_T40 (C_kp HDc.out (HB5.out.trans (HB.out.mono HB5.out.size))) (k : Int) (by omega) (by omega)
              rw [Int.toNat_natCast] at e0 e1 e2
              rw [rd_get more k hlt] at e0 e1 e2 hle hC2
              have htk : more.take (k + 1) = more.take k ++ [more[k]] := List.take_succ_eq_append_getElem hlt
              have hnx := putAll_fst s xs q (more.take k) more[k]
              rw [← htk] at hnx
              have hLl : ((putAll s (xs, 0, q) (more.take k)).1.length : Int) ≤ s := putAll_le s (xs, 0, q) _ hxs0
              generalize more[k] = x at e0 e1 e2 hle hC2 hnx
              generalize (putAll s (xs, 0, q) (more.take k)).1 = L at HR hnx hLl
              have hn : n0 = L.length := by have := (Kd.R_reads' HR.out).1; rw [List.length_map] at this; omega
              subst hn
              subst hA
              have He := Lib.hid (And.intro e0 (And.intro e1 e2))
              have HC2 := Lib.hid hC2
              have HNX := Lib.hid hnx
              clear hC2 hnx htk
              go_wp2_with fail
              refine (of_any wr x _ ⟨A2, c2, rfl, hle, HC2.out⟩).mono ?_
              unfold val49
              generalize hy : toR x = y
              rintro e w6 ⟨rfl, hB6⟩
              have hoky : okR y = okI x := by rw [← hy]; exact ok_toR x
              have HYX := Lib.hid hy
              have HB6 := Lib.hid hB6
              clear hy hB6 e0 e1 e2
              go_wp2_with fail
              refine (rutterref18_Right.calls y.f0 y.f1 y.f2 _ _ (right_okR y)).mono ?_
              rintro e w7 ⟨rfl, hB7⟩
              have HB7 := Lib.hid (HB6.out.trans (hB7.mono HB6.out.size))
              have hR7 := Kd.R_below HR.out HB7.out
              have HR7 := Lib.hid hR7
              have HB7w := Lib.hid (HB.out.trans (HB7.out.mono HB.out.size))
              rw [hoky]
              clear hB7 hR7 hoky
              by_cases hok : okI x = true ∧ (L.length : Int) < s
              · rw [hok.1]
                have dl : decide ((L.length : Int) < s) = true := decide_eq_true hok.2
                have HN2 := Lib.hid (HNX.out.trans (if_pos hok))
                have e0 := cell_old HB7.out He.out.1
                have e1 := cell_old HB7.out He.out.2.1
                have e2 := cell_old HB7.out He.out.2.2
                clear hok
                go_wp2_with fail
                refine (of_any w7 x _ ⟨A2, c2, rfl, hle, C_kp HC2.out HB7.out⟩).mono ?_
                unfold val49
                rw [HYX.out]
                rintro e w8 ⟨rfl, hB8⟩
                have HR8 := Lib.hid (Kd.R_below HR7.out hB8)
                have HB8 := Lib.hid (HB7w.out.trans (hB8.mono HB7w.out.size))
                have HpM := Lib.hid (k49_mkM w8 w5.heap.size (fun k => some k ≠ (Value.slice A0 L.length c0).ownBlock) y)
                have hle8 := HB8.out.size
                have hl8 : ((L.map toR).length + 1) * 32 ≤ 140737488355328 := by rw [List.length_map]; omega
                clear hB8 e0 e1 e2
                go_wp2_with (at_builtin; refine ev_appR k49 (W := w8) (v := .slice A0 L.length c0) w5.heap.size rfl _ _ 30 49 _ 32 rfl Try.underlying30 N_info49 rfl (by decide) (by decide) rfl rfl HpM.out HR8.out hle8 hl8 ?_; intro A4 n4 c4 w9 _ hR9 hB9 _; have HB9 := Lib.hid (HB8.out.trans hB9); have HR9 := Lib.hid hR9; clear hB9 hR9)
                go_roundg (more.length - (k + 1))
                case rel => exact ⟨k + 1, A4, n4, c4, by omega, by go_num, rfl, Lib.hid (by rw [HN2.out, List.map_append, List.map_cons, List.map_nil, HYX.out]; exact HR9.out), HB9⟩
                case measure => omega
              · have HN2 := Lib.hid (HNX.out.trans (if_neg hok))
                cases hox : okI x with
                | false =>
                  clear hok hox
                  go_wp2_with fail
                  go_roundg (more.length - (k + 1))
                  case rel => exact ⟨k + 1, A0, _, c0, by omega, by go_num, rfl, Lib.hid (by rw [HN2.out]; exact HR7.out), HB7w⟩
                  case measure => omega
                | true =>
                  have dl : decide ((L.length : Int) < s) = false := decide_eq_false (fun h => hok ⟨hox, h⟩)
                  clear hok hox
                  go_wp2_with fail
                  go_roundg (more.length - (k + 1))
                  case rel => exact ⟨k + 1, A0, _, c0, by omega, by go_num, rfl, Lib.hid (by rw [HN2.out]; exact HR7.out), HB7w⟩
                  case measure => omega
            · have hkm : k = more.length := by omega
              subst hkm
              rw [List.take_length, HZ.out] at HR
              have hn : n0 = z.1.length := by have := (Kd.R_reads' HR.out).1; rw [List.length_map] at this; omega
              subst hn
              have HT0 := Lib.hid (show Two (fun k => k < wc.heap.size) wr (PN b (z.1.drop 0) s z.2.2) (QW (.slice A0 z.1.length c0) (z.1.map toR)) from One.two PN.stands HO5.out HB.out (R_new_ext HR.out _))
              have HBq := Lib.hid (HB5.out.trans (HB.out.mono HB5.out.size))
              clear hkk HR HZ HDc
              go_wp2_with fail
              go_loopg [25] z.1.length (fun kq v25 wx => ∃ (k : Nat), k + kq = z.1.length ∧ v25 = .int .i64 k ∧ Hid (Two (fun k => k < wc.heap.size) wx (PN b (z.1.drop k) s z.2.2) (QW (.slice A0 z.1.length c0) (z.1.map toR))) ∧ Hid (KpO (fun k => k < wc.heap.size) wr wx))
              case atStart => exact ⟨0, by omega, rfl, HT0, Lib.hid (KpO.refl _ _)⟩
              case round =>
                clear HT0
                obtain ⟨k, hkk, rfl, HT, HKq⟩ := hrel
                by_cases hlt : k < z.1.length
                · have hw1 : IntKind.i64.wrap ((k : Int) + 1) = (k : Int) + 1 := IntWalk.i64_in _ (by omega)
                  have hdl : (z.1.drop k).length = z.1.length - k := List.length_drop
                  have hSd : SzI (z.1.drop k) := fun x hx => HS5.out.sz x (List.mem_of_mem_drop hx)
                  have HSd := Lib.hid hSd
                  have hd0 : 0 < (z.1.drop k).length := by omega
                  have hd1 : (z.1.drop k).length ≤ 100000 := by omega
                  have hx0 : rd_T40 (z.1.drop k) 0 = z.1[k] := by
                    have := rd_get (z.1.drop k) 0 hd0
                    rw [List.getElem_drop] at this
                    exact this
                  have her : (z.1.drop k).eraseIdx (0 : Int).toNat = z.1.drop (k + 1) := by rw [show (0 : Int).toNat = 0 from rfl, List.eraseIdx_zero, List.tail_drop]
                  have hyk : rd_T49 (z.1.map toR) (k : Int) = toR z.1[k] := by rw [rd_toR z.1 k (by omega) (by omega), rd_get z.1 k hlt]
                  have HX0 := Lib.hid hx0
                  have HER := Lib.hid her
                  have HYK := Lib.hid hyk
                  clear hdl hSd hx0 her hyk
                  go_wp2_with fail
                  refine (two_take QW.stands HT.out HSd.out hd1 0 (Int.le_refl 0) (by omega)).mono ?_
                  rw [HX0.out, HER.out]
                  generalize z.1[k] = x at HX0 HYK ⊢
                  rintro e w6 ⟨A2, c2, rfl, hT6, hK6⟩
                  obtain ⟨A2', c2', hv, hc2, hC6⟩ := hT6.bytes
                  injection hv with hv1 hv2 hv3
                  subst hv1 hv3
                  obtain ⟨G, hG⟩ := hT6.right
                  have hCw : k49.C w6 A0 z.1.length (z.1.map toR) := by have := (Kd.R_reads' hG).2.2; rwa [List.length_map] at this
                  obtain ⟨ad, hA, e0, e1, e2⟩ := at_T49 hCw (k : Int) (by omega) (by omega)
                  clear hCw
                  rw [Int.toNat_natCast, HYK.out] at e0 e1 e2
                  subst hA
                  have hB7 : Below w6.heap.size w6 (w6.alloc (.cells #[.int .i64 x.f0, .int .i64 x.f1, .slice A2 x.f2.length c2] 40)) := below_alloc (Below.refl _ _) _
                  have HX7 := Lib.hid (Blk.new w6 40 [.int .i64 x.f0, .int .i64 x.f1, .slice A2 x.f2.length c2])
                  have f0 := cell_old hB7 e0
                  have f1 := cell_old hB7 e1
                  have f2 := cell_old hB7 e2
                  have HC7 := Lib.hid (C_kp hC6 hB7)
                  have HT7 := Lib.hid (Two.below PN.stands QW.stands hT6.drop hB7)
                  have HK7 := Lib.hid (HKq.out.trans (hK6.trans (KpO.of_below hB7)))
                  have hof := fun w' v (h : ItemC w' x v) => of_any w' x v h
                  unfold val49 at hof
                  generalize toR x = y at hof f0 f1 f2 HYK
                  have Hof := Lib.hid hof
                  have hne := ne49t y
                  have hg := eqg49
                  clear e0 e1 e2 hB7 hC6 hT6 hK6 hv2 hG hof
                  go_wp2_with fail
                  generalize w6.alloc (.cells #[.int .i64 x.f0, .int .i64 x.f1, .slice A2 x.f2.length c2] 40) = w7 at HX7 HC7 HT7 HK7 f0 f1 f2 ⊢
                  refine seq_start (fun w' => w'.cell? ⟨w6.heap.size, 0, none⟩ = some (.int .i64 x.f0) ∧ w'.cell? ⟨w6.heap.size, 1, none⟩ = some (.int .i64 x.f1) ∧ w'.cell? ⟨w6.heap.size, 2, none⟩ = some (.slice A2 x.f2.length c2) ∧ w'.cell? (ad.add (k * 3)) = some (.int .i64 y.f0) ∧ w'.cell? ⟨(ad.add (k * 3)).block, (ad.add (k * 3)).off + 1, none⟩ = some (.int .i64 y.f1) ∧ w'.cell? ⟨(ad.add (k * 3)).block, (ad.add (k * 3)).off + 2, none⟩ = some (.string y.f2)) [] [(0, 0), (1, 0), (2, 0), (3, 1), (5, 0), (6, 0), (7, 0), (8, 1), (4, 2), (9, 0), (10, 0)] (by kernel_rfl) (by kernel_rfl) ⟨HX7.out.cell 0 _ rfl, HX7.out.cell 1 _ rfl, HX7.out.cell 2 _ rfl, f0, f1, f2⟩ ?_
                  intro hS
                  (refine seq_v (some 207) (v := ?_) (a' := ?_) rfl rfl (fun _ _ _ h => h) (Or.inl ⟨by rfl, ?_⟩) ?_ ?_; rotate_left 2; (· intro w'; go_simp; with_reducible rfl); (· simp only [Act.put, List.setIfInBounds_toArray, List.set_cons_zero, List.set_cons_succ, i64_w, i32_w]; rfl))
                  (refine seq_v (some 208) (v := ?_) (a' := ?_) rfl rfl (fun _ _ _ h => h) (Or.inl ⟨by rfl, ?_⟩) ?_ ?_; rotate_left 2; (· intro w'; go_simp; with_reducible rfl); (· simp only [Act.put, List.setIfInBounds_toArray, List.set_cons_zero, List.set_cons_succ, i64_w, i32_w]; rfl))
                  (refine seq_v (some 209) (v := ?_) (a' := ?_) rfl rfl (fun _ _ _ h => h) (Or.inl ⟨by rfl, ?_⟩) ?_ ?_; rotate_left 2; (· intro w'; go_simp; with_reducible rfl); (· simp only [Act.put, List.setIfInBounds_toArray, List.set_cons_zero, List.set_cons_succ, i64_w, i32_w]; rfl))
                  first | (refine seq_l (some 210) (v := ?_) (a' := ?_) rfl rfl (fun _ _ _ h => h) (by assumption) (Or.inl ⟨by rfl, ?_⟩) ?_ ?_; rotate_left 2; (· intro w' hS'; (try dsimp only at hS'); go_simp; with_reducible rfl); (· simp only [Act.put, List.setIfInBounds_toArray, List.set_cons_zero, List.set_cons_succ, i64_w, i32_w]; rfl)) | (refine seq_l (some 210) (v := undef) (a' := ?_) rfl rfl (fun _ _ _ h => h) (by assumption) (Or.inr ⟨by rfl, rfl⟩) ?_ ?_; rotate_left; (· simp only [Act.put, List.setIfInBounds_toArray, List.set_cons_zero, List.set_cons_succ, i64_w, i32_w]; rfl))
                  first | (refine seq_v (some 212) (v := ?_) (a' := ?_) rfl rfl (fun _ _ _ h => h) (Or.inl ⟨by rfl, ?_⟩) ?_ ?_; rotate_left 2; (· intro w'; go_simp; with_reducible rfl); (· simp only [Act.put, List.setIfInBounds_toArray, List.set_cons_zero, List.set_cons_succ, i64_w, i32_w]; rfl)) | (refine seq_v (some 212) (v := undef) (a' := ?_) rfl rfl (fun _ _ _ h => h) (Or.inr ⟨by rfl, rfl⟩) ?_ ?_; rotate_left; (· simp only [Act.put, List.setIfInBounds_toArray, List.set_cons_zero, List.set_cons_succ, i64_w, i32_w]; rfl))
                  first | (refine seq_v (some 213) (v := ?_) (a' := ?_) rfl rfl (fun _ _ _ h => h) (Or.inl ⟨by rfl, ?_⟩) ?_ ?_; rotate_left 2; (· intro w'; go_simp; with_reducible rfl); (· simp only [Act.put, List.setIfInBounds_toArray, List.set_cons_zero, List.set_cons_succ, i64_w, i32_w]; rfl)) | (refine seq_v (some 213) (v := undef) (a' := ?_) rfl rfl (fun _ _ _ h => h) (Or.inr ⟨by rfl, rfl⟩) ?_ ?_; rotate_left; (· simp only [Act.put, List.setIfInBounds_toArray, List.set_cons_zero, List.set_cons_succ, i64_w, i32_w]; rfl))
                  first | (refine seq_v (some 214) (v := ?_) (a' := ?_) rfl rfl (fun _ _ _ h => h) (Or.inl ⟨by rfl, ?_⟩) ?_ ?_; rotate_left 2; (· intro w'; go_simp; with_reducible rfl); (· simp only [Act.put, List.setIfInBounds_toArray, List.set_cons_zero, List.set_cons_succ, i64_w, i32_w]; rfl)) | (refine seq_v (some 214) (v := undef) (a' := ?_) rfl rfl (fun _ _ _ h => h) (Or.inr ⟨by rfl, rfl⟩) ?_ ?_; rotate_left; (· simp only [Act.put, List.setIfInBounds_toArray, List.set_cons_zero, List.set_cons_succ, i64_w, i32_w]; rfl))
                  first | (refine seq_l (some 215) (v := ?_) (a' := ?_) rfl rfl (fun _ _ _ h => h) (by assumption) (Or.inl ⟨by rfl, ?_⟩) ?_ ?_; rotate_left 2; (· intro w' hS'; (try dsimp only at hS'); go_simp; with_reducible rfl); (· simp only [Act.put, List.setIfInBounds_toArray, List.set_cons_zero, List.set_cons_succ, i64_w, i32_w]; rfl)) | (refine seq_l (some 215) (v := undef) (a' := ?_) rfl rfl (fun _ _ _ h => h) (by assumption) (Or.inr ⟨by rfl, rfl⟩) ?_ ?_; rotate_left; (· simp only [Act.put, List.setIfInBounds_toArray, List.set_cons_zero, List.set_cons_succ, i64_w, i32_w]; rfl))
                  (refine seq_e rfl (by rfl) (fun K hK => ?_))
                  go_simp
                  refine (Hof.out _ _ ⟨A2, c2, rfl, hc2, C_kp HC7.out (below_drew (Below.refl _ _))⟩).mono ?_
                  rintro e w8 ⟨rfl, hB8⟩
                  have hB8w : Below w7.heap.size w7 w8 := (below_drew (Below.refl _ _)).trans hB8
                  have hx8 := HX7.out.below hB8w
                  refine hK _ _ ⟨hx8.cell 0 _ rfl, hx8.cell 1 _ rfl, hx8.cell 2 _ rfl, cell_old hB8w f0, cell_old hB8w f1, cell_old hB8w f2⟩ (fun hS => ?_)
                  clear hK K
                  first | (refine seq_v (some 216) (v := ?_) (a' := ?_) rfl rfl (fun _ _ _ h => h) (Or.inl ⟨by rfl, ?_⟩) ?_ ?_; rotate_left 2; (· intro w'; go_simp; with_reducible rfl); (· simp only [Act.put, List.setIfInBounds_toArray, List.set_cons_zero, List.set_cons_succ, i64_w, i32_w]; rfl)) | (refine seq_v (some 216) (v := undef) (a' := ?_) rfl rfl (fun _ _ _ h => h) (Or.inr ⟨by rfl, rfl⟩) ?_ ?_; rotate_left; (· simp only [Act.put, List.setIfInBounds_toArray, List.set_cons_zero, List.set_cons_succ, i64_w, i32_w]; rfl))
                  (refine seq_v (some 217) (v := ?_) (a' := ?_) rfl rfl (fun _ _ _ h => h) (Or.inl ⟨by rfl, ?_⟩) ?_ ?_; rotate_left 2; (· intro w'; go_simp; with_reducible rfl); (· simp only [Act.put, List.setIfInBounds_toArray, List.set_cons_zero, List.set_cons_succ, i64_w, i32_w]; rfl))
                  refine seq_nil ?_
                  have HT8 := Lib.hid (Two.below PN.stands QW.stands HT7.out hB8w)
                  have HK8 := Lib.hid (HK7.out.trans (KpO.of_below hB8w))
                  clear hS hx8 hB8 hB8w f0 f1 f2 hne hg
                  go_wp2_with fail
                  go_roundg (z.1.length - (k + 1))
                  case rel => exact ⟨k + 1, by omega, by go_num, HT8, HK8⟩
                  case measure => omega
                · have hkm : k = z.1.length := by omega
                  have hdn : z.1.drop k = [] := List.drop_eq_nil_of_le (by omega)
                  rw [hdn] at HT
                  clear hkm hdn hkk
                  go_wp2_with fail
                  refine (alive_any _).mono ?_
                  rintro e w6 ⟨rfl, hB6⟩
                  have HT6 := Lib.hid (Two.below PN.stands QW.stands HT.out hB6)
                  have HB6 := Lib.hid ((HBc.out.trans ((HBq.out.trans (KpO.below HKq.out HBq.out.size (fun k hk => hk))).mono HBc.out.size)).trans (hB6.mono (by have := HBc.out.size; have := HBq.out.size; have := HKq.out.size; omega)))
                  clear hB6
                  go_wp2_with fail
                  refine (two_len HT6.out).mono ?_
                  rintro e w7 ⟨rfl, hw7⟩
                  subst w7
                  go_wp2_with fail
                  go_ret
                  exact ⟨rfl, HB6.out⟩
end Go.Proofs.Ytnphlghiicbjjaa
