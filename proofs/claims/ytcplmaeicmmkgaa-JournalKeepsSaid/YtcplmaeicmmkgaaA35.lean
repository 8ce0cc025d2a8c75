/- rutterlaw08.JournalKeeps: the law's walk. -/
import Derived.Test.YtcplmaeicmmkgaaA34
namespace Go.Proofs.Ytcplmaeicmmkgaa
open Go Go.RowKit Go.Proofs.YtcplmaeicmmkgaaW.PrintWords Go.Proofs.YtcplmaeicmmkgaaW.PrintLast
set_option linter.unusedVariables false
set_option linter.unusedSimpArgs false

section
variable {P : Program} {ops : Array Oper} {rest : List Oper} {o : Oper} {a : Act} {Q : Exit → Act → World → Prop} {α : Type}
/-- append(v, x), x an element of any kind, with a footprint; the world is W behind the variadic's box. -/
theorem ev_appG (d : Kd α) {W : World} {G : Nat → Prop} (hgd : o.guard = none) (s x : Operand) (t e : TypeId) (z : Value) (bytes : Nat)
    (ho : o.op = .call { callee := .builtin .append, args := #[s, x], argTypes := #[t, t] })
    (ht : P.underlying t = some (.slice e)) (hinfo : (P.info? e).map (fun i => (i.zero, i.size, i.bytes)) = some (some z, d.sz, bytes)) (hz : z.cells.size = d.sz) (hs0 : 0 < d.sz) (hb0 : 0 < bytes)
    {v : Value} {xs : List α} {p : α} {cs : List Value} (hs : a.eval s = v) (hx : a.eval x = .slice (some ⟨W.heap.size, 0, none⟩) 1 1) (hp : d.M W 0 (fun _ => False) p cs)
    (HO : d.R e W 0 G v xs) (hl : (xs.length + 1) * bytes ≤ 140737488355328)
    (h : ∀ A1 n1 c1 w1, Hid (n1 = (xs ++ [p]).length) → d.R e w1 0 (ext G W w1) (.slice A1 n1 c1) (xs ++ [p]) → Kp G W w1 → wpList P ops Q rest (a.put o.dst (.slice A1 n1 c1)) w1) :
    wpList P ops Q (o :: rest) a (W.alloc (.cells cs.toArray e)) :=
  Kd.R_append d (w0 := W) 0 hgd s x t e z bytes ho ht hinfo hz hs0 hb0 v xs p cs (fun k => G k ∨ W.heap.size ≤ k) (fun _ => False) hs hx hp (fun _ hk => hk.elim) (fun _ hk => .inr hk) (Kd.R_mono HO (fun _ hk => .inl hk)) (Below.refl _ _) (Nat.zero_le _) hl
    (fun v1 w1 h1 _ h3 _ => by
      obtain ⟨A1, c1, rfl⟩ := Kd.R_slice h1
      exact h A1 _ c1 w1 rfl (ext_of_bound h1) (Kp.of_grown h3 HO.1))
end
def QH (v : Value) (hs : List Hd) (w : World) (G : Nat → Prop) : Prop := HD.R 32 w 0 G v hs
theorem QH.stands {v : Value} {hs : List Hd} : Stands (QH v hs) := fun _ _ _ _ h hk hd => R_kp h hk (fun k _ hf => hd k hf)

/-- What the loop knows: what was put, of which the first n were synced. -/
def KeepInv (w0 wr : World) (fb jb : Nat) (P : List (List Int)) (n : Nat) (v : Value) (hs : List Hd) : Prop :=
  n ≤ P.length ∧ OkP P ∧ Two w0 wr (PJ jb fb P.length (recs (P.take n)) (recs (P.drop n)) 65536) (QH v hs) ∧ HdOk w0 hs P

theorem cell_old {w w1 : World} {p : Addr} {v : Value} (hb : Below w.heap.size w w1) (h : w.cell? p = some v) : w1.cell? p = some v := (World.cell?_of_block (hb.block _ (World.block_lt_of_cell? _ _ h))).trans h
theorem put_room (s l body : List Int) (h : s.length + l.length ≤ 20000) : putE s l body 65536 = if okJ body then 0 else 1 := by
  unfold putE
  cases ho : okJ body with
  | false => rfl
  | true =>
    have hl := recJ_length body
    have hb : body.length ≤ 200 := by
      unfold okJ at ho
      simp at ho
      exact ho.2
    rw [if_pos rfl, if_pos rfl, if_neg (by omega)]
theorem two_none {w0 w : World} {jb fb n : Nat} {s l : List Int} {r : Int} (h : JAt w0 w jb fb n s l r) : Two w0 w (PJ jb fb n s l r) (QH (.slice none 0 0) []) := by
  obtain ⟨F, h1, h2, h3⟩ := h
  exact ⟨F, fun _ => False, h1, Kd.R_nil _ _ _ _ _, fun _ _ h => h, h1.2.2.1, Bd.no w, h2, fun _ h => h.elim, h3⟩

theorem recs_append (P Q : List (List Int)) : recs (P ++ Q) = recs P ++ recs Q := by simp [recs, List.flatMap_append]
theorem keep_len {P : List (List Int)} (h : OkP P) {n : Nat} (hl : P.length ≤ 61) : (recs (P.take n)).length + (recs (P.drop n)).length ≤ 40000 := by
  have g1 := recs_length (P.take n) (fun x hx => h x (List.mem_of_mem_take hx))
  have g2 := recs_length (P.drop n) (fun x hx => h x (List.mem_of_mem_drop hx))
  rw [List.length_take] at g1
  rw [List.length_drop] at g2
  omega
/-- What is there behind a crash. -/
theorem keep_cut {P : List (List Int)} (n : Nat) (kp : Int) (h : OkP P) (hn : n ≤ P.length) (hl : P.length ≤ 61) :
    ∃ j S, S = recs (P.take n) ++ (recs (P.drop n)).take (keepN (recs (P.drop n)) kp) ∧ n + j ≤ P.length ∧ (scanJ S).1 = P.take (n + j) ∧ (¬ 0 < kp → j = 0) ∧ S.length ≤ 40000 ∧ BR S := by
  have h1 : OkP (P.take n) := fun b hb => h b (List.mem_of_mem_take hb)
  have h2 : OkP (P.drop n) := fun b hb => h b (List.mem_of_mem_drop hb)
  obtain ⟨j, hj1, hj2, hj3⟩ := scan_two (P.take n) (P.drop n) h1 h2 (keepN (recs (P.drop n)) kp)
  refine ⟨j, _, rfl, by rw [List.length_drop] at hj1; omega, by rw [hj2, List.take_add], fun hk => hj3 ?_, ?_, (recs_br _ h1).append ((recs_br _ h2).take _)⟩
  · unfold keepN; omega
  · have := keep_len h (n := n) hl
    rw [List.length_append, List.length_take]
    omega

set_option maxRecDepth 10000 in
set_option maxHeartbeats 4000000 in
theorem journalKeeps_any (w : World) (A : Option Addr) (m c : Nat) (l : List ActV) (hC : ActsC w A m l) (hm : m ≤ 9223372036854775807) (sy kp : Int) :
    Calls Try.prog 12 #[.slice A m c, .int .i64 sy, .int .i64 kp] w (LawPost w) := by
  have HC := Lib.hid hC
  have Hl := Lib.hid hC.1
  clear hC
  go_enter Try.func12, Try.ntmps12
  go_wp2_with fail
  refine (fits_any w A m c l HC.out hm).mono ?_
  rintro e wa ⟨ok, rfl, hok, hwa⟩
  subst hwa
  have Hok := Lib.hid hok
  clear hok
  go_wp2_with fail
  refine (new_pk wa wa (Below.refl _ _) 65536 (by decide) (by decide)).mono ?_
  rintro e w1 ⟨fb, rfl, hF⟩
  have HF := Lib.hid hF
  clear hF
  go_wp2_with fail
  refine (open_pk wa w1 fb [] [] 65536 HF.out (by simp)).mono ?_
  rintro e w2 ⟨jb, A1, n1, c1, rfl, hJ, hc, hn, -⟩
  have hn1 : n1 = 0 := by rw [hn, List.nil_append, scan_nil]; rfl
  subst hn1
  rw [openS_nil, openL_nil] at hJ
  have HJ := Lib.hid hJ
  clear hJ hn hc
  cases ok with
  | false =>
    go_wp2_with fail
    refine (alive_any w2).mono ?_
    rintro e w3 ⟨rfl, hb⟩
    have HB := Lib.hid (HJ.out.kept.trans (hb.mono HJ.out.kept.size))
    go_wp2_with fail
    go_ret
    exact ⟨rfl, HB.out⟩
  | true =>
    obtain ⟨hlen, hbod⟩ := Hok.out rfl
    have hm6 : m ≤ 60 := by have := Hl.out; omega
    have Hbod := Lib.hid hbod
    clear hbod hlen
    go_wp2_with fail
    go_loopw [13, 14, 15] (fun v13 v14 v15 wr => ∃ (k n : Nat) (P : List (List Int)) (hs : List Hd) (A0 : Option Addr) (n0 c0 : Nat), k ≤ m ∧ v13 = .int .i64 n ∧ v14 = .slice A0 n0 c0 ∧ v15 = .int .i64 k ∧ P.length ≤ k ∧ ((k : Int) < sy → n = P.length) ∧ Hid (KeepInv wa wr fb jb P n (.slice A0 n0 c0) hs)) (fun _ _ v15 _ => m - (intOf v15).toNat)
    case atStart => exact ⟨0, 0, [], [], none, 0, 0, Nat.zero_le _, rfl, rfl, rfl, Nat.le_refl _, fun _ => rfl, Lib.hid ⟨Nat.le_refl _, (fun b h => nomatch h), two_none HJ.out, rfl, (fun i h b hi => by cases hi)⟩⟩
    case round =>
      obtain ⟨k, n, P, hs, A0, n0, c0, hk, rfl, rfl, rfl, hPk, hsy, HI⟩ := hrel
      have Hsy := Lib.hid hsy
      clear hsy
      by_cases hlt : k < m
      · obtain ⟨a, ha⟩ : ∃ a, l[k]? = some a := ⟨_, List.getElem?_eq_getElem (by have := Hl.out; omega)⟩
        have hbb := Hbod.out a (List.mem_of_getElem? ha)
        obtain ⟨ad, Bv, bn, bc, rfl, h1, h2, h3, h4, h5, h6, h7, h8⟩ := HC.out.2 k a ha
        have Hc := Lib.hid h2
        have e2 := cell_old HI.out.2.2.1.kept h2
        have hbn : bn ≤ 3000 := by have := h5.1; omega
        have Hb := Lib.hid (And.intro h4 (And.intro h5 h6))
        have hrl : (recs (P.take n)).length + (recs (P.drop n)).length ≤ 20000 := by
          have g1 := recs_length (P.take n) (fun x hx => HI.out.2.1 x (List.mem_of_mem_take hx))
          have g2 := recs_length (P.drop n) (fun x hx => HI.out.2.1 x (List.mem_of_mem_drop hx))
          rw [List.length_take] at g1
          rw [List.length_drop] at g2
          omega
        have Hrl := Lib.hid hrl
        clear h1 h2 h3 h4 h5 h6 h7 h8 hrl
        go_wp2_with fail
        refine (two_put QH.stands HI.out.2.2.1 a.body Bv bn bc (by have := Hrl.out; omega) (by omega) Hb.out.2.2 (C_kp Hb.out.2.1 HI.out.2.2.1.kept) (by omega)).mono ?_
        rintro e w6 ⟨rfl, hT6⟩
        rw [put_room _ _ _ Hrl.out] at hT6 ⊢
        have hw1 : IntKind.i64.wrap ((k : Int) + 1) = (k : Int) + 1 := IntWalk.i64_in _ (by omega)
        cases ho : okJ a.body with
        | false =>
          have h10 : ¬ ((1 : Int) = 0) := by decide
          simp only [ho, Bool.false_eq_true, if_false, h10] at hT6 ⊢
          clear h10
          have HI2 := Lib.hid (show KeepInv wa w6 fb jb P n (.slice A0 n0 c0) hs from ⟨HI.out.1, HI.out.2.1, hT6, HI.out.2.2.2⟩)
          clear hT6 e2
          go_wp2_with fail
          go_roundw
          case rel => exact ⟨k + 1, n, P, hs, A0, n0, c0, by omega, rfl, rfl, by go_num, by omega, fun h => Hsy.out (by omega), HI2⟩
          case measure => simp [intOf] <;> omega
        | true =>
          simp only [ho, if_true] at hT6 ⊢
          have hPn := HI.out.1
          have hl1 : recs (P.drop n) ++ recJ a.body = recs ((P ++ [a.body]).drop n) := by rw [List.drop_append_of_le_length hPn, recs_snoc]
          have hs1 : recs (P.take n) = recs ((P ++ [a.body]).take n) := by rw [List.take_append_of_le_length hPn]
          have hOk : OkP (P ++ [a.body]) := fun b hb => by
            rcases List.mem_append.1 hb with hb | hb
            · exact HI.out.2.1 b hb
            · obtain rfl : b = a.body := by simpa using hb
              exact ⟨ho, Hb.out.2.2⟩
          have hP1 : P.length + 1 = (P ++ [a.body]).length := by simp
          rw [hl1, hs1, hP1] at hT6
          have HT6 := Lib.hid hT6
          have HOk := Lib.hid hOk
          have e6 := cell_old hT6.kept Hc.out
          have HS := Lib.hid (HI.out.2.2.2.snoc (Hd.mk Bv bn bc) a.body Hb.out.1 Hb.out.2.1)
          have hPl := HI.out.2.2.2.1
          clear hT6 hOk hl1 hs1 hP1 e2
          obtain ⟨F, G, t1, t2, t3, t4, t5, t6, t7, t8⟩ := HT6.out
          have T2 := Lib.hid t2
          have T := Lib.hid (And.intro t1 (And.intro t3 (And.intro t4 (And.intro t5 (And.intro t6 (And.intro t7 t8))))))
          have Hlen := Lib.hid (show (hs.length + 1) * 24 ≤ 140737488355328 by omega)
          clear t1 t2 t3 t4 t5 t6 t7 t8
          by_cases hks : (k : Int) < sy
          · have d0 : decide ((k : Int) < sy) = true := decide_eq_true hks
            go_wp2_with (at_builtin; refine ev_appG (v := .slice A0 n0 c0) HD rfl _ _ 119 32 (.slice none 0 0) 24 rfl Try.underlying119 A_info32 rfl Nat.one_pos (by decide) (p := Hd.mk Bv bn bc) (cs := [.slice Bv bn bc]) rfl rfl rfl T2.out Hlen.out ?_; intro A3 n3 c3 w7 hn3 hR7 hK7)
            have hT7 := two_right (Q := QH (.slice A0 n0 c0) hs) PJ.stands T.out.1 T.out.2.1 T.out.2.2.1 T.out.2.2.2.1 T.out.2.2.2.2.1 T.out.2.2.2.2.2.1 T.out.2.2.2.2.2.2 (Q' := QH (.slice A3 n3 c3) (hs ++ [Hd.mk Bv bn bc])) hR7 hK7
            have hn3' : n3 = (P ++ [a.body]).length := by rw [show n3 = _ from hn3, List.length_append, List.length_append, hPl]; rfl
            have HT7 := Lib.hid hT7
            have Hn3 := Lib.hid hn3'
            clear hT7 hn3 hn3' hR7 hK7
            have hrl7 : (recs ((P ++ [a.body]).take n)).length + (recs ((P ++ [a.body]).drop n)).length ≤ 40000 := keep_len HOk.out (by rw [List.length_append]; simp; omega)
            refine (two_sync QH.stands HT7.out (by omega)).mono ?_
            rintro e w8 ⟨rfl, hT8⟩
            rw [← recs_append, List.take_append_drop] at hT8
            have hI2 : KeepInv wa w8 fb jb (P ++ [a.body]) n3 (.slice A3 n3 c3) (hs ++ [Hd.mk Bv bn bc]) := ⟨by rw [Hn3.out]; exact Nat.le_refl _, HOk.out, by rw [Hn3.out, List.take_length, List.drop_length]; rw [Hn3.out] at hT8; exact hT8, HS.out⟩
            have HI2 := Lib.hid hI2
            clear hT8 hrl7 hI2
            go_wp2_with fail
            go_roundw
            case rel => exact ⟨k + 1, n3, P ++ [a.body], _, A3, n3, c3, by omega, rfl, rfl, by go_num, by rw [List.length_append]; simp; omega, fun _ => Hn3.out, HI2⟩
            case measure => simp [intOf] <;> omega
          · have d0 : decide ((k : Int) < sy) = false := decide_eq_false hks
            go_wp2_with (at_builtin; refine ev_appG (v := .slice A0 n0 c0) HD rfl _ _ 119 32 (.slice none 0 0) 24 rfl Try.underlying119 A_info32 rfl Nat.one_pos (by decide) (p := Hd.mk Bv bn bc) (cs := [.slice Bv bn bc]) rfl rfl rfl T2.out Hlen.out ?_; intro A3 n3 c3 w7 hn3 hR7 hK7)
            have hT7 := two_right (Q := QH (.slice A0 n0 c0) hs) PJ.stands T.out.1 T.out.2.1 T.out.2.2.1 T.out.2.2.2.1 T.out.2.2.2.2.1 T.out.2.2.2.2.2.1 T.out.2.2.2.2.2.2 (Q' := QH (.slice A3 n3 c3) (hs ++ [Hd.mk Bv bn bc])) hR7 hK7
            have HI2 := Lib.hid (show KeepInv wa w7 fb jb (P ++ [a.body]) n (.slice A3 n3 c3) (hs ++ [Hd.mk Bv bn bc]) from ⟨by rw [List.length_append]; omega, HOk.out, hT7, HS.out⟩)
            clear hT7
            go_roundw
            case rel => exact ⟨k + 1, n, P ++ [a.body], _, A3, n3, c3, by omega, rfl, rfl, by go_num, by rw [List.length_append]; simp; omega, fun h => absurd h (by omega), HI2⟩
            case measure => simp [intOf] <;> omega
      · have hkm : k = m := by omega
        subst hkm
        have hrl : (recs (P.take n)).length + (recs (P.drop n)).length ≤ 40000 := keep_len HI.out.2.1 (by omega)
        obtain ⟨j, S5, hS5, hj1, hj2, hj3, hS5l, hS5b⟩ := keep_cut n kp HI.out.2.1 HI.out.1 (by omega)
        have HJ3 := Lib.hid hj3
        have hHd := HI.out.2.2.2
        have hn0 : n0 = P.length := by
          obtain ⟨F, G, t1, t2, t3⟩ := HI.out.2.2.1
          rw [(Kd.R_reads' t2).1, hHd.1]
        have hn0c : n0 ≤ c0 := by
          obtain ⟨F, G, t1, t2, t3⟩ := HI.out.2.2.1
          exact (Kd.R_reads' t2).2.1
        have Hn0 := Lib.hid hn0
        have Hgot := Lib.hid hj2
        clear hj2 hj3 hn0 hHd
        go_wp2_with fail
        refine (two_crash QH.stands HI.out.2.2.1.fileL kp (by omega)).mono ?_
        rintro e w5 ⟨x5, rfl, hT5⟩
        rw [← hS5] at hT5
        have HT5 := Lib.hid hT5
        clear hT5 hS5
        go_wp2_with fail
        refine (two_open QH.stands HT5.out (by simp; omega)).mono ?_
        rintro e w6 ⟨J, Aa, na, ca, rfl, hT6, hca, hna⟩
        rw [List.append_nil, Hgot.out] at hT6 hna
        have hna' : na = n + j := by rw [hna, List.length_take]; omega
        have hCa := hT6.list hna
        have HCa := Lib.hid hCa
        have HT6 := Lib.hid hT6
        obtain ⟨F, G, t1, t2, t3⟩ := hT6
        have hC0 := (Kd.R_reads' t2).2.2
        rw [← (Kd.R_reads' t2).1] at hC0
        have hHd := HI.out.2.2.2.below HT6.out.kept
        have hBB := BB_of (C_take hC0 (m := na) (by rw [Hn0.out]; omega)) ⟨by rw [List.length_take, List.length_take, hHd.1], fun i h b hi hb => by
          rw [List.getElem?_take] at hi hb
          split at hi
          · rw [if_pos ‹_›] at hb; exact hHd.2 i h b hi hb
          · cases hi⟩ (P := P.take na)
        have HBB := Lib.hid hBB
        clear hna hCa t1 t2 t3 hC0 hHd hBB
        have Hna := Lib.hid hna'
        have g1 : decide (na < n) = false := decide_eq_false (by omega)
        have g2 : decide (n0 < na) = false := decide_eq_false (by rw [Hn0.out]; omega)
        obtain ⟨i32, hi32⟩ : ∃ i, Try.prog.info? 32 = some i := ⟨_, rfl⟩
        have hcut := cut_to (P := Try.prog) 119 32 .i64 Try.underlying119 hi32 A0 n0 c0 (na : Int) (by omega) (by rw [Hn0.out]; omega) hn0c
        rw [Int.toNat_natCast] at hcut
        clear hi32 hna'
        have hP60 : P.length ≤ 60 := by omega
        have hBR : BRR (P.take na) := fun b hb => (HI.out.2.1 b (List.mem_of_mem_take hb)).2
        have HBR := Lib.hid hBR
        have HPl := Lib.hid hP60
        have hfin : 0 < kp ∨ na = n := by
          by_cases h : 0 < kp
          · exact .inl h
          · have := HJ3.out (by omega); have := Hna.out; right; omega
        have Hfin := Lib.hid hfin
        clear hBR hfin
        go_wp2_with fail
        refine (same_any w6 Aa A0 na ca na c0 _ _ (by rw [← Hna.out]; exact HBR.out) HBR.out HCa.out HBB.out (by have := Hna.out; omega) (by have := Hna.out; omega)).mono ?_
        rintro e w7 ⟨rfl, hb7⟩
        rw [← Hna.out, decide_eq_true rfl]
        have HB7 := Lib.hid (HT6.out.kept.trans (hb7.mono HT6.out.kept.size))
        clear hb7
        go_wp2_with fail
        refine (alive_any w7).mono ?_
        rintro e w8 ⟨rfl, hb8⟩
        have HB8 := Lib.hid (HB7.out.trans (hb8.mono HB7.out.size))
        clear hb8
        by_cases hkp : 0 < kp
        · have g3 : decide (0 < kp) = true := decide_eq_true hkp
          go_wp2_with fail
          go_ret
          exact ⟨rfl, HB8.out⟩
        · have g3 : decide (0 < kp) = false := decide_eq_false hkp
          have g4 : ((na : Int) == (n : Int)) = true := beq_iff_eq.2 (by have := Hfin.out; omega)
          go_wp2_with fail
          go_ret
          exact ⟨rfl, HB8.out⟩
end Go.Proofs.Ytcplmaeicmmkgaa
