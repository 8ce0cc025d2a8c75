/- track: slices.DeleteFunc of records that do not live. -/
import Derived.Test.YtcplmaeicmmkgaaT3
namespace Go.Proofs.Ytcplmaeicmmkgaa
open Go Go.RowKit Go.Proofs.YtcplmaeicmmkgaaW.PrintWords Go.Proofs.YtcplmaeicmmkgaaW.PrintLast Go.Proofs.Ytcplmaeicmmkgaa.PTrackPlays
set_option linter.unusedVariables false
set_option linter.unusedSimpArgs false

/-- Where the loop is: i kept, j read, the row M. -/
def DelI (now : Int) (xs M : List S83) (i j : Nat) : Prop := i < j ∧ M.length = xs.length ∧ M.take i = (xs.take j).filter (liveF now) ∧ M.drop j = xs.drop j
theorem DelI.start (now : Int) (xs : List S83) (i : Nat) (hi : i < xs.length) (h : liveF now xs[i] = false) (hn : ∀ j (hj : j < i), liveF now (xs[j]'(by omega)) = true) : DelI now xs xs i (i + 1) := by
  refine ⟨by omega, rfl, ?_, rfl⟩
  have hf : (xs.take i).filter (liveF now) = xs.take i := List.filter_eq_self.2 (fun x hx => by
    obtain ⟨j, hj, rfl⟩ := List.mem_iff_getElem.1 hx
    rw [List.length_take] at hj
    rw [List.getElem_take]
    exact hn j (by omega))
  rw [List.take_succ_eq_append_getElem hi, List.filter_append, hf]
  simp [h]
theorem DelI.get {now : Int} {xs M : List S83} {i j : Nat} (h : DelI now xs M i j) (hj : j < xs.length) : ∃ hm : j < M.length, M[j] = xs[j] := by
  obtain ⟨h1, h2, h3, h4⟩ := h
  have hm : j < M.length := by omega
  refine ⟨hm, ?_⟩
  have e1 := List.drop_eq_getElem_cons hm
  have e2 := List.drop_eq_getElem_cons hj
  rw [h4, e2] at e1
  injection e1 with e1
  exact e1.symm
theorem DelI.skip {now : Int} {xs M : List S83} {i j : Nat} (h : DelI now xs M i j) (hj : j < xs.length) (hl : liveF now xs[j] = false) : DelI now xs M i (j + 1) := by
  obtain ⟨h1, h2, h3, h4⟩ := h
  refine ⟨by omega, h2, ?_, ?_⟩
  · rw [List.take_succ_eq_append_getElem hj, List.filter_append, h3]; simp [hl]
  · rw [← List.drop_drop, h4, List.drop_drop]
theorem DelI.keep {now : Int} {xs M : List S83} {i j : Nat} (h : DelI now xs M i j) (hj : j < xs.length) (hl : liveF now xs[j] = true) : DelI now xs (M.set i xs[j]) (i + 1) (j + 1) := by
  obtain ⟨h1, h2, h3, h4⟩ := h
  refine ⟨by omega, by rw [List.length_set, h2], ?_, ?_⟩
  · rw [List.take_succ_eq_append_getElem hj, List.filter_append, ← h3]
    rw [List.take_succ_eq_append_getElem (by rw [List.length_set]; omega), List.take_set_of_le (Nat.le_refl _), List.getElem_set_self]
    simp [hl]
  · rw [List.drop_set_of_lt (by omega), ← List.drop_drop, h4, List.drop_drop]
theorem DelI.done {now : Int} {xs M : List S83} {i : Nat} (h : DelI now xs M i xs.length) : M.take i = xs.filter (liveF now) := by
  obtain ⟨h1, h2, h3, h4⟩ := h
  rw [h3, List.take_length]
theorem idxP_first (now : Int) (xs : List S83) (h : ¬ ∀ x, x ∈ xs → liveF now x = true) : ∃ i, ∃ hi : i < xs.length, liveF now xs[i] = false ∧ (∀ j (hj : j < i), liveF now (xs[j]'(by omega)) = true) ∧ idxP (fun x => !liveF now x) xs = i := by
  have hex : ∃ x ∈ xs, (fun x => !liveF now x) x = true := by
    apply Classical.byContradiction
    intro hn
    exact h (fun x hx => by
      cases hl : liveF now x with
      | true => rfl
      | false => exact absurd ⟨x, hx, by simp [hl]⟩ hn)
  have hlt := List.findIdx_lt_length_of_exists hex
  have h1 := List.findIdx_getElem (w := hlt)
  have h2 : ∀ j (hj : j < xs.findIdx (fun x => !liveF now x)), liveF now (xs[j]'(by omega)) = true := fun j hj => by
    have := List.not_of_lt_findIdx hj
    simpa using this
  have h1' : liveF now (xs[xs.findIdx (fun x => !liveF now x)]'hlt) = false := by simpa using h1
  exact ⟨_, hlt, h1', h2, by unfold idxP; rw [if_pos hlt]⟩
section
variable {ops : Array Oper} {rest : List Oper} {o : Oper} {a : Act} {Q : Exit → Act → World → Prop}
theorem st83a {W : World} (hN : o.dst = none) (hgd : o.guard = none) (p x : Operand) (ho : o.op = .store 83 p x) {g n cap : Nat} {ad : Addr} (had : ad = ⟨g, 0, none⟩) (i : Nat) (M : List S83) (y : S83) {G : Nat → Prop}
    (haddr : a.eval p = .pointer (some (ad.add (i * 6)))) (hx : a.eval x = v83 y) (HO : k83.R 83 W 0 G (.slice (some ad) n cap) M) (hi : i < n)
    (h : ∀ w1, k83.R 83 w1 0 G (.slice (some ad) n cap) (M.set i y) → Kp G W w1 → wpList Try.prog ops Q rest a w1) : wpList Try.prog ops Q (o :: rest) a W := by
  subst had
  rw [add0] at haddr
  exact st83 hN hgd p x ho i M y haddr hx HO hi h
end
theorem cells83 {w : World} {g n c : Nat} {G : Nat → Prop} {M : List S83} (h : k83.R 83 w 0 G (.slice (some ⟨g, 0, none⟩) n c) M) : (∀ j, j < n * 6 → (w.cell? ⟨g, j, none⟩).isSome = true) ∧ ∀ k, w.frozen? ⟨g, k, none⟩ = false := by
  obtain ⟨_, inner, ho, hr⟩ := h
  rcases ho.2 with ⟨hv, _⟩ | ⟨g', cap, cur, hv, hg, hh, hn', hc', hcs, ht⟩
  · cases hv
  · injection hv with ha hl hcc
    injection ha with ha
    injection ha with ha
    subst ha; subst hcc
    refine ⟨fun j hj => ?_, fun k => blk_frozen hh k⟩
    have hs : cur.size = c * 6 := hcs
    have : n * 6 ≤ c * 6 := Nat.mul_le_mul_right 6 (by omega)
    rw [cell_of_row w g j cur 83 (0, 0) hh, Array.getElem?_eq_getElem (by omega)]; rfl
def DelPost (w : World) (G : Nat → Prop) (ys : List S83) (e : Ending) (w' : World) : Prop := ∃ A n c, e = .returned (.slice A n c) ∧ k83.R 83 w' 0 G (.slice A n c) ys ∧ Kp G w w'
set_option maxRecDepth 10000 in
set_option maxHeartbeats 2000000 in
theorem del_any (w : World) (G : Nat → Prop) (A : Option Addr) (n c : Nat) (xs : List S83) (hR : k83.R 83 w 0 G (.slice A n c) xs) (hn : n ≤ 1000000000) (now : Int) (b : Nat) (hb : Blk w b 3 [.int .i64 now]) (hbG : ¬ G b) (hG : Bd G w) :
    Calls Try.prog 94 #[.slice A n c, .func (.func 96) #[] #[pt b]] w (DelPost w G (xs.filter (liveF now))) := by
  have hn2 := (Kd.R_reads' hR).1
  have hnc := (Kd.R_reads' hR).2.1
  have hix := index_96 w b (fun x => !liveF now x) (fun w' hB x => rec1_any w' x now b ((hb.below hB).cell 0 _ rfl)) xs A n c (by have := (Kd.R_reads' hR).2.2; rwa [← hn2] at this) hn
  have HR := Lib.hid hR
  have HB := Lib.hid hb
  have Hn2 := Lib.hid hn2
  have HIX := Lib.hid hix
  have HG := Lib.hid hG
  clear hR hb hix hn2 hG
  go_enter Try.func94, Try.ntmps94
  go_wp2_with fail
  refine HIX.out.mono ?_
  rintro e w1 ⟨rfl, hB1⟩
  have HB1 := Lib.hid hB1
  have HR1 := Lib.hid (Kd.R_below HR.out hB1)
  clear hB1
  by_cases hall : ∀ x, x ∈ xs → liveF now x = true
  · have hix : idxP (fun x => !liveF now x) xs = -1 := idxP_no (fun x hx => by rw [hall x hx]; rfl)
    have HF := Lib.hid (show xs.filter (liveF now) = xs from List.filter_eq_self.2 hall)
    rw [hix]
    clear hix hall
    go_wp2_with fail
    go_ret
    exact ⟨_, _, _, rfl, by rw [HF.out]; exact HR1.out, Kp.of_below HB1.out _⟩
  · obtain ⟨i, hi, hli, hmin, hix⟩ := idxP_first now xs hall
    rw [hix]
    have HI := Lib.hid (DelI.start now xs i hi hli hmin)
    obtain ⟨g, rfl⟩ : ∃ g, A = some ⟨g, 0, none⟩ := by
      obtain ⟨inner, ho⟩ := Kd.R_own HR.out
      rcases ho.2 with ⟨hv, h0⟩ | ⟨g', cap, cur, hv, hg, hh, r⟩
      · injection hv with _ h1; have := Hn2.out; omega
      · injection hv with h1; exact ⟨g', h1⟩
    have HGg := Lib.hid (HR.out.1 g rfl)
    have hin : i < n := by have := Hn2.out; omega
    generalize had : (⟨g, 0, none⟩ : Addr) = ad at HR HR1 HIX ⊢
    have HAD := Lib.hid had.symm
    have d1 : ((i : Int) == -1) = false := beq_eq_false_iff_ne.2 (by omega)
    have hwi : IntKind.i64.wrap ((i : Int) + 1) = ((i + 1 : Nat) : Int) := by rw [IntWalk.i64_in _ (by omega)]; omega
    have HK1 := Lib.hid (Kp.of_below HB1.out G)
    clear hix hall hli hmin hi HIX HR had
    go_wp2_with fail
    go_loopw [5, 6] (fun v5 v6 wr => ∃ (i j : Nat) (M : List S83), v5 = .int .i64 i ∧ v6 = .int .i64 j ∧ i < j ∧ j ≤ n ∧ Hid (DelI now xs M i j) ∧ Hid (k83.R 83 wr 0 G (.slice (some ad) n c) M) ∧ Hid (Kp G w wr)) (fun _ v6 _ => n - (intOf v6).toNat)
    case atStart => exact ⟨i, i + 1, xs, rfl, rfl, by omega, by omega, HI, HR1, HK1⟩
    case round =>
      clear HI HR1 HK1 d1 hwi hin HB1
      obtain ⟨i, j, M, rfl, rfl, hij, hjn, HI, HR, HK⟩ := hrel
      have hMl : M.length = n := by have := HI.out.2.1; have := Hn2.out; omega
      have HMl := Lib.hid hMl
      by_cases hlt : j < n
      · have hwi : IntKind.i64.wrap ((i : Int) + 1) = (i : Int) + 1 := IntWalk.i64_in _ (by omega)
        have hwj : IntKind.i64.wrap ((j : Int) + 1) = (j : Int) + 1 := IntWalk.i64_in _ (by omega)
        obtain ⟨hmx, hMx⟩ := HI.out.get (j := j) (by have := Hn2.out; omega)
        have hCr : k83.C wr (some ad) n M := by have := (Kd.R_reads' HR.out).2.2; rwa [hMl] at this
        obtain ⟨ad', hA, e0, e1, e2, e3, e4, e5⟩ := at_T83 hCr (j : Int) (by omega) (by omega)
        injection hA with hA
        subst hA
        rw [Int.toNat_natCast] at e0 e1 e2 e3 e4 e5
        rw [rd_get83 M j hmx, hMx] at e0 e1 e2 e3 e4 e5
        have hjx : j < xs.length := by have := Hn2.out; omega
        have hsk := fun hl => HI.out.skip hjx hl
        have hke := fun hl => HI.out.keep hjx hl
        generalize xs[j] = x at e0 e1 e2 e3 e4 e5 hsk hke
        have HSK := Lib.hid hsk
        have HKE := Lib.hid hke
        have hBa : Below wr.heap.size wr (wr.alloc (.cells #[.int .i64 x.f0.f0, .int .u32 x.f0.f1, .int .u32 x.f0.f2, .int .i64 x.f0.f3, .int .i64 x.f0.f4, .int .i64 x.f1] 83)) := below_alloc (Below.refl _ _) _
        have HX := Lib.hid (Blk.new wr 83 [.int .i64 x.f0.f0, .int .u32 x.f0.f1, .int .u32 x.f0.f2, .int .i64 x.f0.f3, .int .i64 x.f0.f4, .int .i64 x.f1])
        have HBx := Lib.hid ((HB.out.kp HK.out hbG).below hBa)
        have HRa := Lib.hid (Kd.R_below HR.out hBa)
        have HKa := Lib.hid (HK.out.below hBa)
        clear hMl hCr hmx hMx hjx hsk hke hBa
        go_wp2_with fail
        generalize (wr.alloc (.cells #[.int .i64 x.f0.f0, .int .u32 x.f0.f1, .int .u32 x.f0.f2, .int .i64 x.f0.f3, .int .i64 x.f0.f4, .int .i64 x.f1] 83)) = wa at HX HBx HRa HKa ⊢
        refine (rec1_any wa x now b (HBx.out.cell 0 _ rfl)).mono ?_
        rintro e w3 ⟨rfl, hB3⟩
        have HR3 := Lib.hid (Kd.R_below HRa.out hB3)
        have HK3 := Lib.hid (HKa.out.below hB3)
        have hX3 := HX.out.below hB3
        have x0 := hX3.cell 0 _ rfl
        have x1 := hX3.cell 1 _ rfl
        have x2 := hX3.cell 2 _ rfl
        have x3 := hX3.cell 3 _ rfl
        have x4 := hX3.cell 4 _ rfl
        have x5 := hX3.cell 5 _ rfl
        clear hB3 hX3 e0 e1 e2 e3 e4 e5 HR HRa
        cases hl : liveF now x with
        | true =>
          have HI2 := Lib.hid (HKE.out hl)
          clear hl
          go_wp2_with (refine st83a (by rfl) (by rfl) _ _ rfl HAD.out i M x rfl rfl HR3.out (by omega) ?_; intro w4 hR4 hK4; have HR4 := Lib.hid hR4; have HK4 := Lib.hid (Kp.trans HK3.out hK4 (fun _ _ h => h)); clear hR4 hK4 x0 x1 x2 x3 x4 x5)
          go_roundw
          case rel => exact ⟨i + 1, j + 1, M.set i x, by go_num, by go_num, by omega, by omega, HI2, HR4, HK4⟩
          case measure => simp [intOf] <;> omega
        | false =>
          have HI2 := Lib.hid (HSK.out hl)
          clear hl
          go_wp2_with fail
          go_roundw
          case rel => exact ⟨i, j + 1, M, rfl, by go_num, by omega, by omega, HI2, HR3, HK3⟩
          case measure => simp [intOf] <;> omega
      · have hjn' : j = n := by omega
        subst hjn'
        have HF := Lib.hid (show M.take i = xs.filter (liveF now) from DelI.done (by have := HI.out; rwa [Hn2.out] at this))
        obtain ⟨i83, hi83, hz⟩ := Option.map_eq_some_iff.1 inf83
        have hcutf := cut_from (P := Try.prog) 65 83 .i64 Try.underlying65 hi83 6 hz (some ad) j c (i : Int) (by omega) (by omega)
        have hcutt := cut_to (P := Try.prog) 65 83 .i64 Try.underlying65 hi83 (some ad) j c (i : Int) (by omega) (by omega) hnc
        rw [Int.toNat_natCast] at hcutf hcutt
        rw [if_neg (by omega), Option.map_some] at hcutf
        have hc83 := cells83 (by have := HR.out; rwa [HAD.out] at this)
        have hcl : ∀ ty, (Builtin.clear_ #[65] ty #[.slice (some (ad.add (i * 6))) (j - i) (c - i)]).run Try.prog wr = .ok (.tuple #[]) (wr.setCells g (i * 6) (zs83 (j - i))) := by
          intro ty
          rw [HAD.out, add0]
          exact clear83 wr g (i * 6) (j - i) (c - i) ty (by omega) (fun k hk => hc83.1 _ (by omega)) hc83.2
        have hRf : k83.R 83 (wr.setCells g (i * 6) (zs83 (j - i))) 0 G (.slice (some ad) i c) (M.take i) := by
          have := Kd.R_take (m := i) HR.out (by have := HMl.out; omega)
          rw [HAD.out] at this ⊢
          exact R_pasts _ _ _ this (Nat.le_refl _)
        rw [HF.out] at hRf
        have HRf := Lib.hid hRf
        have HKf := Lib.hid (Kp_sets HGg.out (zs83 (j - i)) (i * 6) wr HK.out)
        clear hRf hc83 hi83 hz
        generalize wr.setCells g (i * 6) (zs83 (j - i)) = w4 at HRf HKf hcl
        generalize j - i = m2 at hcl hcutf
        generalize c - i = c2 at hcl hcutf
        go_wp2_with fail
        go_ret
        exact ⟨_, _, _, rfl, HRf.out, HKf.out⟩
end Go.Proofs.Ytcplmaeicmmkgaa
