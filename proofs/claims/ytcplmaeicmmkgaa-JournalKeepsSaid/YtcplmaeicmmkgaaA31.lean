/- rutterlaw08.JournalPlays: the law's walk. -/
import Derived.Test.YtcplmaeicmmkgaaA30b
namespace Go.Proofs.Ytcplmaeicmmkgaa
open Go Go.RowKit Go.Proofs.YtcplmaeicmmkgaaW.PrintWords Go.Proofs.YtcplmaeicmmkgaaW.PrintLast
set_option linter.unusedVariables false
set_option linter.unusedSimpArgs false

theorem openS_nil : openS [] [] = [] := by simp [openS, scan_nil]
theorem openL_nil : openL [] [] = [] := by simp [openL, scan_nil]
theorem openB_nil : openB [] = [] := by simp [openB, scan_nil]
theorem openN_nil : openN [] 0 = 0 := by simp [openN, scan_nil]

/-- What the loop knows. -/
def PlayInv (w0 wr : World) (fb mb jb kb n : Nat) (s l : List Int) (r : Int) : Prop :=
  Two w0 wr (PJ jb fb n s l r) (QJ kb mb n (s ++ l) s.length r) ∧ BR s ∧ BR l ∧ ((s ++ l).length : Int) ≤ r

theorem two_start {wa w1 w2 : World} {jb fb : Nat} {r : Int} (hB1 : Below wa.heap.size wa w1) (hJ : JoAt w2 (ext (ext (fun _ => False) wa w1) w1 w2) jb fb 0 [] [] r) (hK : Kp (ext (fun _ => False) wa w1) w1 w2) :
    Two wa (w2.alloc (.cells #[.slice none 0 0, .int .i64 0, .int .i64 r] 124)) (PJ jb fb 0 [] [] r) (QF w2.heap.size [] 0 r) := by
  obtain ⟨k1, k2⟩ := kp_new (F := ext (fun _ => False) wa w1) (ext_ge (fun _ h => h.elim) (Nat.le_refl _)) hB1 hK
  have hb : Below w2.heap.size w2 (w2.alloc (.cells #[.slice none 0 0, .int .i64 0, .int .i64 r] 124)) := below_alloc (Below.refl _ _) _
  have hs : (w2.alloc (.cells #[.slice none 0 0, .int .i64 0, .int .i64 r] 124)).heap.size = w2.heap.size + 1 := by simp
  have hBd : Bd (fun k => k = w2.heap.size) (w2.alloc (.cells #[.slice none 0 0, .int .i64 0, .int .i64 r] 124)) := fun k hk => by rw [hs, hk]; omega
  exact ⟨_, fun k => k = w2.heap.size, hJ.below hb, ⟨rfl, hBd, BR.nil, none, 0, 0, Blk.new w2 124 [.slice none 0 0, .int .i64 0, .int .i64 r], Kd.R_nil _ _ _ _ _⟩, fun k hk e => by have := hJ.2.2.1 k hk; omega, hJ.2.2.1.up hb.size, hBd, k1, fun k hk => by rw [hk]; exact k2.size, k2.trans (hb.mono k2.size)⟩

set_option maxRecDepth 10000 in
set_option maxHeartbeats 4000000 in
theorem journalPlays_any (w : World) (r : Int) (hr0 : 0 ≤ r) (hr1 : r ≤ 65535) (A : Option Addr) (m c : Nat) (l : List ActV) (hC : ActsC w A m l) (hm : m ≤ 9223372036854775807) :
    Calls Try.prog 10 #[.int .u16 r, .slice A m c] w (LawPost w) := by
  have HC := Lib.hid hC
  have Hl := Lib.hid hC.1
  clear hC
  have hr9 : r ≤ 16777216 := by omega
  have hwr : IntKind.i64.wrap r = r := IntWalk.i64_in _ (by omega)
  go_enter Try.func10, Try.ntmps10
  go_wp2_with fail
  refine (fits_any w A m c l HC.out hm).mono ?_
  rintro e wa ⟨ok, rfl, hok, hwa⟩
  subst hwa
  have Hok := Lib.hid hok
  clear hok
  cases ok with
  | false =>
    go_wp2_with fail
    refine (alive_any wa).mono ?_
    rintro e w1 ⟨rfl, hb⟩
    have HB := Lib.hid hb
    go_wp2_with fail
    go_ret
    exact ⟨rfl, HB.out⟩
  | true =>
    obtain ⟨hlen, hbod⟩ := Hok.out rfl
    have hm6 : m ≤ 60 := by have := Hl.out; omega
    have Hbod := Lib.hid hbod
    clear hbod hlen
    go_wp2_with fail
    refine (newfl_any wa r hr0 hr9).mono ?_
    rintro e w1 ⟨fb, rfl, hF, hB1⟩
    have HF := Lib.hid hF
    have HB1 := Lib.hid hB1
    clear hF hB1
    go_wp2_with fail
    refine (open_any w1 _ fb [] [] r HF.out (by simp)).mono ?_
    rintro e w2 ⟨jb, A1, n1, c1, rfl, hs, hJ, hc, hn, -, hK⟩
    have hn1 : n1 = 0 := by rw [hn, List.nil_append, scan_nil]; rfl
    subst hn1
    rw [openS_nil, openL_nil] at hJ
    have HJ := Lib.hid hJ
    have HK := Lib.hid hK
    clear hJ hn hc hK hs
    go_wp2_with fail
    have hT := two_start HB1.out HJ.out HK.out
    generalize w2.alloc (.cells #[.slice none 0 0, .int .i64 0, .int .i64 r] 124) = w3 at hT ⊢
    generalize w2.heap.size = mb at hT ⊢
    have HT := Lib.hid hT
    clear hT
    refine (two_ropen PJ.stands HT.out (by simp)).mono ?_
    rintro e w4 ⟨kb, A4, n4, c4, rfl, hT, hc4, hn4, -⟩
    have hn0 : n4 = 0 := by rw [hn4, scan_nil]; rfl
    subst hn0
    rw [openB_nil, openN_nil] at hT
    have HI := Lib.hid (show PlayInv wa w4 fb mb jb kb 0 [] [] r from ⟨hT, BR.nil, BR.nil, by simpa using hr0⟩)
    clear hT hn4 hc4
    go_wp2_with fail
    go_loopw [8, 12, 14] (fun v8 v12 v14 wr => ∃ (k jb kb n : Nat) (s l : List Int), k ≤ m ∧ v8 = .pointer (some ⟨jb, 0, none⟩) ∧ v12 = .pointer (some ⟨kb, 0, none⟩) ∧ v14 = .int .i64 k ∧ n ≤ 65535 + k ∧ Hid (PlayInv wa wr fb mb jb kb n s l r)) (fun _ _ v14 _ => m - (intOf v14).toNat)
    case atStart => exact ⟨0, jb, kb, 0, [], [], Nat.zero_le _, rfl, rfl, rfl, by omega, HI⟩
    case round =>
      obtain ⟨k, jb, kb, n, s, l', hk, rfl, rfl, rfl, hn, HP⟩ := hrel
      by_cases hlt : k < m
      · obtain ⟨a, ha⟩ : ∃ a, l[k]? = some a := ⟨_, List.getElem?_eq_getElem (by have := Hl.out; omega)⟩
        have hbb := Hbod.out a (List.mem_of_getElem? ha)
        have hbw := HP.out.1.kept
        obtain ⟨ad, Bv, bn, bc, rfl, h1, h2, h3, h4, h5, h6, h7, h8⟩ := (HC.out.2 k a ha).below (Below.mono hbw (Nat.le_refl _))
        have Hb := Lib.hid (And.intro h4 (And.intro h5 h6))
        have hw1 : IntKind.i64.wrap ((k : Int) + 1) = (k : Int) + 1 := IntWalk.i64_in _ (by omega)
        have hlr : s.length + l'.length ≤ 65535 := by have := HP.out.2.2.2; rw [List.length_append] at this; omega
        have hbn : bn ≤ 3000 := by have := h5.1; omega
        clear h4 h5 h6 h7 h8 hbw
        go_wp2_with fail
        · refine (two_sync QJ.stands HP.out.1 (by omega)).mono ?_
          rintro e w6 ⟨rfl, hT6⟩
          have HT6 := Lib.hid hT6
          clear hT6
          go_wp2_with fail
          refine (two_rsyncJ PJ.stands HT6.out).mono ?_
          rintro e w7 ⟨x7, rfl, hT7⟩
          have hI : PlayInv wa w7 fb mb jb kb n (s ++ l') [] r := ⟨by rw [List.append_nil]; exact hT7, HP.out.2.1.append HP.out.2.2.1, BR.nil, by rw [List.append_nil]; exact HP.out.2.2.2⟩
          have hne : n ≤ 65535 + (k + 1) := by omega
          clear hT7 hn hlr
          generalize s ++ l' = S at hI
          generalize ([] : List Int) = L at hI
          obtain ⟨N, hN⟩ : ∃ N, N = n := ⟨_, rfl⟩
          obtain ⟨J, hJ⟩ : ∃ J, J = jb := ⟨_, rfl⟩
          obtain ⟨KB, hKB⟩ : ∃ KB, KB = kb := ⟨_, rfl⟩
          rw [← hN, ← hJ, ← hKB] at hI
          rw [← hN] at hne
          have HI := Lib.hid hI
          subst hN hJ hKB
          clear hI
          go_wp2_with fail
          have HQ := Lib.hid HI.out.2.2.2
          have hlS : S.length + L.length ≤ 1000000000 := by have := HQ.out; rw [List.length_append] at this; omega
          obtain ⟨Am, nm, cm, e1, e2, e3, hCm⟩ := two_cells HI.out.1
          have HCm := Lib.hid hCm
          have hT9 := Lib.hid (HI.out.1.below PJ.stands QJ.stands (below_drew (Below.refl _ _)))
          have hs0 := Kd.C_string (P := Try.prog) (c := cm) Try.underlying32 Try.underlying5 Try.underlying9 (Kd.C_drew hCm)
          have Hac := Lib.hid (ha)
          clear hCm h1 h2 h3
          refine seq_start (fun w' => w'.cell? ⟨KB, 1, none⟩ = some (.int .i64 N) ∧ w'.cell? ⟨mb, 0, none⟩ = some (.slice Am nm cm) ∧ w'.cell? ⟨mb, 1, none⟩ = some (.int .i64 S.length) ∧ (convert 32 9 (.slice Am nm cm)).run Try.prog w' = .ok (.string (strOfNums (S ++ L))) w') [] [(0, 0), (1, 0), (2, 0), (3, 0), (5, 0), (6, 0), (7, 0), (8, 1), (4, 2), (9, 0), (10, 0), (11, 0), (12, 0), (15, 0), (16, 0), (17, 0), (18, 1), (19, 1), (13, 2), (14, 2), (20, 0), (21, 0), (22, 0), (23, 0), (25, 0), (26, 0), (27, 0), (28, 1), (24, 2), (29, 0), (30, 0)] (by kernel_rfl) (by kernel_rfl) ⟨e1, e2, e3, hs0⟩ ?_
          intro hS
          (refine seq_v (some 143) (v := ?_) (a' := ?_) rfl rfl (fun _ _ _ h => h) (Or.inl ⟨by rfl, ?_⟩) ?_ ?_; rotate_left 2; (· intro w'; go_simp; with_reducible rfl); (· simp only [Act.put, List.setIfInBounds_toArray, List.set_cons_zero, List.set_cons_succ, i64_w, i32_w]; rfl))
          (refine seq_v (some 144) (v := ?_) (a' := ?_) rfl rfl (fun _ _ _ h => h) (Or.inl ⟨by rfl, ?_⟩) ?_ ?_; rotate_left 2; (· intro w'; go_simp; with_reducible rfl); (· simp only [Act.put, List.setIfInBounds_toArray, List.set_cons_zero, List.set_cons_succ, i64_w, i32_w]; rfl))
          (refine seq_v (some 145) (v := ?_) (a' := ?_) rfl rfl (fun _ _ _ h => h) (Or.inl ⟨by rfl, ?_⟩) ?_ ?_; rotate_left 2; (· intro w'; go_simp; with_reducible rfl); (· simp only [Act.put, List.setIfInBounds_toArray, List.set_cons_zero, List.set_cons_succ, i64_w, i32_w]; rfl))
          first | (refine seq_v (some 146) (v := ?_) (a' := ?_) rfl rfl (fun _ _ _ h => h) (Or.inl ⟨by rfl, ?_⟩) ?_ ?_; rotate_left 2; (· intro w'; go_simp; with_reducible rfl); (· simp only [Act.put, List.setIfInBounds_toArray, List.set_cons_zero, List.set_cons_succ, i64_w, i32_w]; rfl)) | (refine seq_v (some 146) (v := undef) (a' := ?_) rfl rfl (fun _ _ _ h => h) (Or.inr ⟨by rfl, rfl⟩) ?_ ?_; rotate_left; (· simp only [Act.put, List.setIfInBounds_toArray, List.set_cons_zero, List.set_cons_succ, i64_w, i32_w]; rfl))
          first | (refine seq_v (some 148) (v := ?_) (a' := ?_) rfl rfl (fun _ _ _ h => h) (Or.inl ⟨by rfl, ?_⟩) ?_ ?_; rotate_left 2; (· intro w'; go_simp; with_reducible rfl); (· simp only [Act.put, List.setIfInBounds_toArray, List.set_cons_zero, List.set_cons_succ, i64_w, i32_w]; rfl)) | (refine seq_v (some 148) (v := undef) (a' := ?_) rfl rfl (fun _ _ _ h => h) (Or.inr ⟨by rfl, rfl⟩) ?_ ?_; rotate_left; (· simp only [Act.put, List.setIfInBounds_toArray, List.set_cons_zero, List.set_cons_succ, i64_w, i32_w]; rfl))
          first | (refine seq_v (some 149) (v := ?_) (a' := ?_) rfl rfl (fun _ _ _ h => h) (Or.inl ⟨by rfl, ?_⟩) ?_ ?_; rotate_left 2; (· intro w'; go_simp; with_reducible rfl); (· simp only [Act.put, List.setIfInBounds_toArray, List.set_cons_zero, List.set_cons_succ, i64_w, i32_w]; rfl)) | (refine seq_v (some 149) (v := undef) (a' := ?_) rfl rfl (fun _ _ _ h => h) (Or.inr ⟨by rfl, rfl⟩) ?_ ?_; rotate_left; (· simp only [Act.put, List.setIfInBounds_toArray, List.set_cons_zero, List.set_cons_succ, i64_w, i32_w]; rfl))
          first | (refine seq_v (some 150) (v := ?_) (a' := ?_) rfl rfl (fun _ _ _ h => h) (Or.inl ⟨by rfl, ?_⟩) ?_ ?_; rotate_left 2; (· intro w'; go_simp; with_reducible rfl); (· simp only [Act.put, List.setIfInBounds_toArray, List.set_cons_zero, List.set_cons_succ, i64_w, i32_w]; rfl)) | (refine seq_v (some 150) (v := undef) (a' := ?_) rfl rfl (fun _ _ _ h => h) (Or.inr ⟨by rfl, rfl⟩) ?_ ?_; rotate_left; (· simp only [Act.put, List.setIfInBounds_toArray, List.set_cons_zero, List.set_cons_succ, i64_w, i32_w]; rfl))
          first | (refine seq_l (some 151) (v := ?_) (a' := ?_) rfl rfl (fun _ _ _ h => h) (by assumption) (Or.inl ⟨by rfl, ?_⟩) ?_ ?_; rotate_left 2; (· intro w' hS'; (try dsimp only at hS'); go_simp; with_reducible rfl); (· simp only [Act.put, List.setIfInBounds_toArray, List.set_cons_zero, List.set_cons_succ, i64_w, i32_w]; rfl)) | (refine seq_l (some 151) (v := undef) (a' := ?_) rfl rfl (fun _ _ _ h => h) (by assumption) (Or.inr ⟨by rfl, rfl⟩) ?_ ?_; rotate_left; (· simp only [Act.put, List.setIfInBounds_toArray, List.set_cons_zero, List.set_cons_succ, i64_w, i32_w]; rfl))
          (refine seq_e rfl (by rfl) (fun K hK => ?_))
          go_simp
          refine (two_len hT9.out).mono ?_
          rintro e wl ⟨rfl, hwl⟩
          subst hwl
          refine hK _ _ hS (fun hS => ?_)
          clear hK K
          first | (refine seq_v (some 152) (v := ?_) (a' := ?_) rfl rfl (fun _ _ _ h => h) (Or.inl ⟨by rfl, ?_⟩) ?_ ?_; rotate_left 2; (· intro w'; go_simp; with_reducible rfl); (· simp only [Act.put, List.setIfInBounds_toArray, List.set_cons_zero, List.set_cons_succ, i64_w, i32_w]; rfl)) | (refine seq_v (some 152) (v := undef) (a' := ?_) rfl rfl (fun _ _ _ h => h) (Or.inr ⟨by rfl, rfl⟩) ?_ ?_; rotate_left; (· simp only [Act.put, List.setIfInBounds_toArray, List.set_cons_zero, List.set_cons_succ, i64_w, i32_w]; rfl))
          (refine seq_v (some 153) (v := ?_) (a' := ?_) rfl rfl (fun _ _ _ h => h) (Or.inl ⟨by rfl, ?_⟩) ?_ ?_; rotate_left 2; (· intro w'; go_simp; with_reducible rfl); (· simp only [Act.put, List.setIfInBounds_toArray, List.set_cons_zero, List.set_cons_succ, i64_w, i32_w]; rfl))
          (refine seq_v (some 154) (v := ?_) (a' := ?_) rfl rfl (fun _ _ _ h => h) (Or.inl ⟨by rfl, ?_⟩) ?_ ?_; rotate_left 2; (· intro w'; go_simp; with_reducible rfl); (· simp only [Act.put, List.setIfInBounds_toArray, List.set_cons_zero, List.set_cons_succ, i64_w, i32_w]; rfl))
          first | (refine seq_v (some 155) (v := ?_) (a' := ?_) rfl rfl (fun _ _ _ h => h) (Or.inl ⟨by rfl, ?_⟩) ?_ ?_; rotate_left 2; (· intro w'; go_simp; with_reducible rfl); (· simp only [Act.put, List.setIfInBounds_toArray, List.set_cons_zero, List.set_cons_succ, i64_w, i32_w]; rfl)) | (refine seq_v (some 155) (v := undef) (a' := ?_) rfl rfl (fun _ _ _ h => h) (Or.inr ⟨by rfl, rfl⟩) ?_ ?_; rotate_left; (· simp only [Act.put, List.setIfInBounds_toArray, List.set_cons_zero, List.set_cons_succ, i64_w, i32_w]; rfl))
          first | (refine seq_v (some 158) (v := ?_) (a' := ?_) rfl rfl (fun _ _ _ h => h) (Or.inl ⟨by rfl, ?_⟩) ?_ ?_; rotate_left 2; (· intro w'; go_simp; with_reducible rfl); (· simp only [Act.put, List.setIfInBounds_toArray, List.set_cons_zero, List.set_cons_succ, i64_w, i32_w]; rfl)) | (refine seq_v (some 158) (v := undef) (a' := ?_) rfl rfl (fun _ _ _ h => h) (Or.inr ⟨by rfl, rfl⟩) ?_ ?_; rotate_left; (· simp only [Act.put, List.setIfInBounds_toArray, List.set_cons_zero, List.set_cons_succ, i64_w, i32_w]; rfl))
          first | (refine seq_v (some 159) (v := ?_) (a' := ?_) rfl rfl (fun _ _ _ h => h) (Or.inl ⟨by rfl, ?_⟩) ?_ ?_; rotate_left 2; (· intro w'; go_simp; with_reducible rfl); (· simp only [Act.put, List.setIfInBounds_toArray, List.set_cons_zero, List.set_cons_succ, i64_w, i32_w]; rfl)) | (refine seq_v (some 159) (v := undef) (a' := ?_) rfl rfl (fun _ _ _ h => h) (Or.inr ⟨by rfl, rfl⟩) ?_ ?_; rotate_left; (· simp only [Act.put, List.setIfInBounds_toArray, List.set_cons_zero, List.set_cons_succ, i64_w, i32_w]; rfl))
          first | (refine seq_v (some 160) (v := ?_) (a' := ?_) rfl rfl (fun _ _ _ h => h) (Or.inl ⟨by rfl, ?_⟩) ?_ ?_; rotate_left 2; (· intro w'; go_simp; with_reducible rfl); (· simp only [Act.put, List.setIfInBounds_toArray, List.set_cons_zero, List.set_cons_succ, i64_w, i32_w]; rfl)) | (refine seq_v (some 160) (v := undef) (a' := ?_) rfl rfl (fun _ _ _ h => h) (Or.inr ⟨by rfl, rfl⟩) ?_ ?_; rotate_left; (· simp only [Act.put, List.setIfInBounds_toArray, List.set_cons_zero, List.set_cons_succ, i64_w, i32_w]; rfl))
          first | (refine seq_l (some 161) (v := ?_) (a' := ?_) rfl rfl (fun _ _ _ h => h) (by assumption) (Or.inl ⟨by rfl, ?_⟩) ?_ ?_; rotate_left 2; (· intro w' hS'; (try dsimp only at hS'); go_simp; with_reducible rfl); (· simp only [Act.put, List.setIfInBounds_toArray, List.set_cons_zero, List.set_cons_succ, i64_w, i32_w]; rfl)) | (refine seq_l (some 161) (v := undef) (a' := ?_) rfl rfl (fun _ _ _ h => h) (by assumption) (Or.inr ⟨by rfl, rfl⟩) ?_ ?_; rotate_left; (· simp only [Act.put, List.setIfInBounds_toArray, List.set_cons_zero, List.set_cons_succ, i64_w, i32_w]; rfl))
          first | (refine seq_l (some 162) (v := ?_) (a' := ?_) rfl rfl (fun _ _ _ h => h) (by assumption) (Or.inl ⟨by rfl, ?_⟩) ?_ ?_; rotate_left 2; (· intro w' hS'; (try dsimp only at hS'); go_simp; with_reducible rfl); (· simp only [Act.put, List.setIfInBounds_toArray, List.set_cons_zero, List.set_cons_succ, i64_w, i32_w]; rfl)) | (refine seq_l (some 162) (v := undef) (a' := ?_) rfl rfl (fun _ _ _ h => h) (by assumption) (Or.inr ⟨by rfl, rfl⟩) ?_ ?_; rotate_left; (· simp only [Act.put, List.setIfInBounds_toArray, List.set_cons_zero, List.set_cons_succ, i64_w, i32_w]; rfl))
          (refine seq_e rfl (by rfl) (fun K hK => ?_))
          go_simp
          refine (two_bytes hT9.out.fileL hlS).mono ?_
          rintro e w10 ⟨v, rfl, hRv, hBv⟩
          obtain ⟨Av, nv, cv, rfl, hnv⟩ : ∃ A3 n3 c3, v = .slice A3 n3 c3 ∧ n3 = (S ++ L).length := by
            obtain ⟨A3, c3, rfl⟩ := Kd.R_slice hRv
            exact ⟨A3, _, c3, rfl, rfl⟩
          have hCv := (Kd.R_reads' hRv).2.2
          rw [← hnv] at hCv
          have s1 := Kd.C_string (P := Try.prog) (c := cv) Try.underlying32 Try.underlying5 Try.underlying9 hCv
          have s2 := Kd.C_string (P := Try.prog) (c := cm) Try.underlying32 Try.underlying5 Try.underlying9 (C_kp (Kd.C_drew HCm.out) hBv)
          have hT10 := Lib.hid (hT9.out.below PJ.stands QJ.stands hBv)
          have hS10 : w10.cell? ⟨KB, 1, none⟩ = some (.int .i64 N) ∧ w10.cell? ⟨mb, 0, none⟩ = some (.slice Am nm cm) ∧ w10.cell? ⟨mb, 1, none⟩ = some (.int .i64 S.length) ∧ (convert 32 9 (.slice Am nm cm)).run Try.prog w10 = .ok (.string (strOfNums (S ++ L))) w10 := by
            obtain ⟨q1, q2, q3, q4⟩ := hS
            exact ⟨(World.cell?_of_block (hBv.block _ (World.block_lt_of_cell? _ _ q1))).trans q1, (World.cell?_of_block (hBv.block _ (World.block_lt_of_cell? _ _ q2))).trans q2, (World.cell?_of_block (hBv.block _ (World.block_lt_of_cell? _ _ q3))).trans q3, s2⟩
          refine hK _ _ hS10 (fun hS => ?_)
          clear hK K s2 hCv hnv hRv hBv hS10

          (refine seq_e rfl (by rfl) (fun K hK => ?_))
          go_simp
          refine hK _ _ hS (fun hS => ?_)
          clear hK K
          first | (refine seq_v (some 163) (v := ?_) (a' := ?_) rfl rfl (fun _ _ _ h => h) (Or.inl ⟨by rfl, ?_⟩) ?_ ?_; rotate_left 2; (· intro w'; go_simp; with_reducible rfl); (· simp only [Act.put, List.setIfInBounds_toArray, List.set_cons_zero, List.set_cons_succ, i64_w, i32_w]; rfl)) | (refine seq_v (some 163) (v := undef) (a' := ?_) rfl rfl (fun _ _ _ h => h) (Or.inr ⟨by rfl, rfl⟩) ?_ ?_; rotate_left; (· simp only [Act.put, List.setIfInBounds_toArray, List.set_cons_zero, List.set_cons_succ, i64_w, i32_w]; rfl))
          (refine seq_v (some 164) (v := ?_) (a' := ?_) rfl rfl (fun _ _ _ h => h) (Or.inl ⟨by rfl, ?_⟩) ?_ ?_; rotate_left 2; (· intro w'; go_simp; with_reducible rfl); (· simp only [Act.put, List.setIfInBounds_toArray, List.set_cons_zero, List.set_cons_succ, i64_w, i32_w]; rfl))
          (refine seq_v (some 165) (v := ?_) (a' := ?_) rfl rfl (fun _ _ _ h => h) (Or.inl ⟨by rfl, ?_⟩) ?_ ?_; rotate_left 2; (· intro w'; go_simp; with_reducible rfl); (· simp only [Act.put, List.setIfInBounds_toArray, List.set_cons_zero, List.set_cons_succ, i64_w, i32_w]; rfl))
          first | (refine seq_v (some 166) (v := ?_) (a' := ?_) rfl rfl (fun _ _ _ h => h) (Or.inl ⟨by rfl, ?_⟩) ?_ ?_; rotate_left 2; (· intro w'; go_simp; with_reducible rfl); (· simp only [Act.put, List.setIfInBounds_toArray, List.set_cons_zero, List.set_cons_succ, i64_w, i32_w]; rfl)) | (refine seq_v (some 166) (v := undef) (a' := ?_) rfl rfl (fun _ _ _ h => h) (Or.inr ⟨by rfl, rfl⟩) ?_ ?_; rotate_left; (· simp only [Act.put, List.setIfInBounds_toArray, List.set_cons_zero, List.set_cons_succ, i64_w, i32_w]; rfl))
          first | (refine seq_v (some 168) (v := ?_) (a' := ?_) rfl rfl (fun _ _ _ h => h) (Or.inl ⟨by rfl, ?_⟩) ?_ ?_; rotate_left 2; (· intro w'; go_simp; with_reducible rfl); (· simp only [Act.put, List.setIfInBounds_toArray, List.set_cons_zero, List.set_cons_succ, i64_w, i32_w]; rfl)) | (refine seq_v (some 168) (v := undef) (a' := ?_) rfl rfl (fun _ _ _ h => h) (Or.inr ⟨by rfl, rfl⟩) ?_ ?_; rotate_left; (· simp only [Act.put, List.setIfInBounds_toArray, List.set_cons_zero, List.set_cons_succ, i64_w, i32_w]; rfl))
          first | (refine seq_v (some 169) (v := ?_) (a' := ?_) rfl rfl (fun _ _ _ h => h) (Or.inl ⟨by rfl, ?_⟩) ?_ ?_; rotate_left 2; (· intro w'; go_simp; with_reducible rfl); (· simp only [Act.put, List.setIfInBounds_toArray, List.set_cons_zero, List.set_cons_succ, i64_w, i32_w]; rfl)) | (refine seq_v (some 169) (v := undef) (a' := ?_) rfl rfl (fun _ _ _ h => h) (Or.inr ⟨by rfl, rfl⟩) ?_ ?_; rotate_left; (· simp only [Act.put, List.setIfInBounds_toArray, List.set_cons_zero, List.set_cons_succ, i64_w, i32_w]; rfl))
          first | (refine seq_v (some 170) (v := ?_) (a' := ?_) rfl rfl (fun _ _ _ h => h) (Or.inl ⟨by rfl, ?_⟩) ?_ ?_; rotate_left 2; (· intro w'; go_simp; with_reducible rfl); (· simp only [Act.put, List.setIfInBounds_toArray, List.set_cons_zero, List.set_cons_succ, i64_w, i32_w]; rfl)) | (refine seq_v (some 170) (v := undef) (a' := ?_) rfl rfl (fun _ _ _ h => h) (Or.inr ⟨by rfl, rfl⟩) ?_ ?_; rotate_left; (· simp only [Act.put, List.setIfInBounds_toArray, List.set_cons_zero, List.set_cons_succ, i64_w, i32_w]; rfl))
          first | (refine seq_l (some 171) (v := ?_) (a' := ?_) rfl rfl (fun _ _ _ h => h) (by assumption) (Or.inl ⟨by rfl, ?_⟩) ?_ ?_; rotate_left 2; (· intro w' hS'; (try dsimp only at hS'); go_simp; with_reducible rfl); (· simp only [Act.put, List.setIfInBounds_toArray, List.set_cons_zero, List.set_cons_succ, i64_w, i32_w]; rfl)) | (refine seq_l (some 171) (v := undef) (a' := ?_) rfl rfl (fun _ _ _ h => h) (by assumption) (Or.inr ⟨by rfl, rfl⟩) ?_ ?_; rotate_left; (· simp only [Act.put, List.setIfInBounds_toArray, List.set_cons_zero, List.set_cons_succ, i64_w, i32_w]; rfl))
          (refine seq_e rfl (by rfl) (fun K hK => ?_))
          go_simp
          refine (two_safe hT10.out.fileL).mono ?_
          rintro e w11 ⟨rfl, hw11⟩
          subst hw11
          refine hK _ _ hS (fun hS => ?_)
          clear hK K
          first | (refine seq_v (some 172) (v := ?_) (a' := ?_) rfl rfl (fun _ _ _ h => h) (Or.inl ⟨by rfl, ?_⟩) ?_ ?_; rotate_left 2; (· intro w'; go_simp; with_reducible rfl); (· simp only [Act.put, List.setIfInBounds_toArray, List.set_cons_zero, List.set_cons_succ, i64_w, i32_w]; rfl)) | (refine seq_v (some 172) (v := undef) (a' := ?_) rfl rfl (fun _ _ _ h => h) (Or.inr ⟨by rfl, rfl⟩) ?_ ?_; rotate_left; (· simp only [Act.put, List.setIfInBounds_toArray, List.set_cons_zero, List.set_cons_succ, i64_w, i32_w]; rfl))
          (refine seq_v (some 173) (v := ?_) (a' := ?_) rfl rfl (fun _ _ _ h => h) (Or.inl ⟨by rfl, ?_⟩) ?_ ?_; rotate_left 2; (· intro w'; go_simp; with_reducible rfl); (· simp only [Act.put, List.setIfInBounds_toArray, List.set_cons_zero, List.set_cons_succ, i64_w, i32_w]; rfl))
          refine seq_nil ?_
          clear s1 hS hs0
          have HI11 := Lib.hid (show PlayInv wa w11 fb mb J KB N S L r from ⟨hT10.out, HI.out.2.1, HI.out.2.2.1, HQ.out⟩)
          go_wp2_with fail
          go_roundw
          case rel => exact ⟨k + 1, J, KB, N, S, L, by omega, rfl, rfl, by go_num, hne, HI11⟩
          case measure => simp [intOf] <;> omega
        · refine (two_crash QJ.stands HP.out.1.fileL a.num (by omega)).mono ?_
          rintro e w6 ⟨x6, rfl, hT6⟩
          have HT6 := Lib.hid hT6.fileR
          have ha6 := (HC.out.2 k a ha).below hT6.kept
          obtain ⟨ad6, Bv6, bn6, bc6, had6, g1, g2, g3, g4, g5, g6⟩ := ha6
          obtain rfl := Option.some.inj had6
          clear hT6 g1 g2 g4 g5 g6
          go_wp2_with fail
          refine (two_rcrash PF.stands HT6.out (by rw [List.length_append]; omega) (by rw [List.length_append]; omega) a.num).mono ?_
          rintro e w7 ⟨x7, rfl, hT7⟩
          rw [(crash_eq s l' a.num).1, (crash_eq s l' a.num).2] at hT7
          have hB1 : BR (s ++ l'.take (keepN l' a.num)) := HP.out.2.1.append (HP.out.2.2.1.take _)
          have hl1 : (s ++ l'.take (keepN l' a.num)).length ≤ 65535 := by rw [List.length_append, List.length_take]; omega
          have hl2 : ((s ++ l'.take (keepN l' a.num)).length : Int) ≤ r := by have := HP.out.2.2.2; rw [List.length_append] at this ⊢; rw [List.length_take]; omega
          have HX := Lib.hid (And.intro hT7 (And.intro hB1 (And.intro hl1 hl2)))
          clear hT7 hB1 hl1 hl2
          generalize s ++ l'.take (keepN l' a.num) = s1 at HX
          go_wp2_with fail
          refine (two_open QF.stands HX.out.1 (by have := HX.out.2.2.1; simp; omega)).mono ?_
          rintro e w8 ⟨J, Aa, na, ca, rfl, hT8, hca, hna⟩
          rw [List.append_nil] at hT8 hna
          have HT8 := Lib.hid hT8
          have Hna := Lib.hid hna
          clear hT8 hna
          go_wp2_with fail
          refine (two_ropen PJL.stands HT8.out (by have := HX.out.2.2.1; omega)).mono ?_
          rintro e w9 ⟨KB, Ab, nb, cb, rfl, hT9, hcb, hnb, hCb⟩
          obtain rfl : nb = na := by rw [hnb, ← Hna.out]
          have hCa := hT9.list Hna.out
          have hT9' := hT9.forget
          rw [(open_eq s1).1, (open_eq s1).2] at hT9'
          have hnb9 : nb ≤ 65535 := by rw [Hna.out]; have := scan_le1 s1; have := HX.out.2.2.1; omega
          have hI0 : PlayInv wa w9 fb mb J KB nb (openS s1 []) (openL s1 []) r := ⟨hT9', (openS_br s1 HX.out.2.1).1, (openS_br s1 HX.out.2.1).2, by have := openS_len s1; have := HX.out.2.2.2; omega⟩
          have HI0 := Lib.hid hI0
          have HCa := Lib.hid hCa
          have HCb := Lib.hid hCb
          clear hT9 hT9' hI0 hnb hCa hCb
          go_wp2_with fail
          refine (same_any w9 Aa Ab nb ca nb cb _ _ (scan_br s1 HX.out.2.1) (scan_br s1 HX.out.2.1) HCa.out HCb.out (by omega) (by omega)).mono ?_
          rintro e w10 ⟨rfl, hb10⟩
          rw [decide_eq_true rfl]
          have hI : PlayInv wa w10 fb mb J KB nb (openS s1 []) (openL s1 []) r := ⟨HI0.out.1.below PJ.stands QJ.stands hb10, HI0.out.2⟩
          have hne : nb ≤ 65535 + (k + 1) := by omega
          clear hb10 hn hlr HI0
          generalize openS s1 [] = S at hI
          generalize openL s1 [] = L at hI
          obtain ⟨N, hN⟩ : ∃ N, N = nb := ⟨_, rfl⟩
          rw [← hN] at hI
          have HI := Lib.hid hI
          subst hN
          clear hI
          go_wp2_with fail
          have HQ := Lib.hid HI.out.2.2.2
          have hlS : S.length + L.length ≤ 1000000000 := by have := HQ.out; rw [List.length_append] at this; omega
          obtain ⟨Am, nm, cm, e1, e2, e3, hCm⟩ := two_cells HI.out.1
          have HCm := Lib.hid hCm
          have hT9 := Lib.hid (HI.out.1.below PJ.stands QJ.stands (below_drew (Below.refl _ _)))
          have hs0 := Kd.C_string (P := Try.prog) (c := cm) Try.underlying32 Try.underlying5 Try.underlying9 (Kd.C_drew hCm)
          have Hac := Lib.hid (ha)
          clear hCm h1 h2 h3
          refine seq_start (fun w' => w'.cell? ⟨KB, 1, none⟩ = some (.int .i64 N) ∧ w'.cell? ⟨mb, 0, none⟩ = some (.slice Am nm cm) ∧ w'.cell? ⟨mb, 1, none⟩ = some (.int .i64 S.length) ∧ (convert 32 9 (.slice Am nm cm)).run Try.prog w' = .ok (.string (strOfNums (S ++ L))) w') [] [(0, 0), (1, 0), (2, 0), (3, 0), (5, 0), (6, 0), (7, 0), (8, 1), (4, 2), (9, 0), (10, 0), (11, 0), (12, 0), (15, 0), (16, 0), (17, 0), (18, 1), (19, 1), (13, 2), (14, 2), (20, 0), (21, 0), (22, 0), (23, 0), (25, 0), (26, 0), (27, 0), (28, 1), (24, 2), (29, 0), (30, 0)] (by kernel_rfl) (by kernel_rfl) ⟨e1, e2, e3, hs0⟩ ?_
          intro hS
          (refine seq_v (some 143) (v := ?_) (a' := ?_) rfl rfl (fun _ _ _ h => h) (Or.inl ⟨by rfl, ?_⟩) ?_ ?_; rotate_left 2; (· intro w'; go_simp; with_reducible rfl); (· simp only [Act.put, List.setIfInBounds_toArray, List.set_cons_zero, List.set_cons_succ, i64_w, i32_w]; rfl))
          (refine seq_v (some 144) (v := ?_) (a' := ?_) rfl rfl (fun _ _ _ h => h) (Or.inl ⟨by rfl, ?_⟩) ?_ ?_; rotate_left 2; (· intro w'; go_simp; with_reducible rfl); (· simp only [Act.put, List.setIfInBounds_toArray, List.set_cons_zero, List.set_cons_succ, i64_w, i32_w]; rfl))
          (refine seq_v (some 145) (v := ?_) (a' := ?_) rfl rfl (fun _ _ _ h => h) (Or.inl ⟨by rfl, ?_⟩) ?_ ?_; rotate_left 2; (· intro w'; go_simp; with_reducible rfl); (· simp only [Act.put, List.setIfInBounds_toArray, List.set_cons_zero, List.set_cons_succ, i64_w, i32_w]; rfl))
          first | (refine seq_v (some 146) (v := ?_) (a' := ?_) rfl rfl (fun _ _ _ h => h) (Or.inl ⟨by rfl, ?_⟩) ?_ ?_; rotate_left 2; (· intro w'; go_simp; with_reducible rfl); (· simp only [Act.put, List.setIfInBounds_toArray, List.set_cons_zero, List.set_cons_succ, i64_w, i32_w]; rfl)) | (refine seq_v (some 146) (v := undef) (a' := ?_) rfl rfl (fun _ _ _ h => h) (Or.inr ⟨by rfl, rfl⟩) ?_ ?_; rotate_left; (· simp only [Act.put, List.setIfInBounds_toArray, List.set_cons_zero, List.set_cons_succ, i64_w, i32_w]; rfl))
          first | (refine seq_v (some 148) (v := ?_) (a' := ?_) rfl rfl (fun _ _ _ h => h) (Or.inl ⟨by rfl, ?_⟩) ?_ ?_; rotate_left 2; (· intro w'; go_simp; with_reducible rfl); (· simp only [Act.put, List.setIfInBounds_toArray, List.set_cons_zero, List.set_cons_succ, i64_w, i32_w]; rfl)) | (refine seq_v (some 148) (v := undef) (a' := ?_) rfl rfl (fun _ _ _ h => h) (Or.inr ⟨by rfl, rfl⟩) ?_ ?_; rotate_left; (· simp only [Act.put, List.setIfInBounds_toArray, List.set_cons_zero, List.set_cons_succ, i64_w, i32_w]; rfl))
          first | (refine seq_v (some 149) (v := ?_) (a' := ?_) rfl rfl (fun _ _ _ h => h) (Or.inl ⟨by rfl, ?_⟩) ?_ ?_; rotate_left 2; (· intro w'; go_simp; with_reducible rfl); (· simp only [Act.put, List.setIfInBounds_toArray, List.set_cons_zero, List.set_cons_succ, i64_w, i32_w]; rfl)) | (refine seq_v (some 149) (v := undef) (a' := ?_) rfl rfl (fun _ _ _ h => h) (Or.inr ⟨by rfl, rfl⟩) ?_ ?_; rotate_left; (· simp only [Act.put, List.setIfInBounds_toArray, List.set_cons_zero, List.set_cons_succ, i64_w, i32_w]; rfl))
          first | (refine seq_v (some 150) (v := ?_) (a' := ?_) rfl rfl (fun _ _ _ h => h) (Or.inl ⟨by rfl, ?_⟩) ?_ ?_; rotate_left 2; (· intro w'; go_simp; with_reducible rfl); (· simp only [Act.put, List.setIfInBounds_toArray, List.set_cons_zero, List.set_cons_succ, i64_w, i32_w]; rfl)) | (refine seq_v (some 150) (v := undef) (a' := ?_) rfl rfl (fun _ _ _ h => h) (Or.inr ⟨by rfl, rfl⟩) ?_ ?_; rotate_left; (· simp only [Act.put, List.setIfInBounds_toArray, List.set_cons_zero, List.set_cons_succ, i64_w, i32_w]; rfl))
          first | (refine seq_l (some 151) (v := ?_) (a' := ?_) rfl rfl (fun _ _ _ h => h) (by assumption) (Or.inl ⟨by rfl, ?_⟩) ?_ ?_; rotate_left 2; (· intro w' hS'; (try dsimp only at hS'); go_simp; with_reducible rfl); (· simp only [Act.put, List.setIfInBounds_toArray, List.set_cons_zero, List.set_cons_succ, i64_w, i32_w]; rfl)) | (refine seq_l (some 151) (v := undef) (a' := ?_) rfl rfl (fun _ _ _ h => h) (by assumption) (Or.inr ⟨by rfl, rfl⟩) ?_ ?_; rotate_left; (· simp only [Act.put, List.setIfInBounds_toArray, List.set_cons_zero, List.set_cons_succ, i64_w, i32_w]; rfl))
          (refine seq_e rfl (by rfl) (fun K hK => ?_))
          go_simp
          refine (two_len hT9.out).mono ?_
          rintro e wl ⟨rfl, hwl⟩
          subst hwl
          refine hK _ _ hS (fun hS => ?_)
          clear hK K
          first | (refine seq_v (some 152) (v := ?_) (a' := ?_) rfl rfl (fun _ _ _ h => h) (Or.inl ⟨by rfl, ?_⟩) ?_ ?_; rotate_left 2; (· intro w'; go_simp; with_reducible rfl); (· simp only [Act.put, List.setIfInBounds_toArray, List.set_cons_zero, List.set_cons_succ, i64_w, i32_w]; rfl)) | (refine seq_v (some 152) (v := undef) (a' := ?_) rfl rfl (fun _ _ _ h => h) (Or.inr ⟨by rfl, rfl⟩) ?_ ?_; rotate_left; (· simp only [Act.put, List.setIfInBounds_toArray, List.set_cons_zero, List.set_cons_succ, i64_w, i32_w]; rfl))
          (refine seq_v (some 153) (v := ?_) (a' := ?_) rfl rfl (fun _ _ _ h => h) (Or.inl ⟨by rfl, ?_⟩) ?_ ?_; rotate_left 2; (· intro w'; go_simp; with_reducible rfl); (· simp only [Act.put, List.setIfInBounds_toArray, List.set_cons_zero, List.set_cons_succ, i64_w, i32_w]; rfl))
          (refine seq_v (some 154) (v := ?_) (a' := ?_) rfl rfl (fun _ _ _ h => h) (Or.inl ⟨by rfl, ?_⟩) ?_ ?_; rotate_left 2; (· intro w'; go_simp; with_reducible rfl); (· simp only [Act.put, List.setIfInBounds_toArray, List.set_cons_zero, List.set_cons_succ, i64_w, i32_w]; rfl))
          first | (refine seq_v (some 155) (v := ?_) (a' := ?_) rfl rfl (fun _ _ _ h => h) (Or.inl ⟨by rfl, ?_⟩) ?_ ?_; rotate_left 2; (· intro w'; go_simp; with_reducible rfl); (· simp only [Act.put, List.setIfInBounds_toArray, List.set_cons_zero, List.set_cons_succ, i64_w, i32_w]; rfl)) | (refine seq_v (some 155) (v := undef) (a' := ?_) rfl rfl (fun _ _ _ h => h) (Or.inr ⟨by rfl, rfl⟩) ?_ ?_; rotate_left; (· simp only [Act.put, List.setIfInBounds_toArray, List.set_cons_zero, List.set_cons_succ, i64_w, i32_w]; rfl))
          first | (refine seq_v (some 158) (v := ?_) (a' := ?_) rfl rfl (fun _ _ _ h => h) (Or.inl ⟨by rfl, ?_⟩) ?_ ?_; rotate_left 2; (· intro w'; go_simp; with_reducible rfl); (· simp only [Act.put, List.setIfInBounds_toArray, List.set_cons_zero, List.set_cons_succ, i64_w, i32_w]; rfl)) | (refine seq_v (some 158) (v := undef) (a' := ?_) rfl rfl (fun _ _ _ h => h) (Or.inr ⟨by rfl, rfl⟩) ?_ ?_; rotate_left; (· simp only [Act.put, List.setIfInBounds_toArray, List.set_cons_zero, List.set_cons_succ, i64_w, i32_w]; rfl))
          first | (refine seq_v (some 159) (v := ?_) (a' := ?_) rfl rfl (fun _ _ _ h => h) (Or.inl ⟨by rfl, ?_⟩) ?_ ?_; rotate_left 2; (· intro w'; go_simp; with_reducible rfl); (· simp only [Act.put, List.setIfInBounds_toArray, List.set_cons_zero, List.set_cons_succ, i64_w, i32_w]; rfl)) | (refine seq_v (some 159) (v := undef) (a' := ?_) rfl rfl (fun _ _ _ h => h) (Or.inr ⟨by rfl, rfl⟩) ?_ ?_; rotate_left; (· simp only [Act.put, List.setIfInBounds_toArray, List.set_cons_zero, List.set_cons_succ, i64_w, i32_w]; rfl))
          first | (refine seq_v (some 160) (v := ?_) (a' := ?_) rfl rfl (fun _ _ _ h => h) (Or.inl ⟨by rfl, ?_⟩) ?_ ?_; rotate_left 2; (· intro w'; go_simp; with_reducible rfl); (· simp only [Act.put, List.setIfInBounds_toArray, List.set_cons_zero, List.set_cons_succ, i64_w, i32_w]; rfl)) | (refine seq_v (some 160) (v := undef) (a' := ?_) rfl rfl (fun _ _ _ h => h) (Or.inr ⟨by rfl, rfl⟩) ?_ ?_; rotate_left; (· simp only [Act.put, List.setIfInBounds_toArray, List.set_cons_zero, List.set_cons_succ, i64_w, i32_w]; rfl))
          first | (refine seq_l (some 161) (v := ?_) (a' := ?_) rfl rfl (fun _ _ _ h => h) (by assumption) (Or.inl ⟨by rfl, ?_⟩) ?_ ?_; rotate_left 2; (· intro w' hS'; (try dsimp only at hS'); go_simp; with_reducible rfl); (· simp only [Act.put, List.setIfInBounds_toArray, List.set_cons_zero, List.set_cons_succ, i64_w, i32_w]; rfl)) | (refine seq_l (some 161) (v := undef) (a' := ?_) rfl rfl (fun _ _ _ h => h) (by assumption) (Or.inr ⟨by rfl, rfl⟩) ?_ ?_; rotate_left; (· simp only [Act.put, List.setIfInBounds_toArray, List.set_cons_zero, List.set_cons_succ, i64_w, i32_w]; rfl))
          first | (refine seq_l (some 162) (v := ?_) (a' := ?_) rfl rfl (fun _ _ _ h => h) (by assumption) (Or.inl ⟨by rfl, ?_⟩) ?_ ?_; rotate_left 2; (· intro w' hS'; (try dsimp only at hS'); go_simp; with_reducible rfl); (· simp only [Act.put, List.setIfInBounds_toArray, List.set_cons_zero, List.set_cons_succ, i64_w, i32_w]; rfl)) | (refine seq_l (some 162) (v := undef) (a' := ?_) rfl rfl (fun _ _ _ h => h) (by assumption) (Or.inr ⟨by rfl, rfl⟩) ?_ ?_; rotate_left; (· simp only [Act.put, List.setIfInBounds_toArray, List.set_cons_zero, List.set_cons_succ, i64_w, i32_w]; rfl))
          (refine seq_e rfl (by rfl) (fun K hK => ?_))
          go_simp
          refine (two_bytes hT9.out.fileL hlS).mono ?_
          rintro e w10 ⟨v, rfl, hRv, hBv⟩
          obtain ⟨Av, nv, cv, rfl, hnv⟩ : ∃ A3 n3 c3, v = .slice A3 n3 c3 ∧ n3 = (S ++ L).length := by
            obtain ⟨A3, c3, rfl⟩ := Kd.R_slice hRv
            exact ⟨A3, _, c3, rfl, rfl⟩
          have hCv := (Kd.R_reads' hRv).2.2
          rw [← hnv] at hCv
          have s1 := Kd.C_string (P := Try.prog) (c := cv) Try.underlying32 Try.underlying5 Try.underlying9 hCv
          have s2 := Kd.C_string (P := Try.prog) (c := cm) Try.underlying32 Try.underlying5 Try.underlying9 (C_kp (Kd.C_drew HCm.out) hBv)
          have hT10 := Lib.hid (hT9.out.below PJ.stands QJ.stands hBv)
          have hS10 : w10.cell? ⟨KB, 1, none⟩ = some (.int .i64 N) ∧ w10.cell? ⟨mb, 0, none⟩ = some (.slice Am nm cm) ∧ w10.cell? ⟨mb, 1, none⟩ = some (.int .i64 S.length) ∧ (convert 32 9 (.slice Am nm cm)).run Try.prog w10 = .ok (.string (strOfNums (S ++ L))) w10 := by
            obtain ⟨q1, q2, q3, q4⟩ := hS
            exact ⟨(World.cell?_of_block (hBv.block _ (World.block_lt_of_cell? _ _ q1))).trans q1, (World.cell?_of_block (hBv.block _ (World.block_lt_of_cell? _ _ q2))).trans q2, (World.cell?_of_block (hBv.block _ (World.block_lt_of_cell? _ _ q3))).trans q3, s2⟩
          refine hK _ _ hS10 (fun hS => ?_)
          clear hK K s2 hCv hnv hRv hBv hS10

          (refine seq_e rfl (by rfl) (fun K hK => ?_))
          go_simp
          refine hK _ _ hS (fun hS => ?_)
          clear hK K
          first | (refine seq_v (some 163) (v := ?_) (a' := ?_) rfl rfl (fun _ _ _ h => h) (Or.inl ⟨by rfl, ?_⟩) ?_ ?_; rotate_left 2; (· intro w'; go_simp; with_reducible rfl); (· simp only [Act.put, List.setIfInBounds_toArray, List.set_cons_zero, List.set_cons_succ, i64_w, i32_w]; rfl)) | (refine seq_v (some 163) (v := undef) (a' := ?_) rfl rfl (fun _ _ _ h => h) (Or.inr ⟨by rfl, rfl⟩) ?_ ?_; rotate_left; (· simp only [Act.put, List.setIfInBounds_toArray, List.set_cons_zero, List.set_cons_succ, i64_w, i32_w]; rfl))
          (refine seq_v (some 164) (v := ?_) (a' := ?_) rfl rfl (fun _ _ _ h => h) (Or.inl ⟨by rfl, ?_⟩) ?_ ?_; rotate_left 2; (· intro w'; go_simp; with_reducible rfl); (· simp only [Act.put, List.setIfInBounds_toArray, List.set_cons_zero, List.set_cons_succ, i64_w, i32_w]; rfl))
          (refine seq_v (some 165) (v := ?_) (a' := ?_) rfl rfl (fun _ _ _ h => h) (Or.inl ⟨by rfl, ?_⟩) ?_ ?_; rotate_left 2; (· intro w'; go_simp; with_reducible rfl); (· simp only [Act.put, List.setIfInBounds_toArray, List.set_cons_zero, List.set_cons_succ, i64_w, i32_w]; rfl))
          first | (refine seq_v (some 166) (v := ?_) (a' := ?_) rfl rfl (fun _ _ _ h => h) (Or.inl ⟨by rfl, ?_⟩) ?_ ?_; rotate_left 2; (· intro w'; go_simp; with_reducible rfl); (· simp only [Act.put, List.setIfInBounds_toArray, List.set_cons_zero, List.set_cons_succ, i64_w, i32_w]; rfl)) | (refine seq_v (some 166) (v := undef) (a' := ?_) rfl rfl (fun _ _ _ h => h) (Or.inr ⟨by rfl, rfl⟩) ?_ ?_; rotate_left; (· simp only [Act.put, List.setIfInBounds_toArray, List.set_cons_zero, List.set_cons_succ, i64_w, i32_w]; rfl))
          first | (refine seq_v (some 168) (v := ?_) (a' := ?_) rfl rfl (fun _ _ _ h => h) (Or.inl ⟨by rfl, ?_⟩) ?_ ?_; rotate_left 2; (· intro w'; go_simp; with_reducible rfl); (· simp only [Act.put, List.setIfInBounds_toArray, List.set_cons_zero, List.set_cons_succ, i64_w, i32_w]; rfl)) | (refine seq_v (some 168) (v := undef) (a' := ?_) rfl rfl (fun _ _ _ h => h) (Or.inr ⟨by rfl, rfl⟩) ?_ ?_; rotate_left; (· simp only [Act.put, List.setIfInBounds_toArray, List.set_cons_zero, List.set_cons_succ, i64_w, i32_w]; rfl))
          first | (refine seq_v (some 169) (v := ?_) (a' := ?_) rfl rfl (fun _ _ _ h => h) (Or.inl ⟨by rfl, ?_⟩) ?_ ?_; rotate_left 2; (· intro w'; go_simp; with_reducible rfl); (· simp only [Act.put, List.setIfInBounds_toArray, List.set_cons_zero, List.set_cons_succ, i64_w, i32_w]; rfl)) | (refine seq_v (some 169) (v := undef) (a' := ?_) rfl rfl (fun _ _ _ h => h) (Or.inr ⟨by rfl, rfl⟩) ?_ ?_; rotate_left; (· simp only [Act.put, List.setIfInBounds_toArray, List.set_cons_zero, List.set_cons_succ, i64_w, i32_w]; rfl))
          first | (refine seq_v (some 170) (v := ?_) (a' := ?_) rfl rfl (fun _ _ _ h => h) (Or.inl ⟨by rfl, ?_⟩) ?_ ?_; rotate_left 2; (· intro w'; go_simp; with_reducible rfl); (· simp only [Act.put, List.setIfInBounds_toArray, List.set_cons_zero, List.set_cons_succ, i64_w, i32_w]; rfl)) | (refine seq_v (some 170) (v := undef) (a' := ?_) rfl rfl (fun _ _ _ h => h) (Or.inr ⟨by rfl, rfl⟩) ?_ ?_; rotate_left; (· simp only [Act.put, List.setIfInBounds_toArray, List.set_cons_zero, List.set_cons_succ, i64_w, i32_w]; rfl))
          first | (refine seq_l (some 171) (v := ?_) (a' := ?_) rfl rfl (fun _ _ _ h => h) (by assumption) (Or.inl ⟨by rfl, ?_⟩) ?_ ?_; rotate_left 2; (· intro w' hS'; (try dsimp only at hS'); go_simp; with_reducible rfl); (· simp only [Act.put, List.setIfInBounds_toArray, List.set_cons_zero, List.set_cons_succ, i64_w, i32_w]; rfl)) | (refine seq_l (some 171) (v := undef) (a' := ?_) rfl rfl (fun _ _ _ h => h) (by assumption) (Or.inr ⟨by rfl, rfl⟩) ?_ ?_; rotate_left; (· simp only [Act.put, List.setIfInBounds_toArray, List.set_cons_zero, List.set_cons_succ, i64_w, i32_w]; rfl))
          (refine seq_e rfl (by rfl) (fun K hK => ?_))
          go_simp
          refine (two_safe hT10.out.fileL).mono ?_
          rintro e w11 ⟨rfl, hw11⟩
          subst hw11
          refine hK _ _ hS (fun hS => ?_)
          clear hK K
          first | (refine seq_v (some 172) (v := ?_) (a' := ?_) rfl rfl (fun _ _ _ h => h) (Or.inl ⟨by rfl, ?_⟩) ?_ ?_; rotate_left 2; (· intro w'; go_simp; with_reducible rfl); (· simp only [Act.put, List.setIfInBounds_toArray, List.set_cons_zero, List.set_cons_succ, i64_w, i32_w]; rfl)) | (refine seq_v (some 172) (v := undef) (a' := ?_) rfl rfl (fun _ _ _ h => h) (Or.inr ⟨by rfl, rfl⟩) ?_ ?_; rotate_left; (· simp only [Act.put, List.setIfInBounds_toArray, List.set_cons_zero, List.set_cons_succ, i64_w, i32_w]; rfl))
          (refine seq_v (some 173) (v := ?_) (a' := ?_) rfl rfl (fun _ _ _ h => h) (Or.inl ⟨by rfl, ?_⟩) ?_ ?_; rotate_left 2; (· intro w'; go_simp; with_reducible rfl); (· simp only [Act.put, List.setIfInBounds_toArray, List.set_cons_zero, List.set_cons_succ, i64_w, i32_w]; rfl))
          refine seq_nil ?_
          clear s1 hS hs0
          have HI11 := Lib.hid (show PlayInv wa w11 fb mb J KB N S L r from ⟨hT10.out, HI.out.2.1, HI.out.2.2.1, HQ.out⟩)
          go_wp2_with fail
          go_roundw
          case rel => exact ⟨k + 1, J, KB, N, S, L, by omega, rfl, rfl, by go_num, hne, HI11⟩
          case measure => simp [intOf] <;> omega
        · refine (two_put QJ.stands HP.out.1 a.body Bv bn bc (by omega) (by omega) Hb.out.2.2 Hb.out.2.1 (by omega)).mono ?_
          rintro e w6 ⟨rfl, hT6⟩
          have hpf := put_facts s l' a.body r HP.out.2.2.1 Hb.out.2.2 HP.out.2.2.2
          have hnn : (if putE s l' a.body r = 0 then n + 1 else n) ≤ 65535 + (k + 1) := by split <;> omega
          have hb7 : Below wr.heap.size wr wr := Below.refl _ _
          have HT6 := Lib.hid hT6
          have Hpf := Lib.hid hpf
          have Hnn := Lib.hid hnn
          have ha6 := (HC.out.2 k a ha).below hT6.kept
          obtain ⟨ad6, Bv6, bn6, bc6, had6, g1, g2, g3, g4, g5, g6⟩ := ha6
          obtain rfl := Option.some.inj had6
          have Hg := Lib.hid (And.intro g4 g5)
          have hput := put_eq s l' a.body r
          have Hput := Lib.hid hput
          generalize hE : putE s l' a.body r = E
          have HE := Lib.hid hE
          clear hT6 hpf hnn g1 g3 g4 g5 g6 hput hE hb7
          go_wp2_with fail
          have hbn6 : bn6 ≤ 3000 := by have := Hg.out.2.1; have := hbb; omega
          refine (two_rput PJ.stands HT6.out a.body Bv6 bn6 bc6 (by rw [List.length_append]; omega) (by omega) Hb.out.2.2 Hg.out.2 Hg.out.1 (by omega)).mono ?_
          rintro e w7 ⟨rfl, hT7⟩
          rw [put_bytes, ← Hput.out] at hT7
          rw [← Hput.out, HE.out]
          have hI : PlayInv wa w7 fb mb jb kb (if putE s l' a.body r = 0 then n + 1 else n) s (if putE s l' a.body r = 0 then l' ++ recJ a.body else l') r := ⟨hT7, HP.out.2.1, Hpf.out.1, Hpf.out.2⟩
          have hne := Hnn.out
          clear hT7 hn hlr g2
          generalize (if putE s l' a.body r = 0 then l' ++ recJ a.body else l') = L at hI
          generalize (if putE s l' a.body r = 0 then n + 1 else n) = N at hI hne
          obtain ⟨S, hS'⟩ : ∃ S, S = s := ⟨_, rfl⟩
          obtain ⟨J, hJ⟩ : ∃ J, J = jb := ⟨_, rfl⟩
          obtain ⟨KB, hKB⟩ : ∃ KB, KB = kb := ⟨_, rfl⟩
          rw [← hS', ← hJ, ← hKB] at hI
          have HI := Lib.hid hI
          subst hS' hJ hKB
          clear hI
          go_wp2_with fail
          have HQ := Lib.hid HI.out.2.2.2
          have hlS : S.length + L.length ≤ 1000000000 := by have := HQ.out; rw [List.length_append] at this; omega
          obtain ⟨Am, nm, cm, e1, e2, e3, hCm⟩ := two_cells HI.out.1
          have HCm := Lib.hid hCm
          have hT9 := Lib.hid (HI.out.1.below PJ.stands QJ.stands (below_drew (Below.refl _ _)))
          have hs0 := Kd.C_string (P := Try.prog) (c := cm) Try.underlying32 Try.underlying5 Try.underlying9 (Kd.C_drew hCm)
          have Hac := Lib.hid (ha)
          clear hCm h1 h2 h3
          refine seq_start (fun w' => w'.cell? ⟨KB, 1, none⟩ = some (.int .i64 N) ∧ w'.cell? ⟨mb, 0, none⟩ = some (.slice Am nm cm) ∧ w'.cell? ⟨mb, 1, none⟩ = some (.int .i64 S.length) ∧ (convert 32 9 (.slice Am nm cm)).run Try.prog w' = .ok (.string (strOfNums (S ++ L))) w') [] [(0, 0), (1, 0), (2, 0), (3, 0), (5, 0), (6, 0), (7, 0), (8, 1), (4, 2), (9, 0), (10, 0), (11, 0), (12, 0), (15, 0), (16, 0), (17, 0), (18, 1), (19, 1), (13, 2), (14, 2), (20, 0), (21, 0), (22, 0), (23, 0), (25, 0), (26, 0), (27, 0), (28, 1), (24, 2), (29, 0), (30, 0)] (by kernel_rfl) (by kernel_rfl) ⟨e1, e2, e3, hs0⟩ ?_
          intro hS
          (refine seq_v (some 143) (v := ?_) (a' := ?_) rfl rfl (fun _ _ _ h => h) (Or.inl ⟨by rfl, ?_⟩) ?_ ?_; rotate_left 2; (· intro w'; go_simp; with_reducible rfl); (· simp only [Act.put, List.setIfInBounds_toArray, List.set_cons_zero, List.set_cons_succ, i64_w, i32_w]; rfl))
          (refine seq_v (some 144) (v := ?_) (a' := ?_) rfl rfl (fun _ _ _ h => h) (Or.inl ⟨by rfl, ?_⟩) ?_ ?_; rotate_left 2; (· intro w'; go_simp; with_reducible rfl); (· simp only [Act.put, List.setIfInBounds_toArray, List.set_cons_zero, List.set_cons_succ, i64_w, i32_w]; rfl))
          (refine seq_v (some 145) (v := ?_) (a' := ?_) rfl rfl (fun _ _ _ h => h) (Or.inl ⟨by rfl, ?_⟩) ?_ ?_; rotate_left 2; (· intro w'; go_simp; with_reducible rfl); (· simp only [Act.put, List.setIfInBounds_toArray, List.set_cons_zero, List.set_cons_succ, i64_w, i32_w]; rfl))
          first | (refine seq_v (some 146) (v := ?_) (a' := ?_) rfl rfl (fun _ _ _ h => h) (Or.inl ⟨by rfl, ?_⟩) ?_ ?_; rotate_left 2; (· intro w'; go_simp; with_reducible rfl); (· simp only [Act.put, List.setIfInBounds_toArray, List.set_cons_zero, List.set_cons_succ, i64_w, i32_w]; rfl)) | (refine seq_v (some 146) (v := undef) (a' := ?_) rfl rfl (fun _ _ _ h => h) (Or.inr ⟨by rfl, rfl⟩) ?_ ?_; rotate_left; (· simp only [Act.put, List.setIfInBounds_toArray, List.set_cons_zero, List.set_cons_succ, i64_w, i32_w]; rfl))
          first | (refine seq_v (some 148) (v := ?_) (a' := ?_) rfl rfl (fun _ _ _ h => h) (Or.inl ⟨by rfl, ?_⟩) ?_ ?_; rotate_left 2; (· intro w'; go_simp; with_reducible rfl); (· simp only [Act.put, List.setIfInBounds_toArray, List.set_cons_zero, List.set_cons_succ, i64_w, i32_w]; rfl)) | (refine seq_v (some 148) (v := undef) (a' := ?_) rfl rfl (fun _ _ _ h => h) (Or.inr ⟨by rfl, rfl⟩) ?_ ?_; rotate_left; (· simp only [Act.put, List.setIfInBounds_toArray, List.set_cons_zero, List.set_cons_succ, i64_w, i32_w]; rfl))
          first | (refine seq_v (some 149) (v := ?_) (a' := ?_) rfl rfl (fun _ _ _ h => h) (Or.inl ⟨by rfl, ?_⟩) ?_ ?_; rotate_left 2; (· intro w'; go_simp; with_reducible rfl); (· simp only [Act.put, List.setIfInBounds_toArray, List.set_cons_zero, List.set_cons_succ, i64_w, i32_w]; rfl)) | (refine seq_v (some 149) (v := undef) (a' := ?_) rfl rfl (fun _ _ _ h => h) (Or.inr ⟨by rfl, rfl⟩) ?_ ?_; rotate_left; (· simp only [Act.put, List.setIfInBounds_toArray, List.set_cons_zero, List.set_cons_succ, i64_w, i32_w]; rfl))
          first | (refine seq_v (some 150) (v := ?_) (a' := ?_) rfl rfl (fun _ _ _ h => h) (Or.inl ⟨by rfl, ?_⟩) ?_ ?_; rotate_left 2; (· intro w'; go_simp; with_reducible rfl); (· simp only [Act.put, List.setIfInBounds_toArray, List.set_cons_zero, List.set_cons_succ, i64_w, i32_w]; rfl)) | (refine seq_v (some 150) (v := undef) (a' := ?_) rfl rfl (fun _ _ _ h => h) (Or.inr ⟨by rfl, rfl⟩) ?_ ?_; rotate_left; (· simp only [Act.put, List.setIfInBounds_toArray, List.set_cons_zero, List.set_cons_succ, i64_w, i32_w]; rfl))
          first | (refine seq_l (some 151) (v := ?_) (a' := ?_) rfl rfl (fun _ _ _ h => h) (by assumption) (Or.inl ⟨by rfl, ?_⟩) ?_ ?_; rotate_left 2; (· intro w' hS'; (try dsimp only at hS'); go_simp; with_reducible rfl); (· simp only [Act.put, List.setIfInBounds_toArray, List.set_cons_zero, List.set_cons_succ, i64_w, i32_w]; rfl)) | (refine seq_l (some 151) (v := undef) (a' := ?_) rfl rfl (fun _ _ _ h => h) (by assumption) (Or.inr ⟨by rfl, rfl⟩) ?_ ?_; rotate_left; (· simp only [Act.put, List.setIfInBounds_toArray, List.set_cons_zero, List.set_cons_succ, i64_w, i32_w]; rfl))
          (refine seq_e rfl (by rfl) (fun K hK => ?_))
          go_simp
          refine (two_len hT9.out).mono ?_
          rintro e wl ⟨rfl, hwl⟩
          subst hwl
          refine hK _ _ hS (fun hS => ?_)
          clear hK K
          first | (refine seq_v (some 152) (v := ?_) (a' := ?_) rfl rfl (fun _ _ _ h => h) (Or.inl ⟨by rfl, ?_⟩) ?_ ?_; rotate_left 2; (· intro w'; go_simp; with_reducible rfl); (· simp only [Act.put, List.setIfInBounds_toArray, List.set_cons_zero, List.set_cons_succ, i64_w, i32_w]; rfl)) | (refine seq_v (some 152) (v := undef) (a' := ?_) rfl rfl (fun _ _ _ h => h) (Or.inr ⟨by rfl, rfl⟩) ?_ ?_; rotate_left; (· simp only [Act.put, List.setIfInBounds_toArray, List.set_cons_zero, List.set_cons_succ, i64_w, i32_w]; rfl))
          (refine seq_v (some 153) (v := ?_) (a' := ?_) rfl rfl (fun _ _ _ h => h) (Or.inl ⟨by rfl, ?_⟩) ?_ ?_; rotate_left 2; (· intro w'; go_simp; with_reducible rfl); (· simp only [Act.put, List.setIfInBounds_toArray, List.set_cons_zero, List.set_cons_succ, i64_w, i32_w]; rfl))
          (refine seq_v (some 154) (v := ?_) (a' := ?_) rfl rfl (fun _ _ _ h => h) (Or.inl ⟨by rfl, ?_⟩) ?_ ?_; rotate_left 2; (· intro w'; go_simp; with_reducible rfl); (· simp only [Act.put, List.setIfInBounds_toArray, List.set_cons_zero, List.set_cons_succ, i64_w, i32_w]; rfl))
          first | (refine seq_v (some 155) (v := ?_) (a' := ?_) rfl rfl (fun _ _ _ h => h) (Or.inl ⟨by rfl, ?_⟩) ?_ ?_; rotate_left 2; (· intro w'; go_simp; with_reducible rfl); (· simp only [Act.put, List.setIfInBounds_toArray, List.set_cons_zero, List.set_cons_succ, i64_w, i32_w]; rfl)) | (refine seq_v (some 155) (v := undef) (a' := ?_) rfl rfl (fun _ _ _ h => h) (Or.inr ⟨by rfl, rfl⟩) ?_ ?_; rotate_left; (· simp only [Act.put, List.setIfInBounds_toArray, List.set_cons_zero, List.set_cons_succ, i64_w, i32_w]; rfl))
          first | (refine seq_v (some 158) (v := ?_) (a' := ?_) rfl rfl (fun _ _ _ h => h) (Or.inl ⟨by rfl, ?_⟩) ?_ ?_; rotate_left 2; (· intro w'; go_simp; with_reducible rfl); (· simp only [Act.put, List.setIfInBounds_toArray, List.set_cons_zero, List.set_cons_succ, i64_w, i32_w]; rfl)) | (refine seq_v (some 158) (v := undef) (a' := ?_) rfl rfl (fun _ _ _ h => h) (Or.inr ⟨by rfl, rfl⟩) ?_ ?_; rotate_left; (· simp only [Act.put, List.setIfInBounds_toArray, List.set_cons_zero, List.set_cons_succ, i64_w, i32_w]; rfl))
          first | (refine seq_v (some 159) (v := ?_) (a' := ?_) rfl rfl (fun _ _ _ h => h) (Or.inl ⟨by rfl, ?_⟩) ?_ ?_; rotate_left 2; (· intro w'; go_simp; with_reducible rfl); (· simp only [Act.put, List.setIfInBounds_toArray, List.set_cons_zero, List.set_cons_succ, i64_w, i32_w]; rfl)) | (refine seq_v (some 159) (v := undef) (a' := ?_) rfl rfl (fun _ _ _ h => h) (Or.inr ⟨by rfl, rfl⟩) ?_ ?_; rotate_left; (· simp only [Act.put, List.setIfInBounds_toArray, List.set_cons_zero, List.set_cons_succ, i64_w, i32_w]; rfl))
          first | (refine seq_v (some 160) (v := ?_) (a' := ?_) rfl rfl (fun _ _ _ h => h) (Or.inl ⟨by rfl, ?_⟩) ?_ ?_; rotate_left 2; (· intro w'; go_simp; with_reducible rfl); (· simp only [Act.put, List.setIfInBounds_toArray, List.set_cons_zero, List.set_cons_succ, i64_w, i32_w]; rfl)) | (refine seq_v (some 160) (v := undef) (a' := ?_) rfl rfl (fun _ _ _ h => h) (Or.inr ⟨by rfl, rfl⟩) ?_ ?_; rotate_left; (· simp only [Act.put, List.setIfInBounds_toArray, List.set_cons_zero, List.set_cons_succ, i64_w, i32_w]; rfl))
          first | (refine seq_l (some 161) (v := ?_) (a' := ?_) rfl rfl (fun _ _ _ h => h) (by assumption) (Or.inl ⟨by rfl, ?_⟩) ?_ ?_; rotate_left 2; (· intro w' hS'; (try dsimp only at hS'); go_simp; with_reducible rfl); (· simp only [Act.put, List.setIfInBounds_toArray, List.set_cons_zero, List.set_cons_succ, i64_w, i32_w]; rfl)) | (refine seq_l (some 161) (v := undef) (a' := ?_) rfl rfl (fun _ _ _ h => h) (by assumption) (Or.inr ⟨by rfl, rfl⟩) ?_ ?_; rotate_left; (· simp only [Act.put, List.setIfInBounds_toArray, List.set_cons_zero, List.set_cons_succ, i64_w, i32_w]; rfl))
          first | (refine seq_l (some 162) (v := ?_) (a' := ?_) rfl rfl (fun _ _ _ h => h) (by assumption) (Or.inl ⟨by rfl, ?_⟩) ?_ ?_; rotate_left 2; (· intro w' hS'; (try dsimp only at hS'); go_simp; with_reducible rfl); (· simp only [Act.put, List.setIfInBounds_toArray, List.set_cons_zero, List.set_cons_succ, i64_w, i32_w]; rfl)) | (refine seq_l (some 162) (v := undef) (a' := ?_) rfl rfl (fun _ _ _ h => h) (by assumption) (Or.inr ⟨by rfl, rfl⟩) ?_ ?_; rotate_left; (· simp only [Act.put, List.setIfInBounds_toArray, List.set_cons_zero, List.set_cons_succ, i64_w, i32_w]; rfl))
          (refine seq_e rfl (by rfl) (fun K hK => ?_))
          go_simp
          refine (two_bytes hT9.out.fileL hlS).mono ?_
          rintro e w10 ⟨v, rfl, hRv, hBv⟩
          obtain ⟨Av, nv, cv, rfl, hnv⟩ : ∃ A3 n3 c3, v = .slice A3 n3 c3 ∧ n3 = (S ++ L).length := by
            obtain ⟨A3, c3, rfl⟩ := Kd.R_slice hRv
            exact ⟨A3, _, c3, rfl, rfl⟩
          have hCv := (Kd.R_reads' hRv).2.2
          rw [← hnv] at hCv
          have s1 := Kd.C_string (P := Try.prog) (c := cv) Try.underlying32 Try.underlying5 Try.underlying9 hCv
          have s2 := Kd.C_string (P := Try.prog) (c := cm) Try.underlying32 Try.underlying5 Try.underlying9 (C_kp (Kd.C_drew HCm.out) hBv)
          have hT10 := Lib.hid (hT9.out.below PJ.stands QJ.stands hBv)
          have hS10 : w10.cell? ⟨KB, 1, none⟩ = some (.int .i64 N) ∧ w10.cell? ⟨mb, 0, none⟩ = some (.slice Am nm cm) ∧ w10.cell? ⟨mb, 1, none⟩ = some (.int .i64 S.length) ∧ (convert 32 9 (.slice Am nm cm)).run Try.prog w10 = .ok (.string (strOfNums (S ++ L))) w10 := by
            obtain ⟨q1, q2, q3, q4⟩ := hS
            exact ⟨(World.cell?_of_block (hBv.block _ (World.block_lt_of_cell? _ _ q1))).trans q1, (World.cell?_of_block (hBv.block _ (World.block_lt_of_cell? _ _ q2))).trans q2, (World.cell?_of_block (hBv.block _ (World.block_lt_of_cell? _ _ q3))).trans q3, s2⟩
          refine hK _ _ hS10 (fun hS => ?_)
          clear hK K s2 hCv hnv hRv hBv hS10

          (refine seq_e rfl (by rfl) (fun K hK => ?_))
          go_simp
          refine hK _ _ hS (fun hS => ?_)
          clear hK K
          first | (refine seq_v (some 163) (v := ?_) (a' := ?_) rfl rfl (fun _ _ _ h => h) (Or.inl ⟨by rfl, ?_⟩) ?_ ?_; rotate_left 2; (· intro w'; go_simp; with_reducible rfl); (· simp only [Act.put, List.setIfInBounds_toArray, List.set_cons_zero, List.set_cons_succ, i64_w, i32_w]; rfl)) | (refine seq_v (some 163) (v := undef) (a' := ?_) rfl rfl (fun _ _ _ h => h) (Or.inr ⟨by rfl, rfl⟩) ?_ ?_; rotate_left; (· simp only [Act.put, List.setIfInBounds_toArray, List.set_cons_zero, List.set_cons_succ, i64_w, i32_w]; rfl))
          (refine seq_v (some 164) (v := ?_) (a' := ?_) rfl rfl (fun _ _ _ h => h) (Or.inl ⟨by rfl, ?_⟩) ?_ ?_; rotate_left 2; (· intro w'; go_simp; with_reducible rfl); (· simp only [Act.put, List.setIfInBounds_toArray, List.set_cons_zero, List.set_cons_succ, i64_w, i32_w]; rfl))
          (refine seq_v (some 165) (v := ?_) (a' := ?_) rfl rfl (fun _ _ _ h => h) (Or.inl ⟨by rfl, ?_⟩) ?_ ?_; rotate_left 2; (· intro w'; go_simp; with_reducible rfl); (· simp only [Act.put, List.setIfInBounds_toArray, List.set_cons_zero, List.set_cons_succ, i64_w, i32_w]; rfl))
          first | (refine seq_v (some 166) (v := ?_) (a' := ?_) rfl rfl (fun _ _ _ h => h) (Or.inl ⟨by rfl, ?_⟩) ?_ ?_; rotate_left 2; (· intro w'; go_simp; with_reducible rfl); (· simp only [Act.put, List.setIfInBounds_toArray, List.set_cons_zero, List.set_cons_succ, i64_w, i32_w]; rfl)) | (refine seq_v (some 166) (v := undef) (a' := ?_) rfl rfl (fun _ _ _ h => h) (Or.inr ⟨by rfl, rfl⟩) ?_ ?_; rotate_left; (· simp only [Act.put, List.setIfInBounds_toArray, List.set_cons_zero, List.set_cons_succ, i64_w, i32_w]; rfl))
          first | (refine seq_v (some 168) (v := ?_) (a' := ?_) rfl rfl (fun _ _ _ h => h) (Or.inl ⟨by rfl, ?_⟩) ?_ ?_; rotate_left 2; (· intro w'; go_simp; with_reducible rfl); (· simp only [Act.put, List.setIfInBounds_toArray, List.set_cons_zero, List.set_cons_succ, i64_w, i32_w]; rfl)) | (refine seq_v (some 168) (v := undef) (a' := ?_) rfl rfl (fun _ _ _ h => h) (Or.inr ⟨by rfl, rfl⟩) ?_ ?_; rotate_left; (· simp only [Act.put, List.setIfInBounds_toArray, List.set_cons_zero, List.set_cons_succ, i64_w, i32_w]; rfl))
          first | (refine seq_v (some 169) (v := ?_) (a' := ?_) rfl rfl (fun _ _ _ h => h) (Or.inl ⟨by rfl, ?_⟩) ?_ ?_; rotate_left 2; (· intro w'; go_simp; with_reducible rfl); (· simp only [Act.put, List.setIfInBounds_toArray, List.set_cons_zero, List.set_cons_succ, i64_w, i32_w]; rfl)) | (refine seq_v (some 169) (v := undef) (a' := ?_) rfl rfl (fun _ _ _ h => h) (Or.inr ⟨by rfl, rfl⟩) ?_ ?_; rotate_left; (· simp only [Act.put, List.setIfInBounds_toArray, List.set_cons_zero, List.set_cons_succ, i64_w, i32_w]; rfl))
          first | (refine seq_v (some 170) (v := ?_) (a' := ?_) rfl rfl (fun _ _ _ h => h) (Or.inl ⟨by rfl, ?_⟩) ?_ ?_; rotate_left 2; (· intro w'; go_simp; with_reducible rfl); (· simp only [Act.put, List.setIfInBounds_toArray, List.set_cons_zero, List.set_cons_succ, i64_w, i32_w]; rfl)) | (refine seq_v (some 170) (v := undef) (a' := ?_) rfl rfl (fun _ _ _ h => h) (Or.inr ⟨by rfl, rfl⟩) ?_ ?_; rotate_left; (· simp only [Act.put, List.setIfInBounds_toArray, List.set_cons_zero, List.set_cons_succ, i64_w, i32_w]; rfl))
          first | (refine seq_l (some 171) (v := ?_) (a' := ?_) rfl rfl (fun _ _ _ h => h) (by assumption) (Or.inl ⟨by rfl, ?_⟩) ?_ ?_; rotate_left 2; (· intro w' hS'; (try dsimp only at hS'); go_simp; with_reducible rfl); (· simp only [Act.put, List.setIfInBounds_toArray, List.set_cons_zero, List.set_cons_succ, i64_w, i32_w]; rfl)) | (refine seq_l (some 171) (v := undef) (a' := ?_) rfl rfl (fun _ _ _ h => h) (by assumption) (Or.inr ⟨by rfl, rfl⟩) ?_ ?_; rotate_left; (· simp only [Act.put, List.setIfInBounds_toArray, List.set_cons_zero, List.set_cons_succ, i64_w, i32_w]; rfl))
          (refine seq_e rfl (by rfl) (fun K hK => ?_))
          go_simp
          refine (two_safe hT10.out.fileL).mono ?_
          rintro e w11 ⟨rfl, hw11⟩
          subst hw11
          refine hK _ _ hS (fun hS => ?_)
          clear hK K
          first | (refine seq_v (some 172) (v := ?_) (a' := ?_) rfl rfl (fun _ _ _ h => h) (Or.inl ⟨by rfl, ?_⟩) ?_ ?_; rotate_left 2; (· intro w'; go_simp; with_reducible rfl); (· simp only [Act.put, List.setIfInBounds_toArray, List.set_cons_zero, List.set_cons_succ, i64_w, i32_w]; rfl)) | (refine seq_v (some 172) (v := undef) (a' := ?_) rfl rfl (fun _ _ _ h => h) (Or.inr ⟨by rfl, rfl⟩) ?_ ?_; rotate_left; (· simp only [Act.put, List.setIfInBounds_toArray, List.set_cons_zero, List.set_cons_succ, i64_w, i32_w]; rfl))
          (refine seq_v (some 173) (v := ?_) (a' := ?_) rfl rfl (fun _ _ _ h => h) (Or.inl ⟨by rfl, ?_⟩) ?_ ?_; rotate_left 2; (· intro w'; go_simp; with_reducible rfl); (· simp only [Act.put, List.setIfInBounds_toArray, List.set_cons_zero, List.set_cons_succ, i64_w, i32_w]; rfl))
          refine seq_nil ?_
          clear s1 hS hs0
          have HI11 := Lib.hid (show PlayInv wa w11 fb mb J KB N S L r from ⟨hT10.out, HI.out.2.1, HI.out.2.2.1, HQ.out⟩)
          go_wp2_with fail
          go_roundw
          case rel => exact ⟨k + 1, J, KB, N, S, L, by omega, rfl, rfl, by go_num, hne, HI11⟩
          case measure => simp [intOf] <;> omega
      · have hkm : k = m := by omega
        subst hkm
        have HBw := Lib.hid HP.out.1.kept
        go_wp2_with fail
        refine (jsync_nil wr).mono ?_
        rintro e w5 ⟨rfl, rfl⟩
        go_wp2_with fail
        refine (open_nil w5).mono ?_
        rintro e w6 ⟨rfl, rfl⟩
        go_wp2_with fail
        refine (alive_any w6).mono ?_
        rintro e w7 ⟨rfl, hb7⟩
        have HB7 := Lib.hid (HBw.out.trans (hb7.mono HBw.out.size))
        clear hb7
        go_wp2_with fail
        refine (jput_nil _ _ 1 1).mono ?_
        rintro e w8 ⟨rfl, hw8⟩
        have HB8 := Lib.hid (show Below wa.heap.size wa w8 by rw [hw8]; exact below_alloc HB7.out _)
        clear hw8
        go_wp2_with fail
        refine (jlen_nil w8).mono ?_
        rintro e w9 ⟨rfl, rfl⟩
        go_wp2_with fail
        go_ret
        exact ⟨rfl, HB8.out⟩
end Go.Proofs.Ytcplmaeicmmkgaa
