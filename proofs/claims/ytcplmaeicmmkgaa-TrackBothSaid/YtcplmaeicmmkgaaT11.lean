/- track: the plain law of TrackBoth. -/
import Derived.Test.YtcplmaeicmmkgaaT10
namespace Go.Proofs.Ytcplmaeicmmkgaa
open Go Go.RowKit Go.Proofs.YtcplmaeicmmkgaaW.PrintWords Go.Proofs.YtcplmaeicmmkgaaW.PrintLast Go.Proofs.YtcplmaeicmmkgaaW.PrintMore Go.Proofs.Ytcplmaeicmmkgaa.PTrackPlays
set_option linter.unusedVariables false
set_option linter.unusedSimpArgs false

theorem backF_back (f : S70) : backF (backF f) = f := rfl
theorem eqF_refl (f : S70) : eqF f f = true := (eqF_iff f f).2 rfl
theorem alikeF_back (a f : S70) : alikeF a (backF f) = alikeF a f := by
  unfold alikeF
  rw [backF_back, Bool.or_comm]
theorem alikeF_refl (f : S70) : alikeF f f = true := by unfold alikeF; rw [eqF_refl]; rfl
/-- The first place of a hit. -/
theorem atF_of_mem {xs : List S83} {x : S83} {f : S70} (hx : x ∈ xs) (h : alikeF x.f0 f = true) : 0 ≤ atF xs f := by
  have hlt : xs.findIdx (fun x => alikeF x.f0 f) < xs.length := List.findIdx_lt_length_of_exists ⟨x, hx, h⟩
  unfold atF idxP
  rw [if_pos hlt]
  omega
theorem atF_none {xs : List S83} {f : S70} (h : ∀ x, x ∈ xs → alikeF x.f0 f = false) : atF xs f = -1 := idxP_no h
theorem atF_hit {xs : List S83} {f : S70} {i : Nat} (h : atF xs f = i) (hi : i < xs.length) : alikeF xs[i].f0 f = true := by
  unfold atF idxP at h
  split at h
  · rename_i hlt
    have h1 := List.findIdx_getElem (w := hlt)
    have : xs.findIdx (fun x => alikeF x.f0 f) = i := by omega
    simp only [this] at h1
    exact h1
  · omega
/-- What holds of a table's records. -/
def Inv (xs : List S83) : Prop := xs.length ≤ 16 ∧ (∀ x, x ∈ xs → rightF x.f0 = true ∧ x.f1 ≤ maxT) ∧ xs.Pairwise (fun a b => alikeF a.f0 b.f0 = false)
theorem Inv.nil : Inv [] := ⟨by simp, (fun x hx => by cases hx), List.Pairwise.nil⟩
theorem Inv.live {xs : List S83} (h : Inv xs) (now : Int) : Inv (liveL now xs) :=
  ⟨Nat.le_trans (List.length_filter_le _ _) h.1, fun x hx => h.2.1 x (List.mem_filter.1 hx).1, h.2.2.filter _⟩
theorem mx_le {a b c : Int} (ha : a ≤ c) (hb : b ≤ c) : mx a b ≤ c := by unfold mx; split <;> assumption
theorem putF_hit {xs : List S83} {x : S83} {i : Nat} (hi : atF xs x.f0 = i) (hl : i < xs.length) : putF xs x = (xs.set i ⟨xs[i].f0, mx xs[i].f1 x.f1⟩, true) := by
  unfold putF
  rw [hi, if_pos (by omega), Int.toNat_natCast, rd_get83 xs i hl]
theorem putF_miss {xs : List S83} {x : S83} (hi : atF xs x.f0 = -1) : putF xs x = if 16 ≤ xs.length then (xs, false) else (xs ++ [x], true) := by
  unfold putF
  rw [hi, if_neg (by omega)]
theorem map_set_same {xs : List S83} {i : Nat} (hl : i < xs.length) (u : Int) : (xs.set i ⟨xs[i].f0, u⟩).map (·.f0) = xs.map (·.f0) := by
  rw [List.map_set]
  apply List.ext_getElem
  · simp
  · intro j h1 h2
    rw [List.getElem_set]
    split
    · rename_i h; subst h; simp
    · rfl
theorem pw_map (xs : List S83) : xs.Pairwise (fun a b => alikeF a.f0 b.f0 = false) ↔ (xs.map (·.f0)).Pairwise (fun a b => alikeF a b = false) := by
  rw [List.pairwise_map]
theorem Inv.put {xs : List S83} (h : Inv xs) {x : S83} (hr : rightF x.f0 = true) (ht : x.f1 ≤ maxT) : Inv (putF xs x).1 := by
  rcases atF_cases xs x.f0 with ⟨i, hi, hl⟩ | hi
  · rw [putF_hit hi hl]
    refine ⟨by simpa using h.1, fun y hy => ?_, ?_⟩
    · have hm := h.2.1 _ (List.getElem_mem hl)
      rcases List.mem_or_eq_of_mem_set hy with hy | rfl
      · exact h.2.1 y hy
      · exact ⟨hm.1, mx_le hm.2 ht⟩
    · show List.Pairwise _ (xs.set i _)
      rw [pw_map, map_set_same hl, ← pw_map]
      exact h.2.2
  · rw [putF_miss hi]
    by_cases h16 : 16 ≤ xs.length
    · rw [if_pos h16]; exact h
    · rw [if_neg h16]
      refine ⟨by simp; omega, fun y hy => ?_, ?_⟩
      · rcases List.mem_append.1 hy with hy | hy
        · exact h.2.1 y hy
        · obtain rfl : y = x := by simpa using hy
          exact ⟨hr, ht⟩
      · show List.Pairwise _ (xs ++ [x])
        rw [List.pairwise_append]
        refine ⟨h.2.2, List.pairwise_singleton _ _, fun a ha b hb => ?_⟩
        obtain rfl : b = x := by simpa using hb
        cases hal : alikeF a.f0 b.f0 with
        | false => rfl
        | true => have := atF_of_mem ha hal; omega
theorem mn_le (a b : Int) : mn a b ≤ b ∧ mn a b ≤ a := by unfold mn; split <;> omega
theorem Inv.note {xs : List S83} (h : Inv xs) (life : Int) (f : S70) (now : Int) : Inv (noteF life xs f now).1 := by
  unfold noteF
  split
  · rename_i hc
    exact (h.live now).put hc.2 (mn_le _ _).1
  · exact h
theorem Inv.imp {xs : List S83} (h : Inv xs) (now : Int) (l : List S83) : Inv (impF xs now l).1 := by
  unfold impF
  split
  · have : ∀ s : List S83 × Nat, Inv s.1 → Inv (impAll now s l).1 := by
      induction l using snoc_ind with
      | h0 => intro s hs; exact hs
      | hs l x ih =>
        intro s hs
        rw [impAll_snoc]
        unfold impStep
        split
        · rename_i hc
          exact (ih s hs).put hc.1 hc.2.2
        · exact ih s hs
    exact this _ (h.live now)
  · exact h
/-- Behind a Note that went well: the flow's record is there, and how long it lives. -/
theorem note_ok {xs : List S83} {life : Int} {f : S70} {now : Int} (h : (noteF life xs f now).2 = 0) : timeB now = true ∧ rightF f = true ∧ ∃ y, y ∈ (noteF life xs f now).1 ∧ alikeF y.f0 f = true ∧ mn (now + life) maxT ≤ y.f1 := by
  unfold noteF at h ⊢
  by_cases hc : timeB now = true ∧ rightF f = true
  · rw [if_pos hc] at h ⊢
    refine ⟨hc.1, hc.2, ?_⟩
    generalize liveL now xs = ys at h ⊢
    generalize hx : (⟨f, mn (now + life) maxT⟩ : S83) = x at h ⊢
    have hx0 : x.f0 = f := by rw [← hx]
    have hx1 : x.f1 = mn (now + life) maxT := by rw [← hx]
    rcases atF_cases ys x.f0 with ⟨i, hi, hl⟩ | hi
    · rw [putF_hit hi hl]
      refine ⟨⟨ys[i].f0, mx ys[i].f1 x.f1⟩, List.mem_set hl _, ?_, ?_⟩
      · rw [← hx0]; exact atF_hit hi hl
      · rw [← hx1]; show x.f1 ≤ mx ys[i].f1 x.f1; unfold mx; split <;> omega
    · rw [putF_miss hi] at h ⊢
      by_cases h16 : 16 ≤ ys.length
      · rw [if_pos h16] at h
        simp at h
      · rw [if_neg h16]
        exact ⟨x, by simp, by rw [hx0]; exact alikeF_refl f, by rw [hx1]; exact Int.le_refl _⟩
  · rw [if_neg hc] at h
    simp at h
theorem known_last {xs : List S83} {life : Int} {f : S70} {now t : Int} (h : (noteF life xs f now).2 = 0) (ht : t < mn (now + life) maxT) : decide (0 ≤ atF (liveL t (noteF life xs f now).1) f) = true := by
  obtain ⟨-, -, y, hy, hal, hle⟩ := note_ok h
  exact decide_eq_true (atF_of_mem (List.mem_filter.2 ⟨hy, by unfold liveF; exact decide_eq_true (by omega)⟩) hal)
theorem known_back {xs : List S83} {life : Int} {f : S70} {now t : Int} (h : (noteF life xs f now).2 = 0) (ht : t < mn (now + life) maxT) : decide (0 ≤ atF (liveL t (noteF life xs f now).1) (backF f)) = true := by
  obtain ⟨-, -, y, hy, hal, hle⟩ := note_ok h
  exact decide_eq_true (atF_of_mem (List.mem_filter.2 ⟨hy, by unfold liveF; exact decide_eq_true (by omega)⟩) (by rw [alikeF_back]; exact hal))
/-- What a table tells is taken over, whole. -/
theorem imp_all {rs : List S83} (h : Inv rs) {now : Int} (ht : timeB now = true) (hl : ∀ x, x ∈ rs → now < x.f1) : impF [] now rs = (rs, rs.length) := by
  have key : ∀ l, (∃ l2, rs = l ++ l2) → impAll now ([], 0) l = (l, l.length) := by
    intro l
    induction l using snoc_ind with
    | h0 => intro _; rfl
    | hs l x ih =>
      rintro ⟨l2, he⟩
      have h1 := ih ⟨x :: l2, by rw [he]; simp⟩
      have hx : x ∈ rs := by rw [he]; simp
      have hpw := h.2.2
      rw [he, List.append_assoc, List.pairwise_append] at hpw
      have hno : atF l x.f0 = -1 := atF_none (fun a ha => hpw.2.2 a ha x (by simp))
      have hlen : l.length < 16 := by have := h.1; rw [he] at this; simp at this; omega
      rw [impAll_snoc, h1]
      unfold impStep
      rw [if_pos ⟨(h.2.1 x hx).1, hl x hx, (h.2.1 x hx).2⟩]
      show ((putF l x).1, l.length + _) = _
      rw [putF_miss hno, if_neg (by omega)]
      simp
  unfold impF
  rw [if_pos ht]
  exact key rs ⟨[], by simp⟩
theorem known_of_mem {rs : List S83} {r : S83} (hr : r ∈ rs) {t : Int} (ht : t < r.f1) : decide (0 ≤ atF (liveL t rs) r.f0) = true ∧ decide (0 ≤ atF (liveL t rs) (backF r.f0)) = true := by
  have hm : r ∈ liveL t rs := List.mem_filter.2 ⟨hr, by unfold liveF; exact decide_eq_true ht⟩
  exact ⟨decide_eq_true (atF_of_mem hm (alikeF_refl _)), decide_eq_true (atF_of_mem hm (by rw [alikeF_back]; exact alikeF_refl _))⟩
end Go.Proofs.Ytcplmaeicmmkgaa
