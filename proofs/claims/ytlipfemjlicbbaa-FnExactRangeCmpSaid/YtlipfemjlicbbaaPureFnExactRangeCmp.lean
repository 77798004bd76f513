/- The pure statement of the law FnExactRangeCmp: for every input the printed function answers true. -/
import Derived.Test.YtlipfemjlicbbaaPFnExactRangeCmpx0
import Derived.Test.YtlipfemjlicbbaaPFnExactRangeCmpx1
import Derived.Test.YtlipfemjlicbbaaPFnExactRangeCmpx10
import Derived.Test.YtlipfemjlicbbaaPFnExactRangeCmpx2
import Derived.Test.YtlipfemjlicbbaaPFnExactRangeCmpx3
import Derived.Test.YtlipfemjlicbbaaPFnExactRangeCmpx4
import Derived.Test.YtlipfemjlicbbaaPFnExactRangeCmpx5
import Derived.Test.YtlipfemjlicbbaaPFnExactRangeCmpx6
import Derived.Test.YtlipfemjlicbbaaPFnExactRangeCmpx7
import Derived.Test.YtlipfemjlicbbaaPFnExactRangeCmpx8
import Derived.Test.YtlipfemjlicbbaaPFnExactRangeCmpx9
import Derived.Test.YtlipfemjlicbbaaLv
namespace Go.Proofs.Ytlipfemjlicbbaa.Pure
open Go Go.RowKit Go.Proofs.Ytlipfemjlicbbaa.PFnExactRangeCmp Go.Proofs.YtlipfemjlicbbaaV.PrintWords Go.Proofs.YtlipfemjlicbbaaV.PrintLast Go.Proofs.YtlipfemjlicbbaaV.PrintMore Go.Proofs.Ytlipfemjlicbbaa.Lib
set_option linter.unusedVariables false
set_option linter.unusedSimpArgs false

def okN (v : Int) : Prop := -2147483648 ≤ v ∧ v ≤ 2147483647
instance (v : Int) : Decidable (okN v) := by unfold okN; exact inferInstance
theorem sNumOk (v : Int) : spec_NumOk.f v = some (decide (okN v)) := by
  simp only [spec_NumOk.f, spec_l1In.f, okN]
  by_cases h : v ≥ -2147483648 <;> simp [h]
theorem iNumOk (v : Int) : impl_NumOk.f v = some (decide (okN v)) := by
  simp only [impl_NumOk.f, okN]
  by_cases h : v ≥ -2147483648 <;> simp [h]

/-! ### ranges: whether they are as they must be -/
def okR (l h : Int) : Prop := (l = 1 ∧ h = 0) ∨ (-2147483648 ≤ l ∧ l ≤ h ∧ h ≤ 2147483647)
instance (l h : Int) : Decidable (okR l h) := by unfold okR; exact inferInstance
theorem sRangeOk (l h : Int) : spec_RangeOk.f l h = some (decide (okR l h)) := by
  simp only [spec_RangeOk.f, spec_l8None.f, sNumOk, Option.bind_some]
  by_cases h1 : l = 1 ∧ h = 0
  · obtain ⟨rfl, rfl⟩ := h1; rfl
  · have : (l == 1 && h == 0) = false := by simpa using h1
    rw [this]; simp only [Bool.false_eq_true, if_false, okR, okN]
    by_cases h2 : -2147483648 ≤ l ∧ l ≤ 2147483647
    · by_cases h3 : -2147483648 ≤ h ∧ h ≤ 2147483647
      · simp only [h2, h3, and_self, true_and, and_true, decide_true, if_true]; congr 1; apply decide_eq_decide.2; omega
      · simp only [h2, h3, and_self, decide_true, decide_false, if_true, Bool.false_eq_true, if_false]; congr 1; symm; apply decide_eq_false; omega
    · simp only [h2, decide_false, Bool.false_eq_true, if_false]; congr 1; symm; apply decide_eq_false; omega
theorem iRangeOk (l h : Int) : impl_RangeOk.f l h = some (decide (okR l h)) := by
  simp only [impl_RangeOk.f, impl_rangeNone.f, iNumOk, Option.bind_some]
  by_cases h1 : l = 1 ∧ h = 0
  · obtain ⟨rfl, rfl⟩ := h1; rfl
  · have : (l == 1 && h == 0) = false := by simpa using h1
    rw [this]; simp only [Bool.false_eq_true, if_false, okR, okN]
    by_cases h2 : -2147483648 ≤ l ∧ l ≤ 2147483647
    · by_cases h3 : -2147483648 ≤ h ∧ h ≤ 2147483647
      · simp only [h2, h3, and_self, true_and, and_true, decide_true, if_true]; congr 1; apply decide_eq_decide.2; omega
      · simp only [h2, h3, and_self, decide_true, decide_false, if_true, Bool.false_eq_true, if_false]; congr 1; symm; apply decide_eq_false; omega
    · simp only [h2, decide_false, Bool.false_eq_true, if_false]; congr 1; symm; apply decide_eq_false; omega

/-! ### ranges: cut, joined, met -/
def cut (l h : Int) : Int × Int := if mx l (-2147483648) > mn h 2147483647 then (1, 0) else (mx l (-2147483648), mn h 2147483647)
def isNone (l h : Int) : Prop := l = 1 ∧ h = 0
instance (l h : Int) : Decidable (isNone l h) := by unfold isNone; exact inferInstance
theorem okR_gt {l h : Int} (o : okR l h) : l > h ↔ isNone l h := by unfold okR at o; unfold isNone; omega
theorem bIsNone (l h : Int) : (l == 1 && h == 0) = decide (isNone l h) := by
  rw [Bool.eq_iff_iff, decide_eq_true_iff]; unfold isNone; simp

theorem sMin (a b : Int) : spec_l8Min.f a b = some (mn a b) := by unfold spec_l8Min.f mn; split <;> split <;> first | rfl | (congr 1; omega)
theorem sMax (a b : Int) : spec_l8Max.f a b = some (mx a b) := by unfold spec_l8Max.f mx; split <;> split <;> first | rfl | (congr 1; omega)

theorem sCut (l h : Int) : spec_l8Cut.f l h = some (cut l h) := by
  unfold spec_l8Cut.f cut
  simp only [sMin, sMax, spec_l8None.f, Option.bind_some]
  split <;> rfl
theorem iFrom (l h : Int) : impl_rangeFrom.f l h = some (cut l h) := by
  unfold impl_rangeFrom.f cut
  simp only [impl_rangeNone.f, Option.bind_some]
  split <;> rfl
theorem cut_ok (l h : Int) : (cut l h = (1, 0)) ∨ ((cut l h).1 ≤ (cut l h).2 ∧ -2147483648 ≤ (cut l h).1 ∧ (cut l h).2 ≤ 2147483647) := by
  unfold cut mx mn
  by_cases h1 : l < -2147483648 <;> by_cases h2 : 2147483647 < h <;> simp only [h1, h2, if_true, if_false] <;> split <;> first | (left; rfl) | (right; simp only; omega)
theorem cut_okR (l h : Int) : okR (cut l h).1 (cut l h).2 := by
  rcases cut_ok l h with e | e
  · rw [e]; exact .inl ⟨rfl, rfl⟩
  · exact .inr ⟨by omega, by omega, by omega⟩

def rmeet (l h l2 h2 : Int) : Int × Int := if ¬ okR l h ∨ ¬ okR l2 h2 ∨ isNone l h ∨ isNone l2 h2 then (1, 0) else cut (mx l l2) (mn h h2)
theorem sRangeMeet (l h l2 h2 : Int) : W (fun k => spec_RangeMeet.f k l h l2 h2) (· = rmeet l h l2 h2) := by
  unfold spec_RangeMeet.f
  simp only [sRangeOk, spec_l8None.f, Option.bind_some, bIsNone]
  have bad : ¬ okR l h ∨ ¬ okR l2 h2 ∨ isNone l h ∨ isNone l2 h2 → W (fun k => spec_RangeMeet.j0 k true l h l2 h2) (· = rmeet l h l2 h2) := by
    intro hb
    refine W.step (fun k => by simp only [spec_RangeMeet.j0, spec_l8None.f, Option.bind_some]; rfl) ?_
    exact W.pos (by trivial) (W.ret (by unfold rmeet; rw [if_pos hb]))
  refine W.dec (fun h1 => W.dec (fun h3 => W.dec (fun h4 => ?_) (fun h4 => ?_)) (fun h3 => bad (.inr (.inl h3)))) (fun h1 => bad (.inl h1))
  · exact bad (.inr (.inr (.inl h4)))
  · by_cases h5 : isNone l2 h2
    · rw [decide_eq_true h5]; exact bad (.inr (.inr (.inr h5)))
    · rw [decide_eq_false h5]
      refine W.step (fun k => by simp only [spec_RangeMeet.j0, spec_l8None.f, Option.bind_some, sMin, sMax, sCut]; rfl) ?_
      exact W.neg (by decide) (W.ret (by unfold rmeet; rw [if_neg (by simp [h1, h3, h4, h5])]))
theorem iRangeMeet (l h l2 h2 : Int) : W (fun k => impl_RangeMeet.f k l h l2 h2) (· = rmeet l h l2 h2) := by
  unfold impl_RangeMeet.f
  simp only [iRangeOk, impl_Range_empty.f, Option.bind_some]
  have bad : ¬ okR l h ∨ ¬ okR l2 h2 ∨ isNone l h ∨ isNone l2 h2 → W (fun k => impl_RangeMeet.j0 k true l h l2 h2) (· = rmeet l h l2 h2) := by
    intro hb
    refine W.step (fun k => by simp only [impl_RangeMeet.j0, impl_rangeNone.f, Option.bind_some]; rfl) ?_
    exact W.pos (by trivial) (W.ret (by unfold rmeet; rw [if_pos hb]))
  refine W.dec (fun h1 => W.dec (fun h3 => W.dec (fun h4 => ?_) (fun h4 => ?_)) (fun h3 => bad (.inr (.inl h3)))) (fun h1 => bad (.inl h1))
  · exact bad (.inr (.inr (.inl ((okR_gt h1).1 h4))))
  · by_cases h5 : l2 > h2
    · rw [decide_eq_true h5]; exact bad (.inr (.inr (.inr ((okR_gt h3).1 h5))))
    · rw [decide_eq_false h5]
      refine W.step (fun k => by simp only [impl_RangeMeet.j0, impl_rangeNone.f, Option.bind_some, iFrom]; rfl) ?_
      exact W.neg (by decide) (W.ret (by unfold rmeet; rw [if_neg (by rw [← okR_gt h1, ← okR_gt h3]; simp only [h1, h3, not_true, false_or]; omega)]))
theorem rmeet_ok (l h l2 h2 : Int) : okR (rmeet l h l2 h2).1 (rmeet l h l2 h2).2 := by
  unfold rmeet
  split
  · exact .inl ⟨rfl, rfl⟩
  · exact cut_okR _ _

/-! ### ranges compared -/
def fin (x0 x1 y0 y1 : Int) : Int × Int × Int × Int := if isNone x0 x1 ∨ isNone y0 y1 then (1, 0, 1, 0) else (x0, x1, y0, y1)
def ne (a0 a1 b0 b1 : Int) : Int × Int := if b0 = b1 then (if a0 = b0 then cut (a0 + 1) a1 else if a1 = b0 then cut a0 (a1 - 1) else (a0, a1)) else (a0, a1)
def badC (a0 a1 b0 b1 : Int) : Prop := ¬ okR a0 a1 ∨ ¬ okR b0 b1 ∨ isNone a0 a1 ∨ isNone b0 b1
instance (a0 a1 b0 b1 : Int) : Decidable (badC a0 a1 b0 b1) := by unfold badC; exact inferInstance
def core (c a0 a1 b0 b1 : Int) : (Int × Int) × (Int × Int) :=
  if c = 1 then (rmeet a0 a1 b0 b1, rmeet a0 a1 b0 b1) else if c = 2 then (ne a0 a1 b0 b1, ne b0 b1 a0 a1) else if c = 3 then (cut a0 (mn a1 (b1 - 1)), cut (mx b0 (a0 + 1)) b1) else if c = 4 then (cut a0 (mn a1 b1), cut (mx b0 a0) b1) else ((1, 0), (1, 0))
def fin2 (r : (Int × Int) × (Int × Int)) : Int × Int × Int × Int := fin r.1.1 r.1.2 r.2.1 r.2.2
def rcmp0 (c a0 a1 b0 b1 : Int) : Int × Int × Int × Int := if badC a0 a1 b0 b1 then (1, 0, 1, 0) else fin2 (core c a0 a1 b0 b1)
def swp (r : Int × Int × Int × Int) : Int × Int × Int × Int := fin r.2.2.1 r.2.2.2 r.1 r.2.1
def rcmp (c a0 a1 b0 b1 : Int) : Int × Int × Int × Int := if badC a0 a1 b0 b1 then (1, 0, 1, 0) else if c = 5 then swp (rcmp0 3 b0 b1 a0 a1) else if c = 6 then swp (rcmp0 4 b0 b1 a0 a1) else rcmp0 c a0 a1 b0 b1
def okP (p : Int × Int) : Prop := okR p.1 p.2
theorem ne_ok {a0 a1 b0 b1 : Int} (h : okR a0 a1) : okP (ne a0 a1 b0 b1) := by
  unfold ne
  split
  · split
    · exact cut_okR _ _
    · split
      · exact cut_okR _ _
      · exact h
  · exact h
theorem core_ok {c a0 a1 b0 b1 : Int} (ha : okR a0 a1) (hb : okR b0 b1) : okP (core c a0 a1 b0 b1).1 ∧ okP (core c a0 a1 b0 b1).2 := by
  unfold core
  split
  · exact ⟨rmeet_ok _ _ _ _, rmeet_ok _ _ _ _⟩
  split
  · exact ⟨ne_ok ha, ne_ok hb⟩
  split
  · exact ⟨cut_okR _ _, cut_okR _ _⟩
  split
  · exact ⟨cut_okR _ _, cut_okR _ _⟩
  · exact ⟨.inl ⟨rfl, rfl⟩, .inl ⟨rfl, rfl⟩⟩
theorem fin_ok {x0 x1 y0 y1 : Int} (hx : okR x0 x1) (hy : okR y0 y1) : okR (fin x0 x1 y0 y1).1 (fin x0 x1 y0 y1).2.1 ∧ okR (fin x0 x1 y0 y1).2.2.1 (fin x0 x1 y0 y1).2.2.2 := by
  unfold fin
  split
  · exact ⟨.inl ⟨rfl, rfl⟩, .inl ⟨rfl, rfl⟩⟩
  · exact ⟨hx, hy⟩
theorem rcmp0_ok (c a0 a1 b0 b1 : Int) : okR (rcmp0 c a0 a1 b0 b1).1 (rcmp0 c a0 a1 b0 b1).2.1 ∧ okR (rcmp0 c a0 a1 b0 b1).2.2.1 (rcmp0 c a0 a1 b0 b1).2.2.2 := by
  unfold rcmp0
  split
  · exact ⟨.inl ⟨rfl, rfl⟩, .inl ⟨rfl, rfl⟩⟩
  · rename_i h
    have ha : okR a0 a1 := Decidable.byContradiction fun e => h (.inl e)
    have hb : okR b0 b1 := Decidable.byContradiction fun e => h (.inr (.inl e))
    exact fin_ok (core_ok ha hb).1 (core_ok ha hb).2
theorem badC_swap {a0 a1 b0 b1 : Int} : badC b0 b1 a0 a1 ↔ badC a0 a1 b0 b1 := by
  unfold badC
  constructor
  · rintro (h | h | h | h)
    · exact .inr (.inl h)
    · exact .inl h
    · exact .inr (.inr (.inr h))
    · exact .inr (.inr (.inl h))
  · rintro (h | h | h | h)
    · exact .inr (.inl h)
    · exact .inl h
    · exact .inr (.inr (.inr h))
    · exact .inr (.inr (.inl h))
theorem notBad {a0 a1 b0 b1 : Int} (h : ¬ badC a0 a1 b0 b1) : (-2147483648 ≤ a0 ∧ a0 ≤ a1 ∧ a1 ≤ 2147483647) ∧ (-2147483648 ≤ b0 ∧ b0 ≤ b1 ∧ b1 ≤ 2147483647) := by
  unfold badC okR isNone at h; omega
/-! #### the specification's -/
theorem sFin (x0 x1 y0 y1 : Int) : W (fun k => spec_RangeCmp.j6 k x0 x1 y0 y1) (· = fin x0 x1 y0 y1) := by
  have one : isNone x0 x1 ∨ isNone y0 y1 → W (fun k => spec_RangeCmp.j7 k true x0 x1 y0 y1) (· = fin x0 x1 y0 y1) := by
    intro h
    refine W.step (fun k => by simp only [spec_RangeCmp.j7, spec_l8None.f, Option.bind_some]; rfl) ?_
    exact W.pos (by trivial) (W.ret (by unfold fin; rw [if_pos h]))
  refine W.step (fun k => by simp only [spec_RangeCmp.j6, spec_l8None.f, Option.bind_some, bIsNone]; rfl) ?_
  refine W.dec (fun h => one (.inl h)) (fun h => ?_)
  by_cases h2 : isNone y0 y1
  · rw [decide_eq_true h2]; exact one (.inr h2)
  · rw [decide_eq_false h2]
    refine W.step (fun k => by simp only [spec_RangeCmp.j7, spec_l8None.f, Option.bind_some]; rfl) ?_
    exact W.neg (by decide) (W.ret (by unfold fin; rw [if_neg (by rintro (e | e); exact h e; exact h2 e)]))
theorem s4 {c : Int} (h5 : c ≠ 5) (h6 : c ≠ 6) (a0 a1 b0 b1 x0 x1 y0 y1 : Int) : W (fun k => spec_RangeCmp.j4 k c a0 a1 b0 b1 x0 x1 y0 y1) (· = fin x0 x1 y0 y1) := by
  refine W.step (fun k => by simp only [spec_RangeCmp.j4]; rfl) ?_
  refine W.neg h5 ?_
  rw [show (c == 6) = false by simpa using h6]
  refine W.step (fun k => by simp only [spec_RangeCmp.j5]; rfl) ?_
  exact W.neg (by decide) (sFin ..)
theorem s3 {c : Int} (h4 : c ≠ 4) (h5 : c ≠ 5) (h6 : c ≠ 6) (a0 a1 b0 b1 x0 x1 y0 y1 : Int) : W (fun k => spec_RangeCmp.j3 k c a0 a1 b0 b1 x0 x1 y0 y1) (· = fin x0 x1 y0 y1) := by
  refine W.step (fun k => by simp only [spec_RangeCmp.j3]; rfl) ?_
  exact W.neg h4 (s4 h5 h6 ..)
theorem s2 {c : Int} (h3 : c ≠ 3) (h4 : c ≠ 4) (h5 : c ≠ 5) (h6 : c ≠ 6) (a0 a1 b0 b1 x0 x1 y0 y1 : Int) : W (fun k => spec_RangeCmp.j2 k c a0 a1 b0 b1 x0 x1 y0 y1) (· = fin x0 x1 y0 y1) := by
  refine W.step (fun k => by simp only [spec_RangeCmp.j2]; rfl) ?_
  exact W.neg h3 (s3 h4 h5 h6 ..)
theorem s1 {c : Int} (h2 : c ≠ 2) (h3 : c ≠ 3) (h4 : c ≠ 4) (h5 : c ≠ 5) (h6 : c ≠ 6) (a0 a1 b0 b1 x0 x1 y0 y1 : Int) : W (fun k => spec_RangeCmp.j1 k c a0 a1 b0 b1 x0 x1 y0 y1) (· = fin x0 x1 y0 y1) := by
  refine W.step (fun k => by simp only [spec_RangeCmp.j1]; rfl) ?_
  exact W.neg h2 (s2 h3 h4 h5 h6 ..)
theorem sNe {a0 a1 : Int} (b0 b1 : Int) (h0 : -2147483648 ≤ a0) (h1 : a0 ≤ a1) (h2 : a1 ≤ 2147483647) : spec_l8Ne.f a0 a1 b0 b1 = some (ne a0 a1 b0 b1) := by
  unfold spec_l8Ne.f ne
  rw [wrap64_id (n := a0 + 1) (by omega) (by omega), wrap64_id (n := a1 - 1) (by omega) (by omega), sCut, sCut]
  simp only [Option.bind_some]
  split
  · split
    · rfl
    · split <;> rfl
  · rfl
theorem sCore {c a0 a1 b0 b1 : Int} (h5 : c ≠ 5) (h6 : c ≠ 6) (hb : ¬ badC a0 a1 b0 b1) : W (fun k => spec_RangeCmp.j0 k c false a0 a1 b0 b1 1 0 1 0) (· = fin2 (core c a0 a1 b0 b1)) := by
  obtain ⟨⟨p0, p1, p2⟩, ⟨q0, q1, q2⟩⟩ := notBad hb
  refine W.step (fun k => by simp only [spec_RangeCmp.j0]; rfl) ?_
  refine W.neg (by decide) ?_
  unfold core
  refine W.ite (fun h1 => ?_) (fun h1 => ?_)
  · rw [if_pos h1]; subst h1
    refine W.bind (sRangeMeet a0 a1 b0 b1) ?_
    rintro _ rfl
    exact s1 (by decide) (by decide) (by decide) (by decide) (by decide) ..
  rw [if_neg h1]
  refine W.step (fun k => by simp only [spec_RangeCmp.j1]; rfl) ?_
  refine W.ite (fun h2 => ?_) (fun h2 => ?_)
  · rw [if_pos h2]; subst h2
    refine W.bind (Q := (· = ne a0 a1 b0 b1)) (W.const (sNe b0 b1 p0 p1 p2) rfl) ?_
    rintro _ rfl
    refine W.bind (Q := (· = ne b0 b1 a0 a1)) (W.const (sNe a0 a1 q0 q1 q2) rfl) ?_
    rintro _ rfl
    exact s2 (by decide) (by decide) (by decide) (by decide) ..
  rw [if_neg h2]
  refine W.step (fun k => by simp only [spec_RangeCmp.j2]; rfl) ?_
  refine W.ite (fun h3 => ?_) (fun h3 => ?_)
  · rw [if_pos h3]; subst h3
    rw [wrap64_id (n := b1 - 1) (by omega) (by omega), wrap64_id (n := a0 + 1) (by omega) (by omega)]
    refine W.bind (Q := (· = mn a1 (b1 - 1))) (W.const (sMin _ _) rfl) ?_
    rintro _ rfl
    refine W.bind (Q := (· = cut a0 (mn a1 (b1 - 1)))) (W.const (sCut _ _) rfl) ?_
    rintro _ rfl
    refine W.bind (Q := (· = mx b0 (a0 + 1))) (W.const (sMax _ _) rfl) ?_
    rintro _ rfl
    refine W.bind (Q := (· = cut (mx b0 (a0 + 1)) b1)) (W.const (sCut _ _) rfl) ?_
    rintro _ rfl
    exact s3 (by decide) (by decide) (by decide) ..
  rw [if_neg h3]
  refine W.step (fun k => by simp only [spec_RangeCmp.j3]; rfl) ?_
  refine W.ite (fun h4 => ?_) (fun h4 => ?_)
  · rw [if_pos h4]; subst h4
    refine W.bind (Q := (· = mn a1 b1)) (W.const (sMin _ _) rfl) ?_
    rintro _ rfl
    refine W.bind (Q := (· = cut a0 (mn a1 b1))) (W.const (sCut _ _) rfl) ?_
    rintro _ rfl
    refine W.bind (Q := (· = mx b0 a0)) (W.const (sMax _ _) rfl) ?_
    rintro _ rfl
    refine W.bind (Q := (· = cut (mx b0 a0) b1)) (W.const (sCut _ _) rfl) ?_
    rintro _ rfl
    exact s4 (by decide) (by decide) ..
  rw [if_neg h4]
  exact s4 h5 h6 ..
theorem sHead {R : Int × Int × Int × Int} (c a0 a1 b0 b1 : Int) (hbad : badC a0 a1 b0 b1 → R = (1, 0, 1, 0)) (hgood : ¬ badC a0 a1 b0 b1 → W (fun k => spec_RangeCmp.j0 k c false a0 a1 b0 b1 1 0 1 0) (· = R)) : W (fun k => spec_RangeCmp.f k c a0 a1 b0 b1) (· = R) := by
  have bad : badC a0 a1 b0 b1 → W (fun k => spec_RangeCmp.j0 k c true a0 a1 b0 b1 1 0 1 0) (· = R) := by
    intro h
    refine W.step (fun k => by simp only [spec_RangeCmp.j0]; rfl) ?_
    exact W.pos (by trivial) (W.ret (hbad h).symm)
  refine W.step (fun k => by simp only [spec_RangeCmp.f, sRangeOk, spec_l8None.f, Option.bind_some, bIsNone]; rfl) ?_
  refine W.dec (fun h1 => W.dec (fun h3 => W.dec (fun h4 => bad (.inr (.inr (.inl h4)))) (fun h4 => ?_)) (fun h3 => bad (.inr (.inl h3)))) (fun h1 => bad (.inl h1))
  by_cases h5 : isNone b0 b1
  · rw [decide_eq_true h5]; exact bad (.inr (.inr (.inr h5)))
  · rw [decide_eq_false h5]
    exact hgood (by rintro (e | e | e | e); exact e h1; exact e h3; exact h4 e; exact h5 e)
theorem sBase {c : Int} (h5 : c ≠ 5) (h6 : c ≠ 6) (a0 a1 b0 b1 : Int) : W (fun k => spec_RangeCmp.f k c a0 a1 b0 b1) (· = rcmp0 c a0 a1 b0 b1) :=
  sHead c a0 a1 b0 b1 (fun h => by unfold rcmp0; rw [if_pos h]) (fun h => by unfold rcmp0; rw [if_neg h]; exact sCore h5 h6 h)
theorem sTurned {c d : Int} (hc : c = 5 ∧ d = 3 ∨ c = 6 ∧ d = 4) (a0 a1 b0 b1 : Int) : W (fun k => spec_RangeCmp.j0 k c false a0 a1 b0 b1 1 0 1 0) (· = swp (rcmp0 d b0 b1 a0 a1)) := by
  have ht : spec_CmpTurn.f c = some d := by rcases hc with ⟨rfl, rfl⟩ | ⟨rfl, rfl⟩ <;> rfl
  have h5 : W (fun k => spec_RangeCmp.j5 k c true a0 a1 b0 b1 1 0 1 0) (· = swp (rcmp0 d b0 b1 a0 a1)) := by
    refine W.step (fun k => by simp only [spec_RangeCmp.j5, ht, Option.bind_some]; rfl) ?_
    refine W.pos (by trivial) ?_
    refine W.bind (sBase (c := d) (by omega) (by omega) b0 b1 a0 a1) ?_
    rintro _ rfl
    exact sFin ..
  refine W.step (fun k => by simp only [spec_RangeCmp.j0]; rfl) ?_
  refine W.neg (by decide) (W.neg (by omega) ?_)
  refine W.step (fun k => by simp only [spec_RangeCmp.j1]; rfl) (W.neg (by omega) ?_)
  refine W.step (fun k => by simp only [spec_RangeCmp.j2]; rfl) (W.neg (by omega) ?_)
  refine W.step (fun k => by simp only [spec_RangeCmp.j3]; rfl) (W.neg (by omega) ?_)
  refine W.step (fun k => by simp only [spec_RangeCmp.j4]; rfl) ?_
  refine W.ite (fun _ => h5) (fun h => ?_)
  rw [show (c == 6) = true by simp; omega]
  exact h5
theorem sRangeCmp (c a0 a1 b0 b1 : Int) : W (fun k => spec_RangeCmp.f k c a0 a1 b0 b1) (· = rcmp c a0 a1 b0 b1) := by
  by_cases h5 : c = 5
  · exact sHead c a0 a1 b0 b1 (fun h => by unfold rcmp; rw [if_pos h]) (fun h => by unfold rcmp; rw [if_neg h, if_pos h5]; exact sTurned (.inl ⟨h5, rfl⟩) ..)
  by_cases h6 : c = 6
  · exact sHead c a0 a1 b0 b1 (fun h => by unfold rcmp; rw [if_pos h]) (fun h => by unfold rcmp; rw [if_neg h, if_neg h5, if_pos h6]; exact sTurned (.inr ⟨h6, rfl⟩) ..)
  have e : rcmp c a0 a1 b0 b1 = rcmp0 c a0 a1 b0 b1 := by
    unfold rcmp
    split
    · rename_i h; unfold rcmp0; rw [if_pos h]
    · first | rfl | rw [if_neg h5, if_neg h6]
  rw [e]
  exact sBase h5 h6 ..
/-! #### the program's -/
theorem iFin {x0 x1 y0 y1 : Int} (hx : okR x0 x1) (hy : okR y0 y1) : W (fun k => impl_RangeCmp.j2 k x0 x1 y0 y1) (· = fin x0 x1 y0 y1) := by
  have one : isNone x0 x1 ∨ isNone y0 y1 → W (fun k => impl_RangeCmp.j3 k true x0 x1 y0 y1) (· = fin x0 x1 y0 y1) := by
    intro h
    refine W.step (fun k => by simp only [impl_RangeCmp.j3, impl_rangeNone.f, Option.bind_some]; rfl) ?_
    exact W.pos (by trivial) (W.ret (by unfold fin; rw [if_pos h]))
  refine W.step (fun k => by simp only [impl_RangeCmp.j2, impl_Range_empty.f, Option.bind_some]; rfl) ?_
  refine W.dec (fun h => one (.inl ((okR_gt hx).1 h))) (fun h => ?_)
  by_cases h2 : y0 > y1
  · rw [decide_eq_true h2]; exact one (.inr ((okR_gt hy).1 h2))
  · rw [decide_eq_false h2]
    refine W.step (fun k => by simp only [impl_RangeCmp.j3, impl_rangeNone.f, Option.bind_some]; rfl) ?_
    exact W.neg (by decide) (W.ret (by unfold fin; rw [if_neg (by rintro (e | e); exact h ((okR_gt hx).2 e); exact h2 ((okR_gt hy).2 e))]))
theorem iNe {a0 a1 : Int} (b0 b1 : Int) (h0 : -2147483648 ≤ a0) (h1 : a0 ≤ a1) (h2 : a1 ≤ 2147483647) : W (fun k => impl_rangeWithout.f k a0 a1 b0 b1) (· = ne a0 a1 b0 b1) := by
  unfold impl_rangeWithout.f ne
  simp only [impl_Range_single.f, Option.bind_some]
  by_cases hb : b0 = b1
  · rw [if_pos hb]
    refine W.pos (by simpa using hb) ?_
    by_cases ha : a0 = b0
    · rw [if_pos ha, show (b0 == a0) = true by simp [ha]]
      refine W.step (fun k => by simp only [impl_rangeWithout.j0]; rfl) ?_
      refine W.pos (by trivial) ?_
      rw [wrap64_id (n := a0 + 1) (by omega) (by omega)]
      refine W.bind (Q := (· = cut (a0 + 1) a1)) (W.const (iFrom _ _) rfl) ?_
      rintro _ rfl
      exact W.ret rfl
    · rw [if_neg ha, show (b0 == a0) = false by simpa using fun e => ha e.symm]
      refine W.step (fun k => by simp only [impl_rangeWithout.j0, impl_Range_single.f, Option.bind_some]; rfl) ?_
      refine W.neg (by decide) (W.pos (by simpa using hb) ?_)
      rw [wrap64_id (n := a1 - 1) (by omega) (by omega)]
      by_cases hc : a1 = b0
      · rw [if_pos hc]
        refine W.pos hc.symm ?_
        refine W.bind (Q := (· = cut a0 (a1 - 1))) (W.const (iFrom _ _) rfl) ?_
        rintro _ rfl
        exact W.ret rfl
      · rw [if_neg hc]
        exact W.neg (fun e => hc e.symm) (W.ret rfl)
  · rw [if_neg hb]
    refine W.neg (by simpa using hb) ?_
    refine W.step (fun k => by simp only [impl_rangeWithout.j0, impl_Range_single.f, Option.bind_some]; rfl) ?_
    exact W.neg (by decide) (W.neg (by simpa using hb) (W.ret rfl))
theorem iCore {c a0 a1 b0 b1 : Int} (h5 : c ≠ 5) (h6 : c ≠ 6) (hb : ¬ badC a0 a1 b0 b1) : W (fun k => impl_RangeCmp.j0 k c false a0 a1 b0 b1) (· = fin2 (core c a0 a1 b0 b1)) := by
  obtain ⟨⟨p0, p1, p2⟩, ⟨q0, q1, q2⟩⟩ := notBad hb
  have oa : okR a0 a1 := .inr ⟨p0, p1, p2⟩
  have ob : okR b0 b1 := .inr ⟨q0, q1, q2⟩
  refine W.step (fun k => by simp only [impl_RangeCmp.j0]; rfl) ?_
  refine W.neg (by decide) ?_
  unfold core
  refine W.ite (fun h1 => ?_) (fun h1 => ?_)
  · rw [if_pos h1]
    refine W.bind (iRangeMeet a0 a1 b0 b1) ?_
    rintro _ rfl
    exact iFin (rmeet_ok ..) (rmeet_ok ..)
  rw [if_neg h1]
  refine W.ite (fun h2 => ?_) (fun h2 => ?_)
  · rw [if_pos h2]
    refine W.bind (iNe b0 b1 p0 p1 p2) ?_
    rintro _ rfl
    refine W.bind (iNe a0 a1 q0 q1 q2) ?_
    rintro _ rfl
    exact iFin (ne_ok oa) (ne_ok ob)
  rw [if_neg h2]
  refine W.ite (fun h3 => ?_) (fun h3 => ?_)
  · rw [if_pos h3]
    rw [wrap64_id (n := b1 - 1) (by omega) (by omega), wrap64_id (n := a0 + 1) (by omega) (by omega)]
    refine W.bind (Q := (· = cut a0 (mn a1 (b1 - 1)))) (W.const (iFrom _ _) rfl) ?_
    rintro _ rfl
    refine W.bind (Q := (· = cut (mx b0 (a0 + 1)) b1)) (W.const (iFrom _ _) rfl) ?_
    rintro _ rfl
    exact iFin (cut_okR ..) (cut_okR ..)
  rw [if_neg h3]
  refine W.ite (fun h4 => ?_) (fun h4 => ?_)
  · rw [if_pos h4]
    refine W.bind (Q := (· = cut a0 (mn a1 b1))) (W.const (iFrom _ _) rfl) ?_
    rintro _ rfl
    refine W.bind (Q := (· = cut (mx b0 a0) b1)) (W.const (iFrom _ _) rfl) ?_
    rintro _ rfl
    exact iFin (cut_okR ..) (cut_okR ..)
  rw [if_neg h4]
  refine W.neg h5 ?_
  rw [show (c == 6) = false by simpa using h6]
  refine W.step (fun k => by simp only [impl_RangeCmp.j1, impl_rangeNone.f, Option.bind_some]; rfl) ?_
  exact W.neg (by decide) (W.ret rfl)
theorem iHead {R : Int × Int × Int × Int} (c a0 a1 b0 b1 : Int) (hbad : badC a0 a1 b0 b1 → R = (1, 0, 1, 0)) (hgood : ¬ badC a0 a1 b0 b1 → W (fun k => impl_RangeCmp.j0 k c false a0 a1 b0 b1) (· = R)) : W (fun k => impl_RangeCmp.f k c a0 a1 b0 b1) (· = R) := by
  have bad : badC a0 a1 b0 b1 → W (fun k => impl_RangeCmp.j0 k c true a0 a1 b0 b1) (· = R) := by
    intro h
    refine W.step (fun k => by simp only [impl_RangeCmp.j0, impl_rangeNone.f, Option.bind_some]; rfl) ?_
    exact W.pos (by trivial) (W.ret (hbad h).symm)
  refine W.step (fun k => by simp only [impl_RangeCmp.f, iRangeOk, impl_Range_empty.f, Option.bind_some]; rfl) ?_
  refine W.dec (fun h1 => W.dec (fun h3 => W.dec (fun h4 => bad (.inr (.inr (.inl ((okR_gt h1).1 h4))))) (fun h4 => ?_)) (fun h3 => bad (.inr (.inl h3)))) (fun h1 => bad (.inl h1))
  by_cases h5 : b0 > b1
  · rw [decide_eq_true h5]; exact bad (.inr (.inr (.inr ((okR_gt h3).1 h5))))
  · rw [decide_eq_false h5]
    exact hgood (by rintro (e | e | e | e); exact e h1; exact e h3; exact h4 ((okR_gt h1).2 e); exact h5 ((okR_gt h3).2 e))
theorem iBase {c : Int} (h5 : c ≠ 5) (h6 : c ≠ 6) (a0 a1 b0 b1 : Int) : W (fun k => impl_RangeCmp.f k c a0 a1 b0 b1) (· = rcmp0 c a0 a1 b0 b1) :=
  iHead c a0 a1 b0 b1 (fun h => by unfold rcmp0; rw [if_pos h]) (fun h => by unfold rcmp0; rw [if_neg h]; exact iCore h5 h6 h)
theorem iTurned {c d : Int} (hc : c = 5 ∧ d = 3 ∨ c = 6 ∧ d = 4) (a0 a1 b0 b1 : Int) : W (fun k => impl_RangeCmp.j0 k c false a0 a1 b0 b1) (· = swp (rcmp0 d b0 b1 a0 a1)) := by
  have ht : W (fun k => impl_CmpTurn.f k c) (· = d) := by
    rcases hc with ⟨rfl, rfl⟩ | ⟨rfl, rfl⟩
    · exact ⟨3, rfl, 1, fun k hk => by obtain ⟨m, rfl⟩ : ∃ m, k = m + 1 := ⟨k - 1, by omega⟩
                                       rfl⟩
    · exact ⟨4, rfl, 1, fun k hk => by obtain ⟨m, rfl⟩ : ∃ m, k = m + 1 := ⟨k - 1, by omega⟩
                                       rfl⟩
  have h5 : W (fun k => impl_RangeCmp.j1 k c true a0 a1 b0 b1) (· = swp (rcmp0 d b0 b1 a0 a1)) := by
    refine W.step (fun k => by simp only [impl_RangeCmp.j1]; rfl) ?_
    refine W.pos (by trivial) ?_
    refine W.bind ht ?_
    rintro _ rfl
    refine W.bind (iBase (by omega) (by omega) b0 b1 a0 a1) ?_
    rintro _ rfl
    exact iFin (rcmp0_ok ..).2 (rcmp0_ok ..).1
  refine W.step (fun k => by simp only [impl_RangeCmp.j0]; rfl) ?_
  refine W.neg (by decide) (W.neg (by omega) (W.neg (by omega) (W.neg (by omega) (W.neg (by omega) ?_))))
  refine W.ite (fun h => ?_) (fun h => ?_)
  · rw [show (c == 5) = true by simpa using h]; exact h5
  · rw [show (c == 6) = true by simp; omega]; exact h5
theorem iRangeCmp (c a0 a1 b0 b1 : Int) : W (fun k => impl_RangeCmp.f k c a0 a1 b0 b1) (· = rcmp c a0 a1 b0 b1) := by
  by_cases h5 : c = 5
  · exact iHead c a0 a1 b0 b1 (fun h => by unfold rcmp; rw [if_pos h]) (fun h => by unfold rcmp; rw [if_neg h, if_pos h5]; exact iTurned (.inl ⟨h5, rfl⟩) ..)
  by_cases h6 : c = 6
  · exact iHead c a0 a1 b0 b1 (fun h => by unfold rcmp; rw [if_pos h]) (fun h => by unfold rcmp; rw [if_neg h, if_neg h5, if_pos h6]; exact iTurned (.inr ⟨h6, rfl⟩) ..)
  have e : rcmp c a0 a1 b0 b1 = rcmp0 c a0 a1 b0 b1 := by
    unfold rcmp
    split
    · rename_i h; unfold rcmp0; rw [if_pos h]
    · first | rfl | rw [if_neg h5, if_neg h6]
  rw [e]
  exact iBase h5 h6 ..

theorem eqRange_same (a b : Int) : laws_eqRange.f a b a b = some true := by simp [laws_eqRange.f]
theorem FnExactRangeCmp (n a b c d : Int) (_ : (Lit.int .i64 n).wf = true) (_ : (Lit.int .i64 a).wf = true) (_ : (Lit.int .i64 b).wf = true) (_ : (Lit.int .i64 c).wf = true) (_ : (Lit.int .i64 d).wf = true) : ∃ k, laws_FnExactRangeCmp.f k n a b c d = some true := by
  apply W.eq
  unfold laws_FnExactRangeCmp.f
  simp only [laws_toRange.f, Option.bind_some]
  refine W.bind (sRangeCmp n a b c d) ?_
  rintro _ rfl
  refine W.bind (iRangeCmp n a b c d) ?_
  rintro _ rfl
  simp only [eqRange_same, Option.bind_some]
  refine W.pos (by trivial) ?_
  exact W.pos (by trivial) (W.ret rfl)

end Go.Proofs.Ytlipfemjlicbbaa.Pure
