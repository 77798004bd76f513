/- The pure statement of the law FnExactRangeMeet: for every input the printed function answers true. -/
import Derived.Test.YtlipfemjlicbbaaPFnExactRangeMeetx0
import Derived.Test.YtlipfemjlicbbaaPFnExactRangeMeetx1
import Derived.Test.YtlipfemjlicbbaaPFnExactRangeMeetx2
import Derived.Test.YtlipfemjlicbbaaPFnExactRangeMeetx3
import Derived.Test.YtlipfemjlicbbaaPFnExactRangeMeetx4
import Derived.Test.YtlipfemjlicbbaaPFnExactRangeMeetx5
import Derived.Test.YtlipfemjlicbbaaPFnExactRangeMeetx6
import Derived.Test.YtlipfemjlicbbaaPFnExactRangeMeetx7
import Derived.Test.YtlipfemjlicbbaaLib
namespace Go.Proofs.Ytlipfemjlicbbaa.Pure
open Go Go.RowKit Go.Proofs.Ytlipfemjlicbbaa.PFnExactRangeMeet Go.Proofs.YtlipfemjlicbbaaW.PrintWords Go.Proofs.YtlipfemjlicbbaaW.PrintLast Go.Proofs.YtlipfemjlicbbaaW.PrintMore Go.Proofs.Ytlipfemjlicbbaa.Lib
set_option linter.unusedVariables false
set_option linter.unusedSimpArgs false

/-! ### ranges: whether they are as they must be -/
def okN (v : Int) : Prop := -2147483648 ≤ v ∧ v ≤ 2147483647
instance (v : Int) : Decidable (okN v) := by unfold okN; exact inferInstance
def okR (l h : Int) : Prop := (l = 1 ∧ h = 0) ∨ (-2147483648 ≤ l ∧ l ≤ h ∧ h ≤ 2147483647)
instance (l h : Int) : Decidable (okR l h) := by unfold okR; exact inferInstance
theorem sNumOk (v : Int) : spec_NumOk.f v = some (decide (okN v)) := by
  simp only [spec_NumOk.f, spec_l1In.f, okN]
  by_cases h : v ≥ -2147483648 <;> simp [h]
theorem iNumOk (v : Int) : impl_NumOk.f v = some (decide (okN v)) := by
  simp only [impl_NumOk.f, okN]
  by_cases h : v ≥ -2147483648 <;> simp [h]
theorem sRangeOk (l h : Int) : spec_RangeOk.f l h = some (decide (okR l h)) := by
  simp only [spec_RangeOk.f, spec_l8None.f, sNumOk, Option.bind_some]
  by_cases h1 : l = 1 ∧ h = 0
  · obtain ⟨rfl, rfl⟩ := h1; rfl
  · have : (l == 1 && h == 0) = false := by simpa using h1
    rw [this]; simp only [Bool.false_eq_true, if_false, okR, okN]
    by_cases h2 : -2147483648 ≤ l ∧ l ≤ 2147483647
    · by_cases h3 : -2147483648 ≤ h ∧ h ≤ 2147483647
      · simp only [h2, h3, and_self, true_and, and_true, decide_true, if_true]; congr 1; apply decide_eq_decide.2; omega
      · simp only [h2, h3, and_self, decide_true, decide_false, if_true, Bool.false_eq_true, if_false]; congr 1; symm; apply decide_eq_false; omega
    · simp only [h2, decide_false, Bool.false_eq_true, if_false]; congr 1; symm; apply decide_eq_false; omega
theorem iRangeOk (l h : Int) : impl_RangeOk.f l h = some (decide (okR l h)) := by
  simp only [impl_RangeOk.f, impl_rangeNone.f, iNumOk, Option.bind_some]
  by_cases h1 : l = 1 ∧ h = 0
  · obtain ⟨rfl, rfl⟩ := h1; rfl
  · have : (l == 1 && h == 0) = false := by simpa using h1
    rw [this]; simp only [Bool.false_eq_true, if_false, okR, okN]
    by_cases h2 : -2147483648 ≤ l ∧ l ≤ 2147483647
    · by_cases h3 : -2147483648 ≤ h ∧ h ≤ 2147483647
      · simp only [h2, h3, and_self, true_and, and_true, decide_true, if_true]; congr 1; apply decide_eq_decide.2; omega
      · simp only [h2, h3, and_self, decide_true, decide_false, if_true, Bool.false_eq_true, if_false]; congr 1; symm; apply decide_eq_false; omega
    · simp only [h2, decide_false, Bool.false_eq_true, if_false]; congr 1; symm; apply decide_eq_false; omega

/-! ### ranges: cut, joined, met -/
def cut (l h : Int) : Int × Int := if mx l (-2147483648) > mn h 2147483647 then (1, 0) else (mx l (-2147483648), mn h 2147483647)
def isNone (l h : Int) : Prop := l = 1 ∧ h = 0
instance (l h : Int) : Decidable (isNone l h) := by unfold isNone; exact inferInstance
theorem sMin (a b : Int) : spec_l8Min.f a b = some (mn a b) := by unfold spec_l8Min.f mn; split <;> split <;> first | rfl | (congr 1; omega)
theorem sMax (a b : Int) : spec_l8Max.f a b = some (mx a b) := by unfold spec_l8Max.f mx; split <;> split <;> first | rfl | (congr 1; omega)
theorem okR_gt {l h : Int} (o : okR l h) : l > h ↔ isNone l h := by unfold okR at o; unfold isNone; omega
theorem bIsNone (l h : Int) : (l == 1 && h == 0) = decide (isNone l h) := by
  rw [Bool.eq_iff_iff, decide_eq_true_iff]; unfold isNone; simp

theorem sCut (l h : Int) : spec_l8Cut.f l h = some (cut l h) := by
  unfold spec_l8Cut.f cut
  simp only [sMin, sMax, spec_l8None.f, Option.bind_some]
  split <;> rfl
theorem iFrom (l h : Int) : impl_rangeFrom.f l h = some (cut l h) := by
  unfold impl_rangeFrom.f cut
  simp only [impl_rangeNone.f, Option.bind_some]
  split <;> rfl
theorem cut_ok (l h : Int) : (cut l h = (1, 0)) ∨ ((cut l h).1 ≤ (cut l h).2 ∧ -2147483648 ≤ (cut l h).1 ∧ (cut l h).2 ≤ 2147483647) := by
  unfold cut mx mn
  by_cases h1 : l < -2147483648 <;> by_cases h2 : 2147483647 < h <;> simp only [h1, h2, if_true, if_false] <;> split <;> first | (left; rfl) | (right; simp only; omega)
theorem cut_okR (l h : Int) : okR (cut l h).1 (cut l h).2 := by
  rcases cut_ok l h with e | e
  · rw [e]; exact .inl ⟨rfl, rfl⟩
  · exact .inr ⟨by omega, by omega, by omega⟩

def rmeet (l h l2 h2 : Int) : Int × Int := if ¬ okR l h ∨ ¬ okR l2 h2 ∨ isNone l h ∨ isNone l2 h2 then (1, 0) else cut (mx l l2) (mn h h2)
theorem sRangeMeet (l h l2 h2 : Int) : W (fun k => spec_RangeMeet.f k l h l2 h2) (· = rmeet l h l2 h2) := by
  unfold spec_RangeMeet.f
  simp only [sRangeOk, spec_l8None.f, Option.bind_some, bIsNone]
  have bad : ¬ okR l h ∨ ¬ okR l2 h2 ∨ isNone l h ∨ isNone l2 h2 → W (fun k => spec_RangeMeet.j0 k true l h l2 h2) (· = rmeet l h l2 h2) := by
    intro hb
    refine W.step (fun k => by simp only [spec_RangeMeet.j0, spec_l8None.f, Option.bind_some]; rfl) ?_
    exact W.pos (by trivial) (W.ret (by unfold rmeet; rw [if_pos hb]))
  refine W.dec (fun h1 => W.dec (fun h3 => W.dec (fun h4 => ?_) (fun h4 => ?_)) (fun h3 => bad (.inr (.inl h3)))) (fun h1 => bad (.inl h1))
  · exact bad (.inr (.inr (.inl h4)))
  · by_cases h5 : isNone l2 h2
    · rw [decide_eq_true h5]; exact bad (.inr (.inr (.inr h5)))
    · rw [decide_eq_false h5]
      refine W.step (fun k => by simp only [spec_RangeMeet.j0, spec_l8None.f, Option.bind_some, sMin, sMax, sCut]; rfl) ?_
      exact W.neg (by decide) (W.ret (by unfold rmeet; rw [if_neg (by simp [h1, h3, h4, h5])]))
theorem iRangeMeet (l h l2 h2 : Int) : W (fun k => impl_RangeMeet.f k l h l2 h2) (· = rmeet l h l2 h2) := by
  unfold impl_RangeMeet.f
  simp only [iRangeOk, impl_Range_empty.f, Option.bind_some]
  have bad : ¬ okR l h ∨ ¬ okR l2 h2 ∨ isNone l h ∨ isNone l2 h2 → W (fun k => impl_RangeMeet.j0 k true l h l2 h2) (· = rmeet l h l2 h2) := by
    intro hb
    refine W.step (fun k => by simp only [impl_RangeMeet.j0, impl_rangeNone.f, Option.bind_some]; rfl) ?_
    exact W.pos (by trivial) (W.ret (by unfold rmeet; rw [if_pos hb]))
  refine W.dec (fun h1 => W.dec (fun h3 => W.dec (fun h4 => ?_) (fun h4 => ?_)) (fun h3 => bad (.inr (.inl h3)))) (fun h1 => bad (.inl h1))
  · exact bad (.inr (.inr (.inl ((okR_gt h1).1 h4))))
  · by_cases h5 : l2 > h2
    · rw [decide_eq_true h5]; exact bad (.inr (.inr (.inr ((okR_gt h3).1 h5))))
    · rw [decide_eq_false h5]
      refine W.step (fun k => by simp only [impl_RangeMeet.j0, impl_rangeNone.f, Option.bind_some, iFrom]; rfl) ?_
      exact W.neg (by decide) (W.ret (by unfold rmeet; rw [if_neg (by rw [← okR_gt h1, ← okR_gt h3]; simp only [h1, h3, not_true, false_or]; omega)]))
theorem rmeet_ok (l h l2 h2 : Int) : okR (rmeet l h l2 h2).1 (rmeet l h l2 h2).2 := by
  unfold rmeet
  split
  · exact .inl ⟨rfl, rfl⟩
  · exact cut_okR _ _

theorem eqRange_same (a b : Int) : laws_eqRange.f a b a b = some true := by simp [laws_eqRange.f]
theorem FnExactRangeMeet (a b c d : Int) (_ : (Lit.int .i64 a).wf = true) (_ : (Lit.int .i64 b).wf = true) (_ : (Lit.int .i64 c).wf = true) (_ : (Lit.int .i64 d).wf = true) : ∃ k, laws_FnExactRangeMeet.f k a b c d = some true := by
  apply W.eq
  unfold laws_FnExactRangeMeet.f
  simp only [laws_toRange.f, Option.bind_some]
  refine W.bind (sRangeMeet a b c d) ?_
  rintro _ rfl
  refine W.bind (iRangeMeet a b c d) ?_
  rintro _ rfl
  simp only [eqRange_same, Option.bind_some]
  exact W.pos (by trivial) (W.ret rfl)

end Go.Proofs.Ytlipfemjlicbbaa.Pure
