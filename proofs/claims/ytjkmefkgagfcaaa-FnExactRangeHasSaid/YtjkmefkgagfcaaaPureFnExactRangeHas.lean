/- The pure statement of the law FnExactRangeHas: for every input the printed function answers true. -/
import Derived.Test.YtjkmefkgagfcaaaPFnExactRangeHasx0
import Derived.Test.YtjkmefkgagfcaaaPFnExactRangeHasx1
import Derived.Test.YtjkmefkgagfcaaaPFnExactRangeHasx2
import Derived.Test.YtjkmefkgagfcaaaPFnExactRangeHasx3
import Derived.Test.YtjkmefkgagfcaaaPFnExactRangeHasx4
import Derived.Test.YtjkmefkgagfcaaaLib
namespace Go.Proofs.Ytjkmefkgagfcaaa.Pure
open Go Go.RowKit Go.Proofs.Ytjkmefkgagfcaaa.PFnExactRangeHas Go.Proofs.YtjkmefkgagfcaaaW.PrintWords Go.Proofs.YtjkmefkgagfcaaaW.PrintLast Go.Proofs.YtjkmefkgagfcaaaW.PrintMore Go.Proofs.Ytjkmefkgagfcaaa.Lib
set_option linter.unusedVariables false
set_option linter.unusedSimpArgs false

/-! ### ranges: whether they are as they must be -/
def okN (v : Int) : Prop := -2147483648 ≤ v ∧ v ≤ 2147483647
instance (v : Int) : Decidable (okN v) := by unfold okN; exact inferInstance
def okR (l h : Int) : Prop := (l = 1 ∧ h = 0) ∨ (-2147483648 ≤ l ∧ l ≤ h ∧ h ≤ 2147483647)
instance (l h : Int) : Decidable (okR l h) := by unfold okR; exact inferInstance
theorem sNumOk (v : Int) : spec_NumOk.f v = some (decide (okN v)) := by
  simp only [spec_NumOk.f, spec_l1In.f, okN]
  by_cases h : v ≥ -2147483648 <;> simp [h]
theorem iNumOk (v : Int) : impl_NumOk.f v = some (decide (okN v)) := by
  simp only [impl_NumOk.f, okN]
  by_cases h : v ≥ -2147483648 <;> simp [h]
theorem sRangeOk (l h : Int) : spec_RangeOk.f l h = some (decide (okR l h)) := by
  simp only [spec_RangeOk.f, spec_l8None.f, sNumOk, Option.bind_some]
  by_cases h1 : l = 1 ∧ h = 0
  · obtain ⟨rfl, rfl⟩ := h1; rfl
  · have : (l == 1 && h == 0) = false := by simpa using h1
    rw [this]; simp only [Bool.false_eq_true, if_false, okR, okN]
    by_cases h2 : -2147483648 ≤ l ∧ l ≤ 2147483647
    · by_cases h3 : -2147483648 ≤ h ∧ h ≤ 2147483647
      · simp only [h2, h3, and_self, true_and, and_true, decide_true, if_true]; congr 1; apply decide_eq_decide.2; omega
      · simp only [h2, h3, and_self, decide_true, decide_false, if_true, Bool.false_eq_true, if_false]; congr 1; symm; apply decide_eq_false; omega
    · simp only [h2, decide_false, Bool.false_eq_true, if_false]; congr 1; symm; apply decide_eq_false; omega
theorem iRangeOk (l h : Int) : impl_RangeOk.f l h = some (decide (okR l h)) := by
  simp only [impl_RangeOk.f, impl_rangeNone.f, iNumOk, Option.bind_some]
  by_cases h1 : l = 1 ∧ h = 0
  · obtain ⟨rfl, rfl⟩ := h1; rfl
  · have : (l == 1 && h == 0) = false := by simpa using h1
    rw [this]; simp only [Bool.false_eq_true, if_false, okR, okN]
    by_cases h2 : -2147483648 ≤ l ∧ l ≤ 2147483647
    · by_cases h3 : -2147483648 ≤ h ∧ h ≤ 2147483647
      · simp only [h2, h3, and_self, true_and, and_true, decide_true, if_true]; congr 1; apply decide_eq_decide.2; omega
      · simp only [h2, h3, and_self, decide_true, decide_false, if_true, Bool.false_eq_true, if_false]; congr 1; symm; apply decide_eq_false; omega
    · simp only [h2, decide_false, Bool.false_eq_true, if_false]; congr 1; symm; apply decide_eq_false; omega

theorem sRangeHas (l h v : Int) : spec_RangeHas.f l h v = some (decide (okR l h ∧ l ≤ v ∧ v ≤ h)) := by
  simp only [spec_RangeHas.f, spec_l1In.f, sRangeOk, Option.bind_some]
  by_cases h1 : okR l h
  · by_cases h2 : l ≤ v
    · simp [h1, h2]
    · simp [h1, h2]
  · simp [h1]
theorem iRangeHas (l h v : Int) : impl_RangeHas.f l h v = some (decide (okR l h ∧ l ≤ v ∧ v ≤ h)) := by
  simp only [impl_RangeHas.f, iRangeOk, Option.bind_some]
  by_cases h1 : okR l h
  · by_cases h2 : l ≤ v
    · simp [h1, h2]
    · simp [h1, h2]
  · simp [h1]

theorem FnExactRangeHas (a b v : Int) (_ : (Lit.int .i64 a).wf = true) (_ : (Lit.int .i64 b).wf = true) (_ : (Lit.int .i64 v).wf = true) : laws_FnExactRangeHas.f a b v = some true := by
  simp only [laws_FnExactRangeHas.f, laws_toRange.f, sRangeHas, iRangeHas, Option.bind_some]
  simp

end Go.Proofs.Ytjkmefkgagfcaaa.Pure
