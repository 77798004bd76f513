/- The pure statement of the law FnExactRestOk: for every input the printed function answers true. -/
import Derived.Test.YtlipfemjlicbbaaPFnExactRestOkx0
import Derived.Test.YtlipfemjlicbbaaPFnExactRestOkx1
import Derived.Test.YtlipfemjlicbbaaLib
namespace Go.Proofs.Ytlipfemjlicbbaa.Pure
open Go Go.RowKit Go.Proofs.Ytlipfemjlicbbaa.PFnExactRestOk Go.Proofs.YtlipfemjlicbbaaW.PrintWords Go.Proofs.YtlipfemjlicbbaaW.PrintLast Go.Proofs.YtlipfemjlicbbaaW.PrintMore Go.Proofs.Ytlipfemjlicbbaa.Lib
set_option linter.unusedVariables false
set_option linter.unusedSimpArgs false

def okN (v : Int) : Prop := -2147483648 ≤ v ∧ v ≤ 2147483647
instance (v : Int) : Decidable (okN v) := by unfold okN; exact inferInstance
theorem sNumOk (v : Int) : spec_NumOk.f v = some (decide (okN v)) := by
  simp only [spec_NumOk.f, spec_l1In.f, okN]
  by_cases h : v ≥ -2147483648 <;> simp [h]
theorem iNumOk (v : Int) : impl_NumOk.f v = some (decide (okN v)) := by
  simp only [impl_NumOk.f, okN]
  by_cases h : v ≥ -2147483648 <;> simp [h]

/-! ### rests -/
def okS (m t : Int) : Prop := (m = 0 ∧ okN t) ∨ (1 ≤ m ∧ m ≤ 65536 ∧ 0 ≤ t ∧ t < m)
instance (m t : Int) : Decidable (okS m t) := by unfold okS; exact inferInstance
theorem sIn (v a b : Int) : spec_l1In.f v a b = some (decide (a ≤ v ∧ v ≤ b)) := by
  simp only [spec_l1In.f]
  by_cases h : v ≥ a <;> simp [h]
theorem sRestOk (m t : Int) : spec_RestOk.f m t = some (decide (okS m t)) := by
  simp only [spec_RestOk.f, sNumOk, sIn, Option.bind_some]
  by_cases h0 : m = 0
  · subst h0; rw [if_pos rfl]; congr 1; apply decide_eq_decide.2; unfold okS okN; omega
  · rw [if_neg h0]
    by_cases h1 : 1 ≤ m ∧ m ≤ 65536
    · rw [if_pos (decide_eq_true h1), wrap64_id (by omega) (by omega)]; congr 1; apply decide_eq_decide.2; unfold okS; omega
    · rw [if_neg (by rw [decide_eq_true_iff]; exact h1)]; congr 1; symm; apply decide_eq_false; unfold okS; omega
theorem iRestOk (m t : Int) : impl_RestOk.f m t = some (decide (okS m t)) := by
  simp only [impl_RestOk.f, iNumOk, Option.bind_some]
  by_cases h0 : m = 0
  · subst h0; rw [if_pos rfl]; congr 1; apply decide_eq_decide.2; unfold okS okN; omega
  · rw [if_neg h0]
    split
    · split
      · split
        · congr 1; apply decide_eq_decide.2; unfold okS; omega
        · congr 1; symm; apply decide_eq_false; unfold okS; omega
      · congr 1; symm; apply decide_eq_false; unfold okS; omega
    · congr 1; symm; apply decide_eq_false; unfold okS; omega

theorem FnExactRestOk (a b : Int) (_ : (Lit.int .i64 a).wf = true) (_ : (Lit.int .i64 b).wf = true) : laws_FnExactRestOk.f a b = some true := by
  simp only [laws_FnExactRestOk.f, laws_toRest.f, sRestOk, iRestOk, Option.bind_some]
  simp

end Go.Proofs.Ytlipfemjlicbbaa.Pure
