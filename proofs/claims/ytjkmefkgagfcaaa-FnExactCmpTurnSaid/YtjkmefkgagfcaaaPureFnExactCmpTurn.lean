/- The pure statement of the law FnExactCmpTurn: for every input the printed function answers true. -/
import Derived.Test.YtjkmefkgagfcaaaPFnExactCmpTurnx0
import Derived.Test.YtjkmefkgagfcaaaPFnExactCmpTurnx1
import Derived.Test.YtjkmefkgagfcaaaLib
namespace Go.Proofs.Ytjkmefkgagfcaaa.Pure
open Go Go.RowKit Go.Proofs.Ytjkmefkgagfcaaa.PFnExactCmpTurn Go.Proofs.YtjkmefkgagfcaaaW.PrintWords Go.Proofs.YtjkmefkgagfcaaaW.PrintLast Go.Proofs.YtjkmefkgagfcaaaW.PrintMore Go.Proofs.Ytjkmefkgagfcaaa.Lib
set_option linter.unusedVariables false
set_option linter.unusedSimpArgs false

theorem FnExactCmpTurn : laws_FnExactCmpTurn.Pure := by
  intro a _
  refine ⟨1, ?_⟩
  simp only [laws_FnExactCmpTurn.f, spec_CmpTurn.f, impl_CmpTurn.f, impl_CmpTurn.j0]
  by_cases h1 : a = 1
  · subst h1; rfl
  by_cases h2 : a = 2
  · subst h2; rfl
  by_cases h3 : a = 3
  · subst h3; rfl
  by_cases h4 : a = 4
  · subst h4; rfl
  by_cases h5 : a = 5
  · subst h5; rfl
  by_cases h6 : a = 6
  · subst h6; rfl
  simp [h1, h2, h3, h4, h5, h6]

end Go.Proofs.Ytjkmefkgagfcaaa.Pure
