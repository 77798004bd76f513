/- The pure statement of the law FnExactNumCmp: for every input the printed function answers true. -/
import Derived.Test.YtjkmefkgagfcaaaPFnExactNumCmpx0
import Derived.Test.YtjkmefkgagfcaaaPFnExactNumCmpx1
import Derived.Test.YtjkmefkgagfcaaaLib
namespace Go.Proofs.Ytjkmefkgagfcaaa.Pure
open Go Go.RowKit Go.Proofs.Ytjkmefkgagfcaaa.PFnExactNumCmp Go.Proofs.YtjkmefkgagfcaaaW.PrintWords Go.Proofs.YtjkmefkgagfcaaaW.PrintLast Go.Proofs.YtjkmefkgagfcaaaW.PrintMore Go.Proofs.Ytjkmefkgagfcaaa.Lib
set_option linter.unusedVariables false
set_option linter.unusedSimpArgs false

theorem FnExactNumCmp : laws_FnExactNumCmp.Pure := by
  intro c a b _ _ _
  have e : spec_NumCmp.f c a b = impl_NumCmp.f c a b := rfl
  have s : ∃ r, impl_NumCmp.f c a b = some r := by
    unfold impl_NumCmp.f
    repeat (split; exact ⟨_, rfl⟩)
    exact ⟨_, rfl⟩
  obtain ⟨r, hr⟩ := s
  simp only [laws_FnExactNumCmp.f, e, hr, Option.bind_some]
  simp

end Go.Proofs.Ytjkmefkgagfcaaa.Pure
