/- The pure statement of the law FnExactCmpNot: for every input the printed function answers true. -/
import Derived.Test.YtjkmefkgagfcaaaPFnExactCmpNotx0
import Derived.Test.YtjkmefkgagfcaaaPFnExactCmpNotx1
import Derived.Test.YtjkmefkgagfcaaaLib
namespace Go.Proofs.Ytjkmefkgagfcaaa.Pure
open Go Go.RowKit Go.Proofs.Ytjkmefkgagfcaaa.PFnExactCmpNot Go.Proofs.YtjkmefkgagfcaaaW.PrintWords Go.Proofs.YtjkmefkgagfcaaaW.PrintLast Go.Proofs.YtjkmefkgagfcaaaW.PrintMore Go.Proofs.Ytjkmefkgagfcaaa.Lib
set_option linter.unusedVariables false
set_option linter.unusedSimpArgs false

theorem FnExactCmpNot : laws_FnExactCmpNot.Pure := by
  intro c _
  have e : spec_CmpNot.f c = impl_CmpNot.f c := rfl
  have s : ∃ r, impl_CmpNot.f c = some r := by
    unfold impl_CmpNot.f
    repeat (split; exact ⟨_, rfl⟩)
    exact ⟨_, rfl⟩
  obtain ⟨r, hr⟩ := s
  simp only [laws_FnExactCmpNot.f, e, hr, Option.bind_some]
  simp

end Go.Proofs.Ytjkmefkgagfcaaa.Pure
