/- The pure statement of the law FnExactNumOk: for every input the printed function answers true. -/
import Derived.Test.YtjkmefkgagfcaaaPFnExactNumOkx0
import Derived.Test.YtjkmefkgagfcaaaPFnExactNumOkx1
import Derived.Test.YtjkmefkgagfcaaaLib
namespace Go.Proofs.Ytjkmefkgagfcaaa.Pure
open Go Go.RowKit Go.Proofs.Ytjkmefkgagfcaaa.PFnExactNumOk Go.Proofs.YtjkmefkgagfcaaaW.PrintWords Go.Proofs.YtjkmefkgagfcaaaW.PrintLast Go.Proofs.YtjkmefkgagfcaaaW.PrintMore Go.Proofs.Ytjkmefkgagfcaaa.Lib
set_option linter.unusedVariables false
set_option linter.unusedSimpArgs false

theorem FnExactNumOk : laws_FnExactNumOk.Pure := by
  intro a _
  simp only [laws_FnExactNumOk.f, spec_NumOk.f, spec_l1In.f, impl_NumOk.f]
  by_cases h : a ≥ -2147483648 <;> simp [h]

end Go.Proofs.Ytjkmefkgagfcaaa.Pure
