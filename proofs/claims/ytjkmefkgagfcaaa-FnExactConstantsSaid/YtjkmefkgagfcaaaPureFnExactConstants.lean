/- The pure statement of the law FnExactConstants: for every input the printed function answers true. -/
import Derived.Test.YtjkmefkgagfcaaaPFnExactConstantsx0
import Derived.Test.YtjkmefkgagfcaaaPFnExactConstantsx1
import Derived.Test.YtjkmefkgagfcaaaLib
namespace Go.Proofs.Ytjkmefkgagfcaaa.Pure
open Go Go.RowKit Go.Proofs.Ytjkmefkgagfcaaa.PFnExactConstants Go.Proofs.YtjkmefkgagfcaaaW.PrintWords Go.Proofs.YtjkmefkgagfcaaaW.PrintLast Go.Proofs.YtjkmefkgagfcaaaW.PrintMore Go.Proofs.Ytjkmefkgagfcaaa.Lib
set_option linter.unusedVariables false
set_option linter.unusedSimpArgs false

theorem FnExactConstants : laws_FnExactConstants.Pure := rfl

end Go.Proofs.Ytjkmefkgagfcaaa.Pure
