/- The pure statement of the law FnExactNumWrap: for every input the printed function answers true. -/
import Derived.Test.YtjkmefkgagfcaaaPFnExactNumWrapx0
import Derived.Test.YtjkmefkgagfcaaaPFnExactNumWrapx1
import Derived.Test.YtjkmefkgagfcaaaLib
namespace Go.Proofs.Ytjkmefkgagfcaaa.Pure
open Go Go.RowKit Go.Proofs.Ytjkmefkgagfcaaa.PFnExactNumWrap Go.Proofs.YtjkmefkgagfcaaaW.PrintWords Go.Proofs.YtjkmefkgagfcaaaW.PrintLast Go.Proofs.YtjkmefkgagfcaaaW.PrintMore Go.Proofs.Ytjkmefkgagfcaaa.Lib
set_option linter.unusedVariables false
set_option linter.unusedSimpArgs false

theorem FnExactNumWrap : laws_FnExactNumWrap.Pure := by
  intro a h
  have ha := i64_wf h
  simp only [laws_FnExactNumWrap.f, spec_NumWrap.f, spec_l1Mod.f, impl_NumWrap.f]
  have e := tmod_up (n := a) (m := 4294967296) (by omega)
  have b := tmod_bounds (n := a) (m := 4294967296) (by omega)
  rw [if_neg (by omega)]
  by_cases hn : a.tmod 4294967296 < 0
  · rw [if_pos hn] at e ⊢
    rw [wrap64_id (by omega) (by omega), e]
    simp only [Option.bind_some]
    by_cases hm : a % 4294967296 > 2147483647
    · rw [if_pos hm]
      simp only [Option.bind_some]
      rw [if_pos (by unfold wrap64 wrap32; omega)]
    · rw [if_neg hm]
      simp only [Option.bind_some]
      rw [if_pos (by unfold wrap64 wrap32; omega)]
  · rw [if_neg hn] at e ⊢
    rw [e]
    simp only [Option.bind_some]
    by_cases hm : a % 4294967296 > 2147483647
    · rw [if_pos hm]
      simp only [Option.bind_some]
      rw [if_pos (by unfold wrap64 wrap32; omega)]
    · rw [if_neg hm]
      simp only [Option.bind_some]
      rw [if_pos (by unfold wrap64 wrap32; omega)]

end Go.Proofs.Ytjkmefkgagfcaaa.Pure
