/- The pure statement of the law FnExactWordOk: for every input the printed function answers true. -/
import Derived.Test.YtnbpgnkplahknaaPFnExactWordOkx0
import Derived.Test.YtnbpgnkplahknaaPFnExactWordOkx1
import Derived.Test.YtnbpgnkplahknaaLib
namespace Go.Proofs.Ytnbpgnkplahknaa.Pure
open Go Go.RowKit Go.Proofs.Ytnbpgnkplahknaa.PFnExactWordOk Go.Proofs.YtnbpgnkplahknaaW.PrintWords Go.Proofs.YtnbpgnkplahknaaW.PrintLast Go.Proofs.YtnbpgnkplahknaaW.PrintMore Go.Proofs.Ytnbpgnkplahknaa.Lib
set_option linter.unusedVariables false
set_option linter.unusedSimpArgs false

theorem word_step {c : Prop} {ic1 ic2 : Decidable c} {y w : Option Bool} (h : ¬ c → ∃ r, y = some r ∧ w = some r) : ∃ r, (@_root_.ite _ c ic1 (some true) y) = some r ∧ (@_root_.ite _ c ic2 (some true) w) = some r := by
  by_cases hc : c
  · exact ⟨true, by rw [if_pos hc], by rw [if_pos hc]⟩
  · obtain ⟨r, h1, h2⟩ := h hc
    exact ⟨r, by rw [if_neg hc]; exact h1, by rw [if_neg hc]; exact h2⟩
theorem words_same (a : ByteArray) : ∃ r, spec_WordOk.f a = some r ∧ impl_WordOk.f a = some r := by
  unfold spec_WordOk.f impl_WordOk.f
  iterate 16 (refine word_step (fun h => ?_); clear h)
  by_cases h : a.toList = ([110, 117, 108, 108] : List UInt8)
  · exact ⟨true, by rw [h]; rfl, by rw [if_pos h]⟩
  · exact ⟨false, by congr 1; exact beq_eq_false_iff_ne.2 h, by rw [if_neg h]⟩
theorem FnExactWordOk : laws_FnExactWordOk.Pure := by
  intro a _
  obtain ⟨r, h1, h2⟩ := words_same a
  unfold laws_FnExactWordOk.f
  rw [h1, h2]
  simp only [Option.bind_some]
  split
  · rfl
  · simp

end Go.Proofs.Ytnbpgnkplahknaa.Pure
