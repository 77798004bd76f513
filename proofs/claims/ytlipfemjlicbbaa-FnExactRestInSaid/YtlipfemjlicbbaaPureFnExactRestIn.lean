/- The pure statement of the law FnExactRestIn: for every input the printed function answers true. -/
import Derived.Test.YtlipfemjlicbbaaPFnExactRestInx0
import Derived.Test.YtlipfemjlicbbaaPFnExactRestInx1
import Derived.Test.YtlipfemjlicbbaaPFnExactRestInx2
import Derived.Test.YtlipfemjlicbbaaPFnExactRestInx3
import Derived.Test.YtlipfemjlicbbaaLib
namespace Go.Proofs.Ytlipfemjlicbbaa.Pure
open Go Go.RowKit Go.Proofs.Ytlipfemjlicbbaa.PFnExactRestIn Go.Proofs.YtlipfemjlicbbaaW.PrintWords Go.Proofs.YtlipfemjlicbbaaW.PrintLast Go.Proofs.YtlipfemjlicbbaaW.PrintMore Go.Proofs.Ytlipfemjlicbbaa.Lib
set_option linter.unusedVariables false
set_option linter.unusedSimpArgs false

def okN (v : Int) : Prop := -2147483648 ≤ v ∧ v ≤ 2147483647
instance (v : Int) : Decidable (okN v) := by unfold okN; exact inferInstance
theorem sNumOk (v : Int) : spec_NumOk.f v = some (decide (okN v)) := by
  simp only [spec_NumOk.f, spec_l1In.f, okN]
  by_cases h : v ≥ -2147483648 <;> simp [h]
theorem iNumOk (v : Int) : impl_NumOk.f v = some (decide (okN v)) := by
  simp only [impl_NumOk.f, okN]
  by_cases h : v ≥ -2147483648 <;> simp [h]

/-! ### rests -/
def okS (m t : Int) : Prop := (m = 0 ∧ okN t) ∨ (1 ≤ m ∧ m ≤ 65536 ∧ 0 ≤ t ∧ t < m)
instance (m t : Int) : Decidable (okS m t) := by unfold okS; exact inferInstance
theorem sIn (v a b : Int) : spec_l1In.f v a b = some (decide (a ≤ v ∧ v ≤ b)) := by
  simp only [spec_l1In.f]
  by_cases h : v ≥ a <;> simp [h]
theorem sRestOk (m t : Int) : spec_RestOk.f m t = some (decide (okS m t)) := by
  simp only [spec_RestOk.f, sNumOk, sIn, Option.bind_some]
  by_cases h0 : m = 0
  · subst h0; rw [if_pos rfl]; congr 1; apply decide_eq_decide.2; unfold okS okN; omega
  · rw [if_neg h0]
    by_cases h1 : 1 ≤ m ∧ m ≤ 65536
    · rw [if_pos (decide_eq_true h1), wrap64_id (by omega) (by omega)]; congr 1; apply decide_eq_decide.2; unfold okS; omega
    · rw [if_neg (by rw [decide_eq_true_iff]; exact h1)]; congr 1; symm; apply decide_eq_false; unfold okS; omega
theorem iRestOk (m t : Int) : impl_RestOk.f m t = some (decide (okS m t)) := by
  simp only [impl_RestOk.f, iNumOk, Option.bind_some]
  by_cases h0 : m = 0
  · subst h0; rw [if_pos rfl]; congr 1; apply decide_eq_decide.2; unfold okS okN; omega
  · rw [if_neg h0]
    split
    · split
      · split
        · congr 1; apply decide_eq_decide.2; unfold okS; omega
        · congr 1; symm; apply decide_eq_false; unfold okS; omega
      · congr 1; symm; apply decide_eq_false; unfold okS; omega
    · congr 1; symm; apply decide_eq_false; unfold okS; omega

theorem sMod {a : Int} (m : Int) (h0 : 0 < m) (h1 : m ≤ 4294967296) : spec_l1Mod.f a m = some (a % m) := by
  simp only [spec_l1Mod.f]
  have e := tmod_up (n := a) (m := m) h0
  have b := tmod_bounds (n := a) (m := m) h0
  rw [if_neg (by omega)]
  by_cases hn : a.tmod m < 0
  · rw [if_pos hn] at e ⊢
    rw [wrap64_id (by omega) (by omega), e]
  · rw [if_neg hn] at e ⊢
    rw [e]
theorem iMod {a : Int} (m : Int) (h0 : 0 < m) (h1 : m ≤ 4294967296) : impl_restMod.f a m = some (a % m) := by
  simp only [impl_restMod.f]
  have e := tmod_up (n := a) (m := m) h0
  have b := tmod_bounds (n := a) (m := m) h0
  rw [if_neg (by omega)]
  by_cases hn : a.tmod m < 0
  · rw [if_pos hn] at e ⊢
    rw [wrap64_id (by omega) (by omega), e]
  · rw [if_neg hn] at e ⊢
    rw [e]

theorem okS_pos {m t : Int} (h : okS m t) (h0 : m ≠ 0) : 1 ≤ m ∧ m ≤ 65536 ∧ 0 ≤ t ∧ t < m := by unfold okS at h; omega

def inS (m t m2 t2 : Int) : Prop := okS m t ∧ okS m2 t2 ∧ ((m2 = 0 ∧ m = m2 ∧ t = t2) ∨ (m2 ≠ 0 ∧ m.tmod m2 = 0 ∧ t % m2 = t2))
instance (m t m2 t2 : Int) : Decidable (inS m t m2 t2) := by unfold inS; exact inferInstance
theorem sRestIn (m t m2 t2 : Int) : W (fun k => spec_RestIn.f k m t m2 t2) (· = decide (inS m t m2 t2)) := by
  unfold spec_RestIn.f
  simp only [sRestOk, Option.bind_some]
  have bad : ¬ okS m t ∨ ¬ okS m2 t2 → W (fun k => spec_RestIn.j0 k true m t m2 t2) (· = decide (inS m t m2 t2)) := by
    intro hb
    refine W.step (fun k => by simp only [spec_RestIn.j0]; rfl) ?_
    (try refine W.pos (by trivial) ?_)
    exact W.ret (by symm; apply decide_eq_false; unfold inS; intro hc; exact hb.elim (fun h => h hc.1) (fun h => h hc.2.1))
  refine W.dec (fun h1 => ?_) (fun h1 => bad (.inl h1))
  by_cases h3 : okS m2 t2
  · rw [ndt h3]
    refine W.step (fun k => by simp only [spec_RestIn.j0]; rfl) ?_
    (try refine W.neg (by decide) ?_)
    refine W.ite (fun h4 => W.ret ?_) (fun h4 => ?_)
    · subst h4; rw [Bool.eq_iff_iff, decide_eq_true_iff]; unfold inS; simp [h1, h3]
    · have o := okS_pos h3 h4
      (try refine W.neg h4 ?_)
      refine W.ite (fun h5 => ?_) (fun h5 => W.ret ?_)
      · refine W.bind (W.const (sMod m2 (by omega) (by omega)) rfl) ?_
        rintro _ rfl
        refine W.ret ?_
        rw [Bool.eq_iff_iff, decide_eq_true_iff]; unfold inS; simp [h1, h3, h4, h5]
      · symm; apply decide_eq_false; unfold inS; simp [h4, h5]
  · rw [ndf h3]; exact bad (.inr h3)
theorem iRestIn (m t m2 t2 : Int) : W (fun k => impl_RestIn.f k m t m2 t2) (· = decide (inS m t m2 t2)) := by
  unfold impl_RestIn.f
  simp only [iRestOk, Option.bind_some]
  have bad : ¬ okS m t ∨ ¬ okS m2 t2 → W (fun k => impl_RestIn.j0 k true m t m2 t2) (· = decide (inS m t m2 t2)) := by
    intro hb
    refine W.step (fun k => by simp only [impl_RestIn.j0]; rfl) ?_
    (try refine W.pos (by trivial) ?_)
    exact W.ret (by symm; apply decide_eq_false; unfold inS; intro hc; exact hb.elim (fun h => h hc.1) (fun h => h hc.2.1))
  refine W.dec (fun h1 => ?_) (fun h1 => bad (.inl h1))
  by_cases h3 : okS m2 t2
  · rw [ndt h3]
    refine W.step (fun k => by simp only [impl_RestIn.j0]; rfl) ?_
    (try refine W.neg (by decide) ?_)
    refine W.ite (fun h4 => W.ret ?_) (fun h4 => ?_)
    · subst h4; rw [Bool.eq_iff_iff, decide_eq_true_iff]; unfold inS; simp [h1, h3]
    · have o := okS_pos h3 h4
      (try refine W.neg h4 ?_)
      refine W.ite (fun h5 => ?_) (fun h5 => W.ret ?_)
      · refine W.bind (W.const (iMod m2 (by omega) (by omega)) rfl) ?_
        rintro _ rfl
        refine W.ret ?_
        rw [Bool.eq_iff_iff, decide_eq_true_iff]; unfold inS; simp [h1, h3, h4, h5]
      · symm; apply decide_eq_false; unfold inS; simp [h4, h5]
  · rw [ndf h3]; exact bad (.inr h3)

theorem FnExactRestIn (a b c d : Int) (_ : (Lit.int .i64 a).wf = true) (_ : (Lit.int .i64 b).wf = true) (_ : (Lit.int .i64 c).wf = true) (_ : (Lit.int .i64 d).wf = true) : ∃ k, laws_FnExactRestIn.f k a b c d = some true := by
  apply W.eq
  unfold laws_FnExactRestIn.f
  simp only [laws_toRest.f, Option.bind_some]
  refine W.bind (sRestIn a b c d) ?_
  rintro _ rfl
  refine W.bind (iRestIn a b c d) ?_
  rintro _ rfl
  exact W.neg (by simp) (W.ret rfl)

end Go.Proofs.Ytlipfemjlicbbaa.Pure
