/- The pure statement of the law FnExactValIn: for every input the printed function answers true. -/
import Derived.Test.YtnmccgjdnceheaaPFnExactValInx0
import Derived.Test.YtnmccgjdnceheaaPFnExactValInx1
import Derived.Test.YtnmccgjdnceheaaPFnExactValInx10
import Derived.Test.YtnmccgjdnceheaaPFnExactValInx11
import Derived.Test.YtnmccgjdnceheaaPFnExactValInx12
import Derived.Test.YtnmccgjdnceheaaPFnExactValInx13
import Derived.Test.YtnmccgjdnceheaaPFnExactValInx14
import Derived.Test.YtnmccgjdnceheaaPFnExactValInx2
import Derived.Test.YtnmccgjdnceheaaPFnExactValInx3
import Derived.Test.YtnmccgjdnceheaaPFnExactValInx4
import Derived.Test.YtnmccgjdnceheaaPFnExactValInx5
import Derived.Test.YtnmccgjdnceheaaPFnExactValInx6
import Derived.Test.YtnmccgjdnceheaaPFnExactValInx7
import Derived.Test.YtnmccgjdnceheaaPFnExactValInx8
import Derived.Test.YtnmccgjdnceheaaPFnExactValInx9
import Derived.Test.YtnmccgjdnceheaaLib
namespace Go.Proofs.Ytnmccgjdnceheaa.Pure
open Go Go.RowKit Go.Proofs.Ytnmccgjdnceheaa.PFnExactValIn Go.Proofs.YtnmccgjdnceheaaW.PrintWords Go.Proofs.YtnmccgjdnceheaaW.PrintLast Go.Proofs.YtnmccgjdnceheaaW.PrintMore Go.Proofs.Ytnmccgjdnceheaa.Lib
set_option linter.unusedVariables false
set_option linter.unusedSimpArgs false

def okN (v : Int) : Prop := -2147483648 ≤ v ∧ v ≤ 2147483647
instance (v : Int) : Decidable (okN v) := by unfold okN; exact inferInstance
theorem sNumOk (v : Int) : spec_NumOk.f v = some (decide (okN v)) := by
  simp only [spec_NumOk.f, spec_l1In.f, okN]
  by_cases h : v ≥ -2147483648 <;> simp [h]
theorem iNumOk (v : Int) : impl_NumOk.f v = some (decide (okN v)) := by
  simp only [impl_NumOk.f, okN]
  by_cases h : v ≥ -2147483648 <;> simp [h]

/-! ### ranges: whether they are as they must be -/
def okR (l h : Int) : Prop := (l = 1 ∧ h = 0) ∨ (-2147483648 ≤ l ∧ l ≤ h ∧ h ≤ 2147483647)
instance (l h : Int) : Decidable (okR l h) := by unfold okR; exact inferInstance
theorem sRangeOk (l h : Int) : spec_RangeOk.f l h = some (decide (okR l h)) := by
  simp only [spec_RangeOk.f, spec_l8None.f, sNumOk, Option.bind_some]
  by_cases h1 : l = 1 ∧ h = 0
  · obtain ⟨rfl, rfl⟩ := h1; rfl
  · have : (l == 1 && h == 0) = false := by simpa using h1
    rw [this]; simp only [Bool.false_eq_true, if_false, okR, okN]
    by_cases h2 : -2147483648 ≤ l ∧ l ≤ 2147483647
    · by_cases h3 : -2147483648 ≤ h ∧ h ≤ 2147483647
      · simp only [h2, h3, and_self, true_and, and_true, decide_true, if_true]; congr 1; apply decide_eq_decide.2; omega
      · simp only [h2, h3, and_self, decide_true, decide_false, if_true, Bool.false_eq_true, if_false]; congr 1; symm; apply decide_eq_false; omega
    · simp only [h2, decide_false, Bool.false_eq_true, if_false]; congr 1; symm; apply decide_eq_false; omega
theorem iRangeOk (l h : Int) : impl_RangeOk.f l h = some (decide (okR l h)) := by
  simp only [impl_RangeOk.f, impl_rangeNone.f, iNumOk, Option.bind_some]
  by_cases h1 : l = 1 ∧ h = 0
  · obtain ⟨rfl, rfl⟩ := h1; rfl
  · have : (l == 1 && h == 0) = false := by simpa using h1
    rw [this]; simp only [Bool.false_eq_true, if_false, okR, okN]
    by_cases h2 : -2147483648 ≤ l ∧ l ≤ 2147483647
    · by_cases h3 : -2147483648 ≤ h ∧ h ≤ 2147483647
      · simp only [h2, h3, and_self, true_and, and_true, decide_true, if_true]; congr 1; apply decide_eq_decide.2; omega
      · simp only [h2, h3, and_self, decide_true, decide_false, if_true, Bool.false_eq_true, if_false]; congr 1; symm; apply decide_eq_false; omega
    · simp only [h2, decide_false, Bool.false_eq_true, if_false]; congr 1; symm; apply decide_eq_false; omega

/-! ### ranges: cut, joined, met -/
def cut (l h : Int) : Int × Int := if mx l (-2147483648) > mn h 2147483647 then (1, 0) else (mx l (-2147483648), mn h 2147483647)
def isNone (l h : Int) : Prop := l = 1 ∧ h = 0
instance (l h : Int) : Decidable (isNone l h) := by unfold isNone; exact inferInstance
theorem okR_gt {l h : Int} (o : okR l h) : l > h ↔ isNone l h := by unfold okR at o; unfold isNone; omega
theorem bIsNone (l h : Int) : (l == 1 && h == 0) = decide (isNone l h) := by
  rw [Bool.eq_iff_iff, decide_eq_true_iff]; unfold isNone; simp

theorem sRangeHas (l h v : Int) : spec_RangeHas.f l h v = some (decide (okR l h ∧ l ≤ v ∧ v ≤ h)) := by
  simp only [spec_RangeHas.f, spec_l1In.f, sRangeOk, Option.bind_some]
  by_cases h1 : okR l h
  · by_cases h2 : l ≤ v
    · simp [h1, h2]
    · simp [h1, h2]
  · simp [h1]
theorem iRangeHas (l h v : Int) : impl_RangeHas.f l h v = some (decide (okR l h ∧ l ≤ v ∧ v ≤ h)) := by
  simp only [impl_RangeHas.f, iRangeOk, Option.bind_some]
  by_cases h1 : okR l h
  · by_cases h2 : l ≤ v
    · simp [h1, h2]
    · simp [h1, h2]
  · simp [h1]

/-! ### rests -/
def okS (m t : Int) : Prop := (m = 0 ∧ okN t) ∨ (1 ≤ m ∧ m ≤ 65536 ∧ 0 ≤ t ∧ t < m)
instance (m t : Int) : Decidable (okS m t) := by unfold okS; exact inferInstance
theorem sIn (v a b : Int) : spec_l1In.f v a b = some (decide (a ≤ v ∧ v ≤ b)) := by
  simp only [spec_l1In.f]
  by_cases h : v ≥ a <;> simp [h]
theorem sRestOk (m t : Int) : spec_RestOk.f m t = some (decide (okS m t)) := by
  simp only [spec_RestOk.f, sNumOk, sIn, Option.bind_some]
  by_cases h0 : m = 0
  · subst h0; rw [if_pos rfl]; congr 1; apply decide_eq_decide.2; unfold okS okN; omega
  · rw [if_neg h0]
    by_cases h1 : 1 ≤ m ∧ m ≤ 65536
    · rw [if_pos (decide_eq_true h1), wrap64_id (by omega) (by omega)]; congr 1; apply decide_eq_decide.2; unfold okS; omega
    · rw [if_neg (by rw [decide_eq_true_iff]; exact h1)]; congr 1; symm; apply decide_eq_false; unfold okS; omega
theorem iRestOk (m t : Int) : impl_RestOk.f m t = some (decide (okS m t)) := by
  simp only [impl_RestOk.f, iNumOk, Option.bind_some]
  by_cases h0 : m = 0
  · subst h0; rw [if_pos rfl]; congr 1; apply decide_eq_decide.2; unfold okS okN; omega
  · rw [if_neg h0]
    split
    · split
      · split
        · congr 1; apply decide_eq_decide.2; unfold okS; omega
        · congr 1; symm; apply decide_eq_false; unfold okS; omega
      · congr 1; symm; apply decide_eq_false; unfold okS; omega
    · congr 1; symm; apply decide_eq_false; unfold okS; omega

theorem sMod {a : Int} (m : Int) (h0 : 0 < m) (h1 : m ≤ 4294967296) : spec_l1Mod.f a m = some (a % m) := by
  simp only [spec_l1Mod.f]
  have e := tmod_up (n := a) (m := m) h0
  have b := tmod_bounds (n := a) (m := m) h0
  rw [if_neg (by omega)]
  by_cases hn : a.tmod m < 0
  · rw [if_pos hn] at e ⊢
    rw [wrap64_id (by omega) (by omega), e]
  · rw [if_neg hn] at e ⊢
    rw [e]
theorem iMod {a : Int} (m : Int) (h0 : 0 < m) (h1 : m ≤ 4294967296) : impl_restMod.f a m = some (a % m) := by
  simp only [impl_restMod.f]
  have e := tmod_up (n := a) (m := m) h0
  have b := tmod_bounds (n := a) (m := m) h0
  rw [if_neg (by omega)]
  by_cases hn : a.tmod m < 0
  · rw [if_pos hn] at e ⊢
    rw [wrap64_id (by omega) (by omega), e]
  · rw [if_neg hn] at e ⊢
    rw [e]

theorem okS_pos {m t : Int} (h : okS m t) (h0 : m ≠ 0) : 1 ≤ m ∧ m ≤ 65536 ∧ 0 ≤ t ∧ t < m := by unfold okS at h; omega

/-! ### vals -/
def mkV (l h m t : Int) : Int × Int × Int × Int :=
  if ¬ okR l h ∨ ¬ okS m t ∨ isNone l h then (1, 0, 0, 0)
  else if m = 0 then (if l ≤ t ∧ t ≤ h then (t, t, 0, t) else (1, 0, 0, 0))
  else if l + (t - l) % m > h - (h - t) % m then (1, 0, 0, 0)
  else if l + (t - l) % m = h - (h - t) % m then (l + (t - l) % m, l + (t - l) % m, 0, l + (t - l) % m)
  else (l + (t - l) % m, h - (h - t) % m, m, t)
theorem sValMake (l h m t : Int) : W (fun k => spec_ValMake.f k l h m t) (· = mkV l h m t) := by
  unfold spec_ValMake.f
  simp only [sRangeOk, sRestOk, spec_l8None.f, Option.bind_some, bIsNone]
  have bad : ¬ okR l h ∨ ¬ okS m t ∨ isNone l h → W (fun k => spec_ValMake.j0 k true l h m t) (· = mkV l h m t) := by
    intro hb
    refine W.step (fun k => by simp only [spec_ValMake.j0, spec_l10None.f, Option.bind_some]; rfl) ?_
    (try refine W.pos (by trivial) ?_)
    exact W.ret (by unfold mkV; rw [if_pos hb])
  refine W.dec (fun h1 => W.dec (fun h2 => ?_) (fun h2 => bad (.inr (.inl h2)))) (fun h1 => bad (.inl h1))
  by_cases h3 : isNone l h
  · rw [decide_eq_true h3]; exact bad (.inr (.inr h3))
  · rw [decide_eq_false h3]
    have hk : ¬ (¬ okR l h ∨ ¬ okS m t ∨ isNone l h) := by simp [h1, h2, h3]
    unfold mkV
    rw [if_neg hk]
    refine W.step (fun k => by simp only [spec_ValMake.j0, spec_l10None.f, spec_l10One.f, sRangeHas, Option.bind_some]; rfl) ?_
    (try refine W.neg (by decide) ?_)
    refine W.ite (fun h4 => ?_) (fun h4 => ?_)
    · rw [if_pos h4]
      refine W.dec (fun h5 => W.ret (by rw [if_pos h5.2])) (fun h5 => W.ret (by rw [if_neg (fun hc => h5 ⟨h1, hc⟩)]))
    · rw [if_neg h4]
      have o := okS_pos h2 h4
      have r : -2147483648 ≤ l ∧ l ≤ h ∧ h ≤ 2147483647 := by unfold okR at h1; unfold isNone at h3; omega
      have e1 := Int.emod_nonneg (t - l) (show m ≠ 0 by omega); have e2 := Int.emod_lt_of_pos (t - l) (show 0 < m by omega)
      have e3 := Int.emod_nonneg (h - t) (show m ≠ 0 by omega); have e4 := Int.emod_lt_of_pos (h - t) (show 0 < m by omega)
      rw [wrap64_id (n := t - l) (by omega) (by omega), wrap64_id (n := h - t) (by omega) (by omega), sMod m (by omega) (by omega), sMod m (by omega) (by omega)]
      simp only [Option.bind_some]
      rw [wrap64_id (n := l + (t - l) % m) (by omega) (by omega), wrap64_id (n := h - (h - t) % m) (by omega) (by omega)]
      refine W.ite (fun h5 => W.ret (by rw [if_pos h5])) (fun h5 => ?_)
      rw [if_neg h5]
      exact W.ite (fun h6 => W.ret (by rw [if_pos h6])) (fun h6 => W.ret (by rw [if_neg h6]))
theorem iValMake (l h m t : Int) : W (fun k => impl_ValMake.f k l h m t) (· = mkV l h m t) := by
  unfold impl_ValMake.f
  simp only [iRangeOk, iRestOk, impl_Range_empty.f, Option.bind_some]
  have bad : ¬ okR l h ∨ ¬ okS m t ∨ isNone l h → W (fun k => impl_ValMake.j0 k true l h m t) (· = mkV l h m t) := by
    intro hb
    refine W.step (fun k => by simp only [impl_ValMake.j0, impl_valNone.f, Option.bind_some]; rfl) ?_
    (try refine W.pos (by trivial) ?_)
    exact W.ret (by unfold mkV; rw [if_pos hb])
  refine W.dec (fun h1 => W.dec (fun h2 => ?_) (fun h2 => bad (.inr (.inl h2)))) (fun h1 => bad (.inl h1))
  by_cases h3 : l > h
  · rw [decide_eq_true h3]; exact bad (.inr (.inr ((okR_gt h1).1 h3)))
  · rw [decide_eq_false h3]
    have h3' : ¬ isNone l h := fun hc => h3 ((okR_gt h1).2 hc)
    have hk : ¬ (¬ okR l h ∨ ¬ okS m t ∨ isNone l h) := by simp [h1, h2, h3']
    unfold mkV
    rw [if_neg hk]
    refine W.step (fun k => by simp only [impl_ValMake.j0, impl_valNone.f, impl_valOne.f, iRangeHas, Option.bind_some]; rfl) ?_
    (try refine W.neg (by decide) ?_)
    refine W.ite (fun h4 => ?_) (fun h4 => ?_)
    · rw [if_pos h4]
      refine W.dec (fun h5 => W.ret (by rw [if_pos h5.2])) (fun h5 => W.ret (by rw [if_neg (fun hc => h5 ⟨h1, hc⟩)]))
    · rw [if_neg h4]
      have o := okS_pos h2 h4
      have r : -2147483648 ≤ l ∧ l ≤ h ∧ h ≤ 2147483647 := by unfold okR at h1; unfold isNone at h3'; omega
      have e1 := Int.emod_nonneg (t - l) (show m ≠ 0 by omega); have e2 := Int.emod_lt_of_pos (t - l) (show 0 < m by omega)
      have e3 := Int.emod_nonneg (h - t) (show m ≠ 0 by omega); have e4 := Int.emod_lt_of_pos (h - t) (show 0 < m by omega)
      rw [wrap64_id (n := t - l) (by omega) (by omega), wrap64_id (n := h - t) (by omega) (by omega), iMod m (by omega) (by omega), iMod m (by omega) (by omega)]
      simp only [Option.bind_some]
      rw [wrap64_id (n := l + (t - l) % m) (by omega) (by omega), wrap64_id (n := h - (h - t) % m) (by omega) (by omega)]
      refine W.ite (fun h5 => W.ret (by rw [if_pos h5])) (fun h5 => ?_)
      rw [if_neg h5]
      exact W.ite (fun h6 => W.ret (by rw [if_pos h6])) (fun h6 => W.ret (by rw [if_neg h6]))

def isNV (l h m t : Int) : Prop := l = 1 ∧ h = 0 ∧ m = 0 ∧ t = 0
instance (l h m t : Int) : Decidable (isNV l h m t) := by unfold isNV; exact inferInstance
theorem bNV (l h m t : Int) : (l == 1 && (h == 0 && (m == 0 && (t == 0)))) = decide (isNV l h m t) := by
  rw [Bool.eq_iff_iff, decide_eq_true_iff]; unfold isNV; simp
def okV (l h m t : Int) : Prop := (l, h, m, t) = mkV l h m t
instance (l h m t : Int) : Decidable (okV l h m t) := by unfold okV; exact inferInstance
theorem bEq4 (l h m t : Int) (x : Int × Int × Int × Int) : (l == x.1 && (h == x.2.1 && (m == x.2.2.1 && (t == x.2.2.2)))) = decide ((l, h, m, t) = x) := by
  obtain ⟨a, b, c, d⟩ := x
  rw [Bool.eq_iff_iff, decide_eq_true_iff]; simp
theorem okV_none {l h m t : Int} (hn : isNV l h m t) : okV l h m t := by
  obtain ⟨rfl, rfl, rfl, rfl⟩ := hn
  unfold okV mkV
  rw [if_pos (.inr (.inr ⟨rfl, rfl⟩))]
theorem okV_some {l h m t : Int} (ho : okV l h m t) (hn : ¬ isNV l h m t) : okR l h ∧ okS m t ∧ ¬ isNone l h := by
  unfold okV at ho
  refine Decidable.byContradiction fun hc => hn ?_
  have hk : ¬ okR l h ∨ ¬ okS m t ∨ isNone l h := by
    by_cases h1 : okR l h
    · by_cases h2 : okS m t
      · by_cases h3 : isNone l h
        · exact .inr (.inr h3)
        · exact absurd ⟨h1, h2, h3⟩ hc
      · exact .inr (.inl h2)
    · exact .inl h1
  unfold mkV at ho
  rw [if_pos hk] at ho
  simp only [Prod.mk.injEq] at ho
  exact ho
theorem okV_okR {l h m t : Int} (ho : okV l h m t) : okR l h := by
  by_cases hn : isNV l h m t
  · exact .inl ⟨hn.1, hn.2.1⟩
  · exact (okV_some ho hn).1
theorem isNV_iff {l h m t : Int} (ho : okV l h m t) : isNV l h m t ↔ isNone l h := by
  constructor
  · exact fun hn => ⟨hn.1, hn.2.1⟩
  · exact fun hc => Decidable.byContradiction fun hn => (okV_some ho hn).2.2 hc
theorem iValOk (l h m t : Int) : W (fun k => impl_ValOk.f k l h m t) (· = decide (okV l h m t)) := by
  unfold impl_ValOk.f
  simp only [impl_Val_span.f, impl_Val_rest.f, Option.bind_some]
  refine W.bind (iValMake l h m t) ?_
  rintro _ rfl
  exact W.ret (by rw [bEq4]; rfl)
theorem sValOk (l h m t : Int) : W (fun k => spec_ValOk.f k l h m t) (· = decide (okV l h m t)) := by
  unfold spec_ValOk.f
  simp only [spec_l10None.f, spec_l10Range.f, spec_l10Rest.f, sRangeOk, sRestOk, Option.bind_some, bNV]
  refine W.dec (fun h1 => W.ret (by symm; exact decide_eq_true (okV_none h1))) (fun h1 => ?_)
  refine W.dec (fun h2 => W.dec (fun h3 => ?_) (fun h3 => W.ret ?_)) (fun h2 => W.ret ?_)
  · refine W.bind (sValMake l h m t) ?_
    rintro _ rfl
    exact W.ret (by rw [bEq4]; rfl)
  · symm; exact decide_eq_false fun ho => h3 (okV_some ho h1).2.1
  · symm; exact decide_eq_false fun ho => h2 (okV_some ho h1).1

theorem sRangeIn (l h l2 h2 : Int) : spec_RangeIn.f l h l2 h2 = some (decide (okR l h ∧ okR l2 h2 ∧ ((l = 1 ∧ h = 0) ∨ (l2 ≤ l ∧ h ≤ h2)))) := by
  simp only [spec_RangeIn.f, spec_l8None.f, sRangeOk, Option.bind_some]
  by_cases h1 : okR l h
  · by_cases h3 : okR l2 h2
    · by_cases h4 : l = 1 ∧ h = 0
      · obtain ⟨rfl, rfl⟩ := h4; simp [h1, h3]
      · have : (l == 1 && h == 0) = false := by simpa using h4
        simp only [this, h1, h3, h4, decide_true, true_and, false_or, if_true, Bool.false_eq_true, if_false]
        by_cases h5 : l2 ≤ l <;> simp [h5]
    · simp [h1, h3]
  · simp [h1]
theorem iRangeIn (l h l2 h2 : Int) : impl_RangeIn.f l h l2 h2 = some (decide (okR l h ∧ okR l2 h2 ∧ ((l = 1 ∧ h = 0) ∨ (l2 ≤ l ∧ h ≤ h2)))) := by
  simp only [impl_RangeIn.f, impl_Range_empty.f, iRangeOk, Option.bind_some]
  by_cases h1 : okR l h
  · by_cases h3 : okR l2 h2
    · by_cases h4 : l = 1 ∧ h = 0
      · obtain ⟨rfl, rfl⟩ := h4; simp [h1, h3]
      · have : ¬ l > h := by unfold okR at h1; omega
        simp only [this, h1, h3, h4, decide_true, decide_false, true_and, false_or, if_true, Bool.false_eq_true, if_false]
        by_cases h5 : l2 ≤ l <;> simp [h5]
    · simp [h1, h3]
  · simp [h1]

def inS (m t m2 t2 : Int) : Prop := okS m t ∧ okS m2 t2 ∧ ((m2 = 0 ∧ m = m2 ∧ t = t2) ∨ (m2 ≠ 0 ∧ m.tmod m2 = 0 ∧ t % m2 = t2))
instance (m t m2 t2 : Int) : Decidable (inS m t m2 t2) := by unfold inS; exact inferInstance
theorem sRestIn (m t m2 t2 : Int) : W (fun k => spec_RestIn.f k m t m2 t2) (· = decide (inS m t m2 t2)) := by
  unfold spec_RestIn.f
  simp only [sRestOk, Option.bind_some]
  have bad : ¬ okS m t ∨ ¬ okS m2 t2 → W (fun k => spec_RestIn.j0 k true m t m2 t2) (· = decide (inS m t m2 t2)) := by
    intro hb
    refine W.step (fun k => by simp only [spec_RestIn.j0]; rfl) ?_
    (try refine W.pos (by trivial) ?_)
    exact W.ret (by symm; apply decide_eq_false; unfold inS; intro hc; exact hb.elim (fun h => h hc.1) (fun h => h hc.2.1))
  refine W.dec (fun h1 => ?_) (fun h1 => bad (.inl h1))
  by_cases h3 : okS m2 t2
  · rw [ndt h3]
    refine W.step (fun k => by simp only [spec_RestIn.j0]; rfl) ?_
    (try refine W.neg (by decide) ?_)
    refine W.ite (fun h4 => W.ret ?_) (fun h4 => ?_)
    · subst h4; rw [Bool.eq_iff_iff, decide_eq_true_iff]; unfold inS; simp [h1, h3]
    · have o := okS_pos h3 h4
      (try refine W.neg h4 ?_)
      refine W.ite (fun h5 => ?_) (fun h5 => W.ret ?_)
      · refine W.bind (W.const (sMod m2 (by omega) (by omega)) rfl) ?_
        rintro _ rfl
        refine W.ret ?_
        rw [Bool.eq_iff_iff, decide_eq_true_iff]; unfold inS; simp [h1, h3, h4, h5]
      · symm; apply decide_eq_false; unfold inS; simp [h4, h5]
  · rw [ndf h3]; exact bad (.inr h3)
theorem iRestIn (m t m2 t2 : Int) : W (fun k => impl_RestIn.f k m t m2 t2) (· = decide (inS m t m2 t2)) := by
  unfold impl_RestIn.f
  simp only [iRestOk, Option.bind_some]
  have bad : ¬ okS m t ∨ ¬ okS m2 t2 → W (fun k => impl_RestIn.j0 k true m t m2 t2) (· = decide (inS m t m2 t2)) := by
    intro hb
    refine W.step (fun k => by simp only [impl_RestIn.j0]; rfl) ?_
    (try refine W.pos (by trivial) ?_)
    exact W.ret (by symm; apply decide_eq_false; unfold inS; intro hc; exact hb.elim (fun h => h hc.1) (fun h => h hc.2.1))
  refine W.dec (fun h1 => ?_) (fun h1 => bad (.inl h1))
  by_cases h3 : okS m2 t2
  · rw [ndt h3]
    refine W.step (fun k => by simp only [impl_RestIn.j0]; rfl) ?_
    (try refine W.neg (by decide) ?_)
    refine W.ite (fun h4 => W.ret ?_) (fun h4 => ?_)
    · subst h4; rw [Bool.eq_iff_iff, decide_eq_true_iff]; unfold inS; simp [h1, h3]
    · have o := okS_pos h3 h4
      (try refine W.neg h4 ?_)
      refine W.ite (fun h5 => ?_) (fun h5 => W.ret ?_)
      · refine W.bind (W.const (iMod m2 (by omega) (by omega)) rfl) ?_
        rintro _ rfl
        refine W.ret ?_
        rw [Bool.eq_iff_iff, decide_eq_true_iff]; unfold inS; simp [h1, h3, h4, h5]
      · symm; apply decide_eq_false; unfold inS; simp [h4, h5]
  · rw [ndf h3]; exact bad (.inr h3)

theorem iVal_none (l h m t : Int) : impl_Val_none.f l h m t = some (decide (isNV l h m t)) := by
  simp only [impl_Val_none.f, impl_valNone.f, Option.bind_some, bNV]

def inV (l h m t l2 h2 m2 t2 : Int) : Prop := okV l h m t ∧ okV l2 h2 m2 t2 ∧ (isNV l h m t ∨ (¬ isNV l2 h2 m2 t2 ∧ (okR l h ∧ okR l2 h2 ∧ ((l = 1 ∧ h = 0) ∨ (l2 ≤ l ∧ h ≤ h2))) ∧ inS m t m2 t2))
instance (l h m t l2 h2 m2 t2 : Int) : Decidable (inV l h m t l2 h2 m2 t2) := by unfold inV; exact inferInstance
theorem bNV' (l h m t : Int) : (!(l == 1) || (!(h == 0) || (!(m == 0) || (!(t == 0))))) = decide (¬ isNV l h m t) := by
  rw [Bool.eq_iff_iff, decide_eq_true_iff]; unfold isNV; simp; omega
theorem iValIn (l h m t l2 h2 m2 t2 : Int) : W (fun k => impl_ValIn.f k l h m t l2 h2 m2 t2) (· = decide (inV l h m t l2 h2 m2 t2)) := by
  unfold impl_ValIn.f
  have bad : ¬ okV l h m t ∨ ¬ okV l2 h2 m2 t2 → W (fun k => impl_ValIn.j0 k true l h m t l2 h2 m2 t2) (· = decide (inV l h m t l2 h2 m2 t2)) := by
    intro hb
    refine W.step (fun k => by simp only [impl_ValIn.j0]; rfl) ?_
    (try refine W.pos (by trivial) ?_)
    exact W.ret (by symm; exact decide_eq_false fun hc => hb.elim (fun h => h hc.1) (fun h => h hc.2.1))
  refine W.bind (iValOk l h m t) ?_
  rintro _ rfl
  refine W.dec (fun h1 => ?_) (fun h1 => bad (.inl h1))
  refine W.bind (iValOk l2 h2 m2 t2) ?_
  rintro _ rfl
  by_cases h3 : okV l2 h2 m2 t2
  · rw [ndt h3]
    refine W.step (fun k => by simp only [impl_ValIn.j0, iVal_none, impl_Val_span.f, impl_Val_rest.f, iRangeIn, Option.bind_some]; rfl) ?_
    (try refine W.neg (by decide) ?_)
    refine W.dec (fun h4 => W.ret (by symm; exact decide_eq_true ⟨h1, h3, .inl h4⟩)) (fun h4 => ?_)
    refine W.dec (fun h5 => W.ret (by symm; exact decide_eq_false fun hc => hc.2.2.elim h4 (fun x => x.1 h5))) (fun h5 => ?_)
    refine W.dec (fun h6 => ?_) (fun h6 => W.ret (by symm; exact decide_eq_false fun hc => hc.2.2.elim h4 (fun x => h6 x.2.1)))
    refine W.bind (iRestIn m t m2 t2) ?_
    rintro _ rfl
    exact W.ret (by apply decide_eq_decide.2; unfold inV; exact ⟨fun x => ⟨h1, h3, .inr ⟨h5, h6, x⟩⟩, fun hc => hc.2.2.elim (fun x => absurd x h4) (fun x => x.2.2)⟩)
  · rw [ndf h3]; exact bad (.inr h3)
theorem sValIn (l h m t l2 h2 m2 t2 : Int) : W (fun k => spec_ValIn.f k l h m t l2 h2 m2 t2) (· = decide (inV l h m t l2 h2 m2 t2)) := by
  unfold spec_ValIn.f
  have bad : ¬ okV l h m t ∨ ¬ okV l2 h2 m2 t2 → W (fun k => spec_ValIn.j0 k true l h m t l2 h2 m2 t2) (· = decide (inV l h m t l2 h2 m2 t2)) := by
    intro hb
    refine W.step (fun k => by simp only [spec_ValIn.j0]; rfl) ?_
    (try refine W.pos (by trivial) ?_)
    exact W.ret (by symm; exact decide_eq_false fun hc => hb.elim (fun h => h hc.1) (fun h => h hc.2.1))
  refine W.bind (sValOk l h m t) ?_
  rintro _ rfl
  refine W.dec (fun h1 => ?_) (fun h1 => bad (.inl h1))
  refine W.bind (sValOk l2 h2 m2 t2) ?_
  rintro _ rfl
  by_cases h3 : okV l2 h2 m2 t2
  · rw [ndt h3]
    refine W.step (fun k => by simp only [spec_ValIn.j0, spec_l10None.f, spec_l10Range.f, spec_l10Rest.f, sRangeIn, Option.bind_some, bNV, bNV']; rfl) ?_
    (try refine W.neg (by decide) ?_)
    refine W.dec (fun h4 => W.ret (by symm; exact decide_eq_true ⟨h1, h3, .inl h4⟩)) (fun h4 => ?_)
    refine W.dec (fun h5 => ?_) (fun h5 => W.ret (by symm; exact decide_eq_false fun hc => hc.2.2.elim h4 (fun x => h5 x.1)))
    refine W.dec (fun h6 => ?_) (fun h6 => W.ret (by symm; exact decide_eq_false fun hc => hc.2.2.elim h4 (fun x => h6 x.2.1)))
    refine W.bind (sRestIn m t m2 t2) ?_
    rintro _ rfl
    exact W.ret (by apply decide_eq_decide.2; unfold inV; exact ⟨fun x => ⟨h1, h3, .inr ⟨h5, h6, x⟩⟩, fun hc => hc.2.2.elim (fun x => absurd x h4) (fun x => x.2.2)⟩)
  · rw [ndf h3]; exact bad (.inr h3)

theorem FnExactValIn (a b c d e f g h : Int) (_ : (Lit.int .i64 a).wf = true) (_ : (Lit.int .i64 b).wf = true) (_ : (Lit.int .i64 c).wf = true) (_ : (Lit.int .i64 d).wf = true) (_ : (Lit.int .i64 e).wf = true) (_ : (Lit.int .i64 f).wf = true) (_ : (Lit.int .i64 g).wf = true) (_ : (Lit.int .i64 h).wf = true) : ∃ k, laws_FnExactValIn.f k a b c d e f g h = some true := by
  apply W.eq
  unfold laws_FnExactValIn.f
  simp only [laws_toVal.f, Option.bind_some]
  refine W.bind (sValIn a b c d e f g h) ?_
  rintro _ rfl
  refine W.bind (iValIn a b c d e f g h) ?_
  rintro _ rfl
  exact W.neg (by simp) (W.ret rfl)

end Go.Proofs.Ytnmccgjdnceheaa.Pure
