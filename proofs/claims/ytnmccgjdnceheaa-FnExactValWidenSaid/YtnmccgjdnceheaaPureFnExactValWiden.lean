/- The pure statement of the law FnExactValWiden: for every input the printed function answers true. -/
import Derived.Test.YtnmccgjdnceheaaPFnExactValWidenx0
import Derived.Test.YtnmccgjdnceheaaPFnExactValWidenx1
import Derived.Test.YtnmccgjdnceheaaPFnExactValWidenx10
import Derived.Test.YtnmccgjdnceheaaPFnExactValWidenx11
import Derived.Test.YtnmccgjdnceheaaPFnExactValWidenx12
import Derived.Test.YtnmccgjdnceheaaPFnExactValWidenx13
import Derived.Test.YtnmccgjdnceheaaPFnExactValWidenx14
import Derived.Test.YtnmccgjdnceheaaPFnExactValWidenx15
import Derived.Test.YtnmccgjdnceheaaPFnExactValWidenx16
import Derived.Test.YtnmccgjdnceheaaPFnExactValWidenx17
import Derived.Test.YtnmccgjdnceheaaPFnExactValWidenx18
import Derived.Test.YtnmccgjdnceheaaPFnExactValWidenx19
import Derived.Test.YtnmccgjdnceheaaPFnExactValWidenx2
import Derived.Test.YtnmccgjdnceheaaPFnExactValWidenx20
import Derived.Test.YtnmccgjdnceheaaPFnExactValWidenx21
import Derived.Test.YtnmccgjdnceheaaPFnExactValWidenx22
import Derived.Test.YtnmccgjdnceheaaPFnExactValWidenx3
import Derived.Test.YtnmccgjdnceheaaPFnExactValWidenx4
import Derived.Test.YtnmccgjdnceheaaPFnExactValWidenx5
import Derived.Test.YtnmccgjdnceheaaPFnExactValWidenx6
import Derived.Test.YtnmccgjdnceheaaPFnExactValWidenx7
import Derived.Test.YtnmccgjdnceheaaPFnExactValWidenx8
import Derived.Test.YtnmccgjdnceheaaPFnExactValWidenx9
import Derived.Test.YtnmccgjdnceheaaLv
namespace Go.Proofs.Ytnmccgjdnceheaa.Pure
open Go Go.RowKit Go.Proofs.Ytnmccgjdnceheaa.PFnExactValWiden Go.Proofs.YtnmccgjdnceheaaV.PrintWords Go.Proofs.YtnmccgjdnceheaaV.PrintLast Go.Proofs.YtnmccgjdnceheaaV.PrintMore Go.Proofs.Ytnmccgjdnceheaa.Lib
set_option linter.unusedVariables false
set_option linter.unusedSimpArgs false

theorem tmod_pos {a n : Int} (h : 0 ≤ a) (hn : 1 ≤ n) : 0 ≤ a.tmod n ∧ a.tmod n < n := by
  rw [Int.tmod_eq_emod_of_nonneg h]
  exact ⟨Int.emod_nonneg _ (by omega), Int.emod_lt_of_pos _ (by omega)⟩

def okN (v : Int) : Prop := -2147483648 ≤ v ∧ v ≤ 2147483647
instance (v : Int) : Decidable (okN v) := by unfold okN; exact inferInstance
theorem sNumOk (v : Int) : spec_NumOk.f v = some (decide (okN v)) := by
  simp only [spec_NumOk.f, spec_l1In.f, okN]
  by_cases h : v ≥ -2147483648 <;> simp [h]
theorem iNumOk (v : Int) : impl_NumOk.f v = some (decide (okN v)) := by
  simp only [impl_NumOk.f, okN]
  by_cases h : v ≥ -2147483648 <;> simp [h]

/-! ### ranges: whether they are as they must be -/
def okR (l h : Int) : Prop := (l = 1 ∧ h = 0) ∨ (-2147483648 ≤ l ∧ l ≤ h ∧ h ≤ 2147483647)
instance (l h : Int) : Decidable (okR l h) := by unfold okR; exact inferInstance
theorem sRangeOk (l h : Int) : spec_RangeOk.f l h = some (decide (okR l h)) := by
  simp only [spec_RangeOk.f, spec_l8None.f, sNumOk, Option.bind_some]
  by_cases h1 : l = 1 ∧ h = 0
  · obtain ⟨rfl, rfl⟩ := h1; rfl
  · have : (l == 1 && h == 0) = false := by simpa using h1
    rw [this]; simp only [Bool.false_eq_true, if_false, okR, okN]
    by_cases h2 : -2147483648 ≤ l ∧ l ≤ 2147483647
    · by_cases h3 : -2147483648 ≤ h ∧ h ≤ 2147483647
      · simp only [h2, h3, and_self, true_and, and_true, decide_true, if_true]; congr 1; apply decide_eq_decide.2; omega
      · simp only [h2, h3, and_self, decide_true, decide_false, if_true, Bool.false_eq_true, if_false]; congr 1; symm; apply decide_eq_false; omega
    · simp only [h2, decide_false, Bool.false_eq_true, if_false]; congr 1; symm; apply decide_eq_false; omega
theorem iRangeOk (l h : Int) : impl_RangeOk.f l h = some (decide (okR l h)) := by
  simp only [impl_RangeOk.f, impl_rangeNone.f, iNumOk, Option.bind_some]
  by_cases h1 : l = 1 ∧ h = 0
  · obtain ⟨rfl, rfl⟩ := h1; rfl
  · have : (l == 1 && h == 0) = false := by simpa using h1
    rw [this]; simp only [Bool.false_eq_true, if_false, okR, okN]
    by_cases h2 : -2147483648 ≤ l ∧ l ≤ 2147483647
    · by_cases h3 : -2147483648 ≤ h ∧ h ≤ 2147483647
      · simp only [h2, h3, and_self, true_and, and_true, decide_true, if_true]; congr 1; apply decide_eq_decide.2; omega
      · simp only [h2, h3, and_self, decide_true, decide_false, if_true, Bool.false_eq_true, if_false]; congr 1; symm; apply decide_eq_false; omega
    · simp only [h2, decide_false, Bool.false_eq_true, if_false]; congr 1; symm; apply decide_eq_false; omega

/-! ### ranges: cut, joined, met -/
def cut (l h : Int) : Int × Int := if mx l (-2147483648) > mn h 2147483647 then (1, 0) else (mx l (-2147483648), mn h 2147483647)
def isNone (l h : Int) : Prop := l = 1 ∧ h = 0
instance (l h : Int) : Decidable (isNone l h) := by unfold isNone; exact inferInstance
theorem okR_gt {l h : Int} (o : okR l h) : l > h ↔ isNone l h := by unfold okR at o; unfold isNone; omega
theorem bIsNone (l h : Int) : (l == 1 && h == 0) = decide (isNone l h) := by
  rw [Bool.eq_iff_iff, decide_eq_true_iff]; unfold isNone; simp

theorem sMin (a b : Int) : spec_l8Min.f a b = some (mn a b) := by unfold spec_l8Min.f mn; split <;> split <;> first | rfl | (congr 1; omega)
theorem sMax (a b : Int) : spec_l8Max.f a b = some (mx a b) := by unfold spec_l8Max.f mx; split <;> split <;> first | rfl | (congr 1; omega)

theorem sRangeHas (l h v : Int) : spec_RangeHas.f l h v = some (decide (okR l h ∧ l ≤ v ∧ v ≤ h)) := by
  simp only [spec_RangeHas.f, spec_l1In.f, sRangeOk, Option.bind_some]
  by_cases h1 : okR l h
  · by_cases h2 : l ≤ v
    · simp [h1, h2]
    · simp [h1, h2]
  · simp [h1]
theorem iRangeHas (l h v : Int) : impl_RangeHas.f l h v = some (decide (okR l h ∧ l ≤ v ∧ v ≤ h)) := by
  simp only [impl_RangeHas.f, iRangeOk, Option.bind_some]
  by_cases h1 : okR l h
  · by_cases h2 : l ≤ v
    · simp [h1, h2]
    · simp [h1, h2]
  · simp [h1]

/-! ### rests -/
def okS (m t : Int) : Prop := (m = 0 ∧ okN t) ∨ (1 ≤ m ∧ m ≤ 65536 ∧ 0 ≤ t ∧ t < m)
instance (m t : Int) : Decidable (okS m t) := by unfold okS; exact inferInstance
theorem sIn (v a b : Int) : spec_l1In.f v a b = some (decide (a ≤ v ∧ v ≤ b)) := by
  simp only [spec_l1In.f]
  by_cases h : v ≥ a <;> simp [h]
theorem sRestOk (m t : Int) : spec_RestOk.f m t = some (decide (okS m t)) := by
  simp only [spec_RestOk.f, sNumOk, sIn, Option.bind_some]
  by_cases h0 : m = 0
  · subst h0; rw [if_pos rfl]; congr 1; apply decide_eq_decide.2; unfold okS okN; omega
  · rw [if_neg h0]
    by_cases h1 : 1 ≤ m ∧ m ≤ 65536
    · rw [if_pos (decide_eq_true h1), wrap64_id (by omega) (by omega)]; congr 1; apply decide_eq_decide.2; unfold okS; omega
    · rw [if_neg (by rw [decide_eq_true_iff]; exact h1)]; congr 1; symm; apply decide_eq_false; unfold okS; omega
theorem iRestOk (m t : Int) : impl_RestOk.f m t = some (decide (okS m t)) := by
  simp only [impl_RestOk.f, iNumOk, Option.bind_some]
  by_cases h0 : m = 0
  · subst h0; rw [if_pos rfl]; congr 1; apply decide_eq_decide.2; unfold okS okN; omega
  · rw [if_neg h0]
    split
    · split
      · split
        · congr 1; apply decide_eq_decide.2; unfold okS; omega
        · congr 1; symm; apply decide_eq_false; unfold okS; omega
      · congr 1; symm; apply decide_eq_false; unfold okS; omega
    · congr 1; symm; apply decide_eq_false; unfold okS; omega

theorem sMod {a : Int} (m : Int) (h0 : 0 < m) (h1 : m ≤ 4294967296) : spec_l1Mod.f a m = some (a % m) := by
  simp only [spec_l1Mod.f]
  have e := tmod_up (n := a) (m := m) h0
  have b := tmod_bounds (n := a) (m := m) h0
  rw [if_neg (by omega)]
  by_cases hn : a.tmod m < 0
  · rw [if_pos hn] at e ⊢
    rw [wrap64_id (by omega) (by omega), e]
  · rw [if_neg hn] at e ⊢
    rw [e]
theorem iMod {a : Int} (m : Int) (h0 : 0 < m) (h1 : m ≤ 4294967296) : impl_restMod.f a m = some (a % m) := by
  simp only [impl_restMod.f]
  have e := tmod_up (n := a) (m := m) h0
  have b := tmod_bounds (n := a) (m := m) h0
  rw [if_neg (by omega)]
  by_cases hn : a.tmod m < 0
  · rw [if_pos hn] at e ⊢
    rw [wrap64_id (by omega) (by omega), e]
  · rw [if_neg hn] at e ⊢
    rw [e]

theorem okS_pos {m t : Int} (h : okS m t) (h0 : m ≠ 0) : 1 ≤ m ∧ m ≤ 65536 ∧ 0 ≤ t ∧ t < m := by unfold okS at h; omega

/-! ### vals -/
def mkV (l h m t : Int) : Int × Int × Int × Int :=
  if ¬ okR l h ∨ ¬ okS m t ∨ isNone l h then (1, 0, 0, 0)
  else if m = 0 then (if l ≤ t ∧ t ≤ h then (t, t, 0, t) else (1, 0, 0, 0))
  else if l + (t - l) % m > h - (h - t) % m then (1, 0, 0, 0)
  else if l + (t - l) % m = h - (h - t) % m then (l + (t - l) % m, l + (t - l) % m, 0, l + (t - l) % m)
  else (l + (t - l) % m, h - (h - t) % m, m, t)
theorem sValMake (l h m t : Int) : W (fun k => spec_ValMake.f k l h m t) (· = mkV l h m t) := by
  unfold spec_ValMake.f
  simp only [sRangeOk, sRestOk, spec_l8None.f, Option.bind_some, bIsNone]
  have bad : ¬ okR l h ∨ ¬ okS m t ∨ isNone l h → W (fun k => spec_ValMake.j0 k true l h m t) (· = mkV l h m t) := by
    intro hb
    refine W.step (fun k => by simp only [spec_ValMake.j0, spec_l10None.f, Option.bind_some]; rfl) ?_
    (try refine W.pos (by trivial) ?_)
    exact W.ret (by unfold mkV; rw [if_pos hb])
  refine W.dec (fun h1 => W.dec (fun h2 => ?_) (fun h2 => bad (.inr (.inl h2)))) (fun h1 => bad (.inl h1))
  by_cases h3 : isNone l h
  · rw [decide_eq_true h3]; exact bad (.inr (.inr h3))
  · rw [decide_eq_false h3]
    have hk : ¬ (¬ okR l h ∨ ¬ okS m t ∨ isNone l h) := by simp [h1, h2, h3]
    unfold mkV
    rw [if_neg hk]
    refine W.step (fun k => by simp only [spec_ValMake.j0, spec_l10None.f, spec_l10One.f, sRangeHas, Option.bind_some]; rfl) ?_
    (try refine W.neg (by decide) ?_)
    refine W.ite (fun h4 => ?_) (fun h4 => ?_)
    · rw [if_pos h4]
      refine W.dec (fun h5 => W.ret (by rw [if_pos h5.2])) (fun h5 => W.ret (by rw [if_neg (fun hc => h5 ⟨h1, hc⟩)]))
    · rw [if_neg h4]
      have o := okS_pos h2 h4
      have r : -2147483648 ≤ l ∧ l ≤ h ∧ h ≤ 2147483647 := by unfold okR at h1; unfold isNone at h3; omega
      have e1 := Int.emod_nonneg (t - l) (show m ≠ 0 by omega); have e2 := Int.emod_lt_of_pos (t - l) (show 0 < m by omega)
      have e3 := Int.emod_nonneg (h - t) (show m ≠ 0 by omega); have e4 := Int.emod_lt_of_pos (h - t) (show 0 < m by omega)
      rw [wrap64_id (n := t - l) (by omega) (by omega), wrap64_id (n := h - t) (by omega) (by omega), sMod m (by omega) (by omega), sMod m (by omega) (by omega)]
      simp only [Option.bind_some]
      rw [wrap64_id (n := l + (t - l) % m) (by omega) (by omega), wrap64_id (n := h - (h - t) % m) (by omega) (by omega)]
      refine W.ite (fun h5 => W.ret (by rw [if_pos h5])) (fun h5 => ?_)
      rw [if_neg h5]
      exact W.ite (fun h6 => W.ret (by rw [if_pos h6])) (fun h6 => W.ret (by rw [if_neg h6]))
theorem iValMake (l h m t : Int) : W (fun k => impl_ValMake.f k l h m t) (· = mkV l h m t) := by
  unfold impl_ValMake.f
  simp only [iRangeOk, iRestOk, impl_Range_empty.f, Option.bind_some]
  have bad : ¬ okR l h ∨ ¬ okS m t ∨ isNone l h → W (fun k => impl_ValMake.j0 k true l h m t) (· = mkV l h m t) := by
    intro hb
    refine W.step (fun k => by simp only [impl_ValMake.j0, impl_valNone.f, Option.bind_some]; rfl) ?_
    (try refine W.pos (by trivial) ?_)
    exact W.ret (by unfold mkV; rw [if_pos hb])
  refine W.dec (fun h1 => W.dec (fun h2 => ?_) (fun h2 => bad (.inr (.inl h2)))) (fun h1 => bad (.inl h1))
  by_cases h3 : l > h
  · rw [decide_eq_true h3]; exact bad (.inr (.inr ((okR_gt h1).1 h3)))
  · rw [decide_eq_false h3]
    have h3' : ¬ isNone l h := fun hc => h3 ((okR_gt h1).2 hc)
    have hk : ¬ (¬ okR l h ∨ ¬ okS m t ∨ isNone l h) := by simp [h1, h2, h3']
    unfold mkV
    rw [if_neg hk]
    refine W.step (fun k => by simp only [impl_ValMake.j0, impl_valNone.f, impl_valOne.f, iRangeHas, Option.bind_some]; rfl) ?_
    (try refine W.neg (by decide) ?_)
    refine W.ite (fun h4 => ?_) (fun h4 => ?_)
    · rw [if_pos h4]
      refine W.dec (fun h5 => W.ret (by rw [if_pos h5.2])) (fun h5 => W.ret (by rw [if_neg (fun hc => h5 ⟨h1, hc⟩)]))
    · rw [if_neg h4]
      have o := okS_pos h2 h4
      have r : -2147483648 ≤ l ∧ l ≤ h ∧ h ≤ 2147483647 := by unfold okR at h1; unfold isNone at h3'; omega
      have e1 := Int.emod_nonneg (t - l) (show m ≠ 0 by omega); have e2 := Int.emod_lt_of_pos (t - l) (show 0 < m by omega)
      have e3 := Int.emod_nonneg (h - t) (show m ≠ 0 by omega); have e4 := Int.emod_lt_of_pos (h - t) (show 0 < m by omega)
      rw [wrap64_id (n := t - l) (by omega) (by omega), wrap64_id (n := h - t) (by omega) (by omega), iMod m (by omega) (by omega), iMod m (by omega) (by omega)]
      simp only [Option.bind_some]
      rw [wrap64_id (n := l + (t - l) % m) (by omega) (by omega), wrap64_id (n := h - (h - t) % m) (by omega) (by omega)]
      refine W.ite (fun h5 => W.ret (by rw [if_pos h5])) (fun h5 => ?_)
      rw [if_neg h5]
      exact W.ite (fun h6 => W.ret (by rw [if_pos h6])) (fun h6 => W.ret (by rw [if_neg h6]))

def isNV (l h m t : Int) : Prop := l = 1 ∧ h = 0 ∧ m = 0 ∧ t = 0
instance (l h m t : Int) : Decidable (isNV l h m t) := by unfold isNV; exact inferInstance
theorem bNV (l h m t : Int) : (l == 1 && (h == 0 && (m == 0 && (t == 0)))) = decide (isNV l h m t) := by
  rw [Bool.eq_iff_iff, decide_eq_true_iff]; unfold isNV; simp
def okV (l h m t : Int) : Prop := (l, h, m, t) = mkV l h m t
instance (l h m t : Int) : Decidable (okV l h m t) := by unfold okV; exact inferInstance
theorem bEq4 (l h m t : Int) (x : Int × Int × Int × Int) : (l == x.1 && (h == x.2.1 && (m == x.2.2.1 && (t == x.2.2.2)))) = decide ((l, h, m, t) = x) := by
  obtain ⟨a, b, c, d⟩ := x
  rw [Bool.eq_iff_iff, decide_eq_true_iff]; simp
theorem okV_none {l h m t : Int} (hn : isNV l h m t) : okV l h m t := by
  obtain ⟨rfl, rfl, rfl, rfl⟩ := hn
  unfold okV mkV
  rw [if_pos (.inr (.inr ⟨rfl, rfl⟩))]
theorem okV_some {l h m t : Int} (ho : okV l h m t) (hn : ¬ isNV l h m t) : okR l h ∧ okS m t ∧ ¬ isNone l h := by
  unfold okV at ho
  refine Decidable.byContradiction fun hc => hn ?_
  have hk : ¬ okR l h ∨ ¬ okS m t ∨ isNone l h := by
    by_cases h1 : okR l h
    · by_cases h2 : okS m t
      · by_cases h3 : isNone l h
        · exact .inr (.inr h3)
        · exact absurd ⟨h1, h2, h3⟩ hc
      · exact .inr (.inl h2)
    · exact .inl h1
  unfold mkV at ho
  rw [if_pos hk] at ho
  simp only [Prod.mk.injEq] at ho
  exact ho
theorem okV_okR {l h m t : Int} (ho : okV l h m t) : okR l h := by
  by_cases hn : isNV l h m t
  · exact .inl ⟨hn.1, hn.2.1⟩
  · exact (okV_some ho hn).1
theorem isNV_iff {l h m t : Int} (ho : okV l h m t) : isNV l h m t ↔ isNone l h := by
  constructor
  · exact fun hn => ⟨hn.1, hn.2.1⟩
  · exact fun hc => Decidable.byContradiction fun hn => (okV_some ho hn).2.2 hc
theorem iValOk (l h m t : Int) : W (fun k => impl_ValOk.f k l h m t) (· = decide (okV l h m t)) := by
  unfold impl_ValOk.f
  simp only [impl_Val_span.f, impl_Val_rest.f, Option.bind_some]
  refine W.bind (iValMake l h m t) ?_
  rintro _ rfl
  exact W.ret (by rw [bEq4]; rfl)
theorem sValOk (l h m t : Int) : W (fun k => spec_ValOk.f k l h m t) (· = decide (okV l h m t)) := by
  unfold spec_ValOk.f
  simp only [spec_l10None.f, spec_l10Range.f, spec_l10Rest.f, sRangeOk, sRestOk, Option.bind_some, bNV]
  refine W.dec (fun h1 => W.ret (by symm; exact decide_eq_true (okV_none h1))) (fun h1 => ?_)
  refine W.dec (fun h2 => W.dec (fun h3 => ?_) (fun h3 => W.ret ?_)) (fun h2 => W.ret ?_)
  · refine W.bind (sValMake l h m t) ?_
    rintro _ rfl
    exact W.ret (by rw [bEq4]; rfl)
  · symm; exact decide_eq_false fun ho => h3 (okV_some ho h1).2.1
  · symm; exact decide_eq_false fun ho => h2 (okV_some ho h1).1

theorem iVal_none (l h m t : Int) : impl_Val_none.f l h m t = some (decide (isNV l h m t)) := by
  simp only [impl_Val_none.f, impl_valNone.f, Option.bind_some, bNV]

def rjoin (l h l2 h2 : Int) : Int × Int := if ¬ okR l h ∨ ¬ okR l2 h2 then (1, 0) else if isNone l h then (l2, h2) else if isNone l2 h2 then (l, h) else (mn l l2, mx h h2)
theorem sRangeJoin (l h l2 h2 : Int) : W (fun k => spec_RangeJoin.f k l h l2 h2) (· = rjoin l h l2 h2) := by
  unfold spec_RangeJoin.f
  simp only [sRangeOk, Option.bind_some]
  have bad : ¬ okR l h ∨ ¬ okR l2 h2 → W (fun k => spec_RangeJoin.j0 k true l h l2 h2) (· = rjoin l h l2 h2) := by
    intro hb
    refine W.step (fun k => by simp only [spec_RangeJoin.j0, spec_l8None.f, Option.bind_some]; rfl) ?_
    (try refine W.pos (by trivial) ?_)
    exact W.ret (by unfold rjoin; rw [if_pos hb])
  refine W.dec (fun h1 => ?_) (fun h1 => bad (.inl h1))
  by_cases h3 : okR l2 h2
  · rw [ndt h3]
    refine W.step (fun k => by simp only [spec_RangeJoin.j0, spec_l8None.f, Option.bind_some, sMin, sMax, bIsNone]; rfl) ?_
    unfold rjoin
    have hk : ¬ (¬ okR l h ∨ ¬ okR l2 h2) := by simp [h1, h3]
    rw [if_neg hk]
    (try refine W.neg (by decide) ?_)
    refine W.dec (fun h4 => W.ret (by rw [if_pos h4])) (fun h4 => ?_)
    rw [if_neg h4]
    exact W.dec (fun h5 => W.ret (by rw [if_pos h5])) (fun h5 => W.ret (by rw [if_neg h5]))
  · rw [ndf h3]; exact bad (.inr h3)
theorem iRangeJoin (l h l2 h2 : Int) : W (fun k => impl_RangeJoin.f k l h l2 h2) (· = rjoin l h l2 h2) := by
  unfold impl_RangeJoin.f
  simp only [iRangeOk, Option.bind_some]
  have bad : ¬ okR l h ∨ ¬ okR l2 h2 → W (fun k => impl_RangeJoin.j0 k true l h l2 h2) (· = rjoin l h l2 h2) := by
    intro hb
    refine W.step (fun k => by simp only [impl_RangeJoin.j0, impl_rangeNone.f, Option.bind_some]; rfl) ?_
    (try refine W.pos (by trivial) ?_)
    exact W.ret (by unfold rjoin; rw [if_pos hb])
  refine W.dec (fun h1 => ?_) (fun h1 => bad (.inl h1))
  by_cases h3 : okR l2 h2
  · rw [ndt h3]
    refine W.step (fun k => by simp only [impl_RangeJoin.j0, impl_rangeNone.f, impl_Range_empty.f, Option.bind_some]; rfl) ?_
    unfold rjoin
    have hk : ¬ (¬ okR l h ∨ ¬ okR l2 h2) := by simp [h1, h3]
    rw [if_neg hk]
    (try refine W.neg (by decide) ?_)
    refine W.dec (fun h4 => W.ret (by rw [if_pos ((okR_gt h1).1 h4)])) (fun h4 => ?_)
    rw [if_neg (fun hc => h4 ((okR_gt h1).2 hc))]
    exact W.dec (fun h5 => W.ret (by rw [if_pos ((okR_gt h3).1 h5)])) (fun h5 => W.ret (by rw [if_neg (fun hc => h5 ((okR_gt h3).2 hc))]))
  · rw [ndf h3]; exact bad (.inr h3)
theorem rjoin_ok (l h l2 h2 : Int) : okR (rjoin l h l2 h2).1 (rjoin l h l2 h2).2 := by
  unfold rjoin
  split
  · exact .inl ⟨rfl, rfl⟩
  rename_i hb
  have o1 : okR l h := Decidable.byContradiction fun h => hb (.inl h)
  have o2 : okR l2 h2 := Decidable.byContradiction fun h => hb (.inr h)
  split
  · exact o2
  split
  · exact o1
  · rename_i n1 n2
    unfold okR at o1 o2 ⊢; unfold isNone at n1 n2; unfold mn mx
    right; simp only
    split <;> split <;> omega

/-! ### greatest common divisors -/
theorem sGcd_loop (d : Nat) : ∀ a b : Int, 0 ≤ a → 0 ≤ b → b.natAbs ≤ d → W (fun k => spec_l9Gcd.l0 k a b) (· = (Int.gcd a b : Int)) := by
  induction d using Nat.strongRecOn with
  | _ d ih =>
    intro a b ha hb hd
    refine W.step (fun k => by simp only [spec_l9Gcd.l0]; rfl) ?_
    refine W.ite (fun h => W.ret ?_) (fun h => ?_)
    · subst h; rw [Int.gcd_zero_right]; omega
    · have hm := tmod_pos ha (n := b) (by omega)
      have := ih (a.tmod b).natAbs (by omega) b (a.tmod b) hb hm.1 (Nat.le_refl _)
      refine this.mono ?_
      rintro _ rfl
      unfold Int.gcd; rw [Int.natAbs_tmod, Nat.gcd_comm, ← Nat.gcd_rec, Nat.gcd_comm]
theorem sGcd (a b : Int) (ha : -9223372036854775807 ≤ a ∧ a ≤ 9223372036854775807) (hb : -9223372036854775807 ≤ b ∧ b ≤ 9223372036854775807) : W (fun k => spec_l9Gcd.f k a b) (· = (Int.gcd a b : Int)) := by
  have j1 : ∀ x y : Int, 0 ≤ x → 0 ≤ y → W (fun k => spec_l9Gcd.j1 k x y) (· = (Int.gcd x y : Int)) := by
    intro x y hx hy
    refine W.step (fun k => by simp only [spec_l9Gcd.j1]; rfl) ?_
    exact sGcd_loop _ x y hx hy (Nat.le_refl _)
  have j0 : ∀ x : Int, 0 ≤ x → W (fun k => spec_l9Gcd.j0 k x b) (· = (Int.gcd x b : Int)) := by
    intro x hx
    refine W.step (fun k => by simp only [spec_l9Gcd.j0]; rfl) ?_
    refine W.ite (fun h => ?_) (fun h => j1 x b hx (by omega))
    rw [wrap64_id (by omega) (by omega)]
    refine (j1 x (-b) hx (by omega)).mono ?_
    rintro _ rfl
    rw [Int.gcd_neg]
  unfold spec_l9Gcd.f
  refine W.ite (fun h => ?_) (fun h => j0 a (by omega))
  rw [wrap64_id (by omega) (by omega)]
  refine (j0 (-a) (by omega)).mono ?_
  rintro _ rfl
  rw [Int.neg_gcd]
/-- The greatest common divisor of some numbers, as the program goes through them. -/
def gl (g : Nat) (l : List Int) : Nat := l.foldl (fun g n => Int.gcd g n) g
theorem iGcd_in {xs : List Int} {len i : Int} {P : Int → Prop} (d : Nat) : ∀ g n : Int, n.natAbs ≤ d → i + 1 ≤ 9223372036854775807 → 0 ≤ i →
    (∀ g' : Int, g'.natAbs = Int.gcd g n → W (fun k => impl_restGcd.l0 k g' xs len (i + 1)) P) → W (fun k => impl_restGcd.l1 k g n xs len i) P := by
  induction d using Nat.strongRecOn with
  | _ d ih =>
    intro g n hd hi hi0 hk
    refine W.step (fun k => by simp only [impl_restGcd.l1]; rfl) ?_
    refine W.ite (fun h => ?_) (fun h => ?_)
    · rw [wrap64_id (by omega) (by omega)]
      exact hk g (by subst h; rw [Int.gcd_zero_right])
    · have hm : (g.tmod n).natAbs = g.natAbs % n.natAbs := Int.natAbs_tmod ..
      have hl : g.natAbs % n.natAbs < n.natAbs := Nat.mod_lt _ (by omega)
      refine ih (g.tmod n).natAbs (by omega) n (g.tmod n) (Nat.le_refl _) hi hi0 (fun g' hg => hk g' ?_)
      rw [hg]; unfold Int.gcd; rw [hm, Nat.gcd_comm, ← Nat.gcd_rec, Nat.gcd_comm]
theorem iGcd_loop {xs : List Int} (hx : xs.length ≤ 100) (hb : ∀ x ∈ xs, -9223372036854775807 ≤ x ∧ x ≤ 9223372036854775807) (d : Nat) : ∀ (i : Nat) (g : Int), i ≤ xs.length → xs.length - i = d → -9223372036854775807 ≤ g → g ≤ 9223372036854775807 →
    W (fun k => impl_restGcd.l0 k g xs (xs.length : Int) (i : Int)) (· = (gl g.natAbs (xs.drop i) : Int)) := by
  induction d with
  | zero =>
    intro i g hi hd g0 g1
    refine W.step (fun k => by simp only [impl_restGcd.l0]; rfl) ?_
    refine W.neg (by omega) ?_
    rw [List.drop_eq_nil_of_le (by omega)]
    refine W.ite (fun h => W.ret ?_) (fun h => W.ret ?_)
    · rw [wrap64_id (by omega) (by omega)]; simp only [gl, List.foldl_nil]; omega
    · simp only [gl, List.foldl_nil]; omega
  | succ d ih =>
    intro i g hi hd g0 g1
    have hlt : i < xs.length := by omega
    have hx0 := hb _ (List.getElem_mem hlt)
    have hr : rd xs (i : Int) = xs[i] := by simp [rd, List.getD_eq_getElem?_getD, List.getElem?_eq_getElem hlt]
    refine W.step (fun k => by simp only [impl_restGcd.l0]; rfl) ?_
    refine W.pos (by omega) (W.pos (by omega) (W.pos (by omega) ?_))
    rw [hr]
    refine iGcd_in _ g xs[i] (Nat.le_refl _) (by omega) (by omega) (fun g' hg => ?_)
    have hle : g'.natAbs ≤ 9223372036854775807 := by
      rw [hg]
      by_cases hz : xs[i] = 0
      · rw [hz, Int.gcd_zero_right]; omega
      · have := Nat.le_of_dvd (by omega) (show Int.gcd g xs[i] ∣ xs[i].natAbs from Nat.gcd_dvd_right _ _); omega
    have h := ih (i + 1) g' (by omega) (by omega) (by omega) (by omega)
    rw [show ((i + 1 : Nat) : Int) = (i : Int) + 1 by omega] at h
    refine h.mono ?_
    rintro _ rfl
    rw [List.drop_eq_getElem_cons hlt, hg]
    simp only [gl, List.foldl_cons]
    congr 2
theorem iGcd (xs : List Int) (hx : xs.length ≤ 100) (hb : ∀ x ∈ xs, -9223372036854775807 ≤ x ∧ x ≤ 9223372036854775807) : W (fun k => impl_restGcd.f k xs) (· = (gl 0 xs : Int)) := by
  unfold impl_restGcd.f
  exact iGcd_loop hx hb xs.length 0 0 (by omega) (by omega) (by omega) (by omega)
theorem gl2 (a b : Int) : gl 0 [a, b] = Int.gcd a b := by simp [gl, Int.gcd]
theorem gl3 (a b c : Int) : gl 0 [a, b, c] = Int.gcd (Int.gcd a b : Int) c := by simp [gl, Int.gcd]
theorem gcd_le {a b B : Int} (h0 : 0 ≤ B) (ha : -B ≤ a ∧ a ≤ B) (hb : -B ≤ b ∧ b ≤ B) : ((Int.gcd a b : Nat) : Int) ≤ B := by
  by_cases hz : a = 0
  · subst hz; rw [Int.gcd_zero_left]; omega
  · have := Nat.le_of_dvd (by omega) (show Int.gcd a b ∣ a.natAbs from Nat.gcd_dvd_left _ _); omega

/-- The rest of a number by a modulus from 0 on. -/
def mkS (n m : Int) : Int × Int := if m > 65536 then (((Int.gcd m 65536 : Nat) : Int), n % (Int.gcd m 65536 : Nat)) else if m = 0 then (0, n) else (m, n % m)
theorem gcd_small (m : Int) : 1 ≤ Int.gcd m 65536 ∧ Int.gcd m 65536 ≤ 65536 := by
  constructor
  · exact Nat.gcd_pos_of_pos_right _ (by decide)
  · exact Nat.le_of_dvd (by decide) (show Int.gcd m 65536 ∣ 65536 from Nat.gcd_dvd_right _ _)
theorem sMake (m n : Int) (h0 : 0 ≤ m) (h1 : m ≤ 9223372036854775807) : W (fun k => spec_l9Make.f k m n) (· = mkS n m) := by
  unfold spec_l9Make.f mkS
  have hg := gcd_small m
  refine W.ite (fun h => ?_) (fun h => ?_)
  · rw [if_pos h]
    refine W.bind (sGcd m 65536 (by omega) (by omega)) ?_
    rintro _ rfl
    refine W.neg (by omega) ?_
    rw [sMod _ (by omega) (by omega)]
    exact W.ret rfl
  · rw [if_neg h]
    refine W.ite (fun h2 => W.ret (by rw [if_pos h2])) (fun h2 => ?_)
    rw [if_neg h2, sMod _ (by omega) (by omega)]
    exact W.ret rfl
theorem iOf (m n : Int) (h0 : 0 ≤ m) (h1 : m ≤ 9223372036854775807) : W (fun k => impl_restOf.f k n m) (· = mkS n m) := by
  unfold impl_restOf.f mkS
  have hg := gcd_small m
  refine W.ite (fun h => ?_) (fun h => ?_)
  · rw [if_pos h]
    refine W.bind (iGcd [m, 65536] (by simp) (by simp; omega)) ?_
    rintro _ rfl
    rw [gl2]
    refine W.neg (by omega) ?_
    rw [iMod _ (by omega) (by omega)]
    exact W.ret rfl
  · rw [if_neg h]
    refine W.ite (fun h2 => W.ret (by rw [if_pos h2])) (fun h2 => ?_)
    rw [if_neg h2, iMod _ (by omega) (by omega)]
    exact W.ret rfl

def joinS (m t m2 t2 : Int) : Int × Int := if ¬ okS m t ∨ ¬ okS m2 t2 then (1, 0) else mkS t (Int.gcd (Int.gcd m m2 : Int) (t - t2) : Int)
theorem okS_range {m t : Int} (h : okS m t) : (0 ≤ m ∧ m ≤ 65536) ∧ (-2147483648 ≤ t ∧ t ≤ 2147483647) := by unfold okS okN at h; omega
theorem sRestJoin (m t m2 t2 : Int) : W (fun k => spec_RestJoin.f k m t m2 t2) (· = joinS m t m2 t2) := by
  unfold spec_RestJoin.f
  simp only [sRestOk, Option.bind_some]
  have bad : ¬ okS m t ∨ ¬ okS m2 t2 → W (fun k => spec_RestJoin.j0 k true m t m2 t2) (· = joinS m t m2 t2) := by
    intro hb
    refine W.step (fun k => by simp only [spec_RestJoin.j0, spec_l9All.f, Option.bind_some]; rfl) ?_
    (try refine W.pos (by trivial) ?_)
    exact W.ret (by unfold joinS; rw [if_pos hb])
  refine W.dec (fun h1 => ?_) (fun h1 => bad (.inl h1))
  by_cases h3 : okS m2 t2
  · rw [ndt h3]
    have r1 := okS_range h1; have r2 := okS_range h3
    have g1 := gcd_le (a := m) (b := m2) (B := 65536) (by omega) (by omega) (by omega)
    have g2 := gcd_le (a := (Int.gcd m m2 : Int)) (b := t - t2) (B := 4294967296) (by omega) (by omega) (by omega)
    refine W.step (fun k => by simp only [spec_RestJoin.j0]; rfl) ?_
    (try refine W.neg (by decide) ?_)
    refine W.bind (sGcd m m2 (by omega) (by omega)) ?_
    rintro _ rfl
    rw [wrap64_id (n := t - t2) (by omega) (by omega)]
    refine W.bind (sGcd _ _ (by omega) (by omega)) ?_
    rintro _ rfl
    refine W.bind (sMake _ _ (by omega) (by omega)) ?_
    rintro _ rfl
    exact W.ret (by unfold joinS; rw [if_neg (by simp [h1, h3])])
  · rw [ndf h3]; exact bad (.inr h3)
theorem iRestJoin (m t m2 t2 : Int) : W (fun k => impl_RestJoin.f k m t m2 t2) (· = joinS m t m2 t2) := by
  unfold impl_RestJoin.f
  simp only [iRestOk, Option.bind_some]
  have bad : ¬ okS m t ∨ ¬ okS m2 t2 → W (fun k => impl_RestJoin.j0 k true m t m2 t2) (· = joinS m t m2 t2) := by
    intro hb
    refine W.step (fun k => by simp only [impl_RestJoin.j0, impl_restAll.f, Option.bind_some]; rfl) ?_
    (try refine W.pos (by trivial) ?_)
    exact W.ret (by unfold joinS; rw [if_pos hb])
  refine W.dec (fun h1 => ?_) (fun h1 => bad (.inl h1))
  by_cases h3 : okS m2 t2
  · rw [ndt h3]
    have r1 := okS_range h1; have r2 := okS_range h3
    have g1 := gcd_le (a := m) (b := m2) (B := 65536) (by omega) (by omega) (by omega)
    have g2 := gcd_le (a := (Int.gcd m m2 : Int)) (b := t - t2) (B := 4294967296) (by omega) (by omega) (by omega)
    refine W.step (fun k => by simp only [impl_RestJoin.j0]; rfl) ?_
    (try refine W.neg (by decide) ?_)
    rw [wrap64_id (n := t - t2) (by omega) (by omega)]
    refine W.bind (iGcd [m, m2, t - t2] (by simp) (by simp; omega)) ?_
    rintro _ rfl
    rw [gl3]
    refine W.bind (iOf _ _ (by omega) (by omega)) ?_
    rintro _ rfl
    exact W.ret (by unfold joinS; rw [if_neg (by simp [h1, h3])])
  · rw [ndf h3]; exact bad (.inr h3)

def joinV (l h m t l2 h2 m2 t2 : Int) : Int × Int × Int × Int :=
  if ¬ okV l h m t ∨ ¬ okV l2 h2 m2 t2 then (1, 0, 0, 0) else if isNV l h m t then (l2, h2, m2, t2) else if isNV l2 h2 m2 t2 then (l, h, m, t)
  else mkV (rjoin l h l2 h2).1 (rjoin l h l2 h2).2 (joinS m t m2 t2).1 (joinS m t m2 t2).2
theorem iValJoin (l h m t l2 h2 m2 t2 : Int) : W (fun k => impl_ValJoin.f k l h m t l2 h2 m2 t2) (· = joinV l h m t l2 h2 m2 t2) := by
  unfold impl_ValJoin.f
  have bad : ¬ okV l h m t ∨ ¬ okV l2 h2 m2 t2 → W (fun k => impl_ValJoin.j0 k true l h m t l2 h2 m2 t2) (· = joinV l h m t l2 h2 m2 t2) := by
    intro hb
    refine W.step (fun k => by simp only [impl_ValJoin.j0, impl_valNone.f, Option.bind_some]; rfl) ?_
    (try refine W.pos (by trivial) ?_)
    exact W.ret (by unfold joinV; rw [if_pos hb])
  refine W.bind (iValOk l h m t) ?_
  rintro _ rfl
  refine W.dec (fun h1 => ?_) (fun h1 => bad (.inl h1))
  refine W.bind (iValOk l2 h2 m2 t2) ?_
  rintro _ rfl
  by_cases h3 : okV l2 h2 m2 t2
  · rw [ndt h3]
    have hk : ¬ (¬ okV l h m t ∨ ¬ okV l2 h2 m2 t2) := by simp [h1, h3]
    unfold joinV
    rw [if_neg hk]
    refine W.step (fun k => by simp only [impl_ValJoin.j0, iVal_none, impl_Val_span.f, impl_Val_rest.f, Option.bind_some]; rfl) ?_
    (try refine W.neg (by decide) ?_)
    refine W.dec (fun h4 => W.ret (by rw [if_pos h4])) (fun h4 => ?_)
    rw [if_neg h4]
    refine W.dec (fun h5 => W.ret (by rw [if_pos h5])) (fun h5 => ?_)
    rw [if_neg h5]
    refine W.bind (iRangeJoin l h l2 h2) ?_
    rintro _ rfl
    refine W.bind (iRestJoin m t m2 t2) ?_
    rintro _ rfl
    refine W.bind (iValMake _ _ _ _) ?_
    rintro _ rfl
    exact W.ret rfl
  · rw [ndf h3]; exact bad (.inr h3)
theorem sValJoin (l h m t l2 h2 m2 t2 : Int) : W (fun k => spec_ValJoin.f k l h m t l2 h2 m2 t2) (· = joinV l h m t l2 h2 m2 t2) := by
  unfold spec_ValJoin.f
  have bad : ¬ okV l h m t ∨ ¬ okV l2 h2 m2 t2 → W (fun k => spec_ValJoin.j0 k true l h m t l2 h2 m2 t2) (· = joinV l h m t l2 h2 m2 t2) := by
    intro hb
    refine W.step (fun k => by simp only [spec_ValJoin.j0, spec_l10None.f, Option.bind_some]; rfl) ?_
    (try refine W.pos (by trivial) ?_)
    exact W.ret (by unfold joinV; rw [if_pos hb])
  refine W.bind (sValOk l h m t) ?_
  rintro _ rfl
  refine W.dec (fun h1 => ?_) (fun h1 => bad (.inl h1))
  refine W.bind (sValOk l2 h2 m2 t2) ?_
  rintro _ rfl
  by_cases h3 : okV l2 h2 m2 t2
  · rw [ndt h3]
    have hk : ¬ (¬ okV l h m t ∨ ¬ okV l2 h2 m2 t2) := by simp [h1, h3]
    unfold joinV
    rw [if_neg hk]
    refine W.step (fun k => by simp only [spec_ValJoin.j0, spec_l10None.f, spec_l10Range.f, spec_l10Rest.f, Option.bind_some, bNV]; rfl) ?_
    (try refine W.neg (by decide) ?_)
    refine W.dec (fun h4 => W.ret (by rw [if_pos h4])) (fun h4 => ?_)
    rw [if_neg h4]
    refine W.dec (fun h5 => W.ret (by rw [if_pos h5])) (fun h5 => ?_)
    rw [if_neg h5]
    refine W.bind (sRangeJoin l h l2 h2) ?_
    rintro _ rfl
    refine W.bind (sRestJoin m t m2 t2) ?_
    rintro _ rfl
    refine W.bind (sValMake _ _ _ _) ?_
    rintro _ rfl
    exact W.ret rfl
  · rw [ndf h3]; exact bad (.inr h3)

/-! ### ranges widened -/
/-- The greatest of some numbers that is at most v, beside o. -/
def down (v : Int) (l : List Int) (o : Int) : Int := l.foldl (fun o s => if s ≤ v ∧ s > o then s else o) o
def up (v : Int) (l : List Int) (o : Int) : Int := l.foldl (fun o s => if s ≥ v ∧ s < o then s else o) o
theorem rd_get {xs : List Int} {i : Nat} (h : i < xs.length) : rd xs (i : Int) = xs[i] := by simp [rd, List.getD_eq_getElem?_getD, List.getElem?_eq_getElem h]
theorem sDown {xs : List Int} (hx : xs.length ≤ 9000000000000000000) (v : Int) (d : Nat) : ∀ (i : Nat) (o : Int), i ≤ xs.length → xs.length - i = d → W (fun k => spec_l8Down.l0 k xs v o (i : Int)) (· = down v (xs.drop i) o) := by
  induction d with
  | zero =>
    intro i o hi hd
    refine W.step (fun k => by simp only [spec_l8Down.l0]; rfl) ?_
    refine W.neg (by omega) (W.ret ?_)
    rw [List.drop_eq_nil_of_le (by omega)]; rfl
  | succ d ih =>
    intro i o hi hd
    have hlt : i < xs.length := by omega
    have h := fun o => ih (i + 1) o (by omega) (by omega)
    rw [List.drop_eq_getElem_cons hlt]
    refine W.step (fun k => by simp only [spec_l8Down.l0]; rfl) ?_
    refine W.pos (by omega) (W.pos (by omega) ?_)
    rw [wrap64_id (n := (i : Int) + 1) (by omega) (by omega), rd_get hlt, show (i : Int) + 1 = ((i + 1 : Nat) : Int) by omega]
    unfold down; rw [List.foldl_cons]
    refine W.ite (fun h1 => W.ite (fun h2 => ?_) (fun h2 => ?_)) (fun h1 => ?_)
    · rw [if_pos ⟨h1, h2⟩]; exact h _
    · rw [if_neg (fun hc => h2 hc.2)]; exact h _
    · rw [if_neg (fun hc => h1 hc.1)]; exact h _
theorem sUp {xs : List Int} (hx : xs.length ≤ 9000000000000000000) (v : Int) (d : Nat) : ∀ (i : Nat) (o : Int), i ≤ xs.length → xs.length - i = d → W (fun k => spec_l8Up.l0 k xs v o (i : Int)) (· = up v (xs.drop i) o) := by
  induction d with
  | zero =>
    intro i o hi hd
    refine W.step (fun k => by simp only [spec_l8Up.l0]; rfl) ?_
    refine W.neg (by omega) (W.ret ?_)
    rw [List.drop_eq_nil_of_le (by omega)]; rfl
  | succ d ih =>
    intro i o hi hd
    have hlt : i < xs.length := by omega
    have h := fun o => ih (i + 1) o (by omega) (by omega)
    rw [List.drop_eq_getElem_cons hlt]
    refine W.step (fun k => by simp only [spec_l8Up.l0]; rfl) ?_
    refine W.pos (by omega) (W.pos (by omega) ?_)
    rw [wrap64_id (n := (i : Int) + 1) (by omega) (by omega), rd_get hlt, show (i : Int) + 1 = ((i + 1 : Nat) : Int) by omega]
    unfold up; rw [List.foldl_cons]
    refine W.ite (fun h1 => W.ite (fun h2 => ?_) (fun h2 => ?_)) (fun h1 => ?_)
    · rw [if_pos ⟨h1, h2⟩]; exact h _
    · rw [if_neg (fun hc => h2 hc.2)]; exact h _
    · rw [if_neg (fun hc => h1 hc.1)]; exact h _
theorem down_ge (v : Int) (l : List Int) : ∀ o : Int, o ≤ down v l o := by
  induction l with
  | nil => intro o; exact Int.le_refl _
  | cons s l ih =>
    intro o
    unfold down; rw [List.foldl_cons]
    have h := ih (if s ≤ v ∧ s > o then s else o)
    unfold down at h
    split at h <;> split <;> omega
theorem up_le (v : Int) (l : List Int) : ∀ o : Int, up v l o ≤ o := by
  induction l with
  | nil => intro o; exact Int.le_refl _
  | cons s l ih =>
    intro o
    unfold up; rw [List.foldl_cons]
    have h := ih (if s ≥ v ∧ s < o then s else o)
    unfold up at h
    split at h <;> split <;> omega
theorem iDown {xs : List Int} (hx : xs.length ≤ 9000000000000000000) {al ah jl jh : Int} (hj : jl ≤ 2147483647) {P : Int × Int → Prop} (d : Nat) : ∀ (i : Nat) (o : Int), -2147483648 ≤ o → i ≤ xs.length → xs.length - i = d →
    W (fun k => impl_RangeWiden.j2 k xs al ah (down jl (xs.drop i) o) jh) P → W (fun k => impl_RangeWiden.l0 k xs o xs (xs.length : Int) (i : Int) al ah jl jh) P := by
  induction d with
  | zero =>
    intro i o ho hi hd hk
    refine W.step (fun k => by simp only [impl_RangeWiden.l0]; rfl) ?_
    refine W.neg (by omega) ?_
    rw [List.drop_eq_nil_of_le (by omega)] at hk; exact hk
  | succ d ih =>
    intro i o ho hi hd hk
    have hlt : i < xs.length := by omega
    have h := fun o ho => ih (i + 1) o ho (by omega) (by omega)
    rw [List.drop_eq_getElem_cons hlt] at hk
    unfold down at hk; rw [List.foldl_cons] at hk
    refine W.step (fun k => by simp only [impl_RangeWiden.l0, iNumOk, Option.bind_some]; rfl) ?_
    refine W.pos (by omega) (W.pos (by omega) (W.pos (by omega) ?_))
    rw [wrap64_id (n := (i : Int) + 1) (by omega) (by omega), rd_get hlt, show (i : Int) + 1 = ((i + 1 : Nat) : Int) by omega]
    refine W.dec (fun h1 => W.ite (fun h2 => ?_) (fun h2 => ?_)) (fun h1 => ?_)
    · refine h _ (by unfold mx; split <;> omega) ?_
      have e : mx o xs[i] = if xs[i] ≤ jl ∧ xs[i] > o then xs[i] else o := by
        unfold mx; by_cases hc : o < xs[i]
        · rw [if_pos hc, if_pos ⟨h2, hc⟩]
        · rw [if_neg hc, if_neg (fun hd => hc hd.2)]
      rw [e]; exact hk
    · refine h _ ho ?_
      rw [if_neg (fun hc => h2 hc.1)] at hk; exact hk
    · refine h _ ho ?_
      rw [if_neg (fun hc => h1 ⟨by omega, by omega⟩)] at hk; exact hk
theorem iUp {xs : List Int} (hx : xs.length ≤ 9000000000000000000) {jl jh : Int} (hj : -2147483648 ≤ jh) (d : Nat) : ∀ (i : Nat) (o : Int), o ≤ 2147483647 → i ≤ xs.length → xs.length - i = d →
    W (fun k => impl_RangeWiden.l1 k o xs (xs.length : Int) (i : Int) jl jh) (· = (jl, up jh (xs.drop i) o)) := by
  induction d with
  | zero =>
    intro i o ho hi hd
    refine W.step (fun k => by simp only [impl_RangeWiden.l1]; rfl) ?_
    refine W.neg (by omega) (W.ret ?_)
    rw [List.drop_eq_nil_of_le (by omega)]; rfl
  | succ d ih =>
    intro i o ho hi hd
    have hlt : i < xs.length := by omega
    have h := fun o ho => ih (i + 1) o ho (by omega) (by omega)
    rw [List.drop_eq_getElem_cons hlt]
    unfold up; rw [List.foldl_cons]
    refine W.step (fun k => by simp only [impl_RangeWiden.l1, iNumOk, Option.bind_some]; rfl) ?_
    refine W.pos (by omega) (W.pos (by omega) (W.pos (by omega) ?_))
    rw [wrap64_id (n := (i : Int) + 1) (by omega) (by omega), rd_get hlt, show (i : Int) + 1 = ((i + 1 : Nat) : Int) by omega]
    refine W.dec (fun h1 => W.ite (fun h2 => ?_) (fun h2 => ?_)) (fun h1 => ?_)
    · have e : mn o xs[i] = if xs[i] ≥ jh ∧ xs[i] < o then xs[i] else o := by
        unfold mn; by_cases hc : xs[i] < o
        · rw [if_pos hc, if_pos ⟨h2, hc⟩]
        · rw [if_neg hc, if_neg (fun hd => hc hd.2)]
      rw [e]
      exact h _ (by split <;> omega)
    · rw [if_neg (fun hc => h2 hc.1)]; exact h _ ho
    · rw [if_neg (fun hc => h1 ⟨by omega, by omega⟩)]; exact h _ ho
def widenR (l h l2 h2 : Int) (s : List Int) : Int × Int :=
  if ¬ okR l h ∨ ¬ okR l2 h2 ∨ isNone l h ∨ isNone l2 h2 then rjoin l h l2 h2
  else (if (rjoin l h l2 h2).1 < l then down (rjoin l h l2 h2).1 s (-2147483648) else (rjoin l h l2 h2).1, if (rjoin l h l2 h2).2 > h then up (rjoin l h l2 h2).2 s 2147483647 else (rjoin l h l2 h2).2)
theorem sRangeWiden (l h l2 h2 : Int) {s : List Int} (hs : s.length ≤ 9000000000000000000) : W (fun k => spec_RangeWiden.f k l h l2 h2 s) (· = widenR l h l2 h2 s) := by
  unfold spec_RangeWiden.f
  simp only [sRangeOk, spec_l8None.f, Option.bind_some, bIsNone]
  refine W.bind (sRangeJoin l h l2 h2) ?_
  rintro _ rfl
  have bad : ¬ okR l h ∨ ¬ okR l2 h2 ∨ isNone l h ∨ isNone l2 h2 → W (fun k => spec_RangeWiden.j0 k s true l h (rjoin l h l2 h2).1 (rjoin l h l2 h2).2) (· = widenR l h l2 h2 s) := by
    intro hb
    refine W.step (fun k => by simp only [spec_RangeWiden.j0]; rfl) ?_
    (try refine W.pos (by trivial) ?_)
    exact W.ret (by unfold widenR; rw [if_pos hb])
  have hd : ∀ v, W (fun k => spec_l8Down.f k s v) (· = down v s (-2147483648)) := fun v => sDown hs v _ 0 _ (by omega) rfl
  have hu : ∀ v, W (fun k => spec_l8Up.f k s v) (· = up v s 2147483647) := fun v => sUp hs v _ 0 _ (by omega) rfl
  refine W.dec (fun h1 => W.dec (fun h3 => W.dec (fun h4 => bad (.inr (.inr (.inl h4)))) (fun h4 => ?_)) (fun h3 => bad (.inr (.inl h3)))) (fun h1 => bad (.inl h1))
  by_cases h5 : isNone l2 h2
  · rw [decide_eq_true h5]; exact bad (.inr (.inr (.inr h5)))
  · rw [decide_eq_false h5]
    unfold widenR
    rw [if_neg (by simp [h1, h3, h4, h5])]
    refine W.step (fun k => by simp only [spec_RangeWiden.j0]; rfl) ?_
    (try refine W.neg (by decide) ?_)
    refine W.ite (fun h6 => ?_) (fun h6 => ?_)
    · rw [if_pos h6]
      refine W.bind (hd _) ?_
      rintro _ rfl
      refine W.ite (fun h7 => ?_) (fun h7 => W.ret (by rw [if_neg h7]))
      rw [if_pos h7]
      refine W.bind (hu _) ?_
      rintro _ rfl
      exact W.ret rfl
    · rw [if_neg h6]
      refine W.ite (fun h7 => ?_) (fun h7 => W.ret (by rw [if_neg h7]))
      rw [if_pos h7]
      refine W.bind (hu _) ?_
      rintro _ rfl
      exact W.ret rfl
theorem iRangeWiden (l h l2 h2 : Int) {s : List Int} (hs : s.length ≤ 9000000000000000000) : W (fun k => impl_RangeWiden.f k l h l2 h2 s) (· = widenR l h l2 h2 s) := by
  unfold impl_RangeWiden.f
  simp only [iRangeOk, impl_Range_empty.f, Option.bind_some]
  refine W.bind (iRangeJoin l h l2 h2) ?_
  rintro _ rfl
  have bad : ¬ okR l h ∨ ¬ okR l2 h2 ∨ isNone l h ∨ isNone l2 h2 → W (fun k => impl_RangeWiden.j0 k s true l h (rjoin l h l2 h2).1 (rjoin l h l2 h2).2) (· = widenR l h l2 h2 s) := by
    intro hb
    refine W.step (fun k => by simp only [impl_RangeWiden.j0]; rfl) ?_
    (try refine W.pos (by trivial) ?_)
    exact W.ret (by unfold widenR; rw [if_pos hb])
  refine W.dec (fun h1 => W.dec (fun h3 => W.dec (fun h4 => bad (.inr (.inr (.inl ((okR_gt h1).1 h4))))) (fun h4 => ?_)) (fun h3 => bad (.inr (.inl h3)))) (fun h1 => bad (.inl h1))
  by_cases h5 : l2 > h2
  · rw [decide_eq_true h5]; exact bad (.inr (.inr (.inr ((okR_gt h3).1 h5))))
  · rw [decide_eq_false h5]
    have hn1 : ¬ isNone l h := fun hc => h4 ((okR_gt h1).2 hc)
    have hn2 : ¬ isNone l2 h2 := fun hc => h5 ((okR_gt h3).2 hc)
    have hj : -2147483648 ≤ (rjoin l h l2 h2).2 ∧ (rjoin l h l2 h2).1 ≤ 2147483647 := by
      have := rjoin_ok l h l2 h2; unfold okR at this; omega
    unfold widenR
    rw [if_neg (by simp [h1, h3, hn1, hn2])]
    have j2 : ∀ a : Int, W (fun k => impl_RangeWiden.j2 k s l h a (rjoin l h l2 h2).2) (· = (a, if (rjoin l h l2 h2).2 > h then up (rjoin l h l2 h2).2 s 2147483647 else (rjoin l h l2 h2).2)) := by
      intro a
      refine W.step (fun k => by simp only [impl_RangeWiden.j2]; rfl) ?_
      refine W.ite (fun h7 => ?_) (fun h7 => W.ret (by rw [if_neg h7]))
      rw [if_pos h7]
      exact iUp hs hj.1 _ 0 _ (by omega) (by omega) rfl
    refine W.step (fun k => by simp only [impl_RangeWiden.j0]; rfl) ?_
    (try refine W.neg (by decide) ?_)
    refine W.ite (fun h6 => ?_) (fun h6 => ?_)
    · rw [if_pos h6]
      exact iDown hs hj.2 _ 0 _ (by omega) (by omega) rfl (j2 _)
    · rw [if_neg h6]; exact j2 _

/-! ### lists of numbers, taken over and held against each other -/
theorem toInts_loop {xs : List Int} (hx : xs.length ≤ 1048576) (d : Nat) : ∀ (i : Nat) (ys : List Int), i ≤ xs.length → xs.length - i = d → ys.length = xs.length → ys.take i = xs.take i → W (fun k => laws_toIntS.l0 k xs ys (i : Int)) (· = xs) := by
  induction d with
  | zero =>
    intro i ys hi hd hl ht
    refine W.step (fun k => by simp only [laws_toIntS.l0]; rfl) ?_
    refine W.neg (by omega) (W.ret ?_)
    obtain rfl : i = xs.length := by omega
    rw [List.take_length, ← hl, List.take_length] at ht; exact ht
  | succ d ih =>
    intro i ys hi hd hl ht
    have hlt : i < xs.length := by omega
    refine W.step (fun k => by simp only [laws_toIntS.l0]; rfl) ?_
    refine W.pos (by omega) (W.pos (by omega) (W.pos (by omega) ?_))
    rw [wrap64_id (n := (i : Int) + 1) (by omega) (by omega), show (i : Int) + 1 = ((i + 1 : Nat) : Int) by omega, show rd xs (i : Int) = xs[i] by simp [rd, List.getD_eq_getElem?_getD, List.getElem?_eq_getElem hlt]]
    refine ih (i + 1) _ (by omega) (by omega) (by simp [hl]) ?_
    rw [Int.toNat_natCast, List.take_succ_eq_append_getElem (by simpa using by omega), List.take_succ_eq_append_getElem hlt, List.getElem_set_self, List.take_set_of_le (by omega), ht]
theorem toInts {xs : List Int} (hx : xs.length ≤ 1048576) : W (fun k => laws_toIntS.f k xs) (· = xs) := by
  unfold laws_toIntS.f
  refine W.pos (by omega) (W.pos (by omega) ?_)
  exact toInts_loop hx _ 0 _ (by omega) rfl (by simp) (by simp)
theorem eqInts_loop {xs : List Int} (hx : xs.length ≤ 1048576) (d : Nat) : ∀ i : Nat, i ≤ xs.length → xs.length - i = d → W (fun k => laws_eqIntS.l0 k xs xs (i : Int)) (· = true) := by
  induction d with
  | zero =>
    intro i hi hd
    refine W.step (fun k => by simp only [laws_eqIntS.l0]; rfl) ?_
    exact W.neg (by omega) (W.ret rfl)
  | succ d ih =>
    intro i hi hd
    refine W.step (fun k => by simp only [laws_eqIntS.l0]; rfl) ?_
    refine W.pos (by omega) (W.pos (by omega) (W.pos (by omega) (W.pos (by trivial) ?_)))
    rw [wrap64_id (n := (i : Int) + 1) (by omega) (by omega), show (i : Int) + 1 = ((i + 1 : Nat) : Int) by omega]
    exact ih (i + 1) (by omega) (by omega)
theorem eqInts {xs : List Int} (hx : xs.length ≤ 1048576) : W (fun k => laws_eqIntS.f k xs xs) (· = true) := by
  unfold laws_eqIntS.f
  refine W.pos (by trivial) ?_
  exact eqInts_loop hx _ 0 (by omega) rfl

def widenV (l h m t l2 h2 m2 t2 : Int) (s : List Int) : Int × Int × Int × Int :=
  if ¬ okV l h m t ∨ ¬ okV l2 h2 m2 t2 ∨ isNV l h m t ∨ isNV l2 h2 m2 t2 then joinV l h m t l2 h2 m2 t2
  else mkV (widenR l h l2 h2 s).1 (widenR l h l2 h2 s).2 (joinS m t m2 t2).1 (joinS m t m2 t2).2
theorem iValWiden (l h m t l2 h2 m2 t2 : Int) {s : List Int} (hs : s.length ≤ 9000000000000000000) : W (fun k => impl_ValWiden.f k l h m t l2 h2 m2 t2 s) (· = widenV l h m t l2 h2 m2 t2 s) := by
  unfold impl_ValWiden.f
  simp only [iVal_none, Option.bind_some]
  have bad : ¬ okV l h m t ∨ ¬ okV l2 h2 m2 t2 ∨ isNV l h m t ∨ isNV l2 h2 m2 t2 → W (fun k => impl_ValWiden.j0 k s true l h m t l2 h2 m2 t2) (· = widenV l h m t l2 h2 m2 t2 s) := by
    intro hb
    refine W.step (fun k => by simp only [impl_ValWiden.j0]; rfl) ?_
    (try refine W.pos (by trivial) ?_)
    refine W.bind (iValJoin l h m t l2 h2 m2 t2) ?_
    rintro _ rfl
    exact W.ret (by unfold widenV; rw [if_pos hb])
  refine W.bind (iValOk l h m t) ?_
  rintro _ rfl
  refine W.dec (fun h1 => ?_) (fun h1 => bad (.inl h1))
  refine W.bind (iValOk l2 h2 m2 t2) ?_
  rintro _ rfl
  refine W.dec (fun h3 => W.dec (fun h4 => bad (.inr (.inr (.inl h4)))) (fun h4 => ?_)) (fun h3 => bad (.inr (.inl h3)))
  by_cases h5 : isNV l2 h2 m2 t2
  · rw [decide_eq_true h5]; exact bad (.inr (.inr (.inr h5)))
  · rw [decide_eq_false h5]
    unfold widenV
    rw [if_neg (by simp [h1, h3, h4, h5])]
    refine W.step (fun k => by simp only [impl_ValWiden.j0, impl_Val_span.f, impl_Val_rest.f, Option.bind_some]; rfl) ?_
    (try refine W.neg (by decide) ?_)
    refine W.bind (iRangeWiden l h l2 h2 hs) ?_
    rintro _ rfl
    refine W.bind (iRestJoin m t m2 t2) ?_
    rintro _ rfl
    refine W.bind (iValMake _ _ _ _) ?_
    rintro _ rfl
    exact W.ret rfl
theorem sValWiden (l h m t l2 h2 m2 t2 : Int) {s : List Int} (hs : s.length ≤ 9000000000000000000) : W (fun k => spec_ValWiden.f k l h m t l2 h2 m2 t2 s) (· = widenV l h m t l2 h2 m2 t2 s) := by
  unfold spec_ValWiden.f
  simp only [spec_l10None.f, Option.bind_some, bNV]
  refine W.bind (sValJoin l h m t l2 h2 m2 t2) ?_
  rintro _ rfl
  have bad : ¬ okV l h m t ∨ ¬ okV l2 h2 m2 t2 ∨ isNV l h m t ∨ isNV l2 h2 m2 t2 → W (fun k => spec_ValWiden.j0 k s true l h m t l2 h2 m2 t2 (joinV l h m t l2 h2 m2 t2).1 (joinV l h m t l2 h2 m2 t2).2.1 (joinV l h m t l2 h2 m2 t2).2.2.1 (joinV l h m t l2 h2 m2 t2).2.2.2) (· = widenV l h m t l2 h2 m2 t2 s) := by
    intro hb
    refine W.step (fun k => by simp only [spec_ValWiden.j0]; rfl) ?_
    (try refine W.pos (by trivial) ?_)
    exact W.ret (by unfold widenV; rw [if_pos hb])
  refine W.bind (sValOk l h m t) ?_
  rintro _ rfl
  refine W.dec (fun h1 => ?_) (fun h1 => bad (.inl h1))
  refine W.bind (sValOk l2 h2 m2 t2) ?_
  rintro _ rfl
  refine W.dec (fun h3 => W.dec (fun h4 => bad (.inr (.inr (.inl h4)))) (fun h4 => ?_)) (fun h3 => bad (.inr (.inl h3)))
  by_cases h5 : isNV l2 h2 m2 t2
  · rw [decide_eq_true h5]; exact bad (.inr (.inr (.inr h5)))
  · rw [decide_eq_false h5]
    unfold widenV
    rw [if_neg (by simp [h1, h3, h4, h5])]
    refine W.step (fun k => by simp only [spec_ValWiden.j0, spec_l10Range.f, spec_l10Rest.f, Option.bind_some]; rfl) ?_
    (try refine W.neg (by decide) ?_)
    refine W.bind (sRangeWiden l h l2 h2 hs) ?_
    rintro _ rfl
    refine W.bind (sRestJoin m t m2 t2) ?_
    rintro _ rfl
    refine W.bind (sValMake _ _ _ _) ?_
    rintro _ rfl
    exact W.ret rfl
theorem eqVal_same (a b c d : Int) : laws_eqVal.f a b c d a b c d = some true := by simp [laws_eqVal.f]
theorem FnExactValWiden (a b c d e f g h : Int) (l : List Int) (_ : (Lit.int .i64 a).wf = true) (_ : (Lit.int .i64 b).wf = true) (_ : (Lit.int .i64 c).wf = true) (_ : (Lit.int .i64 d).wf = true) (_ : (Lit.int .i64 e).wf = true) (_ : (Lit.int .i64 f).wf = true) (_ : (Lit.int .i64 g).wf = true) (_ : (Lit.int .i64 h).wf = true) (_ : l.length ≤ maxLen) (_ : l.length * 8 ≤ 140737488351232) (_ : ∀ x ∈ l, (Lit.int .i64 x).wf = true) : ∃ k, laws_FnExactValWiden.f k a b c d e f g h l = some true := by
  apply W.eq
  unfold laws_FnExactValWiden.f
  simp only [laws_toVal.f, Option.bind_some]
  refine W.ite (fun _ => W.ret rfl) (fun hl => ?_)
  have hx : l.length ≤ 1048576 := by omega
  refine W.bind (toInts hx) ?_
  rintro _ rfl
  refine W.bind (sValWiden a b c d e f g h (by omega)) ?_
  rintro _ rfl
  refine W.bind (toInts hx) ?_
  rintro _ rfl
  refine W.bind (iValWiden a b c d e f g h (by omega)) ?_
  rintro _ rfl
  simp only [eqVal_same, Option.bind_some]
  refine W.pos (by trivial) ?_
  refine W.bind (toInts hx) ?_
  rintro _ rfl
  refine W.bind (eqInts hx) ?_
  rintro _ rfl
  exact W.pos (by trivial) (W.ret rfl)

end Go.Proofs.Ytnmccgjdnceheaa.Pure
