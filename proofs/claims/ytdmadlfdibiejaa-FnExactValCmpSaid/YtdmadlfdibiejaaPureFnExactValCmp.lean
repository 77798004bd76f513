/- The pure statement of the law FnExactValCmp: for every input the printed function answers true. -/
import Derived.Test.YtdmadlfdibiejaaPFnExactValCmpx0
import Derived.Test.YtdmadlfdibiejaaPFnExactValCmpx1
import Derived.Test.YtdmadlfdibiejaaPFnExactValCmpx2
import Derived.Test.YtdmadlfdibiejaaPFnExactValCmpx3
import Derived.Test.YtdmadlfdibiejaaPFnExactValCmpx4
import Derived.Test.YtdmadlfdibiejaaPFnExactValCmpx5
import Derived.Test.YtdmadlfdibiejaaPFnExactValCmpx6
import Derived.Test.YtdmadlfdibiejaaPFnExactValCmpx7
import Derived.Test.YtdmadlfdibiejaaPFnExactValCmpx8
import Derived.Test.YtdmadlfdibiejaaPFnExactValCmpx9
import Derived.Test.YtdmadlfdibiejaaLv
namespace Go.Proofs.Ytdmadlfdibiejaa.Pure
open Go Go.RowKit Go.Proofs.Ytdmadlfdibiejaa.PFnExactValCmp Go.Proofs.YtdmadlfdibiejaaV.PrintWords Go.Proofs.YtdmadlfdibiejaaV.PrintLast Go.Proofs.YtdmadlfdibiejaaV.PrintMore Go.Proofs.Ytdmadlfdibiejaa.Lib
set_option linter.unusedVariables false
set_option linter.unusedSimpArgs false

theorem tmod_pos {a n : Int} (h : 0 ≤ a) (hn : 1 ≤ n) : 0 ≤ a.tmod n ∧ a.tmod n < n := by
  rw [Int.tmod_eq_emod_of_nonneg h]
  exact ⟨Int.emod_nonneg _ (by omega), Int.emod_lt_of_pos _ (by omega)⟩

def okN (v : Int) : Prop := -2147483648 ≤ v ∧ v ≤ 2147483647
instance (v : Int) : Decidable (okN v) := by unfold okN; exact inferInstance
theorem sNumOk (v : Int) : spec_NumOk.f v = some (decide (okN v)) := by
  simp only [spec_NumOk.f, spec_l1In.f, okN]
  by_cases h : v ≥ -2147483648 <;> simp [h]
theorem iNumOk (v : Int) : impl_NumOk.f v = some (decide (okN v)) := by
  simp only [impl_NumOk.f, okN]
  by_cases h : v ≥ -2147483648 <;> simp [h]

/-! ### ranges: whether they are as they must be -/
def okR (l h : Int) : Prop := (l = 1 ∧ h = 0) ∨ (-2147483648 ≤ l ∧ l ≤ h ∧ h ≤ 2147483647)
instance (l h : Int) : Decidable (okR l h) := by unfold okR; exact inferInstance
theorem sRangeOk (l h : Int) : spec_RangeOk.f l h = some (decide (okR l h)) := by
  simp only [spec_RangeOk.f, spec_l8None.f, sNumOk, Option.bind_some]
  by_cases h1 : l = 1 ∧ h = 0
  · obtain ⟨rfl, rfl⟩ := h1; rfl
  · have : (l == 1 && h == 0) = false := by simpa using h1
    rw [this]; simp only [Bool.false_eq_true, if_false, okR, okN]
    by_cases h2 : -2147483648 ≤ l ∧ l ≤ 2147483647
    · by_cases h3 : -2147483648 ≤ h ∧ h ≤ 2147483647
      · simp only [h2, h3, and_self, true_and, and_true, decide_true, if_true]; congr 1; apply decide_eq_decide.2; omega
      · simp only [h2, h3, and_self, decide_true, decide_false, if_true, Bool.false_eq_true, if_false]; congr 1; symm; apply decide_eq_false; omega
    · simp only [h2, decide_false, Bool.false_eq_true, if_false]; congr 1; symm; apply decide_eq_false; omega
theorem iRangeOk (l h : Int) : impl_RangeOk.f l h = some (decide (okR l h)) := by
  simp only [impl_RangeOk.f, impl_rangeNone.f, iNumOk, Option.bind_some]
  by_cases h1 : l = 1 ∧ h = 0
  · obtain ⟨rfl, rfl⟩ := h1; rfl
  · have : (l == 1 && h == 0) = false := by simpa using h1
    rw [this]; simp only [Bool.false_eq_true, if_false, okR, okN]
    by_cases h2 : -2147483648 ≤ l ∧ l ≤ 2147483647
    · by_cases h3 : -2147483648 ≤ h ∧ h ≤ 2147483647
      · simp only [h2, h3, and_self, true_and, and_true, decide_true, if_true]; congr 1; apply decide_eq_decide.2; omega
      · simp only [h2, h3, and_self, decide_true, decide_false, if_true, Bool.false_eq_true, if_false]; congr 1; symm; apply decide_eq_false; omega
    · simp only [h2, decide_false, Bool.false_eq_true, if_false]; congr 1; symm; apply decide_eq_false; omega

/-! ### ranges: cut, joined, met -/
def cut (l h : Int) : Int × Int := if mx l (-2147483648) > mn h 2147483647 then (1, 0) else (mx l (-2147483648), mn h 2147483647)
def isNone (l h : Int) : Prop := l = 1 ∧ h = 0
instance (l h : Int) : Decidable (isNone l h) := by unfold isNone; exact inferInstance
theorem okR_gt {l h : Int} (o : okR l h) : l > h ↔ isNone l h := by unfold okR at o; unfold isNone; omega
theorem bIsNone (l h : Int) : (l == 1 && h == 0) = decide (isNone l h) := by
  rw [Bool.eq_iff_iff, decide_eq_true_iff]; unfold isNone; simp

theorem sMin (a b : Int) : spec_l8Min.f a b = some (mn a b) := by unfold spec_l8Min.f mn; split <;> split <;> first | rfl | (congr 1; omega)
theorem sMax (a b : Int) : spec_l8Max.f a b = some (mx a b) := by unfold spec_l8Max.f mx; split <;> split <;> first | rfl | (congr 1; omega)

theorem sRangeHas (l h v : Int) : spec_RangeHas.f l h v = some (decide (okR l h ∧ l ≤ v ∧ v ≤ h)) := by
  simp only [spec_RangeHas.f, spec_l1In.f, sRangeOk, Option.bind_some]
  by_cases h1 : okR l h
  · by_cases h2 : l ≤ v
    · simp [h1, h2]
    · simp [h1, h2]
  · simp [h1]
theorem iRangeHas (l h v : Int) : impl_RangeHas.f l h v = some (decide (okR l h ∧ l ≤ v ∧ v ≤ h)) := by
  simp only [impl_RangeHas.f, iRangeOk, Option.bind_some]
  by_cases h1 : okR l h
  · by_cases h2 : l ≤ v
    · simp [h1, h2]
    · simp [h1, h2]
  · simp [h1]

/-! ### rests -/
def okS (m t : Int) : Prop := (m = 0 ∧ okN t) ∨ (1 ≤ m ∧ m ≤ 65536 ∧ 0 ≤ t ∧ t < m)
instance (m t : Int) : Decidable (okS m t) := by unfold okS; exact inferInstance
theorem sIn (v a b : Int) : spec_l1In.f v a b = some (decide (a ≤ v ∧ v ≤ b)) := by
  simp only [spec_l1In.f]
  by_cases h : v ≥ a <;> simp [h]
theorem sRestOk (m t : Int) : spec_RestOk.f m t = some (decide (okS m t)) := by
  simp only [spec_RestOk.f, sNumOk, sIn, Option.bind_some]
  by_cases h0 : m = 0
  · subst h0; rw [if_pos rfl]; congr 1; apply decide_eq_decide.2; unfold okS okN; omega
  · rw [if_neg h0]
    by_cases h1 : 1 ≤ m ∧ m ≤ 65536
    · rw [if_pos (decide_eq_true h1), wrap64_id (by omega) (by omega)]; congr 1; apply decide_eq_decide.2; unfold okS; omega
    · rw [if_neg (by rw [decide_eq_true_iff]; exact h1)]; congr 1; symm; apply decide_eq_false; unfold okS; omega
theorem iRestOk (m t : Int) : impl_RestOk.f m t = some (decide (okS m t)) := by
  simp only [impl_RestOk.f, iNumOk, Option.bind_some]
  by_cases h0 : m = 0
  · subst h0; rw [if_pos rfl]; congr 1; apply decide_eq_decide.2; unfold okS okN; omega
  · rw [if_neg h0]
    split
    · split
      · split
        · congr 1; apply decide_eq_decide.2; unfold okS; omega
        · congr 1; symm; apply decide_eq_false; unfold okS; omega
      · congr 1; symm; apply decide_eq_false; unfold okS; omega
    · congr 1; symm; apply decide_eq_false; unfold okS; omega

theorem sMod {a : Int} (m : Int) (h0 : 0 < m) (h1 : m ≤ 4294967296) : spec_l1Mod.f a m = some (a % m) := by
  simp only [spec_l1Mod.f]
  have e := tmod_up (n := a) (m := m) h0
  have b := tmod_bounds (n := a) (m := m) h0
  rw [if_neg (by omega)]
  by_cases hn : a.tmod m < 0
  · rw [if_pos hn] at e ⊢
    rw [wrap64_id (by omega) (by omega), e]
  · rw [if_neg hn] at e ⊢
    rw [e]
theorem iMod {a : Int} (m : Int) (h0 : 0 < m) (h1 : m ≤ 4294967296) : impl_restMod.f a m = some (a % m) := by
  simp only [impl_restMod.f]
  have e := tmod_up (n := a) (m := m) h0
  have b := tmod_bounds (n := a) (m := m) h0
  rw [if_neg (by omega)]
  by_cases hn : a.tmod m < 0
  · rw [if_pos hn] at e ⊢
    rw [wrap64_id (by omega) (by omega), e]
  · rw [if_neg hn] at e ⊢
    rw [e]

theorem okS_pos {m t : Int} (h : okS m t) (h0 : m ≠ 0) : 1 ≤ m ∧ m ≤ 65536 ∧ 0 ≤ t ∧ t < m := by unfold okS at h; omega

/-! ### vals -/
def mkV (l h m t : Int) : Int × Int × Int × Int :=
  if ¬ okR l h ∨ ¬ okS m t ∨ isNone l h then (1, 0, 0, 0)
  else if m = 0 then (if l ≤ t ∧ t ≤ h then (t, t, 0, t) else (1, 0, 0, 0))
  else if l + (t - l) % m > h - (h - t) % m then (1, 0, 0, 0)
  else if l + (t - l) % m = h - (h - t) % m then (l + (t - l) % m, l + (t - l) % m, 0, l + (t - l) % m)
  else (l + (t - l) % m, h - (h - t) % m, m, t)
theorem sValMake (l h m t : Int) : W (fun k => spec_ValMake.f k l h m t) (· = mkV l h m t) := by
  unfold spec_ValMake.f
  simp only [sRangeOk, sRestOk, spec_l8None.f, Option.bind_some, bIsNone]
  have bad : ¬ okR l h ∨ ¬ okS m t ∨ isNone l h → W (fun k => spec_ValMake.j0 k true l h m t) (· = mkV l h m t) := by
    intro hb
    refine W.step (fun k => by simp only [spec_ValMake.j0, spec_l10None.f, Option.bind_some]; rfl) ?_
    (try refine W.pos (by trivial) ?_)
    exact W.ret (by unfold mkV; rw [if_pos hb])
  refine W.dec (fun h1 => W.dec (fun h2 => ?_) (fun h2 => bad (.inr (.inl h2)))) (fun h1 => bad (.inl h1))
  by_cases h3 : isNone l h
  · rw [decide_eq_true h3]; exact bad (.inr (.inr h3))
  · rw [decide_eq_false h3]
    have hk : ¬ (¬ okR l h ∨ ¬ okS m t ∨ isNone l h) := by simp [h1, h2, h3]
    unfold mkV
    rw [if_neg hk]
    refine W.step (fun k => by simp only [spec_ValMake.j0, spec_l10None.f, spec_l10One.f, sRangeHas, Option.bind_some]; rfl) ?_
    (try refine W.neg (by decide) ?_)
    refine W.ite (fun h4 => ?_) (fun h4 => ?_)
    · rw [if_pos h4]
      refine W.dec (fun h5 => W.ret (by rw [if_pos h5.2])) (fun h5 => W.ret (by rw [if_neg (fun hc => h5 ⟨h1, hc⟩)]))
    · rw [if_neg h4]
      have o := okS_pos h2 h4
      have r : -2147483648 ≤ l ∧ l ≤ h ∧ h ≤ 2147483647 := by unfold okR at h1; unfold isNone at h3; omega
      have e1 := Int.emod_nonneg (t - l) (show m ≠ 0 by omega); have e2 := Int.emod_lt_of_pos (t - l) (show 0 < m by omega)
      have e3 := Int.emod_nonneg (h - t) (show m ≠ 0 by omega); have e4 := Int.emod_lt_of_pos (h - t) (show 0 < m by omega)
      rw [wrap64_id (n := t - l) (by omega) (by omega), wrap64_id (n := h - t) (by omega) (by omega), sMod m (by omega) (by omega), sMod m (by omega) (by omega)]
      simp only [Option.bind_some]
      rw [wrap64_id (n := l + (t - l) % m) (by omega) (by omega), wrap64_id (n := h - (h - t) % m) (by omega) (by omega)]
      refine W.ite (fun h5 => W.ret (by rw [if_pos h5])) (fun h5 => ?_)
      rw [if_neg h5]
      exact W.ite (fun h6 => W.ret (by rw [if_pos h6])) (fun h6 => W.ret (by rw [if_neg h6]))
theorem iValMake (l h m t : Int) : W (fun k => impl_ValMake.f k l h m t) (· = mkV l h m t) := by
  unfold impl_ValMake.f
  simp only [iRangeOk, iRestOk, impl_Range_empty.f, Option.bind_some]
  have bad : ¬ okR l h ∨ ¬ okS m t ∨ isNone l h → W (fun k => impl_ValMake.j0 k true l h m t) (· = mkV l h m t) := by
    intro hb
    refine W.step (fun k => by simp only [impl_ValMake.j0, impl_valNone.f, Option.bind_some]; rfl) ?_
    (try refine W.pos (by trivial) ?_)
    exact W.ret (by unfold mkV; rw [if_pos hb])
  refine W.dec (fun h1 => W.dec (fun h2 => ?_) (fun h2 => bad (.inr (.inl h2)))) (fun h1 => bad (.inl h1))
  by_cases h3 : l > h
  · rw [decide_eq_true h3]; exact bad (.inr (.inr ((okR_gt h1).1 h3)))
  · rw [decide_eq_false h3]
    have h3' : ¬ isNone l h := fun hc => h3 ((okR_gt h1).2 hc)
    have hk : ¬ (¬ okR l h ∨ ¬ okS m t ∨ isNone l h) := by simp [h1, h2, h3']
    unfold mkV
    rw [if_neg hk]
    refine W.step (fun k => by simp only [impl_ValMake.j0, impl_valNone.f, impl_valOne.f, iRangeHas, Option.bind_some]; rfl) ?_
    (try refine W.neg (by decide) ?_)
    refine W.ite (fun h4 => ?_) (fun h4 => ?_)
    · rw [if_pos h4]
      refine W.dec (fun h5 => W.ret (by rw [if_pos h5.2])) (fun h5 => W.ret (by rw [if_neg (fun hc => h5 ⟨h1, hc⟩)]))
    · rw [if_neg h4]
      have o := okS_pos h2 h4
      have r : -2147483648 ≤ l ∧ l ≤ h ∧ h ≤ 2147483647 := by unfold okR at h1; unfold isNone at h3'; omega
      have e1 := Int.emod_nonneg (t - l) (show m ≠ 0 by omega); have e2 := Int.emod_lt_of_pos (t - l) (show 0 < m by omega)
      have e3 := Int.emod_nonneg (h - t) (show m ≠ 0 by omega); have e4 := Int.emod_lt_of_pos (h - t) (show 0 < m by omega)
      rw [wrap64_id (n := t - l) (by omega) (by omega), wrap64_id (n := h - t) (by omega) (by omega), iMod m (by omega) (by omega), iMod m (by omega) (by omega)]
      simp only [Option.bind_some]
      rw [wrap64_id (n := l + (t - l) % m) (by omega) (by omega), wrap64_id (n := h - (h - t) % m) (by omega) (by omega)]
      refine W.ite (fun h5 => W.ret (by rw [if_pos h5])) (fun h5 => ?_)
      rw [if_neg h5]
      exact W.ite (fun h6 => W.ret (by rw [if_pos h6])) (fun h6 => W.ret (by rw [if_neg h6]))

def isNV (l h m t : Int) : Prop := l = 1 ∧ h = 0 ∧ m = 0 ∧ t = 0
instance (l h m t : Int) : Decidable (isNV l h m t) := by unfold isNV; exact inferInstance
theorem bNV (l h m t : Int) : (l == 1 && (h == 0 && (m == 0 && (t == 0)))) = decide (isNV l h m t) := by
  rw [Bool.eq_iff_iff, decide_eq_true_iff]; unfold isNV; simp
def okV (l h m t : Int) : Prop := (l, h, m, t) = mkV l h m t
instance (l h m t : Int) : Decidable (okV l h m t) := by unfold okV; exact inferInstance
theorem bEq4 (l h m t : Int) (x : Int × Int × Int × Int) : (l == x.1 && (h == x.2.1 && (m == x.2.2.1 && (t == x.2.2.2)))) = decide ((l, h, m, t) = x) := by
  obtain ⟨a, b, c, d⟩ := x
  rw [Bool.eq_iff_iff, decide_eq_true_iff]; simp
theorem okV_none {l h m t : Int} (hn : isNV l h m t) : okV l h m t := by
  obtain ⟨rfl, rfl, rfl, rfl⟩ := hn
  unfold okV mkV
  rw [if_pos (.inr (.inr ⟨rfl, rfl⟩))]
theorem okV_some {l h m t : Int} (ho : okV l h m t) (hn : ¬ isNV l h m t) : okR l h ∧ okS m t ∧ ¬ isNone l h := by
  unfold okV at ho
  refine Decidable.byContradiction fun hc => hn ?_
  have hk : ¬ okR l h ∨ ¬ okS m t ∨ isNone l h := by
    by_cases h1 : okR l h
    · by_cases h2 : okS m t
      · by_cases h3 : isNone l h
        · exact .inr (.inr h3)
        · exact absurd ⟨h1, h2, h3⟩ hc
      · exact .inr (.inl h2)
    · exact .inl h1
  unfold mkV at ho
  rw [if_pos hk] at ho
  simp only [Prod.mk.injEq] at ho
  exact ho
theorem okV_okR {l h m t : Int} (ho : okV l h m t) : okR l h := by
  by_cases hn : isNV l h m t
  · exact .inl ⟨hn.1, hn.2.1⟩
  · exact (okV_some ho hn).1
theorem isNV_iff {l h m t : Int} (ho : okV l h m t) : isNV l h m t ↔ isNone l h := by
  constructor
  · exact fun hn => ⟨hn.1, hn.2.1⟩
  · exact fun hc => Decidable.byContradiction fun hn => (okV_some ho hn).2.2 hc
theorem iValOk (l h m t : Int) : W (fun k => impl_ValOk.f k l h m t) (· = decide (okV l h m t)) := by
  unfold impl_ValOk.f
  simp only [impl_Val_span.f, impl_Val_rest.f, Option.bind_some]
  refine W.bind (iValMake l h m t) ?_
  rintro _ rfl
  exact W.ret (by rw [bEq4]; rfl)
theorem sValOk (l h m t : Int) : W (fun k => spec_ValOk.f k l h m t) (· = decide (okV l h m t)) := by
  unfold spec_ValOk.f
  simp only [spec_l10None.f, spec_l10Range.f, spec_l10Rest.f, sRangeOk, sRestOk, Option.bind_some, bNV]
  refine W.dec (fun h1 => W.ret (by symm; exact decide_eq_true (okV_none h1))) (fun h1 => ?_)
  refine W.dec (fun h2 => W.dec (fun h3 => ?_) (fun h3 => W.ret ?_)) (fun h2 => W.ret ?_)
  · refine W.bind (sValMake l h m t) ?_
    rintro _ rfl
    exact W.ret (by rw [bEq4]; rfl)
  · symm; exact decide_eq_false fun ho => h3 (okV_some ho h1).2.1
  · symm; exact decide_eq_false fun ho => h2 (okV_some ho h1).1

theorem iVal_none (l h m t : Int) : impl_Val_none.f l h m t = some (decide (isNV l h m t)) := by
  simp only [impl_Val_none.f, impl_valNone.f, Option.bind_some, bNV]

theorem sCut (l h : Int) : spec_l8Cut.f l h = some (cut l h) := by
  unfold spec_l8Cut.f cut
  simp only [sMin, sMax, spec_l8None.f, Option.bind_some]
  split <;> rfl
theorem iFrom (l h : Int) : impl_rangeFrom.f l h = some (cut l h) := by
  unfold impl_rangeFrom.f cut
  simp only [impl_rangeNone.f, Option.bind_some]
  split <;> rfl
theorem cut_ok (l h : Int) : (cut l h = (1, 0)) ∨ ((cut l h).1 ≤ (cut l h).2 ∧ -2147483648 ≤ (cut l h).1 ∧ (cut l h).2 ≤ 2147483647) := by
  unfold cut mx mn
  by_cases h1 : l < -2147483648 <;> by_cases h2 : 2147483647 < h <;> simp only [h1, h2, if_true, if_false] <;> split <;> first | (left; rfl) | (right; simp only; omega)
theorem cut_okR (l h : Int) : okR (cut l h).1 (cut l h).2 := by
  rcases cut_ok l h with e | e
  · rw [e]; exact .inl ⟨rfl, rfl⟩
  · exact .inr ⟨by omega, by omega, by omega⟩

def rmeet (l h l2 h2 : Int) : Int × Int := if ¬ okR l h ∨ ¬ okR l2 h2 ∨ isNone l h ∨ isNone l2 h2 then (1, 0) else cut (mx l l2) (mn h h2)
theorem sRangeMeet (l h l2 h2 : Int) : W (fun k => spec_RangeMeet.f k l h l2 h2) (· = rmeet l h l2 h2) := by
  unfold spec_RangeMeet.f
  simp only [sRangeOk, spec_l8None.f, Option.bind_some, bIsNone]
  have bad : ¬ okR l h ∨ ¬ okR l2 h2 ∨ isNone l h ∨ isNone l2 h2 → W (fun k => spec_RangeMeet.j0 k true l h l2 h2) (· = rmeet l h l2 h2) := by
    intro hb
    refine W.step (fun k => by simp only [spec_RangeMeet.j0, spec_l8None.f, Option.bind_some]; rfl) ?_
    exact W.pos (by trivial) (W.ret (by unfold rmeet; rw [if_pos hb]))
  refine W.dec (fun h1 => W.dec (fun h3 => W.dec (fun h4 => ?_) (fun h4 => ?_)) (fun h3 => bad (.inr (.inl h3)))) (fun h1 => bad (.inl h1))
  · exact bad (.inr (.inr (.inl h4)))
  · by_cases h5 : isNone l2 h2
    · rw [decide_eq_true h5]; exact bad (.inr (.inr (.inr h5)))
    · rw [decide_eq_false h5]
      refine W.step (fun k => by simp only [spec_RangeMeet.j0, spec_l8None.f, Option.bind_some, sMin, sMax, sCut]; rfl) ?_
      exact W.neg (by decide) (W.ret (by unfold rmeet; rw [if_neg (by simp [h1, h3, h4, h5])]))
theorem iRangeMeet (l h l2 h2 : Int) : W (fun k => impl_RangeMeet.f k l h l2 h2) (· = rmeet l h l2 h2) := by
  unfold impl_RangeMeet.f
  simp only [iRangeOk, impl_Range_empty.f, Option.bind_some]
  have bad : ¬ okR l h ∨ ¬ okR l2 h2 ∨ isNone l h ∨ isNone l2 h2 → W (fun k => impl_RangeMeet.j0 k true l h l2 h2) (· = rmeet l h l2 h2) := by
    intro hb
    refine W.step (fun k => by simp only [impl_RangeMeet.j0, impl_rangeNone.f, Option.bind_some]; rfl) ?_
    exact W.pos (by trivial) (W.ret (by unfold rmeet; rw [if_pos hb]))
  refine W.dec (fun h1 => W.dec (fun h3 => W.dec (fun h4 => ?_) (fun h4 => ?_)) (fun h3 => bad (.inr (.inl h3)))) (fun h1 => bad (.inl h1))
  · exact bad (.inr (.inr (.inl ((okR_gt h1).1 h4))))
  · by_cases h5 : l2 > h2
    · rw [decide_eq_true h5]; exact bad (.inr (.inr (.inr ((okR_gt h3).1 h5))))
    · rw [decide_eq_false h5]
      refine W.step (fun k => by simp only [impl_RangeMeet.j0, impl_rangeNone.f, Option.bind_some, iFrom]; rfl) ?_
      exact W.neg (by decide) (W.ret (by unfold rmeet; rw [if_neg (by rw [← okR_gt h1, ← okR_gt h3]; simp only [h1, h3, not_true, false_or]; omega)]))
theorem rmeet_ok (l h l2 h2 : Int) : okR (rmeet l h l2 h2).1 (rmeet l h l2 h2).2 := by
  unfold rmeet
  split
  · exact .inl ⟨rfl, rfl⟩
  · exact cut_okR _ _

/-! ### ranges compared -/
def fin (x0 x1 y0 y1 : Int) : Int × Int × Int × Int := if isNone x0 x1 ∨ isNone y0 y1 then (1, 0, 1, 0) else (x0, x1, y0, y1)
def ne (a0 a1 b0 b1 : Int) : Int × Int := if b0 = b1 then (if a0 = b0 then cut (a0 + 1) a1 else if a1 = b0 then cut a0 (a1 - 1) else (a0, a1)) else (a0, a1)
def badC (a0 a1 b0 b1 : Int) : Prop := ¬ okR a0 a1 ∨ ¬ okR b0 b1 ∨ isNone a0 a1 ∨ isNone b0 b1
instance (a0 a1 b0 b1 : Int) : Decidable (badC a0 a1 b0 b1) := by unfold badC; exact inferInstance
def core (c a0 a1 b0 b1 : Int) : (Int × Int) × (Int × Int) :=
  if c = 1 then (rmeet a0 a1 b0 b1, rmeet a0 a1 b0 b1) else if c = 2 then (ne a0 a1 b0 b1, ne b0 b1 a0 a1) else if c = 3 then (cut a0 (mn a1 (b1 - 1)), cut (mx b0 (a0 + 1)) b1) else if c = 4 then (cut a0 (mn a1 b1), cut (mx b0 a0) b1) else ((1, 0), (1, 0))
def fin2 (r : (Int × Int) × (Int × Int)) : Int × Int × Int × Int := fin r.1.1 r.1.2 r.2.1 r.2.2
def rcmp0 (c a0 a1 b0 b1 : Int) : Int × Int × Int × Int := if badC a0 a1 b0 b1 then (1, 0, 1, 0) else fin2 (core c a0 a1 b0 b1)
def swp (r : Int × Int × Int × Int) : Int × Int × Int × Int := fin r.2.2.1 r.2.2.2 r.1 r.2.1
def rcmp (c a0 a1 b0 b1 : Int) : Int × Int × Int × Int := if badC a0 a1 b0 b1 then (1, 0, 1, 0) else if c = 5 then swp (rcmp0 3 b0 b1 a0 a1) else if c = 6 then swp (rcmp0 4 b0 b1 a0 a1) else rcmp0 c a0 a1 b0 b1
def okP (p : Int × Int) : Prop := okR p.1 p.2
theorem ne_ok {a0 a1 b0 b1 : Int} (h : okR a0 a1) : okP (ne a0 a1 b0 b1) := by
  unfold ne
  split
  · split
    · exact cut_okR _ _
    · split
      · exact cut_okR _ _
      · exact h
  · exact h
theorem core_ok {c a0 a1 b0 b1 : Int} (ha : okR a0 a1) (hb : okR b0 b1) : okP (core c a0 a1 b0 b1).1 ∧ okP (core c a0 a1 b0 b1).2 := by
  unfold core
  split
  · exact ⟨rmeet_ok _ _ _ _, rmeet_ok _ _ _ _⟩
  split
  · exact ⟨ne_ok ha, ne_ok hb⟩
  split
  · exact ⟨cut_okR _ _, cut_okR _ _⟩
  split
  · exact ⟨cut_okR _ _, cut_okR _ _⟩
  · exact ⟨.inl ⟨rfl, rfl⟩, .inl ⟨rfl, rfl⟩⟩
theorem fin_ok {x0 x1 y0 y1 : Int} (hx : okR x0 x1) (hy : okR y0 y1) : okR (fin x0 x1 y0 y1).1 (fin x0 x1 y0 y1).2.1 ∧ okR (fin x0 x1 y0 y1).2.2.1 (fin x0 x1 y0 y1).2.2.2 := by
  unfold fin
  split
  · exact ⟨.inl ⟨rfl, rfl⟩, .inl ⟨rfl, rfl⟩⟩
  · exact ⟨hx, hy⟩
theorem rcmp0_ok (c a0 a1 b0 b1 : Int) : okR (rcmp0 c a0 a1 b0 b1).1 (rcmp0 c a0 a1 b0 b1).2.1 ∧ okR (rcmp0 c a0 a1 b0 b1).2.2.1 (rcmp0 c a0 a1 b0 b1).2.2.2 := by
  unfold rcmp0
  split
  · exact ⟨.inl ⟨rfl, rfl⟩, .inl ⟨rfl, rfl⟩⟩
  · rename_i h
    have ha : okR a0 a1 := Decidable.byContradiction fun e => h (.inl e)
    have hb : okR b0 b1 := Decidable.byContradiction fun e => h (.inr (.inl e))
    exact fin_ok (core_ok ha hb).1 (core_ok ha hb).2
theorem badC_swap {a0 a1 b0 b1 : Int} : badC b0 b1 a0 a1 ↔ badC a0 a1 b0 b1 := by
  unfold badC
  constructor
  · rintro (h | h | h | h)
    · exact .inr (.inl h)
    · exact .inl h
    · exact .inr (.inr (.inr h))
    · exact .inr (.inr (.inl h))
  · rintro (h | h | h | h)
    · exact .inr (.inl h)
    · exact .inl h
    · exact .inr (.inr (.inr h))
    · exact .inr (.inr (.inl h))
theorem notBad {a0 a1 b0 b1 : Int} (h : ¬ badC a0 a1 b0 b1) : (-2147483648 ≤ a0 ∧ a0 ≤ a1 ∧ a1 ≤ 2147483647) ∧ (-2147483648 ≤ b0 ∧ b0 ≤ b1 ∧ b1 ≤ 2147483647) := by
  unfold badC okR isNone at h; omega
/-! #### the specification's -/
theorem sFin (x0 x1 y0 y1 : Int) : W (fun k => spec_RangeCmp.j6 k x0 x1 y0 y1) (· = fin x0 x1 y0 y1) := by
  have one : isNone x0 x1 ∨ isNone y0 y1 → W (fun k => spec_RangeCmp.j7 k true x0 x1 y0 y1) (· = fin x0 x1 y0 y1) := by
    intro h
    refine W.step (fun k => by simp only [spec_RangeCmp.j7, spec_l8None.f, Option.bind_some]; rfl) ?_
    exact W.pos (by trivial) (W.ret (by unfold fin; rw [if_pos h]))
  refine W.step (fun k => by simp only [spec_RangeCmp.j6, spec_l8None.f, Option.bind_some, bIsNone]; rfl) ?_
  refine W.dec (fun h => one (.inl h)) (fun h => ?_)
  by_cases h2 : isNone y0 y1
  · rw [decide_eq_true h2]; exact one (.inr h2)
  · rw [decide_eq_false h2]
    refine W.step (fun k => by simp only [spec_RangeCmp.j7, spec_l8None.f, Option.bind_some]; rfl) ?_
    exact W.neg (by decide) (W.ret (by unfold fin; rw [if_neg (by rintro (e | e); exact h e; exact h2 e)]))
theorem s4 {c : Int} (h5 : c ≠ 5) (h6 : c ≠ 6) (a0 a1 b0 b1 x0 x1 y0 y1 : Int) : W (fun k => spec_RangeCmp.j4 k c a0 a1 b0 b1 x0 x1 y0 y1) (· = fin x0 x1 y0 y1) := by
  refine W.step (fun k => by simp only [spec_RangeCmp.j4]; rfl) ?_
  refine W.neg h5 ?_
  rw [show (c == 6) = false by simpa using h6]
  refine W.step (fun k => by simp only [spec_RangeCmp.j5]; rfl) ?_
  exact W.neg (by decide) (sFin ..)
theorem s3 {c : Int} (h4 : c ≠ 4) (h5 : c ≠ 5) (h6 : c ≠ 6) (a0 a1 b0 b1 x0 x1 y0 y1 : Int) : W (fun k => spec_RangeCmp.j3 k c a0 a1 b0 b1 x0 x1 y0 y1) (· = fin x0 x1 y0 y1) := by
  refine W.step (fun k => by simp only [spec_RangeCmp.j3]; rfl) ?_
  exact W.neg h4 (s4 h5 h6 ..)
theorem s2 {c : Int} (h3 : c ≠ 3) (h4 : c ≠ 4) (h5 : c ≠ 5) (h6 : c ≠ 6) (a0 a1 b0 b1 x0 x1 y0 y1 : Int) : W (fun k => spec_RangeCmp.j2 k c a0 a1 b0 b1 x0 x1 y0 y1) (· = fin x0 x1 y0 y1) := by
  refine W.step (fun k => by simp only [spec_RangeCmp.j2]; rfl) ?_
  exact W.neg h3 (s3 h4 h5 h6 ..)
theorem s1 {c : Int} (h2 : c ≠ 2) (h3 : c ≠ 3) (h4 : c ≠ 4) (h5 : c ≠ 5) (h6 : c ≠ 6) (a0 a1 b0 b1 x0 x1 y0 y1 : Int) : W (fun k => spec_RangeCmp.j1 k c a0 a1 b0 b1 x0 x1 y0 y1) (· = fin x0 x1 y0 y1) := by
  refine W.step (fun k => by simp only [spec_RangeCmp.j1]; rfl) ?_
  exact W.neg h2 (s2 h3 h4 h5 h6 ..)
theorem sNe {a0 a1 : Int} (b0 b1 : Int) (h0 : -2147483648 ≤ a0) (h1 : a0 ≤ a1) (h2 : a1 ≤ 2147483647) : spec_l8Ne.f a0 a1 b0 b1 = some (ne a0 a1 b0 b1) := by
  unfold spec_l8Ne.f ne
  rw [wrap64_id (n := a0 + 1) (by omega) (by omega), wrap64_id (n := a1 - 1) (by omega) (by omega), sCut, sCut]
  simp only [Option.bind_some]
  split
  · split
    · rfl
    · split <;> rfl
  · rfl
theorem sCore {c a0 a1 b0 b1 : Int} (h5 : c ≠ 5) (h6 : c ≠ 6) (hb : ¬ badC a0 a1 b0 b1) : W (fun k => spec_RangeCmp.j0 k c false a0 a1 b0 b1 1 0 1 0) (· = fin2 (core c a0 a1 b0 b1)) := by
  obtain ⟨⟨p0, p1, p2⟩, ⟨q0, q1, q2⟩⟩ := notBad hb
  refine W.step (fun k => by simp only [spec_RangeCmp.j0]; rfl) ?_
  refine W.neg (by decide) ?_
  unfold core
  refine W.ite (fun h1 => ?_) (fun h1 => ?_)
  · rw [if_pos h1]; subst h1
    refine W.bind (sRangeMeet a0 a1 b0 b1) ?_
    rintro _ rfl
    exact s1 (by decide) (by decide) (by decide) (by decide) (by decide) ..
  rw [if_neg h1]
  refine W.step (fun k => by simp only [spec_RangeCmp.j1]; rfl) ?_
  refine W.ite (fun h2 => ?_) (fun h2 => ?_)
  · rw [if_pos h2]; subst h2
    refine W.bind (Q := (· = ne a0 a1 b0 b1)) (W.const (sNe b0 b1 p0 p1 p2) rfl) ?_
    rintro _ rfl
    refine W.bind (Q := (· = ne b0 b1 a0 a1)) (W.const (sNe a0 a1 q0 q1 q2) rfl) ?_
    rintro _ rfl
    exact s2 (by decide) (by decide) (by decide) (by decide) ..
  rw [if_neg h2]
  refine W.step (fun k => by simp only [spec_RangeCmp.j2]; rfl) ?_
  refine W.ite (fun h3 => ?_) (fun h3 => ?_)
  · rw [if_pos h3]; subst h3
    rw [wrap64_id (n := b1 - 1) (by omega) (by omega), wrap64_id (n := a0 + 1) (by omega) (by omega)]
    refine W.bind (Q := (· = mn a1 (b1 - 1))) (W.const (sMin _ _) rfl) ?_
    rintro _ rfl
    refine W.bind (Q := (· = cut a0 (mn a1 (b1 - 1)))) (W.const (sCut _ _) rfl) ?_
    rintro _ rfl
    refine W.bind (Q := (· = mx b0 (a0 + 1))) (W.const (sMax _ _) rfl) ?_
    rintro _ rfl
    refine W.bind (Q := (· = cut (mx b0 (a0 + 1)) b1)) (W.const (sCut _ _) rfl) ?_
    rintro _ rfl
    exact s3 (by decide) (by decide) (by decide) ..
  rw [if_neg h3]
  refine W.step (fun k => by simp only [spec_RangeCmp.j3]; rfl) ?_
  refine W.ite (fun h4 => ?_) (fun h4 => ?_)
  · rw [if_pos h4]; subst h4
    refine W.bind (Q := (· = mn a1 b1)) (W.const (sMin _ _) rfl) ?_
    rintro _ rfl
    refine W.bind (Q := (· = cut a0 (mn a1 b1))) (W.const (sCut _ _) rfl) ?_
    rintro _ rfl
    refine W.bind (Q := (· = mx b0 a0)) (W.const (sMax _ _) rfl) ?_
    rintro _ rfl
    refine W.bind (Q := (· = cut (mx b0 a0) b1)) (W.const (sCut _ _) rfl) ?_
    rintro _ rfl
    exact s4 (by decide) (by decide) ..
  rw [if_neg h4]
  exact s4 h5 h6 ..
theorem sHead {R : Int × Int × Int × Int} (c a0 a1 b0 b1 : Int) (hbad : badC a0 a1 b0 b1 → R = (1, 0, 1, 0)) (hgood : ¬ badC a0 a1 b0 b1 → W (fun k => spec_RangeCmp.j0 k c false a0 a1 b0 b1 1 0 1 0) (· = R)) : W (fun k => spec_RangeCmp.f k c a0 a1 b0 b1) (· = R) := by
  have bad : badC a0 a1 b0 b1 → W (fun k => spec_RangeCmp.j0 k c true a0 a1 b0 b1 1 0 1 0) (· = R) := by
    intro h
    refine W.step (fun k => by simp only [spec_RangeCmp.j0]; rfl) ?_
    exact W.pos (by trivial) (W.ret (hbad h).symm)
  refine W.step (fun k => by simp only [spec_RangeCmp.f, sRangeOk, spec_l8None.f, Option.bind_some, bIsNone]; rfl) ?_
  refine W.dec (fun h1 => W.dec (fun h3 => W.dec (fun h4 => bad (.inr (.inr (.inl h4)))) (fun h4 => ?_)) (fun h3 => bad (.inr (.inl h3)))) (fun h1 => bad (.inl h1))
  by_cases h5 : isNone b0 b1
  · rw [decide_eq_true h5]; exact bad (.inr (.inr (.inr h5)))
  · rw [decide_eq_false h5]
    exact hgood (by rintro (e | e | e | e); exact e h1; exact e h3; exact h4 e; exact h5 e)
theorem sBase {c : Int} (h5 : c ≠ 5) (h6 : c ≠ 6) (a0 a1 b0 b1 : Int) : W (fun k => spec_RangeCmp.f k c a0 a1 b0 b1) (· = rcmp0 c a0 a1 b0 b1) :=
  sHead c a0 a1 b0 b1 (fun h => by unfold rcmp0; rw [if_pos h]) (fun h => by unfold rcmp0; rw [if_neg h]; exact sCore h5 h6 h)
theorem sTurned {c d : Int} (hc : c = 5 ∧ d = 3 ∨ c = 6 ∧ d = 4) (a0 a1 b0 b1 : Int) : W (fun k => spec_RangeCmp.j0 k c false a0 a1 b0 b1 1 0 1 0) (· = swp (rcmp0 d b0 b1 a0 a1)) := by
  have ht : spec_CmpTurn.f c = some d := by rcases hc with ⟨rfl, rfl⟩ | ⟨rfl, rfl⟩ <;> rfl
  have h5 : W (fun k => spec_RangeCmp.j5 k c true a0 a1 b0 b1 1 0 1 0) (· = swp (rcmp0 d b0 b1 a0 a1)) := by
    refine W.step (fun k => by simp only [spec_RangeCmp.j5, ht, Option.bind_some]; rfl) ?_
    refine W.pos (by trivial) ?_
    refine W.bind (sBase (c := d) (by omega) (by omega) b0 b1 a0 a1) ?_
    rintro _ rfl
    exact sFin ..
  refine W.step (fun k => by simp only [spec_RangeCmp.j0]; rfl) ?_
  refine W.neg (by decide) (W.neg (by omega) ?_)
  refine W.step (fun k => by simp only [spec_RangeCmp.j1]; rfl) (W.neg (by omega) ?_)
  refine W.step (fun k => by simp only [spec_RangeCmp.j2]; rfl) (W.neg (by omega) ?_)
  refine W.step (fun k => by simp only [spec_RangeCmp.j3]; rfl) (W.neg (by omega) ?_)
  refine W.step (fun k => by simp only [spec_RangeCmp.j4]; rfl) ?_
  refine W.ite (fun _ => h5) (fun h => ?_)
  rw [show (c == 6) = true by simp; omega]
  exact h5
theorem sRangeCmp (c a0 a1 b0 b1 : Int) : W (fun k => spec_RangeCmp.f k c a0 a1 b0 b1) (· = rcmp c a0 a1 b0 b1) := by
  by_cases h5 : c = 5
  · exact sHead c a0 a1 b0 b1 (fun h => by unfold rcmp; rw [if_pos h]) (fun h => by unfold rcmp; rw [if_neg h, if_pos h5]; exact sTurned (.inl ⟨h5, rfl⟩) ..)
  by_cases h6 : c = 6
  · exact sHead c a0 a1 b0 b1 (fun h => by unfold rcmp; rw [if_pos h]) (fun h => by unfold rcmp; rw [if_neg h, if_neg h5, if_pos h6]; exact sTurned (.inr ⟨h6, rfl⟩) ..)
  have e : rcmp c a0 a1 b0 b1 = rcmp0 c a0 a1 b0 b1 := by
    unfold rcmp
    split
    · rename_i h; unfold rcmp0; rw [if_pos h]
    · first | rfl | rw [if_neg h5, if_neg h6]
  rw [e]
  exact sBase h5 h6 ..
/-! #### the program's -/
theorem iFin {x0 x1 y0 y1 : Int} (hx : okR x0 x1) (hy : okR y0 y1) : W (fun k => impl_RangeCmp.j2 k x0 x1 y0 y1) (· = fin x0 x1 y0 y1) := by
  have one : isNone x0 x1 ∨ isNone y0 y1 → W (fun k => impl_RangeCmp.j3 k true x0 x1 y0 y1) (· = fin x0 x1 y0 y1) := by
    intro h
    refine W.step (fun k => by simp only [impl_RangeCmp.j3, impl_rangeNone.f, Option.bind_some]; rfl) ?_
    exact W.pos (by trivial) (W.ret (by unfold fin; rw [if_pos h]))
  refine W.step (fun k => by simp only [impl_RangeCmp.j2, impl_Range_empty.f, Option.bind_some]; rfl) ?_
  refine W.dec (fun h => one (.inl ((okR_gt hx).1 h))) (fun h => ?_)
  by_cases h2 : y0 > y1
  · rw [decide_eq_true h2]; exact one (.inr ((okR_gt hy).1 h2))
  · rw [decide_eq_false h2]
    refine W.step (fun k => by simp only [impl_RangeCmp.j3, impl_rangeNone.f, Option.bind_some]; rfl) ?_
    exact W.neg (by decide) (W.ret (by unfold fin; rw [if_neg (by rintro (e | e); exact h ((okR_gt hx).2 e); exact h2 ((okR_gt hy).2 e))]))
theorem iNe {a0 a1 : Int} (b0 b1 : Int) (h0 : -2147483648 ≤ a0) (h1 : a0 ≤ a1) (h2 : a1 ≤ 2147483647) : W (fun k => impl_rangeWithout.f k a0 a1 b0 b1) (· = ne a0 a1 b0 b1) := by
  unfold impl_rangeWithout.f ne
  simp only [impl_Range_single.f, Option.bind_some]
  by_cases hb : b0 = b1
  · rw [if_pos hb]
    refine W.pos (by simpa using hb) ?_
    by_cases ha : a0 = b0
    · rw [if_pos ha, show (b0 == a0) = true by simp [ha]]
      refine W.step (fun k => by simp only [impl_rangeWithout.j0]; rfl) ?_
      refine W.pos (by trivial) ?_
      rw [wrap64_id (n := a0 + 1) (by omega) (by omega)]
      refine W.bind (Q := (· = cut (a0 + 1) a1)) (W.const (iFrom _ _) rfl) ?_
      rintro _ rfl
      exact W.ret rfl
    · rw [if_neg ha, show (b0 == a0) = false by simpa using fun e => ha e.symm]
      refine W.step (fun k => by simp only [impl_rangeWithout.j0, impl_Range_single.f, Option.bind_some]; rfl) ?_
      refine W.neg (by decide) (W.pos (by simpa using hb) ?_)
      rw [wrap64_id (n := a1 - 1) (by omega) (by omega)]
      by_cases hc : a1 = b0
      · rw [if_pos hc]
        refine W.pos hc.symm ?_
        refine W.bind (Q := (· = cut a0 (a1 - 1))) (W.const (iFrom _ _) rfl) ?_
        rintro _ rfl
        exact W.ret rfl
      · rw [if_neg hc]
        exact W.neg (fun e => hc e.symm) (W.ret rfl)
  · rw [if_neg hb]
    refine W.neg (by simpa using hb) ?_
    refine W.step (fun k => by simp only [impl_rangeWithout.j0, impl_Range_single.f, Option.bind_some]; rfl) ?_
    exact W.neg (by decide) (W.neg (by simpa using hb) (W.ret rfl))
theorem iCore {c a0 a1 b0 b1 : Int} (h5 : c ≠ 5) (h6 : c ≠ 6) (hb : ¬ badC a0 a1 b0 b1) : W (fun k => impl_RangeCmp.j0 k c false a0 a1 b0 b1) (· = fin2 (core c a0 a1 b0 b1)) := by
  obtain ⟨⟨p0, p1, p2⟩, ⟨q0, q1, q2⟩⟩ := notBad hb
  have oa : okR a0 a1 := .inr ⟨p0, p1, p2⟩
  have ob : okR b0 b1 := .inr ⟨q0, q1, q2⟩
  refine W.step (fun k => by simp only [impl_RangeCmp.j0]; rfl) ?_
  refine W.neg (by decide) ?_
  unfold core
  refine W.ite (fun h1 => ?_) (fun h1 => ?_)
  · rw [if_pos h1]
    refine W.bind (iRangeMeet a0 a1 b0 b1) ?_
    rintro _ rfl
    exact iFin (rmeet_ok ..) (rmeet_ok ..)
  rw [if_neg h1]
  refine W.ite (fun h2 => ?_) (fun h2 => ?_)
  · rw [if_pos h2]
    refine W.bind (iNe b0 b1 p0 p1 p2) ?_
    rintro _ rfl
    refine W.bind (iNe a0 a1 q0 q1 q2) ?_
    rintro _ rfl
    exact iFin (ne_ok oa) (ne_ok ob)
  rw [if_neg h2]
  refine W.ite (fun h3 => ?_) (fun h3 => ?_)
  · rw [if_pos h3]
    rw [wrap64_id (n := b1 - 1) (by omega) (by omega), wrap64_id (n := a0 + 1) (by omega) (by omega)]
    refine W.bind (Q := (· = cut a0 (mn a1 (b1 - 1)))) (W.const (iFrom _ _) rfl) ?_
    rintro _ rfl
    refine W.bind (Q := (· = cut (mx b0 (a0 + 1)) b1)) (W.const (iFrom _ _) rfl) ?_
    rintro _ rfl
    exact iFin (cut_okR ..) (cut_okR ..)
  rw [if_neg h3]
  refine W.ite (fun h4 => ?_) (fun h4 => ?_)
  · rw [if_pos h4]
    refine W.bind (Q := (· = cut a0 (mn a1 b1))) (W.const (iFrom _ _) rfl) ?_
    rintro _ rfl
    refine W.bind (Q := (· = cut (mx b0 a0) b1)) (W.const (iFrom _ _) rfl) ?_
    rintro _ rfl
    exact iFin (cut_okR ..) (cut_okR ..)
  rw [if_neg h4]
  refine W.neg h5 ?_
  rw [show (c == 6) = false by simpa using h6]
  refine W.step (fun k => by simp only [impl_RangeCmp.j1, impl_rangeNone.f, Option.bind_some]; rfl) ?_
  exact W.neg (by decide) (W.ret rfl)
theorem iHead {R : Int × Int × Int × Int} (c a0 a1 b0 b1 : Int) (hbad : badC a0 a1 b0 b1 → R = (1, 0, 1, 0)) (hgood : ¬ badC a0 a1 b0 b1 → W (fun k => impl_RangeCmp.j0 k c false a0 a1 b0 b1) (· = R)) : W (fun k => impl_RangeCmp.f k c a0 a1 b0 b1) (· = R) := by
  have bad : badC a0 a1 b0 b1 → W (fun k => impl_RangeCmp.j0 k c true a0 a1 b0 b1) (· = R) := by
    intro h
    refine W.step (fun k => by simp only [impl_RangeCmp.j0, impl_rangeNone.f, Option.bind_some]; rfl) ?_
    exact W.pos (by trivial) (W.ret (hbad h).symm)
  refine W.step (fun k => by simp only [impl_RangeCmp.f, iRangeOk, impl_Range_empty.f, Option.bind_some]; rfl) ?_
  refine W.dec (fun h1 => W.dec (fun h3 => W.dec (fun h4 => bad (.inr (.inr (.inl ((okR_gt h1).1 h4))))) (fun h4 => ?_)) (fun h3 => bad (.inr (.inl h3)))) (fun h1 => bad (.inl h1))
  by_cases h5 : b0 > b1
  · rw [decide_eq_true h5]; exact bad (.inr (.inr (.inr ((okR_gt h3).1 h5))))
  · rw [decide_eq_false h5]
    exact hgood (by rintro (e | e | e | e); exact e h1; exact e h3; exact h4 ((okR_gt h1).2 e); exact h5 ((okR_gt h3).2 e))
theorem iBase {c : Int} (h5 : c ≠ 5) (h6 : c ≠ 6) (a0 a1 b0 b1 : Int) : W (fun k => impl_RangeCmp.f k c a0 a1 b0 b1) (· = rcmp0 c a0 a1 b0 b1) :=
  iHead c a0 a1 b0 b1 (fun h => by unfold rcmp0; rw [if_pos h]) (fun h => by unfold rcmp0; rw [if_neg h]; exact iCore h5 h6 h)
theorem iTurned {c d : Int} (hc : c = 5 ∧ d = 3 ∨ c = 6 ∧ d = 4) (a0 a1 b0 b1 : Int) : W (fun k => impl_RangeCmp.j0 k c false a0 a1 b0 b1) (· = swp (rcmp0 d b0 b1 a0 a1)) := by
  have ht : W (fun k => impl_CmpTurn.f k c) (· = d) := by
    rcases hc with ⟨rfl, rfl⟩ | ⟨rfl, rfl⟩
    · exact ⟨3, rfl, 1, fun k hk => by obtain ⟨m, rfl⟩ : ∃ m, k = m + 1 := ⟨k - 1, by omega⟩
                                       rfl⟩
    · exact ⟨4, rfl, 1, fun k hk => by obtain ⟨m, rfl⟩ : ∃ m, k = m + 1 := ⟨k - 1, by omega⟩
                                       rfl⟩
  have h5 : W (fun k => impl_RangeCmp.j1 k c true a0 a1 b0 b1) (· = swp (rcmp0 d b0 b1 a0 a1)) := by
    refine W.step (fun k => by simp only [impl_RangeCmp.j1]; rfl) ?_
    refine W.pos (by trivial) ?_
    refine W.bind ht ?_
    rintro _ rfl
    refine W.bind (iBase (by omega) (by omega) b0 b1 a0 a1) ?_
    rintro _ rfl
    exact iFin (rcmp0_ok ..).2 (rcmp0_ok ..).1
  refine W.step (fun k => by simp only [impl_RangeCmp.j0]; rfl) ?_
  refine W.neg (by decide) (W.neg (by omega) (W.neg (by omega) (W.neg (by omega) (W.neg (by omega) ?_))))
  refine W.ite (fun h => ?_) (fun h => ?_)
  · rw [show (c == 5) = true by simpa using h]; exact h5
  · rw [show (c == 6) = true by simp; omega]; exact h5
theorem iRangeCmp (c a0 a1 b0 b1 : Int) : W (fun k => impl_RangeCmp.f k c a0 a1 b0 b1) (· = rcmp c a0 a1 b0 b1) := by
  by_cases h5 : c = 5
  · exact iHead c a0 a1 b0 b1 (fun h => by unfold rcmp; rw [if_pos h]) (fun h => by unfold rcmp; rw [if_neg h, if_pos h5]; exact iTurned (.inl ⟨h5, rfl⟩) ..)
  by_cases h6 : c = 6
  · exact iHead c a0 a1 b0 b1 (fun h => by unfold rcmp; rw [if_pos h]) (fun h => by unfold rcmp; rw [if_neg h, if_neg h5, if_pos h6]; exact iTurned (.inr ⟨h6, rfl⟩) ..)
  have e : rcmp c a0 a1 b0 b1 = rcmp0 c a0 a1 b0 b1 := by
    unfold rcmp
    split
    · rename_i h; unfold rcmp0; rw [if_pos h]
    · first | rfl | rw [if_neg h5, if_neg h6]
  rw [e]
  exact iBase h5 h6 ..

def hasS (m t v : Int) : Prop := okS m t ∧ okN v ∧ ((m = 0 ∧ v = t) ∨ (m ≠ 0 ∧ v % m = t))
instance (m t v : Int) : Decidable (hasS m t v) := by unfold hasS; exact inferInstance
theorem sRestHas (m t v : Int) : W (fun k => spec_RestHas.f k m t v) (· = decide (hasS m t v)) := by
  unfold spec_RestHas.f
  simp only [sRestOk, sNumOk, Option.bind_some]
  have bad : ¬ okS m t ∨ ¬ okN v → W (fun k => spec_RestHas.j0 k v true m t) (· = decide (hasS m t v)) := by
    intro hb
    refine W.step (fun k => by simp only [spec_RestHas.j0]; rfl) ?_
    (try refine W.pos (by trivial) ?_)
    exact W.ret (by symm; apply decide_eq_false; unfold hasS; intro hc; exact hb.elim (fun h => h hc.1) (fun h => h hc.2.1))
  refine W.dec (fun h1 => ?_) (fun h1 => bad (.inl h1))
  by_cases h3 : okN v
  · rw [ndt h3]
    refine W.step (fun k => by simp only [spec_RestHas.j0]; rfl) ?_
    (try refine W.neg (by decide) ?_)
    refine W.ite (fun h4 => W.ret ?_) (fun h4 => ?_)
    · subst h4; rw [Bool.eq_iff_iff, decide_eq_true_iff]; unfold hasS; simp [h1, h3]
    · have o := okS_pos h1 h4
      refine W.bind (W.const (sMod m (by omega) (by omega)) rfl) ?_
      rintro _ rfl
      refine W.ret ?_
      rw [Bool.eq_iff_iff, decide_eq_true_iff]; unfold hasS; simp [h1, h3, h4]
  · rw [ndf h3]; exact bad (.inr h3)
theorem iRestHas (m t v : Int) : W (fun k => impl_RestHas.f k m t v) (· = decide (hasS m t v)) := by
  unfold impl_RestHas.f
  simp only [iRestOk, iNumOk, Option.bind_some]
  have bad : ¬ okS m t ∨ ¬ okN v → W (fun k => impl_RestHas.j0 k v true m t) (· = decide (hasS m t v)) := by
    intro hb
    refine W.step (fun k => by simp only [impl_RestHas.j0]; rfl) ?_
    (try refine W.pos (by trivial) ?_)
    exact W.ret (by symm; apply decide_eq_false; unfold hasS; intro hc; exact hb.elim (fun h => h hc.1) (fun h => h hc.2.1))
  refine W.dec (fun h1 => ?_) (fun h1 => bad (.inl h1))
  by_cases h3 : okN v
  · rw [ndt h3]
    refine W.step (fun k => by simp only [impl_RestHas.j0]; rfl) ?_
    (try refine W.neg (by decide) ?_)
    refine W.ite (fun h4 => W.ret ?_) (fun h4 => ?_)
    · subst h4; rw [Bool.eq_iff_iff, decide_eq_true_iff]; unfold hasS; simp [h1, h3]
    · have o := okS_pos h1 h4
      refine W.bind (W.const (iMod m (by omega) (by omega)) rfl) ?_
      rintro _ rfl
      refine W.ret ?_
      rw [Bool.eq_iff_iff, decide_eq_true_iff]; unfold hasS; simp [h1, h3, h4]
  · rw [ndf h3]; exact bad (.inr h3)

/-! ### greatest common divisors -/
theorem sGcd_loop (d : Nat) : ∀ a b : Int, 0 ≤ a → 0 ≤ b → b.natAbs ≤ d → W (fun k => spec_l9Gcd.l0 k a b) (· = (Int.gcd a b : Int)) := by
  induction d using Nat.strongRecOn with
  | _ d ih =>
    intro a b ha hb hd
    refine W.step (fun k => by simp only [spec_l9Gcd.l0]; rfl) ?_
    refine W.ite (fun h => W.ret ?_) (fun h => ?_)
    · subst h; rw [Int.gcd_zero_right]; omega
    · have hm := tmod_pos ha (n := b) (by omega)
      have := ih (a.tmod b).natAbs (by omega) b (a.tmod b) hb hm.1 (Nat.le_refl _)
      refine this.mono ?_
      rintro _ rfl
      unfold Int.gcd; rw [Int.natAbs_tmod, Nat.gcd_comm, ← Nat.gcd_rec, Nat.gcd_comm]
theorem sGcd (a b : Int) (ha : -9223372036854775807 ≤ a ∧ a ≤ 9223372036854775807) (hb : -9223372036854775807 ≤ b ∧ b ≤ 9223372036854775807) : W (fun k => spec_l9Gcd.f k a b) (· = (Int.gcd a b : Int)) := by
  have j1 : ∀ x y : Int, 0 ≤ x → 0 ≤ y → W (fun k => spec_l9Gcd.j1 k x y) (· = (Int.gcd x y : Int)) := by
    intro x y hx hy
    refine W.step (fun k => by simp only [spec_l9Gcd.j1]; rfl) ?_
    exact sGcd_loop _ x y hx hy (Nat.le_refl _)
  have j0 : ∀ x : Int, 0 ≤ x → W (fun k => spec_l9Gcd.j0 k x b) (· = (Int.gcd x b : Int)) := by
    intro x hx
    refine W.step (fun k => by simp only [spec_l9Gcd.j0]; rfl) ?_
    refine W.ite (fun h => ?_) (fun h => j1 x b hx (by omega))
    rw [wrap64_id (by omega) (by omega)]
    refine (j1 x (-b) hx (by omega)).mono ?_
    rintro _ rfl
    rw [Int.gcd_neg]
  unfold spec_l9Gcd.f
  refine W.ite (fun h => ?_) (fun h => j0 a (by omega))
  rw [wrap64_id (by omega) (by omega)]
  refine (j0 (-a) (by omega)).mono ?_
  rintro _ rfl
  rw [Int.neg_gcd]
/-- The greatest common divisor of some numbers, as the program goes through them. -/
def gl (g : Nat) (l : List Int) : Nat := l.foldl (fun g n => Int.gcd g n) g
theorem iGcd_in {xs : List Int} {len i : Int} {P : Int → Prop} (d : Nat) : ∀ g n : Int, n.natAbs ≤ d → i + 1 ≤ 9223372036854775807 → 0 ≤ i →
    (∀ g' : Int, g'.natAbs = Int.gcd g n → W (fun k => impl_restGcd.l0 k g' xs len (i + 1)) P) → W (fun k => impl_restGcd.l1 k g n xs len i) P := by
  induction d using Nat.strongRecOn with
  | _ d ih =>
    intro g n hd hi hi0 hk
    refine W.step (fun k => by simp only [impl_restGcd.l1]; rfl) ?_
    refine W.ite (fun h => ?_) (fun h => ?_)
    · rw [wrap64_id (by omega) (by omega)]
      exact hk g (by subst h; rw [Int.gcd_zero_right])
    · have hm : (g.tmod n).natAbs = g.natAbs % n.natAbs := Int.natAbs_tmod ..
      have hl : g.natAbs % n.natAbs < n.natAbs := Nat.mod_lt _ (by omega)
      refine ih (g.tmod n).natAbs (by omega) n (g.tmod n) (Nat.le_refl _) hi hi0 (fun g' hg => hk g' ?_)
      rw [hg]; unfold Int.gcd; rw [hm, Nat.gcd_comm, ← Nat.gcd_rec, Nat.gcd_comm]
theorem iGcd_loop {xs : List Int} (hx : xs.length ≤ 100) (hb : ∀ x ∈ xs, -9223372036854775807 ≤ x ∧ x ≤ 9223372036854775807) (d : Nat) : ∀ (i : Nat) (g : Int), i ≤ xs.length → xs.length - i = d → -9223372036854775807 ≤ g → g ≤ 9223372036854775807 →
    W (fun k => impl_restGcd.l0 k g xs (xs.length : Int) (i : Int)) (· = (gl g.natAbs (xs.drop i) : Int)) := by
  induction d with
  | zero =>
    intro i g hi hd g0 g1
    refine W.step (fun k => by simp only [impl_restGcd.l0]; rfl) ?_
    refine W.neg (by omega) ?_
    rw [List.drop_eq_nil_of_le (by omega)]
    refine W.ite (fun h => W.ret ?_) (fun h => W.ret ?_)
    · rw [wrap64_id (by omega) (by omega)]; simp only [gl, List.foldl_nil]; omega
    · simp only [gl, List.foldl_nil]; omega
  | succ d ih =>
    intro i g hi hd g0 g1
    have hlt : i < xs.length := by omega
    have hx0 := hb _ (List.getElem_mem hlt)
    have hr : rd xs (i : Int) = xs[i] := by simp [rd, List.getD_eq_getElem?_getD, List.getElem?_eq_getElem hlt]
    refine W.step (fun k => by simp only [impl_restGcd.l0]; rfl) ?_
    refine W.pos (by omega) (W.pos (by omega) (W.pos (by omega) ?_))
    rw [hr]
    refine iGcd_in _ g xs[i] (Nat.le_refl _) (by omega) (by omega) (fun g' hg => ?_)
    have hle : g'.natAbs ≤ 9223372036854775807 := by
      rw [hg]
      by_cases hz : xs[i] = 0
      · rw [hz, Int.gcd_zero_right]; omega
      · have := Nat.le_of_dvd (by omega) (show Int.gcd g xs[i] ∣ xs[i].natAbs from Nat.gcd_dvd_right _ _); omega
    have h := ih (i + 1) g' (by omega) (by omega) (by omega) (by omega)
    rw [show ((i + 1 : Nat) : Int) = (i : Int) + 1 by omega] at h
    refine h.mono ?_
    rintro _ rfl
    rw [List.drop_eq_getElem_cons hlt, hg]
    simp only [gl, List.foldl_cons]
    congr 2
theorem iGcd (xs : List Int) (hx : xs.length ≤ 100) (hb : ∀ x ∈ xs, -9223372036854775807 ≤ x ∧ x ≤ 9223372036854775807) : W (fun k => impl_restGcd.f k xs) (· = (gl 0 xs : Int)) := by
  unfold impl_restGcd.f
  exact iGcd_loop hx hb xs.length 0 0 (by omega) (by omega) (by omega) (by omega)
theorem gl2 (a b : Int) : gl 0 [a, b] = Int.gcd a b := by simp [gl, Int.gcd]
theorem gl3 (a b c : Int) : gl 0 [a, b, c] = Int.gcd (Int.gcd a b : Int) c := by simp [gl, Int.gcd]
theorem gcd_le {a b B : Int} (h0 : 0 ≤ B) (ha : -B ≤ a ∧ a ≤ B) (hb : -B ≤ b ∧ b ≤ B) : ((Int.gcd a b : Nat) : Int) ≤ B := by
  by_cases hz : a = 0
  · subst hz; rw [Int.gcd_zero_left]; omega
  · have := Nat.le_of_dvd (by omega) (show Int.gcd a b ∣ a.natAbs from Nat.gcd_dvd_left _ _); omega

/-! ### what two rests both have -/
def Sol (m t m2 t2 x : Int) : Prop := 0 ≤ x ∧ x < (Int.lcm m m2 : Int) ∧ x % m = t ∧ x % m2 = t2
theorem sol_one {m t m2 t2 x y : Int} (hm : 0 < m) (hm2 : 0 < m2) (hx : Sol m t m2 t2 x) (hy : Sol m t m2 t2 y) : x = y := by
  obtain ⟨x0, x1, x2, x3⟩ := hx
  obtain ⟨y0, y1, y2, y3⟩ := hy
  have e : ∀ z : Int, 0 ≤ z → ∀ q : Int, 0 < q → z % q = ((z.toNat % q.toNat : Nat) : Int) := by
    intro z hz q hq
    rw [Int.natCast_emod, Int.toNat_of_nonneg hz, Int.toNat_of_nonneg (by omega)]
  have h1 := e x x0 m hm; have h2 := e x x0 m2 hm2; have h3 := e y y0 m hm; have h4 := e y y0 m2 hm2
  have hl : Int.lcm m m2 = Nat.lcm m.toNat m2.toNat := by
    unfold Int.lcm; rw [show m.natAbs = m.toNat by omega, show m2.natAbs = m2.toNat by omega]
  have := crt_one (a := m.toNat) (b := m2.toNat) (x := x.toNat) (y := y.toNat) rfl (by omega) (by omega) (by omega) (by omega)
  omega
noncomputable def solX (m t m2 t2 : Int) : Int := Classical.epsilon (Sol m t m2 t2)
theorem sol_eq {m t m2 t2 x : Int} (hm : 0 < m) (hm2 : 0 < m2) (hx : Sol m t m2 t2 x) : x = solX m t m2 t2 := sol_one hm hm2 hx (Classical.epsilon_spec ⟨x, hx⟩)
theorem sol_turn {m t m2 t2 x : Int} (hx : Sol m t m2 t2 x) : Sol m2 t2 m t x := ⟨hx.1, by rw [Int.lcm_comm]; exact hx.2.1, hx.2.2.2, hx.2.2.1⟩
theorem solX_turn {m t m2 t2 x : Int} (hm : 0 < m) (hm2 : 0 < m2) (hx : Sol m t m2 t2 x) : solX m2 t2 m t = solX m t m2 t2 := by
  rw [← sol_eq hm hm2 hx, ← sol_eq hm2 hm (sol_turn hx)]
theorem prod_lcm {m m2 : Int} (hm : 1 ≤ m) (hm2 : 1 ≤ m2) : m.tdiv (Int.gcd m m2 : Int) * m2 = (Int.lcm m m2 : Int) := by
  obtain ⟨a, rfl⟩ := Int.eq_ofNat_of_zero_le (show 0 ≤ m by omega)
  obtain ⟨b, rfl⟩ := Int.eq_ofNat_of_zero_le (show 0 ≤ m2 by omega)
  rw [Int.tdiv_eq_ediv_of_nonneg (by omega)]
  show (a : Int) / ((Nat.gcd a b : Nat) : Int) * b = ((Nat.lcm a b : Nat) : Int)
  have hg : 0 < Nat.gcd a b := Nat.gcd_pos_of_pos_left _ (by omega)
  have : Nat.lcm a b = a / Nat.gcd a b * b := by
    unfold Nat.lcm
    rw [Nat.mul_comm a b, Nat.mul_div_assoc _ (Nat.gcd_dvd_left a b), Nat.mul_comm]
  rw [this]; norm_cast
/-- There is a place where the two meet, among the first of those that the loop comes to. -/
theorem reach {m t m2 t2 : Int} (hm : 1 ≤ m) (hm2 : 1 ≤ m2) (ht : 0 ≤ t ∧ t < m) (ht2 : 0 ≤ t2 ∧ t2 < m2) (h : (Int.gcd m m2 : Int) ∣ t - t2) : ∃ js : Nat, (t + m * js) % m2 = t2 ∧ t + m * js < (Int.lcm m m2 : Int) := by
  obtain ⟨a, rfl⟩ := Int.eq_ofNat_of_zero_le (show 0 ≤ m by omega)
  obtain ⟨b, rfl⟩ := Int.eq_ofNat_of_zero_le (show 0 ≤ m2 by omega)
  have h' : ((Nat.gcd a b : Nat) : Int) ∣ t2 - t := by
    have := Int.dvd_neg.2 h
    rwa [Int.neg_sub] at this
  obtain ⟨js, hk, he⟩ := meets (a := a) (b := b) (by omega) h'
  refine ⟨js, by rw [he]; exact Int.emod_eq_of_lt ht2.1 ht2.2, ?_⟩
  show t + (a : Int) * js < ((Nat.lcm a b : Nat) : Int)
  have hl : Nat.lcm a b = a * (b / Nat.gcd a b) := by
    unfold Nat.lcm; rw [Nat.mul_div_assoc _ (Nat.gcd_dvd_right a b)]
  have h1 : a * (js + 1) ≤ a * (b / Nat.gcd a b) := Nat.mul_le_mul_left a hk
  rw [hl]
  have h2 : ((a * (js + 1) : Nat) : Int) = (a : Int) * js + a := by rw [Nat.mul_add]; omega
  omega
noncomputable def meetS (m t m2 t2 : Int) : Int × Int × Bool :=
  if ¬ okS m t ∨ ¬ okS m2 t2 then (0, 0, false)
  else if m = 0 then (if hasS m2 t2 t then (m, t, true) else (0, 0, false))
  else if m2 = 0 then (if hasS m t t2 then (m2, t2, true) else (0, 0, false))
  else if ¬ ((Int.gcd m m2 : Int) ∣ t - t2) then (0, 0, false)
  else if (Int.lcm m m2 : Int) > 65536 then (if m2 > m then (m2, t2, true) else (m, t, true))
  else ((Int.lcm m m2 : Int), solX m t m2 t2, true)
theorem gcd_pos1 {m m2 : Int} (hm : 1 ≤ m) : 1 ≤ Int.gcd m m2 := Nat.gcd_pos_of_pos_left _ (by omega)
theorem gcd_le1 {m m2 : Int} (hm : 1 ≤ m) (h : m ≤ 65536) : Int.gcd m m2 ≤ 65536 := by
  have := Nat.le_of_dvd (by omega) (show Int.gcd m m2 ∣ m.natAbs from Nat.gcd_dvd_left _ _); omega
theorem tdiv_le1 {m g : Int} (hm : 1 ≤ m) (h : m ≤ 65536) : 0 ≤ m.tdiv g ∧ m.tdiv g ≤ 65536 ∨ m.tdiv g < 0 ∧ -65536 ≤ m.tdiv g := by
  have h : (m.tdiv g).natAbs ≤ m.natAbs := by rw [Int.natAbs_tdiv]; exact Nat.div_le_self _ _
  omega
theorem lcm_bound {m m2 : Int} (hm : 1 ≤ m ∧ m ≤ 65536) (hm2 : 1 ≤ m2 ∧ m2 ≤ 65536) : (Int.lcm m m2 : Int) ≤ 4294967296 := by
  have h1 : Int.lcm m m2 ≤ m.natAbs * m2.natAbs := by
    unfold Int.lcm Nat.lcm
    exact Nat.div_le_self _ _
  have h2 : m.natAbs * m2.natAbs ≤ 65536 * 65536 := Nat.mul_le_mul (by omega) (by omega)
  omega
theorem sMeet_loop {m t m2 t2 L : Int} (hm : 1 ≤ m ∧ m ≤ 65536) (ht : 0 ≤ t ∧ t < m) (hm2 : 1 ≤ m2 ∧ m2 ≤ 65536) (js : Nat) (hjs : (t + m * js) % m2 = t2) (hb : t + m * js < L) (hL : L ≤ 65536) (hLe : L = (Int.lcm m m2 : Int)) (d : Nat) :
    ∀ j : Nat, j ≤ js → js - j = d → W (fun k => spec_RestMeet.l0 k L (t + m * j) m t m2 t2) (fun r => r.1 = L ∧ r.2.2 = true ∧ Sol m t m2 t2 r.2.1) := by
  have hp : ∀ j : Nat, j ≤ js → 0 ≤ t + m * j ∧ t + m * j < L := by
    intro j hj
    have h1 : m * j ≤ m * js := Int.mul_le_mul_of_nonneg_left (by omega) (by omega)
    have h0 : 0 ≤ m * (j : Int) := Int.mul_nonneg (by omega) (by omega)
    omega
  have hs : ∀ j : Nat, j ≤ js → (t + m * j) % m2 = t2 → Sol m t m2 t2 (t + m * j) := by
    intro j hj he
    have hpj := hp j hj
    exact ⟨hpj.1, by rw [← hLe]; exact hpj.2, by rw [Int.add_mul_emod_self_left]; exact Int.emod_eq_of_lt ht.1 ht.2, he⟩
  induction d with
  | zero =>
    intro j hj hd
    obtain rfl : j = js := by omega
    refine W.step (fun k => by simp only [spec_RestMeet.l0]; rfl) ?_
    rw [sMod m2 (by omega) (by omega)]
    simp only [Option.bind_some]
    exact W.pos hjs (W.ret ⟨rfl, rfl, hs j hj hjs⟩)
  | succ d ih =>
    intro j hj hd
    have hpj := hp j hj
    have h := ih (j + 1) (by omega) (by omega)
    have e : t + m * ((j + 1 : Nat) : Int) = t + m * j + m := by rw [show ((j + 1 : Nat) : Int) = (j : Int) + 1 by omega, Int.mul_add, Int.mul_one]; omega
    rw [e] at h
    refine W.step (fun k => by simp only [spec_RestMeet.l0]; rfl) ?_
    rw [sMod m2 (by omega) (by omega)]
    simp only [Option.bind_some]
    refine W.ite (fun he => W.ret ⟨rfl, rfl, hs j hj he⟩) (fun he => ?_)
    rw [wrap64_id (by omega) (by omega)]
    exact h
theorem iMeet_loop {m t m2 t2 L : Int} (hm : 1 ≤ m ∧ m ≤ 65536) (ht : 0 ≤ t ∧ t < m) (hm2 : 1 ≤ m2 ∧ m2 ≤ 65536) (js : Nat) (hjs : (t + m * js) % m2 = t2) (hb : t + m * js < L) (hL : L ≤ 65536) (hLe : L = (Int.lcm m m2 : Int)) (d : Nat) :
    ∀ j : Nat, j ≤ js → js - j = d → W (fun k => impl_RestMeet.l0 k L (t + m * j) m t m2 t2) (fun r => r.1 = L ∧ r.2.2 = true ∧ Sol m t m2 t2 r.2.1) := by
  have hp : ∀ j : Nat, j ≤ js → 0 ≤ t + m * j ∧ t + m * j < L := by
    intro j hj
    have h1 : m * j ≤ m * js := Int.mul_le_mul_of_nonneg_left (by omega) (by omega)
    have h0 : 0 ≤ m * (j : Int) := Int.mul_nonneg (by omega) (by omega)
    omega
  have hs : ∀ j : Nat, j ≤ js → (t + m * j) % m2 = t2 → Sol m t m2 t2 (t + m * j) := by
    intro j hj he
    have hpj := hp j hj
    exact ⟨hpj.1, by rw [← hLe]; exact hpj.2, by rw [Int.add_mul_emod_self_left]; exact Int.emod_eq_of_lt ht.1 ht.2, he⟩
  induction d with
  | zero =>
    intro j hj hd
    obtain rfl : j = js := by omega
    refine W.step (fun k => by simp only [impl_RestMeet.l0]; rfl) ?_
    rw [iMod m2 (by omega) (by omega)]
    simp only [Option.bind_some]
    exact W.pos hjs (W.ret ⟨rfl, rfl, hs j hj hjs⟩)
  | succ d ih =>
    intro j hj hd
    have hpj := hp j hj
    have h := ih (j + 1) (by omega) (by omega)
    have e : t + m * ((j + 1 : Nat) : Int) = t + m * j + m := by rw [show ((j + 1 : Nat) : Int) = (j : Int) + 1 by omega, Int.mul_add, Int.mul_one]; omega
    rw [e] at h
    refine W.step (fun k => by simp only [impl_RestMeet.l0]; rfl) ?_
    rw [iMod m2 (by omega) (by omega)]
    simp only [Option.bind_some]
    refine W.ite (fun he => W.ret ⟨rfl, rfl, hs j hj he⟩) (fun he => ?_)
    rw [wrap64_id (by omega) (by omega)]
    exact h

theorem sRestMeet_in {m t m2 t2 : Int} (h1 : okS m t) (h3 : okS m2 t2) : (m2 ≠ 0 ∨ m = 0) → W (fun k => spec_RestMeet.f k m t m2 t2) (· = meetS m t m2 t2) := by
  intro hz
  have hk : ¬ (¬ okS m t ∨ ¬ okS m2 t2) := by simp [h1, h3]
  unfold meetS
  rw [if_neg hk]
  refine W.step (fun k => by simp only [spec_RestMeet.f, sRestOk, Option.bind_some]; rfl) ?_
  refine W.dpos h1 ?_
  rw [ndt h3]
  refine W.step (fun k => by simp only [spec_RestMeet.j0]; rfl) ?_
  (try refine W.neg (by decide) ?_)
  refine W.ite (fun h4 => ?_) (fun h4 => ?_)
  · rw [if_pos h4]
    refine W.bind (sRestHas m2 t2 t) ?_
    rintro _ rfl
    exact W.dec (fun h5 => W.ret (by rw [if_pos h5])) (fun h5 => W.ret (by rw [if_neg h5]))
  · rw [if_neg h4]
    have o1 := okS_pos h1 h4
    have hz2 : m2 ≠ 0 := by omega
    have o2 := okS_pos h3 hz2
    refine W.neg hz2 ?_
    rw [if_neg hz2]
    refine W.bind (sGcd m m2 (by omega) (by omega)) ?_
    rintro _ rfl
    have g1 := gcd_pos1 (m2 := m2) o1.1; have g2 := gcd_le1 (m2 := m2) o1.1 o1.2.1
    rw [wrap64_id (n := t - t2) (by omega) (by omega), sMod _ (by omega) (by omega)]
    simp only [Option.bind_some]
    refine W.ite (fun h5 => ?_) (fun h5 => W.ret (by rw [if_pos (show ¬ ((Int.gcd m m2 : Int) ∣ t - t2) from fun hd => h5 (emod_zero_iff.2 hd))]))
    have hd := emod_zero_iff.1 h5
    rw [if_neg (show ¬ ¬ ((Int.gcd m m2 : Int) ∣ t - t2) from fun hc => hc hd)]
    refine W.neg (by omega) ?_
    have td := tdiv_le1 (g := (Int.gcd m m2 : Int)) o1.1 o1.2.1
    have lb := lcm_bound (m := m) (m2 := m2) (by omega) (by omega)
    rw [wrap64_id (n := m.tdiv (Int.gcd m m2 : Int)) (by omega) (by omega), prod_lcm o1.1 o2.1, wrap64_id (n := (Int.lcm m m2 : Int)) (by omega) (by omega)]
    refine W.ite (fun h6 => ?_) (fun h6 => ?_)
    · rw [if_pos h6]
      exact W.ite (fun h7 => W.ret (by rw [if_pos h7])) (fun h7 => W.ret (by rw [if_neg h7]))
    · rw [if_neg h6]
      obtain ⟨js, hj1, hj2⟩ := reach (m := m) (m2 := m2) o1.1 o2.1 (by omega) (by omega) hd
      have := sMeet_loop (m := m) (t := t) (m2 := m2) (t2 := t2) (L := (Int.lcm m m2 : Int)) (by omega) (by omega) (by omega) js hj1 hj2 (by omega) rfl js 0 (by omega) (by omega)
      rw [show t + m * ((0 : Nat) : Int) = t by simp] at this
      refine this.mono ?_
      rintro ⟨a, b, c⟩ ⟨rfl, rfl, hs⟩
      rw [← sol_eq (by omega) (by omega) hs]
theorem sRestMeet (m t m2 t2 : Int) : W (fun k => spec_RestMeet.f k m t m2 t2) (· = meetS m t m2 t2) := by
  have bad : ¬ okS m t ∨ ¬ okS m2 t2 → W (fun k => spec_RestMeet.j0 k true m t m2 t2) (· = meetS m t m2 t2) := by
    intro hb
    refine W.step (fun k => by simp only [spec_RestMeet.j0]; rfl) ?_
    (try refine W.pos (by trivial) ?_)
    exact W.ret (by unfold meetS; rw [if_pos hb])
  by_cases h1 : okS m t
  · by_cases h3 : okS m2 t2
    · by_cases hz : m2 ≠ 0 ∨ m = 0
      · exact sRestMeet_in h1 h3 hz
      · have h4 : m ≠ 0 := by omega
        have h5 : m2 = 0 := by omega
        have hk : ¬ (¬ okS m t ∨ ¬ okS m2 t2) := by simp [h1, h3]
        have hk2 : ¬ (¬ okS m2 t2 ∨ ¬ okS m t) := by simp [h1, h3]
        refine W.step (fun k => by simp only [spec_RestMeet.f, sRestOk, Option.bind_some]; rfl) ?_
        refine W.dpos h1 ?_
        rw [ndt h3]
        refine W.step (fun k => by simp only [spec_RestMeet.j0]; rfl) ?_
        (try refine W.neg (by decide) ?_)
        refine W.neg h4 (W.pos h5 ?_)
        refine W.bind (sRestMeet_in h3 h1 (.inr h5)) ?_
        rintro _ rfl
        refine W.ret ?_
        unfold meetS
        rw [if_neg hk, if_neg hk2, if_pos h5, if_neg h4, if_pos h5]
    · refine W.step (fun k => by simp only [spec_RestMeet.f, sRestOk, Option.bind_some]; rfl) ?_
      refine W.dpos h1 ?_
      rw [ndf h3]; exact bad (.inr h3)
  · refine W.step (fun k => by simp only [spec_RestMeet.f, sRestOk, Option.bind_some]; rfl) ?_
    exact W.dneg h1 (bad (.inl h1))
theorem iRestMeet (m t m2 t2 : Int) : W (fun k => impl_RestMeet.f k m t m2 t2) (· = meetS m t m2 t2) := by
  have bad : ¬ okS m t ∨ ¬ okS m2 t2 → W (fun k => impl_RestMeet.j0 k true m t m2 t2) (· = meetS m t m2 t2) := by
    intro hb
    refine W.step (fun k => by simp only [impl_RestMeet.j0]; rfl) ?_
    (try refine W.pos (by trivial) ?_)
    exact W.ret (by unfold meetS; rw [if_pos hb])
  unfold impl_RestMeet.f
  simp only [iRestOk, Option.bind_some]
  refine W.dec (fun h1 => ?_) (fun h1 => bad (.inl h1))
  by_cases h3 : okS m2 t2
  · rw [ndt h3]
    have hk : ¬ (¬ okS m t ∨ ¬ okS m2 t2) := by simp [h1, h3]
    unfold meetS
    rw [if_neg hk]
    refine W.step (fun k => by simp only [impl_RestMeet.j0]; rfl) ?_
    (try refine W.neg (by decide) ?_)
    refine W.ite (fun h4 => ?_) (fun h4 => ?_)
    · rw [if_pos h4]
      refine W.bind (iRestHas m2 t2 t) ?_
      rintro _ rfl
      exact W.dec (fun h5 => W.ret (by rw [if_pos h5])) (fun h5 => W.ret (by rw [if_neg h5]))
    rw [if_neg h4]
    refine W.ite (fun h5 => ?_) (fun h5 => ?_)
    · rw [if_pos h5]
      refine W.bind (iRestHas m t t2) ?_
      rintro _ rfl
      exact W.dec (fun h5 => W.ret (by rw [if_pos h5])) (fun h5 => W.ret (by rw [if_neg h5]))
    rw [if_neg h5]
    have o1 := okS_pos h1 h4
    have o2 := okS_pos h3 h5
    refine W.bind (iGcd [m, m2] (by simp) (by simp; omega)) ?_
    rintro _ rfl
    rw [gl2]
    have g1 := gcd_pos1 (m2 := m2) o1.1; have g2 := gcd_le1 (m2 := m2) o1.1 o1.2.1
    rw [wrap64_id (n := t - t2) (by omega) (by omega)]
    refine W.neg (by omega) ?_
    refine W.ite (fun h6 => ?_) (fun h6 => W.ret (by rw [if_pos (show ¬ ((Int.gcd m m2 : Int) ∣ t - t2) from fun hd => h6 (tmod_zero_iff.2 hd))]))
    have hd := tmod_zero_iff.1 h6
    rw [if_neg (show ¬ ¬ ((Int.gcd m m2 : Int) ∣ t - t2) from fun hc => hc hd)]
    have lb := lcm_bound (m := m) (m2 := m2) (by omega) (by omega)
    have lb2 := lcm_bound (m := m2) (m2 := m) (by omega) (by omega)
    obtain ⟨js, hj1, hj2⟩ := reach (m := m) (m2 := m2) o1.1 o2.1 (by omega) (by omega) hd
    have hd2 : (Int.gcd m2 m : Int) ∣ t2 - t := by
      rw [Int.gcd_comm]; have := Int.dvd_neg.2 hd; rwa [Int.neg_sub] at this
    obtain ⟨ks, hk1, hk2⟩ := reach (m := m2) (m2 := m) o2.1 o1.1 (by omega) (by omega) hd2
    refine W.ite (fun h7 => ?_) (fun h7 => ?_)
    · have td := tdiv_le1 (g := (Int.gcd m m2 : Int)) o2.1 o2.2.1
      have pl := prod_lcm (m := m2) (m2 := m) o2.1 o1.1
      rw [Int.gcd_comm] at pl
      refine W.step (fun k => by simp only [impl_RestMeet.j1]; rfl) ?_
      refine W.neg (by omega) ?_
      rw [wrap64_id (n := m2.tdiv (Int.gcd m m2 : Int)) (by omega) (by omega), pl, wrap64_id (n := (Int.lcm m2 m : Int)) (by omega) (by omega)]
      rw [Int.lcm_comm m2 m]
      refine W.ite (fun h8 => W.ret (by rw [if_pos h8, if_pos h7])) (fun h8 => ?_)
      rw [if_neg h8]
      rw [Int.lcm_comm m2 m] at hk2
      have := iMeet_loop (m := m2) (t := t2) (m2 := m) (t2 := t) (L := (Int.lcm m m2 : Int)) (by omega) (by omega) (by omega) ks hk1 hk2 (by omega) (by rw [Int.lcm_comm]) ks 0 (by omega) (by omega)
      rw [show t2 + m2 * ((0 : Nat) : Int) = t2 by simp] at this
      refine this.mono ?_
      rintro ⟨a, b, c⟩ ⟨rfl, rfl, hs⟩
      rw [← sol_eq (by omega) (by omega) (sol_turn hs)]
    · have td := tdiv_le1 (g := (Int.gcd m m2 : Int)) o1.1 o1.2.1
      refine W.step (fun k => by simp only [impl_RestMeet.j1]; rfl) ?_
      refine W.neg (by omega) ?_
      rw [wrap64_id (n := m.tdiv (Int.gcd m m2 : Int)) (by omega) (by omega), prod_lcm o1.1 o2.1, wrap64_id (n := (Int.lcm m m2 : Int)) (by omega) (by omega)]
      refine W.ite (fun h8 => W.ret (by rw [if_pos h8, if_neg h7])) (fun h8 => ?_)
      rw [if_neg h8]
      have := iMeet_loop (m := m) (t := t) (m2 := m2) (t2 := t2) (L := (Int.lcm m m2 : Int)) (by omega) (by omega) (by omega) js hj1 hj2 (by omega) rfl js 0 (by omega) (by omega)
      rw [show t + m * ((0 : Nat) : Int) = t by simp] at this
      refine this.mono ?_
      rintro ⟨a, b, c⟩ ⟨rfl, rfl, hs⟩
      rw [← sol_eq (by omega) (by omega) hs]
  · rw [ndf h3]; exact bad (.inr h3)

noncomputable def meetV (l h m t l2 h2 m2 t2 : Int) : Int × Int × Int × Int :=
  if ¬ okV l h m t ∨ ¬ okV l2 h2 m2 t2 ∨ isNV l h m t ∨ isNV l2 h2 m2 t2 then (1, 0, 0, 0)
  else if (meetS m t m2 t2).2.2 = true then mkV (rmeet l h l2 h2).1 (rmeet l h l2 h2).2 (meetS m t m2 t2).1 (meetS m t m2 t2).2.1 else (1, 0, 0, 0)
theorem iValMeet (l h m t l2 h2 m2 t2 : Int) : W (fun k => impl_ValMeet.f k l h m t l2 h2 m2 t2) (· = meetV l h m t l2 h2 m2 t2) := by
  unfold impl_ValMeet.f
  simp only [iVal_none, Option.bind_some]
  have bad : ¬ okV l h m t ∨ ¬ okV l2 h2 m2 t2 ∨ isNV l h m t ∨ isNV l2 h2 m2 t2 → W (fun k => impl_ValMeet.j0 k true l h m t l2 h2 m2 t2) (· = meetV l h m t l2 h2 m2 t2) := by
    intro hb
    refine W.step (fun k => by simp only [impl_ValMeet.j0, impl_valNone.f, Option.bind_some]; rfl) ?_
    (try refine W.pos (by trivial) ?_)
    exact W.ret (by unfold meetV; rw [if_pos hb])
  refine W.bind (iValOk l h m t) ?_
  rintro _ rfl
  refine W.dec (fun h1 => ?_) (fun h1 => bad (.inl h1))
  refine W.bind (iValOk l2 h2 m2 t2) ?_
  rintro _ rfl
  refine W.dec (fun h3 => W.dec (fun h4 => bad (.inr (.inr (.inl h4)))) (fun h4 => ?_)) (fun h3 => bad (.inr (.inl h3)))
  by_cases h5 : isNV l2 h2 m2 t2
  · rw [decide_eq_true h5]; exact bad (.inr (.inr (.inr h5)))
  · rw [decide_eq_false h5]
    unfold meetV
    rw [if_neg (by simp [h1, h3, h4, h5])]
    refine W.step (fun k => by simp only [impl_ValMeet.j0, impl_valNone.f, impl_Val_span.f, impl_Val_rest.f, Option.bind_some]; rfl) ?_
    (try refine W.neg (by decide) ?_)
    refine W.bind (iRestMeet m t m2 t2) ?_
    rintro _ rfl
    refine W.ite (fun h6 => ?_) (fun h6 => W.ret (by rw [if_neg h6]))
    rw [if_pos h6]
    refine W.bind (iRangeMeet l h l2 h2) ?_
    rintro _ rfl
    refine W.bind (iValMake _ _ _ _) ?_
    rintro _ rfl
    exact W.ret rfl

theorem sValMeet (l h m t l2 h2 m2 t2 : Int) : W (fun k => spec_ValMeet.f k l h m t l2 h2 m2 t2) (· = meetV l h m t l2 h2 m2 t2) := by
  unfold spec_ValMeet.f
  simp only [spec_l10None.f, Option.bind_some, bNV]
  have bad : ¬ okV l h m t ∨ ¬ okV l2 h2 m2 t2 ∨ isNV l h m t ∨ isNV l2 h2 m2 t2 → W (fun k => spec_ValMeet.j0 k true l h m t l2 h2 m2 t2) (· = meetV l h m t l2 h2 m2 t2) := by
    intro hb
    refine W.step (fun k => by simp only [spec_ValMeet.j0, spec_l10None.f, Option.bind_some]; rfl) ?_
    (try refine W.pos (by trivial) ?_)
    exact W.ret (by unfold meetV; rw [if_pos hb])
  refine W.bind (sValOk l h m t) ?_
  rintro _ rfl
  refine W.dec (fun h1 => ?_) (fun h1 => bad (.inl h1))
  refine W.bind (sValOk l2 h2 m2 t2) ?_
  rintro _ rfl
  refine W.dec (fun h3 => W.dec (fun h4 => bad (.inr (.inr (.inl h4)))) (fun h4 => ?_)) (fun h3 => bad (.inr (.inl h3)))
  by_cases h5 : isNV l2 h2 m2 t2
  · rw [decide_eq_true h5]; exact bad (.inr (.inr (.inr h5)))
  · rw [decide_eq_false h5]
    unfold meetV
    rw [if_neg (by simp [h1, h3, h4, h5])]
    refine W.step (fun k => by simp only [spec_ValMeet.j0, spec_l10None.f, spec_l10Range.f, spec_l10Rest.f, Option.bind_some]; rfl) ?_
    (try refine W.neg (by decide) ?_)
    refine W.bind (sRestMeet m t m2 t2) ?_
    rintro _ rfl
    refine W.ite (fun h6 => ?_) (fun h6 => W.ret (by rw [if_neg h6]))
    rw [if_pos h6]
    refine W.bind (sRangeMeet l h l2 h2) ?_
    rintro _ rfl
    refine W.bind (sValMake _ _ _ _) ?_
    rintro _ rfl
    exact W.ret rfl

def badV (l h m t l2 h2 m2 t2 : Int) : Prop := ¬ okV l h m t ∨ ¬ okV l2 h2 m2 t2 ∨ isNV l h m t ∨ isNV l2 h2 m2 t2
instance (l h m t l2 h2 m2 t2 : Int) : Decidable (badV l h m t l2 h2 m2 t2) := by unfold badV; exact inferInstance

/-! ### where a comparison of two vals holds -/
def finV (x y : Int × Int × Int × Int) : Int × Int × Int × Int × Int × Int × Int × Int :=
  if isNV x.1 x.2.1 x.2.2.1 x.2.2.2 ∨ isNV y.1 y.2.1 y.2.2.1 y.2.2.2 then (1, 0, 0, 0, 1, 0, 0, 0) else (x.1, x.2.1, x.2.2.1, x.2.2.2, y.1, y.2.1, y.2.2.1, y.2.2.2)
noncomputable def cmpV (c l h m t l2 h2 m2 t2 : Int) : Int × Int × Int × Int × Int × Int × Int × Int :=
  if badV l h m t l2 h2 m2 t2 then (1, 0, 0, 0, 1, 0, 0, 0) else
  let r := rcmp c l h l2 h2
  let x := mkV r.1 r.2.1 m t
  let y := mkV r.2.2.1 r.2.2.2 m2 t2
  if c = 1 then finV (meetV x.1 x.2.1 x.2.2.1 x.2.2.2 y.1 y.2.1 y.2.2.1 y.2.2.2) (meetV x.1 x.2.1 x.2.2.1 x.2.2.2 y.1 y.2.1 y.2.2.1 y.2.2.2) else finV x y
theorem iFinV (x y : Int × Int × Int × Int) : W (fun k => impl_ValCmp.j1 k x.1 x.2.1 x.2.2.1 x.2.2.2 y.1 y.2.1 y.2.2.1 y.2.2.2) (· = finV x y) := by
  have key : ∀ b : Bool, (b = true ↔ (isNV x.1 x.2.1 x.2.2.1 x.2.2.2 ∨ isNV y.1 y.2.1 y.2.2.1 y.2.2.2)) → W (fun k => impl_ValCmp.j2 k b x.1 x.2.1 x.2.2.1 x.2.2.2 y.1 y.2.1 y.2.2.1 y.2.2.2) (· = finV x y) := by
    intro b hb
    refine W.step (fun k => by simp only [impl_ValCmp.j2, impl_valNone.f, Option.bind_some]; rfl) ?_
    unfold finV
    exact W.ite (fun h => W.ret (by rw [if_pos (hb.1 h)])) (fun h => W.ret (by rw [if_neg (fun z => h (hb.2 z))]))
  refine W.step (fun k => by simp only [impl_ValCmp.j1, iVal_none, Option.bind_some]; rfl) ?_
  refine W.dec (fun h => key true (by simp [h])) (fun h => key _ ?_)
  rw [decide_eq_true_iff]; simp [h]
theorem sFinV (x y : Int × Int × Int × Int) : W (fun k => spec_ValCmp.j1 k x.1 x.2.1 x.2.2.1 x.2.2.2 y.1 y.2.1 y.2.2.1 y.2.2.2) (· = finV x y) := by
  have key : ∀ b : Bool, (b = true ↔ (isNV x.1 x.2.1 x.2.2.1 x.2.2.2 ∨ isNV y.1 y.2.1 y.2.2.1 y.2.2.2)) → W (fun k => spec_ValCmp.j2 k b x.1 x.2.1 x.2.2.1 x.2.2.2 y.1 y.2.1 y.2.2.1 y.2.2.2) (· = finV x y) := by
    intro b hb
    refine W.step (fun k => by simp only [spec_ValCmp.j2, spec_l10None.f, Option.bind_some]; rfl) ?_
    unfold finV
    exact W.ite (fun h => W.ret (by rw [if_pos (hb.1 h)])) (fun h => W.ret (by rw [if_neg (fun z => h (hb.2 z))]))
  refine W.step (fun k => by simp only [spec_ValCmp.j1, spec_l10None.f, Option.bind_some, bNV]; rfl) ?_
  refine W.dec (fun h => key true (by simp [h])) (fun h => key _ ?_)
  rw [decide_eq_true_iff]; simp [h]
theorem iValCmp (c l h m t l2 h2 m2 t2 : Int) : W (fun k => impl_ValCmp.f k c l h m t l2 h2 m2 t2) (· = cmpV c l h m t l2 h2 m2 t2) := by
  have bad : badV l h m t l2 h2 m2 t2 → W (fun k => impl_ValCmp.j0 k c true l h m t l2 h2 m2 t2) (· = cmpV c l h m t l2 h2 m2 t2) := by
    intro hb
    refine W.step (fun k => by simp only [impl_ValCmp.j0, impl_valNone.f, Option.bind_some]; rfl) ?_
    exact W.pos (by trivial) (W.ret (by unfold cmpV; rw [if_pos hb]))
  have good : ¬ badV l h m t l2 h2 m2 t2 → W (fun k => impl_ValCmp.j0 k c false l h m t l2 h2 m2 t2) (· = cmpV c l h m t l2 h2 m2 t2) := by
    intro hb
    refine W.step (fun k => by simp only [impl_ValCmp.j0, impl_Val_span.f, impl_Val_rest.f, Option.bind_some]; rfl) ?_
    refine W.neg (by decide) ?_
    unfold cmpV
    rw [if_neg hb]
    refine W.bind (iRangeCmp c l h l2 h2) ?_
    rintro _ rfl
    refine W.bind (iValMake _ _ _ _) ?_
    rintro _ rfl
    refine W.bind (iValMake _ _ _ _) ?_
    rintro _ rfl
    refine W.ite (fun h1 => ?_) (fun h1 => ?_)
    · simp only [if_pos h1]
      refine W.bind (iValMeet _ _ _ _ _ _ _ _) ?_
      rintro _ rfl
      exact iFinV _ _
    · simp only [if_neg h1]
      exact iFinV _ _
  unfold impl_ValCmp.f
  refine W.bind (iValOk l h m t) ?_
  rintro _ rfl
  refine W.dec (fun h1 => ?_) (fun h1 => bad (.inl h1))
  refine W.bind (iValOk l2 h2 m2 t2) ?_
  rintro _ rfl
  refine W.dec (fun h3 => ?_) (fun h3 => bad (.inr (.inl h3)))
  simp only [iVal_none, Option.bind_some]
  refine W.dec (fun h4 => bad (.inr (.inr (.inl h4)))) (fun h4 => ?_)
  by_cases h5 : isNV l2 h2 m2 t2
  · rw [decide_eq_true h5]; exact bad (.inr (.inr (.inr h5)))
  · rw [decide_eq_false h5]
    exact good (fun z => z.elim (fun z => z h1) (fun z => z.elim (fun z => z h3) (fun z => z.elim h4 h5)))
theorem sValCmp (c l h m t l2 h2 m2 t2 : Int) : W (fun k => spec_ValCmp.f k c l h m t l2 h2 m2 t2) (· = cmpV c l h m t l2 h2 m2 t2) := by
  have bad : badV l h m t l2 h2 m2 t2 → W (fun k => spec_ValCmp.j0 k c true l h m t l2 h2 m2 t2) (· = cmpV c l h m t l2 h2 m2 t2) := by
    intro hb
    refine W.step (fun k => by simp only [spec_ValCmp.j0, spec_l10None.f, Option.bind_some]; rfl) ?_
    exact W.pos (by trivial) (W.ret (by unfold cmpV; rw [if_pos hb]))
  have good : ¬ badV l h m t l2 h2 m2 t2 → W (fun k => spec_ValCmp.j0 k c false l h m t l2 h2 m2 t2) (· = cmpV c l h m t l2 h2 m2 t2) := by
    intro hb
    refine W.step (fun k => by simp only [spec_ValCmp.j0, spec_l10Range.f, spec_l10Rest.f, Option.bind_some]; rfl) ?_
    refine W.neg (by decide) ?_
    unfold cmpV
    rw [if_neg hb]
    refine W.bind (sRangeCmp c l h l2 h2) ?_
    rintro _ rfl
    refine W.bind (sValMake _ _ _ _) ?_
    rintro _ rfl
    refine W.bind (sValMake _ _ _ _) ?_
    rintro _ rfl
    refine W.ite (fun h1 => ?_) (fun h1 => ?_)
    · simp only [if_pos h1]
      refine W.bind (sValMeet _ _ _ _ _ _ _ _) ?_
      rintro _ rfl
      exact sFinV _ _
    · simp only [if_neg h1]
      exact sFinV _ _
  unfold spec_ValCmp.f
  refine W.bind (sValOk l h m t) ?_
  rintro _ rfl
  refine W.dec (fun h1 => ?_) (fun h1 => bad (.inl h1))
  refine W.bind (sValOk l2 h2 m2 t2) ?_
  rintro _ rfl
  refine W.dec (fun h3 => ?_) (fun h3 => bad (.inr (.inl h3)))
  simp only [spec_l10None.f, Option.bind_some, bNV]
  refine W.dec (fun h4 => bad (.inr (.inr (.inl h4)))) (fun h4 => ?_)
  by_cases h5 : isNV l2 h2 m2 t2
  · rw [decide_eq_true h5]; exact bad (.inr (.inr (.inr h5)))
  · rw [decide_eq_false h5]
    exact good (fun z => z.elim (fun z => z h1) (fun z => z.elim (fun z => z h3) (fun z => z.elim h4 h5)))

theorem eqVal_same (a b c d : Int) : laws_eqVal.f a b c d a b c d = some true := by simp [laws_eqVal.f]
theorem FnExactValCmp (n a b c d e f g h : Int) (_ : (Lit.int .i64 n).wf = true) (_ : (Lit.int .i64 a).wf = true) (_ : (Lit.int .i64 b).wf = true) (_ : (Lit.int .i64 c).wf = true) (_ : (Lit.int .i64 d).wf = true) (_ : (Lit.int .i64 e).wf = true) (_ : (Lit.int .i64 f).wf = true) (_ : (Lit.int .i64 g).wf = true) (_ : (Lit.int .i64 h).wf = true) : ∃ k, laws_FnExactValCmp.f k n a b c d e f g h = some true := by
  apply W.eq
  unfold laws_FnExactValCmp.f
  simp only [laws_toVal.f, Option.bind_some]
  refine W.bind (sValCmp n a b c d e f g h) ?_
  rintro _ rfl
  refine W.bind (iValCmp n a b c d e f g h) ?_
  rintro _ rfl
  simp only [eqVal_same, Option.bind_some]
  refine W.pos (by trivial) ?_
  exact W.pos (by trivial) (W.ret rfl)

end Go.Proofs.Ytdmadlfdibiejaa.Pure
