/- The pure statement of the law FnExactRangeWiden: for every input the printed function answers true. -/
import Derived.Test.YtlipfemjlicbbaaPFnExactRangeWidenx0
import Derived.Test.YtlipfemjlicbbaaPFnExactRangeWidenx1
import Derived.Test.YtlipfemjlicbbaaPFnExactRangeWidenx10
import Derived.Test.YtlipfemjlicbbaaPFnExactRangeWidenx11
import Derived.Test.YtlipfemjlicbbaaPFnExactRangeWidenx2
import Derived.Test.YtlipfemjlicbbaaPFnExactRangeWidenx3
import Derived.Test.YtlipfemjlicbbaaPFnExactRangeWidenx4
import Derived.Test.YtlipfemjlicbbaaPFnExactRangeWidenx5
import Derived.Test.YtlipfemjlicbbaaPFnExactRangeWidenx6
import Derived.Test.YtlipfemjlicbbaaPFnExactRangeWidenx7
import Derived.Test.YtlipfemjlicbbaaPFnExactRangeWidenx8
import Derived.Test.YtlipfemjlicbbaaPFnExactRangeWidenx9
import Derived.Test.YtlipfemjlicbbaaLib
namespace Go.Proofs.Ytlipfemjlicbbaa.Pure
open Go Go.RowKit Go.Proofs.Ytlipfemjlicbbaa.PFnExactRangeWiden Go.Proofs.YtlipfemjlicbbaaW.PrintWords Go.Proofs.YtlipfemjlicbbaaW.PrintLast Go.Proofs.YtlipfemjlicbbaaW.PrintMore Go.Proofs.Ytlipfemjlicbbaa.Lib
set_option linter.unusedVariables false
set_option linter.unusedSimpArgs false

def okN (v : Int) : Prop := -2147483648 ≤ v ∧ v ≤ 2147483647
instance (v : Int) : Decidable (okN v) := by unfold okN; exact inferInstance
theorem sNumOk (v : Int) : spec_NumOk.f v = some (decide (okN v)) := by
  simp only [spec_NumOk.f, spec_l1In.f, okN]
  by_cases h : v ≥ -2147483648 <;> simp [h]
theorem iNumOk (v : Int) : impl_NumOk.f v = some (decide (okN v)) := by
  simp only [impl_NumOk.f, okN]
  by_cases h : v ≥ -2147483648 <;> simp [h]

/-! ### ranges: whether they are as they must be -/
def okR (l h : Int) : Prop := (l = 1 ∧ h = 0) ∨ (-2147483648 ≤ l ∧ l ≤ h ∧ h ≤ 2147483647)
instance (l h : Int) : Decidable (okR l h) := by unfold okR; exact inferInstance
theorem sRangeOk (l h : Int) : spec_RangeOk.f l h = some (decide (okR l h)) := by
  simp only [spec_RangeOk.f, spec_l8None.f, sNumOk, Option.bind_some]
  by_cases h1 : l = 1 ∧ h = 0
  · obtain ⟨rfl, rfl⟩ := h1; rfl
  · have : (l == 1 && h == 0) = false := by simpa using h1
    rw [this]; simp only [Bool.false_eq_true, if_false, okR, okN]
    by_cases h2 : -2147483648 ≤ l ∧ l ≤ 2147483647
    · by_cases h3 : -2147483648 ≤ h ∧ h ≤ 2147483647
      · simp only [h2, h3, and_self, true_and, and_true, decide_true, if_true]; congr 1; apply decide_eq_decide.2; omega
      · simp only [h2, h3, and_self, decide_true, decide_false, if_true, Bool.false_eq_true, if_false]; congr 1; symm; apply decide_eq_false; omega
    · simp only [h2, decide_false, Bool.false_eq_true, if_false]; congr 1; symm; apply decide_eq_false; omega
theorem iRangeOk (l h : Int) : impl_RangeOk.f l h = some (decide (okR l h)) := by
  simp only [impl_RangeOk.f, impl_rangeNone.f, iNumOk, Option.bind_some]
  by_cases h1 : l = 1 ∧ h = 0
  · obtain ⟨rfl, rfl⟩ := h1; rfl
  · have : (l == 1 && h == 0) = false := by simpa using h1
    rw [this]; simp only [Bool.false_eq_true, if_false, okR, okN]
    by_cases h2 : -2147483648 ≤ l ∧ l ≤ 2147483647
    · by_cases h3 : -2147483648 ≤ h ∧ h ≤ 2147483647
      · simp only [h2, h3, and_self, true_and, and_true, decide_true, if_true]; congr 1; apply decide_eq_decide.2; omega
      · simp only [h2, h3, and_self, decide_true, decide_false, if_true, Bool.false_eq_true, if_false]; congr 1; symm; apply decide_eq_false; omega
    · simp only [h2, decide_false, Bool.false_eq_true, if_false]; congr 1; symm; apply decide_eq_false; omega

/-! ### ranges: cut, joined, met -/
def cut (l h : Int) : Int × Int := if mx l (-2147483648) > mn h 2147483647 then (1, 0) else (mx l (-2147483648), mn h 2147483647)
def isNone (l h : Int) : Prop := l = 1 ∧ h = 0
instance (l h : Int) : Decidable (isNone l h) := by unfold isNone; exact inferInstance
theorem okR_gt {l h : Int} (o : okR l h) : l > h ↔ isNone l h := by unfold okR at o; unfold isNone; omega
theorem bIsNone (l h : Int) : (l == 1 && h == 0) = decide (isNone l h) := by
  rw [Bool.eq_iff_iff, decide_eq_true_iff]; unfold isNone; simp

theorem sMin (a b : Int) : spec_l8Min.f a b = some (mn a b) := by unfold spec_l8Min.f mn; split <;> split <;> first | rfl | (congr 1; omega)
theorem sMax (a b : Int) : spec_l8Max.f a b = some (mx a b) := by unfold spec_l8Max.f mx; split <;> split <;> first | rfl | (congr 1; omega)

def rjoin (l h l2 h2 : Int) : Int × Int := if ¬ okR l h ∨ ¬ okR l2 h2 then (1, 0) else if isNone l h then (l2, h2) else if isNone l2 h2 then (l, h) else (mn l l2, mx h h2)
theorem sRangeJoin (l h l2 h2 : Int) : W (fun k => spec_RangeJoin.f k l h l2 h2) (· = rjoin l h l2 h2) := by
  unfold spec_RangeJoin.f
  simp only [sRangeOk, Option.bind_some]
  have bad : ¬ okR l h ∨ ¬ okR l2 h2 → W (fun k => spec_RangeJoin.j0 k true l h l2 h2) (· = rjoin l h l2 h2) := by
    intro hb
    refine W.step (fun k => by simp only [spec_RangeJoin.j0, spec_l8None.f, Option.bind_some]; rfl) ?_
    (try refine W.pos (by trivial) ?_)
    exact W.ret (by unfold rjoin; rw [if_pos hb])
  refine W.dec (fun h1 => ?_) (fun h1 => bad (.inl h1))
  by_cases h3 : okR l2 h2
  · rw [ndt h3]
    refine W.step (fun k => by simp only [spec_RangeJoin.j0, spec_l8None.f, Option.bind_some, sMin, sMax, bIsNone]; rfl) ?_
    unfold rjoin
    have hk : ¬ (¬ okR l h ∨ ¬ okR l2 h2) := by simp [h1, h3]
    rw [if_neg hk]
    (try refine W.neg (by decide) ?_)
    refine W.dec (fun h4 => W.ret (by rw [if_pos h4])) (fun h4 => ?_)
    rw [if_neg h4]
    exact W.dec (fun h5 => W.ret (by rw [if_pos h5])) (fun h5 => W.ret (by rw [if_neg h5]))
  · rw [ndf h3]; exact bad (.inr h3)
theorem iRangeJoin (l h l2 h2 : Int) : W (fun k => impl_RangeJoin.f k l h l2 h2) (· = rjoin l h l2 h2) := by
  unfold impl_RangeJoin.f
  simp only [iRangeOk, Option.bind_some]
  have bad : ¬ okR l h ∨ ¬ okR l2 h2 → W (fun k => impl_RangeJoin.j0 k true l h l2 h2) (· = rjoin l h l2 h2) := by
    intro hb
    refine W.step (fun k => by simp only [impl_RangeJoin.j0, impl_rangeNone.f, Option.bind_some]; rfl) ?_
    (try refine W.pos (by trivial) ?_)
    exact W.ret (by unfold rjoin; rw [if_pos hb])
  refine W.dec (fun h1 => ?_) (fun h1 => bad (.inl h1))
  by_cases h3 : okR l2 h2
  · rw [ndt h3]
    refine W.step (fun k => by simp only [impl_RangeJoin.j0, impl_rangeNone.f, impl_Range_empty.f, Option.bind_some]; rfl) ?_
    unfold rjoin
    have hk : ¬ (¬ okR l h ∨ ¬ okR l2 h2) := by simp [h1, h3]
    rw [if_neg hk]
    (try refine W.neg (by decide) ?_)
    refine W.dec (fun h4 => W.ret (by rw [if_pos ((okR_gt h1).1 h4)])) (fun h4 => ?_)
    rw [if_neg (fun hc => h4 ((okR_gt h1).2 hc))]
    exact W.dec (fun h5 => W.ret (by rw [if_pos ((okR_gt h3).1 h5)])) (fun h5 => W.ret (by rw [if_neg (fun hc => h5 ((okR_gt h3).2 hc))]))
  · rw [ndf h3]; exact bad (.inr h3)
theorem rjoin_ok (l h l2 h2 : Int) : okR (rjoin l h l2 h2).1 (rjoin l h l2 h2).2 := by
  unfold rjoin
  split
  · exact .inl ⟨rfl, rfl⟩
  rename_i hb
  have o1 : okR l h := Decidable.byContradiction fun h => hb (.inl h)
  have o2 : okR l2 h2 := Decidable.byContradiction fun h => hb (.inr h)
  split
  · exact o2
  split
  · exact o1
  · rename_i n1 n2
    unfold okR at o1 o2 ⊢; unfold isNone at n1 n2; unfold mn mx
    right; simp only
    split <;> split <;> omega

/-! ### ranges widened -/
/-- The greatest of some numbers that is at most v, beside o. -/
def down (v : Int) (l : List Int) (o : Int) : Int := l.foldl (fun o s => if s ≤ v ∧ s > o then s else o) o
def up (v : Int) (l : List Int) (o : Int) : Int := l.foldl (fun o s => if s ≥ v ∧ s < o then s else o) o
theorem rd_get {xs : List Int} {i : Nat} (h : i < xs.length) : rd xs (i : Int) = xs[i] := by simp [rd, List.getD_eq_getElem?_getD, List.getElem?_eq_getElem h]
theorem sDown {xs : List Int} (hx : xs.length ≤ 9000000000000000000) (v : Int) (d : Nat) : ∀ (i : Nat) (o : Int), i ≤ xs.length → xs.length - i = d → W (fun k => spec_l8Down.l0 k xs v o (i : Int)) (· = down v (xs.drop i) o) := by
  induction d with
  | zero =>
    intro i o hi hd
    refine W.step (fun k => by simp only [spec_l8Down.l0]; rfl) ?_
    refine W.neg (by omega) (W.ret ?_)
    rw [List.drop_eq_nil_of_le (by omega)]; rfl
  | succ d ih =>
    intro i o hi hd
    have hlt : i < xs.length := by omega
    have h := fun o => ih (i + 1) o (by omega) (by omega)
    rw [List.drop_eq_getElem_cons hlt]
    refine W.step (fun k => by simp only [spec_l8Down.l0]; rfl) ?_
    refine W.pos (by omega) (W.pos (by omega) ?_)
    rw [wrap64_id (n := (i : Int) + 1) (by omega) (by omega), rd_get hlt, show (i : Int) + 1 = ((i + 1 : Nat) : Int) by omega]
    unfold down; rw [List.foldl_cons]
    refine W.ite (fun h1 => W.ite (fun h2 => ?_) (fun h2 => ?_)) (fun h1 => ?_)
    · rw [if_pos ⟨h1, h2⟩]; exact h _
    · rw [if_neg (fun hc => h2 hc.2)]; exact h _
    · rw [if_neg (fun hc => h1 hc.1)]; exact h _
theorem sUp {xs : List Int} (hx : xs.length ≤ 9000000000000000000) (v : Int) (d : Nat) : ∀ (i : Nat) (o : Int), i ≤ xs.length → xs.length - i = d → W (fun k => spec_l8Up.l0 k xs v o (i : Int)) (· = up v (xs.drop i) o) := by
  induction d with
  | zero =>
    intro i o hi hd
    refine W.step (fun k => by simp only [spec_l8Up.l0]; rfl) ?_
    refine W.neg (by omega) (W.ret ?_)
    rw [List.drop_eq_nil_of_le (by omega)]; rfl
  | succ d ih =>
    intro i o hi hd
    have hlt : i < xs.length := by omega
    have h := fun o => ih (i + 1) o (by omega) (by omega)
    rw [List.drop_eq_getElem_cons hlt]
    refine W.step (fun k => by simp only [spec_l8Up.l0]; rfl) ?_
    refine W.pos (by omega) (W.pos (by omega) ?_)
    rw [wrap64_id (n := (i : Int) + 1) (by omega) (by omega), rd_get hlt, show (i : Int) + 1 = ((i + 1 : Nat) : Int) by omega]
    unfold up; rw [List.foldl_cons]
    refine W.ite (fun h1 => W.ite (fun h2 => ?_) (fun h2 => ?_)) (fun h1 => ?_)
    · rw [if_pos ⟨h1, h2⟩]; exact h _
    · rw [if_neg (fun hc => h2 hc.2)]; exact h _
    · rw [if_neg (fun hc => h1 hc.1)]; exact h _
theorem down_ge (v : Int) (l : List Int) : ∀ o : Int, o ≤ down v l o := by
  induction l with
  | nil => intro o; exact Int.le_refl _
  | cons s l ih =>
    intro o
    unfold down; rw [List.foldl_cons]
    have h := ih (if s ≤ v ∧ s > o then s else o)
    unfold down at h
    split at h <;> split <;> omega
theorem up_le (v : Int) (l : List Int) : ∀ o : Int, up v l o ≤ o := by
  induction l with
  | nil => intro o; exact Int.le_refl _
  | cons s l ih =>
    intro o
    unfold up; rw [List.foldl_cons]
    have h := ih (if s ≥ v ∧ s < o then s else o)
    unfold up at h
    split at h <;> split <;> omega
theorem iDown {xs : List Int} (hx : xs.length ≤ 9000000000000000000) {al ah jl jh : Int} (hj : jl ≤ 2147483647) {P : Int × Int → Prop} (d : Nat) : ∀ (i : Nat) (o : Int), -2147483648 ≤ o → i ≤ xs.length → xs.length - i = d →
    W (fun k => impl_RangeWiden.j2 k xs al ah (down jl (xs.drop i) o) jh) P → W (fun k => impl_RangeWiden.l0 k xs o xs (xs.length : Int) (i : Int) al ah jl jh) P := by
  induction d with
  | zero =>
    intro i o ho hi hd hk
    refine W.step (fun k => by simp only [impl_RangeWiden.l0]; rfl) ?_
    refine W.neg (by omega) ?_
    rw [List.drop_eq_nil_of_le (by omega)] at hk; exact hk
  | succ d ih =>
    intro i o ho hi hd hk
    have hlt : i < xs.length := by omega
    have h := fun o ho => ih (i + 1) o ho (by omega) (by omega)
    rw [List.drop_eq_getElem_cons hlt] at hk
    unfold down at hk; rw [List.foldl_cons] at hk
    refine W.step (fun k => by simp only [impl_RangeWiden.l0, iNumOk, Option.bind_some]; rfl) ?_
    refine W.pos (by omega) (W.pos (by omega) (W.pos (by omega) ?_))
    rw [wrap64_id (n := (i : Int) + 1) (by omega) (by omega), rd_get hlt, show (i : Int) + 1 = ((i + 1 : Nat) : Int) by omega]
    refine W.dec (fun h1 => W.ite (fun h2 => ?_) (fun h2 => ?_)) (fun h1 => ?_)
    · refine h _ (by unfold mx; split <;> omega) ?_
      have e : mx o xs[i] = if xs[i] ≤ jl ∧ xs[i] > o then xs[i] else o := by
        unfold mx; by_cases hc : o < xs[i]
        · rw [if_pos hc, if_pos ⟨h2, hc⟩]
        · rw [if_neg hc, if_neg (fun hd => hc hd.2)]
      rw [e]; exact hk
    · refine h _ ho ?_
      rw [if_neg (fun hc => h2 hc.1)] at hk; exact hk
    · refine h _ ho ?_
      rw [if_neg (fun hc => h1 ⟨by omega, by omega⟩)] at hk; exact hk
theorem iUp {xs : List Int} (hx : xs.length ≤ 9000000000000000000) {jl jh : Int} (hj : -2147483648 ≤ jh) (d : Nat) : ∀ (i : Nat) (o : Int), o ≤ 2147483647 → i ≤ xs.length → xs.length - i = d →
    W (fun k => impl_RangeWiden.l1 k o xs (xs.length : Int) (i : Int) jl jh) (· = (jl, up jh (xs.drop i) o)) := by
  induction d with
  | zero =>
    intro i o ho hi hd
    refine W.step (fun k => by simp only [impl_RangeWiden.l1]; rfl) ?_
    refine W.neg (by omega) (W.ret ?_)
    rw [List.drop_eq_nil_of_le (by omega)]; rfl
  | succ d ih =>
    intro i o ho hi hd
    have hlt : i < xs.length := by omega
    have h := fun o ho => ih (i + 1) o ho (by omega) (by omega)
    rw [List.drop_eq_getElem_cons hlt]
    unfold up; rw [List.foldl_cons]
    refine W.step (fun k => by simp only [impl_RangeWiden.l1, iNumOk, Option.bind_some]; rfl) ?_
    refine W.pos (by omega) (W.pos (by omega) (W.pos (by omega) ?_))
    rw [wrap64_id (n := (i : Int) + 1) (by omega) (by omega), rd_get hlt, show (i : Int) + 1 = ((i + 1 : Nat) : Int) by omega]
    refine W.dec (fun h1 => W.ite (fun h2 => ?_) (fun h2 => ?_)) (fun h1 => ?_)
    · have e : mn o xs[i] = if xs[i] ≥ jh ∧ xs[i] < o then xs[i] else o := by
        unfold mn; by_cases hc : xs[i] < o
        · rw [if_pos hc, if_pos ⟨h2, hc⟩]
        · rw [if_neg hc, if_neg (fun hd => hc hd.2)]
      rw [e]
      exact h _ (by split <;> omega)
    · rw [if_neg (fun hc => h2 hc.1)]; exact h _ ho
    · rw [if_neg (fun hc => h1 ⟨by omega, by omega⟩)]; exact h _ ho
def widenR (l h l2 h2 : Int) (s : List Int) : Int × Int :=
  if ¬ okR l h ∨ ¬ okR l2 h2 ∨ isNone l h ∨ isNone l2 h2 then rjoin l h l2 h2
  else (if (rjoin l h l2 h2).1 < l then down (rjoin l h l2 h2).1 s (-2147483648) else (rjoin l h l2 h2).1, if (rjoin l h l2 h2).2 > h then up (rjoin l h l2 h2).2 s 2147483647 else (rjoin l h l2 h2).2)
theorem sRangeWiden (l h l2 h2 : Int) {s : List Int} (hs : s.length ≤ 9000000000000000000) : W (fun k => spec_RangeWiden.f k l h l2 h2 s) (· = widenR l h l2 h2 s) := by
  unfold spec_RangeWiden.f
  simp only [sRangeOk, spec_l8None.f, Option.bind_some, bIsNone]
  refine W.bind (sRangeJoin l h l2 h2) ?_
  rintro _ rfl
  have bad : ¬ okR l h ∨ ¬ okR l2 h2 ∨ isNone l h ∨ isNone l2 h2 → W (fun k => spec_RangeWiden.j0 k s true l h (rjoin l h l2 h2).1 (rjoin l h l2 h2).2) (· = widenR l h l2 h2 s) := by
    intro hb
    refine W.step (fun k => by simp only [spec_RangeWiden.j0]; rfl) ?_
    (try refine W.pos (by trivial) ?_)
    exact W.ret (by unfold widenR; rw [if_pos hb])
  have hd : ∀ v, W (fun k => spec_l8Down.f k s v) (· = down v s (-2147483648)) := fun v => sDown hs v _ 0 _ (by omega) rfl
  have hu : ∀ v, W (fun k => spec_l8Up.f k s v) (· = up v s 2147483647) := fun v => sUp hs v _ 0 _ (by omega) rfl
  refine W.dec (fun h1 => W.dec (fun h3 => W.dec (fun h4 => bad (.inr (.inr (.inl h4)))) (fun h4 => ?_)) (fun h3 => bad (.inr (.inl h3)))) (fun h1 => bad (.inl h1))
  by_cases h5 : isNone l2 h2
  · rw [decide_eq_true h5]; exact bad (.inr (.inr (.inr h5)))
  · rw [decide_eq_false h5]
    unfold widenR
    rw [if_neg (by simp [h1, h3, h4, h5])]
    refine W.step (fun k => by simp only [spec_RangeWiden.j0]; rfl) ?_
    (try refine W.neg (by decide) ?_)
    refine W.ite (fun h6 => ?_) (fun h6 => ?_)
    · rw [if_pos h6]
      refine W.bind (hd _) ?_
      rintro _ rfl
      refine W.ite (fun h7 => ?_) (fun h7 => W.ret (by rw [if_neg h7]))
      rw [if_pos h7]
      refine W.bind (hu _) ?_
      rintro _ rfl
      exact W.ret rfl
    · rw [if_neg h6]
      refine W.ite (fun h7 => ?_) (fun h7 => W.ret (by rw [if_neg h7]))
      rw [if_pos h7]
      refine W.bind (hu _) ?_
      rintro _ rfl
      exact W.ret rfl
theorem iRangeWiden (l h l2 h2 : Int) {s : List Int} (hs : s.length ≤ 9000000000000000000) : W (fun k => impl_RangeWiden.f k l h l2 h2 s) (· = widenR l h l2 h2 s) := by
  unfold impl_RangeWiden.f
  simp only [iRangeOk, impl_Range_empty.f, Option.bind_some]
  refine W.bind (iRangeJoin l h l2 h2) ?_
  rintro _ rfl
  have bad : ¬ okR l h ∨ ¬ okR l2 h2 ∨ isNone l h ∨ isNone l2 h2 → W (fun k => impl_RangeWiden.j0 k s true l h (rjoin l h l2 h2).1 (rjoin l h l2 h2).2) (· = widenR l h l2 h2 s) := by
    intro hb
    refine W.step (fun k => by simp only [impl_RangeWiden.j0]; rfl) ?_
    (try refine W.pos (by trivial) ?_)
    exact W.ret (by unfold widenR; rw [if_pos hb])
  refine W.dec (fun h1 => W.dec (fun h3 => W.dec (fun h4 => bad (.inr (.inr (.inl ((okR_gt h1).1 h4))))) (fun h4 => ?_)) (fun h3 => bad (.inr (.inl h3)))) (fun h1 => bad (.inl h1))
  by_cases h5 : l2 > h2
  · rw [decide_eq_true h5]; exact bad (.inr (.inr (.inr ((okR_gt h3).1 h5))))
  · rw [decide_eq_false h5]
    have hn1 : ¬ isNone l h := fun hc => h4 ((okR_gt h1).2 hc)
    have hn2 : ¬ isNone l2 h2 := fun hc => h5 ((okR_gt h3).2 hc)
    have hj : -2147483648 ≤ (rjoin l h l2 h2).2 ∧ (rjoin l h l2 h2).1 ≤ 2147483647 := by
      have := rjoin_ok l h l2 h2; unfold okR at this; omega
    unfold widenR
    rw [if_neg (by simp [h1, h3, hn1, hn2])]
    have j2 : ∀ a : Int, W (fun k => impl_RangeWiden.j2 k s l h a (rjoin l h l2 h2).2) (· = (a, if (rjoin l h l2 h2).2 > h then up (rjoin l h l2 h2).2 s 2147483647 else (rjoin l h l2 h2).2)) := by
      intro a
      refine W.step (fun k => by simp only [impl_RangeWiden.j2]; rfl) ?_
      refine W.ite (fun h7 => ?_) (fun h7 => W.ret (by rw [if_neg h7]))
      rw [if_pos h7]
      exact iUp hs hj.1 _ 0 _ (by omega) (by omega) rfl
    refine W.step (fun k => by simp only [impl_RangeWiden.j0]; rfl) ?_
    (try refine W.neg (by decide) ?_)
    refine W.ite (fun h6 => ?_) (fun h6 => ?_)
    · rw [if_pos h6]
      exact iDown hs hj.2 _ 0 _ (by omega) (by omega) rfl (j2 _)
    · rw [if_neg h6]; exact j2 _

/-! ### lists of numbers, taken over and held against each other -/
theorem toInts_loop {xs : List Int} (hx : xs.length ≤ 1048576) (d : Nat) : ∀ (i : Nat) (ys : List Int), i ≤ xs.length → xs.length - i = d → ys.length = xs.length → ys.take i = xs.take i → W (fun k => laws_toIntS.l0 k xs ys (i : Int)) (· = xs) := by
  induction d with
  | zero =>
    intro i ys hi hd hl ht
    refine W.step (fun k => by simp only [laws_toIntS.l0]; rfl) ?_
    refine W.neg (by omega) (W.ret ?_)
    obtain rfl : i = xs.length := by omega
    rw [List.take_length, ← hl, List.take_length] at ht; exact ht
  | succ d ih =>
    intro i ys hi hd hl ht
    have hlt : i < xs.length := by omega
    refine W.step (fun k => by simp only [laws_toIntS.l0]; rfl) ?_
    refine W.pos (by omega) (W.pos (by omega) (W.pos (by omega) ?_))
    rw [wrap64_id (n := (i : Int) + 1) (by omega) (by omega), show (i : Int) + 1 = ((i + 1 : Nat) : Int) by omega, show rd xs (i : Int) = xs[i] by simp [rd, List.getD_eq_getElem?_getD, List.getElem?_eq_getElem hlt]]
    refine ih (i + 1) _ (by omega) (by omega) (by simp [hl]) ?_
    rw [Int.toNat_natCast, List.take_succ_eq_append_getElem (by simpa using by omega), List.take_succ_eq_append_getElem hlt, List.getElem_set_self, List.take_set_of_le (by omega), ht]
theorem toInts {xs : List Int} (hx : xs.length ≤ 1048576) : W (fun k => laws_toIntS.f k xs) (· = xs) := by
  unfold laws_toIntS.f
  refine W.pos (by omega) (W.pos (by omega) ?_)
  exact toInts_loop hx _ 0 _ (by omega) rfl (by simp) (by simp)
theorem eqInts_loop {xs : List Int} (hx : xs.length ≤ 1048576) (d : Nat) : ∀ i : Nat, i ≤ xs.length → xs.length - i = d → W (fun k => laws_eqIntS.l0 k xs xs (i : Int)) (· = true) := by
  induction d with
  | zero =>
    intro i hi hd
    refine W.step (fun k => by simp only [laws_eqIntS.l0]; rfl) ?_
    exact W.neg (by omega) (W.ret rfl)
  | succ d ih =>
    intro i hi hd
    refine W.step (fun k => by simp only [laws_eqIntS.l0]; rfl) ?_
    refine W.pos (by omega) (W.pos (by omega) (W.pos (by omega) (W.pos (by trivial) ?_)))
    rw [wrap64_id (n := (i : Int) + 1) (by omega) (by omega), show (i : Int) + 1 = ((i + 1 : Nat) : Int) by omega]
    exact ih (i + 1) (by omega) (by omega)
theorem eqInts {xs : List Int} (hx : xs.length ≤ 1048576) : W (fun k => laws_eqIntS.f k xs xs) (· = true) := by
  unfold laws_eqIntS.f
  refine W.pos (by trivial) ?_
  exact eqInts_loop hx _ 0 (by omega) rfl

theorem eqRange_same (a b : Int) : laws_eqRange.f a b a b = some true := by simp [laws_eqRange.f]
theorem FnExactRangeWiden (a b c d : Int) (l : List Int) (_ : (Lit.int .i64 a).wf = true) (_ : (Lit.int .i64 b).wf = true) (_ : (Lit.int .i64 c).wf = true) (_ : (Lit.int .i64 d).wf = true) (_ : l.length ≤ maxLen) (_ : l.length * 8 ≤ 140737488351232) (_ : ∀ x ∈ l, (Lit.int .i64 x).wf = true) : ∃ k, laws_FnExactRangeWiden.f k a b c d l = some true := by
  apply W.eq
  unfold laws_FnExactRangeWiden.f
  simp only [laws_toRange.f, Option.bind_some]
  refine W.ite (fun _ => W.ret rfl) (fun hl => ?_)
  have hx : l.length ≤ 1048576 := by omega
  refine W.bind (toInts hx) ?_
  rintro _ rfl
  refine W.bind (sRangeWiden a b c d (by omega)) ?_
  rintro _ rfl
  refine W.bind (toInts hx) ?_
  rintro _ rfl
  refine W.bind (iRangeWiden a b c d (by omega)) ?_
  rintro _ rfl
  simp only [eqRange_same, Option.bind_some]
  refine W.pos (by trivial) ?_
  refine W.bind (toInts hx) ?_
  rintro _ rfl
  refine W.bind (eqInts hx) ?_
  rintro _ rfl
  exact W.pos (by trivial) (W.ret rfl)

end Go.Proofs.Ytlipfemjlicbbaa.Pure
