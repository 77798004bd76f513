/- Written by this session's own driver (wip/dprint.py): the functions that the law FnRangeOne reaches, as Lean functions, each with its contract. -/
import Derived.Test.YthbkakcchgnhpaaPFnRangeOnex0
import Derived.Test.YthbkakcchgnhpaaPFnRangeOnex1
import Derived.Test.YthbkakcchgnhpaaPFnRangeOnex11
import Derived.Test.YthbkakcchgnhpaaPFnRangeOnex13
import Derived.Test.YthbkakcchgnhpaaPFnRangeOnex14
import Derived.Test.YthbkakcchgnhpaaPFnRangeOnex15
import Derived.Test.YthbkakcchgnhpaaSv
namespace Go.Proofs.Ythbkakcchgnhpaa.PFnRangeOne
open Go.RowKit Go.Proofs.YthbkakcchgnhpaaV.PrintWords Go.Proofs.YthbkakcchgnhpaaV.PrintLast Go.Proofs.YthbkakcchgnhpaaV.PrintMore Go.Proofs.YthbkakcchgnhpaaSv
attribute [local go_sem] max2_int min2_int max_two min_two max_three min_three max_four min_four   -- for this text's walks alone
set_option linter.unusedVariables false
set_option linter.unusedSimpArgs false

attribute [local go_sem high] eqA24
/-! ### laws_sameInts: function 20 -/
def laws_sameInts.l0 : Nat → List Int → List Int → Int → Option (Bool)
 | 0, _, _, _ => none
 | k + 1, x0, x1, x5 => if x5 < (x0.length : Int) then (if 0 ≤ x5 then (if x5 < (x1.length : Int) then (if (rd x0 x5) = (rd x1 x5) then (laws_sameInts.l0 k x0 x1 (wrap64 (x5 + 1))) else (some false)) else (none)) else (none)) else (some true)
def laws_sameInts.f (k : Nat) (l0 : List Int) (l1 : List Int) : Option (Bool) := if (l0.length : Int) = (l1.length : Int) then (laws_sameInts.l0 k l0 l1 0) else (some false)
theorem laws_sameInts.mono_l : ∀ k, (∀ y0 y1 y2, LeO (laws_sameInts.l0 k y0 y1 y2) (laws_sameInts.l0 (k + 1) y0 y1 y2))
 | 0 => fun _ _ _ r h => by simp [laws_sameInts.l0] at h
 | k + 1 => by
  have ih0 := laws_sameInts.mono_l k
  ·intro y0 y1 y2
   unfold laws_sameInts.l0
   repeat' first
   | (with_reducible exact ih0 _ _ _)
   | (with_reducible exact LeO.refl _)
   | (with_reducible exact LeO.none _)
   | (with_reducible refine LeO.ite ?_ ?_)
   | (with_reducible refine LeO.bind ?_ (fun _ => ?_))
   | exact ih0 _ _ _
   | exact LeO.none _
   | refine LeO.ite ?_ ?_
   | refine LeO.bind ?_ (fun _ => ?_)
theorem laws_sameInts.mono : ∀ a0 a1 k, LeO (laws_sameInts.f k a0 a1) (laws_sameInts.f (k + 1) a0 a1) := by
 intro a0 a1 k
 have ih0 := laws_sameInts.mono_l k
 unfold laws_sameInts.f
 repeat' first
   | (with_reducible exact ih0 _ _ _)
   | (with_reducible exact LeO.refl _)
   | (with_reducible exact LeO.none _)
   | (with_reducible refine LeO.ite ?_ ?_)
   | (with_reducible refine LeO.bind ?_ (fun _ => ?_))
   | exact ih0 _ _ _
   | exact LeO.none _
   | refine LeO.ite ?_ ?_
   | refine LeO.bind ?_ (fun _ => ?_)
set_option maxHeartbeats 8000000 in
set_option maxRecDepth 100000 in
theorem laws_sameInts.calls (k : Nat) (A0 : Option Addr) (c0 : Nat) (l0 : List Int) (A1 : Option Addr) (c1 : Nat) (l1 : List Int) (r : Bool) (w : World) (hr0 : Kd.C (Kd.int .i64) w A0 l0.length l0) (hc0 : l0.length ≤ c0) (hr1 : Kd.C (Kd.int .i64) w A1 l1.length l1) (hc1 : l1.length ≤ c1) (h : laws_sameInts.f k l0 l1 = some r) :
  Calls Try.prog 20 #[.slice A0 l0.length c0, .slice A1 l1.length c1] w fun e w' => e = .returned (.bool r) ∧ Drawn0 w w' := by
 have HR0 := am hr0
 have HC0 := am hc0
 clear hr0 hc0
 have HR1 := am hr1
 have HC1 := am hc1
 clear hr1 hc1
 have H : (if (l0.length : Int) = (l1.length : Int) then (laws_sameInts.l0 k l0 l1 0) else (some false)) = some r := h
 clear h
 by_cases c3 : (l0.length : Int) = (l1.length : Int)
 ·rw [if_pos c3] at H
  have c3b0 : ((l0.length : Int) == (l1.length : Int)) = true := beq_iff_eq.mpr c3
  have c3b1 : ((l0.length : Int) != (l1.length : Int)) = false := bne_eq_false_iff_eq.mpr c3
  have c3b2 : (l0.length == l1.length) = true := by first | simpa using c3 | (simp at c3 ⊢; omega)
  clear c3
  have H' := am H
  clear H
  go_enter Try.func20, Try.ntmps20
  go_wp2
  repeat (go_quiet (fail); try go_wp2)
  go_loopg [5] k (fun kq v5 w' => ∃ (x5_1 : Int), v5 = .int .i64 x5_1 ∧ Aside0 (laws_sameInts.l0 kq l0 l1 x5_1 = some r) ∧ Aside0 (kq ≤ k) ∧ Drawn0 w w')
  case atStart => exact ⟨(0), (by first | rfl | (simp; done) | (simp [*]; done)), H', ⟨Nat.le_refl _⟩, by repeat (first | exact Drawn0.refl _ | apply Drawn0.step)⟩
  case round =>
   clear H'
   try clear c1
   try clear c2
   try clear p2
   try clear c3
   try clear c3b0
   try clear c3b1
   try clear c3b2
   obtain ⟨x5_1, rfl, HA, HK1, ⟨m1, rfl⟩⟩ := hrel
   cases gk with
   | zero => exact absurd HA.out (by simp [laws_sameInts.l0])
   | succ k1 =>
    have H := HA.out
    clear HA
    simp only [laws_sameInts.l0] at H
    by_cases c4 : x5_1 < (l0.length : Int)
    ·rw [if_pos c4] at H
     have c4b0 : decide (x5_1 < (l0.length : Int)) = true := decide_eq_true c4
     clear c4
     by_cases c5 : 0 ≤ x5_1
     ·rw [if_pos c5] at H
      have c5b0 : decide (0 ≤ x5_1) = true := decide_eq_true c5
      clear c5
      by_cases c6 : x5_1 < (l1.length : Int)
      ·rw [if_pos c6] at H
       have c6b0 : decide (x5_1 < (l1.length : Int)) = true := decide_eq_true c6
       clear c6
       by_cases c7 : (rd l0 x5_1) = (rd l1 x5_1)
       ·rw [if_pos c7] at H
        have c7b0 : ((rd l0 x5_1) == (rd l1 x5_1)) = true := beq_iff_eq.mpr c7
        have c7b1 : ((rd l0 x5_1) != (rd l1 x5_1)) = false := bne_eq_false_iff_eq.mpr c7
        clear c7
        have H' := am H
        clear H
        have p387 : 0 ≤ (x5_1 : Int) := oz
        have q387 : x5_1 < (l0.length : Int) := oz
        obtain ⟨ad387, e387, hx387_0⟩ := Kd.at_int HR0.out x5_1 p387 q387
        cases e387
        replace p387 := eq_true p387
        replace q387 := eq_true q387
        have p388 : 0 ≤ (x5_1 : Int) := oz
        have q388 : x5_1 < (l1.length : Int) := oz
        obtain ⟨ad388, e388, hx388_0⟩ := Kd.at_int HR1.out x5_1 p388 q388
        cases e388
        replace p388 := eq_true p388
        replace q388 := eq_true q388
        go_wp2
        repeat (go_quiet (fail); try go_wp2)
        go_roundg k1
        case measure => have := HK1.out; omega
        case rel => exact ⟨(wrap64 (x5_1 + 1)), (by first | rfl | (simp; done) | (simp [*]; done)), H', ⟨by have := HK1.out; omega⟩, by repeat (first | exact Drawn0.refl _ | apply Drawn0.step)⟩
       ·rw [if_neg c7] at H
        have c7b0 : ((rd l0 x5_1) == (rd l1 x5_1)) = false := beq_eq_false_iff_ne.mpr c7
        have c7b1 : ((rd l0 x5_1) != (rd l1 x5_1)) = true := bne_iff_ne.mpr c7
        obtain rfl := Option.some.inj H
        have p387 : 0 ≤ (x5_1 : Int) := oz
        have q387 : x5_1 < (l0.length : Int) := oz
        obtain ⟨ad387, e387, hx387_0⟩ := Kd.at_int HR0.out x5_1 p387 q387
        cases e387
        replace p387 := eq_true p387
        replace q387 := eq_true q387
        have p388 : 0 ≤ (x5_1 : Int) := oz
        have q388 : x5_1 < (l1.length : Int) := oz
        obtain ⟨ad388, e388, hx388_0⟩ := Kd.at_int HR1.out x5_1 p388 q388
        cases e388
        replace p388 := eq_true p388
        replace q388 := eq_true q388
        go_wp2
        repeat (go_quiet (fail); try go_wp2)
        go_ret
        exact ⟨by first | rfl | (simp; done) | (simp [*]; done), by repeat (first | exact Drawn0.refl _ | apply Drawn0.step)⟩
      ·rw [if_neg c6] at H
       exact absurd H (by simp)
     ·rw [if_neg c5] at H
      exact absurd H (by simp)
    ·rw [if_neg c4] at H
     have c4b0 : decide (x5_1 < (l0.length : Int)) = false := decide_eq_false c4
     clear c4
     obtain rfl := Option.some.inj H
     go_wp2
     repeat (go_quiet (fail); try go_wp2)
     go_ret
     exact ⟨by first | rfl | (simp; done) | (simp [*]; done), by repeat (first | exact Drawn0.refl _ | apply Drawn0.step)⟩
 ·rw [if_neg c3] at H
  have c3b0 : ((l0.length : Int) == (l1.length : Int)) = false := beq_eq_false_iff_ne.mpr c3
  have c3b1 : ((l0.length : Int) != (l1.length : Int)) = true := bne_iff_ne.mpr c3
  have c3b2 : (l0.length == l1.length) = false := by first | simpa using c3 | (simp at c3 ⊢; omega)
  obtain rfl := Option.some.inj H
  go_enter Try.func20, Try.ntmps20
  go_wp2
  repeat (go_quiet (fail); try go_wp2)
  go_ret
  exact ⟨by first | rfl | (simp; done) | (simp [*]; done), by repeat (first | exact Drawn0.refl _ | apply Drawn0.step)⟩

/-! ### laws_FnRangeOne: function 4 -/
mutual
def laws_FnRangeOne.j0 : Nat → Int → Int → Int → List Int → Int → Int → Bool → Int → Int → Option (Bool)
 | 0, _, _, _, _, _, _, _, _, _ => none
 | k + 1, x3, x4, x5, x7, x8, x9, x53, x398000, x398001 => if x53 = true then (none) else ((spec_NumOk.f x4).bind fun t402 => (if t402 = true then ((spec_NumOk.f x5).bind fun t403 => (if t403 = true then (if x3 < 1 then (laws_FnRangeOne.j1 k x7 x8 x9 true x398000 x398001) else (laws_FnRangeOne.j1 k x7 x8 x9 (decide (x3 > 13)) x398000 x398001)) else (laws_FnRangeOne.j1 k x7 x8 x9 true x398000 x398001))) else (laws_FnRangeOne.j1 k x7 x8 x9 true x398000 x398001)))
def laws_FnRangeOne.j1 : Nat → List Int → Int → Int → Bool → Int → Int → Option (Bool)
 | 0, _, _, _, _, _, _ => none
 | k + 1, x7, x8, x9, x69, x398000, x398001 => if x69 = true then (if (x7.length : Int) = 0 then (some (decide (x398000 > x398001))) else (none)) else (if x9 = 0 then (if (x7.length : Int) = 0 then (some (x398000 == x8 && (x398001 == x8))) else (none)) else ((laws_sameInts.f k x7 (([x9] : List Int))).bind fun t407 => (if t407 = true then (some (x398000 == 1 && (x398001 == 0))) else (none))))
end
def laws_FnRangeOne.f (k : Nat) (l0 : List Int) : Option (Bool) := if (l0.length : Int) > 1048576 then (some true) else ((spec_DrawNumDo.f k l0).bind fun bt389 => ((impl_RangeDo.f k bt389.1 bt389.2.1 bt389.2.1 bt389.2.2 bt389.2.2).bind fun bt392 => ((impl_NumDo.f k bt389.1 bt389.2.1 bt389.2.2).bind fun bt398 => ((spec_NumDo.f k bt389.1 bt389.2.1 bt389.2.2).bind fun bt400 => (if bt398.1 = bt400.1 then (laws_FnRangeOne.j0 k bt389.1 bt389.2.1 bt389.2.2 bt392.2.2 bt398.1 bt398.2 (bt398.2 != bt400.2) bt392.1 bt392.2.1) else (laws_FnRangeOne.j0 k bt389.1 bt389.2.1 bt389.2.2 bt392.2.2 bt398.1 bt398.2 true bt392.1 bt392.2.1))))))
theorem laws_FnRangeOne.mono_l : ∀ k, (∀ y0 y1 y2 y3 y4 y5 y6 y7 y8, LeO (laws_FnRangeOne.j0 k y0 y1 y2 y3 y4 y5 y6 y7 y8) (laws_FnRangeOne.j0 (k + 1) y0 y1 y2 y3 y4 y5 y6 y7 y8)) ∧ (∀ y0 y1 y2 y3 y4 y5, LeO (laws_FnRangeOne.j1 k y0 y1 y2 y3 y4 y5) (laws_FnRangeOne.j1 (k + 1) y0 y1 y2 y3 y4 y5))
 | 0 => ⟨fun _ _ _ _ _ _ _ _ _ r h => by simp [laws_FnRangeOne.j0] at h, fun _ _ _ _ _ _ r h => by simp [laws_FnRangeOne.j1] at h⟩
 | k + 1 => by
  obtain ⟨ih0, ih1⟩ := laws_FnRangeOne.mono_l k
  refine ⟨?_, ?_⟩
  ·intro y0 y1 y2 y3 y4 y5 y6 y7 y8
   unfold laws_FnRangeOne.j0
   repeat' first
   | (with_reducible exact ih0 _ _ _ _ _ _ _ _ _)
   | (with_reducible exact ih1 _ _ _ _ _ _)
   | (with_reducible exact impl_NumDo.mono _ _ _ _)
   | (with_reducible exact impl_RangeDo.mono _ _ _ _ _ _)
   | (with_reducible exact laws_sameInts.mono _ _ _)
   | (with_reducible exact spec_DrawNumDo.mono _ _)
   | (with_reducible exact spec_NumDo.mono _ _ _ _)
   | (with_reducible exact LeO.refl _)
   | (with_reducible exact LeO.none _)
   | (with_reducible refine LeO.ite ?_ ?_)
   | (with_reducible refine LeO.bind ?_ (fun _ => ?_))
   | exact ih0 _ _ _ _ _ _ _ _ _
   | exact ih1 _ _ _ _ _ _
   | exact impl_NumDo.mono _ _ _ _
   | exact impl_RangeDo.mono _ _ _ _ _ _
   | exact laws_sameInts.mono _ _ _
   | exact spec_DrawNumDo.mono _ _
   | exact spec_NumDo.mono _ _ _ _
   | exact LeO.none _
   | refine LeO.ite ?_ ?_
   | refine LeO.bind ?_ (fun _ => ?_)
  ·intro y0 y1 y2 y3 y4 y5
   unfold laws_FnRangeOne.j1
   repeat' first
   | (with_reducible exact ih0 _ _ _ _ _ _ _ _ _)
   | (with_reducible exact ih1 _ _ _ _ _ _)
   | (with_reducible exact impl_NumDo.mono _ _ _ _)
   | (with_reducible exact impl_RangeDo.mono _ _ _ _ _ _)
   | (with_reducible exact laws_sameInts.mono _ _ _)
   | (with_reducible exact spec_DrawNumDo.mono _ _)
   | (with_reducible exact spec_NumDo.mono _ _ _ _)
   | (with_reducible exact LeO.refl _)
   | (with_reducible exact LeO.none _)
   | (with_reducible refine LeO.ite ?_ ?_)
   | (with_reducible refine LeO.bind ?_ (fun _ => ?_))
   | exact ih0 _ _ _ _ _ _ _ _ _
   | exact ih1 _ _ _ _ _ _
   | exact impl_NumDo.mono _ _ _ _
   | exact impl_RangeDo.mono _ _ _ _ _ _
   | exact laws_sameInts.mono _ _ _
   | exact spec_DrawNumDo.mono _ _
   | exact spec_NumDo.mono _ _ _ _
   | exact LeO.none _
   | refine LeO.ite ?_ ?_
   | refine LeO.bind ?_ (fun _ => ?_)
theorem laws_FnRangeOne.mono : ∀ a0 k, LeO (laws_FnRangeOne.f k a0) (laws_FnRangeOne.f (k + 1) a0) := by
 intro a0 k
 obtain ⟨ih0, ih1⟩ := laws_FnRangeOne.mono_l k
 unfold laws_FnRangeOne.f
 repeat' first
   | (with_reducible exact ih0 _ _ _ _ _ _ _ _ _)
   | (with_reducible exact ih1 _ _ _ _ _ _)
   | (with_reducible exact impl_NumDo.mono _ _ _ _)
   | (with_reducible exact impl_RangeDo.mono _ _ _ _ _ _)
   | (with_reducible exact laws_sameInts.mono _ _ _)
   | (with_reducible exact spec_DrawNumDo.mono _ _)
   | (with_reducible exact spec_NumDo.mono _ _ _ _)
   | (with_reducible exact LeO.refl _)
   | (with_reducible exact LeO.none _)
   | (with_reducible refine LeO.ite ?_ ?_)
   | (with_reducible refine LeO.bind ?_ (fun _ => ?_))
   | exact ih0 _ _ _ _ _ _ _ _ _
   | exact ih1 _ _ _ _ _ _
   | exact impl_NumDo.mono _ _ _ _
   | exact impl_RangeDo.mono _ _ _ _ _ _
   | exact laws_sameInts.mono _ _ _
   | exact spec_DrawNumDo.mono _ _
   | exact spec_NumDo.mono _ _ _ _
   | exact LeO.none _
   | refine LeO.ite ?_ ?_
   | refine LeO.bind ?_ (fun _ => ?_)
set_option maxHeartbeats 8000000 in
set_option maxRecDepth 100000 in
theorem laws_FnRangeOne.calls (k : Nat) (A0 : Option Addr) (c0 : Nat) (l0 : List Int) (r : Bool) (w : World) (hr0 : Kd.C (Kd.int .u8) w A0 l0.length l0) (hc0 : l0.length ≤ c0) (h : laws_FnRangeOne.f k l0 = some r) :
  Calls Try.prog 4 #[.slice A0 l0.length c0] w fun e w' => e = .returned (.bool r) ∧ Below w.heap.size w w' := by
 have hu24 := Try.underlying24
 have HR0 := am hr0
 have HC0 := am hc0
 clear hr0 hc0
 have HB := am (Below.refl w.heap.size w)
 have H : (if (l0.length : Int) > 1048576 then (some true) else ((spec_DrawNumDo.f k l0).bind fun bt389 => ((impl_RangeDo.f k bt389.1 bt389.2.1 bt389.2.1 bt389.2.2 bt389.2.2).bind fun bt392 => ((impl_NumDo.f k bt389.1 bt389.2.1 bt389.2.2).bind fun bt398 => ((spec_NumDo.f k bt389.1 bt389.2.1 bt389.2.2).bind fun bt400 => (if bt398.1 = bt400.1 then (laws_FnRangeOne.j0 k bt389.1 bt389.2.1 bt389.2.2 bt392.2.2 bt398.1 bt398.2 (bt398.2 != bt400.2) bt392.1 bt392.2.1) else (laws_FnRangeOne.j0 k bt389.1 bt389.2.1 bt389.2.2 bt392.2.2 bt398.1 bt398.2 true bt392.1 bt392.2.1))))))) = some r := h
 clear h
 by_cases c2 : (l0.length : Int) > 1048576
 ·rw [if_pos c2] at H
  have c2b0 : decide (1048576 < (l0.length : Int)) = true := decide_eq_true c2
  have c2b1 : decide (1048576 < l0.length) = true := decide_eq_true (by omega)
  clear c2
  obtain rfl := Option.some.inj H
  go_enter Try.func4, Try.ntmps4
  go_wp2
  go_ret
  exact ⟨by first | rfl | (simp [errW_none, errW_some] <;> rfl) | (simp [*, errW_none, errW_some] <;> rfl), Y0 HB⟩
 ·rw [if_neg c2] at H
  have c2b0 : decide (1048576 < (l0.length : Int)) = false := decide_eq_false c2
  have c2b1 : decide (1048576 < l0.length) = false := decide_eq_false (by omega)
  clear c2
  replace H := Option.bind_eq_some_iff.mp H
  obtain ⟨⟨t389, t390, t391⟩, A30, H⟩ := H
  replace H : ((impl_RangeDo.f k t389 t390 t390 t391 t391).bind fun bt392 => ((impl_NumDo.f k t389 t390 t391).bind fun bt398 => ((spec_NumDo.f k t389 t390 t391).bind fun bt400 => (if bt398.1 = bt400.1 then (laws_FnRangeOne.j0 k t389 t390 t391 bt392.2.2 bt398.1 bt398.2 (bt398.2 != bt400.2) bt392.1 bt392.2.1) else (laws_FnRangeOne.j0 k t389 t390 t391 bt392.2.2 bt398.1 bt398.2 true bt392.1 bt392.2.1))))) = some r := H
  have A3 := am A30
  clear A30
  replace H := Option.bind_eq_some_iff.mp H
  obtain ⟨⟨t392, t393, t394⟩, A40, H⟩ := H
  replace H : ((impl_NumDo.f k t389 t390 t391).bind fun bt398 => ((spec_NumDo.f k t389 t390 t391).bind fun bt400 => (if bt398.1 = bt400.1 then (laws_FnRangeOne.j0 k t389 t390 t391 t394 bt398.1 bt398.2 (bt398.2 != bt400.2) t392 t393) else (laws_FnRangeOne.j0 k t389 t390 t391 t394 bt398.1 bt398.2 true t392 t393)))) = some r := H
  have A4 := am A40
  clear A40
  replace H := Option.bind_eq_some_iff.mp H
  obtain ⟨⟨t398, t399⟩, A50, H⟩ := H
  replace H : ((spec_NumDo.f k t389 t390 t391).bind fun bt400 => (if t398 = bt400.1 then (laws_FnRangeOne.j0 k t389 t390 t391 t394 t398 t399 (t399 != bt400.2) t392 t393) else (laws_FnRangeOne.j0 k t389 t390 t391 t394 t398 t399 true t392 t393))) = some r := H
  have A5 := am A50
  clear A50
  replace H := Option.bind_eq_some_iff.mp H
  obtain ⟨⟨t400, t401⟩, A60, H⟩ := H
  replace H : (if t398 = t400 then (laws_FnRangeOne.j0 k t389 t390 t391 t394 t398 t399 (t399 != t401) t392 t393) else (laws_FnRangeOne.j0 k t389 t390 t391 t394 t398 t399 true t392 t393)) = some r := H
  have A6 := am A60
  clear A60
  have HC7 := am H
  clear H
  go_enter Try.func4, Try.ntmps4
  go_upto_region 7 with (first | ((with_reducible refine gate_callee (f := 16) rfl ?_); refine goesL_ (some 17) rfl rfl Try.func16 (by kernel_rfl) rfl #[.slice A0 l0.length c0] rfl mz ?_; (with_reducible refine (spec_DrawNumDo.calls k _ _ l0 t389 t390 t391 _ ?side1 ?side2 A3.out).mono ?_); (case side1 => repeat (first | exact HR0.out | (with_reducible refine Kd.C_alloc ?_ _) | (with_reducible refine Kd.C_drewN ?_ _) | (with_reducible refine Kd.C_drew ?_))); (case side2 => exact HC0.out); rintro e w8 ⟨rfl, hb⟩; refine ⟨_, rfl, ?_⟩; replace HB := am (below_step (Y0 HB) hb); (try clear hb); (try clear hb2); (try clear hk); (try clear hi)) | ((with_reducible refine gate_callee (f := 11) rfl ?_); refine goesL_ (some 29) rfl rfl Try.func11 (by kernel_rfl) rfl #[.int .i64 t389, .agg #[.int .i64 t390, .int .i64 t390], .agg #[.int .i64 t391, .int .i64 t391]] rfl mz ?_; (with_reducible refine (impl_RangeDo.calls k t389 t390 t390 t391 t391 t392 t393 t394 _ A4.out).mono ?_); rintro e w9 ⟨v395, rfl, ho0, hb⟩; refine ⟨_, rfl, ?_⟩; have HO396 := am (Kd.R_lower ho0 (below_size (Y0 HB))); replace HB := am (below_step (Y0 HB) hb); (try clear hb); (try clear hb2); (try clear hk); (try clear hi); (try clear ho0)) | ((with_reducible refine gate_dst (N := 6) rfl ?_); refine box_event ?hg (N := 6) ?hd (cs := #[.int .i64 0, .int .i64 0]) (t := 24) ?hr ?_; (case hd => rfl); (case hg => rfl); (case hr => first | (go_simp; done) | (go_simp; rfl)); intro gb397 hg w10 hbox hb; have BK397 := am (hbox); have GW397 := am ((by rw [hg]; exact (below_size (Y0 HB)) : w.heap.size ≤ gb397)); have GE397 := am ((by rw [hg]; exact (below_size (Y0 HB)) : w.heap.size ≤ gb397)); replace HO396 := am (Kd.R_below (by (with_reducible repeat (first | apply Kd.R_alloc | apply Kd.R_drewN | apply Kd.R_drew)); exact HO396.out) hb); replace HB := am (below_step (Y0 HB) hb); clear hb hbox hg; have hcz11_0 : w10.cell? ⟨gb397, 0, none⟩ = some (.int .i64 0) := bc BK397 0; have hcz11_1 : w10.cell? ⟨gb397, 1, none⟩ = some (.int .i64 0) := bc BK397 1; have hfz11_0 := blk_frozen BK397.out 0; have hfz11_1 := blk_frozen BK397.out 1) | ((with_reducible refine gate_callee (f := 17) rfl ?_); refine goesL_ (some 36) rfl rfl Try.func17 (by kernel_rfl) rfl #[.int .i64 t389, .int .i64 t390, .int .i64 t391] rfl mz ?_; (with_reducible refine (impl_NumDo.calls k t389 t390 t391 t398 t399 _ A5.out).mono ?_); rintro e w' ⟨rfl, ⟨nd, rfl⟩⟩; refine ⟨_, rfl, ?_⟩) | ((with_reducible refine gate_callee (f := 18) rfl ?_); refine goesL_ (some 43) rfl rfl Try.func18 (by kernel_rfl) rfl #[.int .i64 t389, .int .i64 t390, .int .i64 t391] rfl mz ?_; (with_reducible refine (spec_NumDo.calls k t389 t390 t391 t400 t401 _ A6.out).mono ?_); rintro e w' ⟨rfl, ⟨nd, rfl⟩⟩; refine ⟨_, rfl, ?_⟩))
  (try simp only [Act.put, List.setIfInBounds_toArray, List.set_cons_zero, List.set_cons_succ])
  go_cut [53] (fun v53 wc => ∃ (kq : Nat) (x53_6 : Bool), v53 = .bool x53_6 ∧ Aside0 (laws_FnRangeOne.j0 kq t389 t390 t391 t394 t398 t399 x53_6 t392 t393 = some r) ∧ Aside0 (kq ≤ k) ∧ Aside0 (Kd.R (Kd.int .i64) 3 wc w.heap.size (fun _ => True) v395 t394) ∧ Aside0 (wc.heap[gb397]? = some (.cells #[.int .i64 t392, .int .i64 t393] 24 (0, 0))) ∧ Aside0 (Below w.heap.size w wc))
  case first =>
   have H := HC7.out
   clear HC7
   by_cases c12 : t398 = t400
   ·rw [if_pos c12] at H
    have c12b0 : (t398 == t400) = true := beq_iff_eq.mpr c12
    have c12b1 : (t398 != t400) = false := bne_eq_false_iff_eq.mpr c12
    clear c12
    (first | rw [c12b0] | (simp only [i64_w, i32_w]; rw [c12b0]) | skip)
    have H' := am H
    clear H
    go_wp2
    go_meet
    case rel => exact ⟨_, ((t399 != t401)), (by first | rfl | (simp; done) | (simp [*]; done)), H', ⟨by first | omega | exact Nat.le_refl _⟩, ⟨by (with_reducible repeat (first | apply Kd.R_alloc | apply Kd.R_drewN | apply Kd.R_drew)); exact Kd.R_mono (Kd.R_far (p := ⟨gb397, 1, none⟩) (Kd.R_far (p := ⟨gb397, 0, none⟩) (Kd.R_types HO396.out BK397.out (by decide)) (fun _ hk => hk.2) (.int .i64 t392)) (fun _ hk => hk.2) (.int .i64 t393)) (fun _ hk => trivial)⟩, ⟨by (with_reducible repeat (first | refine blk_drewN ?_ _ | refine blk_drew ?_ | refine blk_alloc ?_ _)); refine blk_put (cs := #[.int .i64 t392, .int .i64 0]) ?_ 1 _ rfl; (with_reducible repeat (first | refine blk_drewN ?_ _ | refine blk_drew ?_ | refine blk_alloc ?_ _)); refine blk_put (cs := #[.int .i64 0, .int .i64 0]) ?_ 0 _ rfl; (with_reducible repeat (first | refine blk_drewN ?_ _ | refine blk_drew ?_ | refine blk_alloc ?_ _)); exact BK397.out⟩, ⟨Y1 HB GE397⟩⟩
   ·rw [if_neg c12] at H
    have c12b0 : (t398 == t400) = false := beq_eq_false_iff_ne.mpr c12
    have c12b1 : (t398 != t400) = true := bne_iff_ne.mpr c12
    (first | rw [c12b0] | (simp only [i64_w, i32_w]; rw [c12b0]) | skip)
    have H' := am H
    clear H
    go_wp2
    go_meet
    case rel => exact ⟨_, (true), (by first | rfl | (simp; done) | (simp [*]; done)), H', ⟨by first | omega | exact Nat.le_refl _⟩, ⟨by (with_reducible repeat (first | apply Kd.R_alloc | apply Kd.R_drewN | apply Kd.R_drew)); exact Kd.R_mono (Kd.R_far (p := ⟨gb397, 1, none⟩) (Kd.R_far (p := ⟨gb397, 0, none⟩) (Kd.R_types HO396.out BK397.out (by decide)) (fun _ hk => hk.2) (.int .i64 t392)) (fun _ hk => hk.2) (.int .i64 t393)) (fun _ hk => trivial)⟩, ⟨by (with_reducible repeat (first | refine blk_drewN ?_ _ | refine blk_drew ?_ | refine blk_alloc ?_ _)); refine blk_put (cs := #[.int .i64 t392, .int .i64 0]) ?_ 1 _ rfl; (with_reducible repeat (first | refine blk_drewN ?_ _ | refine blk_drew ?_ | refine blk_alloc ?_ _)); refine blk_put (cs := #[.int .i64 0, .int .i64 0]) ?_ 0 _ rfl; (with_reducible repeat (first | refine blk_drewN ?_ _ | refine blk_drew ?_ | refine blk_alloc ?_ _)); exact BK397.out⟩, ⟨Y1 HB GE397⟩⟩
  case rest =>
   clear HC7
   try clear c1
   try clear c2
   try clear c2b0
   try clear c2b1
   try clear p2
   try clear c4
   try clear c11
   try clear c12
   try clear c12b0
   try clear c12b1
   try clear hcz11_0
   try clear hcz11_1
   try clear hfz11_0
   try clear hfz11_1
   obtain ⟨kq, x53_6, rfl, HA, HJ6, HO_7, BK397, HB⟩ := hcut
   cases kq with
   | zero => exact absurd HA.out (by simp [laws_FnRangeOne.j0])
   | succ kj6 =>
    have H := HA.out
    clear HA
    simp only [laws_FnRangeOne.j0] at H
    by_cases c13 : x53_6 = true
    ·subst c13
     have H1 : (none) = some r := by rw [if_pos rfl] at H; exact H
     clear H
     have H := H1
     clear H1
     exact absurd H (by simp)
    ·replace c13 := Bool.eq_false_iff.mpr c13
     subst c13
     have H1 : ((spec_NumOk.f t390).bind fun t402 => (if t402 = true then ((spec_NumOk.f t391).bind fun t403 => (if t403 = true then (if t389 < 1 then (laws_FnRangeOne.j1 kj6 t394 t398 t399 true t392 t393) else (laws_FnRangeOne.j1 kj6 t394 t398 t399 (decide (t389 > 13)) t392 t393)) else (laws_FnRangeOne.j1 kj6 t394 t398 t399 true t392 t393))) else (laws_FnRangeOne.j1 kj6 t394 t398 t399 true t392 t393))) = some r := by rw [if_neg (show ¬ (false = true) by decide)] at H; exact H
     clear H
     have H := H1
     clear H1
     have HC14 := am H
     clear H
     go_upto_region 9 with (fail)
     go_cut [69] (fun v69 wc => ∃ (kq : Nat) (x69_13 : Bool), v69 = .bool x69_13 ∧ Aside0 (laws_FnRangeOne.j1 kq t394 t398 t399 x69_13 t392 t393 = some r) ∧ Aside0 (kq ≤ kj6) ∧ Aside0 (Kd.R (Kd.int .i64) 3 wc w.heap.size (fun _ => True) v395 t394) ∧ Aside0 (wc.heap[gb397]? = some (.cells #[.int .i64 t392, .int .i64 t393] 24 (0, 0))) ∧ Aside0 (Below w.heap.size w wc))
     case first =>
      have H := HC14.out
      clear HC14
      replace H := Option.bind_eq_some_iff.mp H
      obtain ⟨t402, A150, H⟩ := H
      replace H : (if t402 = true then ((spec_NumOk.f t391).bind fun t403 => (if t403 = true then (if t389 < 1 then (laws_FnRangeOne.j1 kj6 t394 t398 t399 true t392 t393) else (laws_FnRangeOne.j1 kj6 t394 t398 t399 (decide (t389 > 13)) t392 t393)) else (laws_FnRangeOne.j1 kj6 t394 t398 t399 true t392 t393))) else (laws_FnRangeOne.j1 kj6 t394 t398 t399 true t392 t393)) = some r := H
      have A15 := am A150
      clear A150
      by_cases c16 : t402 = true
      ·subst c16
       have H1 : ((spec_NumOk.f t391).bind fun t403 => (if t403 = true then (if t389 < 1 then (laws_FnRangeOne.j1 kj6 t394 t398 t399 true t392 t393) else (laws_FnRangeOne.j1 kj6 t394 t398 t399 (decide (t389 > 13)) t392 t393)) else (laws_FnRangeOne.j1 kj6 t394 t398 t399 true t392 t393))) = some r := by rw [if_pos rfl] at H; exact H
       clear H
       have H := H1
       clear H1
       replace H := Option.bind_eq_some_iff.mp H
       obtain ⟨t403, A170, H⟩ := H
       replace H : (if t403 = true then (if t389 < 1 then (laws_FnRangeOne.j1 kj6 t394 t398 t399 true t392 t393) else (laws_FnRangeOne.j1 kj6 t394 t398 t399 (decide (t389 > 13)) t392 t393)) else (laws_FnRangeOne.j1 kj6 t394 t398 t399 true t392 t393)) = some r := H
       have A17 := am A170
       clear A170
       by_cases c18 : t403 = true
       ·subst c18
        have H1 : (if t389 < 1 then (laws_FnRangeOne.j1 kj6 t394 t398 t399 true t392 t393) else (laws_FnRangeOne.j1 kj6 t394 t398 t399 (decide (t389 > 13)) t392 t393)) = some r := by rw [if_pos rfl] at H; exact H
        clear H
        have H := H1
        clear H1
        by_cases c19 : t389 < 1
        ·rw [if_pos c19] at H
         have c19b0 : decide (t389 < 1) = true := decide_eq_true c19
         clear c19
         (first | rw [c19b0] | (simp only [i64_w, i32_w]; rw [c19b0]) | skip)
         have H' := am H
         clear H
         go_wp2_with (first | ((with_reducible refine gate_callee (f := 19) rfl ?_); refine goesL_ (some 55) rfl rfl Try.func19 (by kernel_rfl) rfl #[.int .i64 t390] rfl mz ?_; (with_reducible refine (spec_NumOk.calls t390 true _ A15.out).mono ?_); rintro e w' ⟨rfl, ⟨nd, rfl⟩⟩; refine ⟨_, rfl, ?_⟩) | (go_at_call 19; (with_reducible refine (spec_NumOk.calls t391 true _ A17.out).mono ?_); rintro e w' ⟨rfl, ⟨nd, rfl⟩⟩))
         go_meet
         case rel => exact ⟨_, (true), (by first | rfl | (simp; done) | (simp [*]; done)), H', ⟨by have := HJ6.out; first | omega | exact Nat.le_refl _⟩, ⟨by (with_reducible repeat (first | apply Kd.R_alloc | apply Kd.R_drewN | apply Kd.R_drew)); exact HO_7.out⟩, ⟨Z BK397⟩, ⟨Y1 HB GE397⟩⟩
        ·rw [if_neg c19] at H
         have c19b0 : decide (t389 < 1) = false := decide_eq_false c19
         clear c19
         (first | rw [c19b0] | (simp only [i64_w, i32_w]; rw [c19b0]) | skip)
         have H' := am H
         clear H
         go_wp2_with (first | ((with_reducible refine gate_callee (f := 19) rfl ?_); refine goesL_ (some 55) rfl rfl Try.func19 (by kernel_rfl) rfl #[.int .i64 t390] rfl mz ?_; (with_reducible refine (spec_NumOk.calls t390 true _ A15.out).mono ?_); rintro e w' ⟨rfl, ⟨nd, rfl⟩⟩; refine ⟨_, rfl, ?_⟩) | (go_at_call 19; (with_reducible refine (spec_NumOk.calls t391 true _ A17.out).mono ?_); rintro e w' ⟨rfl, ⟨nd, rfl⟩⟩))
         go_meet
         case rel => exact ⟨_, (decide (t389 > 13)), (by first | rfl | (simp; done) | (simp [*]; done)), H', ⟨by have := HJ6.out; first | omega | exact Nat.le_refl _⟩, ⟨by (with_reducible repeat (first | apply Kd.R_alloc | apply Kd.R_drewN | apply Kd.R_drew)); exact HO_7.out⟩, ⟨Z BK397⟩, ⟨Y1 HB GE397⟩⟩
       ·replace c18 := Bool.eq_false_iff.mpr c18
        subst c18
        have H1 : (laws_FnRangeOne.j1 kj6 t394 t398 t399 true t392 t393) = some r := by rw [if_neg (show ¬ (false = true) by decide)] at H; exact H
        clear H
        have H := H1
        clear H1
        have H' := am H
        clear H
        go_wp2_with (first | ((with_reducible refine gate_callee (f := 19) rfl ?_); refine goesL_ (some 55) rfl rfl Try.func19 (by kernel_rfl) rfl #[.int .i64 t390] rfl mz ?_; (with_reducible refine (spec_NumOk.calls t390 true _ A15.out).mono ?_); rintro e w' ⟨rfl, ⟨nd, rfl⟩⟩; refine ⟨_, rfl, ?_⟩) | (go_at_call 19; (with_reducible refine (spec_NumOk.calls t391 false _ A17.out).mono ?_); rintro e w' ⟨rfl, ⟨nd, rfl⟩⟩))
        go_meet
        case rel => exact ⟨_, (true), (by first | rfl | (simp; done) | (simp [*]; done)), H', ⟨by have := HJ6.out; first | omega | exact Nat.le_refl _⟩, ⟨by (with_reducible repeat (first | apply Kd.R_alloc | apply Kd.R_drewN | apply Kd.R_drew)); exact HO_7.out⟩, ⟨Z BK397⟩, ⟨Y1 HB GE397⟩⟩
      ·replace c16 := Bool.eq_false_iff.mpr c16
       subst c16
       have H1 : (laws_FnRangeOne.j1 kj6 t394 t398 t399 true t392 t393) = some r := by rw [if_neg (show ¬ (false = true) by decide)] at H; exact H
       clear H
       have H := H1
       clear H1
       have H' := am H
       clear H
       go_wp2_with (first | ((with_reducible refine gate_callee (f := 19) rfl ?_); refine goesL_ (some 55) rfl rfl Try.func19 (by kernel_rfl) rfl #[.int .i64 t390] rfl mz ?_; (with_reducible refine (spec_NumOk.calls t390 false _ A15.out).mono ?_); rintro e w' ⟨rfl, ⟨nd, rfl⟩⟩; refine ⟨_, rfl, ?_⟩))
       go_meet
       case rel => exact ⟨_, (true), (by first | rfl | (simp; done) | (simp [*]; done)), H', ⟨by have := HJ6.out; first | omega | exact Nat.le_refl _⟩, ⟨by (with_reducible repeat (first | apply Kd.R_alloc | apply Kd.R_drewN | apply Kd.R_drew)); exact HO_7.out⟩, ⟨Z BK397⟩, ⟨Y1 HB GE397⟩⟩
     case rest =>
      clear HC14
      try clear c1
      try clear c2
      try clear c2b0
      try clear c2b1
      try clear p2
      try clear c4
      try clear c11
      try clear c12
      try clear c12b0
      try clear c12b1
      try clear c13
      try clear c16
      try clear c17
      try clear c18
      try clear c19
      try clear c19b0
      try clear hcz11_0
      try clear hcz11_1
      try clear hfz11_0
      try clear hfz11_1
      try clear p2
      obtain ⟨kq, x69_13, rfl, HA, HJ13, HO_7, BK397, HB⟩ := hcut
      cases kq with
      | zero => exact absurd HA.out (by simp [laws_FnRangeOne.j1])
      | succ kj13 =>
       have H := HA.out
       clear HA
       simp only [laws_FnRangeOne.j1] at H
       by_cases c20 : x69_13 = true
       ·subst c20
        have H1 : (if (t394.length : Int) = 0 then (some (decide (t392 > t393))) else (none)) = some r := by rw [if_pos rfl] at H; exact H
        clear H
        have H := H1
        clear H1
        by_cases c21 : (t394.length : Int) = 0
        ·rw [if_pos c21] at H
         have c21b0 : ((t394.length : Int) == 0) = true := beq_iff_eq.mpr c21
         have c21b1 : ((t394.length : Int) != 0) = false := bne_eq_false_iff_eq.mpr c21
         clear c21
         obtain rfl := Option.some.inj H
         obtain ⟨Ao22, co22, eo22⟩ := Kd.R_slice HO_7.out
         subst eo22
         have hcz23_0 : wc.cell? ⟨gb397, 0, none⟩ = some (.int .i64 t392) := bc BK397 0
         have hcz23_1 : wc.cell? ⟨gb397, 1, none⟩ = some (.int .i64 t393) := bc BK397 1
         have hfz23_0 := blk_frozen BK397.out 0
         have hfz23_1 := blk_frozen BK397.out 1
         go_wp2
         go_ret
         exact ⟨by first | rfl | (simp [errW_none, errW_some] <;> rfl) | (simp [*, errW_none, errW_some] <;> rfl), Y1 HB GE397⟩
        ·rw [if_neg c21] at H
         exact absurd H (by simp)
       ·replace c20 := Bool.eq_false_iff.mpr c20
        subst c20
        have H1 : (if t399 = 0 then (if (t394.length : Int) = 0 then (some (t392 == t398 && (t393 == t398))) else (none)) else ((laws_sameInts.f kj13 t394 (([t399] : List Int))).bind fun t407 => (if t407 = true then (some (t392 == 1 && (t393 == 0))) else (none)))) = some r := by rw [if_neg (show ¬ (false = true) by decide)] at H; exact H
        clear H
        have H := H1
        clear H1
        by_cases c24 : t399 = 0
        ·rw [if_pos c24] at H
         have c24b0 : (t399 == 0) = true := beq_iff_eq.mpr c24
         have c24b1 : (t399 != 0) = false := bne_eq_false_iff_eq.mpr c24
         clear c24
         by_cases c25 : (t394.length : Int) = 0
         ·rw [if_pos c25] at H
          have c25b0 : ((t394.length : Int) == 0) = true := beq_iff_eq.mpr c25
          have c25b1 : ((t394.length : Int) != 0) = false := bne_eq_false_iff_eq.mpr c25
          clear c25
          obtain rfl := Option.some.inj H
          obtain ⟨Ao26, co26, eo26⟩ := Kd.R_slice HO_7.out
          subst eo26
          have hcz27_0 : wc.cell? ⟨gb397, 0, none⟩ = some (.int .i64 t392) := bc BK397 0
          have hcz27_1 : wc.cell? ⟨gb397, 1, none⟩ = some (.int .i64 t393) := bc BK397 1
          have hfz27_0 := blk_frozen BK397.out 0
          have hfz27_1 := blk_frozen BK397.out 1
          go_wp2
          go_ret
          exact ⟨by first | rfl | (simp [errW_none, errW_some] <;> rfl) | (simp [*, errW_none, errW_some] <;> rfl), Y1 HB GE397⟩
         ·rw [if_neg c25] at H
          exact absurd H (by simp)
        ·rw [if_neg c24] at H
         have c24b0 : (t399 == 0) = false := beq_eq_false_iff_ne.mpr c24
         have c24b1 : (t399 != 0) = true := bne_iff_ne.mpr c24
         obtain ⟨y404, hy404⟩ : ∃ y_ : List Int, y_ = (([t399] : List Int)) := ⟨_, rfl⟩
         replace H : ((laws_sameInts.f kj13 t394 y404).bind fun t407 => (if t407 = true then (some (t392 == 1 && (t393 == 0))) else (none))) = some r := by first | (rw [hy404]; with_reducible exact H) | (have H2_ := (Option.bind_some _ _).symm.trans H; rw [hy404]; with_reducible exact H2_) | (have H2_ := (Option.bind_some _ _).symm.trans H; with_reducible exact H2_) | with_reducible exact H | (rw [hy404]; exact H) | exact H
         have Ny404 := am hy404
         clear hy404
         replace H := Option.bind_eq_some_iff.mp H
         obtain ⟨t407, A280, H⟩ := H
         replace H : (if t407 = true then (some (t392 == 1 && (t393 == 0))) else (none)) = some r := H
         have A28 := am A280
         clear A280
         by_cases c29 : t407 = true
         ·subst c29
          have H1 : (some (t392 == 1 && (t393 == 0))) = some r := by rw [if_pos rfl] at H; exact H
          clear H
          have H := H1
          clear H1
          obtain rfl := Option.some.inj H
          go_wp2_with (first | ((with_reducible refine gate_dst (N := 84) rfl ?_); refine Kd.R_lit (Kd.int .i64) _ 3 ?hg (N := 84) ?hd (xs := ([t399] : List Int)) (inner := [.int .i64 t399]) (ok := fun _ => True) (okp := fun _ => True) ?hr ?hp (fun _ hk => hk) trivial (Below.refl _ _) (Nat.le_refl _) (by simp) ?_; (case hd => rfl); (case hg => rfl); (case hr => first | (go_simp; done) | (go_simp; rfl)); (case hp => exact (Reps.one (show Kd.M (Kd.int .i64) _ _ _ t399 [.int .i64 t399] from rfl) (Reps.none _ _))); intro v405 w30 ho31 hb hg_ hnew_; clear hg_ hnew_; (first | rw [← Ny404.out] at ho31 | (simp only [Int.reduceToNat] at ho31; rw [← Ny404.out] at ho31)); have HO406 := am (Kd.R_lower (Kd.R_new' ho31 (Kd.R_lt (by (with_reducible repeat (first | apply Kd.R_alloc | apply Kd.R_drewN | apply Kd.R_drew)); exact HO_7.out))) (below_size (Y1 HB GE397))); replace HO_7 := am (Kd.R_elder' (by (with_reducible repeat (first | apply Kd.R_alloc | apply Kd.R_drewN | apply Kd.R_drew)); exact HO_7.out) (Kd.R_base ho31) hb); replace BK397 := am (blk_below (g := gb397) (o := b2 t392 t393 24) (Z BK397) hb); replace HB := am (below_step (Y1 HB GE397) hb); clear hb ho31; obtain ⟨Ao32, co32, eo32⟩ := Kd.R_slice HO_7.out; subst eo32; obtain ⟨Ao33, co33, eo33⟩ := Kd.R_slice HO406.out; subst eo33) | ((with_reducible refine gate_callee (f := 20) rfl ?_); refine goesL_ (some 85) rfl rfl Try.func20 (by kernel_rfl) rfl #[.slice Ao32 t394.length co32, .slice Ao33 y404.length co33] rfl mz ?_; (with_reducible refine (laws_sameInts.calls kj13 _ _ t394 _ _ y404 true _ ?side1 ?side2 ?side3 ?side4 A28.out).mono ?_); (case side1 => repeat (first | exact (Kd.R_reads' HO_7.out).2.2 | (with_reducible refine Kd.C_alloc ?_ _) | (with_reducible refine Kd.C_drewN ?_ _) | (with_reducible refine Kd.C_drew ?_))); (case side2 => exact (Kd.R_reads' HO_7.out).2.1); (case side3 => repeat (first | exact (Kd.R_reads' HO406.out).2.2 | (with_reducible refine Kd.C_alloc ?_ _) | (with_reducible refine Kd.C_drewN ?_ _) | (with_reducible refine Kd.C_drew ?_))); (case side4 => exact (Kd.R_reads' HO406.out).2.1); rintro e w' ⟨rfl, ⟨nd, rfl⟩⟩; refine ⟨_, rfl, ?_⟩; have hcz34_0 : w30.cell? ⟨gb397, 0, none⟩ = some (.int .i64 t392) := bc BK397 0; have hcz34_1 : w30.cell? ⟨gb397, 1, none⟩ = some (.int .i64 t393) := bc BK397 1; have hfz34_0 := blk_frozen BK397.out 0; have hfz34_1 := blk_frozen BK397.out 1))
          go_ret
          exact ⟨by first | rfl | (simp [errW_none, errW_some] <;> rfl) | (simp [*, errW_none, errW_some] <;> rfl), Y1 HB GE397⟩
         ·replace c29 := Bool.eq_false_iff.mpr c29
          subst c29
          have H1 : (none) = some r := by rw [if_neg (show ¬ (false = true) by decide)] at H; exact H
          clear H
          have H := H1
          clear H1
          exact absurd H (by simp)

/-- THE ONE PURE STATEMENT of laws_FnRangeOne: yours. -/
def laws_FnRangeOne.Pure : Prop := ∀ (l0 : List Int), l0.length ≤ maxLen → l0.length * 1 ≤ 140737488351232 → (∀ x ∈ l0, (Lit.int .u8 x).wf = true) → ∃ k, laws_FnRangeOne.f k l0 = some true
theorem laws_FnRangeOne.walk (P : laws_FnRangeOne.Pure) (a0 : Option Addr) (len0 cap0 : Nat) (z0 : List Int) (w : World) (w0 : (a0 = none ∧ len0 = 0 ∧ cap0 = 0 ∧ z0 = []) ∨ ∃ x, a0 = some x ∧ len0 ≤ cap0 ∧ cap0 ≤ maxLen ∧ z0.length = cap0 ∧ (∀ i, i < z0.length → w.cell? (x.add i) = some (.int .u8 (z0.getD i 0))) ∧ ∀ n ∈ z0, (Lit.int .u8 n).wf = true) (y0 : len0 * 1 ≤ 140737488351232) :
  Calls Try.prog 4 #[.slice a0 len0 cap0] w fun e w' => e = .returned (.bool true) ∧ Below w.heap.size w w' := by
 obtain ⟨l0, rfl, hr0, hm0, hw0, hc0⟩ := ReadsInt.ofRowC w0
 obtain ⟨k, h⟩ := P l0 hm0 y0 hw0
 refine (laws_FnRangeOne.calls k _ _ l0 true w (Kd.C_of_reads (d := (0 : Int)) (h1 := fun _ => rfl) hr0) hc0 h).mono ?_
 rintro e w' ⟨rfl, hd⟩
 exact ⟨rfl, hd⟩

end Go.Proofs.Ythbkakcchgnhpaa.PFnRangeOne
