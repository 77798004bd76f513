/- Written by this session's own driver (wip/dprint.py): the functions that the law FnRangeOne reaches, as Lean functions, each with its contract. -/
import Derived.Test.YthbkakcchgnhpaaPFnRangeOnex0
import Derived.Test.YthbkakcchgnhpaaPFnRangeOnex2
import Derived.Test.YthbkakcchgnhpaaPFnRangeOnex3
import Derived.Test.YthbkakcchgnhpaaPFnRangeOnex5
import Derived.Test.YthbkakcchgnhpaaPFnRangeOnex12
import Derived.Test.YthbkakcchgnhpaaSv
namespace Go.Proofs.Ythbkakcchgnhpaa.PFnRangeOne
open Go.RowKit Go.Proofs.YthbkakcchgnhpaaV.PrintWords Go.Proofs.YthbkakcchgnhpaaV.PrintLast Go.Proofs.YthbkakcchgnhpaaV.PrintMore Go.Proofs.YthbkakcchgnhpaaSv
attribute [local go_sem] max2_int min2_int max_two min_two max_three min_three max_four min_four   -- for this text's walks alone
set_option linter.unusedVariables false
set_option linter.unusedSimpArgs false

/-! ### impl_NumDo: function 17 -/
mutual
def impl_NumDo.j0 : Nat → Int → Int → Int → Bool → Option (Int × Int)
 | 0, _, _, _, _ => none
 | k + 1, x0, x1, x2, x21 => if x21 = true then (some (0, 0)) else (if x0 = 4 then (impl_NumDo.j1 k x0 x1 x2 x0 (x0 == 4)) else (impl_NumDo.j1 k x0 x1 x2 x0 (x0 == 5)))
def impl_NumDo.j3 : Nat → Int → Int → Int → Option (Int × Int)
 | 0, _, _, _ => none
 | k + 1, x0, x1, x2 => (impl_numExact.f k x0 x1 x2).bind fun t367 => (if x0 = 11 then (impl_NumDo.j4 k t367 (x0 == 11)) else (if x0 = 12 then (impl_NumDo.j4 k t367 (x0 == 12)) else (impl_NumDo.j4 k t367 (x0 == 13))))
def impl_NumDo.j4 : Nat → Int → Bool → Option (Int × Int)
 | 0, _, _ => none
 | k + 1, x8, x42 => if x42 = true then ((impl_NumWrap.f x8).bind fun t368 => (some (t368, 0))) else ((impl_NumOk.f x8).bind fun t369 => (if t369 = true then (some (x8, 0)) else (some (0, 1))))
def impl_NumDo.j1 : Nat → Int → Int → Int → Int → Bool → Option (Int × Int)
 | 0, _, _, _, _, _ => none
 | k + 1, x0, x1, x2, x22, x23 => if x23 = true then (if x2 = 0 then (some (0, 2)) else (impl_NumDo.j3 k x0 x1 x2)) else (if x22 = 9 then (impl_NumDo.j2 k x0 x1 x2 (x22 == 9)) else (impl_NumDo.j2 k x0 x1 x2 (x22 == 10)))
def impl_NumDo.j2 : Nat → Int → Int → Int → Bool → Option (Int × Int)
 | 0, _, _, _, _ => none
 | k + 1, x0, x1, x2, x28 => if x28 = true then (if x2 < 0 then (some (0, 3)) else (if x2 > 31 then (some (0, 3)) else (impl_NumDo.j3 k x0 x1 x2))) else (impl_NumDo.j3 k x0 x1 x2)
end
def impl_NumDo.f (k : Nat) (a0 : Int) (a1 : Int) (a2 : Int) : Option (Int × Int) := (impl_numOp.f a0).bind fun t364 => (if t364 = true then ((impl_NumOk.f a1).bind fun t365 => (if t365 = true then ((impl_NumOk.f a2).bind fun t366 => (impl_NumDo.j0 k a0 a1 a2 (!t366))) else (impl_NumDo.j0 k a0 a1 a2 true))) else (impl_NumDo.j0 k a0 a1 a2 true))
theorem impl_NumDo.mono_l : ∀ k, (∀ y0 y1 y2 y3, LeO (impl_NumDo.j0 k y0 y1 y2 y3) (impl_NumDo.j0 (k + 1) y0 y1 y2 y3)) ∧ (∀ y0 y1 y2, LeO (impl_NumDo.j3 k y0 y1 y2) (impl_NumDo.j3 (k + 1) y0 y1 y2)) ∧ (∀ y0 y1, LeO (impl_NumDo.j4 k y0 y1) (impl_NumDo.j4 (k + 1) y0 y1)) ∧ (∀ y0 y1 y2 y3 y4, LeO (impl_NumDo.j1 k y0 y1 y2 y3 y4) (impl_NumDo.j1 (k + 1) y0 y1 y2 y3 y4)) ∧ (∀ y0 y1 y2 y3, LeO (impl_NumDo.j2 k y0 y1 y2 y3) (impl_NumDo.j2 (k + 1) y0 y1 y2 y3))
 | 0 => ⟨fun _ _ _ _ r h => by simp [impl_NumDo.j0] at h, fun _ _ _ r h => by simp [impl_NumDo.j3] at h, fun _ _ r h => by simp [impl_NumDo.j4] at h, fun _ _ _ _ _ r h => by simp [impl_NumDo.j1] at h, fun _ _ _ _ r h => by simp [impl_NumDo.j2] at h⟩
 | k + 1 => by
  obtain ⟨ih0, ih1, ih2, ih3, ih4⟩ := impl_NumDo.mono_l k
  refine ⟨?_, ?_, ?_, ?_, ?_⟩
  ·intro y0 y1 y2 y3
   unfold impl_NumDo.j0
   repeat' first
   | (with_reducible exact ih0 _ _ _ _)
   | (with_reducible exact ih1 _ _ _)
   | (with_reducible exact ih2 _ _)
   | (with_reducible exact ih3 _ _ _ _ _)
   | (with_reducible exact ih4 _ _ _ _)
   | (with_reducible exact impl_numExact.mono _ _ _ _)
   | (with_reducible exact LeO.refl _)
   | (with_reducible exact LeO.none _)
   | (with_reducible refine LeO.ite ?_ ?_)
   | (with_reducible refine LeO.bind ?_ (fun _ => ?_))
   | exact ih0 _ _ _ _
   | exact ih1 _ _ _
   | exact ih2 _ _
   | exact ih3 _ _ _ _ _
   | exact ih4 _ _ _ _
   | exact impl_numExact.mono _ _ _ _
   | exact LeO.none _
   | refine LeO.ite ?_ ?_
   | refine LeO.bind ?_ (fun _ => ?_)
  ·intro y0 y1 y2
   unfold impl_NumDo.j3
   repeat' first
   | (with_reducible exact ih0 _ _ _ _)
   | (with_reducible exact ih1 _ _ _)
   | (with_reducible exact ih2 _ _)
   | (with_reducible exact ih3 _ _ _ _ _)
   | (with_reducible exact ih4 _ _ _ _)
   | (with_reducible exact impl_numExact.mono _ _ _ _)
   | (with_reducible exact LeO.refl _)
   | (with_reducible exact LeO.none _)
   | (with_reducible refine LeO.ite ?_ ?_)
   | (with_reducible refine LeO.bind ?_ (fun _ => ?_))
   | exact ih0 _ _ _ _
   | exact ih1 _ _ _
   | exact ih2 _ _
   | exact ih3 _ _ _ _ _
   | exact ih4 _ _ _ _
   | exact impl_numExact.mono _ _ _ _
   | exact LeO.none _
   | refine LeO.ite ?_ ?_
   | refine LeO.bind ?_ (fun _ => ?_)
  ·intro y0 y1
   unfold impl_NumDo.j4
   repeat' first
   | (with_reducible exact ih0 _ _ _ _)
   | (with_reducible exact ih1 _ _ _)
   | (with_reducible exact ih2 _ _)
   | (with_reducible exact ih3 _ _ _ _ _)
   | (with_reducible exact ih4 _ _ _ _)
   | (with_reducible exact impl_numExact.mono _ _ _ _)
   | (with_reducible exact LeO.refl _)
   | (with_reducible exact LeO.none _)
   | (with_reducible refine LeO.ite ?_ ?_)
   | (with_reducible refine LeO.bind ?_ (fun _ => ?_))
   | exact ih0 _ _ _ _
   | exact ih1 _ _ _
   | exact ih2 _ _
   | exact ih3 _ _ _ _ _
   | exact ih4 _ _ _ _
   | exact impl_numExact.mono _ _ _ _
   | exact LeO.none _
   | refine LeO.ite ?_ ?_
   | refine LeO.bind ?_ (fun _ => ?_)
  ·intro y0 y1 y2 y3 y4
   unfold impl_NumDo.j1
   repeat' first
   | (with_reducible exact ih0 _ _ _ _)
   | (with_reducible exact ih1 _ _ _)
   | (with_reducible exact ih2 _ _)
   | (with_reducible exact ih3 _ _ _ _ _)
   | (with_reducible exact ih4 _ _ _ _)
   | (with_reducible exact impl_numExact.mono _ _ _ _)
   | (with_reducible exact LeO.refl _)
   | (with_reducible exact LeO.none _)
   | (with_reducible refine LeO.ite ?_ ?_)
   | (with_reducible refine LeO.bind ?_ (fun _ => ?_))
   | exact ih0 _ _ _ _
   | exact ih1 _ _ _
   | exact ih2 _ _
   | exact ih3 _ _ _ _ _
   | exact ih4 _ _ _ _
   | exact impl_numExact.mono _ _ _ _
   | exact LeO.none _
   | refine LeO.ite ?_ ?_
   | refine LeO.bind ?_ (fun _ => ?_)
  ·intro y0 y1 y2 y3
   unfold impl_NumDo.j2
   repeat' first
   | (with_reducible exact ih0 _ _ _ _)
   | (with_reducible exact ih1 _ _ _)
   | (with_reducible exact ih2 _ _)
   | (with_reducible exact ih3 _ _ _ _ _)
   | (with_reducible exact ih4 _ _ _ _)
   | (with_reducible exact impl_numExact.mono _ _ _ _)
   | (with_reducible exact LeO.refl _)
   | (with_reducible exact LeO.none _)
   | (with_reducible refine LeO.ite ?_ ?_)
   | (with_reducible refine LeO.bind ?_ (fun _ => ?_))
   | exact ih0 _ _ _ _
   | exact ih1 _ _ _
   | exact ih2 _ _
   | exact ih3 _ _ _ _ _
   | exact ih4 _ _ _ _
   | exact impl_numExact.mono _ _ _ _
   | exact LeO.none _
   | refine LeO.ite ?_ ?_
   | refine LeO.bind ?_ (fun _ => ?_)
theorem impl_NumDo.mono : ∀ a0 a1 a2 k, LeO (impl_NumDo.f k a0 a1 a2) (impl_NumDo.f (k + 1) a0 a1 a2) := by
 intro a0 a1 a2 k
 obtain ⟨ih0, ih1, ih2, ih3, ih4⟩ := impl_NumDo.mono_l k
 unfold impl_NumDo.f
 repeat' first
   | (with_reducible exact ih0 _ _ _ _)
   | (with_reducible exact ih1 _ _ _)
   | (with_reducible exact ih2 _ _)
   | (with_reducible exact ih3 _ _ _ _ _)
   | (with_reducible exact ih4 _ _ _ _)
   | (with_reducible exact impl_numExact.mono _ _ _ _)
   | (with_reducible exact LeO.refl _)
   | (with_reducible exact LeO.none _)
   | (with_reducible refine LeO.ite ?_ ?_)
   | (with_reducible refine LeO.bind ?_ (fun _ => ?_))
   | exact ih0 _ _ _ _
   | exact ih1 _ _ _
   | exact ih2 _ _
   | exact ih3 _ _ _ _ _
   | exact ih4 _ _ _ _
   | exact impl_numExact.mono _ _ _ _
   | exact LeO.none _
   | refine LeO.ite ?_ ?_
   | refine LeO.bind ?_ (fun _ => ?_)
set_option maxHeartbeats 8000000 in
set_option maxRecDepth 100000 in
theorem impl_NumDo.calls (k : Nat) (a0 : Int) (a1 : Int) (a2 : Int) (r1 : Int) (r2 : Int) (w : World) (h : impl_NumDo.f k a0 a1 a2 = some (r1, r2)) :
  Calls Try.prog 17 #[.int .i64 a0, .int .i64 a1, .int .i64 a2] w fun e w' => e = .returned (.tuple #[.int .i64 r1, .int .i64 r2]) ∧ Drawn0 w w' := by
 have H : ((impl_numOp.f a0).bind fun t364 => (if t364 = true then ((impl_NumOk.f a1).bind fun t365 => (if t365 = true then ((impl_NumOk.f a2).bind fun t366 => (impl_NumDo.j0 k a0 a1 a2 (!t366))) else (impl_NumDo.j0 k a0 a1 a2 true))) else (impl_NumDo.j0 k a0 a1 a2 true))) = some (r1, r2) := h
 clear h
 have HC4 := am H
 clear H
 go_enter Try.func17, Try.ntmps17
 go_upto_region 1 with (fail)
 go_cut [21] (fun v21 wc => ∃ (kq : Nat) (x21_3 : Bool), v21 = .bool x21_3 ∧ Aside0 (impl_NumDo.j0 kq a0 a1 a2 x21_3 = some (r1, r2)) ∧ Aside0 (kq ≤ k) ∧ Drawn0 w wc)
 case first =>
  have H := HC4.out
  clear HC4
  replace H := Option.bind_eq_some_iff.mp H
  obtain ⟨t364, A50, H⟩ := H
  replace H : (if t364 = true then ((impl_NumOk.f a1).bind fun t365 => (if t365 = true then ((impl_NumOk.f a2).bind fun t366 => (impl_NumDo.j0 k a0 a1 a2 (!t366))) else (impl_NumDo.j0 k a0 a1 a2 true))) else (impl_NumDo.j0 k a0 a1 a2 true)) = some (r1, r2) := H
  have A5 := am A50
  clear A50
  by_cases c6 : t364 = true
  ·subst c6
   have H1 : ((impl_NumOk.f a1).bind fun t365 => (if t365 = true then ((impl_NumOk.f a2).bind fun t366 => (impl_NumDo.j0 k a0 a1 a2 (!t366))) else (impl_NumDo.j0 k a0 a1 a2 true))) = some (r1, r2) := by rw [if_pos rfl] at H; exact H
   clear H
   have H := H1
   clear H1
   replace H := Option.bind_eq_some_iff.mp H
   obtain ⟨t365, A70, H⟩ := H
   replace H : (if t365 = true then ((impl_NumOk.f a2).bind fun t366 => (impl_NumDo.j0 k a0 a1 a2 (!t366))) else (impl_NumDo.j0 k a0 a1 a2 true)) = some (r1, r2) := H
   have A7 := am A70
   clear A70
   by_cases c8 : t365 = true
   ·subst c8
    have H1 : ((impl_NumOk.f a2).bind fun t366 => (impl_NumDo.j0 k a0 a1 a2 (!t366))) = some (r1, r2) := by rw [if_pos rfl] at H; exact H
    clear H
    have H := H1
    clear H1
    replace H := Option.bind_eq_some_iff.mp H
    obtain ⟨t366, A90, H⟩ := H
    replace H : (impl_NumDo.j0 k a0 a1 a2 (!t366)) = some (r1, r2) := H
    have A9 := am A90
    clear A90
    have H' := am H
    clear H
    go_wp2_with (first | ((with_reducible refine gate_callee (f := 45) rfl ?_); refine goesL_ (some 10) rfl rfl Try.func45 (by kernel_rfl) rfl #[.int .i64 a0] rfl mz ?_; (with_reducible refine (impl_numOp.calls a0 true _ A5.out).mono ?_); rintro e w' ⟨rfl, ⟨nd, rfl⟩⟩; refine ⟨_, rfl, ?_⟩) | (go_at_call 60; (with_reducible refine (impl_NumOk.calls a1 true _ A7.out).mono ?_); rintro e w' ⟨rfl, ⟨nd, rfl⟩⟩) | (go_at_call 60; (with_reducible refine (impl_NumOk.calls a2 t366 _ A9.out).mono ?_); rintro e w' ⟨rfl, ⟨nd, rfl⟩⟩))
    go_meet
    case rel => exact ⟨_, (!t366), (by first | rfl | (simp; done) | (simp [*]; done)), H', ⟨by first | omega | exact Nat.le_refl _⟩, by repeat (first | exact Drawn0.refl _ | apply Drawn0.step)⟩
   ·replace c8 := Bool.eq_false_iff.mpr c8
    subst c8
    have H1 : (impl_NumDo.j0 k a0 a1 a2 true) = some (r1, r2) := by rw [if_neg (show ¬ (false = true) by decide)] at H; exact H
    clear H
    have H := H1
    clear H1
    have H' := am H
    clear H
    go_wp2_with (first | ((with_reducible refine gate_callee (f := 45) rfl ?_); refine goesL_ (some 10) rfl rfl Try.func45 (by kernel_rfl) rfl #[.int .i64 a0] rfl mz ?_; (with_reducible refine (impl_numOp.calls a0 true _ A5.out).mono ?_); rintro e w' ⟨rfl, ⟨nd, rfl⟩⟩; refine ⟨_, rfl, ?_⟩) | (go_at_call 60; (with_reducible refine (impl_NumOk.calls a1 false _ A7.out).mono ?_); rintro e w' ⟨rfl, ⟨nd, rfl⟩⟩))
    go_meet
    case rel => exact ⟨_, (true), (by first | rfl | (simp; done) | (simp [*]; done)), H', ⟨by first | omega | exact Nat.le_refl _⟩, by repeat (first | exact Drawn0.refl _ | apply Drawn0.step)⟩
  ·replace c6 := Bool.eq_false_iff.mpr c6
   subst c6
   have H1 : (impl_NumDo.j0 k a0 a1 a2 true) = some (r1, r2) := by rw [if_neg (show ¬ (false = true) by decide)] at H; exact H
   clear H
   have H := H1
   clear H1
   have H' := am H
   clear H
   go_wp2_with (first | ((with_reducible refine gate_callee (f := 45) rfl ?_); refine goesL_ (some 10) rfl rfl Try.func45 (by kernel_rfl) rfl #[.int .i64 a0] rfl mz ?_; (with_reducible refine (impl_numOp.calls a0 false _ A5.out).mono ?_); rintro e w' ⟨rfl, ⟨nd, rfl⟩⟩; refine ⟨_, rfl, ?_⟩))
   go_meet
   case rel => exact ⟨_, (true), (by first | rfl | (simp; done) | (simp [*]; done)), H', ⟨by first | omega | exact Nat.le_refl _⟩, by repeat (first | exact Drawn0.refl _ | apply Drawn0.step)⟩
 case rest =>
  clear HC4
  try clear c1
  try clear p2
  try clear c4
  try clear c6
  try clear c8
  obtain ⟨kq, x21_3, rfl, HA, HJ3, ⟨mc3, rfl⟩⟩ := hcut
  cases kq with
  | zero => exact absurd HA.out (by simp [impl_NumDo.j0])
  | succ kj3 =>
   have H := HA.out
   clear HA
   simp only [impl_NumDo.j0] at H
   by_cases c10 : x21_3 = true
   ·subst c10
    have H1 : (some (0, 0)) = some (r1, r2) := by rw [if_pos rfl] at H; exact H
    clear H
    have H := H1
    clear H1
    simp only [Option.some.injEq, Prod.mk.injEq] at H
    obtain ⟨rfl, rfl⟩ := H
    go_wp2
    go_ret2
    exact ⟨by first | rfl | (simp; done) | (simp [*]; done), by repeat (first | exact Drawn0.refl _ | apply Drawn0.step)⟩
   ·replace c10 := Bool.eq_false_iff.mpr c10
    subst c10
    have H1 : (if a0 = 4 then (impl_NumDo.j1 kj3 a0 a1 a2 a0 (a0 == 4)) else (impl_NumDo.j1 kj3 a0 a1 a2 a0 (a0 == 5))) = some (r1, r2) := by rw [if_neg (show ¬ (false = true) by decide)] at H; exact H
    clear H
    have H := H1
    clear H1
    have HC11 := am H
    clear H
    go_upto_block 0 with (fail)
    go_cut [] (fun wc => ∃ (kq : Nat), Aside0 (impl_NumDo.j3 kq a0 a1 a2 = some (r1, r2)) ∧ Aside0 (kq ≤ kj3) ∧ Drawn0 w wc)
    case first =>
     have H := HC11.out
     clear HC11
     have HC12 := am H
     clear H
     go_upto_if 23 with (fail)
     go_cut [23] (fun v23 wc => ∃ (kq : Nat) (x23_11 : Bool), v23 = .bool x23_11 ∧ Aside0 (impl_NumDo.j1 kq a0 a1 a2 a0 x23_11 = some (r1, r2)) ∧ Aside0 (kq ≤ kj3) ∧ Drawn0 w wc)
     case first =>
      have H := HC12.out
      clear HC12
      by_cases c13 : a0 = 4
      ·rw [if_pos c13] at H
       have c13b0 : (a0 == 4) = true := beq_iff_eq.mpr c13
       have c13b1 : (a0 != 4) = false := bne_eq_false_iff_eq.mpr c13
       clear c13
       (first | rw [c13b0] | (simp only [i64_w, i32_w]; rw [c13b0]) | skip)
       have H' := am H
       clear H
       go_wp2
       go_meet
       case rel => exact ⟨_, ((a0 == 4)), (by first | rfl | (simp; done) | (simp [*]; done)), H', ⟨by have := HJ3.out; first | omega | exact Nat.le_refl _⟩, by repeat (first | exact Drawn0.refl _ | apply Drawn0.step)⟩
      ·rw [if_neg c13] at H
       have c13b0 : (a0 == 4) = false := beq_eq_false_iff_ne.mpr c13
       have c13b1 : (a0 != 4) = true := bne_iff_ne.mpr c13
       (first | rw [c13b0] | (simp only [i64_w, i32_w]; rw [c13b0]) | skip)
       have H' := am H
       clear H
       go_wp2
       go_meet
       case rel => exact ⟨_, ((a0 == 5)), (by first | rfl | (simp; done) | (simp [*]; done)), H', ⟨by have := HJ3.out; first | omega | exact Nat.le_refl _⟩, by repeat (first | exact Drawn0.refl _ | apply Drawn0.step)⟩
     case rest =>
      clear HC12
      try clear c1
      try clear p2
      try clear c3
      try clear c4
      try clear c6
      try clear c8
      try clear c10
      try clear c13
      try clear c13b0
      try clear c13b1
      try clear p2
      obtain ⟨kq, x23_11, rfl, HA, HJ11, ⟨mc11, rfl⟩⟩ := hcut
      cases kq with
      | zero => exact absurd HA.out (by simp [impl_NumDo.j1])
      | succ kj11 =>
       have H := HA.out
       clear HA
       simp only [impl_NumDo.j1] at H
       by_cases c14 : x23_11 = true
       ·subst c14
        have H1 : (if a2 = 0 then (some (0, 2)) else (impl_NumDo.j3 kj11 a0 a1 a2)) = some (r1, r2) := by rw [if_pos rfl] at H; exact H
        clear H
        have H := H1
        clear H1
        by_cases c15 : a2 = 0
        ·rw [if_pos c15] at H
         have c15b0 : (a2 == 0) = true := beq_iff_eq.mpr c15
         have c15b1 : (a2 != 0) = false := bne_eq_false_iff_eq.mpr c15
         clear c15
         simp only [Option.some.injEq, Prod.mk.injEq] at H
         obtain ⟨rfl, rfl⟩ := H
         go_wp2
         go_ret2
         exact ⟨by first | rfl | (simp; done) | (simp [*]; done), by repeat (first | exact Drawn0.refl _ | apply Drawn0.step)⟩
        ·rw [if_neg c15] at H
         have c15b0 : (a2 == 0) = false := beq_eq_false_iff_ne.mpr c15
         have c15b1 : (a2 != 0) = true := bne_iff_ne.mpr c15
         have H' := am H
         clear H
         go_wp2
         go_meet
         case rel => exact ⟨_, H', ⟨by have := HJ3.out; have := HJ11.out; first | omega | exact Nat.le_refl _⟩, by repeat (first | exact Drawn0.refl _ | apply Drawn0.step)⟩
       ·replace c14 := Bool.eq_false_iff.mpr c14
        subst c14
        have H1 : (if a0 = 9 then (impl_NumDo.j2 kj11 a0 a1 a2 (a0 == 9)) else (impl_NumDo.j2 kj11 a0 a1 a2 (a0 == 10))) = some (r1, r2) := by rw [if_neg (show ¬ (false = true) by decide)] at H; exact H
        clear H
        have H := H1
        clear H1
        have HC16 := am H
        clear H
        go_upto_if 28 with (fail)
        go_cut [28] (fun v28 wc => ∃ (kq : Nat) (x28_15 : Bool), v28 = .bool x28_15 ∧ Aside0 (impl_NumDo.j2 kq a0 a1 a2 x28_15 = some (r1, r2)) ∧ Aside0 (kq ≤ kj11) ∧ Drawn0 w wc)
        case first =>
         have H := HC16.out
         clear HC16
         by_cases c17 : a0 = 9
         ·rw [if_pos c17] at H
          have c17b0 : (a0 == 9) = true := beq_iff_eq.mpr c17
          have c17b1 : (a0 != 9) = false := bne_eq_false_iff_eq.mpr c17
          clear c17
          (first | rw [c17b0] | (simp only [i64_w, i32_w]; rw [c17b0]) | skip)
          have H' := am H
          clear H
          go_wp2
          go_meet
          case rel => exact ⟨_, ((a0 == 9)), (by first | rfl | (simp; done) | (simp [*]; done)), H', ⟨by have := HJ3.out; have := HJ11.out; first | omega | exact Nat.le_refl _⟩, by repeat (first | exact Drawn0.refl _ | apply Drawn0.step)⟩
         ·rw [if_neg c17] at H
          have c17b0 : (a0 == 9) = false := beq_eq_false_iff_ne.mpr c17
          have c17b1 : (a0 != 9) = true := bne_iff_ne.mpr c17
          (first | rw [c17b0] | (simp only [i64_w, i32_w]; rw [c17b0]) | skip)
          have H' := am H
          clear H
          go_wp2
          go_meet
          case rel => exact ⟨_, ((a0 == 10)), (by first | rfl | (simp; done) | (simp [*]; done)), H', ⟨by have := HJ3.out; have := HJ11.out; first | omega | exact Nat.le_refl _⟩, by repeat (first | exact Drawn0.refl _ | apply Drawn0.step)⟩
        case rest =>
         clear HC16
         try clear c1
         try clear p2
         try clear c3
         try clear c4
         try clear c6
         try clear c8
         try clear c10
         try clear c11
         try clear c13
         try clear c13b0
         try clear c13b1
         try clear c14
         try clear c15
         try clear c15b0
         try clear c15b1
         try clear c17
         try clear c17b0
         try clear c17b1
         try clear p2
         obtain ⟨kq, x28_15, rfl, HA, HJ15, ⟨mc15, rfl⟩⟩ := hcut
         cases kq with
         | zero => exact absurd HA.out (by simp [impl_NumDo.j2])
         | succ kj15 =>
          have H := HA.out
          clear HA
          simp only [impl_NumDo.j2] at H
          by_cases c18 : x28_15 = true
          ·subst c18
           have H1 : (if a2 < 0 then (some (0, 3)) else (if a2 > 31 then (some (0, 3)) else (impl_NumDo.j3 kj15 a0 a1 a2))) = some (r1, r2) := by rw [if_pos rfl] at H; exact H
           clear H
           have H := H1
           clear H1
           by_cases c19 : a2 < 0
           ·rw [if_pos c19] at H
            have c19b0 : decide (a2 < 0) = true := decide_eq_true c19
            clear c19
            simp only [Option.some.injEq, Prod.mk.injEq] at H
            obtain ⟨rfl, rfl⟩ := H
            go_wp2
            go_ret2
            exact ⟨by first | rfl | (simp; done) | (simp [*]; done), by repeat (first | exact Drawn0.refl _ | apply Drawn0.step)⟩
           ·rw [if_neg c19] at H
            have c19b0 : decide (a2 < 0) = false := decide_eq_false c19
            clear c19
            by_cases c20 : a2 > 31
            ·rw [if_pos c20] at H
             have c20b0 : decide (31 < a2) = true := decide_eq_true c20
             clear c20
             simp only [Option.some.injEq, Prod.mk.injEq] at H
             obtain ⟨rfl, rfl⟩ := H
             go_wp2
             go_ret2
             exact ⟨by first | rfl | (simp; done) | (simp [*]; done), by repeat (first | exact Drawn0.refl _ | apply Drawn0.step)⟩
            ·rw [if_neg c20] at H
             have c20b0 : decide (31 < a2) = false := decide_eq_false c20
             clear c20
             have H' := am H
             clear H
             go_wp2
             go_meet
             case rel => exact ⟨_, H', ⟨by have := HJ3.out; have := HJ11.out; have := HJ15.out; first | omega | exact Nat.le_refl _⟩, by repeat (first | exact Drawn0.refl _ | apply Drawn0.step)⟩
          ·replace c18 := Bool.eq_false_iff.mpr c18
           subst c18
           have H1 : (impl_NumDo.j3 kj15 a0 a1 a2) = some (r1, r2) := by rw [if_neg (show ¬ (false = true) by decide)] at H; exact H
           clear H
           have H := H1
           clear H1
           have H' := am H
           clear H
           go_wp2
           go_meet
           case rel => exact ⟨_, H', ⟨by have := HJ3.out; have := HJ11.out; have := HJ15.out; first | omega | exact Nat.le_refl _⟩, by repeat (first | exact Drawn0.refl _ | apply Drawn0.step)⟩
    case rest =>
     clear HC11
     try clear c1
     try clear c2
     try clear p2
     try clear c3
     try clear c4
     try clear c6
     try clear c8
     try clear c10
     try clear c11
     try clear c13
     try clear c13b0
     try clear c13b1
     try clear c14
     try clear c15
     try clear c15b0
     try clear c15b1
     try clear c17
     try clear c17b0
     try clear c17b1
     try clear c18
     try clear c19
     try clear c19b0
     try clear c20
     try clear c20b0
     try clear p2
     obtain ⟨kq, HA, HJ10, ⟨mc10, rfl⟩⟩ := hcut
     cases kq with
     | zero => exact absurd HA.out (by simp [impl_NumDo.j3])
     | succ kj10 =>
      have H := HA.out
      clear HA
      simp only [impl_NumDo.j3] at H
      replace H := Option.bind_eq_some_iff.mp H
      obtain ⟨t367, A210, H⟩ := H
      replace H : (if a0 = 11 then (impl_NumDo.j4 kj10 t367 (a0 == 11)) else (if a0 = 12 then (impl_NumDo.j4 kj10 t367 (a0 == 12)) else (impl_NumDo.j4 kj10 t367 (a0 == 13)))) = some (r1, r2) := H
      have A21 := am A210
      clear A210
      have HC22 := am H
      clear H
      go_upto_if 42 with (first | ((with_reducible refine gate_callee (f := 61) rfl ?_); refine goesL_ (some 40) rfl rfl Try.func61 (by kernel_rfl) rfl #[.int .i64 a0, .int .i64 a1, .int .i64 a2] rfl mz ?_; (with_reducible refine (impl_numExact.calls kj10 a0 a1 a2 t367 _ A21.out).mono ?_); rintro e w' ⟨rfl, ⟨nd, rfl⟩⟩; refine ⟨_, rfl, ?_⟩))
      (try simp only [Act.put, List.setIfInBounds_toArray, List.set_cons_zero, List.set_cons_succ])
      go_cut [42] (fun v42 wc => ∃ (kq : Nat) (x42_21 : Bool), v42 = .bool x42_21 ∧ Aside0 (impl_NumDo.j4 kq t367 x42_21 = some (r1, r2)) ∧ Aside0 (kq ≤ kj10) ∧ Drawn0 w wc)
      case first =>
       have H := HC22.out
       clear HC22
       by_cases c23 : a0 = 11
       ·rw [if_pos c23] at H
        have c23b0 : (a0 == 11) = true := beq_iff_eq.mpr c23
        have c23b1 : (a0 != 11) = false := bne_eq_false_iff_eq.mpr c23
        clear c23
        (first | rw [c23b0] | (simp only [i64_w, i32_w]; rw [c23b0]) | skip)
        have H' := am H
        clear H
        go_wp2
        go_meet
        case rel => exact ⟨_, ((a0 == 11)), (by first | rfl | (simp; done) | (simp [*]; done)), H', ⟨by have := HJ3.out; have := HJ10.out; first | omega | exact Nat.le_refl _⟩, by repeat (first | exact Drawn0.refl _ | apply Drawn0.step)⟩
       ·rw [if_neg c23] at H
        have c23b0 : (a0 == 11) = false := beq_eq_false_iff_ne.mpr c23
        have c23b1 : (a0 != 11) = true := bne_iff_ne.mpr c23
        (first | rw [c23b0] | (simp only [i64_w, i32_w]; rw [c23b0]) | skip)
        by_cases c24 : a0 = 12
        ·rw [if_pos c24] at H
         have c24b0 : (a0 == 12) = true := beq_iff_eq.mpr c24
         have c24b1 : (a0 != 12) = false := bne_eq_false_iff_eq.mpr c24
         clear c24
         have H' := am H
         clear H
         go_wp2
         go_meet
         case rel => exact ⟨_, ((a0 == 12)), (by first | rfl | (simp; done) | (simp [*]; done)), H', ⟨by have := HJ3.out; have := HJ10.out; first | omega | exact Nat.le_refl _⟩, by repeat (first | exact Drawn0.refl _ | apply Drawn0.step)⟩
        ·rw [if_neg c24] at H
         have c24b0 : (a0 == 12) = false := beq_eq_false_iff_ne.mpr c24
         have c24b1 : (a0 != 12) = true := bne_iff_ne.mpr c24
         have H' := am H
         clear H
         go_wp2
         go_meet
         case rel => exact ⟨_, ((a0 == 13)), (by first | rfl | (simp; done) | (simp [*]; done)), H', ⟨by have := HJ3.out; have := HJ10.out; first | omega | exact Nat.le_refl _⟩, by repeat (first | exact Drawn0.refl _ | apply Drawn0.step)⟩
      case rest =>
       clear HC22
       try clear c1
       try clear c2
       try clear p2
       try clear c3
       try clear c4
       try clear c6
       try clear c8
       try clear c10
       try clear c11
       try clear c13
       try clear c13b0
       try clear c13b1
       try clear c14
       try clear c15
       try clear c15b0
       try clear c15b1
       try clear c17
       try clear c17b0
       try clear c17b1
       try clear c18
       try clear c19
       try clear c19b0
       try clear c20
       try clear c20b0
       try clear c23
       try clear c23b0
       try clear c23b1
       try clear c24
       try clear c24b0
       try clear c24b1
       try clear p2
       obtain ⟨kq, x42_21, rfl, HA, HJ21, ⟨mc21, rfl⟩⟩ := hcut
       cases kq with
       | zero => exact absurd HA.out (by simp [impl_NumDo.j4])
       | succ kj21 =>
        have H := HA.out
        clear HA
        simp only [impl_NumDo.j4] at H
        by_cases c25 : x42_21 = true
        ·subst c25
         have H1 : ((impl_NumWrap.f t367).bind fun t368 => (some (t368, 0))) = some (r1, r2) := by rw [if_pos rfl] at H; exact H
         clear H
         have H := H1
         clear H1
         replace H := Option.bind_eq_some_iff.mp H
         obtain ⟨t368, A260, H⟩ := H
         replace H : (some (t368, 0)) = some (r1, r2) := H
         have A26 := am A260
         clear A260
         simp only [Option.some.injEq, Prod.mk.injEq] at H
         obtain ⟨rfl, rfl⟩ := H
         go_wp2_with (first | ((with_reducible refine gate_callee (f := 62) rfl ?_); refine goesL_ (some 47) rfl rfl Try.func62 (by kernel_rfl) rfl #[.int .i64 t367] rfl mz ?_; (with_reducible refine (impl_NumWrap.calls t367 t368 _ A26.out).mono ?_); rintro e w' ⟨rfl, ⟨nd, rfl⟩⟩; refine ⟨_, rfl, ?_⟩))
         go_ret2
         exact ⟨by first | rfl | (simp; done) | (simp [*]; done), by repeat (first | exact Drawn0.refl _ | apply Drawn0.step)⟩
        ·replace c25 := Bool.eq_false_iff.mpr c25
         subst c25
         have H1 : ((impl_NumOk.f t367).bind fun t369 => (if t369 = true then (some (t367, 0)) else (some (0, 1)))) = some (r1, r2) := by rw [if_neg (show ¬ (false = true) by decide)] at H; exact H
         clear H
         have H := H1
         clear H1
         replace H := Option.bind_eq_some_iff.mp H
         obtain ⟨t369, A270, H⟩ := H
         replace H : (if t369 = true then (some (t367, 0)) else (some (0, 1))) = some (r1, r2) := H
         have A27 := am A270
         clear A270
         by_cases c28 : t369 = true
         ·subst c28
          have H1 : (some (t367, 0)) = some (r1, r2) := by rw [if_pos rfl] at H; exact H
          clear H
          have H := H1
          clear H1
          simp only [Option.some.injEq, Prod.mk.injEq] at H
          obtain ⟨rfl, rfl⟩ := H
          go_wp2_with (first | ((with_reducible refine gate_callee (f := 60) rfl ?_); refine goesL_ (some 49) rfl rfl Try.func60 (by kernel_rfl) rfl #[.int .i64 t367] rfl mz ?_; (with_reducible refine (impl_NumOk.calls t367 true _ A27.out).mono ?_); rintro e w' ⟨rfl, ⟨nd, rfl⟩⟩; refine ⟨_, rfl, ?_⟩))
          go_ret2
          exact ⟨by first | rfl | (simp; done) | (simp [*]; done), by repeat (first | exact Drawn0.refl _ | apply Drawn0.step)⟩
         ·replace c28 := Bool.eq_false_iff.mpr c28
          subst c28
          have H1 : (some (0, 1)) = some (r1, r2) := by rw [if_neg (show ¬ (false = true) by decide)] at H; exact H
          clear H
          have H := H1
          clear H1
          simp only [Option.some.injEq, Prod.mk.injEq] at H
          obtain ⟨rfl, rfl⟩ := H
          go_wp2_with (first | ((with_reducible refine gate_callee (f := 60) rfl ?_); refine goesL_ (some 49) rfl rfl Try.func60 (by kernel_rfl) rfl #[.int .i64 t367] rfl mz ?_; (with_reducible refine (impl_NumOk.calls t367 false _ A27.out).mono ?_); rintro e w' ⟨rfl, ⟨nd, rfl⟩⟩; refine ⟨_, rfl, ?_⟩))
          go_ret2
          exact ⟨by first | rfl | (simp; done) | (simp [*]; done), by repeat (first | exact Drawn0.refl _ | apply Drawn0.step)⟩

/-! ### spec_l1In: function 37 -/
def spec_l1In.f (a0 : Int) (a1 : Int) (a2 : Int) : Option (Bool) := if a0 ≥ a1 then (some (decide (a0 ≤ a2))) else (some false)
set_option maxHeartbeats 8000000 in
set_option maxRecDepth 100000 in
theorem spec_l1In.calls (a0 : Int) (a1 : Int) (a2 : Int) (r : Bool) (w : World) (h : spec_l1In.f a0 a1 a2 = some r) :
  Calls Try.prog 37 #[.int .i64 a0, .int .i64 a1, .int .i64 a2] w fun e w' => e = .returned (.bool r) ∧ Drawn0 w w' := by
 have H : (if a0 ≥ a1 then (some (decide (a0 ≤ a2))) else (some false)) = some r := h
 clear h
 by_cases c4 : a0 ≥ a1
 ·rw [if_pos c4] at H
  have c4b0 : decide (a1 ≤ a0) = true := decide_eq_true c4
  clear c4
  obtain rfl := Option.some.inj H
  go_enter Try.func37, Try.ntmps37
  go_wp2
  go_ret
  exact ⟨by first | rfl | (simp; done) | (simp [*]; done), by repeat (first | exact Drawn0.refl _ | apply Drawn0.step)⟩
 ·rw [if_neg c4] at H
  have c4b0 : decide (a1 ≤ a0) = false := decide_eq_false c4
  clear c4
  obtain rfl := Option.some.inj H
  go_enter Try.func37, Try.ntmps37
  go_wp2
  go_ret
  exact ⟨by first | rfl | (simp; done) | (simp [*]; done), by repeat (first | exact Drawn0.refl _ | apply Drawn0.step)⟩

/-! ### spec_NumOk: function 19 -/
def spec_NumOk.f (a0 : Int) : Option (Bool) := (spec_l1In.f a0 (-2147483648) 2147483647).bind fun t370 => (some t370)
set_option maxHeartbeats 8000000 in
set_option maxRecDepth 100000 in
theorem spec_NumOk.calls (a0 : Int) (r : Bool) (w : World) (h : spec_NumOk.f a0 = some r) :
  Calls Try.prog 19 #[.int .i64 a0] w fun e w' => e = .returned (.bool r) ∧ Drawn0 w w' := by
 have H : ((spec_l1In.f a0 (-2147483648) 2147483647).bind fun t370 => (some t370)) = some r := h
 clear h
 replace H := Option.bind_eq_some_iff.mp H
 obtain ⟨t370, A20, H⟩ := H
 replace H : (some t370) = some r := H
 have A2 := am A20
 clear A20
 obtain rfl := Option.some.inj H
 go_enter Try.func19, Try.ntmps19
 go_wp2_with (first | ((with_reducible refine gate_callee (f := 37) rfl ?_); refine goesL_ (some 4) rfl rfl Try.func37 (by kernel_rfl) rfl #[.int .i64 a0, .int .i64 (-2147483648), .int .i64 2147483647] rfl mz ?_; (with_reducible refine (spec_l1In.calls a0 (-2147483648) 2147483647 t370 _ A2.out).mono ?_); rintro e w' ⟨rfl, ⟨nd, rfl⟩⟩; refine ⟨_, rfl, ?_⟩))
 go_ret
 exact ⟨by first | rfl | (simp; done) | (simp [*]; done), by repeat (first | exact Drawn0.refl _ | apply Drawn0.step)⟩

/-! ### spec_l1Bits: function 90 -/
def spec_l1Bits.l0 : Nat → Int → Int → Int → Int → Int → Option (Int)
 | 0, _, _, _, _, _ => none
 | k + 1, x0, x1, x2, x7, x8 => if x8 < 32 then ((spec_l1Mod.f x1 4294967296).bind fun t372 => (if 0 ≤ (IntKind.u64.wrap (x8)) then ((spec_l1Mod.f x2 4294967296).bind fun t373 => (if x0 = 7 then (spec_l1Bits.l0 k x0 x1 x2 (wrap64 (x7 + (shl .i64 (wrap64 ((wrap64 ((Int.tmod (shr .i64 t372 (IntKind.u64.wrap (x8))) 2) + (Int.tmod (shr .i64 t373 (IntKind.u64.wrap (x8))) 2))) - (wrap64 ((Int.tmod (shr .i64 t372 (IntKind.u64.wrap (x8))) 2) * (Int.tmod (shr .i64 t373 (IntKind.u64.wrap (x8))) 2))))) (IntKind.u64.wrap (x8))))) (wrap64 (x8 + 1))) else (if x0 = 8 then (spec_l1Bits.l0 k x0 x1 x2 (wrap64 (x7 + (shl .i64 (Int.tmod (wrap64 ((Int.tmod (shr .i64 t372 (IntKind.u64.wrap (x8))) 2) + (Int.tmod (shr .i64 t373 (IntKind.u64.wrap (x8))) 2))) 2) (IntKind.u64.wrap (x8))))) (wrap64 (x8 + 1))) else (spec_l1Bits.l0 k x0 x1 x2 (wrap64 (x7 + (shl .i64 (wrap64 ((Int.tmod (shr .i64 t372 (IntKind.u64.wrap (x8))) 2) * (Int.tmod (shr .i64 t373 (IntKind.u64.wrap (x8))) 2))) (IntKind.u64.wrap (x8))))) (wrap64 (x8 + 1)))))) else (none))) else ((spec_NumWrap.f x7).bind fun t371 => (some t371))
def spec_l1Bits.f (k : Nat) (a0 : Int) (a1 : Int) (a2 : Int) : Option (Int) := spec_l1Bits.l0 k a0 a1 a2 0 0
theorem spec_l1Bits.mono_l : ∀ k, (∀ y0 y1 y2 y3 y4, LeO (spec_l1Bits.l0 k y0 y1 y2 y3 y4) (spec_l1Bits.l0 (k + 1) y0 y1 y2 y3 y4))
 | 0 => fun _ _ _ _ _ r h => by simp [spec_l1Bits.l0] at h
 | k + 1 => by
  have ih0 := spec_l1Bits.mono_l k
  ·intro y0 y1 y2 y3 y4
   unfold spec_l1Bits.l0
   repeat' first
   | (with_reducible exact ih0 _ _ _ _ _)
   | (with_reducible exact LeO.refl _)
   | (with_reducible exact LeO.none _)
   | (with_reducible refine LeO.ite ?_ ?_)
   | (with_reducible refine LeO.bind ?_ (fun _ => ?_))
   | exact ih0 _ _ _ _ _
   | exact LeO.none _
   | refine LeO.ite ?_ ?_
   | refine LeO.bind ?_ (fun _ => ?_)
theorem spec_l1Bits.mono : ∀ a0 a1 a2 k, LeO (spec_l1Bits.f k a0 a1 a2) (spec_l1Bits.f (k + 1) a0 a1 a2) := by
 intro a0 a1 a2 k
 have ih0 := spec_l1Bits.mono_l k
 unfold spec_l1Bits.f
 repeat' first
   | (with_reducible exact ih0 _ _ _ _ _)
   | (with_reducible exact LeO.refl _)
   | (with_reducible exact LeO.none _)
   | (with_reducible refine LeO.ite ?_ ?_)
   | (with_reducible refine LeO.bind ?_ (fun _ => ?_))
   | exact ih0 _ _ _ _ _
   | exact LeO.none _
   | refine LeO.ite ?_ ?_
   | refine LeO.bind ?_ (fun _ => ?_)
set_option maxHeartbeats 8000000 in
set_option maxRecDepth 100000 in
theorem spec_l1Bits.calls (k : Nat) (a0 : Int) (a1 : Int) (a2 : Int) (r : Int) (w : World) (h : spec_l1Bits.f k a0 a1 a2 = some r) :
  Calls Try.prog 90 #[.int .i64 a0, .int .i64 a1, .int .i64 a2] w fun e w' => e = .returned (.int .i64 r) ∧ Drawn0 w w' := by
 have H : (spec_l1Bits.l0 k a0 a1 a2 0 0) = some r := h
 clear h
 have H' := am H
 clear H
 go_enter Try.func90, Try.ntmps90
 go_wp2
 go_loopg [7, 8] k (fun kq v7 v8 w' => ∃ (x7_1 : Int) (x8_1 : Int), v7 = .int .i64 x7_1 ∧ v8 = .int .i64 x8_1 ∧ Aside0 (spec_l1Bits.l0 kq a0 a1 a2 x7_1 x8_1 = some r) ∧ Aside0 (kq ≤ k) ∧ Drawn0 w w')
 case atStart => exact ⟨(0), (0), (by first | rfl | (simp; done) | (simp [*]; done)), (by first | rfl | (simp; done) | (simp [*]; done)), H', ⟨Nat.le_refl _⟩, by repeat (first | exact Drawn0.refl _ | apply Drawn0.step)⟩
 case round =>
  clear H'
  try clear p2
  obtain ⟨x7_1, x8_1, rfl, rfl, HA, HK1, ⟨m1, rfl⟩⟩ := hrel
  cases gk with
  | zero => exact absurd HA.out (by simp [spec_l1Bits.l0])
  | succ k1 =>
   have H := HA.out
   clear HA
   simp only [spec_l1Bits.l0] at H
   by_cases c4 : x8_1 < 32
   ·rw [if_pos c4] at H
    have c4b0 : decide (x8_1 < 32) = true := decide_eq_true c4
    clear c4
    replace H := Option.bind_eq_some_iff.mp H
    obtain ⟨t372, A50, H⟩ := H
    replace H : (if 0 ≤ (IntKind.u64.wrap (x8_1)) then ((spec_l1Mod.f a2 4294967296).bind fun t373 => (if a0 = 7 then (spec_l1Bits.l0 k1 a0 a1 a2 (wrap64 (x7_1 + (shl .i64 (wrap64 ((wrap64 ((Int.tmod (shr .i64 t372 (IntKind.u64.wrap (x8_1))) 2) + (Int.tmod (shr .i64 t373 (IntKind.u64.wrap (x8_1))) 2))) - (wrap64 ((Int.tmod (shr .i64 t372 (IntKind.u64.wrap (x8_1))) 2) * (Int.tmod (shr .i64 t373 (IntKind.u64.wrap (x8_1))) 2))))) (IntKind.u64.wrap (x8_1))))) (wrap64 (x8_1 + 1))) else (if a0 = 8 then (spec_l1Bits.l0 k1 a0 a1 a2 (wrap64 (x7_1 + (shl .i64 (Int.tmod (wrap64 ((Int.tmod (shr .i64 t372 (IntKind.u64.wrap (x8_1))) 2) + (Int.tmod (shr .i64 t373 (IntKind.u64.wrap (x8_1))) 2))) 2) (IntKind.u64.wrap (x8_1))))) (wrap64 (x8_1 + 1))) else (spec_l1Bits.l0 k1 a0 a1 a2 (wrap64 (x7_1 + (shl .i64 (wrap64 ((Int.tmod (shr .i64 t372 (IntKind.u64.wrap (x8_1))) 2) * (Int.tmod (shr .i64 t373 (IntKind.u64.wrap (x8_1))) 2))) (IntKind.u64.wrap (x8_1))))) (wrap64 (x8_1 + 1)))))) else (none)) = some r := H
    have A5 := am A50
    clear A50
    obtain ⟨ji6, hji6⟩ : ∃ j_ : Int, (IntKind.u64.wrap (x8_1)) = j_ := ⟨_, rfl⟩
    replace H : (if 0 ≤ (ji6) then ((spec_l1Mod.f a2 4294967296).bind fun t373 => (if a0 = 7 then (spec_l1Bits.l0 k1 a0 a1 a2 (wrap64 (x7_1 + (shl .i64 (wrap64 ((wrap64 ((Int.tmod (shr .i64 t372 (ji6)) 2) + (Int.tmod (shr .i64 t373 (ji6)) 2))) - (wrap64 ((Int.tmod (shr .i64 t372 (ji6)) 2) * (Int.tmod (shr .i64 t373 (ji6)) 2))))) (ji6)))) (wrap64 (x8_1 + 1))) else (if a0 = 8 then (spec_l1Bits.l0 k1 a0 a1 a2 (wrap64 (x7_1 + (shl .i64 (Int.tmod (wrap64 ((Int.tmod (shr .i64 t372 (ji6)) 2) + (Int.tmod (shr .i64 t373 (ji6)) 2))) 2) (ji6)))) (wrap64 (x8_1 + 1))) else (spec_l1Bits.l0 k1 a0 a1 a2 (wrap64 (x7_1 + (shl .i64 (wrap64 ((Int.tmod (shr .i64 t372 (ji6)) 2) * (Int.tmod (shr .i64 t373 (ji6)) 2))) (ji6)))) (wrap64 (x8_1 + 1)))))) else (none)) = some r := by first | (rw [hji6] at H; exact H) | (simp only [hji6] at H ⊢; exact H)
    (try rw [hji6] at A5)
    by_cases c7 : 0 ≤ (ji6)
    ·rw [if_pos c7] at H
     have c7b0 := eq_true c7
     have c7b1 : decide (0 ≤ (ji6)) = true := decide_eq_true c7
     clear c7
     obtain ⟨ji8, hji8⟩ : ∃ j_ : Int, (shr .i64 t372 (ji6)) = j_ := ⟨_, rfl⟩
     replace H : ((spec_l1Mod.f a2 4294967296).bind fun t373 => (if a0 = 7 then (spec_l1Bits.l0 k1 a0 a1 a2 (wrap64 (x7_1 + (shl .i64 (wrap64 ((wrap64 ((Int.tmod (ji8) 2) + (Int.tmod (shr .i64 t373 (ji6)) 2))) - (wrap64 ((Int.tmod (ji8) 2) * (Int.tmod (shr .i64 t373 (ji6)) 2))))) (ji6)))) (wrap64 (x8_1 + 1))) else (if a0 = 8 then (spec_l1Bits.l0 k1 a0 a1 a2 (wrap64 (x7_1 + (shl .i64 (Int.tmod (wrap64 ((Int.tmod (ji8) 2) + (Int.tmod (shr .i64 t373 (ji6)) 2))) 2) (ji6)))) (wrap64 (x8_1 + 1))) else (spec_l1Bits.l0 k1 a0 a1 a2 (wrap64 (x7_1 + (shl .i64 (wrap64 ((Int.tmod (ji8) 2) * (Int.tmod (shr .i64 t373 (ji6)) 2))) (ji6)))) (wrap64 (x8_1 + 1)))))) = some r := by first | (rw [hji8] at H; exact H) | (simp only [hji8] at H ⊢; exact H)
     (try rw [hji8] at A5)
     have hji8_ : (t372 / 2 ^ min (ji6).toNat 64) = ji8 := hji8
     have hji8z : (ji6) ≤ 64 → (t372 / 2 ^ (ji6).toNat) = ji8 := shr_small hji8
     replace H := Option.bind_eq_some_iff.mp H
     obtain ⟨t373, A90, H⟩ := H
     replace H : (if a0 = 7 then (spec_l1Bits.l0 k1 a0 a1 a2 (wrap64 (x7_1 + (shl .i64 (wrap64 ((wrap64 ((Int.tmod (ji8) 2) + (Int.tmod (shr .i64 t373 (ji6)) 2))) - (wrap64 ((Int.tmod (ji8) 2) * (Int.tmod (shr .i64 t373 (ji6)) 2))))) (ji6)))) (wrap64 (x8_1 + 1))) else (if a0 = 8 then (spec_l1Bits.l0 k1 a0 a1 a2 (wrap64 (x7_1 + (shl .i64 (Int.tmod (wrap64 ((Int.tmod (ji8) 2) + (Int.tmod (shr .i64 t373 (ji6)) 2))) 2) (ji6)))) (wrap64 (x8_1 + 1))) else (spec_l1Bits.l0 k1 a0 a1 a2 (wrap64 (x7_1 + (shl .i64 (wrap64 ((Int.tmod (ji8) 2) * (Int.tmod (shr .i64 t373 (ji6)) 2))) (ji6)))) (wrap64 (x8_1 + 1))))) = some r := H
     have A9 := am A90
     clear A90
     have c10b0 := eq_true (oz : 0 ≤ (ji6))
     obtain ⟨ji11, hji11⟩ : ∃ j_ : Int, (shr .i64 t373 (ji6)) = j_ := ⟨_, rfl⟩
     replace H : (if a0 = 7 then (spec_l1Bits.l0 k1 a0 a1 a2 (wrap64 (x7_1 + (shl .i64 (wrap64 ((wrap64 ((Int.tmod (ji8) 2) + (Int.tmod (ji11) 2))) - (wrap64 ((Int.tmod (ji8) 2) * (Int.tmod (ji11) 2))))) (ji6)))) (wrap64 (x8_1 + 1))) else (if a0 = 8 then (spec_l1Bits.l0 k1 a0 a1 a2 (wrap64 (x7_1 + (shl .i64 (Int.tmod (wrap64 ((Int.tmod (ji8) 2) + (Int.tmod (ji11) 2))) 2) (ji6)))) (wrap64 (x8_1 + 1))) else (spec_l1Bits.l0 k1 a0 a1 a2 (wrap64 (x7_1 + (shl .i64 (wrap64 ((Int.tmod (ji8) 2) * (Int.tmod (ji11) 2))) (ji6)))) (wrap64 (x8_1 + 1))))) = some r := by first | (rw [hji11] at H; exact H) | (simp only [hji11] at H ⊢; exact H)
     (try rw [hji11] at A5)
     (try rw [hji11] at A9)
     have hji11_ : (t373 / 2 ^ min (ji6).toNat 64) = ji11 := hji11
     have hji11z : (ji6) ≤ 64 → (t373 / 2 ^ (ji6).toNat) = ji11 := shr_small hji11
     by_cases c12 : a0 = 7
     ·rw [if_pos c12] at H
      have c12b0 : (a0 == 7) = true := beq_iff_eq.mpr c12
      have c12b1 : (a0 != 7) = false := bne_eq_false_iff_eq.mpr c12
      clear c12
      have c13b0 := eq_true (oz : 0 ≤ (ji6))
      obtain ⟨ji14, hji14⟩ : ∃ j_ : Int, (shl .i64 (wrap64 ((wrap64 ((Int.tmod (ji8) 2) + (Int.tmod (ji11) 2))) - (wrap64 ((Int.tmod (ji8) 2) * (Int.tmod (ji11) 2))))) (ji6)) = j_ := ⟨_, rfl⟩
      replace H : (spec_l1Bits.l0 k1 a0 a1 a2 (wrap64 (x7_1 + (ji14))) (wrap64 (x8_1 + 1))) = some r := by first | (rw [hji14] at H; exact H) | (simp only [hji14] at H ⊢; exact H)
      (try rw [hji14] at A5)
      (try rw [hji14] at A9)
      have hji14_ : (IntKind.i64.wrap ((wrap64 ((wrap64 ((Int.tmod (ji8) 2) + (Int.tmod (ji11) 2))) - (wrap64 ((Int.tmod (ji8) 2) * (Int.tmod (ji11) 2))))) * 2 ^ min (ji6).toNat 64)) = ji14 := hji14
      have hji14z : (ji6) ≤ 64 → (IntKind.i64.wrap ((wrap64 ((wrap64 ((Int.tmod (ji8) 2) + (Int.tmod (ji11) 2))) - (wrap64 ((Int.tmod (ji8) 2) * (Int.tmod (ji11) 2))))) * 2 ^ (ji6).toNat)) = ji14 := shl_small hji14
      have hji14y : (wrap64 ((wrap64 ((wrap64 ((Int.tmod (ji8) 2) + (Int.tmod (ji11) 2))) - (wrap64 ((Int.tmod (ji8) 2) * (Int.tmod (ji11) 2))))) * 2 ^ min (ji6).toNat 64)) = ji14 := (i64_w _).symm.trans hji14_
      have hji14x : (ji6) ≤ 64 → (wrap64 ((wrap64 ((wrap64 ((Int.tmod (ji8) 2) + (Int.tmod (ji11) 2))) - (wrap64 ((Int.tmod (ji8) 2) * (Int.tmod (ji11) 2))))) * 2 ^ (ji6).toNat)) = ji14 := fun h_ => (i64_w _).symm.trans (hji14z h_)
      have H' := am H
      clear H
      go_wp2_with (first | ((with_reducible refine gate_callee (f := 100) rfl ?_); refine goesL_ (some 17) rfl rfl Try.func100 (by kernel_rfl) rfl #[.int .i64 a1, .int .i64 4294967296] rfl mz ?_; (with_reducible refine (spec_l1Mod.calls a1 4294967296 t372 _ A5.out).mono ?_); rintro e w' ⟨rfl, ⟨nd, rfl⟩⟩; refine ⟨_, rfl, ?_⟩) | ((with_reducible refine gate_callee (f := 100) rfl ?_); refine goesL_ (some 23) rfl rfl Try.func100 (by kernel_rfl) rfl #[.int .i64 a2, .int .i64 4294967296] rfl mz ?_; (with_reducible refine (spec_l1Mod.calls a2 4294967296 t373 _ A9.out).mono ?_); rintro e w' ⟨rfl, ⟨nd, rfl⟩⟩; refine ⟨_, rfl, ?_⟩))
      go_roundg k1
      case measure => have := HK1.out; omega
      case rel => exact ⟨(wrap64 (x7_1 + (ji14))), (wrap64 (x8_1 + 1)), (by first | rfl | (simp; done) | (simp only [← hji14] <;> (first | rfl | simp)) | (simp [*]; done)), (by first | rfl | (simp; done) | (simp [*]; done)), H', ⟨by have := HK1.out; omega⟩, by repeat (first | exact Drawn0.refl _ | apply Drawn0.step)⟩
     ·rw [if_neg c12] at H
      have c12b0 : (a0 == 7) = false := beq_eq_false_iff_ne.mpr c12
      have c12b1 : (a0 != 7) = true := bne_iff_ne.mpr c12
      by_cases c15 : a0 = 8
      ·rw [if_pos c15] at H
       have c15b0 : (a0 == 8) = true := beq_iff_eq.mpr c15
       have c15b1 : (a0 != 8) = false := bne_eq_false_iff_eq.mpr c15
       clear c15
       have c16b0 := eq_true (oz : 0 ≤ (ji6))
       obtain ⟨ji17, hji17⟩ : ∃ j_ : Int, (shl .i64 (Int.tmod (wrap64 ((Int.tmod (ji8) 2) + (Int.tmod (ji11) 2))) 2) (ji6)) = j_ := ⟨_, rfl⟩
       replace H : (spec_l1Bits.l0 k1 a0 a1 a2 (wrap64 (x7_1 + (ji17))) (wrap64 (x8_1 + 1))) = some r := by first | (rw [hji17] at H; exact H) | (simp only [hji17] at H ⊢; exact H)
       (try rw [hji17] at A5)
       (try rw [hji17] at A9)
       have hji17_ : (IntKind.i64.wrap ((Int.tmod (wrap64 ((Int.tmod (ji8) 2) + (Int.tmod (ji11) 2))) 2) * 2 ^ min (ji6).toNat 64)) = ji17 := hji17
       have hji17z : (ji6) ≤ 64 → (IntKind.i64.wrap ((Int.tmod (wrap64 ((Int.tmod (ji8) 2) + (Int.tmod (ji11) 2))) 2) * 2 ^ (ji6).toNat)) = ji17 := shl_small hji17
       have hji17y : (wrap64 ((Int.tmod (wrap64 ((Int.tmod (ji8) 2) + (Int.tmod (ji11) 2))) 2) * 2 ^ min (ji6).toNat 64)) = ji17 := (i64_w _).symm.trans hji17_
       have hji17x : (ji6) ≤ 64 → (wrap64 ((Int.tmod (wrap64 ((Int.tmod (ji8) 2) + (Int.tmod (ji11) 2))) 2) * 2 ^ (ji6).toNat)) = ji17 := fun h_ => (i64_w _).symm.trans (hji17z h_)
       have H' := am H
       clear H
       go_wp2_with (first | ((with_reducible refine gate_callee (f := 100) rfl ?_); refine goesL_ (some 17) rfl rfl Try.func100 (by kernel_rfl) rfl #[.int .i64 a1, .int .i64 4294967296] rfl mz ?_; (with_reducible refine (spec_l1Mod.calls a1 4294967296 t372 _ A5.out).mono ?_); rintro e w' ⟨rfl, ⟨nd, rfl⟩⟩; refine ⟨_, rfl, ?_⟩) | ((with_reducible refine gate_callee (f := 100) rfl ?_); refine goesL_ (some 23) rfl rfl Try.func100 (by kernel_rfl) rfl #[.int .i64 a2, .int .i64 4294967296] rfl mz ?_; (with_reducible refine (spec_l1Mod.calls a2 4294967296 t373 _ A9.out).mono ?_); rintro e w' ⟨rfl, ⟨nd, rfl⟩⟩; refine ⟨_, rfl, ?_⟩))
       go_roundg k1
       case measure => have := HK1.out; omega
       case rel => exact ⟨(wrap64 (x7_1 + (ji17))), (wrap64 (x8_1 + 1)), (by first | rfl | (simp; done) | (simp only [← hji17] <;> (first | rfl | simp)) | (simp [*]; done)), (by first | rfl | (simp; done) | (simp [*]; done)), H', ⟨by have := HK1.out; omega⟩, by repeat (first | exact Drawn0.refl _ | apply Drawn0.step)⟩
      ·rw [if_neg c15] at H
       have c15b0 : (a0 == 8) = false := beq_eq_false_iff_ne.mpr c15
       have c15b1 : (a0 != 8) = true := bne_iff_ne.mpr c15
       have c18b0 := eq_true (oz : 0 ≤ (ji6))
       obtain ⟨ji19, hji19⟩ : ∃ j_ : Int, (shl .i64 (wrap64 ((Int.tmod (ji8) 2) * (Int.tmod (ji11) 2))) (ji6)) = j_ := ⟨_, rfl⟩
       replace H : (spec_l1Bits.l0 k1 a0 a1 a2 (wrap64 (x7_1 + (ji19))) (wrap64 (x8_1 + 1))) = some r := by first | (rw [hji19] at H; exact H) | (simp only [hji19] at H ⊢; exact H)
       (try rw [hji19] at A5)
       (try rw [hji19] at A9)
       have hji19_ : (IntKind.i64.wrap ((wrap64 ((Int.tmod (ji8) 2) * (Int.tmod (ji11) 2))) * 2 ^ min (ji6).toNat 64)) = ji19 := hji19
       have hji19z : (ji6) ≤ 64 → (IntKind.i64.wrap ((wrap64 ((Int.tmod (ji8) 2) * (Int.tmod (ji11) 2))) * 2 ^ (ji6).toNat)) = ji19 := shl_small hji19
       have hji19y : (wrap64 ((wrap64 ((Int.tmod (ji8) 2) * (Int.tmod (ji11) 2))) * 2 ^ min (ji6).toNat 64)) = ji19 := (i64_w _).symm.trans hji19_
       have hji19x : (ji6) ≤ 64 → (wrap64 ((wrap64 ((Int.tmod (ji8) 2) * (Int.tmod (ji11) 2))) * 2 ^ (ji6).toNat)) = ji19 := fun h_ => (i64_w _).symm.trans (hji19z h_)
       have H' := am H
       clear H
       go_wp2_with (first | ((with_reducible refine gate_callee (f := 100) rfl ?_); refine goesL_ (some 17) rfl rfl Try.func100 (by kernel_rfl) rfl #[.int .i64 a1, .int .i64 4294967296] rfl mz ?_; (with_reducible refine (spec_l1Mod.calls a1 4294967296 t372 _ A5.out).mono ?_); rintro e w' ⟨rfl, ⟨nd, rfl⟩⟩; refine ⟨_, rfl, ?_⟩) | ((with_reducible refine gate_callee (f := 100) rfl ?_); refine goesL_ (some 23) rfl rfl Try.func100 (by kernel_rfl) rfl #[.int .i64 a2, .int .i64 4294967296] rfl mz ?_; (with_reducible refine (spec_l1Mod.calls a2 4294967296 t373 _ A9.out).mono ?_); rintro e w' ⟨rfl, ⟨nd, rfl⟩⟩; refine ⟨_, rfl, ?_⟩))
       go_roundg k1
       case measure => have := HK1.out; omega
       case rel => exact ⟨(wrap64 (x7_1 + (ji19))), (wrap64 (x8_1 + 1)), (by first | rfl | (simp; done) | (simp only [← hji19] <;> (first | rfl | simp)) | (simp [*]; done)), (by first | rfl | (simp; done) | (simp [*]; done)), H', ⟨by have := HK1.out; omega⟩, by repeat (first | exact Drawn0.refl _ | apply Drawn0.step)⟩
    ·rw [if_neg c7] at H
     exact absurd H (by simp)
   ·rw [if_neg c4] at H
    have c4b0 : decide (x8_1 < 32) = false := decide_eq_false c4
    clear c4
    replace H := Option.bind_eq_some_iff.mp H
    obtain ⟨t371, A200, H⟩ := H
    replace H : (some t371) = some r := H
    have A20 := am A200
    clear A200
    obtain rfl := Option.some.inj H
    go_wp2_with (first | ((with_reducible refine gate_callee (f := 64) rfl ?_); refine goesL_ (some 53) rfl rfl Try.func64 (by kernel_rfl) rfl #[.int .i64 x7_1] rfl mz ?_; (with_reducible refine (spec_NumWrap.calls x7_1 t371 _ A20.out).mono ?_); rintro e w' ⟨rfl, ⟨nd, rfl⟩⟩; refine ⟨_, rfl, ?_⟩))
    go_ret
    exact ⟨by first | rfl | (simp; done) | (simp [*]; done), by repeat (first | exact Drawn0.refl _ | apply Drawn0.step)⟩

/-! ### spec_l1Floor: function 99 -/
def spec_l1Floor.f (a0 : Int) (a1 : Int) : Option (Int) := (spec_l1Mod.f a0 a1).bind fun t374 => (if a1 = 0 then (none) else (some (wrap64 (Int.tdiv (wrap64 (a0 - t374)) a1))))
set_option maxHeartbeats 8000000 in
set_option maxRecDepth 100000 in
theorem spec_l1Floor.calls (a0 : Int) (a1 : Int) (r : Int) (w : World) (h : spec_l1Floor.f a0 a1 = some r) :
  Calls Try.prog 99 #[.int .i64 a0, .int .i64 a1] w fun e w' => e = .returned (.int .i64 r) ∧ Drawn0 w w' := by
 have H : ((spec_l1Mod.f a0 a1).bind fun t374 => (if a1 = 0 then (none) else (some (wrap64 (Int.tdiv (wrap64 (a0 - t374)) a1))))) = some r := h
 clear h
 replace H := Option.bind_eq_some_iff.mp H
 obtain ⟨t374, A30, H⟩ := H
 replace H : (if a1 = 0 then (none) else (some (wrap64 (Int.tdiv (wrap64 (a0 - t374)) a1)))) = some r := H
 have A3 := am A30
 clear A30
 by_cases c4 : a1 = 0
 ·rw [if_pos c4] at H
  exact absurd H (by simp)
 ·rw [if_neg c4] at H
  have c4b0 : (a1 == 0) = false := beq_eq_false_iff_ne.mpr c4
  have c4b1 : (a1 != 0) = true := bne_iff_ne.mpr c4
  obtain rfl := Option.some.inj H
  go_enter Try.func99, Try.ntmps99
  go_wp2_with (first | ((with_reducible refine gate_callee (f := 100) rfl ?_); refine goesL_ (some 8) rfl rfl Try.func100 (by kernel_rfl) rfl #[.int .i64 a0, .int .i64 a1] rfl mz ?_; (with_reducible refine (spec_l1Mod.calls a0 a1 t374 _ A3.out).mono ?_); rintro e w' ⟨rfl, ⟨nd, rfl⟩⟩; refine ⟨_, rfl, ?_⟩))
  go_ret
  exact ⟨by first | rfl | (simp; done) | (simp [*]; done), by repeat (first | exact Drawn0.refl _ | apply Drawn0.step)⟩

end Go.Proofs.Ythbkakcchgnhpaa.PFnRangeOne
