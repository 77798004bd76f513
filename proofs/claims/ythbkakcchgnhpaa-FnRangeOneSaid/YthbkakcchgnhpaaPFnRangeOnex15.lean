/- Written by this session's own driver (wip/dprint.py): the functions that the law FnRangeOne reaches, as Lean functions, each with its contract. -/
import Derived.Test.YthbkakcchgnhpaaPFnRangeOnex0
import Derived.Test.YthbkakcchgnhpaaPFnRangeOnex12
import Derived.Test.YthbkakcchgnhpaaPFnRangeOnex14
import Derived.Test.YthbkakcchgnhpaaSv
namespace Go.Proofs.Ythbkakcchgnhpaa.PFnRangeOne
open Go.RowKit Go.Proofs.YthbkakcchgnhpaaV.PrintWords Go.Proofs.YthbkakcchgnhpaaV.PrintLast Go.Proofs.YthbkakcchgnhpaaV.PrintMore Go.Proofs.YthbkakcchgnhpaaSv
attribute [local go_sem] max2_int min2_int max_two min_two max_three min_three max_four min_four   -- for this text's walks alone
set_option linter.unusedVariables false
set_option linter.unusedSimpArgs false

/-! ### spec_l1Exact: function 63 -/
mutual
def spec_l1Exact.j0 : Nat → Int → Int → Int → Bool → Option (Int)
 | 0, _, _, _, _ => none
 | k + 1, x0, x1, x2, x12 => if x12 = true then (some (wrap64 (x1 + x2))) else (if x0 = 2 then (spec_l1Exact.j1 k x0 x1 x2 true) else (spec_l1Exact.j1 k x0 x1 x2 (x0 == 12)))
def spec_l1Exact.j1 : Nat → Int → Int → Int → Bool → Option (Int)
 | 0, _, _, _, _ => none
 | k + 1, x0, x1, x2, x21 => if x21 = true then (some (wrap64 (x1 - x2))) else (if x0 = 3 then (spec_l1Exact.j2 k x0 x1 x2 true) else (spec_l1Exact.j2 k x0 x1 x2 (x0 == 13)))
def spec_l1Exact.j2 : Nat → Int → Int → Int → Bool → Option (Int)
 | 0, _, _, _, _ => none
 | k + 1, x0, x1, x2, x30 => if x30 = true then (some (wrap64 (x1 * x2))) else (if x0 = 4 then (if x2 = 0 then (none) else (some (wrap64 (Int.tdiv x1 x2)))) else (if x0 = 5 then (if x2 = 0 then (none) else (some (Int.tmod x1 x2))) else (if x0 = 9 then ((spec_l1Power.f k x2).bind fun t375 => (some (wrap64 (x1 * t375)))) else (if x0 = 10 then ((spec_l1Power.f k x2).bind fun t376 => ((spec_l1Floor.f x1 t376).bind fun t377 => (some t377))) else ((spec_l1Bits.f k x0 x1 x2).bind fun t378 => (some t378))))))
end
def spec_l1Exact.f (k : Nat) (a0 : Int) (a1 : Int) (a2 : Int) : Option (Int) := if a0 = 1 then (spec_l1Exact.j0 k a0 a1 a2 true) else (spec_l1Exact.j0 k a0 a1 a2 (a0 == 11))
theorem spec_l1Exact.mono_l : ∀ k, (∀ y0 y1 y2 y3, LeO (spec_l1Exact.j0 k y0 y1 y2 y3) (spec_l1Exact.j0 (k + 1) y0 y1 y2 y3)) ∧ (∀ y0 y1 y2 y3, LeO (spec_l1Exact.j1 k y0 y1 y2 y3) (spec_l1Exact.j1 (k + 1) y0 y1 y2 y3)) ∧ (∀ y0 y1 y2 y3, LeO (spec_l1Exact.j2 k y0 y1 y2 y3) (spec_l1Exact.j2 (k + 1) y0 y1 y2 y3))
 | 0 => ⟨fun _ _ _ _ r h => by simp [spec_l1Exact.j0] at h, fun _ _ _ _ r h => by simp [spec_l1Exact.j1] at h, fun _ _ _ _ r h => by simp [spec_l1Exact.j2] at h⟩
 | k + 1 => by
  obtain ⟨ih0, ih1, ih2⟩ := spec_l1Exact.mono_l k
  refine ⟨?_, ?_, ?_⟩
  ·intro y0 y1 y2 y3
   unfold spec_l1Exact.j0
   repeat' first
   | (with_reducible exact ih0 _ _ _ _)
   | (with_reducible exact ih1 _ _ _ _)
   | (with_reducible exact ih2 _ _ _ _)
   | (with_reducible exact spec_l1Bits.mono _ _ _ _)
   | (with_reducible exact spec_l1Power.mono _ _)
   | (with_reducible exact LeO.refl _)
   | (with_reducible exact LeO.none _)
   | (with_reducible refine LeO.ite ?_ ?_)
   | (with_reducible refine LeO.bind ?_ (fun _ => ?_))
   | exact ih0 _ _ _ _
   | exact ih1 _ _ _ _
   | exact ih2 _ _ _ _
   | exact spec_l1Bits.mono _ _ _ _
   | exact spec_l1Power.mono _ _
   | exact LeO.none _
   | refine LeO.ite ?_ ?_
   | refine LeO.bind ?_ (fun _ => ?_)
  ·intro y0 y1 y2 y3
   unfold spec_l1Exact.j1
   repeat' first
   | (with_reducible exact ih0 _ _ _ _)
   | (with_reducible exact ih1 _ _ _ _)
   | (with_reducible exact ih2 _ _ _ _)
   | (with_reducible exact spec_l1Bits.mono _ _ _ _)
   | (with_reducible exact spec_l1Power.mono _ _)
   | (with_reducible exact LeO.refl _)
   | (with_reducible exact LeO.none _)
   | (with_reducible refine LeO.ite ?_ ?_)
   | (with_reducible refine LeO.bind ?_ (fun _ => ?_))
   | exact ih0 _ _ _ _
   | exact ih1 _ _ _ _
   | exact ih2 _ _ _ _
   | exact spec_l1Bits.mono _ _ _ _
   | exact spec_l1Power.mono _ _
   | exact LeO.none _
   | refine LeO.ite ?_ ?_
   | refine LeO.bind ?_ (fun _ => ?_)
  ·intro y0 y1 y2 y3
   unfold spec_l1Exact.j2
   repeat' first
   | (with_reducible exact ih0 _ _ _ _)
   | (with_reducible exact ih1 _ _ _ _)
   | (with_reducible exact ih2 _ _ _ _)
   | (with_reducible exact spec_l1Bits.mono _ _ _ _)
   | (with_reducible exact spec_l1Power.mono _ _)
   | (with_reducible exact LeO.refl _)
   | (with_reducible exact LeO.none _)
   | (with_reducible refine LeO.ite ?_ ?_)
   | (with_reducible refine LeO.bind ?_ (fun _ => ?_))
   | exact ih0 _ _ _ _
   | exact ih1 _ _ _ _
   | exact ih2 _ _ _ _
   | exact spec_l1Bits.mono _ _ _ _
   | exact spec_l1Power.mono _ _
   | exact LeO.none _
   | refine LeO.ite ?_ ?_
   | refine LeO.bind ?_ (fun _ => ?_)
theorem spec_l1Exact.mono : ∀ a0 a1 a2 k, LeO (spec_l1Exact.f k a0 a1 a2) (spec_l1Exact.f (k + 1) a0 a1 a2) := by
 intro a0 a1 a2 k
 obtain ⟨ih0, ih1, ih2⟩ := spec_l1Exact.mono_l k
 unfold spec_l1Exact.f
 repeat' first
   | (with_reducible exact ih0 _ _ _ _)
   | (with_reducible exact ih1 _ _ _ _)
   | (with_reducible exact ih2 _ _ _ _)
   | (with_reducible exact spec_l1Bits.mono _ _ _ _)
   | (with_reducible exact spec_l1Power.mono _ _)
   | (with_reducible exact LeO.refl _)
   | (with_reducible exact LeO.none _)
   | (with_reducible refine LeO.ite ?_ ?_)
   | (with_reducible refine LeO.bind ?_ (fun _ => ?_))
   | exact ih0 _ _ _ _
   | exact ih1 _ _ _ _
   | exact ih2 _ _ _ _
   | exact spec_l1Bits.mono _ _ _ _
   | exact spec_l1Power.mono _ _
   | exact LeO.none _
   | refine LeO.ite ?_ ?_
   | refine LeO.bind ?_ (fun _ => ?_)
set_option maxHeartbeats 8000000 in
set_option maxRecDepth 100000 in
theorem spec_l1Exact.calls (k : Nat) (a0 : Int) (a1 : Int) (a2 : Int) (r : Int) (w : World) (h : spec_l1Exact.f k a0 a1 a2 = some r) :
  Calls Try.prog 63 #[.int .i64 a0, .int .i64 a1, .int .i64 a2] w fun e w' => e = .returned (.int .i64 r) ∧ Drawn0 w w' := by
 have H : (if a0 = 1 then (spec_l1Exact.j0 k a0 a1 a2 true) else (spec_l1Exact.j0 k a0 a1 a2 (a0 == 11))) = some r := h
 clear h
 have HC4 := am H
 clear H
 go_enter Try.func63, Try.ntmps63
 go_upto_region 1 with (fail)
 go_cut [12] (fun v12 wc => ∃ (kq : Nat) (x12_3 : Bool), v12 = .bool x12_3 ∧ Aside0 (spec_l1Exact.j0 kq a0 a1 a2 x12_3 = some r) ∧ Aside0 (kq ≤ k) ∧ Drawn0 w wc)
 case first =>
  have H := HC4.out
  clear HC4
  by_cases c5 : a0 = 1
  ·rw [if_pos c5] at H
   have c5b0 : (a0 == 1) = true := beq_iff_eq.mpr c5
   have c5b1 : (a0 != 1) = false := bne_eq_false_iff_eq.mpr c5
   clear c5
   (first | rw [c5b0] | (simp only [i64_w, i32_w]; rw [c5b0]) | skip)
   have H' := am H
   clear H
   go_wp2
   go_meet
   case rel => exact ⟨_, (true), (by first | rfl | (simp; done) | (simp [*]; done)), H', ⟨by first | omega | exact Nat.le_refl _⟩, by repeat (first | exact Drawn0.refl _ | apply Drawn0.step)⟩
  ·rw [if_neg c5] at H
   have c5b0 : (a0 == 1) = false := beq_eq_false_iff_ne.mpr c5
   have c5b1 : (a0 != 1) = true := bne_iff_ne.mpr c5
   (first | rw [c5b0] | (simp only [i64_w, i32_w]; rw [c5b0]) | skip)
   have H' := am H
   clear H
   go_wp2
   go_meet
   case rel => exact ⟨_, ((a0 == 11)), (by first | rfl | (simp; done) | (simp [*]; done)), H', ⟨by first | omega | exact Nat.le_refl _⟩, by repeat (first | exact Drawn0.refl _ | apply Drawn0.step)⟩
 case rest =>
  clear HC4
  try clear p2
  try clear c5
  try clear c5b0
  try clear c5b1
  obtain ⟨kq, x12_3, rfl, HA, HJ3, ⟨mc3, rfl⟩⟩ := hcut
  cases kq with
  | zero => exact absurd HA.out (by simp [spec_l1Exact.j0])
  | succ kj3 =>
   have H := HA.out
   clear HA
   simp only [spec_l1Exact.j0] at H
   by_cases c6 : x12_3 = true
   ·subst c6
    have H1 : (some (wrap64 (a1 + a2))) = some r := by rw [if_pos rfl] at H; exact H
    clear H
    have H := H1
    clear H1
    obtain rfl := Option.some.inj H
    go_wp2
    go_ret
    exact ⟨by first | rfl | (simp; done) | (simp [*]; done), by repeat (first | exact Drawn0.refl _ | apply Drawn0.step)⟩
   ·replace c6 := Bool.eq_false_iff.mpr c6
    subst c6
    have H1 : (if a0 = 2 then (spec_l1Exact.j1 kj3 a0 a1 a2 true) else (spec_l1Exact.j1 kj3 a0 a1 a2 (a0 == 12))) = some r := by rw [if_neg (show ¬ (false = true) by decide)] at H; exact H
    clear H
    have H := H1
    clear H1
    have HC7 := am H
    clear H
    go_upto_region 3 with (fail)
    go_cut [21] (fun v21 wc => ∃ (kq : Nat) (x21_6 : Bool), v21 = .bool x21_6 ∧ Aside0 (spec_l1Exact.j1 kq a0 a1 a2 x21_6 = some r) ∧ Aside0 (kq ≤ kj3) ∧ Drawn0 w wc)
    case first =>
     have H := HC7.out
     clear HC7
     by_cases c8 : a0 = 2
     ·rw [if_pos c8] at H
      have c8b0 : (a0 == 2) = true := beq_iff_eq.mpr c8
      have c8b1 : (a0 != 2) = false := bne_eq_false_iff_eq.mpr c8
      clear c8
      (first | rw [c8b0] | (simp only [i64_w, i32_w]; rw [c8b0]) | skip)
      have H' := am H
      clear H
      go_wp2
      go_meet
      case rel => exact ⟨_, (true), (by first | rfl | (simp; done) | (simp [*]; done)), H', ⟨by have := HJ3.out; first | omega | exact Nat.le_refl _⟩, by repeat (first | exact Drawn0.refl _ | apply Drawn0.step)⟩
     ·rw [if_neg c8] at H
      have c8b0 : (a0 == 2) = false := beq_eq_false_iff_ne.mpr c8
      have c8b1 : (a0 != 2) = true := bne_iff_ne.mpr c8
      (first | rw [c8b0] | (simp only [i64_w, i32_w]; rw [c8b0]) | skip)
      have H' := am H
      clear H
      go_wp2
      go_meet
      case rel => exact ⟨_, ((a0 == 12)), (by first | rfl | (simp; done) | (simp [*]; done)), H', ⟨by have := HJ3.out; first | omega | exact Nat.le_refl _⟩, by repeat (first | exact Drawn0.refl _ | apply Drawn0.step)⟩
    case rest =>
     clear HC7
     try clear p2
     try clear c3
     try clear c5
     try clear c5b0
     try clear c5b1
     try clear c6
     try clear p6
     try clear c8
     try clear c8b0
     try clear c8b1
     try clear p2
     obtain ⟨kq, x21_6, rfl, HA, HJ6, ⟨mc6, rfl⟩⟩ := hcut
     cases kq with
     | zero => exact absurd HA.out (by simp [spec_l1Exact.j1])
     | succ kj6 =>
      have H := HA.out
      clear HA
      simp only [spec_l1Exact.j1] at H
      by_cases c9 : x21_6 = true
      ·subst c9
       have H1 : (some (wrap64 (a1 - a2))) = some r := by rw [if_pos rfl] at H; exact H
       clear H
       have H := H1
       clear H1
       obtain rfl := Option.some.inj H
       go_wp2
       go_ret
       exact ⟨by first | rfl | (simp; done) | (simp [*]; done), by repeat (first | exact Drawn0.refl _ | apply Drawn0.step)⟩
      ·replace c9 := Bool.eq_false_iff.mpr c9
       subst c9
       have H1 : (if a0 = 3 then (spec_l1Exact.j2 kj6 a0 a1 a2 true) else (spec_l1Exact.j2 kj6 a0 a1 a2 (a0 == 13))) = some r := by rw [if_neg (show ¬ (false = true) by decide)] at H; exact H
       clear H
       have H := H1
       clear H1
       have HC10 := am H
       clear H
       go_upto_region 5 with (fail)
       go_cut [30] (fun v30 wc => ∃ (kq : Nat) (x30_9 : Bool), v30 = .bool x30_9 ∧ Aside0 (spec_l1Exact.j2 kq a0 a1 a2 x30_9 = some r) ∧ Aside0 (kq ≤ kj6) ∧ Drawn0 w wc)
       case first =>
        have H := HC10.out
        clear HC10
        by_cases c11 : a0 = 3
        ·rw [if_pos c11] at H
         have c11b0 : (a0 == 3) = true := beq_iff_eq.mpr c11
         have c11b1 : (a0 != 3) = false := bne_eq_false_iff_eq.mpr c11
         clear c11
         (first | rw [c11b0] | (simp only [i64_w, i32_w]; rw [c11b0]) | skip)
         have H' := am H
         clear H
         go_wp2
         go_meet
         case rel => exact ⟨_, (true), (by first | rfl | (simp; done) | (simp [*]; done)), H', ⟨by have := HJ3.out; have := HJ6.out; first | omega | exact Nat.le_refl _⟩, by repeat (first | exact Drawn0.refl _ | apply Drawn0.step)⟩
        ·rw [if_neg c11] at H
         have c11b0 : (a0 == 3) = false := beq_eq_false_iff_ne.mpr c11
         have c11b1 : (a0 != 3) = true := bne_iff_ne.mpr c11
         (first | rw [c11b0] | (simp only [i64_w, i32_w]; rw [c11b0]) | skip)
         have H' := am H
         clear H
         go_wp2
         go_meet
         case rel => exact ⟨_, ((a0 == 13)), (by first | rfl | (simp; done) | (simp [*]; done)), H', ⟨by have := HJ3.out; have := HJ6.out; first | omega | exact Nat.le_refl _⟩, by repeat (first | exact Drawn0.refl _ | apply Drawn0.step)⟩
       case rest =>
        clear HC10
        try clear c1
        try clear p2
        try clear c3
        try clear c5
        try clear c5b0
        try clear c5b1
        try clear c6
        try clear p6
        try clear c8
        try clear c8b0
        try clear c8b1
        try clear c9
        try clear c11
        try clear c11b0
        try clear c11b1
        try clear p2
        try clear p6
        obtain ⟨kq, x30_9, rfl, HA, HJ9, ⟨mc9, rfl⟩⟩ := hcut
        cases kq with
        | zero => exact absurd HA.out (by simp [spec_l1Exact.j2])
        | succ kj9 =>
         have H := HA.out
         clear HA
         simp only [spec_l1Exact.j2] at H
         by_cases c12 : x30_9 = true
         ·subst c12
          have H1 : (some (wrap64 (a1 * a2))) = some r := by rw [if_pos rfl] at H; exact H
          clear H
          have H := H1
          clear H1
          obtain rfl := Option.some.inj H
          go_wp2
          go_ret
          exact ⟨by first | rfl | (simp; done) | (simp [*]; done), by repeat (first | exact Drawn0.refl _ | apply Drawn0.step)⟩
         ·replace c12 := Bool.eq_false_iff.mpr c12
          subst c12
          have H1 : (if a0 = 4 then (if a2 = 0 then (none) else (some (wrap64 (Int.tdiv a1 a2)))) else (if a0 = 5 then (if a2 = 0 then (none) else (some (Int.tmod a1 a2))) else (if a0 = 9 then ((spec_l1Power.f kj9 a2).bind fun t375 => (some (wrap64 (a1 * t375)))) else (if a0 = 10 then ((spec_l1Power.f kj9 a2).bind fun t376 => ((spec_l1Floor.f a1 t376).bind fun t377 => (some t377))) else ((spec_l1Bits.f kj9 a0 a1 a2).bind fun t378 => (some t378)))))) = some r := by rw [if_neg (show ¬ (false = true) by decide)] at H; exact H
          clear H
          have H := H1
          clear H1
          by_cases c13 : a0 = 4
          ·rw [if_pos c13] at H
           have c13b0 : (a0 == 4) = true := beq_iff_eq.mpr c13
           have c13b1 : (a0 != 4) = false := bne_eq_false_iff_eq.mpr c13
           clear c13
           by_cases c14 : a2 = 0
           ·rw [if_pos c14] at H
            exact absurd H (by simp)
           ·rw [if_neg c14] at H
            have c14b0 : (a2 == 0) = false := beq_eq_false_iff_ne.mpr c14
            have c14b1 : (a2 != 0) = true := bne_iff_ne.mpr c14
            obtain rfl := Option.some.inj H
            go_wp2
            go_ret
            exact ⟨by first | rfl | (simp; done) | (simp [*]; done), by repeat (first | exact Drawn0.refl _ | apply Drawn0.step)⟩
          ·rw [if_neg c13] at H
           have c13b0 : (a0 == 4) = false := beq_eq_false_iff_ne.mpr c13
           have c13b1 : (a0 != 4) = true := bne_iff_ne.mpr c13
           by_cases c15 : a0 = 5
           ·rw [if_pos c15] at H
            have c15b0 : (a0 == 5) = true := beq_iff_eq.mpr c15
            have c15b1 : (a0 != 5) = false := bne_eq_false_iff_eq.mpr c15
            clear c15
            by_cases c16 : a2 = 0
            ·rw [if_pos c16] at H
             exact absurd H (by simp)
            ·rw [if_neg c16] at H
             have c16b0 : (a2 == 0) = false := beq_eq_false_iff_ne.mpr c16
             have c16b1 : (a2 != 0) = true := bne_iff_ne.mpr c16
             obtain rfl := Option.some.inj H
             go_wp2
             go_ret
             exact ⟨by first | rfl | (simp; done) | (simp [*]; done), by repeat (first | exact Drawn0.refl _ | apply Drawn0.step)⟩
           ·rw [if_neg c15] at H
            have c15b0 : (a0 == 5) = false := beq_eq_false_iff_ne.mpr c15
            have c15b1 : (a0 != 5) = true := bne_iff_ne.mpr c15
            by_cases c17 : a0 = 9
            ·rw [if_pos c17] at H
             have c17b0 : (a0 == 9) = true := beq_iff_eq.mpr c17
             have c17b1 : (a0 != 9) = false := bne_eq_false_iff_eq.mpr c17
             clear c17
             replace H := Option.bind_eq_some_iff.mp H
             obtain ⟨t375, A180, H⟩ := H
             replace H : (some (wrap64 (a1 * t375))) = some r := H
             have A18 := am A180
             clear A180
             obtain rfl := Option.some.inj H
             go_wp2_with (first | ((with_reducible refine gate_callee (f := 98) rfl ?_); refine goesL_ (some 48) rfl rfl Try.func98 (by kernel_rfl) rfl #[.int .i64 a2] rfl mz ?_; (with_reducible refine (spec_l1Power.calls kj9 a2 t375 _ A18.out).mono ?_); rintro e w' ⟨rfl, ⟨nd, rfl⟩⟩; refine ⟨_, rfl, ?_⟩))
             go_ret
             exact ⟨by first | rfl | (simp; done) | (simp [*]; done), by repeat (first | exact Drawn0.refl _ | apply Drawn0.step)⟩
            ·rw [if_neg c17] at H
             have c17b0 : (a0 == 9) = false := beq_eq_false_iff_ne.mpr c17
             have c17b1 : (a0 != 9) = true := bne_iff_ne.mpr c17
             by_cases c19 : a0 = 10
             ·rw [if_pos c19] at H
              have c19b0 : (a0 == 10) = true := beq_iff_eq.mpr c19
              have c19b1 : (a0 != 10) = false := bne_eq_false_iff_eq.mpr c19
              clear c19
              replace H := Option.bind_eq_some_iff.mp H
              obtain ⟨t376, A200, H⟩ := H
              replace H : ((spec_l1Floor.f a1 t376).bind fun t377 => (some t377)) = some r := H
              have A20 := am A200
              clear A200
              replace H := Option.bind_eq_some_iff.mp H
              obtain ⟨t377, A210, H⟩ := H
              replace H : (some t377) = some r := H
              have A21 := am A210
              clear A210
              obtain rfl := Option.some.inj H
              go_wp2_with (first | ((with_reducible refine gate_callee (f := 98) rfl ?_); refine goesL_ (some 54) rfl rfl Try.func98 (by kernel_rfl) rfl #[.int .i64 a2] rfl mz ?_; (with_reducible refine (spec_l1Power.calls kj9 a2 t376 _ A20.out).mono ?_); rintro e w' ⟨rfl, ⟨nd, rfl⟩⟩; refine ⟨_, rfl, ?_⟩) | ((with_reducible refine gate_callee (f := 99) rfl ?_); refine goesL_ (some 55) rfl rfl Try.func99 (by kernel_rfl) rfl #[.int .i64 a1, .int .i64 t376] rfl mz ?_; (with_reducible refine (spec_l1Floor.calls a1 t376 t377 _ A21.out).mono ?_); rintro e w' ⟨rfl, ⟨nd, rfl⟩⟩; refine ⟨_, rfl, ?_⟩))
              go_ret
              exact ⟨by first | rfl | (simp; done) | (simp [*]; done), by repeat (first | exact Drawn0.refl _ | apply Drawn0.step)⟩
             ·rw [if_neg c19] at H
              have c19b0 : (a0 == 10) = false := beq_eq_false_iff_ne.mpr c19
              have c19b1 : (a0 != 10) = true := bne_iff_ne.mpr c19
              replace H := Option.bind_eq_some_iff.mp H
              obtain ⟨t378, A220, H⟩ := H
              replace H : (some t378) = some r := H
              have A22 := am A220
              clear A220
              obtain rfl := Option.some.inj H
              go_wp2_with (first | ((with_reducible refine gate_callee (f := 90) rfl ?_); refine goesL_ (some 59) rfl rfl Try.func90 (by kernel_rfl) rfl #[.int .i64 a0, .int .i64 a1, .int .i64 a2] rfl mz ?_; (with_reducible refine (spec_l1Bits.calls kj9 a0 a1 a2 t378 _ A22.out).mono ?_); rintro e w' ⟨rfl, ⟨nd, rfl⟩⟩; refine ⟨_, rfl, ?_⟩))
              go_ret
              exact ⟨by first | rfl | (simp; done) | (simp [*]; done), by repeat (first | exact Drawn0.refl _ | apply Drawn0.step)⟩

/-! ### spec_NumDo: function 18 -/
mutual
def spec_NumDo.j0 : Nat → Int → Int → Int → Bool → Option (Int × Int)
 | 0, _, _, _, _ => none
 | k + 1, x0, x1, x2, x21 => if x21 = true then (some (0, 0)) else (if x0 = 4 then (spec_NumDo.j1 k x0 x1 x2 (x2 == 0)) else (if x0 = 5 then (spec_NumDo.j1 k x0 x1 x2 (x2 == 0)) else (spec_NumDo.j1 k x0 x1 x2 false)))
def spec_NumDo.j1 : Nat → Int → Int → Int → Bool → Option (Int × Int)
 | 0, _, _, _, _ => none
 | k + 1, x0, x1, x2, x31 => if x31 = true then (some (0, 2)) else (if x0 = 9 then ((spec_l1In.f x2 0 31).bind fun t382 => (spec_NumDo.j2 k x0 x1 x2 (!t382))) else (if x0 = 10 then ((spec_l1In.f x2 0 31).bind fun t383 => (spec_NumDo.j2 k x0 x1 x2 (!t383))) else (spec_NumDo.j2 k x0 x1 x2 false)))
def spec_NumDo.j2 : Nat → Int → Int → Int → Bool → Option (Int × Int)
 | 0, _, _, _, _ => none
 | k + 1, x0, x1, x2, x42 => if x42 = true then (some (0, 3)) else ((spec_l1Exact.f k x0 x1 x2).bind fun t384 => (if x0 ≥ 11 then ((spec_NumWrap.f t384).bind fun t385 => (some (t385, 0))) else ((spec_NumOk.f t384).bind fun t386 => (if t386 = true then (some (t384, 0)) else (some (0, 1))))))
end
def spec_NumDo.f (k : Nat) (a0 : Int) (a1 : Int) (a2 : Int) : Option (Int × Int) := (spec_l1In.f a0 1 13).bind fun t379 => (if t379 = true then ((spec_NumOk.f a1).bind fun t380 => (if t380 = true then ((spec_NumOk.f a2).bind fun t381 => (spec_NumDo.j0 k a0 a1 a2 (!t381))) else (spec_NumDo.j0 k a0 a1 a2 true))) else (spec_NumDo.j0 k a0 a1 a2 true))
theorem spec_NumDo.mono_l : ∀ k, (∀ y0 y1 y2 y3, LeO (spec_NumDo.j0 k y0 y1 y2 y3) (spec_NumDo.j0 (k + 1) y0 y1 y2 y3)) ∧ (∀ y0 y1 y2 y3, LeO (spec_NumDo.j1 k y0 y1 y2 y3) (spec_NumDo.j1 (k + 1) y0 y1 y2 y3)) ∧ (∀ y0 y1 y2 y3, LeO (spec_NumDo.j2 k y0 y1 y2 y3) (spec_NumDo.j2 (k + 1) y0 y1 y2 y3))
 | 0 => ⟨fun _ _ _ _ r h => by simp [spec_NumDo.j0] at h, fun _ _ _ _ r h => by simp [spec_NumDo.j1] at h, fun _ _ _ _ r h => by simp [spec_NumDo.j2] at h⟩
 | k + 1 => by
  obtain ⟨ih0, ih1, ih2⟩ := spec_NumDo.mono_l k
  refine ⟨?_, ?_, ?_⟩
  ·intro y0 y1 y2 y3
   unfold spec_NumDo.j0
   repeat' first
   | (with_reducible exact ih0 _ _ _ _)
   | (with_reducible exact ih1 _ _ _ _)
   | (with_reducible exact ih2 _ _ _ _)
   | (with_reducible exact spec_l1Exact.mono _ _ _ _)
   | (with_reducible exact LeO.refl _)
   | (with_reducible exact LeO.none _)
   | (with_reducible refine LeO.ite ?_ ?_)
   | (with_reducible refine LeO.bind ?_ (fun _ => ?_))
   | exact ih0 _ _ _ _
   | exact ih1 _ _ _ _
   | exact ih2 _ _ _ _
   | exact spec_l1Exact.mono _ _ _ _
   | exact LeO.none _
   | refine LeO.ite ?_ ?_
   | refine LeO.bind ?_ (fun _ => ?_)
  ·intro y0 y1 y2 y3
   unfold spec_NumDo.j1
   repeat' first
   | (with_reducible exact ih0 _ _ _ _)
   | (with_reducible exact ih1 _ _ _ _)
   | (with_reducible exact ih2 _ _ _ _)
   | (with_reducible exact spec_l1Exact.mono _ _ _ _)
   | (with_reducible exact LeO.refl _)
   | (with_reducible exact LeO.none _)
   | (with_reducible refine LeO.ite ?_ ?_)
   | (with_reducible refine LeO.bind ?_ (fun _ => ?_))
   | exact ih0 _ _ _ _
   | exact ih1 _ _ _ _
   | exact ih2 _ _ _ _
   | exact spec_l1Exact.mono _ _ _ _
   | exact LeO.none _
   | refine LeO.ite ?_ ?_
   | refine LeO.bind ?_ (fun _ => ?_)
  ·intro y0 y1 y2 y3
   unfold spec_NumDo.j2
   repeat' first
   | (with_reducible exact ih0 _ _ _ _)
   | (with_reducible exact ih1 _ _ _ _)
   | (with_reducible exact ih2 _ _ _ _)
   | (with_reducible exact spec_l1Exact.mono _ _ _ _)
   | (with_reducible exact LeO.refl _)
   | (with_reducible exact LeO.none _)
   | (with_reducible refine LeO.ite ?_ ?_)
   | (with_reducible refine LeO.bind ?_ (fun _ => ?_))
   | exact ih0 _ _ _ _
   | exact ih1 _ _ _ _
   | exact ih2 _ _ _ _
   | exact spec_l1Exact.mono _ _ _ _
   | exact LeO.none _
   | refine LeO.ite ?_ ?_
   | refine LeO.bind ?_ (fun _ => ?_)
theorem spec_NumDo.mono : ∀ a0 a1 a2 k, LeO (spec_NumDo.f k a0 a1 a2) (spec_NumDo.f (k + 1) a0 a1 a2) := by
 intro a0 a1 a2 k
 obtain ⟨ih0, ih1, ih2⟩ := spec_NumDo.mono_l k
 unfold spec_NumDo.f
 repeat' first
   | (with_reducible exact ih0 _ _ _ _)
   | (with_reducible exact ih1 _ _ _ _)
   | (with_reducible exact ih2 _ _ _ _)
   | (with_reducible exact spec_l1Exact.mono _ _ _ _)
   | (with_reducible exact LeO.refl _)
   | (with_reducible exact LeO.none _)
   | (with_reducible refine LeO.ite ?_ ?_)
   | (with_reducible refine LeO.bind ?_ (fun _ => ?_))
   | exact ih0 _ _ _ _
   | exact ih1 _ _ _ _
   | exact ih2 _ _ _ _
   | exact spec_l1Exact.mono _ _ _ _
   | exact LeO.none _
   | refine LeO.ite ?_ ?_
   | refine LeO.bind ?_ (fun _ => ?_)
set_option maxHeartbeats 8000000 in
set_option maxRecDepth 100000 in
theorem spec_NumDo.calls (k : Nat) (a0 : Int) (a1 : Int) (a2 : Int) (r1 : Int) (r2 : Int) (w : World) (h : spec_NumDo.f k a0 a1 a2 = some (r1, r2)) :
  Calls Try.prog 18 #[.int .i64 a0, .int .i64 a1, .int .i64 a2] w fun e w' => e = .returned (.tuple #[.int .i64 r1, .int .i64 r2]) ∧ Drawn0 w w' := by
 have H : ((spec_l1In.f a0 1 13).bind fun t379 => (if t379 = true then ((spec_NumOk.f a1).bind fun t380 => (if t380 = true then ((spec_NumOk.f a2).bind fun t381 => (spec_NumDo.j0 k a0 a1 a2 (!t381))) else (spec_NumDo.j0 k a0 a1 a2 true))) else (spec_NumDo.j0 k a0 a1 a2 true))) = some (r1, r2) := h
 clear h
 have HC4 := am H
 clear H
 go_enter Try.func18, Try.ntmps18
 go_upto_region 1 with (fail)
 go_cut [21] (fun v21 wc => ∃ (kq : Nat) (x21_3 : Bool), v21 = .bool x21_3 ∧ Aside0 (spec_NumDo.j0 kq a0 a1 a2 x21_3 = some (r1, r2)) ∧ Aside0 (kq ≤ k) ∧ Drawn0 w wc)
 case first =>
  have H := HC4.out
  clear HC4
  replace H := Option.bind_eq_some_iff.mp H
  obtain ⟨t379, A50, H⟩ := H
  replace H : (if t379 = true then ((spec_NumOk.f a1).bind fun t380 => (if t380 = true then ((spec_NumOk.f a2).bind fun t381 => (spec_NumDo.j0 k a0 a1 a2 (!t381))) else (spec_NumDo.j0 k a0 a1 a2 true))) else (spec_NumDo.j0 k a0 a1 a2 true)) = some (r1, r2) := H
  have A5 := am A50
  clear A50
  by_cases c6 : t379 = true
  ·subst c6
   have H1 : ((spec_NumOk.f a1).bind fun t380 => (if t380 = true then ((spec_NumOk.f a2).bind fun t381 => (spec_NumDo.j0 k a0 a1 a2 (!t381))) else (spec_NumDo.j0 k a0 a1 a2 true))) = some (r1, r2) := by rw [if_pos rfl] at H; exact H
   clear H
   have H := H1
   clear H1
   replace H := Option.bind_eq_some_iff.mp H
   obtain ⟨t380, A70, H⟩ := H
   replace H : (if t380 = true then ((spec_NumOk.f a2).bind fun t381 => (spec_NumDo.j0 k a0 a1 a2 (!t381))) else (spec_NumDo.j0 k a0 a1 a2 true)) = some (r1, r2) := H
   have A7 := am A70
   clear A70
   by_cases c8 : t380 = true
   ·subst c8
    have H1 : ((spec_NumOk.f a2).bind fun t381 => (spec_NumDo.j0 k a0 a1 a2 (!t381))) = some (r1, r2) := by rw [if_pos rfl] at H; exact H
    clear H
    have H := H1
    clear H1
    replace H := Option.bind_eq_some_iff.mp H
    obtain ⟨t381, A90, H⟩ := H
    replace H : (spec_NumDo.j0 k a0 a1 a2 (!t381)) = some (r1, r2) := H
    have A9 := am A90
    clear A90
    have H' := am H
    clear H
    go_wp2_with (first | ((with_reducible refine gate_callee (f := 37) rfl ?_); refine goesL_ (some 10) rfl rfl Try.func37 (by kernel_rfl) rfl #[.int .i64 a0, .int .i64 1, .int .i64 13] rfl mz ?_; (with_reducible refine (spec_l1In.calls a0 1 13 true _ A5.out).mono ?_); rintro e w' ⟨rfl, ⟨nd, rfl⟩⟩; refine ⟨_, rfl, ?_⟩) | (go_at_call 19; (with_reducible refine (spec_NumOk.calls a1 true _ A7.out).mono ?_); rintro e w' ⟨rfl, ⟨nd, rfl⟩⟩) | (go_at_call 19; (with_reducible refine (spec_NumOk.calls a2 t381 _ A9.out).mono ?_); rintro e w' ⟨rfl, ⟨nd, rfl⟩⟩))
    go_meet
    case rel => exact ⟨_, (!t381), (by first | rfl | (simp; done) | (simp [*]; done)), H', ⟨by first | omega | exact Nat.le_refl _⟩, by repeat (first | exact Drawn0.refl _ | apply Drawn0.step)⟩
   ·replace c8 := Bool.eq_false_iff.mpr c8
    subst c8
    have H1 : (spec_NumDo.j0 k a0 a1 a2 true) = some (r1, r2) := by rw [if_neg (show ¬ (false = true) by decide)] at H; exact H
    clear H
    have H := H1
    clear H1
    have H' := am H
    clear H
    go_wp2_with (first | ((with_reducible refine gate_callee (f := 37) rfl ?_); refine goesL_ (some 10) rfl rfl Try.func37 (by kernel_rfl) rfl #[.int .i64 a0, .int .i64 1, .int .i64 13] rfl mz ?_; (with_reducible refine (spec_l1In.calls a0 1 13 true _ A5.out).mono ?_); rintro e w' ⟨rfl, ⟨nd, rfl⟩⟩; refine ⟨_, rfl, ?_⟩) | (go_at_call 19; (with_reducible refine (spec_NumOk.calls a1 false _ A7.out).mono ?_); rintro e w' ⟨rfl, ⟨nd, rfl⟩⟩))
    go_meet
    case rel => exact ⟨_, (true), (by first | rfl | (simp; done) | (simp [*]; done)), H', ⟨by first | omega | exact Nat.le_refl _⟩, by repeat (first | exact Drawn0.refl _ | apply Drawn0.step)⟩
  ·replace c6 := Bool.eq_false_iff.mpr c6
   subst c6
   have H1 : (spec_NumDo.j0 k a0 a1 a2 true) = some (r1, r2) := by rw [if_neg (show ¬ (false = true) by decide)] at H; exact H
   clear H
   have H := H1
   clear H1
   have H' := am H
   clear H
   go_wp2_with (first | ((with_reducible refine gate_callee (f := 37) rfl ?_); refine goesL_ (some 10) rfl rfl Try.func37 (by kernel_rfl) rfl #[.int .i64 a0, .int .i64 1, .int .i64 13] rfl mz ?_; (with_reducible refine (spec_l1In.calls a0 1 13 false _ A5.out).mono ?_); rintro e w' ⟨rfl, ⟨nd, rfl⟩⟩; refine ⟨_, rfl, ?_⟩))
   go_meet
   case rel => exact ⟨_, (true), (by first | rfl | (simp; done) | (simp [*]; done)), H', ⟨by first | omega | exact Nat.le_refl _⟩, by repeat (first | exact Drawn0.refl _ | apply Drawn0.step)⟩
 case rest =>
  clear HC4
  try clear c1
  try clear p2
  try clear c3
  try clear c6
  try clear c8
  obtain ⟨kq, x21_3, rfl, HA, HJ3, ⟨mc3, rfl⟩⟩ := hcut
  cases kq with
  | zero => exact absurd HA.out (by simp [spec_NumDo.j0])
  | succ kj3 =>
   have H := HA.out
   clear HA
   simp only [spec_NumDo.j0] at H
   by_cases c10 : x21_3 = true
   ·subst c10
    have H1 : (some (0, 0)) = some (r1, r2) := by rw [if_pos rfl] at H; exact H
    clear H
    have H := H1
    clear H1
    simp only [Option.some.injEq, Prod.mk.injEq] at H
    obtain ⟨rfl, rfl⟩ := H
    go_wp2
    go_ret2
    exact ⟨by first | rfl | (simp; done) | (simp [*]; done), by repeat (first | exact Drawn0.refl _ | apply Drawn0.step)⟩
   ·replace c10 := Bool.eq_false_iff.mpr c10
    subst c10
    have H1 : (if a0 = 4 then (spec_NumDo.j1 kj3 a0 a1 a2 (a2 == 0)) else (if a0 = 5 then (spec_NumDo.j1 kj3 a0 a1 a2 (a2 == 0)) else (spec_NumDo.j1 kj3 a0 a1 a2 false))) = some (r1, r2) := by rw [if_neg (show ¬ (false = true) by decide)] at H; exact H
    clear H
    have H := H1
    clear H1
    have HC11 := am H
    clear H
    go_upto_region 3 with (fail)
    go_cut [31] (fun v31 wc => ∃ (kq : Nat) (x31_10 : Bool), v31 = .bool x31_10 ∧ Aside0 (spec_NumDo.j1 kq a0 a1 a2 x31_10 = some (r1, r2)) ∧ Aside0 (kq ≤ kj3) ∧ Drawn0 w wc)
    case first =>
     have H := HC11.out
     clear HC11
     by_cases c12 : a0 = 4
     ·rw [if_pos c12] at H
      have c12b0 : (a0 == 4) = true := beq_iff_eq.mpr c12
      have c12b1 : (a0 != 4) = false := bne_eq_false_iff_eq.mpr c12
      clear c12
      (first | rw [c12b0] | (simp only [i64_w, i32_w]; rw [c12b0]) | skip)
      have H' := am H
      clear H
      go_wp2
      go_meet
      case rel => exact ⟨_, ((a2 == 0)), (by first | rfl | (simp; done) | (simp [*]; done)), H', ⟨by have := HJ3.out; first | omega | exact Nat.le_refl _⟩, by repeat (first | exact Drawn0.refl _ | apply Drawn0.step)⟩
     ·rw [if_neg c12] at H
      have c12b0 : (a0 == 4) = false := beq_eq_false_iff_ne.mpr c12
      have c12b1 : (a0 != 4) = true := bne_iff_ne.mpr c12
      (first | rw [c12b0] | (simp only [i64_w, i32_w]; rw [c12b0]) | skip)
      by_cases c13 : a0 = 5
      ·rw [if_pos c13] at H
       have c13b0 : (a0 == 5) = true := beq_iff_eq.mpr c13
       have c13b1 : (a0 != 5) = false := bne_eq_false_iff_eq.mpr c13
       clear c13
       have H' := am H
       clear H
       go_wp2
       go_meet
       case rel => exact ⟨_, ((a2 == 0)), (by first | rfl | (simp; done) | (simp [*]; done)), H', ⟨by have := HJ3.out; first | omega | exact Nat.le_refl _⟩, by repeat (first | exact Drawn0.refl _ | apply Drawn0.step)⟩
      ·rw [if_neg c13] at H
       have c13b0 : (a0 == 5) = false := beq_eq_false_iff_ne.mpr c13
       have c13b1 : (a0 != 5) = true := bne_iff_ne.mpr c13
       have H' := am H
       clear H
       go_wp2
       go_meet
       case rel => exact ⟨_, (false), (by first | rfl | (simp; done) | (simp [*]; done)), H', ⟨by have := HJ3.out; first | omega | exact Nat.le_refl _⟩, by repeat (first | exact Drawn0.refl _ | apply Drawn0.step)⟩
    case rest =>
     clear HC11
     try clear c1
     try clear p2
     try clear c3
     try clear c6
     try clear c8
     try clear c10
     try clear c12
     try clear c12b0
     try clear c12b1
     try clear c13
     try clear c13b0
     try clear c13b1
     try clear p2
     obtain ⟨kq, x31_10, rfl, HA, HJ10, ⟨mc10, rfl⟩⟩ := hcut
     cases kq with
     | zero => exact absurd HA.out (by simp [spec_NumDo.j1])
     | succ kj10 =>
      have H := HA.out
      clear HA
      simp only [spec_NumDo.j1] at H
      by_cases c14 : x31_10 = true
      ·subst c14
       have H1 : (some (0, 2)) = some (r1, r2) := by rw [if_pos rfl] at H; exact H
       clear H
       have H := H1
       clear H1
       simp only [Option.some.injEq, Prod.mk.injEq] at H
       obtain ⟨rfl, rfl⟩ := H
       go_wp2
       go_ret2
       exact ⟨by first | rfl | (simp; done) | (simp [*]; done), by repeat (first | exact Drawn0.refl _ | apply Drawn0.step)⟩
      ·replace c14 := Bool.eq_false_iff.mpr c14
       subst c14
       have H1 : (if a0 = 9 then ((spec_l1In.f a2 0 31).bind fun t382 => (spec_NumDo.j2 kj10 a0 a1 a2 (!t382))) else (if a0 = 10 then ((spec_l1In.f a2 0 31).bind fun t383 => (spec_NumDo.j2 kj10 a0 a1 a2 (!t383))) else (spec_NumDo.j2 kj10 a0 a1 a2 false))) = some (r1, r2) := by rw [if_neg (show ¬ (false = true) by decide)] at H; exact H
       clear H
       have H := H1
       clear H1
       have HC15 := am H
       clear H
       go_upto_region 5 with (fail)
       go_cut [42] (fun v42 wc => ∃ (kq : Nat) (x42_14 : Bool), v42 = .bool x42_14 ∧ Aside0 (spec_NumDo.j2 kq a0 a1 a2 x42_14 = some (r1, r2)) ∧ Aside0 (kq ≤ kj10) ∧ Drawn0 w wc)
       case first =>
        have H := HC15.out
        clear HC15
        by_cases c16 : a0 = 9
        ·rw [if_pos c16] at H
         have c16b0 : (a0 == 9) = true := beq_iff_eq.mpr c16
         have c16b1 : (a0 != 9) = false := bne_eq_false_iff_eq.mpr c16
         clear c16
         (first | rw [c16b0] | (simp only [i64_w, i32_w]; rw [c16b0]) | skip)
         replace H := Option.bind_eq_some_iff.mp H
         obtain ⟨t382, A170, H⟩ := H
         replace H : (spec_NumDo.j2 kj10 a0 a1 a2 (!t382)) = some (r1, r2) := H
         have A17 := am A170
         clear A170
         have H' := am H
         clear H
         go_wp2_with (first | (go_at_call 37; (with_reducible refine (spec_l1In.calls a2 0 31 t382 _ A17.out).mono ?_); rintro e w' ⟨rfl, ⟨nd, rfl⟩⟩))
         go_meet
         case rel => exact ⟨_, (!t382), (by first | rfl | (simp; done) | (simp [*]; done)), H', ⟨by have := HJ3.out; have := HJ10.out; first | omega | exact Nat.le_refl _⟩, by repeat (first | exact Drawn0.refl _ | apply Drawn0.step)⟩
        ·rw [if_neg c16] at H
         have c16b0 : (a0 == 9) = false := beq_eq_false_iff_ne.mpr c16
         have c16b1 : (a0 != 9) = true := bne_iff_ne.mpr c16
         (first | rw [c16b0] | (simp only [i64_w, i32_w]; rw [c16b0]) | skip)
         by_cases c18 : a0 = 10
         ·rw [if_pos c18] at H
          have c18b0 : (a0 == 10) = true := beq_iff_eq.mpr c18
          have c18b1 : (a0 != 10) = false := bne_eq_false_iff_eq.mpr c18
          clear c18
          replace H := Option.bind_eq_some_iff.mp H
          obtain ⟨t383, A190, H⟩ := H
          replace H : (spec_NumDo.j2 kj10 a0 a1 a2 (!t383)) = some (r1, r2) := H
          have A19 := am A190
          clear A190
          have H' := am H
          clear H
          go_wp2_with (first | (go_at_call 37; (with_reducible refine (spec_l1In.calls a2 0 31 t383 _ A19.out).mono ?_); rintro e w' ⟨rfl, ⟨nd, rfl⟩⟩))
          go_meet
          case rel => exact ⟨_, (!t383), (by first | rfl | (simp; done) | (simp [*]; done)), H', ⟨by have := HJ3.out; have := HJ10.out; first | omega | exact Nat.le_refl _⟩, by repeat (first | exact Drawn0.refl _ | apply Drawn0.step)⟩
         ·rw [if_neg c18] at H
          have c18b0 : (a0 == 10) = false := beq_eq_false_iff_ne.mpr c18
          have c18b1 : (a0 != 10) = true := bne_iff_ne.mpr c18
          have H' := am H
          clear H
          go_wp2
          go_meet
          case rel => exact ⟨_, (false), (by first | rfl | (simp; done) | (simp [*]; done)), H', ⟨by have := HJ3.out; have := HJ10.out; first | omega | exact Nat.le_refl _⟩, by repeat (first | exact Drawn0.refl _ | apply Drawn0.step)⟩
       case rest =>
        clear HC15
        try clear c1
        try clear p2
        try clear c3
        try clear c6
        try clear c8
        try clear c10
        try clear c12
        try clear c12b0
        try clear c12b1
        try clear c13
        try clear c13b0
        try clear c13b1
        try clear c14
        try clear c16
        try clear c16b0
        try clear c16b1
        try clear c18
        try clear c18b0
        try clear c18b1
        try clear p2
        obtain ⟨kq, x42_14, rfl, HA, HJ14, ⟨mc14, rfl⟩⟩ := hcut
        cases kq with
        | zero => exact absurd HA.out (by simp [spec_NumDo.j2])
        | succ kj14 =>
         have H := HA.out
         clear HA
         simp only [spec_NumDo.j2] at H
         by_cases c20 : x42_14 = true
         ·subst c20
          have H1 : (some (0, 3)) = some (r1, r2) := by rw [if_pos rfl] at H; exact H
          clear H
          have H := H1
          clear H1
          simp only [Option.some.injEq, Prod.mk.injEq] at H
          obtain ⟨rfl, rfl⟩ := H
          go_wp2
          go_ret2
          exact ⟨by first | rfl | (simp; done) | (simp [*]; done), by repeat (first | exact Drawn0.refl _ | apply Drawn0.step)⟩
         ·replace c20 := Bool.eq_false_iff.mpr c20
          subst c20
          have H1 : ((spec_l1Exact.f kj14 a0 a1 a2).bind fun t384 => (if a0 ≥ 11 then ((spec_NumWrap.f t384).bind fun t385 => (some (t385, 0))) else ((spec_NumOk.f t384).bind fun t386 => (if t386 = true then (some (t384, 0)) else (some (0, 1)))))) = some (r1, r2) := by rw [if_neg (show ¬ (false = true) by decide)] at H; exact H
          clear H
          have H := H1
          clear H1
          replace H := Option.bind_eq_some_iff.mp H
          obtain ⟨t384, A210, H⟩ := H
          replace H : (if a0 ≥ 11 then ((spec_NumWrap.f t384).bind fun t385 => (some (t385, 0))) else ((spec_NumOk.f t384).bind fun t386 => (if t386 = true then (some (t384, 0)) else (some (0, 1))))) = some (r1, r2) := H
          have A21 := am A210
          clear A210
          by_cases c22 : a0 ≥ 11
          ·rw [if_pos c22] at H
           have c22b0 : decide (11 ≤ a0) = true := decide_eq_true c22
           clear c22
           replace H := Option.bind_eq_some_iff.mp H
           obtain ⟨t385, A230, H⟩ := H
           replace H : (some (t385, 0)) = some (r1, r2) := H
           have A23 := am A230
           clear A230
           simp only [Option.some.injEq, Prod.mk.injEq] at H
           obtain ⟨rfl, rfl⟩ := H
           go_wp2_with (first | ((with_reducible refine gate_callee (f := 63) rfl ?_); refine goesL_ (some 46) rfl rfl Try.func63 (by kernel_rfl) rfl #[.int .i64 a0, .int .i64 a1, .int .i64 a2] rfl mz ?_; (with_reducible refine (spec_l1Exact.calls kj14 a0 a1 a2 t384 _ A21.out).mono ?_); rintro e w' ⟨rfl, ⟨nd, rfl⟩⟩; refine ⟨_, rfl, ?_⟩) | ((with_reducible refine gate_callee (f := 64) rfl ?_); refine goesL_ (some 50) rfl rfl Try.func64 (by kernel_rfl) rfl #[.int .i64 t384] rfl mz ?_; (with_reducible refine (spec_NumWrap.calls t384 t385 _ A23.out).mono ?_); rintro e w' ⟨rfl, ⟨nd, rfl⟩⟩; refine ⟨_, rfl, ?_⟩))
           go_ret2
           exact ⟨by first | rfl | (simp; done) | (simp [*]; done), by repeat (first | exact Drawn0.refl _ | apply Drawn0.step)⟩
          ·rw [if_neg c22] at H
           have c22b0 : decide (11 ≤ a0) = false := decide_eq_false c22
           clear c22
           replace H := Option.bind_eq_some_iff.mp H
           obtain ⟨t386, A240, H⟩ := H
           replace H : (if t386 = true then (some (t384, 0)) else (some (0, 1))) = some (r1, r2) := H
           have A24 := am A240
           clear A240
           by_cases c25 : t386 = true
           ·subst c25
            have H1 : (some (t384, 0)) = some (r1, r2) := by rw [if_pos rfl] at H; exact H
            clear H
            have H := H1
            clear H1
            simp only [Option.some.injEq, Prod.mk.injEq] at H
            obtain ⟨rfl, rfl⟩ := H
            go_wp2_with (first | ((with_reducible refine gate_callee (f := 63) rfl ?_); refine goesL_ (some 46) rfl rfl Try.func63 (by kernel_rfl) rfl #[.int .i64 a0, .int .i64 a1, .int .i64 a2] rfl mz ?_; (with_reducible refine (spec_l1Exact.calls kj14 a0 a1 a2 t384 _ A21.out).mono ?_); rintro e w' ⟨rfl, ⟨nd, rfl⟩⟩; refine ⟨_, rfl, ?_⟩) | ((with_reducible refine gate_callee (f := 19) rfl ?_); refine goesL_ (some 52) rfl rfl Try.func19 (by kernel_rfl) rfl #[.int .i64 t384] rfl mz ?_; (with_reducible refine (spec_NumOk.calls t384 true _ A24.out).mono ?_); rintro e w' ⟨rfl, ⟨nd, rfl⟩⟩; refine ⟨_, rfl, ?_⟩))
            go_ret2
            exact ⟨by first | rfl | (simp; done) | (simp [*]; done), by repeat (first | exact Drawn0.refl _ | apply Drawn0.step)⟩
           ·replace c25 := Bool.eq_false_iff.mpr c25
            subst c25
            have H1 : (some (0, 1)) = some (r1, r2) := by rw [if_neg (show ¬ (false = true) by decide)] at H; exact H
            clear H
            have H := H1
            clear H1
            simp only [Option.some.injEq, Prod.mk.injEq] at H
            obtain ⟨rfl, rfl⟩ := H
            go_wp2_with (first | ((with_reducible refine gate_callee (f := 63) rfl ?_); refine goesL_ (some 46) rfl rfl Try.func63 (by kernel_rfl) rfl #[.int .i64 a0, .int .i64 a1, .int .i64 a2] rfl mz ?_; (with_reducible refine (spec_l1Exact.calls kj14 a0 a1 a2 t384 _ A21.out).mono ?_); rintro e w' ⟨rfl, ⟨nd, rfl⟩⟩; refine ⟨_, rfl, ?_⟩) | ((with_reducible refine gate_callee (f := 19) rfl ?_); refine goesL_ (some 52) rfl rfl Try.func19 (by kernel_rfl) rfl #[.int .i64 t384] rfl mz ?_; (with_reducible refine (spec_NumOk.calls t384 false _ A24.out).mono ?_); rintro e w' ⟨rfl, ⟨nd, rfl⟩⟩; refine ⟨_, rfl, ?_⟩))
            go_ret2
            exact ⟨by first | rfl | (simp; done) | (simp [*]; done), by repeat (first | exact Drawn0.refl _ | apply Drawn0.step)⟩

end Go.Proofs.Ythbkakcchgnhpaa.PFnRangeOne
