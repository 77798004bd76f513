/- Written by this session's own driver (wip/dprint.py): the functions that the law FnLexBack reaches, as Lean functions, each with its contract. -/
import Derived.Test.YtnbpgnkplahknaaDoorPFnLexBackx0
import Derived.Test.YtnbpgnkplahknaaDoorPFnLexBackx2
import Derived.Test.YtnbpgnkplahknaaDoorSq
namespace Go.Proofs.YtnbpgnkplahknaaDoor.PFnLexBack
open Go.RowKit Go.Proofs.YtnbpgnkplahknaaDoorW.PrintWords Go.Proofs.YtnbpgnkplahknaaDoorW.PrintLast Go.Proofs.YtnbpgnkplahknaaDoorW.PrintMore Go.Proofs.YtnbpgnkplahknaaDoorSq
attribute [local go_sem] max2_int min2_int max_two min_two max_three min_three max_four min_four   -- for this text's walks alone
set_option linter.unusedVariables false
set_option linter.unusedSimpArgs false

/-! ### spec_WordOk: function 40 -/
attribute [local go_sem] Go.Proofs.YtnbpgnkplahknaaDoorSet.isSome_setCell
def spec_WordOk.f (a0 : ByteArray) : Option (Bool) := if a0.toList = ([97, 114, 114, 97, 121] : List UInt8) then (some true) else (if a0.toList = ([118, 97, 114] : List UInt8) then (some true) else (if a0.toList = ([114, 101, 102] : List UInt8) then (some true) else (if a0.toList = ([102, 117, 110, 99] : List UInt8) then (some true) else (if a0.toList = ([105, 102] : List UInt8) then (some true) else (if a0.toList = ([101, 108, 115, 101] : List UInt8) then (some true) else (if a0.toList = ([119, 104, 105, 108, 101] : List UInt8) then (some true) else (if a0.toList = ([102, 111, 114] : List UInt8) then (some true) else (if a0.toList = ([114, 101, 97, 100] : List UInt8) then (some true) else (if a0.toList = ([112, 114, 105, 110, 116] : List UInt8) then (some true) else (if a0.toList = ([97, 115, 115, 101, 114, 116] : List UInt8) then (some true) else (if a0.toList = ([115, 116, 111, 112] : List UInt8) then (some true) else (if a0.toList = ([114, 101, 116, 117, 114, 110] : List UInt8) then (some true) else (if a0.toList = ([97, 110, 100] : List UInt8) then (some true) else (if a0.toList = ([111, 114] : List UInt8) then (some true) else (if a0.toList = ([110, 111, 116] : List UInt8) then (some true) else (some (a0.toList == ([110, 117, 108, 108] : List UInt8))))))))))))))))))
set_option maxHeartbeats 8000000 in
set_option maxRecDepth 100000 in
theorem spec_WordOk.calls (a0 : ByteArray) (r : Bool) (w : World) (h : spec_WordOk.f a0 = some r) :
  Calls Tryd.prog 40 #[.string a0] w fun e w' => e = .returned (.bool r) ∧ Drawn0 w w' := by
 have H : (if a0.toList = ([97, 114, 114, 97, 121] : List UInt8) then (some true) else (if a0.toList = ([118, 97, 114] : List UInt8) then (some true) else (if a0.toList = ([114, 101, 102] : List UInt8) then (some true) else (if a0.toList = ([102, 117, 110, 99] : List UInt8) then (some true) else (if a0.toList = ([105, 102] : List UInt8) then (some true) else (if a0.toList = ([101, 108, 115, 101] : List UInt8) then (some true) else (if a0.toList = ([119, 104, 105, 108, 101] : List UInt8) then (some true) else (if a0.toList = ([102, 111, 114] : List UInt8) then (some true) else (if a0.toList = ([114, 101, 97, 100] : List UInt8) then (some true) else (if a0.toList = ([112, 114, 105, 110, 116] : List UInt8) then (some true) else (if a0.toList = ([97, 115, 115, 101, 114, 116] : List UInt8) then (some true) else (if a0.toList = ([115, 116, 111, 112] : List UInt8) then (some true) else (if a0.toList = ([114, 101, 116, 117, 114, 110] : List UInt8) then (some true) else (if a0.toList = ([97, 110, 100] : List UInt8) then (some true) else (if a0.toList = ([111, 114] : List UInt8) then (some true) else (if a0.toList = ([110, 111, 116] : List UInt8) then (some true) else (some (a0.toList == ([110, 117, 108, 108] : List UInt8))))))))))))))))))) = some r := h
 clear h
 by_cases c2 : a0.toList = ([97, 114, 114, 97, 121] : List UInt8)
 ·rw [if_pos c2] at H
  have c2b0 := eT c2
  have c2b1 := nF c2
  clear c2
  obtain rfl := Option.some.inj H
  go_enter Tryd.func40, Tryd.ntmps40
  go_wp2
  go_ret
  exact ⟨by first | rfl | (simp; done) | (simp [*]; done), by repeat (first | exact Drawn0.refl _ | apply Drawn0.step)⟩
 rw [if_neg c2] at H
 have c2b0 := eF c2
 have c2b1 := nT c2
 by_cases c3 : a0.toList = ([118, 97, 114] : List UInt8)
 ·rw [if_pos c3] at H
  have c3b0 := eT c3
  have c3b1 := nF c3
  clear c3
  obtain rfl := Option.some.inj H
  go_enter Tryd.func40, Tryd.ntmps40
  go_wp2
  go_ret
  exact ⟨by first | rfl | (simp; done) | (simp [*]; done), by repeat (first | exact Drawn0.refl _ | apply Drawn0.step)⟩
 rw [if_neg c3] at H
 have c3b0 := eF c3
 have c3b1 := nT c3
 by_cases c4 : a0.toList = ([114, 101, 102] : List UInt8)
 ·rw [if_pos c4] at H
  have c4b0 := eT c4
  have c4b1 := nF c4
  clear c4
  obtain rfl := Option.some.inj H
  go_enter Tryd.func40, Tryd.ntmps40
  go_wp2
  go_ret
  exact ⟨by first | rfl | (simp; done) | (simp [*]; done), by repeat (first | exact Drawn0.refl _ | apply Drawn0.step)⟩
 rw [if_neg c4] at H
 have c4b0 := eF c4
 have c4b1 := nT c4
 by_cases c5 : a0.toList = ([102, 117, 110, 99] : List UInt8)
 ·rw [if_pos c5] at H
  have c5b0 := eT c5
  have c5b1 := nF c5
  clear c5
  obtain rfl := Option.some.inj H
  go_enter Tryd.func40, Tryd.ntmps40
  go_wp2
  go_ret
  exact ⟨by first | rfl | (simp; done) | (simp [*]; done), by repeat (first | exact Drawn0.refl _ | apply Drawn0.step)⟩
 rw [if_neg c5] at H
 have c5b0 := eF c5
 have c5b1 := nT c5
 by_cases c6 : a0.toList = ([105, 102] : List UInt8)
 ·rw [if_pos c6] at H
  have c6b0 := eT c6
  have c6b1 := nF c6
  clear c6
  obtain rfl := Option.some.inj H
  go_enter Tryd.func40, Tryd.ntmps40
  go_wp2
  go_ret
  exact ⟨by first | rfl | (simp; done) | (simp [*]; done), by repeat (first | exact Drawn0.refl _ | apply Drawn0.step)⟩
 rw [if_neg c6] at H
 have c6b0 := eF c6
 have c6b1 := nT c6
 by_cases c7 : a0.toList = ([101, 108, 115, 101] : List UInt8)
 ·rw [if_pos c7] at H
  have c7b0 := eT c7
  have c7b1 := nF c7
  clear c7
  obtain rfl := Option.some.inj H
  go_enter Tryd.func40, Tryd.ntmps40
  go_wp2
  go_ret
  exact ⟨by first | rfl | (simp; done) | (simp [*]; done), by repeat (first | exact Drawn0.refl _ | apply Drawn0.step)⟩
 rw [if_neg c7] at H
 have c7b0 := eF c7
 have c7b1 := nT c7
 by_cases c8 : a0.toList = ([119, 104, 105, 108, 101] : List UInt8)
 ·rw [if_pos c8] at H
  have c8b0 := eT c8
  have c8b1 := nF c8
  clear c8
  obtain rfl := Option.some.inj H
  go_enter Tryd.func40, Tryd.ntmps40
  go_wp2
  go_ret
  exact ⟨by first | rfl | (simp; done) | (simp [*]; done), by repeat (first | exact Drawn0.refl _ | apply Drawn0.step)⟩
 rw [if_neg c8] at H
 have c8b0 := eF c8
 have c8b1 := nT c8
 by_cases c9 : a0.toList = ([102, 111, 114] : List UInt8)
 ·rw [if_pos c9] at H
  have c9b0 := eT c9
  have c9b1 := nF c9
  clear c9
  obtain rfl := Option.some.inj H
  go_enter Tryd.func40, Tryd.ntmps40
  go_wp2
  go_ret
  exact ⟨by first | rfl | (simp; done) | (simp [*]; done), by repeat (first | exact Drawn0.refl _ | apply Drawn0.step)⟩
 rw [if_neg c9] at H
 have c9b0 := eF c9
 have c9b1 := nT c9
 by_cases c10 : a0.toList = ([114, 101, 97, 100] : List UInt8)
 ·rw [if_pos c10] at H
  have c10b0 := eT c10
  have c10b1 := nF c10
  clear c10
  obtain rfl := Option.some.inj H
  go_enter Tryd.func40, Tryd.ntmps40
  go_wp2
  go_ret
  exact ⟨by first | rfl | (simp; done) | (simp [*]; done), by repeat (first | exact Drawn0.refl _ | apply Drawn0.step)⟩
 rw [if_neg c10] at H
 have c10b0 := eF c10
 have c10b1 := nT c10
 by_cases c11 : a0.toList = ([112, 114, 105, 110, 116] : List UInt8)
 ·rw [if_pos c11] at H
  have c11b0 := eT c11
  have c11b1 := nF c11
  clear c11
  obtain rfl := Option.some.inj H
  go_enter Tryd.func40, Tryd.ntmps40
  go_wp2
  go_ret
  exact ⟨by first | rfl | (simp; done) | (simp [*]; done), by repeat (first | exact Drawn0.refl _ | apply Drawn0.step)⟩
 rw [if_neg c11] at H
 have c11b0 := eF c11
 have c11b1 := nT c11
 by_cases c12 : a0.toList = ([97, 115, 115, 101, 114, 116] : List UInt8)
 ·rw [if_pos c12] at H
  have c12b0 := eT c12
  have c12b1 := nF c12
  clear c12
  obtain rfl := Option.some.inj H
  go_enter Tryd.func40, Tryd.ntmps40
  go_wp2
  go_ret
  exact ⟨by first | rfl | (simp; done) | (simp [*]; done), by repeat (first | exact Drawn0.refl _ | apply Drawn0.step)⟩
 rw [if_neg c12] at H
 have c12b0 := eF c12
 have c12b1 := nT c12
 by_cases c13 : a0.toList = ([115, 116, 111, 112] : List UInt8)
 ·rw [if_pos c13] at H
  have c13b0 := eT c13
  have c13b1 := nF c13
  clear c13
  obtain rfl := Option.some.inj H
  go_enter Tryd.func40, Tryd.ntmps40
  go_wp2
  go_ret
  exact ⟨by first | rfl | (simp; done) | (simp [*]; done), by repeat (first | exact Drawn0.refl _ | apply Drawn0.step)⟩
 rw [if_neg c13] at H
 have c13b0 := eF c13
 have c13b1 := nT c13
 by_cases c14 : a0.toList = ([114, 101, 116, 117, 114, 110] : List UInt8)
 ·rw [if_pos c14] at H
  have c14b0 := eT c14
  have c14b1 := nF c14
  clear c14
  obtain rfl := Option.some.inj H
  go_enter Tryd.func40, Tryd.ntmps40
  go_wp2
  go_ret
  exact ⟨by first | rfl | (simp; done) | (simp [*]; done), by repeat (first | exact Drawn0.refl _ | apply Drawn0.step)⟩
 rw [if_neg c14] at H
 have c14b0 := eF c14
 have c14b1 := nT c14
 by_cases c15 : a0.toList = ([97, 110, 100] : List UInt8)
 ·rw [if_pos c15] at H
  have c15b0 := eT c15
  have c15b1 := nF c15
  clear c15
  obtain rfl := Option.some.inj H
  go_enter Tryd.func40, Tryd.ntmps40
  go_wp2
  go_ret
  exact ⟨by first | rfl | (simp; done) | (simp [*]; done), by repeat (first | exact Drawn0.refl _ | apply Drawn0.step)⟩
 rw [if_neg c15] at H
 have c15b0 := eF c15
 have c15b1 := nT c15
 by_cases c16 : a0.toList = ([111, 114] : List UInt8)
 ·rw [if_pos c16] at H
  have c16b0 := eT c16
  have c16b1 := nF c16
  clear c16
  obtain rfl := Option.some.inj H
  go_enter Tryd.func40, Tryd.ntmps40
  go_wp2
  go_ret
  exact ⟨by first | rfl | (simp; done) | (simp [*]; done), by repeat (first | exact Drawn0.refl _ | apply Drawn0.step)⟩
 rw [if_neg c16] at H
 have c16b0 := eF c16
 have c16b1 := nT c16
 by_cases c17 : a0.toList = ([110, 111, 116] : List UInt8)
 rotate_left
 ·rw [if_neg c17] at H
  have c17b0 := eF c17
  have c17b1 := nT c17
  obtain rfl := Option.some.inj H
  go_enter Tryd.func40, Tryd.ntmps40
  go_wp2
  go_ret
  exact ⟨by first | rfl | (simp; done) | (simp [*]; done), by repeat (first | exact Drawn0.refl _ | apply Drawn0.step)⟩
 rw [if_pos c17] at H
 have c17b0 := eT c17
 have c17b1 := nF c17
 clear c17
 obtain rfl := Option.some.inj H
 go_enter Tryd.func40, Tryd.ntmps40
 go_wp2
 go_ret
 exact ⟨by first | rfl | (simp; done) | (simp [*]; done), by repeat (first | exact Drawn0.refl _ | apply Drawn0.step)⟩

/-! ### spec_l2Digits: function 42 -/
attribute [local go_sem] Go.Proofs.YtnbpgnkplahknaaDoorSet.isSome_setCell
def spec_l2Digits.l0 : Nat → ByteArray → Int → Option (Int)
 | 0, _, _ => none
 | k + 1, x0, x1 => if x1 < (x0.size : Int) then (if 0 ≤ x1 then ((spec_l2Digit.f (bt x0 x1)).bind fun t112 => (if t112 = true then (spec_l2Digits.l0 k x0 (wrap64 (x1 + 1))) else (some x1))) else (none)) else (some x1)
def spec_l2Digits.f (k : Nat) (a0 : ByteArray) (a1 : Int) : Option (Int) := spec_l2Digits.l0 k a0 a1
theorem spec_l2Digits.mono_l : ∀ k, (∀ y0 y1, LeO (spec_l2Digits.l0 k y0 y1) (spec_l2Digits.l0 (k + 1) y0 y1))
 | 0 => fun _ _ r h => by simp [spec_l2Digits.l0] at h
 | k + 1 => by
  have ih0 := spec_l2Digits.mono_l k
  ·intro y0 y1
   unfold spec_l2Digits.l0
   repeat' first | (with_reducible first | apply ih0 | apply LeO.refl | apply LeO.none | refine LeO.ite ?_ ?_ | refine LeO.bind ?_ (fun _ => ?_)) | apply ih0 | apply LeO.none | refine LeO.ite ?_ ?_ | refine LeO.bind ?_ (fun _ => ?_)
theorem spec_l2Digits.mono : ∀ a0 a1 k, LeO (spec_l2Digits.f k a0 a1) (spec_l2Digits.f (k + 1) a0 a1) := by
 intro a0 a1 k
 have ih0 := spec_l2Digits.mono_l k
 unfold spec_l2Digits.f
 repeat' first | (with_reducible first | apply ih0 | apply LeO.refl | apply LeO.none | refine LeO.ite ?_ ?_ | refine LeO.bind ?_ (fun _ => ?_)) | apply ih0 | apply LeO.none | refine LeO.ite ?_ ?_ | refine LeO.bind ?_ (fun _ => ?_)
set_option maxHeartbeats 8000000 in
set_option maxRecDepth 100000 in
theorem spec_l2Digits.calls (k : Nat) (a0 : ByteArray) (a1 : Int) (r : Int) (w : World) (h : spec_l2Digits.f k a0 a1 = some r) :
  Calls Tryd.prog 42 #[.string a0, .int .i64 a1] w fun e w' => e = .returned (.int .i64 r) ∧ Drawn0 w w' := by
 have H : (spec_l2Digits.l0 k a0 a1) = some r := h
 clear h
 have H' := am H
 clear H
 go_enter Tryd.func42, Tryd.ntmps42
 go_wp2
 go_loopg [1] k (fun kq v1 w' => ∃ (x1_1 : Int), v1 = .int .i64 x1_1 ∧ Aside0 (spec_l2Digits.l0 kq a0 x1_1 = some r) ∧ Aside0 (kq ≤ k) ∧ Drawn0 w w')
 case atStart => exact ⟨(a1), ey, H', ⟨Nat.le_refl _⟩, by repeat (first | exact Drawn0.refl _ | apply Drawn0.step)⟩
 case round =>
  clear H'
  obtain ⟨x1_1, rfl, HA, HK1, ⟨m1, rfl⟩⟩ := hrel
  cases gk with
  | zero => exact absurd HA.out (by simp [spec_l2Digits.l0])
  | succ k1 =>
   have H := HA.out
   clear HA
   simp only [spec_l2Digits.l0] at H
   by_cases c3 : x1_1 < (a0.size : Int)
   rotate_left
   ·rw [if_neg c3] at H
    have c3b0 := dF c3
    clear c3
    obtain rfl := Option.some.inj H
    go_wp2
    go_ret
    exact ⟨by first | rfl | (simp; done) | (simp [*]; done), by repeat (first | exact Drawn0.refl _ | apply Drawn0.step)⟩
   rw [if_pos c3] at H
   have c3b0 := dT c3
   clear c3
   by_cases c4 : 0 ≤ x1_1
   rotate_left
   ·rw [if_neg c4] at H
    exact absurd H (by simp)
   rw [if_pos c4] at H
   have c4b0 := dT c4
   clear c4
   replace H := Option.bind_eq_some_iff.mp H
   obtain ⟨t112, A60, H⟩ := H
   try dsimp only at H
   have A6 := am A60
   clear A60
   by_cases c7 : t112 = true
   ·subst c7
    rw [if_pos rfl] at H
    have H' := am H
    clear H
    have p5 : 0 ≤ (x1_1 : Int) := oz
    have q5 : x1_1 < (a0.size : Int) := oz
    have hx5 := bt_at a0 x1_1
    replace p5 := eq_true p5
    replace q5 := eq_true q5
    go_wp2_with (first | (go_at_call 41; (with_reducible refine (spec_l2Digit.calls (bt a0 x1_1) true _ A6.out).mono ?_); rintro e w' ⟨rfl, ⟨nd, rfl⟩⟩))
    go_roundg k1
    case measure => have := HK1.out; omega
    case rel => exact ⟨(wrap64 (x1_1 + 1)), ey, H', ⟨by have := HK1.out; omega⟩, by repeat (first | exact Drawn0.refl _ | apply Drawn0.step)⟩
   replace c7 := Bool.eq_false_iff.mpr c7
   subst c7
   rw [if_neg (show ¬ (false = true) by decide)] at H
   obtain rfl := Option.some.inj H
   have p5 : 0 ≤ (x1_1 : Int) := oz
   have q5 : x1_1 < (a0.size : Int) := oz
   have hx5 := bt_at a0 x1_1
   replace p5 := eq_true p5
   replace q5 := eq_true q5
   go_wp2_with (first | (go_at_call 41; (with_reducible refine (spec_l2Digit.calls (bt a0 x1_1) false _ A6.out).mono ?_); rintro e w' ⟨rfl, ⟨nd, rfl⟩⟩))
   go_ret
   exact ⟨by first | rfl | (simp; done) | (simp [*]; done), by repeat (first | exact Drawn0.refl _ | apply Drawn0.step)⟩

/-! ### spec_l2Value: function 43 -/
attribute [local go_sem] Go.Proofs.YtnbpgnkplahknaaDoorSet.isSome_setCell
mutual
def spec_l2Value.j0 : Nat → ByteArray → Bool → Option (Int)
 | 0, _, _ => none
 | k + 1, x0, x17 => if x17 = true then (some (-1)) else (spec_l2Value.l0 k x0 0 0)
def spec_l2Value.l0 : Nat → ByteArray → Int → Int → Option (Int)
 | 0, _, _, _ => none
 | k + 1, x0, x3, x4 => if x4 < (x0.size : Int) then (if 0 ≤ x4 then (spec_l2Value.l0 k x0 (wrap64 ((wrap64 (x3 * 10)) + (((bt x0 x4) - 48) % 256))) (wrap64 (x4 + 1))) else (none)) else (if x3 > 2147483647 then (some (-1)) else (some x3))
end
def spec_l2Value.f (k : Nat) (a0 : ByteArray) : Option (Int) := if (a0.size : Int) > 10 then (spec_l2Value.j0 k a0 true) else (if (a0.size : Int) > 1 then (if 0 < (a0.size : Int) then (spec_l2Value.j0 k a0 ((bt a0 0) == 48)) else (none)) else (spec_l2Value.j0 k a0 false))
theorem spec_l2Value.mono_l : ∀ k, (∀ y0 y1, LeO (spec_l2Value.j0 k y0 y1) (spec_l2Value.j0 (k + 1) y0 y1)) ∧ (∀ y0 y1 y2, LeO (spec_l2Value.l0 k y0 y1 y2) (spec_l2Value.l0 (k + 1) y0 y1 y2))
 | 0 => ⟨fun _ _ r h => by simp [spec_l2Value.j0] at h, fun _ _ _ r h => by simp [spec_l2Value.l0] at h⟩
 | k + 1 => by
  obtain ⟨ih0, ih1⟩ := spec_l2Value.mono_l k
  refine ⟨?_, ?_⟩ <;> (intros; (first | unfold spec_l2Value.j0 | unfold spec_l2Value.l0); repeat' first | (with_reducible first | apply ih0 | apply ih1 | apply LeO.refl | apply LeO.none | refine LeO.ite ?_ ?_ | refine LeO.bind ?_ (fun _ => ?_)) | apply ih0 | apply ih1 | apply LeO.none | refine LeO.ite ?_ ?_ | refine LeO.bind ?_ (fun _ => ?_))
theorem spec_l2Value.mono : ∀ a0 k, LeO (spec_l2Value.f k a0) (spec_l2Value.f (k + 1) a0) := by
 intro a0 k
 obtain ⟨ih0, ih1⟩ := spec_l2Value.mono_l k
 unfold spec_l2Value.f
 repeat' first | (with_reducible first | apply ih0 | apply ih1 | apply LeO.refl | apply LeO.none | refine LeO.ite ?_ ?_ | refine LeO.bind ?_ (fun _ => ?_)) | apply ih0 | apply ih1 | apply LeO.none | refine LeO.ite ?_ ?_ | refine LeO.bind ?_ (fun _ => ?_)
set_option maxHeartbeats 8000000 in
set_option maxRecDepth 100000 in
theorem spec_l2Value.calls (k : Nat) (a0 : ByteArray) (r : Int) (w : World) (h : spec_l2Value.f k a0 = some r) :
  Calls Tryd.prog 43 #[.string a0] w fun e w' => e = .returned (.int .i64 r) ∧ Drawn0 w w' := by
 have H : (if (a0.size : Int) > 10 then (spec_l2Value.j0 k a0 true) else (if (a0.size : Int) > 1 then (if 0 < (a0.size : Int) then (spec_l2Value.j0 k a0 ((bt a0 0) == 48)) else (none)) else (spec_l2Value.j0 k a0 false))) = some r := h
 clear h
 have HC2 := am H
 clear H
 go_enter Tryd.func43, Tryd.ntmps43
 go_upto_region 1 with (fail)
 go_cut [17] (fun v17 wc => ∃ (kq : Nat) (x17_1 : Bool), v17 = .bool x17_1 ∧ Aside0 (spec_l2Value.j0 kq a0 x17_1 = some r) ∧ Aside0 (kq ≤ k) ∧ Drawn0 w wc)
 case first =>
  have H := HC2.out
  clear HC2
  by_cases c3 : (a0.size : Int) > 10
  ·rw [if_pos c3] at H
   have c3b0 := dT c3
   have c3b1 : decide (10 < a0.size) = true := decide_eq_true (by omega)
   clear c3
   (first | rw [c3b0] | (simp only [i64_w, i32_w]; rw [c3b0]) | skip)
   have H' := am H
   clear H
   go_wp2
   go_meet
   case rel => exact ⟨_, (true), ey, H', ⟨by first | omega | exact Nat.le_refl _⟩, by repeat (first | exact Drawn0.refl _ | apply Drawn0.step)⟩
  rw [if_neg c3] at H
  have c3b0 := dF c3
  have c3b1 : decide (10 < a0.size) = false := decide_eq_false (by omega)
  clear c3
  (first | rw [c3b0] | (simp only [i64_w, i32_w]; rw [c3b0]) | skip)
  by_cases c4 : (a0.size : Int) > 1
  rotate_left
  ·rw [if_neg c4] at H
   have c4b0 := dF c4
   have c4b1 : decide (1 < a0.size) = false := decide_eq_false (by omega)
   clear c4
   have H' := am H
   clear H
   go_wp2
   go_meet
   case rel => exact ⟨_, (false), ey, H', ⟨by first | omega | exact Nat.le_refl _⟩, by repeat (first | exact Drawn0.refl _ | apply Drawn0.step)⟩
  rw [if_pos c4] at H
  have c4b0 := dT c4
  have c4b1 : decide (1 < a0.size) = true := decide_eq_true (by omega)
  clear c4
  by_cases c5 : 0 < (a0.size : Int)
  rotate_left
  ·rw [if_neg c5] at H
   exact absurd H (by simp)
  rw [if_pos c5] at H
  have c5b0 := dT c5
  have c5b1 : decide (0 < a0.size) = true := decide_eq_true (by omega)
  clear c5
  have H' := am H
  clear H
  have p6 : 0 ≤ (0 : Int) := (by omega)
  have q6 : 0 < a0.size := (by have : (0 : Int) < (a0.size : Int) := oz; omega)
  have hx6 : ∀ h : 0 < a0.size, ((a0[0]'h).toNat : Int) = bt a0 0 := bt_at a0 0
  clear p6
  have qi6 : (0 < (a0.size : Int)) = True := eq_true (oz)
  replace q6 := eq_true q6
  go_wp2
  go_meet
  case rel => exact ⟨_, (((bt a0 0) == 48)), ey, H', ⟨by first | omega | exact Nat.le_refl _⟩, by repeat (first | exact Drawn0.refl _ | apply Drawn0.step)⟩
 case rest =>
  clear HC2
  obtain ⟨kq, x17_1, rfl, HA, HJ1, ⟨mc1, rfl⟩⟩ := hcut
  cases kq with
  | zero => exact absurd HA.out (by simp [spec_l2Value.j0])
  | succ kj1 =>
   have H := HA.out
   clear HA
   simp only [spec_l2Value.j0] at H
   by_cases c7 : x17_1 = true
   ·subst c7
    rw [if_pos rfl] at H
    obtain rfl := Option.some.inj H
    go_wp2
    go_ret
    exact ⟨by first | rfl | (simp; done) | (simp [*]; done), by repeat (first | exact Drawn0.refl _ | apply Drawn0.step)⟩
   replace c7 := Bool.eq_false_iff.mpr c7
   subst c7
   rw [if_neg (show ¬ (false = true) by decide)] at H
   have H' := am H
   clear H
   go_wp2
   go_loopg [3, 4] kj1 (fun kq v3 v4 w' => ∃ (x3_2 : Int) (x4_2 : Int), v3 = .int .i64 x3_2 ∧ v4 = .int .i64 x4_2 ∧ Aside0 (spec_l2Value.l0 kq a0 x3_2 x4_2 = some r) ∧ Aside0 (kq ≤ kj1) ∧ Drawn0 w w')
   case atStart => exact ⟨(0), (0), ey, ey, H', ⟨Nat.le_refl _⟩, by repeat (first | exact Drawn0.refl _ | apply Drawn0.step)⟩
   case round =>
    clear H'
    try clear c7
    obtain ⟨x3_2, x4_2, rfl, rfl, HA, HK2, ⟨m2, rfl⟩⟩ := hrel
    cases gk with
    | zero => exact absurd HA.out (by simp [spec_l2Value.l0])
    | succ k2 =>
     have H := HA.out
     clear HA
     simp only [spec_l2Value.l0] at H
     by_cases c8 : x4_2 < (a0.size : Int)
     rotate_left
     ·rw [if_neg c8] at H
      have c8b0 := dF c8
      clear c8
      by_cases c11 : x3_2 > 2147483647
      ·rw [if_pos c11] at H
       have c11b0 := dT c11
       clear c11
       obtain rfl := Option.some.inj H
       go_wp2
       go_ret
       exact ⟨by first | rfl | (simp; done) | (simp [*]; done), by repeat (first | exact Drawn0.refl _ | apply Drawn0.step)⟩
      rw [if_neg c11] at H
      have c11b0 := dF c11
      clear c11
      obtain rfl := Option.some.inj H
      go_wp2
      go_ret
      exact ⟨by first | rfl | (simp; done) | (simp [*]; done), by repeat (first | exact Drawn0.refl _ | apply Drawn0.step)⟩
     rw [if_pos c8] at H
     have c8b0 := dT c8
     clear c8
     by_cases c9 : 0 ≤ x4_2
     rotate_left
     ·rw [if_neg c9] at H
      exact absurd H (by simp)
     rw [if_pos c9] at H
     have c9b0 := dT c9
     clear c9
     have H' := am H
     clear H
     have p10 : 0 ≤ (x4_2 : Int) := oz
     have q10 : x4_2 < (a0.size : Int) := oz
     have hx10 := bt_at a0 x4_2
     replace p10 := eq_true p10
     replace q10 := eq_true q10
     go_wp2
     go_roundg k2
     case measure => have := HJ1.out; have := HK2.out; omega
     case rel => exact ⟨(wrap64 ((wrap64 (x3_2 * 10)) + (((bt a0 x4_2) - 48) % 256))), (wrap64 (x4_2 + 1)), ey, ey, H', ⟨by have := HJ1.out; have := HK2.out; omega⟩, by repeat (first | exact Drawn0.refl _ | apply Drawn0.step)⟩

end Go.Proofs.YtnbpgnkplahknaaDoor.PFnLexBack
