/- Written by this session's own driver (wip/dprint.py): the functions that the law FnRangeMore reaches, as Lean functions, each with its contract. -/
import Derived.Test.YthbkakcchgnhpaaPFnRangeMorex0
import Derived.Test.YthbkakcchgnhpaaSv
namespace Go.Proofs.Ythbkakcchgnhpaa.PFnRangeMore
open Go.RowKit Go.Proofs.YthbkakcchgnhpaaV.PrintWords Go.Proofs.YthbkakcchgnhpaaV.PrintLast Go.Proofs.YthbkakcchgnhpaaV.PrintMore Go.Proofs.YthbkakcchgnhpaaSv
attribute [local go_sem] max2_int min2_int max_two min_two max_three min_three max_four min_four   -- for this text's walks alone
set_option linter.unusedVariables false
set_option linter.unusedSimpArgs false

/-! ### spec_l8Mask: function 91 -/
attribute [local go_sem] Go.Proofs.YthbkakcchgnhpaaSet.isSome_setCell
def spec_l8Mask.l0 : Nat → Int → Int → Option (Int)
 | 0, _, _ => none
 | k + 1, x1, x2 => if x2 < x1 then (spec_l8Mask.l0 k x1 (wrap64 ((wrap64 (2 * x2)) + 1))) else (some x2)
def spec_l8Mask.f (k : Nat) (a0 : Int) : Option (Int) := spec_l8Mask.l0 k a0 0
theorem spec_l8Mask.mono_l : ∀ k, (∀ y0 y1, LeO (spec_l8Mask.l0 k y0 y1) (spec_l8Mask.l0 (k + 1) y0 y1))
 | 0 => fun _ _ r h => by simp [spec_l8Mask.l0] at h
 | k + 1 => by
  have ih0 := spec_l8Mask.mono_l k
  ·intro y0 y1
   unfold spec_l8Mask.l0
   repeat' first | (with_reducible first | apply ih0 | apply LeO.refl | apply LeO.none | refine LeO.ite ?_ ?_ | refine LeO.bind ?_ (fun _ => ?_)) | apply ih0 | apply LeO.none | refine LeO.ite ?_ ?_ | refine LeO.bind ?_ (fun _ => ?_)
theorem spec_l8Mask.mono : ∀ a0 k, LeO (spec_l8Mask.f k a0) (spec_l8Mask.f (k + 1) a0) := by
 intro a0 k
 have ih0 := spec_l8Mask.mono_l k
 unfold spec_l8Mask.f
 repeat' first | (with_reducible first | apply ih0 | apply LeO.refl | apply LeO.none | refine LeO.ite ?_ ?_ | refine LeO.bind ?_ (fun _ => ?_)) | apply ih0 | apply LeO.none | refine LeO.ite ?_ ?_ | refine LeO.bind ?_ (fun _ => ?_)
set_option maxHeartbeats 8000000 in
set_option maxRecDepth 100000 in
theorem spec_l8Mask.calls (k : Nat) (a0 : Int) (r : Int) (w : World) (h : spec_l8Mask.f k a0 = some r) :
  Calls Try.prog 91 #[.int .i64 a0] w fun e w' => e = .returned (.int .i64 r) ∧ Drawn0 w w' := by
 have H : (spec_l8Mask.l0 k a0 0) = some r := h
 clear h
 have H' := am H
 clear H
 go_enter Try.func91, Try.ntmps91
 go_wp2
 go_loopg [3] k (fun kq v1 w' => ∃ (x1 : Int), v1 = .int .i64 x1 ∧ Aside0 (spec_l8Mask.l0 kq a0 x1 = some r) ∧ Aside0 (kq ≤ k) ∧ Drawn0 w w')
 case atStart => exact ⟨(0), ey, H', ⟨Nat.le_refl _⟩, by repeat (first | exact Drawn0.refl _ | apply Drawn0.step)⟩
 case round =>
  clear H'
  obtain ⟨x1, rfl, HA, HK1, ⟨m1, rfl⟩⟩ := hrel
  cases gk with
  | zero => exact absurd HA.out (by simp [spec_l8Mask.l0])
  | succ k1 =>
   have H := HA.out
   clear HA
   simp only [spec_l8Mask.l0] at H
   by_cases c1 : x1 < a0
   rotate_left
   ·rw [if_neg c1] at H
    have d1 := dF c1
    clear c1
    obtain rfl := Option.some.inj H
    go_wp2
    go_ret
    exact ⟨by first | rfl | (simp; done) | (simp [*]; done), by repeat (first | exact Drawn0.refl _ | apply Drawn0.step)⟩
   rw [if_pos c1] at H
   have d1 := dT c1
   clear c1
   have H' := am H
   clear H
   go_wp2
   go_roundg k1
   case measure => have := HK1.out; omega
   case rel => exact ⟨(wrap64 ((wrap64 (2 * x1)) + 1)), ey, H', ⟨by have := HK1.out; omega⟩, by repeat (first | exact Drawn0.refl _ | apply Drawn0.step)⟩

end Go.Proofs.Ythbkakcchgnhpaa.PFnRangeMore
