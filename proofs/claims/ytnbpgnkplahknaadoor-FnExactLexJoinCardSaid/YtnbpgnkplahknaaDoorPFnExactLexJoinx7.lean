/- Written by this session's own driver (wip/dprint.py): the functions that the law FnExactLexJoin reaches, as Lean functions, each with its contract. -/
import Derived.Test.YtnbpgnkplahknaaDoorPFnExactLexJoinx0
import Derived.Test.YtnbpgnkplahknaaDoorPFnExactLexJoinx6
import Derived.Test.YtnbpgnkplahknaaDoorSq
namespace Go.Proofs.YtnbpgnkplahknaaDoor.PFnExactLexJoin
open Go.RowKit Go.Proofs.YtnbpgnkplahknaaDoorW.PrintWords Go.Proofs.YtnbpgnkplahknaaDoorW.PrintLast Go.Proofs.YtnbpgnkplahknaaDoorW.PrintMore Go.Proofs.YtnbpgnkplahknaaDoorSq
attribute [local go_sem] max2_int min2_int max_two min_two max_three min_three max_four min_four   -- for this text's walks alone
set_option linter.unusedVariables false
set_option linter.unusedSimpArgs false

/-! ### impl_lexNumber: function 47 -/
attribute [local go_sem] Go.Proofs.YtnbpgnkplahknaaDoorSet.isSome_setCell
def impl_lexNumber.j0 : Nat → ByteArray → Bool → Option (Int × Bool)
 | 0, _, _ => none
 | k + 1, x0, x18 => if x18 = true then (some (0, false)) else ((strconv_Atoi.f x0).bind fun bt176 => (if bt176.2.isNone = true then (if bt176.1 > 2147483647 then (some (0, false)) else (some (bt176.1, true))) else (some (0, false))))
def impl_lexNumber.f (k : Nat) (a0 : ByteArray) : Option (Int × Bool) := if (a0.size : Int) > 1 then (if 0 < (a0.size : Int) then (if (bt a0 0) = 48 then (impl_lexNumber.j0 k a0 true) else (impl_lexNumber.j0 k a0 (decide ((a0.size : Int) > 10)))) else (none)) else (impl_lexNumber.j0 k a0 (decide ((a0.size : Int) > 10)))
theorem impl_lexNumber.mono_l : ∀ k, (∀ y0 y1, LeO (impl_lexNumber.j0 k y0 y1) (impl_lexNumber.j0 (k + 1) y0 y1))
 | 0 => fun _ _ r h => by simp [impl_lexNumber.j0] at h
 | k + 1 => by
  have ih0 := impl_lexNumber.mono_l k
  ·intro y0 y1
   unfold impl_lexNumber.j0
   repeat' first
   | (with_reducible exact ih0 _ _)
   | (with_reducible exact LeO.refl _)
   | (with_reducible exact LeO.none _)
   | (with_reducible refine LeO.ite ?_ ?_)
   | (with_reducible refine LeO.bind ?_ (fun _ => ?_))
   | exact ih0 _ _
   | exact LeO.none _
   | refine LeO.ite ?_ ?_
   | refine LeO.bind ?_ (fun _ => ?_)
theorem impl_lexNumber.mono : ∀ a0 k, LeO (impl_lexNumber.f k a0) (impl_lexNumber.f (k + 1) a0) := by
 intro a0 k
 have ih0 := impl_lexNumber.mono_l k
 unfold impl_lexNumber.f
 repeat' first
   | (with_reducible exact ih0 _ _)
   | (with_reducible exact LeO.refl _)
   | (with_reducible exact LeO.none _)
   | (with_reducible refine LeO.ite ?_ ?_)
   | (with_reducible refine LeO.bind ?_ (fun _ => ?_))
   | exact ih0 _ _
   | exact LeO.none _
   | refine LeO.ite ?_ ?_
   | refine LeO.bind ?_ (fun _ => ?_)
set_option maxHeartbeats 8000000 in
set_option maxRecDepth 100000 in
theorem impl_lexNumber.calls (k : Nat) (a0 : ByteArray) (r1 : Int) (r2 : Bool) (w : World) (h : impl_lexNumber.f k a0 = some (r1, r2)) :
  Calls Tryd.prog 47 #[.string a0] w fun e w' => e = .returned (.tuple #[.int .i64 r1, .bool r2]) ∧ Below w.heap.size w w' := by
 have hu73 := Tryd.underlying73
 have HB := am (Below.refl w.heap.size w)
 have H : (if (a0.size : Int) > 1 then (if 0 < (a0.size : Int) then (if (bt a0 0) = 48 then (impl_lexNumber.j0 k a0 true) else (impl_lexNumber.j0 k a0 (decide ((a0.size : Int) > 10)))) else (none)) else (impl_lexNumber.j0 k a0 (decide ((a0.size : Int) > 10)))) = some (r1, r2) := h
 clear h
 have HC2 := am H
 clear H
 go_enter Tryd.func47, Tryd.ntmps47
 go_upto_region 1 with (fail)
 go_cut [18] (fun v18 wc => ∃ (kq : Nat) (x18_1 : Bool), v18 = .bool x18_1 ∧ Aside0 (impl_lexNumber.j0 kq a0 x18_1 = some (r1, r2)) ∧ Aside0 (kq ≤ k) ∧ Aside0 (Below w.heap.size w wc))
 case first =>
  have H := HC2.out
  clear HC2
  by_cases c3 : (a0.size : Int) > 1
  rotate_left
  ·rw [if_neg c3] at H
   have c3b0 : decide (1 < (a0.size : Int)) = false := decide_eq_false c3
   have c3b1 : decide (1 < a0.size) = false := decide_eq_false (by omega)
   clear c3
   (first | rw [c3b0] | (simp only [i64_w, i32_w]; rw [c3b0]) | skip)
   have H' := am H
   clear H
   go_wp2
   go_meet
   case rel => exact ⟨_, (decide ((a0.size : Int) > 10)), ey, H', ⟨by first | omega | exact Nat.le_refl _⟩, ⟨Y0 HB⟩⟩
  rw [if_pos c3] at H
  have c3b0 : decide (1 < (a0.size : Int)) = true := decide_eq_true c3
  have c3b1 : decide (1 < a0.size) = true := decide_eq_true (by omega)
  clear c3
  (first | rw [c3b0] | (simp only [i64_w, i32_w]; rw [c3b0]) | skip)
  by_cases c4 : 0 < (a0.size : Int)
  rotate_left
  ·rw [if_neg c4] at H
   exact absurd H (by simp)
  rw [if_pos c4] at H
  have c4b0 : decide (0 < (a0.size : Int)) = true := decide_eq_true c4
  have c4b1 : decide (0 < a0.size) = true := decide_eq_true (by omega)
  clear c4
  by_cases c6 : (bt a0 0) = 48
  ·rw [if_pos c6] at H
   have c6b0 : ((bt a0 0) == 48) = true := beq_iff_eq.mpr c6
   have c6b1 : ((bt a0 0) != 48) = false := bne_eq_false_iff_eq.mpr c6
   clear c6
   have H' := am H
   clear H
   have p5 : 0 ≤ (0 : Int) := (by omega)
   have q5 : 0 < a0.size := (by have : (0 : Int) < (a0.size : Int) := oz; omega)
   have hx5 : ∀ h : 0 < a0.size, ((a0[0]'h).toNat : Int) = bt a0 0 := bt_at a0 0
   clear p5
   have qi5 : (0 < (a0.size : Int)) = True := eq_true (oz)
   replace q5 := eq_true q5
   go_wp2
   go_meet
   case rel => exact ⟨_, (true), ey, H', ⟨by first | omega | exact Nat.le_refl _⟩, ⟨Y0 HB⟩⟩
  rw [if_neg c6] at H
  have c6b0 : ((bt a0 0) == 48) = false := beq_eq_false_iff_ne.mpr c6
  have c6b1 : ((bt a0 0) != 48) = true := bne_iff_ne.mpr c6
  have H' := am H
  clear H
  have p5 : 0 ≤ (0 : Int) := (by omega)
  have q5 : 0 < a0.size := (by have : (0 : Int) < (a0.size : Int) := oz; omega)
  have hx5 : ∀ h : 0 < a0.size, ((a0[0]'h).toNat : Int) = bt a0 0 := bt_at a0 0
  clear p5
  have qi5 : (0 < (a0.size : Int)) = True := eq_true (oz)
  replace q5 := eq_true q5
  go_wp2
  go_meet
  case rel => exact ⟨_, (decide ((a0.size : Int) > 10)), ey, H', ⟨by first | omega | exact Nat.le_refl _⟩, ⟨Y0 HB⟩⟩
 case rest =>
  clear HC2
  obtain ⟨kq, x18_1, rfl, HA, HJ1, HB⟩ := hcut
  cases kq with
  | zero => exact absurd HA.out (by simp [impl_lexNumber.j0])
  | succ kj1 =>
   have H := HA.out
   clear HA
   simp only [impl_lexNumber.j0] at H
   by_cases c7 : x18_1 = true
   ·subst c7
    rw [if_pos rfl] at H
    simp only [Option.some.injEq, Prod.mk.injEq] at H
    obtain ⟨rfl, rfl⟩ := H
    go_wp2
    go_ret2
    exact ⟨ez, Y0 HB⟩
   replace c7 := Bool.eq_false_iff.mpr c7
   subst c7
   rw [if_neg (show ¬ (false = true) by decide)] at H
   replace H := Option.bind_eq_some_iff.mp H
   obtain ⟨⟨t176, t177⟩, A80, H⟩ := H
   try dsimp only at H
   have A8 := am A80
   clear A80
   rcases t177 with _ | q178
   rotate_left
   ·have H1 : (some (0, false)) = some (r1, r2) := by rw [if_neg (show ¬ (some q178).isNone = true by simp)] at H; exact H
    clear H
    have H := H1
    clear H1
    try simp only [errW_none, errW_some]
    simp only [Option.some.injEq, Prod.mk.injEq] at H
    obtain ⟨rfl, rfl⟩ := H
    go_wp2_with (first | ((with_reducible refine gate_callee (f := 54) rfl ?_); refine goesL_ (some 21) rfl rfl Tryd.func54 (by kernel_rfl) rfl #[.string a0] rfl mz ?_; (with_reducible refine (strconv_Atoi.calls a0 t176 (some q178) _ A8.out).mono ?_); rintro e w12 ⟨rfl, hb⟩; refine ⟨_, rfl, ?_⟩; replace HB := am (below_step (Y0 HB) hb); (try clear hb); (try simp only [errW_none, errW_some])))
    go_ret2
    exact ⟨ez, Y0 HB⟩
   have H1 : (if t176 > 2147483647 then (some (0, false)) else (some (t176, true))) = some (r1, r2) := by rw [if_pos (show (none : Option Int).isNone = true by rfl)] at H; exact H
   clear H
   have H := H1
   clear H1
   try simp only [errW_none, errW_some]
   by_cases c9 : t176 > 2147483647
   ·rw [if_pos c9] at H
    have c9b0 : decide (2147483647 < t176) = true := decide_eq_true c9
    clear c9
    simp only [Option.some.injEq, Prod.mk.injEq] at H
    obtain ⟨rfl, rfl⟩ := H
    go_wp2_with (first | ((with_reducible refine gate_callee (f := 54) rfl ?_); refine goesL_ (some 21) rfl rfl Tryd.func54 (by kernel_rfl) rfl #[.string a0] rfl mz ?_; (with_reducible refine (strconv_Atoi.calls a0 t176 none _ A8.out).mono ?_); rintro e w10 ⟨rfl, hb⟩; refine ⟨_, rfl, ?_⟩; replace HB := am (below_step (Y0 HB) hb); (try clear hb); (try simp only [errW_none, errW_some])))
    go_ret2
    exact ⟨ez, Y0 HB⟩
   rw [if_neg c9] at H
   have c9b0 : decide (2147483647 < t176) = false := decide_eq_false c9
   clear c9
   simp only [Option.some.injEq, Prod.mk.injEq] at H
   obtain ⟨rfl, rfl⟩ := H
   go_wp2_with (first | ((with_reducible refine gate_callee (f := 54) rfl ?_); refine goesL_ (some 21) rfl rfl Tryd.func54 (by kernel_rfl) rfl #[.string a0] rfl mz ?_; (with_reducible refine (strconv_Atoi.calls a0 t176 none _ A8.out).mono ?_); rintro e w11 ⟨rfl, hb⟩; refine ⟨_, rfl, ?_⟩; replace HB := am (below_step (Y0 HB) hb); (try clear hb); (try simp only [errW_none, errW_some])))
   go_ret2
   exact ⟨ez, Y0 HB⟩

end Go.Proofs.YtnbpgnkplahknaaDoor.PFnExactLexJoin
