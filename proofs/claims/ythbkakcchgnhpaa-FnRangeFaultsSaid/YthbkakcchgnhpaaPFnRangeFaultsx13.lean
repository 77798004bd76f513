/- Written by this session's own driver (wip/dprint.py): the functions that the law FnRangeFaults reaches, as Lean functions, each with its contract. -/
import Derived.Test.YthbkakcchgnhpaaPFnRangeFaultsx0
import Derived.Test.YthbkakcchgnhpaaSv
namespace Go.Proofs.Ythbkakcchgnhpaa.PFnRangeFaults
open Go.RowKit Go.Proofs.YthbkakcchgnhpaaV.PrintWords Go.Proofs.YthbkakcchgnhpaaV.PrintLast Go.Proofs.YthbkakcchgnhpaaV.PrintMore Go.Proofs.YthbkakcchgnhpaaSv
attribute [local go_sem] max2_int min2_int max_two min_two max_three min_three max_four min_four   -- for this text's walks alone
set_option linter.unusedVariables false
set_option linter.unusedSimpArgs false

/-! ### impl_numExact: function 61 -/
attribute [local go_sem] Go.Proofs.YthbkakcchgnhpaaSet.isSome_setCell
mutual
def impl_numExact.j0 : Nat → Int → Int → Int → Bool → Option (Int)
 | 0, _, _, _, _ => none
 | k + 1, x1, x2, x7, x8 => if x8 = true then (some (wrap64 (x1 + x2))) else (if x7 = 2 then (impl_numExact.j1 k x1 x2 x7 (x7 == 2)) else (impl_numExact.j1 k x1 x2 x7 (x7 == 12)))
def impl_numExact.j1 : Nat → Int → Int → Int → Bool → Option (Int)
 | 0, _, _, _, _ => none
 | k + 1, x1, x2, x7, x14 => if x14 = true then (some (wrap64 (x1 - x2))) else (if x7 = 3 then (impl_numExact.j2 k x1 x2 x7 (x7 == 3)) else (impl_numExact.j2 k x1 x2 x7 (x7 == 13)))
def impl_numExact.j2 : Nat → Int → Int → Int → Bool → Option (Int)
 | 0, _, _, _, _ => none
 | k + 1, x1, x2, x7, x20 => if x20 = true then (some (wrap64 (x1 * x2))) else (if x7 = 4 then (if x2 = 0 then (none) else (some (wrap64 (Int.tdiv x1 x2)))) else (if x7 = 5 then (if x2 = 0 then (none) else (some (Int.tmod x1 x2))) else (if x7 = 6 then (some (Go.bits .and .i64 x1 x2)) else (if x7 = 7 then (some (Go.bits .or .i64 x1 x2)) else (if x7 = 8 then (some (Go.bits .xor .i64 x1 x2)) else (if x7 = 9 then (if 0 ≤ (IntKind.u64.wrap (x2)) then (some (shl .i64 x1 (IntKind.u64.wrap (x2)))) else (none)) else (if x7 = 10 then (if 0 ≤ (IntKind.u64.wrap (x2)) then (some (shr .i64 x1 (IntKind.u64.wrap (x2)))) else (none)) else (some 0))))))))
end
def impl_numExact.f (k : Nat) (a0 : Int) (a1 : Int) (a2 : Int) : Option (Int) := if a0 = 1 then (impl_numExact.j0 k a1 a2 a0 (a0 == 1)) else (impl_numExact.j0 k a1 a2 a0 (a0 == 11))
theorem impl_numExact.mono_l : ∀ k, (∀ y0 y1 y2 y3, LeO (impl_numExact.j0 k y0 y1 y2 y3) (impl_numExact.j0 (k + 1) y0 y1 y2 y3)) ∧ (∀ y0 y1 y2 y3, LeO (impl_numExact.j1 k y0 y1 y2 y3) (impl_numExact.j1 (k + 1) y0 y1 y2 y3)) ∧ (∀ y0 y1 y2 y3, LeO (impl_numExact.j2 k y0 y1 y2 y3) (impl_numExact.j2 (k + 1) y0 y1 y2 y3))
 | 0 => ⟨fun _ _ _ _ r h => by simp [impl_numExact.j0] at h, fun _ _ _ _ r h => by simp [impl_numExact.j1] at h, fun _ _ _ _ r h => by simp [impl_numExact.j2] at h⟩
 | k + 1 => by
  obtain ⟨ih0, ih1, ih2⟩ := impl_numExact.mono_l k
  refine ⟨?_, ?_, ?_⟩ <;> (intros; (first | unfold impl_numExact.j0 | unfold impl_numExact.j1 | unfold impl_numExact.j2); repeat' first | (with_reducible first | apply ih0 | apply ih1 | apply ih2 | apply LeO.refl | apply LeO.none | refine LeO.ite ?_ ?_ | refine LeO.bind ?_ (fun _ => ?_)) | apply ih0 | apply ih1 | apply ih2 | apply LeO.none | refine LeO.ite ?_ ?_ | refine LeO.bind ?_ (fun _ => ?_))
theorem impl_numExact.mono : ∀ a0 a1 a2 k, LeO (impl_numExact.f k a0 a1 a2) (impl_numExact.f (k + 1) a0 a1 a2) := by
 intro a0 a1 a2 k
 obtain ⟨ih0, ih1, ih2⟩ := impl_numExact.mono_l k
 unfold impl_numExact.f
 repeat' first | (with_reducible first | apply ih0 | apply ih1 | apply ih2 | apply LeO.refl | apply LeO.none | refine LeO.ite ?_ ?_ | refine LeO.bind ?_ (fun _ => ?_)) | apply ih0 | apply ih1 | apply ih2 | apply LeO.none | refine LeO.ite ?_ ?_ | refine LeO.bind ?_ (fun _ => ?_)
set_option maxHeartbeats 8000000 in
set_option maxRecDepth 100000 in
theorem impl_numExact.calls (k : Nat) (a0 : Int) (a1 : Int) (a2 : Int) (r : Int) (w : World) (h : impl_numExact.f k a0 a1 a2 = some r) :
  Calls Try.prog 61 #[.int .i64 a0, .int .i64 a1, .int .i64 a2] w fun e w' => e = .returned (.int .i64 r) ∧ Drawn0 w w' := by
 have H : (if a0 = 1 then (impl_numExact.j0 k a1 a2 a0 (a0 == 1)) else (impl_numExact.j0 k a1 a2 a0 (a0 == 11))) = some r := h
 clear h
 have HC4 := am H
 clear H
 go_enter Try.func61, Try.ntmps61
 go_upto_if 8 with (fail)
 go_cut [8] (fun v8 wc => ∃ (kq : Nat) (x8_3 : Bool), v8 = .bool x8_3 ∧ Aside0 (impl_numExact.j0 kq a1 a2 a0 x8_3 = some r) ∧ Aside0 (kq ≤ k) ∧ Drawn0 w wc)
 case first =>
  have H := HC4.out
  clear HC4
  by_cases c5 : a0 = 1
  rotate_left
  ·rw [if_neg c5] at H
   have c5b0 := eF c5
   have c5b1 := nT c5
   (first | rw [c5b0] | (simp only [i64_w, i32_w]; rw [c5b0]) | skip)
   have H' := am H
   clear H
   go_wp2
   go_meet
   case rel => exact ⟨_, ((a0 == 11)), ey, H', le0, by repeat (first | exact Drawn0.refl _ | apply Drawn0.step)⟩
  rw [if_pos c5] at H
  have c5b0 := eT c5
  have c5b1 := nF c5
  clear c5
  (first | rw [c5b0] | (simp only [i64_w, i32_w]; rw [c5b0]) | skip)
  have H' := am H
  clear H
  go_wp2
  go_meet
  case rel => exact ⟨_, ((a0 == 1)), ey, H', le0, by repeat (first | exact Drawn0.refl _ | apply Drawn0.step)⟩
 case rest =>
  clear HC4
  obtain ⟨kq, x8_3, rfl, HA, HJ3, ⟨mc3, rfl⟩⟩ := hcut
  cases kq with
  | zero => exact absurd HA.out (by simp [impl_numExact.j0])
  | succ kj3 =>
   have H := HA.out
   clear HA
   simp only [impl_numExact.j0] at H
   by_cases c6 : x8_3 = true
   ·subst c6
    rw [if_pos rfl] at H
    obtain rfl := Option.some.inj H
    go_wp2
    go_ret
    exact ⟨by first | rfl | (simp; done) | (simp [*]; done), by repeat (first | exact Drawn0.refl _ | apply Drawn0.step)⟩
   replace c6 := Bool.eq_false_iff.mpr c6
   subst c6
   rw [if_neg ff] at H
   have HC7 := am H
   clear H
   go_upto_if 14 with (fail)
   go_cut [14] (fun v14 wc => ∃ (kq : Nat) (x14_6 : Bool), v14 = .bool x14_6 ∧ Aside0 (impl_numExact.j1 kq a1 a2 a0 x14_6 = some r) ∧ Aside0 (kq ≤ kj3) ∧ Drawn0 w wc)
   case first =>
    have H := HC7.out
    clear HC7
    by_cases c8 : a0 = 2
    rotate_left
    ·rw [if_neg c8] at H
     have c8b0 := eF c8
     have c8b1 := nT c8
     (first | rw [c8b0] | (simp only [i64_w, i32_w]; rw [c8b0]) | skip)
     have H' := am H
     clear H
     go_wp2
     go_meet
     case rel => exact ⟨_, ((a0 == 12)), ey, H', le1 HJ3, by repeat (first | exact Drawn0.refl _ | apply Drawn0.step)⟩
    rw [if_pos c8] at H
    have c8b0 := eT c8
    have c8b1 := nF c8
    clear c8
    (first | rw [c8b0] | (simp only [i64_w, i32_w]; rw [c8b0]) | skip)
    have H' := am H
    clear H
    go_wp2
    go_meet
    case rel => exact ⟨_, ((a0 == 2)), ey, H', le1 HJ3, by repeat (first | exact Drawn0.refl _ | apply Drawn0.step)⟩
   case rest =>
    clear HC7
    try clear c6
    obtain ⟨kq, x14_6, rfl, HA, HJ6, ⟨mc6, rfl⟩⟩ := hcut
    cases kq with
    | zero => exact absurd HA.out (by simp [impl_numExact.j1])
    | succ kj6 =>
     have H := HA.out
     clear HA
     simp only [impl_numExact.j1] at H
     by_cases c9 : x14_6 = true
     ·subst c9
      rw [if_pos rfl] at H
      obtain rfl := Option.some.inj H
      go_wp2
      go_ret
      exact ⟨by first | rfl | (simp; done) | (simp [*]; done), by repeat (first | exact Drawn0.refl _ | apply Drawn0.step)⟩
     replace c9 := Bool.eq_false_iff.mpr c9
     subst c9
     rw [if_neg ff] at H
     have HC10 := am H
     clear H
     go_upto_if 20 with (fail)
     go_cut [20] (fun v20 wc => ∃ (kq : Nat) (x20_9 : Bool), v20 = .bool x20_9 ∧ Aside0 (impl_numExact.j2 kq a1 a2 a0 x20_9 = some r) ∧ Aside0 (kq ≤ kj6) ∧ Drawn0 w wc)
     case first =>
      have H := HC10.out
      clear HC10
      by_cases c11 : a0 = 3
      rotate_left
      ·rw [if_neg c11] at H
       have c11b0 := eF c11
       have c11b1 := nT c11
       (first | rw [c11b0] | (simp only [i64_w, i32_w]; rw [c11b0]) | skip)
       have H' := am H
       clear H
       go_wp2
       go_meet
       case rel => exact ⟨_, ((a0 == 13)), ey, H', ⟨by have := HJ3.out; have := HJ6.out; first | omega | exact Nat.le_refl _⟩, by repeat (first | exact Drawn0.refl _ | apply Drawn0.step)⟩
      rw [if_pos c11] at H
      have c11b0 := eT c11
      have c11b1 := nF c11
      clear c11
      (first | rw [c11b0] | (simp only [i64_w, i32_w]; rw [c11b0]) | skip)
      have H' := am H
      clear H
      go_wp2
      go_meet
      case rel => exact ⟨_, ((a0 == 3)), ey, H', ⟨by have := HJ3.out; have := HJ6.out; first | omega | exact Nat.le_refl _⟩, by repeat (first | exact Drawn0.refl _ | apply Drawn0.step)⟩
     case rest =>
      clear HC10
      try clear c9
      obtain ⟨kq, x20_9, rfl, HA, HJ9, ⟨mc9, rfl⟩⟩ := hcut
      cases kq with
      | zero => exact absurd HA.out (by simp [impl_numExact.j2])
      | succ kj9 =>
       have H := HA.out
       clear HA
       simp only [impl_numExact.j2] at H
       by_cases c12 : x20_9 = true
       ·subst c12
        rw [if_pos rfl] at H
        obtain rfl := Option.some.inj H
        go_wp2
        go_ret
        exact ⟨by first | rfl | (simp; done) | (simp [*]; done), by repeat (first | exact Drawn0.refl _ | apply Drawn0.step)⟩
       replace c12 := Bool.eq_false_iff.mpr c12
       subst c12
       rw [if_neg ff] at H
       by_cases c13 : a0 = 4
       ·rw [if_pos c13] at H
        have c13b0 := eT c13
        have c13b1 := nF c13
        clear c13
        by_cases c14 : a2 = 0
        ·rw [if_pos c14] at H
         exact absurd H (by simp)
        rw [if_neg c14] at H
        have c14b0 := eF c14
        have c14b1 := nT c14
        obtain rfl := Option.some.inj H
        go_wp2
        go_ret
        exact ⟨by first | rfl | (simp; done) | (simp [*]; done), by repeat (first | exact Drawn0.refl _ | apply Drawn0.step)⟩
       rw [if_neg c13] at H
       have c13b0 := eF c13
       have c13b1 := nT c13
       by_cases c15 : a0 = 5
       ·rw [if_pos c15] at H
        have c15b0 := eT c15
        have c15b1 := nF c15
        clear c15
        by_cases c16 : a2 = 0
        ·rw [if_pos c16] at H
         exact absurd H (by simp)
        rw [if_neg c16] at H
        have c16b0 := eF c16
        have c16b1 := nT c16
        obtain rfl := Option.some.inj H
        go_wp2
        go_ret
        exact ⟨by first | rfl | (simp; done) | (simp [*]; done), by repeat (first | exact Drawn0.refl _ | apply Drawn0.step)⟩
       rw [if_neg c15] at H
       have c15b0 := eF c15
       have c15b1 := nT c15
       by_cases c17 : a0 = 6
       ·rw [if_pos c17] at H
        have c17b0 := eT c17
        have c17b1 := nF c17
        clear c17
        obtain rfl := Option.some.inj H
        go_wp2
        go_ret
        exact ⟨by first | rfl | (simp; done) | (simp [*]; done), by repeat (first | exact Drawn0.refl _ | apply Drawn0.step)⟩
       rw [if_neg c17] at H
       have c17b0 := eF c17
       have c17b1 := nT c17
       by_cases c18 : a0 = 7
       ·rw [if_pos c18] at H
        have c18b0 := eT c18
        have c18b1 := nF c18
        clear c18
        obtain rfl := Option.some.inj H
        go_wp2
        go_ret
        exact ⟨by first | rfl | (simp; done) | (simp [*]; done), by repeat (first | exact Drawn0.refl _ | apply Drawn0.step)⟩
       rw [if_neg c18] at H
       have c18b0 := eF c18
       have c18b1 := nT c18
       by_cases c19 : a0 = 8
       ·rw [if_pos c19] at H
        have c19b0 := eT c19
        have c19b1 := nF c19
        clear c19
        obtain rfl := Option.some.inj H
        go_wp2
        go_ret
        exact ⟨by first | rfl | (simp; done) | (simp [*]; done), by repeat (first | exact Drawn0.refl _ | apply Drawn0.step)⟩
       rw [if_neg c19] at H
       have c19b0 := eF c19
       have c19b1 := nT c19
       by_cases c20 : a0 = 9
       ·rw [if_pos c20] at H
        have c20b0 := eT c20
        have c20b1 := nF c20
        clear c20
        obtain ⟨ji21, hji21⟩ : ∃ j_ : Int, (IntKind.u64.wrap (a2)) = j_ := ⟨_, rfl⟩
        replace H : (if 0 ≤ (ji21) then (some (shl .i64 a1 (ji21))) else (none)) = some r := by first | (rw [hji21] at H; exact H) | (simp only [hji21] at H ⊢; exact H)
        by_cases c22 : 0 ≤ (ji21)
        rotate_left
        ·rw [if_neg c22] at H
         exact absurd H (by simp)
        rw [if_pos c22] at H
        have c22b0 := eq_true c22
        have c22b1 := dT c22
        clear c22
        obtain ⟨ji23, hji23⟩ : ∃ j_ : Int, (shl .i64 a1 (ji21)) = j_ := ⟨_, rfl⟩
        replace H : (some ji23) = some r := by first | (rw [hji23] at H; exact H) | (simp only [hji23] at H ⊢; exact H)
        have hji23_ : (IntKind.i64.wrap (a1 * 2 ^ min (ji21).toNat 64)) = ji23 := hji23
        have hji23z : (ji21) ≤ 64 → (IntKind.i64.wrap (a1 * 2 ^ (ji21).toNat)) = ji23 := shl_small hji23
        have hji23y : (wrap64 (a1 * 2 ^ min (ji21).toNat 64)) = ji23 := (i64_w _).symm.trans hji23_
        have hji23x : (ji21) ≤ 64 → (wrap64 (a1 * 2 ^ (ji21).toNat)) = ji23 := fun h_ => (i64_w _).symm.trans (hji23z h_)
        obtain rfl := Option.some.inj H
        go_wp2
        go_ret
        exact ⟨by first | rfl | (simp; done) | (simp only [← hji21, ← hji23] <;> (first | rfl | simp)) | (simp [*]; done), by repeat (first | exact Drawn0.refl _ | apply Drawn0.step)⟩
       rw [if_neg c20] at H
       have c20b0 := eF c20
       have c20b1 := nT c20
       by_cases c24 : a0 = 10
       rotate_left
       ·rw [if_neg c24] at H
        have c24b0 := eF c24
        have c24b1 := nT c24
        obtain rfl := Option.some.inj H
        go_wp2
        go_ret
        exact ⟨by first | rfl | (simp; done) | (simp [*]; done), by repeat (first | exact Drawn0.refl _ | apply Drawn0.step)⟩
       rw [if_pos c24] at H
       have c24b0 := eT c24
       have c24b1 := nF c24
       clear c24
       obtain ⟨ji25, hji25⟩ : ∃ j_ : Int, (IntKind.u64.wrap (a2)) = j_ := ⟨_, rfl⟩
       replace H : (if 0 ≤ (ji25) then (some (shr .i64 a1 (ji25))) else (none)) = some r := by first | (rw [hji25] at H; exact H) | (simp only [hji25] at H ⊢; exact H)
       by_cases c26 : 0 ≤ (ji25)
       rotate_left
       ·rw [if_neg c26] at H
        exact absurd H (by simp)
       rw [if_pos c26] at H
       have c26b0 := eq_true c26
       have c26b1 := dT c26
       clear c26
       obtain ⟨ji27, hji27⟩ : ∃ j_ : Int, (shr .i64 a1 (ji25)) = j_ := ⟨_, rfl⟩
       replace H : (some ji27) = some r := by first | (rw [hji27] at H; exact H) | (simp only [hji27] at H ⊢; exact H)
       have hji27_ : (a1 / 2 ^ min (ji25).toNat 64) = ji27 := hji27
       have hji27z : (ji25) ≤ 64 → (a1 / 2 ^ (ji25).toNat) = ji27 := shr_small hji27
       obtain rfl := Option.some.inj H
       go_wp2
       go_ret
       exact ⟨by first | rfl | (simp; done) | (simp only [← hji25, ← hji27] <;> (first | rfl | simp)) | (simp [*]; done), by repeat (first | exact Drawn0.refl _ | apply Drawn0.step)⟩

end Go.Proofs.Ythbkakcchgnhpaa.PFnRangeFaults
