/- Written by this session's own driver (wip/dprint.py): the functions that the law FnRangeMore reaches, as Lean functions, each with its contract. -/
import Derived.Test.YthbkakcchgnhpaaPFnRangeMorex0
import Derived.Test.YthbkakcchgnhpaaSv
namespace Go.Proofs.Ythbkakcchgnhpaa.PFnRangeMore
open Go.RowKit Go.Proofs.YthbkakcchgnhpaaV.PrintWords Go.Proofs.YthbkakcchgnhpaaV.PrintLast Go.Proofs.YthbkakcchgnhpaaV.PrintMore Go.Proofs.YthbkakcchgnhpaaSv
attribute [local go_sem] max2_int min2_int max_two min_two max_three min_three max_four min_four   -- for this text's walks alone
set_option linter.unusedVariables false
set_option linter.unusedSimpArgs false

/-! ### impl_numExact: function 61 -/
attribute [local go_sem] Go.Proofs.YthbkakcchgnhpaaSet.isSome_setCell
mutual
def impl_numExact.j0 : Nat → Int → Int → Int → Bool → Option (Int)
 | 0, _, _, _, _ => none
 | k + 1, x1, x2, x3, x4 => if x4 = true then (some (wrap64 (x1 + x2))) else (if x3 = 2 then (impl_numExact.j1 k x1 x2 x3 (x3 == 2)) else (impl_numExact.j1 k x1 x2 x3 (x3 == 12)))
def impl_numExact.j1 : Nat → Int → Int → Int → Bool → Option (Int)
 | 0, _, _, _, _ => none
 | k + 1, x1, x2, x3, x4 => if x4 = true then (some (wrap64 (x1 - x2))) else (if x3 = 3 then (impl_numExact.j2 k x1 x2 x3 (x3 == 3)) else (impl_numExact.j2 k x1 x2 x3 (x3 == 13)))
def impl_numExact.j2 : Nat → Int → Int → Int → Bool → Option (Int)
 | 0, _, _, _, _ => none
 | k + 1, x1, x2, x3, x4 => if x4 = true then (some (wrap64 (x1 * x2))) else (if x3 = 4 then (if x2 = 0 then (none) else (some (wrap64 (Int.tdiv x1 x2)))) else (if x3 = 5 then (if x2 = 0 then (none) else (some (Int.tmod x1 x2))) else (if x3 = 6 then (some (Go.bits .and .i64 x1 x2)) else (if x3 = 7 then (some (Go.bits .or .i64 x1 x2)) else (if x3 = 8 then (some (Go.bits .xor .i64 x1 x2)) else (if x3 = 9 then (if 0 ≤ (IntKind.u64.wrap (x2)) then (some (shl .i64 x1 (IntKind.u64.wrap (x2)))) else (none)) else (if x3 = 10 then (if 0 ≤ (IntKind.u64.wrap (x2)) then (some (shr .i64 x1 (IntKind.u64.wrap (x2)))) else (none)) else (some 0))))))))
end
def impl_numExact.f (k : Nat) (a0 : Int) (a1 : Int) (a2 : Int) : Option (Int) := if a0 = 1 then (impl_numExact.j0 k a1 a2 a0 (a0 == 1)) else (impl_numExact.j0 k a1 a2 a0 (a0 == 11))
theorem impl_numExact.mono_l : ∀ k, (∀ y0 y1 y2 y3, LeO (impl_numExact.j0 k y0 y1 y2 y3) (impl_numExact.j0 (k + 1) y0 y1 y2 y3)) ∧ (∀ y0 y1 y2 y3, LeO (impl_numExact.j1 k y0 y1 y2 y3) (impl_numExact.j1 (k + 1) y0 y1 y2 y3)) ∧ (∀ y0 y1 y2 y3, LeO (impl_numExact.j2 k y0 y1 y2 y3) (impl_numExact.j2 (k + 1) y0 y1 y2 y3))
 | 0 => ⟨fun _ _ _ _ r h => by simp [impl_numExact.j0] at h, fun _ _ _ _ r h => by simp [impl_numExact.j1] at h, fun _ _ _ _ r h => by simp [impl_numExact.j2] at h⟩
 | k + 1 => by
  obtain ⟨ih0, ih1, ih2⟩ := impl_numExact.mono_l k
  refine ⟨?_, ?_, ?_⟩ <;> (intros; (first | unfold impl_numExact.j0 | unfold impl_numExact.j1 | unfold impl_numExact.j2); repeat' first | (with_reducible first | apply ih0 | apply ih1 | apply ih2 | apply LeO.refl | apply LeO.none | refine LeO.ite ?_ ?_ | refine LeO.bind ?_ (fun _ => ?_)) | apply ih0 | apply ih1 | apply ih2 | apply LeO.none | refine LeO.ite ?_ ?_ | refine LeO.bind ?_ (fun _ => ?_))
theorem impl_numExact.mono : ∀ a0 a1 a2 k, LeO (impl_numExact.f k a0 a1 a2) (impl_numExact.f (k + 1) a0 a1 a2) := by
 intro a0 a1 a2 k
 obtain ⟨ih0, ih1, ih2⟩ := impl_numExact.mono_l k
 unfold impl_numExact.f
 repeat' first | (with_reducible first | apply ih0 | apply ih1 | apply ih2 | apply LeO.refl | apply LeO.none | refine LeO.ite ?_ ?_ | refine LeO.bind ?_ (fun _ => ?_)) | apply ih0 | apply ih1 | apply ih2 | apply LeO.none | refine LeO.ite ?_ ?_ | refine LeO.bind ?_ (fun _ => ?_)
set_option maxHeartbeats 8000000 in
set_option maxRecDepth 100000 in
theorem impl_numExact.calls (k : Nat) (a0 : Int) (a1 : Int) (a2 : Int) (r : Int) (w : World) (h : impl_numExact.f k a0 a1 a2 = some r) :
  Calls Try.prog 61 #[.int .i64 a0, .int .i64 a1, .int .i64 a2] w fun e w' => e = .returned (.int .i64 r) ∧ Drawn0 w w' := by
 have H : (if a0 = 1 then (impl_numExact.j0 k a1 a2 a0 (a0 == 1)) else (impl_numExact.j0 k a1 a2 a0 (a0 == 11))) = some r := h
 clear h
 have C1 := am H
 clear H
 go_enter Try.func61, Try.ntmps61
 go_upto_if 8 with (fail)
 go_cut [8] (fun v1 wc => ∃ (kq : Nat) (x1 : Bool), v1 = .bool x1 ∧ Aside0 (impl_numExact.j0 kq a1 a2 a0 x1 = some r) ∧ Aside0 (kq ≤ k) ∧ Drawn0 w wc)
 case first =>
  have H := C1.out
  clear C1
  by_cases c1 : a0 = 1
  rotate_left
  ·rw [if_neg c1] at H
   have d1 := eF c1
   have d2 := nT c1
   (first | rw [d1] | (simp only [i64_w, i32_w]; rw [d1]) | skip)
   have H' := am H
   clear H
   go_wp2
   go_meet
   case rel => exact ⟨_, ((a0 == 11)), ey, H', le0, by repeat (first | exact Drawn0.refl _ | apply Drawn0.step)⟩
  rw [if_pos c1] at H
  have d1 := eT c1
  have d2 := nF c1
  clear c1
  (first | rw [d1] | (simp only [i64_w, i32_w]; rw [d1]) | skip)
  have H' := am H
  clear H
  go_wp2
  go_meet
  case rel => exact ⟨_, ((a0 == 1)), ey, H', le0, by repeat (first | exact Drawn0.refl _ | apply Drawn0.step)⟩
 case rest =>
  clear C1
  obtain ⟨kq, x1, rfl, HA, J1, ⟨mc3, rfl⟩⟩ := hcut
  cases kq with
  | zero => exact absurd HA.out (by simp [impl_numExact.j0])
  | succ k1 =>
   have H := HA.out
   clear HA
   simp only [impl_numExact.j0] at H
   by_cases c1 : x1 = true
   ·subst c1
    rw [if_pos rfl] at H
    obtain rfl := Option.some.inj H
    go_wp2
    go_ret
    exact ⟨by first | rfl | (simp; done) | (simp [*]; done), by repeat (first | exact Drawn0.refl _ | apply Drawn0.step)⟩
   replace c1 := Bool.eq_false_iff.mpr c1
   subst c1
   rw [if_neg ff] at H
   have C2 := am H
   clear H
   go_upto_if 14 with (fail)
   go_cut [14] (fun v2 wc => ∃ (kq : Nat) (x2 : Bool), v2 = .bool x2 ∧ Aside0 (impl_numExact.j1 kq a1 a2 a0 x2 = some r) ∧ Aside0 (kq ≤ k1) ∧ Drawn0 w wc)
   case first =>
    have H := C2.out
    clear C2
    by_cases c2 : a0 = 2
    rotate_left
    ·rw [if_neg c2] at H
     have d1 := eF c2
     have d2 := nT c2
     (first | rw [d1] | (simp only [i64_w, i32_w]; rw [d1]) | skip)
     have H' := am H
     clear H
     go_wp2
     go_meet
     case rel => exact ⟨_, ((a0 == 12)), ey, H', le1 J1, by repeat (first | exact Drawn0.refl _ | apply Drawn0.step)⟩
    rw [if_pos c2] at H
    have d1 := eT c2
    have d2 := nF c2
    clear c2
    (first | rw [d1] | (simp only [i64_w, i32_w]; rw [d1]) | skip)
    have H' := am H
    clear H
    go_wp2
    go_meet
    case rel => exact ⟨_, ((a0 == 2)), ey, H', le1 J1, by repeat (first | exact Drawn0.refl _ | apply Drawn0.step)⟩
   case rest =>
    clear C2
    try clear c1
    obtain ⟨kq, x2, rfl, HA, J2, ⟨mc6, rfl⟩⟩ := hcut
    cases kq with
    | zero => exact absurd HA.out (by simp [impl_numExact.j1])
    | succ k2 =>
     have H := HA.out
     clear HA
     simp only [impl_numExact.j1] at H
     by_cases c2 : x2 = true
     ·subst c2
      rw [if_pos rfl] at H
      obtain rfl := Option.some.inj H
      go_wp2
      go_ret
      exact ⟨by first | rfl | (simp; done) | (simp [*]; done), by repeat (first | exact Drawn0.refl _ | apply Drawn0.step)⟩
     replace c2 := Bool.eq_false_iff.mpr c2
     subst c2
     rw [if_neg ff] at H
     have C3 := am H
     clear H
     go_upto_if 20 with (fail)
     go_cut [20] (fun v3 wc => ∃ (kq : Nat) (x3 : Bool), v3 = .bool x3 ∧ Aside0 (impl_numExact.j2 kq a1 a2 a0 x3 = some r) ∧ Aside0 (kq ≤ k2) ∧ Drawn0 w wc)
     case first =>
      have H := C3.out
      clear C3
      by_cases c3 : a0 = 3
      rotate_left
      ·rw [if_neg c3] at H
       have d1 := eF c3
       have d2 := nT c3
       (first | rw [d1] | (simp only [i64_w, i32_w]; rw [d1]) | skip)
       have H' := am H
       clear H
       go_wp2
       go_meet
       case rel => exact ⟨_, ((a0 == 13)), ey, H', ⟨by have := J1.out; have := J2.out; first | omega | exact Nat.le_refl _⟩, by repeat (first | exact Drawn0.refl _ | apply Drawn0.step)⟩
      rw [if_pos c3] at H
      have d1 := eT c3
      have d2 := nF c3
      clear c3
      (first | rw [d1] | (simp only [i64_w, i32_w]; rw [d1]) | skip)
      have H' := am H
      clear H
      go_wp2
      go_meet
      case rel => exact ⟨_, ((a0 == 3)), ey, H', ⟨by have := J1.out; have := J2.out; first | omega | exact Nat.le_refl _⟩, by repeat (first | exact Drawn0.refl _ | apply Drawn0.step)⟩
     case rest =>
      clear C3
      try clear c2
      obtain ⟨kq, x3, rfl, HA, J3, ⟨mc9, rfl⟩⟩ := hcut
      cases kq with
      | zero => exact absurd HA.out (by simp [impl_numExact.j2])
      | succ k3 =>
       have H := HA.out
       clear HA
       simp only [impl_numExact.j2] at H
       by_cases c3 : x3 = true
       ·subst c3
        rw [if_pos rfl] at H
        obtain rfl := Option.some.inj H
        go_wp2
        go_ret
        exact ⟨by first | rfl | (simp; done) | (simp [*]; done), by repeat (first | exact Drawn0.refl _ | apply Drawn0.step)⟩
       replace c3 := Bool.eq_false_iff.mpr c3
       subst c3
       rw [if_neg ff] at H
       by_cases c4 : a0 = 4
       ·rw [if_pos c4] at H
        have d1 := eT c4
        have d2 := nF c4
        clear c4
        by_cases c5 : a2 = 0
        ·rw [if_pos c5] at H
         exact absurd H (by simp)
        rw [if_neg c5] at H
        have d3 := eF c5
        have d4 := nT c5
        obtain rfl := Option.some.inj H
        go_wp2
        go_ret
        exact ⟨by first | rfl | (simp; done) | (simp [*]; done), by repeat (first | exact Drawn0.refl _ | apply Drawn0.step)⟩
       rw [if_neg c4] at H
       have d1 := eF c4
       have d2 := nT c4
       by_cases c5 : a0 = 5
       ·rw [if_pos c5] at H
        have d3 := eT c5
        have d4 := nF c5
        clear c5
        by_cases c6 : a2 = 0
        ·rw [if_pos c6] at H
         exact absurd H (by simp)
        rw [if_neg c6] at H
        have d5 := eF c6
        have d6 := nT c6
        obtain rfl := Option.some.inj H
        go_wp2
        go_ret
        exact ⟨by first | rfl | (simp; done) | (simp [*]; done), by repeat (first | exact Drawn0.refl _ | apply Drawn0.step)⟩
       rw [if_neg c5] at H
       have d3 := eF c5
       have d4 := nT c5
       by_cases c6 : a0 = 6
       ·rw [if_pos c6] at H
        have d5 := eT c6
        have d6 := nF c6
        clear c6
        obtain rfl := Option.some.inj H
        go_wp2
        go_ret
        exact ⟨by first | rfl | (simp; done) | (simp [*]; done), by repeat (first | exact Drawn0.refl _ | apply Drawn0.step)⟩
       rw [if_neg c6] at H
       have d5 := eF c6
       have d6 := nT c6
       by_cases c7 : a0 = 7
       ·rw [if_pos c7] at H
        have d7 := eT c7
        have d8 := nF c7
        clear c7
        obtain rfl := Option.some.inj H
        go_wp2
        go_ret
        exact ⟨by first | rfl | (simp; done) | (simp [*]; done), by repeat (first | exact Drawn0.refl _ | apply Drawn0.step)⟩
       rw [if_neg c7] at H
       have d7 := eF c7
       have d8 := nT c7
       by_cases c8 : a0 = 8
       ·rw [if_pos c8] at H
        have d9 := eT c8
        have d10 := nF c8
        clear c8
        obtain rfl := Option.some.inj H
        go_wp2
        go_ret
        exact ⟨by first | rfl | (simp; done) | (simp [*]; done), by repeat (first | exact Drawn0.refl _ | apply Drawn0.step)⟩
       rw [if_neg c8] at H
       have d9 := eF c8
       have d10 := nT c8
       by_cases c9 : a0 = 9
       ·rw [if_pos c9] at H
        have d11 := eT c9
        have d12 := nF c9
        clear c9
        obtain ⟨i1, j9⟩ : ∃ j_ : Int, (IntKind.u64.wrap (a2)) = j_ := ⟨_, rfl⟩
        replace H : (if 0 ≤ (i1) then (some (shl .i64 a1 (i1))) else (none)) = some r := by first | (rw [j9] at H; exact H) | (simp only [j9] at H ⊢; exact H)
        by_cases c10 : 0 ≤ (i1)
        rotate_left
        ·rw [if_neg c10] at H
         exact absurd H (by simp)
        rw [if_pos c10] at H
        have d13 := eq_true c10
        have d14 := dT c10
        clear c10
        obtain ⟨i2, j10⟩ : ∃ j_ : Int, (shl .i64 a1 (i1)) = j_ := ⟨_, rfl⟩
        replace H : (some i2) = some r := by first | (rw [j10] at H; exact H) | (simp only [j10] at H ⊢; exact H)
        have hji23_ : (IntKind.i64.wrap (a1 * 2 ^ min (i1).toNat 64)) = i2 := j10
        have hji23z : (i1) ≤ 64 → (IntKind.i64.wrap (a1 * 2 ^ (i1).toNat)) = i2 := shl_small j10
        have hji23y : (wrap64 (a1 * 2 ^ min (i1).toNat 64)) = i2 := (i64_w _).symm.trans hji23_
        have hji23x : (i1) ≤ 64 → (wrap64 (a1 * 2 ^ (i1).toNat)) = i2 := fun h_ => (i64_w _).symm.trans (hji23z h_)
        obtain rfl := Option.some.inj H
        go_wp2
        go_ret
        exact ⟨by first | rfl | (simp; done) | (simp only [← j9, ← j10] <;> (first | rfl | simp)) | (simp [*]; done), by repeat (first | exact Drawn0.refl _ | apply Drawn0.step)⟩
       rw [if_neg c9] at H
       have d11 := eF c9
       have d12 := nT c9
       by_cases c10 : a0 = 10
       rotate_left
       ·rw [if_neg c10] at H
        have d13 := eF c10
        have d14 := nT c10
        obtain rfl := Option.some.inj H
        go_wp2
        go_ret
        exact ⟨by first | rfl | (simp; done) | (simp [*]; done), by repeat (first | exact Drawn0.refl _ | apply Drawn0.step)⟩
       rw [if_pos c10] at H
       have d13 := eT c10
       have d14 := nF c10
       clear c10
       obtain ⟨i1, j9⟩ : ∃ j_ : Int, (IntKind.u64.wrap (a2)) = j_ := ⟨_, rfl⟩
       replace H : (if 0 ≤ (i1) then (some (shr .i64 a1 (i1))) else (none)) = some r := by first | (rw [j9] at H; exact H) | (simp only [j9] at H ⊢; exact H)
       by_cases c11 : 0 ≤ (i1)
       rotate_left
       ·rw [if_neg c11] at H
        exact absurd H (by simp)
       rw [if_pos c11] at H
       have d15 := eq_true c11
       have d16 := dT c11
       clear c11
       obtain ⟨i2, j10⟩ : ∃ j_ : Int, (shr .i64 a1 (i1)) = j_ := ⟨_, rfl⟩
       replace H : (some i2) = some r := by first | (rw [j10] at H; exact H) | (simp only [j10] at H ⊢; exact H)
       have hji27_ : (a1 / 2 ^ min (i1).toNat 64) = i2 := j10
       have hji27z : (i1) ≤ 64 → (a1 / 2 ^ (i1).toNat) = i2 := shr_small j10
       obtain rfl := Option.some.inj H
       go_wp2
       go_ret
       exact ⟨by first | rfl | (simp; done) | (simp only [← j9, ← j10] <;> (first | rfl | simp)) | (simp [*]; done), by repeat (first | exact Drawn0.refl _ | apply Drawn0.step)⟩

end Go.Proofs.Ythbkakcchgnhpaa.PFnRangeMore
