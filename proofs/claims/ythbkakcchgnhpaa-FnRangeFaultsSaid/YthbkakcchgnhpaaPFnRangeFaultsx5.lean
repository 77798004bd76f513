/- Written by this session's own driver (wip/dprint.py): the functions that the law FnRangeFaults reaches, as Lean functions, each with its contract. -/
import Derived.Test.YthbkakcchgnhpaaPFnRangeFaultsx0
import Derived.Test.YthbkakcchgnhpaaSv
namespace Go.Proofs.Ythbkakcchgnhpaa.PFnRangeFaults
open Go.RowKit Go.Proofs.YthbkakcchgnhpaaV.PrintWords Go.Proofs.YthbkakcchgnhpaaV.PrintLast Go.Proofs.YthbkakcchgnhpaaV.PrintMore Go.Proofs.YthbkakcchgnhpaaSv
attribute [local go_sem] max2_int min2_int max_two min_two max_three min_three max_four min_four   -- for this text's walks alone
set_option linter.unusedVariables false
set_option linter.unusedSimpArgs false

/-! ### spec_l1Mod: function 100 -/
attribute [local go_sem] Go.Proofs.YthbkakcchgnhpaaSet.isSome_setCell
def spec_l1Mod.f (a0 : Int) (a1 : Int) : Option (Int) := if a1 = 0 then (none) else (if (Int.tmod a0 a1) < 0 then (some (wrap64 ((Int.tmod a0 a1) + a1))) else (some (Int.tmod a0 a1)))
set_option maxHeartbeats 8000000 in
set_option maxRecDepth 100000 in
theorem spec_l1Mod.calls (a0 : Int) (a1 : Int) (r : Int) (w : World) (h : spec_l1Mod.f a0 a1 = some r) :
  Calls Try.prog 100 #[.int .i64 a0, .int .i64 a1] w fun e w' => e = .returned (.int .i64 r) ∧ Drawn0 w w' := by
 have H : (if a1 = 0 then (none) else (if (Int.tmod a0 a1) < 0 then (some (wrap64 ((Int.tmod a0 a1) + a1))) else (some (Int.tmod a0 a1)))) = some r := h
 clear h
 by_cases c3 : a1 = 0
 ·rw [if_pos c3] at H
  exact absurd H (by simp)
 rw [if_neg c3] at H
 have c3b0 := eF c3
 have c3b1 := nT c3
 by_cases c4 : (Int.tmod a0 a1) < 0
 ·rw [if_pos c4] at H
  have c4b0 := dT c4
  clear c4
  obtain rfl := Option.some.inj H
  go_enter Try.func100, Try.ntmps100
  go_wp2
  go_ret
  exact ⟨by first | rfl | (simp; done) | (simp [*]; done), by repeat (first | exact Drawn0.refl _ | apply Drawn0.step)⟩
 rw [if_neg c4] at H
 have c4b0 := dF c4
 clear c4
 obtain rfl := Option.some.inj H
 go_enter Try.func100, Try.ntmps100
 go_wp2
 go_ret
 exact ⟨by first | rfl | (simp; done) | (simp [*]; done), by repeat (first | exact Drawn0.refl _ | apply Drawn0.step)⟩

/-! ### spec_NumWrap: function 64 -/
attribute [local go_sem] Go.Proofs.YthbkakcchgnhpaaSet.isSome_setCell
def spec_NumWrap.f (a0 : Int) : Option (Int) := (spec_l1Mod.f a0 4294967296).bind fun t144 => (if t144 > 2147483647 then (some (wrap64 (t144 - 4294967296))) else (some t144))
set_option maxHeartbeats 8000000 in
set_option maxRecDepth 100000 in
theorem spec_NumWrap.calls (a0 : Int) (r : Int) (w : World) (h : spec_NumWrap.f a0 = some r) :
  Calls Try.prog 64 #[.int .i64 a0] w fun e w' => e = .returned (.int .i64 r) ∧ Drawn0 w w' := by
 have H : ((spec_l1Mod.f a0 4294967296).bind fun t144 => (if t144 > 2147483647 then (some (wrap64 (t144 - 4294967296))) else (some t144))) = some r := h
 clear h
 obtain ⟨t144, A2, H⟩ := bd H
 try dsimp only at H
 by_cases c3 : t144 > 2147483647
 ·rw [if_pos c3] at H
  have c3b0 := dT c3
  clear c3
  obtain rfl := Option.some.inj H
  go_enter Try.func64, Try.ntmps64
  go_wp2_with (first | ((with_reducible refine gate_callee (f := 100) rfl ?_); refine goesL_ (some 5) rfl rfl Try.func100 (by kernel_rfl) rfl #[.int .i64 a0, .int .i64 4294967296] rfl mz ?_; (with_reducible refine (spec_l1Mod.calls _ _ _ _ A2.out).mono ?_); rintro e w' ⟨rfl, ⟨nd, rfl⟩⟩; refine ⟨_, rfl, ?_⟩))
  go_ret
  exact ⟨by first | rfl | (simp; done) | (simp [*]; done), by repeat (first | exact Drawn0.refl _ | apply Drawn0.step)⟩
 rw [if_neg c3] at H
 have c3b0 := dF c3
 clear c3
 obtain rfl := Option.some.inj H
 go_enter Try.func64, Try.ntmps64
 go_wp2_with (first | ((with_reducible refine gate_callee (f := 100) rfl ?_); refine goesL_ (some 5) rfl rfl Try.func100 (by kernel_rfl) rfl #[.int .i64 a0, .int .i64 4294967296] rfl mz ?_; (with_reducible refine (spec_l1Mod.calls _ _ _ _ A2.out).mono ?_); rintro e w' ⟨rfl, ⟨nd, rfl⟩⟩; refine ⟨_, rfl, ?_⟩))
 go_ret
 exact ⟨by first | rfl | (simp; done) | (simp [*]; done), by repeat (first | exact Drawn0.refl _ | apply Drawn0.step)⟩

/-! ### spec_l1Bits: function 90 -/
attribute [local go_sem] Go.Proofs.YthbkakcchgnhpaaSet.isSome_setCell
def spec_l1Bits.l0 : Nat → Int → Int → Int → Int → Int → Option (Int)
 | 0, _, _, _, _, _ => none
 | k + 1, x0, x1, x2, x7, x8 => if x8 < 32 then ((spec_l1Mod.f x1 4294967296).bind fun t146 => (if 0 ≤ (IntKind.u64.wrap (x8)) then ((spec_l1Mod.f x2 4294967296).bind fun t147 => (if x0 = 7 then (spec_l1Bits.l0 k x0 x1 x2 (wrap64 (x7 + (shl .i64 (wrap64 ((wrap64 ((Int.tmod (shr .i64 t146 (IntKind.u64.wrap (x8))) 2) + (Int.tmod (shr .i64 t147 (IntKind.u64.wrap (x8))) 2))) - (wrap64 ((Int.tmod (shr .i64 t146 (IntKind.u64.wrap (x8))) 2) * (Int.tmod (shr .i64 t147 (IntKind.u64.wrap (x8))) 2))))) (IntKind.u64.wrap (x8))))) (wrap64 (x8 + 1))) else (if x0 = 8 then (spec_l1Bits.l0 k x0 x1 x2 (wrap64 (x7 + (shl .i64 (Int.tmod (wrap64 ((Int.tmod (shr .i64 t146 (IntKind.u64.wrap (x8))) 2) + (Int.tmod (shr .i64 t147 (IntKind.u64.wrap (x8))) 2))) 2) (IntKind.u64.wrap (x8))))) (wrap64 (x8 + 1))) else (spec_l1Bits.l0 k x0 x1 x2 (wrap64 (x7 + (shl .i64 (wrap64 ((Int.tmod (shr .i64 t146 (IntKind.u64.wrap (x8))) 2) * (Int.tmod (shr .i64 t147 (IntKind.u64.wrap (x8))) 2))) (IntKind.u64.wrap (x8))))) (wrap64 (x8 + 1)))))) else (none))) else ((spec_NumWrap.f x7).bind fun t145 => (some t145))
def spec_l1Bits.f (k : Nat) (a0 : Int) (a1 : Int) (a2 : Int) : Option (Int) := spec_l1Bits.l0 k a0 a1 a2 0 0
theorem spec_l1Bits.mono_l : ∀ k, (∀ y0 y1 y2 y3 y4, LeO (spec_l1Bits.l0 k y0 y1 y2 y3 y4) (spec_l1Bits.l0 (k + 1) y0 y1 y2 y3 y4))
 | 0 => fun _ _ _ _ _ r h => by simp [spec_l1Bits.l0] at h
 | k + 1 => by
  have ih0 := spec_l1Bits.mono_l k
  ·intro y0 y1 y2 y3 y4
   unfold spec_l1Bits.l0
   repeat' first | (with_reducible first | apply ih0 | apply LeO.refl | apply LeO.none | refine LeO.ite ?_ ?_ | refine LeO.bind ?_ (fun _ => ?_)) | apply ih0 | apply LeO.none | refine LeO.ite ?_ ?_ | refine LeO.bind ?_ (fun _ => ?_)
theorem spec_l1Bits.mono : ∀ a0 a1 a2 k, LeO (spec_l1Bits.f k a0 a1 a2) (spec_l1Bits.f (k + 1) a0 a1 a2) := by
 intro a0 a1 a2 k
 have ih0 := spec_l1Bits.mono_l k
 unfold spec_l1Bits.f
 repeat' first | (with_reducible first | apply ih0 | apply LeO.refl | apply LeO.none | refine LeO.ite ?_ ?_ | refine LeO.bind ?_ (fun _ => ?_)) | apply ih0 | apply LeO.none | refine LeO.ite ?_ ?_ | refine LeO.bind ?_ (fun _ => ?_)
set_option maxHeartbeats 8000000 in
set_option maxRecDepth 100000 in
theorem spec_l1Bits.calls (k : Nat) (a0 : Int) (a1 : Int) (a2 : Int) (r : Int) (w : World) (h : spec_l1Bits.f k a0 a1 a2 = some r) :
  Calls Try.prog 90 #[.int .i64 a0, .int .i64 a1, .int .i64 a2] w fun e w' => e = .returned (.int .i64 r) ∧ Drawn0 w w' := by
 have H : (spec_l1Bits.l0 k a0 a1 a2 0 0) = some r := h
 clear h
 have H' := am H
 clear H
 go_enter Try.func90, Try.ntmps90
 go_wp2
 go_loopg [7, 8] k (fun kq v7 v8 w' => ∃ (x7_1 : Int) (x8_1 : Int), v7 = .int .i64 x7_1 ∧ v8 = .int .i64 x8_1 ∧ Aside0 (spec_l1Bits.l0 kq a0 a1 a2 x7_1 x8_1 = some r) ∧ Aside0 (kq ≤ k) ∧ Drawn0 w w')
 case atStart => exact ⟨(0), (0), ey, ey, H', ⟨Nat.le_refl _⟩, by repeat (first | exact Drawn0.refl _ | apply Drawn0.step)⟩
 case round =>
  clear H'
  obtain ⟨x7_1, x8_1, rfl, rfl, HA, HK1, ⟨m1, rfl⟩⟩ := hrel
  cases gk with
  | zero => exact absurd HA.out (by simp [spec_l1Bits.l0])
  | succ k1 =>
   have H := HA.out
   clear HA
   simp only [spec_l1Bits.l0] at H
   by_cases c4 : x8_1 < 32
   rotate_left
   ·rw [if_neg c4] at H
    have c4b0 := dF c4
    clear c4
    obtain ⟨t145, A20, H⟩ := bd H
    try dsimp only at H
    obtain rfl := Option.some.inj H
    go_wp2_with (first | ((with_reducible refine gate_callee (f := 64) rfl ?_); refine goesL_ (some 53) rfl rfl Try.func64 (by kernel_rfl) rfl #[.int .i64 x7_1] rfl mz ?_; (with_reducible refine (spec_NumWrap.calls _ _ _ A20.out).mono ?_); rintro e w' ⟨rfl, ⟨nd, rfl⟩⟩; refine ⟨_, rfl, ?_⟩))
    go_ret
    exact ⟨by first | rfl | (simp; done) | (simp [*]; done), by repeat (first | exact Drawn0.refl _ | apply Drawn0.step)⟩
   rw [if_pos c4] at H
   have c4b0 := dT c4
   clear c4
   obtain ⟨t146, A5, H⟩ := bd H
   try dsimp only at H
   obtain ⟨ji6, hji6⟩ : ∃ j_ : Int, (IntKind.u64.wrap (x8_1)) = j_ := ⟨_, rfl⟩
   replace H : (if 0 ≤ (ji6) then ((spec_l1Mod.f a2 4294967296).bind fun t147 => (if a0 = 7 then (spec_l1Bits.l0 k1 a0 a1 a2 (wrap64 (x7_1 + (shl .i64 (wrap64 ((wrap64 ((Int.tmod (shr .i64 t146 (ji6)) 2) + (Int.tmod (shr .i64 t147 (ji6)) 2))) - (wrap64 ((Int.tmod (shr .i64 t146 (ji6)) 2) * (Int.tmod (shr .i64 t147 (ji6)) 2))))) (ji6)))) (wrap64 (x8_1 + 1))) else (if a0 = 8 then (spec_l1Bits.l0 k1 a0 a1 a2 (wrap64 (x7_1 + (shl .i64 (Int.tmod (wrap64 ((Int.tmod (shr .i64 t146 (ji6)) 2) + (Int.tmod (shr .i64 t147 (ji6)) 2))) 2) (ji6)))) (wrap64 (x8_1 + 1))) else (spec_l1Bits.l0 k1 a0 a1 a2 (wrap64 (x7_1 + (shl .i64 (wrap64 ((Int.tmod (shr .i64 t146 (ji6)) 2) * (Int.tmod (shr .i64 t147 (ji6)) 2))) (ji6)))) (wrap64 (x8_1 + 1)))))) else (none)) = some r := by first | (rw [hji6] at H; exact H) | (simp only [hji6] at H ⊢; exact H)
   (try rw [hji6] at A5)
   by_cases c7 : 0 ≤ (ji6)
   rotate_left
   ·rw [if_neg c7] at H
    exact absurd H (by simp)
   rw [if_pos c7] at H
   have c7b0 := eq_true c7
   have c7b1 := dT c7
   clear c7
   obtain ⟨ji8, hji8⟩ : ∃ j_ : Int, (shr .i64 t146 (ji6)) = j_ := ⟨_, rfl⟩
   replace H : ((spec_l1Mod.f a2 4294967296).bind fun t147 => (if a0 = 7 then (spec_l1Bits.l0 k1 a0 a1 a2 (wrap64 (x7_1 + (shl .i64 (wrap64 ((wrap64 ((Int.tmod (ji8) 2) + (Int.tmod (shr .i64 t147 (ji6)) 2))) - (wrap64 ((Int.tmod (ji8) 2) * (Int.tmod (shr .i64 t147 (ji6)) 2))))) (ji6)))) (wrap64 (x8_1 + 1))) else (if a0 = 8 then (spec_l1Bits.l0 k1 a0 a1 a2 (wrap64 (x7_1 + (shl .i64 (Int.tmod (wrap64 ((Int.tmod (ji8) 2) + (Int.tmod (shr .i64 t147 (ji6)) 2))) 2) (ji6)))) (wrap64 (x8_1 + 1))) else (spec_l1Bits.l0 k1 a0 a1 a2 (wrap64 (x7_1 + (shl .i64 (wrap64 ((Int.tmod (ji8) 2) * (Int.tmod (shr .i64 t147 (ji6)) 2))) (ji6)))) (wrap64 (x8_1 + 1)))))) = some r := by first | (rw [hji8] at H; exact H) | (simp only [hji8] at H ⊢; exact H)
   (try rw [hji8] at A5)
   have hji8_ : (t146 / 2 ^ min (ji6).toNat 64) = ji8 := hji8
   have hji8z : (ji6) ≤ 64 → (t146 / 2 ^ (ji6).toNat) = ji8 := shr_small hji8
   obtain ⟨t147, A9, H⟩ := bd H
   try dsimp only at H
   have c10b0 := eq_true (oz : 0 ≤ (ji6))
   obtain ⟨ji11, hji11⟩ : ∃ j_ : Int, (shr .i64 t147 (ji6)) = j_ := ⟨_, rfl⟩
   replace H : (if a0 = 7 then (spec_l1Bits.l0 k1 a0 a1 a2 (wrap64 (x7_1 + (shl .i64 (wrap64 ((wrap64 ((Int.tmod (ji8) 2) + (Int.tmod (ji11) 2))) - (wrap64 ((Int.tmod (ji8) 2) * (Int.tmod (ji11) 2))))) (ji6)))) (wrap64 (x8_1 + 1))) else (if a0 = 8 then (spec_l1Bits.l0 k1 a0 a1 a2 (wrap64 (x7_1 + (shl .i64 (Int.tmod (wrap64 ((Int.tmod (ji8) 2) + (Int.tmod (ji11) 2))) 2) (ji6)))) (wrap64 (x8_1 + 1))) else (spec_l1Bits.l0 k1 a0 a1 a2 (wrap64 (x7_1 + (shl .i64 (wrap64 ((Int.tmod (ji8) 2) * (Int.tmod (ji11) 2))) (ji6)))) (wrap64 (x8_1 + 1))))) = some r := by first | (rw [hji11] at H; exact H) | (simp only [hji11] at H ⊢; exact H)
   (try rw [hji11] at A5)
   (try rw [hji11] at A9)
   have hji11_ : (t147 / 2 ^ min (ji6).toNat 64) = ji11 := hji11
   have hji11z : (ji6) ≤ 64 → (t147 / 2 ^ (ji6).toNat) = ji11 := shr_small hji11
   by_cases c12 : a0 = 7
   ·rw [if_pos c12] at H
    have c12b0 := eT c12
    have c12b1 := nF c12
    clear c12
    have c13b0 := eq_true (oz : 0 ≤ (ji6))
    obtain ⟨ji14, hji14⟩ : ∃ j_ : Int, (shl .i64 (wrap64 ((wrap64 ((Int.tmod (ji8) 2) + (Int.tmod (ji11) 2))) - (wrap64 ((Int.tmod (ji8) 2) * (Int.tmod (ji11) 2))))) (ji6)) = j_ := ⟨_, rfl⟩
    replace H : (spec_l1Bits.l0 k1 a0 a1 a2 (wrap64 (x7_1 + (ji14))) (wrap64 (x8_1 + 1))) = some r := by first | (rw [hji14] at H; exact H) | (simp only [hji14] at H ⊢; exact H)
    (try rw [hji14] at A5)
    (try rw [hji14] at A9)
    have hji14_ : (IntKind.i64.wrap ((wrap64 ((wrap64 ((Int.tmod (ji8) 2) + (Int.tmod (ji11) 2))) - (wrap64 ((Int.tmod (ji8) 2) * (Int.tmod (ji11) 2))))) * 2 ^ min (ji6).toNat 64)) = ji14 := hji14
    have hji14z : (ji6) ≤ 64 → (IntKind.i64.wrap ((wrap64 ((wrap64 ((Int.tmod (ji8) 2) + (Int.tmod (ji11) 2))) - (wrap64 ((Int.tmod (ji8) 2) * (Int.tmod (ji11) 2))))) * 2 ^ (ji6).toNat)) = ji14 := shl_small hji14
    have hji14y : (wrap64 ((wrap64 ((wrap64 ((Int.tmod (ji8) 2) + (Int.tmod (ji11) 2))) - (wrap64 ((Int.tmod (ji8) 2) * (Int.tmod (ji11) 2))))) * 2 ^ min (ji6).toNat 64)) = ji14 := (i64_w _).symm.trans hji14_
    have hji14x : (ji6) ≤ 64 → (wrap64 ((wrap64 ((wrap64 ((Int.tmod (ji8) 2) + (Int.tmod (ji11) 2))) - (wrap64 ((Int.tmod (ji8) 2) * (Int.tmod (ji11) 2))))) * 2 ^ (ji6).toNat)) = ji14 := fun h_ => (i64_w _).symm.trans (hji14z h_)
    have H' := am H
    clear H
    go_wp2_with (first | ((with_reducible refine gate_callee (f := 100) rfl ?_); refine goesL_ (some 17) rfl rfl Try.func100 (by kernel_rfl) rfl #[.int .i64 a1, .int .i64 4294967296] rfl mz ?_; (with_reducible refine (spec_l1Mod.calls _ _ _ _ A5.out).mono ?_); rintro e w' ⟨rfl, ⟨nd, rfl⟩⟩; refine ⟨_, rfl, ?_⟩) | ((with_reducible refine gate_callee (f := 100) rfl ?_); refine goesL_ (some 23) rfl rfl Try.func100 (by kernel_rfl) rfl #[.int .i64 a2, .int .i64 4294967296] rfl mz ?_; (with_reducible refine (spec_l1Mod.calls _ _ _ _ A9.out).mono ?_); rintro e w' ⟨rfl, ⟨nd, rfl⟩⟩; refine ⟨_, rfl, ?_⟩))
    go_roundg k1
    case measure => have := HK1.out; omega
    case rel => exact ⟨(wrap64 (x7_1 + (ji14))), (wrap64 (x8_1 + 1)), (by first | rfl | (simp; done) | (simp only [← hji14] <;> (first | rfl | simp)) | (simp [*]; done)), ey, H', ⟨by have := HK1.out; omega⟩, by repeat (first | exact Drawn0.refl _ | apply Drawn0.step)⟩
   rw [if_neg c12] at H
   have c12b0 := eF c12
   have c12b1 := nT c12
   by_cases c15 : a0 = 8
   rotate_left
   ·rw [if_neg c15] at H
    have c15b0 := eF c15
    have c15b1 := nT c15
    have c18b0 := eq_true (oz : 0 ≤ (ji6))
    obtain ⟨ji19, hji19⟩ : ∃ j_ : Int, (shl .i64 (wrap64 ((Int.tmod (ji8) 2) * (Int.tmod (ji11) 2))) (ji6)) = j_ := ⟨_, rfl⟩
    replace H : (spec_l1Bits.l0 k1 a0 a1 a2 (wrap64 (x7_1 + (ji19))) (wrap64 (x8_1 + 1))) = some r := by first | (rw [hji19] at H; exact H) | (simp only [hji19] at H ⊢; exact H)
    (try rw [hji19] at A5)
    (try rw [hji19] at A9)
    have hji19_ : (IntKind.i64.wrap ((wrap64 ((Int.tmod (ji8) 2) * (Int.tmod (ji11) 2))) * 2 ^ min (ji6).toNat 64)) = ji19 := hji19
    have hji19z : (ji6) ≤ 64 → (IntKind.i64.wrap ((wrap64 ((Int.tmod (ji8) 2) * (Int.tmod (ji11) 2))) * 2 ^ (ji6).toNat)) = ji19 := shl_small hji19
    have hji19y : (wrap64 ((wrap64 ((Int.tmod (ji8) 2) * (Int.tmod (ji11) 2))) * 2 ^ min (ji6).toNat 64)) = ji19 := (i64_w _).symm.trans hji19_
    have hji19x : (ji6) ≤ 64 → (wrap64 ((wrap64 ((Int.tmod (ji8) 2) * (Int.tmod (ji11) 2))) * 2 ^ (ji6).toNat)) = ji19 := fun h_ => (i64_w _).symm.trans (hji19z h_)
    have H' := am H
    clear H
    go_wp2_with (first | ((with_reducible refine gate_callee (f := 100) rfl ?_); refine goesL_ (some 17) rfl rfl Try.func100 (by kernel_rfl) rfl #[.int .i64 a1, .int .i64 4294967296] rfl mz ?_; (with_reducible refine (spec_l1Mod.calls _ _ _ _ A5.out).mono ?_); rintro e w' ⟨rfl, ⟨nd, rfl⟩⟩; refine ⟨_, rfl, ?_⟩) | ((with_reducible refine gate_callee (f := 100) rfl ?_); refine goesL_ (some 23) rfl rfl Try.func100 (by kernel_rfl) rfl #[.int .i64 a2, .int .i64 4294967296] rfl mz ?_; (with_reducible refine (spec_l1Mod.calls _ _ _ _ A9.out).mono ?_); rintro e w' ⟨rfl, ⟨nd, rfl⟩⟩; refine ⟨_, rfl, ?_⟩))
    go_roundg k1
    case measure => have := HK1.out; omega
    case rel => exact ⟨(wrap64 (x7_1 + (ji19))), (wrap64 (x8_1 + 1)), (by first | rfl | (simp; done) | (simp only [← hji19] <;> (first | rfl | simp)) | (simp [*]; done)), ey, H', ⟨by have := HK1.out; omega⟩, by repeat (first | exact Drawn0.refl _ | apply Drawn0.step)⟩
   rw [if_pos c15] at H
   have c15b0 := eT c15
   have c15b1 := nF c15
   clear c15
   have c16b0 := eq_true (oz : 0 ≤ (ji6))
   obtain ⟨ji17, hji17⟩ : ∃ j_ : Int, (shl .i64 (Int.tmod (wrap64 ((Int.tmod (ji8) 2) + (Int.tmod (ji11) 2))) 2) (ji6)) = j_ := ⟨_, rfl⟩
   replace H : (spec_l1Bits.l0 k1 a0 a1 a2 (wrap64 (x7_1 + (ji17))) (wrap64 (x8_1 + 1))) = some r := by first | (rw [hji17] at H; exact H) | (simp only [hji17] at H ⊢; exact H)
   (try rw [hji17] at A5)
   (try rw [hji17] at A9)
   have hji17_ : (IntKind.i64.wrap ((Int.tmod (wrap64 ((Int.tmod (ji8) 2) + (Int.tmod (ji11) 2))) 2) * 2 ^ min (ji6).toNat 64)) = ji17 := hji17
   have hji17z : (ji6) ≤ 64 → (IntKind.i64.wrap ((Int.tmod (wrap64 ((Int.tmod (ji8) 2) + (Int.tmod (ji11) 2))) 2) * 2 ^ (ji6).toNat)) = ji17 := shl_small hji17
   have hji17y : (wrap64 ((Int.tmod (wrap64 ((Int.tmod (ji8) 2) + (Int.tmod (ji11) 2))) 2) * 2 ^ min (ji6).toNat 64)) = ji17 := (i64_w _).symm.trans hji17_
   have hji17x : (ji6) ≤ 64 → (wrap64 ((Int.tmod (wrap64 ((Int.tmod (ji8) 2) + (Int.tmod (ji11) 2))) 2) * 2 ^ (ji6).toNat)) = ji17 := fun h_ => (i64_w _).symm.trans (hji17z h_)
   have H' := am H
   clear H
   go_wp2_with (first | ((with_reducible refine gate_callee (f := 100) rfl ?_); refine goesL_ (some 17) rfl rfl Try.func100 (by kernel_rfl) rfl #[.int .i64 a1, .int .i64 4294967296] rfl mz ?_; (with_reducible refine (spec_l1Mod.calls _ _ _ _ A5.out).mono ?_); rintro e w' ⟨rfl, ⟨nd, rfl⟩⟩; refine ⟨_, rfl, ?_⟩) | ((with_reducible refine gate_callee (f := 100) rfl ?_); refine goesL_ (some 23) rfl rfl Try.func100 (by kernel_rfl) rfl #[.int .i64 a2, .int .i64 4294967296] rfl mz ?_; (with_reducible refine (spec_l1Mod.calls _ _ _ _ A9.out).mono ?_); rintro e w' ⟨rfl, ⟨nd, rfl⟩⟩; refine ⟨_, rfl, ?_⟩))
   go_roundg k1
   case measure => have := HK1.out; omega
   case rel => exact ⟨(wrap64 (x7_1 + (ji17))), (wrap64 (x8_1 + 1)), (by first | rfl | (simp; done) | (simp only [← hji17] <;> (first | rfl | simp)) | (simp [*]; done)), ey, H', ⟨by have := HK1.out; omega⟩, by repeat (first | exact Drawn0.refl _ | apply Drawn0.step)⟩

/-! ### spec_l1Power: function 98 -/
attribute [local go_sem] Go.Proofs.YthbkakcchgnhpaaSet.isSome_setCell
def spec_l1Power.l0 : Nat → Int → Int → Int → Option (Int)
 | 0, _, _, _ => none
 | k + 1, x0, x3, x4 => if x4 < x0 then (spec_l1Power.l0 k x0 (wrap64 (2 * x3)) (wrap64 (x4 + 1))) else (some x3)
def spec_l1Power.f (k : Nat) (a0 : Int) : Option (Int) := spec_l1Power.l0 k a0 1 0
theorem spec_l1Power.mono_l : ∀ k, (∀ y0 y1 y2, LeO (spec_l1Power.l0 k y0 y1 y2) (spec_l1Power.l0 (k + 1) y0 y1 y2))
 | 0 => fun _ _ _ r h => by simp [spec_l1Power.l0] at h
 | k + 1 => by
  have ih0 := spec_l1Power.mono_l k
  ·intro y0 y1 y2
   unfold spec_l1Power.l0
   repeat' first | (with_reducible first | apply ih0 | apply LeO.refl | apply LeO.none | refine LeO.ite ?_ ?_ | refine LeO.bind ?_ (fun _ => ?_)) | apply ih0 | apply LeO.none | refine LeO.ite ?_ ?_ | refine LeO.bind ?_ (fun _ => ?_)
theorem spec_l1Power.mono : ∀ a0 k, LeO (spec_l1Power.f k a0) (spec_l1Power.f (k + 1) a0) := by
 intro a0 k
 have ih0 := spec_l1Power.mono_l k
 unfold spec_l1Power.f
 repeat' first | (with_reducible first | apply ih0 | apply LeO.refl | apply LeO.none | refine LeO.ite ?_ ?_ | refine LeO.bind ?_ (fun _ => ?_)) | apply ih0 | apply LeO.none | refine LeO.ite ?_ ?_ | refine LeO.bind ?_ (fun _ => ?_)
set_option maxHeartbeats 8000000 in
set_option maxRecDepth 100000 in
theorem spec_l1Power.calls (k : Nat) (a0 : Int) (r : Int) (w : World) (h : spec_l1Power.f k a0 = some r) :
  Calls Try.prog 98 #[.int .i64 a0] w fun e w' => e = .returned (.int .i64 r) ∧ Drawn0 w w' := by
 have H : (spec_l1Power.l0 k a0 1 0) = some r := h
 clear h
 have H' := am H
 clear H
 go_enter Try.func98, Try.ntmps98
 go_wp2
 go_loopg [3, 4] k (fun kq v3 v4 w' => ∃ (x3_1 : Int) (x4_1 : Int), v3 = .int .i64 x3_1 ∧ v4 = .int .i64 x4_1 ∧ Aside0 (spec_l1Power.l0 kq a0 x3_1 x4_1 = some r) ∧ Aside0 (kq ≤ k) ∧ Drawn0 w w')
 case atStart => exact ⟨(1), (0), ey, ey, H', ⟨Nat.le_refl _⟩, by repeat (first | exact Drawn0.refl _ | apply Drawn0.step)⟩
 case round =>
  clear H'
  obtain ⟨x3_1, x4_1, rfl, rfl, HA, HK1, ⟨m1, rfl⟩⟩ := hrel
  cases gk with
  | zero => exact absurd HA.out (by simp [spec_l1Power.l0])
  | succ k1 =>
   have H := HA.out
   clear HA
   simp only [spec_l1Power.l0] at H
   by_cases c2 : x4_1 < a0
   rotate_left
   ·rw [if_neg c2] at H
    have c2b0 := dF c2
    clear c2
    obtain rfl := Option.some.inj H
    go_wp2
    go_ret
    exact ⟨by first | rfl | (simp; done) | (simp [*]; done), by repeat (first | exact Drawn0.refl _ | apply Drawn0.step)⟩
   rw [if_pos c2] at H
   have c2b0 := dT c2
   clear c2
   have H' := am H
   clear H
   go_wp2
   go_roundg k1
   case measure => have := HK1.out; omega
   case rel => exact ⟨(wrap64 (2 * x3_1)), (wrap64 (x4_1 + 1)), ey, ey, H', ⟨by have := HK1.out; omega⟩, by repeat (first | exact Drawn0.refl _ | apply Drawn0.step)⟩

/-! ### spec_l1Floor: function 99 -/
attribute [local go_sem] Go.Proofs.YthbkakcchgnhpaaSet.isSome_setCell
def spec_l1Floor.f (a0 : Int) (a1 : Int) : Option (Int) := (spec_l1Mod.f a0 a1).bind fun t148 => (if a1 = 0 then (none) else (some (wrap64 (Int.tdiv (wrap64 (a0 - t148)) a1))))
set_option maxHeartbeats 8000000 in
set_option maxRecDepth 100000 in
theorem spec_l1Floor.calls (a0 : Int) (a1 : Int) (r : Int) (w : World) (h : spec_l1Floor.f a0 a1 = some r) :
  Calls Try.prog 99 #[.int .i64 a0, .int .i64 a1] w fun e w' => e = .returned (.int .i64 r) ∧ Drawn0 w w' := by
 have H : ((spec_l1Mod.f a0 a1).bind fun t148 => (if a1 = 0 then (none) else (some (wrap64 (Int.tdiv (wrap64 (a0 - t148)) a1))))) = some r := h
 clear h
 obtain ⟨t148, A3, H⟩ := bd H
 try dsimp only at H
 by_cases c4 : a1 = 0
 ·rw [if_pos c4] at H
  exact absurd H (by simp)
 rw [if_neg c4] at H
 have c4b0 := eF c4
 have c4b1 := nT c4
 obtain rfl := Option.some.inj H
 go_enter Try.func99, Try.ntmps99
 go_wp2_with (first | ((with_reducible refine gate_callee (f := 100) rfl ?_); refine goesL_ (some 8) rfl rfl Try.func100 (by kernel_rfl) rfl #[.int .i64 a0, .int .i64 a1] rfl mz ?_; (with_reducible refine (spec_l1Mod.calls _ _ _ _ A3.out).mono ?_); rintro e w' ⟨rfl, ⟨nd, rfl⟩⟩; refine ⟨_, rfl, ?_⟩))
 go_ret
 exact ⟨by first | rfl | (simp; done) | (simp [*]; done), by repeat (first | exact Drawn0.refl _ | apply Drawn0.step)⟩

/-! ### spec_l1Exact: function 63 -/
attribute [local go_sem] Go.Proofs.YthbkakcchgnhpaaSet.isSome_setCell
mutual
def spec_l1Exact.j0 : Nat → Int → Int → Int → Bool → Option (Int)
 | 0, _, _, _, _ => none
 | k + 1, x0, x1, x2, x12 => if x12 = true then (some (wrap64 (x1 + x2))) else (if x0 = 2 then (spec_l1Exact.j1 k x0 x1 x2 true) else (spec_l1Exact.j1 k x0 x1 x2 (x0 == 12)))
def spec_l1Exact.j1 : Nat → Int → Int → Int → Bool → Option (Int)
 | 0, _, _, _, _ => none
 | k + 1, x0, x1, x2, x21 => if x21 = true then (some (wrap64 (x1 - x2))) else (if x0 = 3 then (spec_l1Exact.j2 k x0 x1 x2 true) else (spec_l1Exact.j2 k x0 x1 x2 (x0 == 13)))
def spec_l1Exact.j2 : Nat → Int → Int → Int → Bool → Option (Int)
 | 0, _, _, _, _ => none
 | k + 1, x0, x1, x2, x30 => if x30 = true then (some (wrap64 (x1 * x2))) else (if x0 = 4 then (if x2 = 0 then (none) else (some (wrap64 (Int.tdiv x1 x2)))) else (if x0 = 5 then (if x2 = 0 then (none) else (some (Int.tmod x1 x2))) else (if x0 = 9 then ((spec_l1Power.f k x2).bind fun t149 => (some (wrap64 (x1 * t149)))) else (if x0 = 10 then ((spec_l1Power.f k x2).bind fun t150 => ((spec_l1Floor.f x1 t150).bind fun t151 => (some t151))) else ((spec_l1Bits.f k x0 x1 x2).bind fun t152 => (some t152))))))
end
def spec_l1Exact.f (k : Nat) (a0 : Int) (a1 : Int) (a2 : Int) : Option (Int) := if a0 = 1 then (spec_l1Exact.j0 k a0 a1 a2 true) else (spec_l1Exact.j0 k a0 a1 a2 (a0 == 11))
theorem spec_l1Exact.mono_l : ∀ k, (∀ y0 y1 y2 y3, LeO (spec_l1Exact.j0 k y0 y1 y2 y3) (spec_l1Exact.j0 (k + 1) y0 y1 y2 y3)) ∧ (∀ y0 y1 y2 y3, LeO (spec_l1Exact.j1 k y0 y1 y2 y3) (spec_l1Exact.j1 (k + 1) y0 y1 y2 y3)) ∧ (∀ y0 y1 y2 y3, LeO (spec_l1Exact.j2 k y0 y1 y2 y3) (spec_l1Exact.j2 (k + 1) y0 y1 y2 y3))
 | 0 => ⟨fun _ _ _ _ r h => by simp [spec_l1Exact.j0] at h, fun _ _ _ _ r h => by simp [spec_l1Exact.j1] at h, fun _ _ _ _ r h => by simp [spec_l1Exact.j2] at h⟩
 | k + 1 => by
  obtain ⟨ih0, ih1, ih2⟩ := spec_l1Exact.mono_l k
  refine ⟨?_, ?_, ?_⟩ <;> (intros; (first | unfold spec_l1Exact.j0 | unfold spec_l1Exact.j1 | unfold spec_l1Exact.j2); repeat' first | (with_reducible first | apply ih0 | apply ih1 | apply ih2 | apply spec_l1Bits.mono | apply spec_l1Power.mono | apply LeO.refl | apply LeO.none | refine LeO.ite ?_ ?_ | refine LeO.bind ?_ (fun _ => ?_)) | apply ih0 | apply ih1 | apply ih2 | apply spec_l1Bits.mono | apply spec_l1Power.mono | apply LeO.none | refine LeO.ite ?_ ?_ | refine LeO.bind ?_ (fun _ => ?_))
theorem spec_l1Exact.mono : ∀ a0 a1 a2 k, LeO (spec_l1Exact.f k a0 a1 a2) (spec_l1Exact.f (k + 1) a0 a1 a2) := by
 intro a0 a1 a2 k
 obtain ⟨ih0, ih1, ih2⟩ := spec_l1Exact.mono_l k
 unfold spec_l1Exact.f
 repeat' first | (with_reducible first | apply ih0 | apply ih1 | apply ih2 | apply spec_l1Bits.mono | apply spec_l1Power.mono | apply LeO.refl | apply LeO.none | refine LeO.ite ?_ ?_ | refine LeO.bind ?_ (fun _ => ?_)) | apply ih0 | apply ih1 | apply ih2 | apply spec_l1Bits.mono | apply spec_l1Power.mono | apply LeO.none | refine LeO.ite ?_ ?_ | refine LeO.bind ?_ (fun _ => ?_)
set_option maxHeartbeats 8000000 in
set_option maxRecDepth 100000 in
theorem spec_l1Exact.calls (k : Nat) (a0 : Int) (a1 : Int) (a2 : Int) (r : Int) (w : World) (h : spec_l1Exact.f k a0 a1 a2 = some r) :
  Calls Try.prog 63 #[.int .i64 a0, .int .i64 a1, .int .i64 a2] w fun e w' => e = .returned (.int .i64 r) ∧ Drawn0 w w' := by
 have H : (if a0 = 1 then (spec_l1Exact.j0 k a0 a1 a2 true) else (spec_l1Exact.j0 k a0 a1 a2 (a0 == 11))) = some r := h
 clear h
 have HC4 := am H
 clear H
 go_enter Try.func63, Try.ntmps63
 go_upto_region 1 with (fail)
 go_cut [12] (fun v12 wc => ∃ (kq : Nat) (x12_3 : Bool), v12 = .bool x12_3 ∧ Aside0 (spec_l1Exact.j0 kq a0 a1 a2 x12_3 = some r) ∧ Aside0 (kq ≤ k) ∧ Drawn0 w wc)
 case first =>
  have H := HC4.out
  clear HC4
  by_cases c5 : a0 = 1
  rotate_left
  ·rw [if_neg c5] at H
   have c5b0 := eF c5
   have c5b1 := nT c5
   (first | rw [c5b0] | (simp only [i64_w, i32_w]; rw [c5b0]) | skip)
   have H' := am H
   clear H
   go_wp2
   go_meet
   case rel => exact ⟨_, ((a0 == 11)), ey, H', le0, by repeat (first | exact Drawn0.refl _ | apply Drawn0.step)⟩
  rw [if_pos c5] at H
  have c5b0 := eT c5
  have c5b1 := nF c5
  clear c5
  (first | rw [c5b0] | (simp only [i64_w, i32_w]; rw [c5b0]) | skip)
  have H' := am H
  clear H
  go_wp2
  go_meet
  case rel => exact ⟨_, (true), ey, H', le0, by repeat (first | exact Drawn0.refl _ | apply Drawn0.step)⟩
 case rest =>
  clear HC4
  obtain ⟨kq, x12_3, rfl, HA, HJ3, ⟨mc3, rfl⟩⟩ := hcut
  cases kq with
  | zero => exact absurd HA.out (by simp [spec_l1Exact.j0])
  | succ kj3 =>
   have H := HA.out
   clear HA
   simp only [spec_l1Exact.j0] at H
   by_cases c6 : x12_3 = true
   ·subst c6
    rw [if_pos rfl] at H
    obtain rfl := Option.some.inj H
    go_wp2
    go_ret
    exact ⟨by first | rfl | (simp; done) | (simp [*]; done), by repeat (first | exact Drawn0.refl _ | apply Drawn0.step)⟩
   replace c6 := Bool.eq_false_iff.mpr c6
   subst c6
   rw [if_neg ff] at H
   have HC7 := am H
   clear H
   go_upto_region 3 with (fail)
   go_cut [21] (fun v21 wc => ∃ (kq : Nat) (x21_6 : Bool), v21 = .bool x21_6 ∧ Aside0 (spec_l1Exact.j1 kq a0 a1 a2 x21_6 = some r) ∧ Aside0 (kq ≤ kj3) ∧ Drawn0 w wc)
   case first =>
    have H := HC7.out
    clear HC7
    by_cases c8 : a0 = 2
    rotate_left
    ·rw [if_neg c8] at H
     have c8b0 := eF c8
     have c8b1 := nT c8
     (first | rw [c8b0] | (simp only [i64_w, i32_w]; rw [c8b0]) | skip)
     have H' := am H
     clear H
     go_wp2
     go_meet
     case rel => exact ⟨_, ((a0 == 12)), ey, H', le1 HJ3, by repeat (first | exact Drawn0.refl _ | apply Drawn0.step)⟩
    rw [if_pos c8] at H
    have c8b0 := eT c8
    have c8b1 := nF c8
    clear c8
    (first | rw [c8b0] | (simp only [i64_w, i32_w]; rw [c8b0]) | skip)
    have H' := am H
    clear H
    go_wp2
    go_meet
    case rel => exact ⟨_, (true), ey, H', le1 HJ3, by repeat (first | exact Drawn0.refl _ | apply Drawn0.step)⟩
   case rest =>
    clear HC7
    try clear c6
    obtain ⟨kq, x21_6, rfl, HA, HJ6, ⟨mc6, rfl⟩⟩ := hcut
    cases kq with
    | zero => exact absurd HA.out (by simp [spec_l1Exact.j1])
    | succ kj6 =>
     have H := HA.out
     clear HA
     simp only [spec_l1Exact.j1] at H
     by_cases c9 : x21_6 = true
     ·subst c9
      rw [if_pos rfl] at H
      obtain rfl := Option.some.inj H
      go_wp2
      go_ret
      exact ⟨by first | rfl | (simp; done) | (simp [*]; done), by repeat (first | exact Drawn0.refl _ | apply Drawn0.step)⟩
     replace c9 := Bool.eq_false_iff.mpr c9
     subst c9
     rw [if_neg ff] at H
     have HC10 := am H
     clear H
     go_upto_region 5 with (fail)
     go_cut [30] (fun v30 wc => ∃ (kq : Nat) (x30_9 : Bool), v30 = .bool x30_9 ∧ Aside0 (spec_l1Exact.j2 kq a0 a1 a2 x30_9 = some r) ∧ Aside0 (kq ≤ kj6) ∧ Drawn0 w wc)
     case first =>
      have H := HC10.out
      clear HC10
      by_cases c11 : a0 = 3
      rotate_left
      ·rw [if_neg c11] at H
       have c11b0 := eF c11
       have c11b1 := nT c11
       (first | rw [c11b0] | (simp only [i64_w, i32_w]; rw [c11b0]) | skip)
       have H' := am H
       clear H
       go_wp2
       go_meet
       case rel => exact ⟨_, ((a0 == 13)), ey, H', ⟨by have := HJ3.out; have := HJ6.out; first | omega | exact Nat.le_refl _⟩, by repeat (first | exact Drawn0.refl _ | apply Drawn0.step)⟩
      rw [if_pos c11] at H
      have c11b0 := eT c11
      have c11b1 := nF c11
      clear c11
      (first | rw [c11b0] | (simp only [i64_w, i32_w]; rw [c11b0]) | skip)
      have H' := am H
      clear H
      go_wp2
      go_meet
      case rel => exact ⟨_, (true), ey, H', ⟨by have := HJ3.out; have := HJ6.out; first | omega | exact Nat.le_refl _⟩, by repeat (first | exact Drawn0.refl _ | apply Drawn0.step)⟩
     case rest =>
      clear HC10
      try clear c9
      obtain ⟨kq, x30_9, rfl, HA, HJ9, ⟨mc9, rfl⟩⟩ := hcut
      cases kq with
      | zero => exact absurd HA.out (by simp [spec_l1Exact.j2])
      | succ kj9 =>
       have H := HA.out
       clear HA
       simp only [spec_l1Exact.j2] at H
       by_cases c12 : x30_9 = true
       ·subst c12
        rw [if_pos rfl] at H
        obtain rfl := Option.some.inj H
        go_wp2
        go_ret
        exact ⟨by first | rfl | (simp; done) | (simp [*]; done), by repeat (first | exact Drawn0.refl _ | apply Drawn0.step)⟩
       replace c12 := Bool.eq_false_iff.mpr c12
       subst c12
       rw [if_neg ff] at H
       by_cases c13 : a0 = 4
       ·rw [if_pos c13] at H
        have c13b0 := eT c13
        have c13b1 := nF c13
        clear c13
        by_cases c14 : a2 = 0
        ·rw [if_pos c14] at H
         exact absurd H (by simp)
        rw [if_neg c14] at H
        have c14b0 := eF c14
        have c14b1 := nT c14
        obtain rfl := Option.some.inj H
        go_wp2
        go_ret
        exact ⟨by first | rfl | (simp; done) | (simp [*]; done), by repeat (first | exact Drawn0.refl _ | apply Drawn0.step)⟩
       rw [if_neg c13] at H
       have c13b0 := eF c13
       have c13b1 := nT c13
       by_cases c15 : a0 = 5
       ·rw [if_pos c15] at H
        have c15b0 := eT c15
        have c15b1 := nF c15
        clear c15
        by_cases c16 : a2 = 0
        ·rw [if_pos c16] at H
         exact absurd H (by simp)
        rw [if_neg c16] at H
        have c16b0 := eF c16
        have c16b1 := nT c16
        obtain rfl := Option.some.inj H
        go_wp2
        go_ret
        exact ⟨by first | rfl | (simp; done) | (simp [*]; done), by repeat (first | exact Drawn0.refl _ | apply Drawn0.step)⟩
       rw [if_neg c15] at H
       have c15b0 := eF c15
       have c15b1 := nT c15
       by_cases c17 : a0 = 9
       ·rw [if_pos c17] at H
        have c17b0 := eT c17
        have c17b1 := nF c17
        clear c17
        obtain ⟨t149, A18, H⟩ := bd H
        try dsimp only at H
        obtain rfl := Option.some.inj H
        go_wp2_with (first | ((with_reducible refine gate_callee (f := 98) rfl ?_); refine goesL_ (some 48) rfl rfl Try.func98 (by kernel_rfl) rfl #[.int .i64 a2] rfl mz ?_; (with_reducible refine (spec_l1Power.calls _ _ _ _ A18.out).mono ?_); rintro e w' ⟨rfl, ⟨nd, rfl⟩⟩; refine ⟨_, rfl, ?_⟩))
        go_ret
        exact ⟨by first | rfl | (simp; done) | (simp [*]; done), by repeat (first | exact Drawn0.refl _ | apply Drawn0.step)⟩
       rw [if_neg c17] at H
       have c17b0 := eF c17
       have c17b1 := nT c17
       by_cases c19 : a0 = 10
       rotate_left
       ·rw [if_neg c19] at H
        have c19b0 := eF c19
        have c19b1 := nT c19
        obtain ⟨t152, A22, H⟩ := bd H
        try dsimp only at H
        obtain rfl := Option.some.inj H
        go_wp2_with (first | ((with_reducible refine gate_callee (f := 90) rfl ?_); refine goesL_ (some 59) rfl rfl Try.func90 (by kernel_rfl) rfl #[.int .i64 a0, .int .i64 a1, .int .i64 a2] rfl mz ?_; (with_reducible refine (spec_l1Bits.calls _ _ _ _ _ _ A22.out).mono ?_); rintro e w' ⟨rfl, ⟨nd, rfl⟩⟩; refine ⟨_, rfl, ?_⟩))
        go_ret
        exact ⟨by first | rfl | (simp; done) | (simp [*]; done), by repeat (first | exact Drawn0.refl _ | apply Drawn0.step)⟩
       rw [if_pos c19] at H
       have c19b0 := eT c19
       have c19b1 := nF c19
       clear c19
       obtain ⟨t150, A20, H⟩ := bd H
       try dsimp only at H
       obtain ⟨t151, A21, H⟩ := bd H
       try dsimp only at H
       obtain rfl := Option.some.inj H
       go_wp2_with (first | ((with_reducible refine gate_callee (f := 98) rfl ?_); refine goesL_ (some 54) rfl rfl Try.func98 (by kernel_rfl) rfl #[.int .i64 a2] rfl mz ?_; (with_reducible refine (spec_l1Power.calls _ _ _ _ A20.out).mono ?_); rintro e w' ⟨rfl, ⟨nd, rfl⟩⟩; refine ⟨_, rfl, ?_⟩) | ((with_reducible refine gate_callee (f := 99) rfl ?_); refine goesL_ (some 55) rfl rfl Try.func99 (by kernel_rfl) rfl #[.int .i64 a1, .int .i64 t150] rfl mz ?_; (with_reducible refine (spec_l1Floor.calls _ _ _ _ A21.out).mono ?_); rintro e w' ⟨rfl, ⟨nd, rfl⟩⟩; refine ⟨_, rfl, ?_⟩))
       go_ret
       exact ⟨by first | rfl | (simp; done) | (simp [*]; done), by repeat (first | exact Drawn0.refl _ | apply Drawn0.step)⟩

end Go.Proofs.Ythbkakcchgnhpaa.PFnRangeFaults
