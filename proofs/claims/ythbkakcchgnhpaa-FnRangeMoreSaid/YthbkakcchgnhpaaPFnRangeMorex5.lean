/- Written by this session's own driver (wip/dprint.py): the functions that the law FnRangeMore reaches, as Lean functions, each with its contract. -/
import Derived.Test.YthbkakcchgnhpaaPFnRangeMorex0
import Derived.Test.YthbkakcchgnhpaaSv
namespace Go.Proofs.Ythbkakcchgnhpaa.PFnRangeMore
open Go.RowKit Go.Proofs.YthbkakcchgnhpaaV.PrintWords Go.Proofs.YthbkakcchgnhpaaV.PrintLast Go.Proofs.YthbkakcchgnhpaaV.PrintMore Go.Proofs.YthbkakcchgnhpaaSv
attribute [local go_sem] max2_int min2_int max_two min_two max_three min_three max_four min_four   -- for this text's walks alone
set_option linter.unusedVariables false
set_option linter.unusedSimpArgs false

/-! ### spec_l1Mod: function 100 -/
attribute [local go_sem] Go.Proofs.YthbkakcchgnhpaaSet.isSome_setCell
def spec_l1Mod.f (a0 : Int) (a1 : Int) : Option (Int) := if a1 = 0 then (none) else (if (Int.tmod a0 a1) < 0 then (some (wrap64 ((Int.tmod a0 a1) + a1))) else (some (Int.tmod a0 a1)))
set_option maxHeartbeats 8000000 in
set_option maxRecDepth 100000 in
theorem spec_l1Mod.calls (a0 : Int) (a1 : Int) (r : Int) (w : World) (h : spec_l1Mod.f a0 a1 = some r) :
  Calls Try.prog 100 #[.int .i64 a0, .int .i64 a1] w fun e w' => e = .returned (.int .i64 r) ∧ Drawn0 w w' := by
 have H : (if a1 = 0 then (none) else (if (Int.tmod a0 a1) < 0 then (some (wrap64 ((Int.tmod a0 a1) + a1))) else (some (Int.tmod a0 a1)))) = some r := h
 clear h
 by_cases c1 : a1 = 0
 ·rw [if_pos c1] at H
  exact absurd H (by simp)
 rw [if_neg c1] at H
 have d1 := eF c1
 have d2 := nT c1
 by_cases c2 : (Int.tmod a0 a1) < 0
 ·rw [if_pos c2] at H
  have d3 := dT c2
  clear c2
  obtain rfl := Option.some.inj H
  go_enter Try.func100, Try.ntmps100
  go_wp2
  go_ret
  exact ⟨by first | rfl | (simp; done) | (simp [*]; done), by repeat (first | exact Drawn0.refl _ | apply Drawn0.step)⟩
 rw [if_neg c2] at H
 have d3 := dF c2
 clear c2
 obtain rfl := Option.some.inj H
 go_enter Try.func100, Try.ntmps100
 go_wp2
 go_ret
 exact ⟨by first | rfl | (simp; done) | (simp [*]; done), by repeat (first | exact Drawn0.refl _ | apply Drawn0.step)⟩

/-! ### spec_NumWrap: function 64 -/
attribute [local go_sem] Go.Proofs.YthbkakcchgnhpaaSet.isSome_setCell
def spec_NumWrap.f (a0 : Int) : Option (Int) := (spec_l1Mod.f a0 4294967296).bind fun t1 => (if t1 > 2147483647 then (some (wrap64 (t1 - 4294967296))) else (some t1))
set_option maxHeartbeats 8000000 in
set_option maxRecDepth 100000 in
theorem spec_NumWrap.calls (a0 : Int) (r : Int) (w : World) (h : spec_NumWrap.f a0 = some r) :
  Calls Try.prog 64 #[.int .i64 a0] w fun e w' => e = .returned (.int .i64 r) ∧ Drawn0 w w' := by
 have H : ((spec_l1Mod.f a0 4294967296).bind fun t1 => (if t1 > 2147483647 then (some (wrap64 (t1 - 4294967296))) else (some t1))) = some r := h
 clear h
 obtain ⟨t1, A1, H⟩ := bd H
 try dsimp only at H
 by_cases c1 : t1 > 2147483647
 ·rw [if_pos c1] at H
  have d1 := dT c1
  clear c1
  obtain rfl := Option.some.inj H
  go_enter Try.func64, Try.ntmps64
  go_wp2_with (first | ((with_reducible refine gate_callee (f := 100) rfl ?_); refine goesL_ (some 5) rfl rfl Try.func100 (by kernel_rfl) rfl #[.int .i64 a0, .int .i64 4294967296] rfl mz ?_; (with_reducible refine (spec_l1Mod.calls _ _ _ _ A1.out).mono ?_); rintro e w' ⟨rfl, ⟨nd, rfl⟩⟩; refine ⟨_, rfl, ?_⟩))
  go_ret
  exact ⟨by first | rfl | (simp; done) | (simp [*]; done), by repeat (first | exact Drawn0.refl _ | apply Drawn0.step)⟩
 rw [if_neg c1] at H
 have d1 := dF c1
 clear c1
 obtain rfl := Option.some.inj H
 go_enter Try.func64, Try.ntmps64
 go_wp2_with (first | ((with_reducible refine gate_callee (f := 100) rfl ?_); refine goesL_ (some 5) rfl rfl Try.func100 (by kernel_rfl) rfl #[.int .i64 a0, .int .i64 4294967296] rfl mz ?_; (with_reducible refine (spec_l1Mod.calls _ _ _ _ A1.out).mono ?_); rintro e w' ⟨rfl, ⟨nd, rfl⟩⟩; refine ⟨_, rfl, ?_⟩))
 go_ret
 exact ⟨by first | rfl | (simp; done) | (simp [*]; done), by repeat (first | exact Drawn0.refl _ | apply Drawn0.step)⟩

/-! ### spec_l1Bits: function 90 -/
attribute [local go_sem] Go.Proofs.YthbkakcchgnhpaaSet.isSome_setCell
def spec_l1Bits.l0 : Nat → Int → Int → Int → Int → Int → Option (Int)
 | 0, _, _, _, _, _ => none
 | k + 1, x1, x2, x3, x4, x5 => if x5 < 32 then ((spec_l1Mod.f x2 4294967296).bind fun t1 => (if 0 ≤ (IntKind.u64.wrap (x5)) then ((spec_l1Mod.f x3 4294967296).bind fun t2 => (if x1 = 7 then (spec_l1Bits.l0 k x1 x2 x3 (wrap64 (x4 + (shl .i64 (wrap64 ((wrap64 ((Int.tmod (shr .i64 t1 (IntKind.u64.wrap (x5))) 2) + (Int.tmod (shr .i64 t2 (IntKind.u64.wrap (x5))) 2))) - (wrap64 ((Int.tmod (shr .i64 t1 (IntKind.u64.wrap (x5))) 2) * (Int.tmod (shr .i64 t2 (IntKind.u64.wrap (x5))) 2))))) (IntKind.u64.wrap (x5))))) (wrap64 (x5 + 1))) else (if x1 = 8 then (spec_l1Bits.l0 k x1 x2 x3 (wrap64 (x4 + (shl .i64 (Int.tmod (wrap64 ((Int.tmod (shr .i64 t1 (IntKind.u64.wrap (x5))) 2) + (Int.tmod (shr .i64 t2 (IntKind.u64.wrap (x5))) 2))) 2) (IntKind.u64.wrap (x5))))) (wrap64 (x5 + 1))) else (spec_l1Bits.l0 k x1 x2 x3 (wrap64 (x4 + (shl .i64 (wrap64 ((Int.tmod (shr .i64 t1 (IntKind.u64.wrap (x5))) 2) * (Int.tmod (shr .i64 t2 (IntKind.u64.wrap (x5))) 2))) (IntKind.u64.wrap (x5))))) (wrap64 (x5 + 1)))))) else (none))) else ((spec_NumWrap.f x4).bind fun t3 => (some t3))
def spec_l1Bits.f (k : Nat) (a0 : Int) (a1 : Int) (a2 : Int) : Option (Int) := spec_l1Bits.l0 k a0 a1 a2 0 0
theorem spec_l1Bits.mono_l : ∀ k, (∀ y0 y1 y2 y3 y4, LeO (spec_l1Bits.l0 k y0 y1 y2 y3 y4) (spec_l1Bits.l0 (k + 1) y0 y1 y2 y3 y4))
 | 0 => fun _ _ _ _ _ r h => by simp [spec_l1Bits.l0] at h
 | k + 1 => by
  have ih0 := spec_l1Bits.mono_l k
  ·intro y0 y1 y2 y3 y4
   unfold spec_l1Bits.l0
   repeat' first | (with_reducible first | apply ih0 | apply LeO.refl | apply LeO.none | refine LeO.ite ?_ ?_ | refine LeO.bind ?_ (fun _ => ?_)) | apply ih0 | apply LeO.none | refine LeO.ite ?_ ?_ | refine LeO.bind ?_ (fun _ => ?_)
theorem spec_l1Bits.mono : ∀ a0 a1 a2 k, LeO (spec_l1Bits.f k a0 a1 a2) (spec_l1Bits.f (k + 1) a0 a1 a2) := by
 intro a0 a1 a2 k
 have ih0 := spec_l1Bits.mono_l k
 unfold spec_l1Bits.f
 repeat' first | (with_reducible first | apply ih0 | apply LeO.refl | apply LeO.none | refine LeO.ite ?_ ?_ | refine LeO.bind ?_ (fun _ => ?_)) | apply ih0 | apply LeO.none | refine LeO.ite ?_ ?_ | refine LeO.bind ?_ (fun _ => ?_)
set_option maxHeartbeats 8000000 in
set_option maxRecDepth 100000 in
theorem spec_l1Bits.calls (k : Nat) (a0 : Int) (a1 : Int) (a2 : Int) (r : Int) (w : World) (h : spec_l1Bits.f k a0 a1 a2 = some r) :
  Calls Try.prog 90 #[.int .i64 a0, .int .i64 a1, .int .i64 a2] w fun e w' => e = .returned (.int .i64 r) ∧ Drawn0 w w' := by
 have H : (spec_l1Bits.l0 k a0 a1 a2 0 0) = some r := h
 clear h
 have H' := am H
 clear H
 go_enter Try.func90, Try.ntmps90
 go_wp2
 go_loopg [7, 8] k (fun kq v1 v2 w' => ∃ (x1 : Int) (x2 : Int), v1 = .int .i64 x1 ∧ v2 = .int .i64 x2 ∧ Aside0 (spec_l1Bits.l0 kq a0 a1 a2 x1 x2 = some r) ∧ Aside0 (kq ≤ k) ∧ Drawn0 w w')
 case atStart => exact ⟨(0), (0), ey, ey, H', ⟨Nat.le_refl _⟩, by repeat (first | exact Drawn0.refl _ | apply Drawn0.step)⟩
 case round =>
  clear H'
  obtain ⟨x1, x2, rfl, rfl, HA, HK1, ⟨m1, rfl⟩⟩ := hrel
  cases gk with
  | zero => exact absurd HA.out (by simp [spec_l1Bits.l0])
  | succ k1 =>
   have H := HA.out
   clear HA
   simp only [spec_l1Bits.l0] at H
   by_cases c1 : x2 < 32
   rotate_left
   ·rw [if_neg c1] at H
    have d1 := dF c1
    clear c1
    obtain ⟨t1, A1, H⟩ := bd H
    try dsimp only at H
    obtain rfl := Option.some.inj H
    go_wp2_with (first | ((with_reducible refine gate_callee (f := 64) rfl ?_); refine goesL_ (some 53) rfl rfl Try.func64 (by kernel_rfl) rfl #[.int .i64 x1] rfl mz ?_; (with_reducible refine (spec_NumWrap.calls _ _ _ A1.out).mono ?_); rintro e w' ⟨rfl, ⟨nd, rfl⟩⟩; refine ⟨_, rfl, ?_⟩))
    go_ret
    exact ⟨by first | rfl | (simp; done) | (simp [*]; done), by repeat (first | exact Drawn0.refl _ | apply Drawn0.step)⟩
   rw [if_pos c1] at H
   have d1 := dT c1
   clear c1
   obtain ⟨t1, A1, H⟩ := bd H
   try dsimp only at H
   obtain ⟨i1, j9⟩ : ∃ j_ : Int, (IntKind.u64.wrap (x2)) = j_ := ⟨_, rfl⟩
   replace H : (if 0 ≤ (i1) then ((spec_l1Mod.f a2 4294967296).bind fun t2 => (if a0 = 7 then (spec_l1Bits.l0 k1 a0 a1 a2 (wrap64 (x1 + (shl .i64 (wrap64 ((wrap64 ((Int.tmod (shr .i64 t1 (i1)) 2) + (Int.tmod (shr .i64 t2 (i1)) 2))) - (wrap64 ((Int.tmod (shr .i64 t1 (i1)) 2) * (Int.tmod (shr .i64 t2 (i1)) 2))))) (i1)))) (wrap64 (x2 + 1))) else (if a0 = 8 then (spec_l1Bits.l0 k1 a0 a1 a2 (wrap64 (x1 + (shl .i64 (Int.tmod (wrap64 ((Int.tmod (shr .i64 t1 (i1)) 2) + (Int.tmod (shr .i64 t2 (i1)) 2))) 2) (i1)))) (wrap64 (x2 + 1))) else (spec_l1Bits.l0 k1 a0 a1 a2 (wrap64 (x1 + (shl .i64 (wrap64 ((Int.tmod (shr .i64 t1 (i1)) 2) * (Int.tmod (shr .i64 t2 (i1)) 2))) (i1)))) (wrap64 (x2 + 1)))))) else (none)) = some r := by first | (rw [j9] at H; exact H) | (simp only [j9] at H ⊢; exact H)
   (try rw [j9] at A1)
   by_cases c2 : 0 ≤ (i1)
   rotate_left
   ·rw [if_neg c2] at H
    exact absurd H (by simp)
   rw [if_pos c2] at H
   have d2 := eq_true c2
   have d3 := dT c2
   clear c2
   obtain ⟨i2, j10⟩ : ∃ j_ : Int, (shr .i64 t1 (i1)) = j_ := ⟨_, rfl⟩
   replace H : ((spec_l1Mod.f a2 4294967296).bind fun t2 => (if a0 = 7 then (spec_l1Bits.l0 k1 a0 a1 a2 (wrap64 (x1 + (shl .i64 (wrap64 ((wrap64 ((Int.tmod (i2) 2) + (Int.tmod (shr .i64 t2 (i1)) 2))) - (wrap64 ((Int.tmod (i2) 2) * (Int.tmod (shr .i64 t2 (i1)) 2))))) (i1)))) (wrap64 (x2 + 1))) else (if a0 = 8 then (spec_l1Bits.l0 k1 a0 a1 a2 (wrap64 (x1 + (shl .i64 (Int.tmod (wrap64 ((Int.tmod (i2) 2) + (Int.tmod (shr .i64 t2 (i1)) 2))) 2) (i1)))) (wrap64 (x2 + 1))) else (spec_l1Bits.l0 k1 a0 a1 a2 (wrap64 (x1 + (shl .i64 (wrap64 ((Int.tmod (i2) 2) * (Int.tmod (shr .i64 t2 (i1)) 2))) (i1)))) (wrap64 (x2 + 1)))))) = some r := by first | (rw [j10] at H; exact H) | (simp only [j10] at H ⊢; exact H)
   (try rw [j10] at A1)
   have hji8_ : (t1 / 2 ^ min (i1).toNat 64) = i2 := j10
   have hji8z : (i1) ≤ 64 → (t1 / 2 ^ (i1).toNat) = i2 := shr_small j10
   obtain ⟨t2, A2, H⟩ := bd H
   try dsimp only at H
   have d4 := eq_true (oz : 0 ≤ (i1))
   obtain ⟨i3, j11⟩ : ∃ j_ : Int, (shr .i64 t2 (i1)) = j_ := ⟨_, rfl⟩
   replace H : (if a0 = 7 then (spec_l1Bits.l0 k1 a0 a1 a2 (wrap64 (x1 + (shl .i64 (wrap64 ((wrap64 ((Int.tmod (i2) 2) + (Int.tmod (i3) 2))) - (wrap64 ((Int.tmod (i2) 2) * (Int.tmod (i3) 2))))) (i1)))) (wrap64 (x2 + 1))) else (if a0 = 8 then (spec_l1Bits.l0 k1 a0 a1 a2 (wrap64 (x1 + (shl .i64 (Int.tmod (wrap64 ((Int.tmod (i2) 2) + (Int.tmod (i3) 2))) 2) (i1)))) (wrap64 (x2 + 1))) else (spec_l1Bits.l0 k1 a0 a1 a2 (wrap64 (x1 + (shl .i64 (wrap64 ((Int.tmod (i2) 2) * (Int.tmod (i3) 2))) (i1)))) (wrap64 (x2 + 1))))) = some r := by first | (rw [j11] at H; exact H) | (simp only [j11] at H ⊢; exact H)
   (try rw [j11] at A1)
   (try rw [j11] at A2)
   have hji11_ : (t2 / 2 ^ min (i1).toNat 64) = i3 := j11
   have hji11z : (i1) ≤ 64 → (t2 / 2 ^ (i1).toNat) = i3 := shr_small j11
   by_cases c3 : a0 = 7
   ·rw [if_pos c3] at H
    have d5 := eT c3
    have d6 := nF c3
    clear c3
    have d7 := eq_true (oz : 0 ≤ (i1))
    obtain ⟨i4, j12⟩ : ∃ j_ : Int, (shl .i64 (wrap64 ((wrap64 ((Int.tmod (i2) 2) + (Int.tmod (i3) 2))) - (wrap64 ((Int.tmod (i2) 2) * (Int.tmod (i3) 2))))) (i1)) = j_ := ⟨_, rfl⟩
    replace H : (spec_l1Bits.l0 k1 a0 a1 a2 (wrap64 (x1 + (i4))) (wrap64 (x2 + 1))) = some r := by first | (rw [j12] at H; exact H) | (simp only [j12] at H ⊢; exact H)
    (try rw [j12] at A1)
    (try rw [j12] at A2)
    have hji14_ : (IntKind.i64.wrap ((wrap64 ((wrap64 ((Int.tmod (i2) 2) + (Int.tmod (i3) 2))) - (wrap64 ((Int.tmod (i2) 2) * (Int.tmod (i3) 2))))) * 2 ^ min (i1).toNat 64)) = i4 := j12
    have hji14z : (i1) ≤ 64 → (IntKind.i64.wrap ((wrap64 ((wrap64 ((Int.tmod (i2) 2) + (Int.tmod (i3) 2))) - (wrap64 ((Int.tmod (i2) 2) * (Int.tmod (i3) 2))))) * 2 ^ (i1).toNat)) = i4 := shl_small j12
    have hji14y : (wrap64 ((wrap64 ((wrap64 ((Int.tmod (i2) 2) + (Int.tmod (i3) 2))) - (wrap64 ((Int.tmod (i2) 2) * (Int.tmod (i3) 2))))) * 2 ^ min (i1).toNat 64)) = i4 := (i64_w _).symm.trans hji14_
    have hji14x : (i1) ≤ 64 → (wrap64 ((wrap64 ((wrap64 ((Int.tmod (i2) 2) + (Int.tmod (i3) 2))) - (wrap64 ((Int.tmod (i2) 2) * (Int.tmod (i3) 2))))) * 2 ^ (i1).toNat)) = i4 := fun h_ => (i64_w _).symm.trans (hji14z h_)
    have H' := am H
    clear H
    go_wp2_with (first | ((with_reducible refine gate_callee (f := 100) rfl ?_); refine goesL_ (some 17) rfl rfl Try.func100 (by kernel_rfl) rfl #[.int .i64 a1, .int .i64 4294967296] rfl mz ?_; (with_reducible refine (spec_l1Mod.calls _ _ _ _ A1.out).mono ?_); rintro e w' ⟨rfl, ⟨nd, rfl⟩⟩; refine ⟨_, rfl, ?_⟩) | ((with_reducible refine gate_callee (f := 100) rfl ?_); refine goesL_ (some 23) rfl rfl Try.func100 (by kernel_rfl) rfl #[.int .i64 a2, .int .i64 4294967296] rfl mz ?_; (with_reducible refine (spec_l1Mod.calls _ _ _ _ A2.out).mono ?_); rintro e w' ⟨rfl, ⟨nd, rfl⟩⟩; refine ⟨_, rfl, ?_⟩))
    go_roundg k1
    case measure => have := HK1.out; omega
    case rel => exact ⟨(wrap64 (x1 + (i4))), (wrap64 (x2 + 1)), (by first | rfl | (simp; done) | (simp only [← j12] <;> (first | rfl | simp)) | (simp [*]; done)), ey, H', ⟨by have := HK1.out; omega⟩, by repeat (first | exact Drawn0.refl _ | apply Drawn0.step)⟩
   rw [if_neg c3] at H
   have d5 := eF c3
   have d6 := nT c3
   by_cases c4 : a0 = 8
   rotate_left
   ·rw [if_neg c4] at H
    have d7 := eF c4
    have d8 := nT c4
    have d9 := eq_true (oz : 0 ≤ (i1))
    obtain ⟨i4, j12⟩ : ∃ j_ : Int, (shl .i64 (wrap64 ((Int.tmod (i2) 2) * (Int.tmod (i3) 2))) (i1)) = j_ := ⟨_, rfl⟩
    replace H : (spec_l1Bits.l0 k1 a0 a1 a2 (wrap64 (x1 + (i4))) (wrap64 (x2 + 1))) = some r := by first | (rw [j12] at H; exact H) | (simp only [j12] at H ⊢; exact H)
    (try rw [j12] at A1)
    (try rw [j12] at A2)
    have hji19_ : (IntKind.i64.wrap ((wrap64 ((Int.tmod (i2) 2) * (Int.tmod (i3) 2))) * 2 ^ min (i1).toNat 64)) = i4 := j12
    have hji19z : (i1) ≤ 64 → (IntKind.i64.wrap ((wrap64 ((Int.tmod (i2) 2) * (Int.tmod (i3) 2))) * 2 ^ (i1).toNat)) = i4 := shl_small j12
    have hji19y : (wrap64 ((wrap64 ((Int.tmod (i2) 2) * (Int.tmod (i3) 2))) * 2 ^ min (i1).toNat 64)) = i4 := (i64_w _).symm.trans hji19_
    have hji19x : (i1) ≤ 64 → (wrap64 ((wrap64 ((Int.tmod (i2) 2) * (Int.tmod (i3) 2))) * 2 ^ (i1).toNat)) = i4 := fun h_ => (i64_w _).symm.trans (hji19z h_)
    have H' := am H
    clear H
    go_wp2_with (first | ((with_reducible refine gate_callee (f := 100) rfl ?_); refine goesL_ (some 17) rfl rfl Try.func100 (by kernel_rfl) rfl #[.int .i64 a1, .int .i64 4294967296] rfl mz ?_; (with_reducible refine (spec_l1Mod.calls _ _ _ _ A1.out).mono ?_); rintro e w' ⟨rfl, ⟨nd, rfl⟩⟩; refine ⟨_, rfl, ?_⟩) | ((with_reducible refine gate_callee (f := 100) rfl ?_); refine goesL_ (some 23) rfl rfl Try.func100 (by kernel_rfl) rfl #[.int .i64 a2, .int .i64 4294967296] rfl mz ?_; (with_reducible refine (spec_l1Mod.calls _ _ _ _ A2.out).mono ?_); rintro e w' ⟨rfl, ⟨nd, rfl⟩⟩; refine ⟨_, rfl, ?_⟩))
    go_roundg k1
    case measure => have := HK1.out; omega
    case rel => exact ⟨(wrap64 (x1 + (i4))), (wrap64 (x2 + 1)), (by first | rfl | (simp; done) | (simp only [← j12] <;> (first | rfl | simp)) | (simp [*]; done)), ey, H', ⟨by have := HK1.out; omega⟩, by repeat (first | exact Drawn0.refl _ | apply Drawn0.step)⟩
   rw [if_pos c4] at H
   have d7 := eT c4
   have d8 := nF c4
   clear c4
   have d9 := eq_true (oz : 0 ≤ (i1))
   obtain ⟨i4, j12⟩ : ∃ j_ : Int, (shl .i64 (Int.tmod (wrap64 ((Int.tmod (i2) 2) + (Int.tmod (i3) 2))) 2) (i1)) = j_ := ⟨_, rfl⟩
   replace H : (spec_l1Bits.l0 k1 a0 a1 a2 (wrap64 (x1 + (i4))) (wrap64 (x2 + 1))) = some r := by first | (rw [j12] at H; exact H) | (simp only [j12] at H ⊢; exact H)
   (try rw [j12] at A1)
   (try rw [j12] at A2)
   have hji17_ : (IntKind.i64.wrap ((Int.tmod (wrap64 ((Int.tmod (i2) 2) + (Int.tmod (i3) 2))) 2) * 2 ^ min (i1).toNat 64)) = i4 := j12
   have hji17z : (i1) ≤ 64 → (IntKind.i64.wrap ((Int.tmod (wrap64 ((Int.tmod (i2) 2) + (Int.tmod (i3) 2))) 2) * 2 ^ (i1).toNat)) = i4 := shl_small j12
   have hji17y : (wrap64 ((Int.tmod (wrap64 ((Int.tmod (i2) 2) + (Int.tmod (i3) 2))) 2) * 2 ^ min (i1).toNat 64)) = i4 := (i64_w _).symm.trans hji17_
   have hji17x : (i1) ≤ 64 → (wrap64 ((Int.tmod (wrap64 ((Int.tmod (i2) 2) + (Int.tmod (i3) 2))) 2) * 2 ^ (i1).toNat)) = i4 := fun h_ => (i64_w _).symm.trans (hji17z h_)
   have H' := am H
   clear H
   go_wp2_with (first | ((with_reducible refine gate_callee (f := 100) rfl ?_); refine goesL_ (some 17) rfl rfl Try.func100 (by kernel_rfl) rfl #[.int .i64 a1, .int .i64 4294967296] rfl mz ?_; (with_reducible refine (spec_l1Mod.calls _ _ _ _ A1.out).mono ?_); rintro e w' ⟨rfl, ⟨nd, rfl⟩⟩; refine ⟨_, rfl, ?_⟩) | ((with_reducible refine gate_callee (f := 100) rfl ?_); refine goesL_ (some 23) rfl rfl Try.func100 (by kernel_rfl) rfl #[.int .i64 a2, .int .i64 4294967296] rfl mz ?_; (with_reducible refine (spec_l1Mod.calls _ _ _ _ A2.out).mono ?_); rintro e w' ⟨rfl, ⟨nd, rfl⟩⟩; refine ⟨_, rfl, ?_⟩))
   go_roundg k1
   case measure => have := HK1.out; omega
   case rel => exact ⟨(wrap64 (x1 + (i4))), (wrap64 (x2 + 1)), (by first | rfl | (simp; done) | (simp only [← j12] <;> (first | rfl | simp)) | (simp [*]; done)), ey, H', ⟨by have := HK1.out; omega⟩, by repeat (first | exact Drawn0.refl _ | apply Drawn0.step)⟩

/-! ### spec_l1Power: function 98 -/
attribute [local go_sem] Go.Proofs.YthbkakcchgnhpaaSet.isSome_setCell
def spec_l1Power.l0 : Nat → Int → Int → Int → Option (Int)
 | 0, _, _, _ => none
 | k + 1, x1, x2, x3 => if x3 < x1 then (spec_l1Power.l0 k x1 (wrap64 (2 * x2)) (wrap64 (x3 + 1))) else (some x2)
def spec_l1Power.f (k : Nat) (a0 : Int) : Option (Int) := spec_l1Power.l0 k a0 1 0
theorem spec_l1Power.mono_l : ∀ k, (∀ y0 y1 y2, LeO (spec_l1Power.l0 k y0 y1 y2) (spec_l1Power.l0 (k + 1) y0 y1 y2))
 | 0 => fun _ _ _ r h => by simp [spec_l1Power.l0] at h
 | k + 1 => by
  have ih0 := spec_l1Power.mono_l k
  ·intro y0 y1 y2
   unfold spec_l1Power.l0
   repeat' first | (with_reducible first | apply ih0 | apply LeO.refl | apply LeO.none | refine LeO.ite ?_ ?_ | refine LeO.bind ?_ (fun _ => ?_)) | apply ih0 | apply LeO.none | refine LeO.ite ?_ ?_ | refine LeO.bind ?_ (fun _ => ?_)
theorem spec_l1Power.mono : ∀ a0 k, LeO (spec_l1Power.f k a0) (spec_l1Power.f (k + 1) a0) := by
 intro a0 k
 have ih0 := spec_l1Power.mono_l k
 unfold spec_l1Power.f
 repeat' first | (with_reducible first | apply ih0 | apply LeO.refl | apply LeO.none | refine LeO.ite ?_ ?_ | refine LeO.bind ?_ (fun _ => ?_)) | apply ih0 | apply LeO.none | refine LeO.ite ?_ ?_ | refine LeO.bind ?_ (fun _ => ?_)
set_option maxHeartbeats 8000000 in
set_option maxRecDepth 100000 in
theorem spec_l1Power.calls (k : Nat) (a0 : Int) (r : Int) (w : World) (h : spec_l1Power.f k a0 = some r) :
  Calls Try.prog 98 #[.int .i64 a0] w fun e w' => e = .returned (.int .i64 r) ∧ Drawn0 w w' := by
 have H : (spec_l1Power.l0 k a0 1 0) = some r := h
 clear h
 have H' := am H
 clear H
 go_enter Try.func98, Try.ntmps98
 go_wp2
 go_loopg [3, 4] k (fun kq v1 v2 w' => ∃ (x1 : Int) (x2 : Int), v1 = .int .i64 x1 ∧ v2 = .int .i64 x2 ∧ Aside0 (spec_l1Power.l0 kq a0 x1 x2 = some r) ∧ Aside0 (kq ≤ k) ∧ Drawn0 w w')
 case atStart => exact ⟨(1), (0), ey, ey, H', ⟨Nat.le_refl _⟩, by repeat (first | exact Drawn0.refl _ | apply Drawn0.step)⟩
 case round =>
  clear H'
  obtain ⟨x1, x2, rfl, rfl, HA, HK1, ⟨m1, rfl⟩⟩ := hrel
  cases gk with
  | zero => exact absurd HA.out (by simp [spec_l1Power.l0])
  | succ k1 =>
   have H := HA.out
   clear HA
   simp only [spec_l1Power.l0] at H
   by_cases c1 : x2 < a0
   rotate_left
   ·rw [if_neg c1] at H
    have d1 := dF c1
    clear c1
    obtain rfl := Option.some.inj H
    go_wp2
    go_ret
    exact ⟨by first | rfl | (simp; done) | (simp [*]; done), by repeat (first | exact Drawn0.refl _ | apply Drawn0.step)⟩
   rw [if_pos c1] at H
   have d1 := dT c1
   clear c1
   have H' := am H
   clear H
   go_wp2
   go_roundg k1
   case measure => have := HK1.out; omega
   case rel => exact ⟨(wrap64 (2 * x1)), (wrap64 (x2 + 1)), ey, ey, H', ⟨by have := HK1.out; omega⟩, by repeat (first | exact Drawn0.refl _ | apply Drawn0.step)⟩

/-! ### spec_l1Floor: function 99 -/
attribute [local go_sem] Go.Proofs.YthbkakcchgnhpaaSet.isSome_setCell
def spec_l1Floor.f (a0 : Int) (a1 : Int) : Option (Int) := (spec_l1Mod.f a0 a1).bind fun t1 => (if a1 = 0 then (none) else (some (wrap64 (Int.tdiv (wrap64 (a0 - t1)) a1))))
set_option maxHeartbeats 8000000 in
set_option maxRecDepth 100000 in
theorem spec_l1Floor.calls (a0 : Int) (a1 : Int) (r : Int) (w : World) (h : spec_l1Floor.f a0 a1 = some r) :
  Calls Try.prog 99 #[.int .i64 a0, .int .i64 a1] w fun e w' => e = .returned (.int .i64 r) ∧ Drawn0 w w' := by
 have H : ((spec_l1Mod.f a0 a1).bind fun t1 => (if a1 = 0 then (none) else (some (wrap64 (Int.tdiv (wrap64 (a0 - t1)) a1))))) = some r := h
 clear h
 obtain ⟨t1, A1, H⟩ := bd H
 try dsimp only at H
 by_cases c1 : a1 = 0
 ·rw [if_pos c1] at H
  exact absurd H (by simp)
 rw [if_neg c1] at H
 have d1 := eF c1
 have d2 := nT c1
 obtain rfl := Option.some.inj H
 go_enter Try.func99, Try.ntmps99
 go_wp2_with (first | ((with_reducible refine gate_callee (f := 100) rfl ?_); refine goesL_ (some 8) rfl rfl Try.func100 (by kernel_rfl) rfl #[.int .i64 a0, .int .i64 a1] rfl mz ?_; (with_reducible refine (spec_l1Mod.calls _ _ _ _ A1.out).mono ?_); rintro e w' ⟨rfl, ⟨nd, rfl⟩⟩; refine ⟨_, rfl, ?_⟩))
 go_ret
 exact ⟨by first | rfl | (simp; done) | (simp [*]; done), by repeat (first | exact Drawn0.refl _ | apply Drawn0.step)⟩

/-! ### spec_l1Exact: function 63 -/
attribute [local go_sem] Go.Proofs.YthbkakcchgnhpaaSet.isSome_setCell
mutual
def spec_l1Exact.j0 : Nat → Int → Int → Int → Bool → Option (Int)
 | 0, _, _, _, _ => none
 | k + 1, x1, x2, x3, x4 => if x4 = true then (some (wrap64 (x2 + x3))) else (if x1 = 2 then (spec_l1Exact.j1 k x1 x2 x3 true) else (spec_l1Exact.j1 k x1 x2 x3 (x1 == 12)))
def spec_l1Exact.j1 : Nat → Int → Int → Int → Bool → Option (Int)
 | 0, _, _, _, _ => none
 | k + 1, x1, x2, x3, x4 => if x4 = true then (some (wrap64 (x2 - x3))) else (if x1 = 3 then (spec_l1Exact.j2 k x1 x2 x3 true) else (spec_l1Exact.j2 k x1 x2 x3 (x1 == 13)))
def spec_l1Exact.j2 : Nat → Int → Int → Int → Bool → Option (Int)
 | 0, _, _, _, _ => none
 | k + 1, x1, x2, x3, x4 => if x4 = true then (some (wrap64 (x2 * x3))) else (if x1 = 4 then (if x3 = 0 then (none) else (some (wrap64 (Int.tdiv x2 x3)))) else (if x1 = 5 then (if x3 = 0 then (none) else (some (Int.tmod x2 x3))) else (if x1 = 9 then ((spec_l1Power.f k x3).bind fun t1 => (some (wrap64 (x2 * t1)))) else (if x1 = 10 then ((spec_l1Power.f k x3).bind fun t2 => ((spec_l1Floor.f x2 t2).bind fun t3 => (some t3))) else ((spec_l1Bits.f k x1 x2 x3).bind fun t4 => (some t4))))))
end
def spec_l1Exact.f (k : Nat) (a0 : Int) (a1 : Int) (a2 : Int) : Option (Int) := if a0 = 1 then (spec_l1Exact.j0 k a0 a1 a2 true) else (spec_l1Exact.j0 k a0 a1 a2 (a0 == 11))
theorem spec_l1Exact.mono_l : ∀ k, (∀ y0 y1 y2 y3, LeO (spec_l1Exact.j0 k y0 y1 y2 y3) (spec_l1Exact.j0 (k + 1) y0 y1 y2 y3)) ∧ (∀ y0 y1 y2 y3, LeO (spec_l1Exact.j1 k y0 y1 y2 y3) (spec_l1Exact.j1 (k + 1) y0 y1 y2 y3)) ∧ (∀ y0 y1 y2 y3, LeO (spec_l1Exact.j2 k y0 y1 y2 y3) (spec_l1Exact.j2 (k + 1) y0 y1 y2 y3))
 | 0 => ⟨fun _ _ _ _ r h => by simp [spec_l1Exact.j0] at h, fun _ _ _ _ r h => by simp [spec_l1Exact.j1] at h, fun _ _ _ _ r h => by simp [spec_l1Exact.j2] at h⟩
 | k + 1 => by
  obtain ⟨ih0, ih1, ih2⟩ := spec_l1Exact.mono_l k
  refine ⟨?_, ?_, ?_⟩ <;> (intros; (first | unfold spec_l1Exact.j0 | unfold spec_l1Exact.j1 | unfold spec_l1Exact.j2); repeat' first | (with_reducible first | apply ih0 | apply ih1 | apply ih2 | apply spec_l1Bits.mono | apply spec_l1Power.mono | apply LeO.refl | apply LeO.none | refine LeO.ite ?_ ?_ | refine LeO.bind ?_ (fun _ => ?_)) | apply ih0 | apply ih1 | apply ih2 | apply spec_l1Bits.mono | apply spec_l1Power.mono | apply LeO.none | refine LeO.ite ?_ ?_ | refine LeO.bind ?_ (fun _ => ?_))
theorem spec_l1Exact.mono : ∀ a0 a1 a2 k, LeO (spec_l1Exact.f k a0 a1 a2) (spec_l1Exact.f (k + 1) a0 a1 a2) := by
 intro a0 a1 a2 k
 obtain ⟨ih0, ih1, ih2⟩ := spec_l1Exact.mono_l k
 unfold spec_l1Exact.f
 repeat' first | (with_reducible first | apply ih0 | apply ih1 | apply ih2 | apply spec_l1Bits.mono | apply spec_l1Power.mono | apply LeO.refl | apply LeO.none | refine LeO.ite ?_ ?_ | refine LeO.bind ?_ (fun _ => ?_)) | apply ih0 | apply ih1 | apply ih2 | apply spec_l1Bits.mono | apply spec_l1Power.mono | apply LeO.none | refine LeO.ite ?_ ?_ | refine LeO.bind ?_ (fun _ => ?_)
set_option maxHeartbeats 8000000 in
set_option maxRecDepth 100000 in
theorem spec_l1Exact.calls (k : Nat) (a0 : Int) (a1 : Int) (a2 : Int) (r : Int) (w : World) (h : spec_l1Exact.f k a0 a1 a2 = some r) :
  Calls Try.prog 63 #[.int .i64 a0, .int .i64 a1, .int .i64 a2] w fun e w' => e = .returned (.int .i64 r) ∧ Drawn0 w w' := by
 have H : (if a0 = 1 then (spec_l1Exact.j0 k a0 a1 a2 true) else (spec_l1Exact.j0 k a0 a1 a2 (a0 == 11))) = some r := h
 clear h
 have C1 := am H
 clear H
 go_enter Try.func63, Try.ntmps63
 go_upto_region 1 with (fail)
 go_cut [12] (fun v1 wc => ∃ (kq : Nat) (x1 : Bool), v1 = .bool x1 ∧ Aside0 (spec_l1Exact.j0 kq a0 a1 a2 x1 = some r) ∧ Aside0 (kq ≤ k) ∧ Drawn0 w wc)
 case first =>
  have H := C1.out
  clear C1
  by_cases c1 : a0 = 1
  rotate_left
  ·rw [if_neg c1] at H
   have d1 := eF c1
   have d2 := nT c1
   (first | rw [d1] | (simp only [i64_w, i32_w]; rw [d1]) | skip)
   have H' := am H
   clear H
   go_wp2
   go_meet
   case rel => exact ⟨_, ((a0 == 11)), ey, H', le0, by repeat (first | exact Drawn0.refl _ | apply Drawn0.step)⟩
  rw [if_pos c1] at H
  have d1 := eT c1
  have d2 := nF c1
  clear c1
  (first | rw [d1] | (simp only [i64_w, i32_w]; rw [d1]) | skip)
  have H' := am H
  clear H
  go_wp2
  go_meet
  case rel => exact ⟨_, (true), ey, H', le0, by repeat (first | exact Drawn0.refl _ | apply Drawn0.step)⟩
 case rest =>
  clear C1
  obtain ⟨kq, x1, rfl, HA, J1, ⟨mc3, rfl⟩⟩ := hcut
  cases kq with
  | zero => exact absurd HA.out (by simp [spec_l1Exact.j0])
  | succ k1 =>
   have H := HA.out
   clear HA
   simp only [spec_l1Exact.j0] at H
   by_cases c1 : x1 = true
   ·subst c1
    rw [if_pos rfl] at H
    obtain rfl := Option.some.inj H
    go_wp2
    go_ret
    exact ⟨by first | rfl | (simp; done) | (simp [*]; done), by repeat (first | exact Drawn0.refl _ | apply Drawn0.step)⟩
   replace c1 := Bool.eq_false_iff.mpr c1
   subst c1
   rw [if_neg ff] at H
   have C2 := am H
   clear H
   go_upto_region 3 with (fail)
   go_cut [21] (fun v2 wc => ∃ (kq : Nat) (x2 : Bool), v2 = .bool x2 ∧ Aside0 (spec_l1Exact.j1 kq a0 a1 a2 x2 = some r) ∧ Aside0 (kq ≤ k1) ∧ Drawn0 w wc)
   case first =>
    have H := C2.out
    clear C2
    by_cases c2 : a0 = 2
    rotate_left
    ·rw [if_neg c2] at H
     have d1 := eF c2
     have d2 := nT c2
     (first | rw [d1] | (simp only [i64_w, i32_w]; rw [d1]) | skip)
     have H' := am H
     clear H
     go_wp2
     go_meet
     case rel => exact ⟨_, ((a0 == 12)), ey, H', le1 J1, by repeat (first | exact Drawn0.refl _ | apply Drawn0.step)⟩
    rw [if_pos c2] at H
    have d1 := eT c2
    have d2 := nF c2
    clear c2
    (first | rw [d1] | (simp only [i64_w, i32_w]; rw [d1]) | skip)
    have H' := am H
    clear H
    go_wp2
    go_meet
    case rel => exact ⟨_, (true), ey, H', le1 J1, by repeat (first | exact Drawn0.refl _ | apply Drawn0.step)⟩
   case rest =>
    clear C2
    try clear c1
    obtain ⟨kq, x2, rfl, HA, J2, ⟨mc6, rfl⟩⟩ := hcut
    cases kq with
    | zero => exact absurd HA.out (by simp [spec_l1Exact.j1])
    | succ k2 =>
     have H := HA.out
     clear HA
     simp only [spec_l1Exact.j1] at H
     by_cases c2 : x2 = true
     ·subst c2
      rw [if_pos rfl] at H
      obtain rfl := Option.some.inj H
      go_wp2
      go_ret
      exact ⟨by first | rfl | (simp; done) | (simp [*]; done), by repeat (first | exact Drawn0.refl _ | apply Drawn0.step)⟩
     replace c2 := Bool.eq_false_iff.mpr c2
     subst c2
     rw [if_neg ff] at H
     have C3 := am H
     clear H
     go_upto_region 5 with (fail)
     go_cut [30] (fun v3 wc => ∃ (kq : Nat) (x3 : Bool), v3 = .bool x3 ∧ Aside0 (spec_l1Exact.j2 kq a0 a1 a2 x3 = some r) ∧ Aside0 (kq ≤ k2) ∧ Drawn0 w wc)
     case first =>
      have H := C3.out
      clear C3
      by_cases c3 : a0 = 3
      rotate_left
      ·rw [if_neg c3] at H
       have d1 := eF c3
       have d2 := nT c3
       (first | rw [d1] | (simp only [i64_w, i32_w]; rw [d1]) | skip)
       have H' := am H
       clear H
       go_wp2
       go_meet
       case rel => exact ⟨_, ((a0 == 13)), ey, H', ⟨by have := J1.out; have := J2.out; first | omega | exact Nat.le_refl _⟩, by repeat (first | exact Drawn0.refl _ | apply Drawn0.step)⟩
      rw [if_pos c3] at H
      have d1 := eT c3
      have d2 := nF c3
      clear c3
      (first | rw [d1] | (simp only [i64_w, i32_w]; rw [d1]) | skip)
      have H' := am H
      clear H
      go_wp2
      go_meet
      case rel => exact ⟨_, (true), ey, H', ⟨by have := J1.out; have := J2.out; first | omega | exact Nat.le_refl _⟩, by repeat (first | exact Drawn0.refl _ | apply Drawn0.step)⟩
     case rest =>
      clear C3
      try clear c2
      obtain ⟨kq, x3, rfl, HA, J3, ⟨mc9, rfl⟩⟩ := hcut
      cases kq with
      | zero => exact absurd HA.out (by simp [spec_l1Exact.j2])
      | succ k3 =>
       have H := HA.out
       clear HA
       simp only [spec_l1Exact.j2] at H
       by_cases c3 : x3 = true
       ·subst c3
        rw [if_pos rfl] at H
        obtain rfl := Option.some.inj H
        go_wp2
        go_ret
        exact ⟨by first | rfl | (simp; done) | (simp [*]; done), by repeat (first | exact Drawn0.refl _ | apply Drawn0.step)⟩
       replace c3 := Bool.eq_false_iff.mpr c3
       subst c3
       rw [if_neg ff] at H
       by_cases c4 : a0 = 4
       ·rw [if_pos c4] at H
        have d1 := eT c4
        have d2 := nF c4
        clear c4
        by_cases c5 : a2 = 0
        ·rw [if_pos c5] at H
         exact absurd H (by simp)
        rw [if_neg c5] at H
        have d3 := eF c5
        have d4 := nT c5
        obtain rfl := Option.some.inj H
        go_wp2
        go_ret
        exact ⟨by first | rfl | (simp; done) | (simp [*]; done), by repeat (first | exact Drawn0.refl _ | apply Drawn0.step)⟩
       rw [if_neg c4] at H
       have d1 := eF c4
       have d2 := nT c4
       by_cases c5 : a0 = 5
       ·rw [if_pos c5] at H
        have d3 := eT c5
        have d4 := nF c5
        clear c5
        by_cases c6 : a2 = 0
        ·rw [if_pos c6] at H
         exact absurd H (by simp)
        rw [if_neg c6] at H
        have d5 := eF c6
        have d6 := nT c6
        obtain rfl := Option.some.inj H
        go_wp2
        go_ret
        exact ⟨by first | rfl | (simp; done) | (simp [*]; done), by repeat (first | exact Drawn0.refl _ | apply Drawn0.step)⟩
       rw [if_neg c5] at H
       have d3 := eF c5
       have d4 := nT c5
       by_cases c6 : a0 = 9
       ·rw [if_pos c6] at H
        have d5 := eT c6
        have d6 := nF c6
        clear c6
        obtain ⟨t1, A1, H⟩ := bd H
        try dsimp only at H
        obtain rfl := Option.some.inj H
        go_wp2_with (first | ((with_reducible refine gate_callee (f := 98) rfl ?_); refine goesL_ (some 48) rfl rfl Try.func98 (by kernel_rfl) rfl #[.int .i64 a2] rfl mz ?_; (with_reducible refine (spec_l1Power.calls _ _ _ _ A1.out).mono ?_); rintro e w' ⟨rfl, ⟨nd, rfl⟩⟩; refine ⟨_, rfl, ?_⟩))
        go_ret
        exact ⟨by first | rfl | (simp; done) | (simp [*]; done), by repeat (first | exact Drawn0.refl _ | apply Drawn0.step)⟩
       rw [if_neg c6] at H
       have d5 := eF c6
       have d6 := nT c6
       by_cases c7 : a0 = 10
       rotate_left
       ·rw [if_neg c7] at H
        have d7 := eF c7
        have d8 := nT c7
        obtain ⟨t1, A1, H⟩ := bd H
        try dsimp only at H
        obtain rfl := Option.some.inj H
        go_wp2_with (first | ((with_reducible refine gate_callee (f := 90) rfl ?_); refine goesL_ (some 59) rfl rfl Try.func90 (by kernel_rfl) rfl #[.int .i64 a0, .int .i64 a1, .int .i64 a2] rfl mz ?_; (with_reducible refine (spec_l1Bits.calls _ _ _ _ _ _ A1.out).mono ?_); rintro e w' ⟨rfl, ⟨nd, rfl⟩⟩; refine ⟨_, rfl, ?_⟩))
        go_ret
        exact ⟨by first | rfl | (simp; done) | (simp [*]; done), by repeat (first | exact Drawn0.refl _ | apply Drawn0.step)⟩
       rw [if_pos c7] at H
       have d7 := eT c7
       have d8 := nF c7
       clear c7
       obtain ⟨t1, A1, H⟩ := bd H
       try dsimp only at H
       obtain ⟨t2, A2, H⟩ := bd H
       try dsimp only at H
       obtain rfl := Option.some.inj H
       go_wp2_with (first | ((with_reducible refine gate_callee (f := 98) rfl ?_); refine goesL_ (some 54) rfl rfl Try.func98 (by kernel_rfl) rfl #[.int .i64 a2] rfl mz ?_; (with_reducible refine (spec_l1Power.calls _ _ _ _ A1.out).mono ?_); rintro e w' ⟨rfl, ⟨nd, rfl⟩⟩; refine ⟨_, rfl, ?_⟩) | ((with_reducible refine gate_callee (f := 99) rfl ?_); refine goesL_ (some 55) rfl rfl Try.func99 (by kernel_rfl) rfl #[.int .i64 a1, .int .i64 t1] rfl mz ?_; (with_reducible refine (spec_l1Floor.calls _ _ _ _ A2.out).mono ?_); rintro e w' ⟨rfl, ⟨nd, rfl⟩⟩; refine ⟨_, rfl, ?_⟩))
       go_ret
       exact ⟨by first | rfl | (simp; done) | (simp [*]; done), by repeat (first | exact Drawn0.refl _ | apply Drawn0.step)⟩

end Go.Proofs.Ythbkakcchgnhpaa.PFnRangeMore
