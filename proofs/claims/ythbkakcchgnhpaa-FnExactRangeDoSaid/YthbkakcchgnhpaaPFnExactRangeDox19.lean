/- Written by this session's own driver (wip/dprint.py): the functions that the law FnExactRangeDo reaches, as Lean functions, each with its contract. -/
import Derived.Test.YthbkakcchgnhpaaPFnExactRangeDox0
import Derived.Test.YthbkakcchgnhpaaPFnExactRangeDox12
import Derived.Test.YthbkakcchgnhpaaPFnExactRangeDox16
import Derived.Test.YthbkakcchgnhpaaPFnExactRangeDox18
import Derived.Test.YthbkakcchgnhpaaSv
namespace Go.Proofs.Ythbkakcchgnhpaa.PFnExactRangeDo
open Go.RowKit Go.Proofs.YthbkakcchgnhpaaV.PrintWords Go.Proofs.YthbkakcchgnhpaaV.PrintLast Go.Proofs.YthbkakcchgnhpaaV.PrintMore Go.Proofs.YthbkakcchgnhpaaSv
attribute [local go_sem] max2_int min2_int max_two min_two max_three min_three max_four min_four   -- for this text's walks alone
set_option linter.unusedVariables false
set_option linter.unusedSimpArgs false

/-! ### impl_rangeRem: function 54 -/
attribute [local go_sem] Go.Proofs.YthbkakcchgnhpaaSet.isSome_setCell
mutual
def impl_rangeRem.j0 : Nat → Bool → Int → Int → Int → Int → Option (Int × Int × List Int)
 | 0, _, _, _, _, _ => none
 | k + 1, x21, x414000, x414001, x415000, x415001 => if x21 = true then (if x415000 = 0 then (none) else (some (Int.tmod x414000 x415000, Int.tmod x414000 x415000, ([] : List Int)))) else ((impl_rangeSides.f k x415000 x415001).bind fun bt418 => ((impl_rangeNone.f).bind fun bt423 => ((impl_Range_empty.f bt418.1 bt418.2.1).bind fun t427 => (if t427 = true then (impl_rangeRem.j1 k x414000 x414001 x415000 x415001 bt418.1 bt418.2.1 bt418.2.2.1 bt418.2.2.2 bt423.1 bt423.2) else ((impl_rangeRemBy.f k x414000 x414001 (wrap64 (-bt418.2.1)) (wrap64 (-bt418.1))).bind fun bt428 => ((impl_RangeJoin.f k bt423.1 bt423.2 bt428.1 bt428.2).bind fun bt430 => (impl_rangeRem.j1 k x414000 x414001 x415000 x415001 bt418.1 bt418.2.1 bt418.2.2.1 bt418.2.2.2 bt430.1 bt430.2)))))))
def impl_rangeRem.j1 : Nat → Int → Int → Int → Int → Int → Int → Int → Int → Int → Int → Option (Int × Int × List Int)
 | 0, _, _, _, _, _, _, _, _, _, _ => none
 | k + 1, x414000, x414001, x415000, x415001, x423000, x423001, x423002, x423003, x426000, x426001 => (impl_Range_empty.f x423002 x423003).bind fun t433 => (if t433 = true then ((impl_RangeHas.f x415000 x415001 0).bind fun t434 => (if t434 = true then (some (x426000, x426001, (([2] : List Int)))) else (some (x426000, x426001, ([] : List Int))))) else ((impl_rangeRemBy.f k x414000 x414001 x423002 x423003).bind fun bt438 => ((impl_RangeJoin.f k x426000 x426001 bt438.1 bt438.2).bind fun bt440 => ((impl_RangeHas.f x415000 x415001 0).bind fun t442 => (if t442 = true then (some (bt440.1, bt440.2, (([2] : List Int)))) else (some (bt440.1, bt440.2, ([] : List Int))))))))
end
def impl_rangeRem.f (k : Nat) (a0_0 : Int) (a0_1 : Int) (a1_0 : Int) (a1_1 : Int) : Option (Int × Int × List Int) := (impl_Range_single.f a0_0 a0_1).bind fun t416 => (if t416 = true then ((impl_Range_single.f a1_0 a1_1).bind fun t417 => (if t417 = true then (impl_rangeRem.j0 k (a1_0 != 0) a0_0 a0_1 a1_0 a1_1) else (impl_rangeRem.j0 k false a0_0 a0_1 a1_0 a1_1))) else (impl_rangeRem.j0 k false a0_0 a0_1 a1_0 a1_1))
theorem impl_rangeRem.mono_l : ∀ k, (∀ y0 y1 y2 y3 y4, LeO (impl_rangeRem.j0 k y0 y1 y2 y3 y4) (impl_rangeRem.j0 (k + 1) y0 y1 y2 y3 y4)) ∧ (∀ y0 y1 y2 y3 y4 y5 y6 y7 y8 y9, LeO (impl_rangeRem.j1 k y0 y1 y2 y3 y4 y5 y6 y7 y8 y9) (impl_rangeRem.j1 (k + 1) y0 y1 y2 y3 y4 y5 y6 y7 y8 y9))
 | 0 => ⟨fun _ _ _ _ _ r h => by simp [impl_rangeRem.j0] at h, fun _ _ _ _ _ _ _ _ _ _ r h => by simp [impl_rangeRem.j1] at h⟩
 | k + 1 => by
  obtain ⟨ih0, ih1⟩ := impl_rangeRem.mono_l k
  refine ⟨?_, ?_⟩
  ·intro y0 y1 y2 y3 y4
   unfold impl_rangeRem.j0
   repeat' first
   | (with_reducible exact ih0 _ _ _ _ _)
   | (with_reducible exact ih1 _ _ _ _ _ _ _ _ _ _)
   | (with_reducible exact impl_RangeJoin.mono _ _ _ _ _)
   | (with_reducible exact impl_rangeRemBy.mono _ _ _ _ _)
   | (with_reducible exact impl_rangeSides.mono _ _ _)
   | (with_reducible exact LeO.refl _)
   | (with_reducible exact LeO.none _)
   | (with_reducible refine LeO.ite ?_ ?_)
   | (with_reducible refine LeO.bind ?_ (fun _ => ?_))
   | exact ih0 _ _ _ _ _
   | exact ih1 _ _ _ _ _ _ _ _ _ _
   | exact impl_RangeJoin.mono _ _ _ _ _
   | exact impl_rangeRemBy.mono _ _ _ _ _
   | exact impl_rangeSides.mono _ _ _
   | exact LeO.none _
   | refine LeO.ite ?_ ?_
   | refine LeO.bind ?_ (fun _ => ?_)
  ·intro y0 y1 y2 y3 y4 y5 y6 y7 y8 y9
   unfold impl_rangeRem.j1
   repeat' first
   | (with_reducible exact ih0 _ _ _ _ _)
   | (with_reducible exact ih1 _ _ _ _ _ _ _ _ _ _)
   | (with_reducible exact impl_RangeJoin.mono _ _ _ _ _)
   | (with_reducible exact impl_rangeRemBy.mono _ _ _ _ _)
   | (with_reducible exact impl_rangeSides.mono _ _ _)
   | (with_reducible exact LeO.refl _)
   | (with_reducible exact LeO.none _)
   | (with_reducible refine LeO.ite ?_ ?_)
   | (with_reducible refine LeO.bind ?_ (fun _ => ?_))
   | exact ih0 _ _ _ _ _
   | exact ih1 _ _ _ _ _ _ _ _ _ _
   | exact impl_RangeJoin.mono _ _ _ _ _
   | exact impl_rangeRemBy.mono _ _ _ _ _
   | exact impl_rangeSides.mono _ _ _
   | exact LeO.none _
   | refine LeO.ite ?_ ?_
   | refine LeO.bind ?_ (fun _ => ?_)
theorem impl_rangeRem.mono : ∀ a0 a1 a2 a3 k, LeO (impl_rangeRem.f k a0 a1 a2 a3) (impl_rangeRem.f (k + 1) a0 a1 a2 a3) := by
 intro a0 a1 a2 a3 k
 obtain ⟨ih0, ih1⟩ := impl_rangeRem.mono_l k
 unfold impl_rangeRem.f
 repeat' first
   | (with_reducible exact ih0 _ _ _ _ _)
   | (with_reducible exact ih1 _ _ _ _ _ _ _ _ _ _)
   | (with_reducible exact impl_RangeJoin.mono _ _ _ _ _)
   | (with_reducible exact impl_rangeRemBy.mono _ _ _ _ _)
   | (with_reducible exact impl_rangeSides.mono _ _ _)
   | (with_reducible exact LeO.refl _)
   | (with_reducible exact LeO.none _)
   | (with_reducible refine LeO.ite ?_ ?_)
   | (with_reducible refine LeO.bind ?_ (fun _ => ?_))
   | exact ih0 _ _ _ _ _
   | exact ih1 _ _ _ _ _ _ _ _ _ _
   | exact impl_RangeJoin.mono _ _ _ _ _
   | exact impl_rangeRemBy.mono _ _ _ _ _
   | exact impl_rangeSides.mono _ _ _
   | exact LeO.none _
   | refine LeO.ite ?_ ?_
   | refine LeO.bind ?_ (fun _ => ?_)
def impl_rangeRem.T8 : Bool × List (List Nat × List Nat) := (true, [([], []), ([], []), ([], []), ([2], [2]), ([3], [3]), ([], []), ([5], [5]), ([6], [6]), ([1, 4, 7], [1, 4, 7]), ([0, 8, 8], [0, 8]), ([9, 9, 0, 1, 2, 3, 4, 5, 6, 7, 8, 9], [9])])
def impl_rangeRem.B8 : List Nat := [0, 0, 0, 4, 12, 0, 32, 96, 254, 511, 1023]
theorem impl_rangeRem.tab8 : rtab .any (opsOf Try.f54 8) = impl_rangeRem.T8 := by kernel_rfl
theorem impl_rangeRem.bits8 : waitsOk impl_rangeRem.T8.2 impl_rangeRem.B8 = true := by kernel_rfl
def impl_rangeRem.T11 : Bool × List (List Nat × List Nat) := (true, [([], []), ([], []), ([], []), ([2], [2]), ([], []), ([4], [4]), ([1, 3, 5], [1, 3, 5]), ([0, 6, 6], [0, 6]), ([7, 7, 0, 1, 2, 3, 4, 5, 6, 7], [7])])
def impl_rangeRem.B11 : List Nat := [0, 0, 0, 4, 0, 16, 62, 127, 255]
theorem impl_rangeRem.tab11 : rtab .any (opsOf Try.f54 11) = impl_rangeRem.T11 := by kernel_rfl
theorem impl_rangeRem.bits11 : waitsOk impl_rangeRem.T11.2 impl_rangeRem.B11 = true := by kernel_rfl
set_option maxHeartbeats 8000000 in
set_option maxRecDepth 100000 in
theorem impl_rangeRem.calls (k : Nat) (a0_0 : Int) (a0_1 : Int) (a1_0 : Int) (a1_1 : Int) (r1 : Int) (r2 : Int) (r3 : List Int) (w : World) (h : impl_rangeRem.f k a0_0 a0_1 a1_0 a1_1 = some (r1, r2, r3)) :
  Calls Try.prog 54 #[.agg #[.int .i64 a0_0, .int .i64 a0_1], .agg #[.int .i64 a1_0, .int .i64 a1_1]] w fun e w' => ∃ v2_ : Value, e = .returned (.tuple #[.agg #[.int .i64 r1, .int .i64 r2], v2_]) ∧ Kd.R (Kd.int .i64) 3 w' w.heap.size (fun _ => True) v2_ r3 ∧ Below w.heap.size w w' := by
 have hu24 := Try.underlying24
 have hu96 := Try.underlying96
 have HB := am (Below.refl w.heap.size w)
 have H : ((impl_Range_single.f a0_0 a0_1).bind fun t416 => (if t416 = true then ((impl_Range_single.f a1_0 a1_1).bind fun t417 => (if t417 = true then (impl_rangeRem.j0 k (a1_0 != 0) a0_0 a0_1 a1_0 a1_1) else (impl_rangeRem.j0 k false a0_0 a0_1 a1_0 a1_1))) else (impl_rangeRem.j0 k false a0_0 a0_1 a1_0 a1_1))) = some (r1, r2, r3) := h
 clear h
 have HC3 := am H
 clear H
 go_enter Try.func54, Try.ntmps54
 go_upto_region 1 with (first | ((with_reducible refine gate_dst (N := 2) rfl ?_); refine bx 2 #[.int .i64 a0_0, .int .i64 a0_1] 24 ?_; intro gb413 hg w4 hbox hb; have BK413 := am (hbox); have GW413 := am (bs hg (Y0 HB)); have GE413 := am (bs hg (Y0 HB)); replace HB := am (below_step (Y0 HB) hb); clear hb hbox hg) | ((with_reducible refine gate_dst (N := 3) rfl ?_); refine bx 3 #[.int .i64 a1_0, .int .i64 a1_1] 24 ?_; intro gb414 hg w5 hbox hb; have BK414 := am (hbox); have GW414 := am (bs hg (Y1 HB GE413)); have GE414 := am (bs hg (Y1 HB GE413)); obtain ⟨NB413_414,NB414_413⟩ := ne_ hg BK413; replace BK413 := bb BK413 hb; replace HB := am (below_step (Y1 HB GE413) hb); clear hb hbox hg) | ((with_reducible refine gate_dst (N := 4) rfl ?_); refine bx 4 #[.int .i64 0, .int .i64 0] 24 ?_; intro gb415 hg w6 hbox hb; have BK415 := am (hbox); have GW415 := am (bs hg (Y2 HB GE413 GE414)); have GE415 := am (bs hg (Y2 HB GE413 GE414)); obtain ⟨NB413_415,NB415_413⟩ := ne_ hg BK413; obtain ⟨NB414_415,NB415_414⟩ := ne_ hg BK414; replace BK413 := bb BK413 hb; replace BK414 := bb BK414 hb; replace HB := am (below_step (Y2 HB GE413 GE414) hb); clear hb hbox hg))
 (try simp only [Act.put, List.setIfInBounds_toArray, List.set_cons_zero, List.set_cons_succ])
 go_cut [21] (fun v21 wc => ∃ (kq : Nat) (x21_2 : Bool), v21 = .bool x21_2 ∧ Aside0 (impl_rangeRem.j0 kq x21_2 a0_0 a0_1 a1_0 a1_1 = some (r1, r2, r3)) ∧ Aside0 (kq ≤ k) ∧ Aside0 (wc.heap[gb413]? = some (.cells #[.int .i64 a0_0, .int .i64 a0_1] 24 (0, 0))) ∧ Aside0 (wc.heap[gb414]? = some (.cells #[.int .i64 a1_0, .int .i64 a1_1] 24 (0, 0))) ∧ Aside0 (wc.heap[gb415]? = some (.cells #[.int .i64 0, .int .i64 0] 24 (0, 0))) ∧ Aside0 (Below w.heap.size w wc))
 case first =>
  have H := HC3.out
  clear HC3
  replace H := Option.bind_eq_some_iff.mp H
  obtain ⟨t416, A70, H⟩ := H
  try dsimp only at H
  have A7 := am A70
  clear A70
  by_cases c8 : t416 = true
  rotate_left
  ·replace c8 := Bool.eq_false_iff.mpr c8
   subst c8
   rw [if_neg (show ¬ (false = true) by decide)] at H
   have H' := am H
   clear H
   obtain ⟨hnb26,hnc26⟩ := nn NB413_414
   obtain ⟨hnb27,hnc27⟩ := nn NB413_415
   obtain ⟨hcz28_0,hcz28_1,hfz28_0,hfz28_1⟩ := c2 BK413
   go_wp2_with (first | ((with_reducible refine gate_callee (f := 96) rfl ?_); refine goesL_ (some 12) rfl rfl Try.func96 (by kernel_rfl) rfl #[.agg #[.int .i64 a0_0, .int .i64 a0_1]] rfl mz ?_; (with_reducible refine (impl_Range_single.calls a0_0 a0_1 false _ A7.out).mono ?_); rintro e w29 ⟨rfl, hb⟩; refine ⟨_, rfl, ?_⟩; replace BK413 := bb BK413 hb; replace BK414 := bb BK414 hb; replace BK415 := bb BK415 hb; replace HB := am (below_step (Y3 HB GE413 GE414 GE415) hb); (try clear hb)))
   go_meet
   case rel => exact ⟨_, (false), ey, H', ⟨by first | omega | exact Nat.le_refl _⟩, ⟨Z BK413⟩, ⟨Z BK414⟩, ⟨Z BK415⟩, ⟨Y3 HB GE413 GE414 GE415⟩⟩
  subst c8
  rw [if_pos rfl] at H
  replace H := Option.bind_eq_some_iff.mp H
  obtain ⟨t417, A90, H⟩ := H
  try dsimp only at H
  have A9 := am A90
  clear A90
  by_cases c10 : t417 = true
  rotate_left
  ·replace c10 := Bool.eq_false_iff.mpr c10
   subst c10
   rw [if_neg (show ¬ (false = true) by decide)] at H
   have H' := am H
   clear H
   obtain ⟨hnb19,hnc19⟩ := nn NB413_414
   obtain ⟨hnb20,hnc20⟩ := nn NB413_415
   obtain ⟨hcz21_0,hcz21_1,hfz21_0,hfz21_1⟩ := c2 BK413
   go_wp2_with (first | ((with_reducible refine gate_callee (f := 96) rfl ?_); refine goesL_ (some 12) rfl rfl Try.func96 (by kernel_rfl) rfl #[.agg #[.int .i64 a0_0, .int .i64 a0_1]] rfl mz ?_; (with_reducible refine (impl_Range_single.calls a0_0 a0_1 true _ A7.out).mono ?_); rintro e w22 ⟨rfl, hb⟩; refine ⟨_, rfl, ?_⟩; replace BK413 := bb BK413 hb; replace BK414 := bb BK414 hb; replace BK415 := bb BK415 hb; replace HB := am (below_step (Y3 HB GE413 GE414 GE415) hb); (try clear hb); obtain ⟨hnb23,hnc23⟩ := nn NB414_415; obtain ⟨hcz24_0,hcz24_1,hfz24_0,hfz24_1⟩ := c2 BK414) | (go_at_call 96; (with_reducible refine (impl_Range_single.calls a1_0 a1_1 false _ A9.out).mono ?_); rintro e w25 ⟨rfl, hb⟩; replace BK413 := bb BK413 hb; replace BK414 := bb BK414 hb; replace BK415 := bb BK415 hb; replace HB := am (below_step (Y3 HB GE413 GE414 GE415) hb); (try clear hb)))
   go_meet
   case rel => exact ⟨_, (false), ey, H', ⟨by first | omega | exact Nat.le_refl _⟩, ⟨Z BK413⟩, ⟨Z BK414⟩, ⟨Z BK415⟩, ⟨Y3 HB GE413 GE414 GE415⟩⟩
  subst c10
  rw [if_pos rfl] at H
  have H' := am H
  clear H
  obtain ⟨hnb11,hnc11⟩ := nn NB413_414
  obtain ⟨hnb12,hnc12⟩ := nn NB413_415
  obtain ⟨hcz13_0,hcz13_1,hfz13_0,hfz13_1⟩ := c2 BK413
  go_wp2_with (first | ((with_reducible refine gate_callee (f := 96) rfl ?_); refine goesL_ (some 12) rfl rfl Try.func96 (by kernel_rfl) rfl #[.agg #[.int .i64 a0_0, .int .i64 a0_1]] rfl mz ?_; (with_reducible refine (impl_Range_single.calls a0_0 a0_1 true _ A7.out).mono ?_); rintro e w14 ⟨rfl, hb⟩; refine ⟨_, rfl, ?_⟩; replace BK413 := bb BK413 hb; replace BK414 := bb BK414 hb; replace BK415 := bb BK415 hb; replace HB := am (below_step (Y3 HB GE413 GE414 GE415) hb); (try clear hb); obtain ⟨hnb15,hnc15⟩ := nn NB414_415; obtain ⟨hcz16_0,hcz16_1,hfz16_0,hfz16_1⟩ := c2 BK414) | (go_at_call 96; (with_reducible refine (impl_Range_single.calls a1_0 a1_1 true _ A9.out).mono ?_); rintro e w17 ⟨rfl, hb⟩; replace BK413 := bb BK413 hb; replace BK414 := bb BK414 hb; replace BK415 := bb BK415 hb; replace HB := am (below_step (Y3 HB GE413 GE414 GE415) hb); (try clear hb); obtain ⟨hcz18_0,hcz18_1,hfz18_0,hfz18_1⟩ := c2 BK414))
  go_meet
  case rel => exact ⟨_, ((a1_0 != 0)), ey, H', ⟨by first | omega | exact Nat.le_refl _⟩, ⟨Z BK413⟩, ⟨Z BK414⟩, ⟨Z BK415⟩, ⟨Y3 HB GE413 GE414 GE415⟩⟩
 case rest =>
  clear HC3
  obtain ⟨kq, x21_2, rfl, HA, HJ2, BK413, BK414, BK415, HB⟩ := hcut
  cases kq with
  | zero => exact absurd HA.out (by simp [impl_rangeRem.j0])
  | succ kj2 =>
   have H := HA.out
   clear HA
   simp only [impl_rangeRem.j0] at H
   by_cases c30 : x21_2 = true
   ·subst c30
    rw [if_pos rfl] at H
    by_cases c31 : a1_0 = 0
    ·rw [if_pos c31] at H
     exact absurd H (by simp)
    rw [if_neg c31] at H
    have c31b0 : (a1_0 == 0) = false := beq_eq_false_iff_ne.mpr c31
    have c31b1 : (a1_0 != 0) = true := bne_iff_ne.mpr c31
    simp only [Option.some.injEq, Prod.mk.injEq] at H
    obtain ⟨rfl, rfl, rfl⟩ := H
    obtain ⟨hnb32,hnc32⟩ := nn NB413_414
    obtain ⟨hnb33,hnc33⟩ := nn NB413_415
    obtain ⟨hcz34_0,hcz34_1,hfz34_0,hfz34_1⟩ := c2 BK413
    obtain ⟨hnb35,hnc35⟩ := nn NB414_415
    obtain ⟨hcz36_0,hcz36_1,hfz36_0,hfz36_1⟩ := c2 BK414
    obtain ⟨hcz37_0,hcz37_1,hfz37_0,hfz37_1⟩ := c2 BK415
    go_wp2
    refine bodyPost_ret (results_ct rfl _ _ gb415 24 #[.int .i64 (Int.tmod a0_0 a1_0), .int .i64 (Int.tmod a0_0 a1_0)] (0, 0) _ rfl (by refine pf ?_; refine blk_put (cs := #[.int .i64 (Int.tmod a0_0 a1_0), .int .i64 0]) ?_ 1 _ rfl; refine pf ?_; refine blk_put (cs := #[.int .i64 0, .int .i64 0]) ?_ 0 _ rfl; exact Z BK415) Try.underlying24 rfl (by kernel_rfl)) rfl ?_
    exact ⟨_, ez, by first | exact Kd.R_nil _ _ _ _ _ | exact Kd.N_nil _ _ _ _ _ | exact Kd.V_nil _ _ _ _ _ | exact Kd.Q_nil _ _ _ _ _ | exact Kd.S_nil _ _ _ _ _, Y3 HB GE413 GE414 GE415⟩
   replace c30 := Bool.eq_false_iff.mpr c30
   subst c30
   rw [if_neg (show ¬ (false = true) by decide)] at H
   replace H := Option.bind_eq_some_iff.mp H
   obtain ⟨⟨t418, t419, t420, t421⟩, A380, H⟩ := H
   try dsimp only at H
   have A38 := am A380
   clear A380
   replace H := Option.bind_eq_some_iff.mp H
   obtain ⟨⟨t423, t424⟩, A390, H⟩ := H
   try dsimp only at H
   have A39 := am A390
   clear A390
   replace H := Option.bind_eq_some_iff.mp H
   obtain ⟨t427, A400, H⟩ := H
   try dsimp only at H
   have A40 := am A400
   clear A400
   have HC41 := am H
   clear H
   obtain ⟨hnb42,hnc42⟩ := nn NB414_413
   obtain ⟨hnb43,hnc43⟩ := nn NB414_415
   obtain ⟨hcz44_0,hcz44_1,hfz44_0,hfz44_1⟩ := c2 BK414
   go_upto_if 37 with (first | ((with_reducible refine gate_callee (f := 94) rfl ?_); refine goesL_ (some 31) rfl rfl Try.func94 (by kernel_rfl) rfl #[.agg #[.int .i64 a1_0, .int .i64 a1_1]] rfl mz ?_; (with_reducible refine (impl_rangeSides.calls kj2 a1_0 a1_1 t418 t419 t420 t421 _ A38.out).mono ?_); rintro e w45 ⟨rfl, hb⟩; refine ⟨_, rfl, ?_⟩; replace BK413 := bb BK413 hb; replace BK414 := bb BK414 hb; replace BK415 := bb BK415 hb; replace HB := am (below_step (Y3 HB GE413 GE414 GE415) hb); (try clear hb)) | ((with_reducible refine gate_dst (N := 7) rfl ?_); refine bx 7 #[.int .i64 0, .int .i64 0, .int .i64 0, .int .i64 0] 96 ?_; intro gb422 hg w46 hbox hb; have BK422 := am (hbox); have GW422 := am (bs hg (Y3 HB GE413 GE414 GE415)); have GE422 := am (bs hg (Y3 HB GE413 GE414 GE415)); obtain ⟨NB413_422,NB422_413⟩ := ne_ hg BK413; obtain ⟨NB414_422,NB422_414⟩ := ne_ hg BK414; obtain ⟨NB415_422,NB422_415⟩ := ne_ hg BK415; replace BK413 := bb BK413 hb; replace BK414 := bb BK414 hb; replace BK415 := bb BK415 hb; replace HB := am (below_step (Y3 HB GE413 GE414 GE415) hb); clear hb hbox hg; obtain ⟨hnb47,hnc47⟩ := nn NB422_413; obtain ⟨hnb48,hnc48⟩ := nn NB422_414; obtain ⟨hnb49,hnc49⟩ := nn NB422_415; obtain ⟨hcz50_0,hcz50_1,hcz50_2,hcz50_3,hfz50_0,hfz50_1,hfz50_2,hfz50_3⟩ := c4 BK422) | ((with_reducible refine gate_callee (f := 48) rfl ?_); refine goesL_ (some 32) rfl rfl Try.func48 (by kernel_rfl) rfl #[] rfl mz ?_; (with_reducible refine (impl_rangeNone.calls  t423 t424 _ A39.out).mono ?_); rintro e w51 ⟨rfl, hb⟩; refine ⟨_, rfl, ?_⟩; replace BK413 := am (blk_below (g := gb413) (o := b2 a0_0 a0_1 24) (by refine fa NB413_422 ?_; refine fa NB413_422 ?_; refine fa NB413_422 ?_; refine fa NB413_422 ?_; exact Z BK413) hb); replace BK414 := am (blk_below (g := gb414) (o := b2 a1_0 a1_1 24) (by refine fa NB414_422 ?_; refine fa NB414_422 ?_; refine fa NB414_422 ?_; refine fa NB414_422 ?_; exact Z BK414) hb); replace BK415 := am (blk_below (g := gb415) (o := b2 0 0 24) (by refine fa NB415_422 ?_; refine fa NB415_422 ?_; refine fa NB415_422 ?_; refine fa NB415_422 ?_; exact Z BK415) hb); replace BK422 := am (blk_below (g := gb422) (o := b4 t418 t419 t420 t421 96) (by refine pf ?_; refine blk_put (cs := #[.int .i64 t418, .int .i64 t419, .int .i64 t420, .int .i64 0]) ?_ 3 _ rfl; refine pf ?_; refine blk_put (cs := #[.int .i64 t418, .int .i64 t419, .int .i64 0, .int .i64 0]) ?_ 2 _ rfl; refine pf ?_; refine blk_put (cs := #[.int .i64 t418, .int .i64 0, .int .i64 0, .int .i64 0]) ?_ 1 _ rfl; refine pf ?_; refine blk_put (cs := #[.int .i64 0, .int .i64 0, .int .i64 0, .int .i64 0]) ?_ 0 _ rfl; exact Z BK422) hb); replace HB := am (below_step (Y4 HB GE413 GE414 GE415 GE422) hb); (try clear hb)) | ((with_reducible refine gate_dst (N := 8) rfl ?_); refine bx 8 #[.int .i64 0, .int .i64 0] 24 ?_; intro gb425 hg w52 hbox hb; have BK425 := am (hbox); have GW425 := am (bs hg (Y4 HB GE413 GE414 GE415 GE422)); have GE425 := am (bs hg (Y4 HB GE413 GE414 GE415 GE422)); obtain ⟨NB413_425,NB425_413⟩ := ne_ hg BK413; obtain ⟨NB414_425,NB425_414⟩ := ne_ hg BK414; obtain ⟨NB415_425,NB425_415⟩ := ne_ hg BK415; obtain ⟨NB422_425,NB425_422⟩ := ne_ hg BK422; replace BK413 := bb BK413 hb; replace BK414 := bb BK414 hb; replace BK415 := bb BK415 hb; replace BK422 := bb BK422 hb; replace HB := am (below_step (Y4 HB GE413 GE414 GE415 GE422) hb); clear hb hbox hg; obtain ⟨hnb53,hnc53⟩ := nn NB425_413; obtain ⟨hnb54,hnc54⟩ := nn NB425_414; obtain ⟨hnb55,hnc55⟩ := nn NB425_415; obtain ⟨hnb56,hnc56⟩ := nn NB425_422; obtain ⟨hcz57_0,hcz57_1,hfz57_0,hfz57_1⟩ := c2 BK425; obtain ⟨hcz58_0,hcz58_1,hcz58_2,hcz58_3,hfz58_0,hfz58_1,hfz58_2,hfz58_3⟩ := c4 BK422) | ((with_reducible refine gate_dst (N := 9) rfl ?_); refine bx 9 #[.int .i64 0, .int .i64 0] 24 ?_; intro gb426 hg w59 hbox hb; have BK426 := am (hbox); have GW426 := am (bs hg (Y5 HB GE413 GE414 GE415 GE422 GE425)); have GE426 := am (bs hg (Y5 HB GE413 GE414 GE415 GE422 GE425)); have NB413_426 := am ((by rw [hg]; exact Nat.ne_of_lt (blk_lt (g := gb413) (o := b2 a0_0 a0_1 24) (by refine fa NB413_425 ?_; refine fa NB413_425 ?_; exact Z BK413)) : gb413 ≠ gb426)); have NB426_413 := am ((by rw [hg]; exact Nat.ne_of_gt (blk_lt (g := gb413) (o := b2 a0_0 a0_1 24) (by refine fa NB413_425 ?_; refine fa NB413_425 ?_; exact Z BK413)) : gb426 ≠ gb413)); have NB414_426 := am ((by rw [hg]; exact Nat.ne_of_lt (blk_lt (g := gb414) (o := b2 a1_0 a1_1 24) (by refine fa NB414_425 ?_; refine fa NB414_425 ?_; exact Z BK414)) : gb414 ≠ gb426)); have NB426_414 := am ((by rw [hg]; exact Nat.ne_of_gt (blk_lt (g := gb414) (o := b2 a1_0 a1_1 24) (by refine fa NB414_425 ?_; refine fa NB414_425 ?_; exact Z BK414)) : gb426 ≠ gb414)); have NB415_426 := am ((by rw [hg]; exact Nat.ne_of_lt (blk_lt (g := gb415) (o := b2 0 0 24) (by refine fa NB415_425 ?_; refine fa NB415_425 ?_; exact Z BK415)) : gb415 ≠ gb426)); have NB426_415 := am ((by rw [hg]; exact Nat.ne_of_gt (blk_lt (g := gb415) (o := b2 0 0 24) (by refine fa NB415_425 ?_; refine fa NB415_425 ?_; exact Z BK415)) : gb426 ≠ gb415)); have NB422_426 := am ((by rw [hg]; exact Nat.ne_of_lt (blk_lt (g := gb422) (o := b4 t418 t419 t420 t421 96) (by refine fa NB422_425 ?_; refine fa NB422_425 ?_; exact Z BK422)) : gb422 ≠ gb426)); have NB426_422 := am ((by rw [hg]; exact Nat.ne_of_gt (blk_lt (g := gb422) (o := b4 t418 t419 t420 t421 96) (by refine fa NB422_425 ?_; refine fa NB422_425 ?_; exact Z BK422)) : gb426 ≠ gb422)); have NB425_426 := am ((by rw [hg]; exact Nat.ne_of_lt (blk_lt (g := gb425) (o := b2 t423 t424 24) (by refine pf ?_; refine blk_put (cs := #[.int .i64 t423, .int .i64 0]) ?_ 1 _ rfl; refine pf ?_; refine blk_put (cs := #[.int .i64 0, .int .i64 0]) ?_ 0 _ rfl; exact Z BK425)) : gb425 ≠ gb426)); have NB426_425 := am ((by rw [hg]; exact Nat.ne_of_gt (blk_lt (g := gb425) (o := b2 t423 t424 24) (by refine pf ?_; refine blk_put (cs := #[.int .i64 t423, .int .i64 0]) ?_ 1 _ rfl; refine pf ?_; refine blk_put (cs := #[.int .i64 0, .int .i64 0]) ?_ 0 _ rfl; exact Z BK425)) : gb426 ≠ gb425)); replace BK413 := am (blk_below (g := gb413) (o := b2 a0_0 a0_1 24) (by refine fa NB413_425 ?_; refine fa NB413_425 ?_; exact Z BK413) hb); replace BK414 := am (blk_below (g := gb414) (o := b2 a1_0 a1_1 24) (by refine fa NB414_425 ?_; refine fa NB414_425 ?_; exact Z BK414) hb); replace BK415 := am (blk_below (g := gb415) (o := b2 0 0 24) (by refine fa NB415_425 ?_; refine fa NB415_425 ?_; exact Z BK415) hb); replace BK422 := am (blk_below (g := gb422) (o := b4 t418 t419 t420 t421 96) (by refine fa NB422_425 ?_; refine fa NB422_425 ?_; exact Z BK422) hb); replace BK425 := am (blk_below (g := gb425) (o := b2 t423 t424 24) (by refine pf ?_; refine blk_put (cs := #[.int .i64 t423, .int .i64 0]) ?_ 1 _ rfl; refine pf ?_; refine blk_put (cs := #[.int .i64 0, .int .i64 0]) ?_ 0 _ rfl; exact Z BK425) hb); replace HB := am (below_step (Y5 HB GE413 GE414 GE415 GE422 GE425) hb); clear hb hbox hg; obtain ⟨hnb60,hnc60⟩ := nn NB426_413; obtain ⟨hnb61,hnc61⟩ := nn NB426_414; obtain ⟨hnb62,hnc62⟩ := nn NB426_415; obtain ⟨hnb63,hnc63⟩ := nn NB426_422; obtain ⟨hnb64,hnc64⟩ := nn NB426_425; obtain ⟨hcz65_0,hcz65_1,hfz65_0,hfz65_1⟩ := c2 BK426) | ((with_reducible refine gate_callee (f := 47) rfl ?_); refine goesL_ (some 36) rfl rfl Try.func47 (by kernel_rfl) rfl #[.agg #[.int .i64 t418, .int .i64 t419]] rfl mz ?_; (with_reducible refine (impl_Range_empty.calls t418 t419 t427 _ A40.out).mono ?_); rintro e w66 ⟨rfl, hb⟩; refine ⟨_, rfl, ?_⟩; replace BK413 := am (blk_below (g := gb413) (o := b2 a0_0 a0_1 24) (by refine fa NB413_426 ?_; refine fa NB413_426 ?_; exact Z BK413) hb); replace BK414 := am (blk_below (g := gb414) (o := b2 a1_0 a1_1 24) (by refine fa NB414_426 ?_; refine fa NB414_426 ?_; exact Z BK414) hb); replace BK415 := am (blk_below (g := gb415) (o := b2 0 0 24) (by refine fa NB415_426 ?_; refine fa NB415_426 ?_; exact Z BK415) hb); replace BK422 := am (blk_below (g := gb422) (o := b4 t418 t419 t420 t421 96) (by refine fa NB422_426 ?_; refine fa NB422_426 ?_; exact Z BK422) hb); replace BK425 := am (blk_below (g := gb425) (o := b2 t423 t424 24) (by refine fa NB425_426 ?_; refine fa NB425_426 ?_; exact Z BK425) hb); replace BK426 := am (blk_below (g := gb426) (o := b2 t418 t419 24) (by refine pf ?_; refine blk_put (cs := #[.int .i64 t418, .int .i64 0]) ?_ 1 _ rfl; refine pf ?_; refine blk_put (cs := #[.int .i64 0, .int .i64 0]) ?_ 0 _ rfl; exact Z BK426) hb); replace HB := am (below_step (Y6 HB GE413 GE414 GE415 GE422 GE425 GE426) hb); (try clear hb)))
   (try simp only [Act.put, List.setIfInBounds_toArray, List.set_cons_zero, List.set_cons_succ])
   go_cut [] (fun wc => ∃ (kq : Nat) (x426000_40 : Int) (x426001_40 : Int), Aside0 (impl_rangeRem.j1 kq a0_0 a0_1 a1_0 a1_1 t418 t419 t420 t421 x426000_40 x426001_40 = some (r1, r2, r3)) ∧ Aside0 (kq ≤ kj2) ∧ Aside0 (wc.heap[gb413]? = some (.cells #[.int .i64 a0_0, .int .i64 a0_1] 24 (0, 0))) ∧ Aside0 (wc.heap[gb414]? = some (.cells #[.int .i64 a1_0, .int .i64 a1_1] 24 (0, 0))) ∧ Aside0 (wc.heap[gb415]? = some (.cells #[.int .i64 0, .int .i64 0] 24 (0, 0))) ∧ Aside0 (wc.heap[gb422]? = some (.cells #[.int .i64 t418, .int .i64 t419, .int .i64 t420, .int .i64 t421] 96 (0, 0))) ∧ Aside0 (wc.heap[gb425]? = some (.cells #[.int .i64 x426000_40, .int .i64 x426001_40] 24 (0, 0))) ∧ Aside0 (wc.heap[gb426]? = some (.cells #[.int .i64 t418, .int .i64 t419] 24 (0, 0))) ∧ Aside0 (Below w.heap.size w wc))
   case first =>
    have H := HC41.out
    clear HC41
    by_cases c67 : t427 = true
    ·subst c67
     rw [if_pos rfl] at H
     have H' := am H
     clear H
     go_wp2
     go_meet
     case rel => exact ⟨_, (t423), (t424), H', ⟨by have := HJ2.out; first | omega | exact Nat.le_refl _⟩, ⟨Z BK413⟩, ⟨Z BK414⟩, ⟨Z BK415⟩, ⟨Z BK422⟩, ⟨Z BK425⟩, ⟨Z BK426⟩, ⟨Y6 HB GE413 GE414 GE415 GE422 GE425 GE426⟩⟩
    replace c67 := Bool.eq_false_iff.mpr c67
    subst c67
    rw [if_neg (show ¬ (false = true) by decide)] at H
    replace H := Option.bind_eq_some_iff.mp H
    obtain ⟨⟨t428, t429⟩, A680, H⟩ := H
    try dsimp only at H
    have A68 := am A680
    clear A680
    replace H := Option.bind_eq_some_iff.mp H
    obtain ⟨⟨t430, t431⟩, A690, H⟩ := H
    try dsimp only at H
    have A69 := am A690
    clear A690
    have H' := am H
    clear H
    try go_wp2
    replace BK413 := am (blk_drew BK413.out)
    replace BK414 := am (blk_drew BK414.out)
    replace BK415 := am (blk_drew BK415.out)
    replace BK422 := am (blk_drew BK422.out)
    replace BK425 := am (blk_drew BK425.out)
    replace BK426 := am (blk_drew BK426.out)
    replace HB := am (below_drew1 HB.out)
    refine start_ (n := 11) (S := fun w' => w'.cell? ⟨gb425, 0, none⟩ = some (.int .i64 t423) ∧ w'.cell? ⟨gb425, 1, none⟩ = some (.int .i64 t424) ∧ w'.cell? ⟨gb413, 0, none⟩ = some (.int .i64 a0_0) ∧ w'.cell? ⟨gb413, 1, none⟩ = some (.int .i64 a0_1) ∧ w'.cell? ⟨gb426, 0, none⟩ = some (.int .i64 t418) ∧ w'.cell? ⟨gb426, 1, none⟩ = some (.int .i64 t419)) (ds := [10]) (lb 11 0) (by kernel_rfl) rfl rfl ⟨bc BK425 0, bc BK425 1, bc BK413 0, bc BK413 1, bc BK426 0, bc BK426 1⟩ (fun hHeld => ?_); refine with_tabW impl_rangeRem.tab8 impl_rangeRem.bits8 (fun HT_ HW_ => ?_)
    generalize w66.drew = w70 at BK413 BK414 BK415 BK422 BK425 BK426 HB hHeld ⊢
    refine pj 2 (some 40) (lb 11 4) ?_
    refine pj 5 (some 43) (lb 11 36) ?_
    refine take_ (i := 0) (N := some 38) (v := ?_) (a' := ?_) (lb 11 37) rfl rfl (take_ofW HT_.out HW_.out (by kernel_rfl)) (fun _ _ _ h => h) (Or.inl ⟨by rfl, ?_⟩) hHeld ?_ ?_
    rotate_left
    ·rintro w' ⟨s0, s1, s2, s3, s4, s5⟩
     go_simp
     with_reducible rfl
    rotate_left
    ·exact pz
    refine take_ (i := 1) (N := some 39) (v := ?_) (a' := ?_) (lb 11 39) rfl rfl (take_ofW HT_.out HW_.out (by kernel_rfl)) (fun _ _ _ h => h) (Or.inl ⟨by rfl, ?_⟩) hHeld ?_ ?_
    rotate_left
    ·rintro w' ⟨s0, s1, s2, s3, s4, s5⟩
     go_simp
     with_reducible rfl
    rotate_left
    ·exact pz
    refine take_ (i := 3) (N := some 41) (v := ?_) (a' := ?_) (lb 11 47) rfl rfl (take_ofW HT_.out HW_.out (by kernel_rfl)) (fun _ _ _ h => h) (Or.inl ⟨by rfl, ?_⟩) hHeld ?_ ?_
    rotate_left
    ·rintro w' ⟨s0, s1, s2, s3, s4, s5⟩
     go_simp
     with_reducible rfl
    rotate_left
    ·exact pz
    refine pj 4 (some 42) (lb 11 63) ?_
    refine take_ (i := 6) (N := some 44) (v := ?_) (a' := ?_) (lb 11 127) rfl rfl (take_ofW HT_.out HW_.out (by kernel_rfl)) (fun _ _ _ h => h) (Or.inl ⟨by rfl, ?_⟩) hHeld ?_ ?_
    rotate_left
    ·rintro w' ⟨s0, s1, s2, s3, s4, s5⟩
     go_simp
     with_reducible rfl
    rotate_left
    ·exact pz
    refine pj 7 (some 45) (lb 11 255) ?_
    refine one_ (i := 8) (N := some 46) (lb 11 511) rfl rfl (one_of HT_.out (by kernel_rfl)) (by decide) (fun K hK => ?_)
    refine goes_ Try.func97 (by kernel_rfl) rfl #[.agg #[.int .i64 a0_0, .int .i64 a0_1], .int .i64 (wrap64 (-t419)), .int .i64 (wrap64 (-t418))] (by rfl) rfl rfl mz ?_
    with_reducible refine (impl_rangeRemBy.calls kj2 a0_0 a0_1 (wrap64 (-t419)) (wrap64 (-t418)) t428 t429 _ A68.out).mono ?_
    rintro e w71 ⟨rfl, hb⟩
    refine ⟨_, rfl, ?_⟩
    replace BK413 := bb BK413 hb
    replace BK414 := bb BK414 hb
    replace BK415 := bb BK415 hb
    replace BK422 := bb BK422 hb
    replace BK425 := bb BK425 hb
    replace BK426 := bb BK426 hb
    replace HB := am (below_step (Y6 HB GE413 GE414 GE415 GE422 GE425 GE426) hb)
    (try clear hb)
    (try clear hb2)
    (try clear hk)
    (try clear hi)
    refine hK.out _ _ ⟨bc BK425 0, bc BK425 1, bc BK413 0, bc BK413 1, bc BK426 0, bc BK426 1⟩ (fun hHeld => ?_)
    clear hK K
    refine norm_ (a' := ?_) ?_ ?_
    rotate_left
    ·show Act.put _ (some 46) _ = _
     simp only [Act.put, List.setIfInBounds_toArray, List.set_cons_zero, List.set_cons_succ, i64_w, i32_w]
     rfl
    refine one_ (i := 9) (N := some 47) (lb 11 1023) rfl rfl (one_of HT_.out (by kernel_rfl)) (by decide) (fun K hK => ?_)
    refine goes_ Try.func84 (by kernel_rfl) rfl #[.agg #[.int .i64 t423, .int .i64 t424], .agg #[.int .i64 t428, .int .i64 t429]] (by rfl) rfl rfl mz ?_
    with_reducible refine (impl_RangeJoin.calls kj2 t423 t424 t428 t429 t430 t431 _ A69.out).mono ?_
    rintro e w72 ⟨rfl, hb⟩
    refine ⟨_, rfl, ?_⟩
    replace BK413 := bb BK413 hb
    replace BK414 := bb BK414 hb
    replace BK415 := bb BK415 hb
    replace BK422 := bb BK422 hb
    replace BK425 := bb BK425 hb
    replace BK426 := bb BK426 hb
    replace HB := am (below_step (Y6 HB GE413 GE414 GE415 GE422 GE425 GE426) hb)
    (try clear hb)
    (try clear hb2)
    (try clear hk)
    (try clear hi)
    refine hK.out _ _ ⟨bc BK425 0, bc BK425 1, bc BK413 0, bc BK413 1, bc BK426 0, bc BK426 1⟩ (fun hHeld => ?_)
    clear hK K
    refine norm_ (a' := ?_) ?_ ?_
    rotate_left
    ·show Act.put _ (some 47) _ = _
     simp only [Act.put, List.setIfInBounds_toArray, List.set_cons_zero, List.set_cons_succ, i64_w, i32_w]
     rfl
    refine last_ (i := 10) (N := none) (lb 11 2047) rfl rfl (one_of HT_.out (by kernel_rfl)) (by decide) (fun K hK => ?_)
    have hs73 : w72.cell? ⟨gb425, 0, none⟩ = some (.int .i64 t423) := bc BK425 0
    have hfs73 := blk_frozen BK425.out 0
    have hns73_0 := NB413_425.out
    have hns73_1 := NB414_425.out
    have hns73_2 := NB415_425.out
    have hns73_3 := NB422_425.out
    have hns73_5 := NB426_425.out
    have hms73_0 := NB425_413.out
    have hms73_1 := NB425_414.out
    have hms73_2 := NB425_415.out
    have hms73_3 := NB425_422.out
    have hms73_5 := NB425_426.out
    have hs74 : w72.cell? ⟨gb425, 1, none⟩ = some (.int .i64 t424) := bc BK425 1
    have hfs74 := blk_frozen BK425.out 1
    have hns74_0 := NB413_425.out
    have hns74_1 := NB414_425.out
    have hns74_2 := NB415_425.out
    have hns74_3 := NB422_425.out
    have hns74_5 := NB426_425.out
    have hms74_0 := NB425_413.out
    have hms74_1 := NB425_414.out
    have hms74_2 := NB425_415.out
    have hms74_3 := NB425_422.out
    have hms74_5 := NB425_426.out
    refine skip_ (w1 := ?_) (by rfl) rfl ?_ ?_
    rotate_left
    ·go_simp
     rfl
    refine hK.out _ _ ?_
    clear hK K
    refine done_ (done_of HT_.out (by kernel_rfl)) ?_
    try go_wp2
    go_meet
    case rel => exact ⟨_, (t430), (t431), H', ⟨by have := HJ2.out; first | omega | exact Nat.le_refl _⟩, ⟨by refine fa NB413_425 ?_; refine fa NB413_425 ?_; exact Z BK413⟩, ⟨by refine fa NB414_425 ?_; refine fa NB414_425 ?_; exact Z BK414⟩, ⟨by refine fa NB415_425 ?_; refine fa NB415_425 ?_; exact Z BK415⟩, ⟨by refine fa NB422_425 ?_; refine fa NB422_425 ?_; exact Z BK422⟩, ⟨by refine pf ?_; refine blk_put (cs := #[.int .i64 t430, .int .i64 t424]) ?_ 1 _ rfl; refine pf ?_; refine blk_put (cs := #[.int .i64 t423, .int .i64 t424]) ?_ 0 _ rfl; exact Z BK425⟩, ⟨by refine fa NB426_425 ?_; refine fa NB426_425 ?_; exact Z BK426⟩, ⟨Y6 HB GE413 GE414 GE415 GE422 GE425 GE426⟩⟩
   case rest =>
    clear HC41
    (try clear c30);(try clear hcz44_0);(try clear hcz44_1);(try clear hcz50_0);(try clear hcz50_1);(try clear hcz50_2);(try clear hcz50_3);(try clear hcz57_0);(try clear hcz57_1);(try clear hcz58_0);(try clear hcz58_1);(try clear hcz58_2);(try clear hcz58_3);(try clear hcz65_0);(try clear hcz65_1);(try clear hfz44_0);(try clear hfz44_1);(try clear hfz50_0);(try clear hfz50_1);(try clear hfz50_2);(try clear hfz50_3);(try clear hfz57_0);(try clear hfz57_1);(try clear hfz58_0);(try clear hfz58_1);(try clear hfz58_2);(try clear hfz58_3);(try clear hfz65_0);(try clear hfz65_1)
    obtain ⟨kq, x426000_40, x426001_40, HA, HJ40, BK413, BK414, BK415, BK422, BK425, BK426, HB⟩ := hcut
    cases kq with
    | zero => exact absurd HA.out (by simp [impl_rangeRem.j1])
    | succ kj40 =>
     have H := HA.out
     clear HA
     simp only [impl_rangeRem.j1] at H
     replace H := Option.bind_eq_some_iff.mp H
     obtain ⟨t433, A750, H⟩ := H
     try dsimp only at H
     have A75 := am A750
     clear A750
     by_cases c76 : t433 = true
     ·subst c76
      rw [if_pos rfl] at H
      replace H := Option.bind_eq_some_iff.mp H
      obtain ⟨t434, A770, H⟩ := H
      try dsimp only at H
      have A77 := am A770
      clear A770
      by_cases c78 : t434 = true
      rotate_left
      ·replace c78 := Bool.eq_false_iff.mpr c78
       subst c78
       rw [if_neg (show ¬ (false = true) by decide)] at H
       simp only [Option.some.injEq, Prod.mk.injEq] at H
       obtain ⟨rfl, rfl, rfl⟩ := H
       obtain ⟨hnb109,hnc109⟩ := nn NB422_413
       obtain ⟨hnb110,hnc110⟩ := nn NB422_414
       obtain ⟨hnb111,hnc111⟩ := nn NB422_415
       obtain ⟨hnb112,hnc112⟩ := nn NB422_425
       obtain ⟨hnb113,hnc113⟩ := nn NB422_426
       obtain ⟨hcz114_0,hcz114_1,hcz114_2,hcz114_3,hfz114_0,hfz114_1,hfz114_2,hfz114_3⟩ := c4 BK422
       go_wp2_with (first | ((with_reducible refine gate_dst (N := 10) rfl ?_); refine bx 10 #[.int .i64 0, .int .i64 0] 24 ?_; intro gb432 hg w115 hbox hb; have BK432 := am (hbox); have GW432 := am (bs hg (Y6 HB GE413 GE414 GE415 GE422 GE425 GE426)); have GE432 := am (bs hg (Y6 HB GE413 GE414 GE415 GE422 GE425 GE426)); obtain ⟨NB413_432,NB432_413⟩ := ne_ hg BK413; obtain ⟨NB414_432,NB432_414⟩ := ne_ hg BK414; obtain ⟨NB415_432,NB432_415⟩ := ne_ hg BK415; obtain ⟨NB422_432,NB432_422⟩ := ne_ hg BK422; obtain ⟨NB425_432,NB432_425⟩ := ne_ hg BK425; obtain ⟨NB426_432,NB432_426⟩ := ne_ hg BK426; replace BK413 := bb BK413 hb; replace BK414 := bb BK414 hb; replace BK415 := bb BK415 hb; replace BK422 := bb BK422 hb; replace BK425 := bb BK425 hb; replace BK426 := bb BK426 hb; replace HB := am (below_step (Y6 HB GE413 GE414 GE415 GE422 GE425 GE426) hb); clear hb hbox hg; obtain ⟨hnb116,hnc116⟩ := nn NB432_413; obtain ⟨hnb117,hnc117⟩ := nn NB432_414; obtain ⟨hnb118,hnc118⟩ := nn NB432_415; obtain ⟨hnb119,hnc119⟩ := nn NB432_422; obtain ⟨hnb120,hnc120⟩ := nn NB432_425; obtain ⟨hnb121,hnc121⟩ := nn NB432_426; obtain ⟨hcz122_0,hcz122_1,hfz122_0,hfz122_1⟩ := c2 BK432) | ((with_reducible refine gate_callee (f := 47) rfl ?_); refine goesL_ (some 51) rfl rfl Try.func47 (by kernel_rfl) rfl #[.agg #[.int .i64 t420, .int .i64 t421]] rfl mz ?_; (with_reducible refine (impl_Range_empty.calls t420 t421 true _ A75.out).mono ?_); rintro e w123 ⟨rfl, hb⟩; refine ⟨_, rfl, ?_⟩; replace BK413 := am (blk_below (g := gb413) (o := b2 a0_0 a0_1 24) (by refine fa NB413_432 ?_; refine fa NB413_432 ?_; exact Z BK413) hb); replace BK414 := am (blk_below (g := gb414) (o := b2 a1_0 a1_1 24) (by refine fa NB414_432 ?_; refine fa NB414_432 ?_; exact Z BK414) hb); replace BK415 := am (blk_below (g := gb415) (o := b2 0 0 24) (by refine fa NB415_432 ?_; refine fa NB415_432 ?_; exact Z BK415) hb); replace BK422 := am (blk_below (g := gb422) (o := b4 t418 t419 t420 t421 96) (by refine fa NB422_432 ?_; refine fa NB422_432 ?_; exact Z BK422) hb); replace BK425 := am (blk_below (g := gb425) (o := b2 x426000_40 x426001_40 24) (by refine fa NB425_432 ?_; refine fa NB425_432 ?_; exact Z BK425) hb); replace BK426 := am (blk_below (g := gb426) (o := b2 t418 t419 24) (by refine fa NB426_432 ?_; refine fa NB426_432 ?_; exact Z BK426) hb); replace BK432 := am (blk_below (g := gb432) (o := b2 t420 t421 24) (by refine pf ?_; refine blk_put (cs := #[.int .i64 t420, .int .i64 0]) ?_ 1 _ rfl; refine pf ?_; refine blk_put (cs := #[.int .i64 0, .int .i64 0]) ?_ 0 _ rfl; exact Z BK432) hb); replace HB := am (below_step (Y7 HB GE413 GE414 GE415 GE422 GE425 GE426 GE432) hb); (try clear hb); obtain ⟨hnb124,hnc124⟩ := nn NB414_413; obtain ⟨hnb125,hnc125⟩ := nn NB414_415; obtain ⟨hnb126,hnc126⟩ := nn NB414_425; obtain ⟨hnb127,hnc127⟩ := nn NB414_426; obtain ⟨hcz128_0,hcz128_1,hfz128_0,hfz128_1⟩ := c2 BK414) | ((with_reducible refine gate_callee (f := 95) rfl ?_); refine goesL_ (some 62) rfl rfl Try.func95 (by kernel_rfl) rfl #[.agg #[.int .i64 a1_0, .int .i64 a1_1], .int .i64 0] rfl mz ?_; (with_reducible refine (impl_RangeHas.calls a1_0 a1_1 0 false _ A77.out).mono ?_); rintro e w129 ⟨rfl, hb⟩; refine ⟨_, rfl, ?_⟩; replace BK413 := bb BK413 hb; replace BK414 := bb BK414 hb; replace BK415 := bb BK415 hb; replace BK422 := bb BK422 hb; replace BK425 := bb BK425 hb; replace BK426 := bb BK426 hb; replace BK432 := bb BK432 hb; replace HB := am (below_step (Y7 HB GE413 GE414 GE415 GE422 GE425 GE426 GE432) hb); (try clear hb); obtain ⟨hnb130,hnc130⟩ := nn NB425_413; obtain ⟨hnb131,hnc131⟩ := nn NB425_415; obtain ⟨hnb132,hnc132⟩ := nn NB425_426; obtain ⟨hcz133_0,hcz133_1,hfz133_0,hfz133_1⟩ := c2 BK425; obtain ⟨hnb134,hnc134⟩ := nn NB415_413; obtain ⟨hnb135,hnc135⟩ := nn NB415_426; obtain ⟨hcz136_0,hcz136_1,hfz136_0,hfz136_1⟩ := c2 BK415))
       refine bodyPost_ret (results_ct rfl _ _ gb415 24 #[.int .i64 x426000_40, .int .i64 x426001_40] (0, 0) _ rfl (by refine pf ?_; refine blk_put (cs := #[.int .i64 x426000_40, .int .i64 0]) ?_ 1 _ rfl; refine pf ?_; refine blk_put (cs := #[.int .i64 0, .int .i64 0]) ?_ 0 _ rfl; exact Z BK415) Try.underlying24 rfl (by kernel_rfl)) rfl ?_
       exact ⟨_, ez, by first | exact Kd.R_nil _ _ _ _ _ | exact Kd.N_nil _ _ _ _ _ | exact Kd.V_nil _ _ _ _ _ | exact Kd.Q_nil _ _ _ _ _ | exact Kd.S_nil _ _ _ _ _, Y7 HB GE413 GE414 GE415 GE422 GE425 GE426 GE432⟩
      subst c78
      rw [if_pos rfl] at H
      obtain ⟨y435, hy435⟩ : ∃ y_ : List Int, y_ = (([2] : List Int)) := ⟨_, rfl⟩
      replace H : (some (x426000_40, x426001_40, y435)) = some (r1, r2, r3) := by first | (rw [hy435]; with_reducible exact H) | (have H2_ := (Option.bind_some _ _).symm.trans H; rw [hy435]; with_reducible exact H2_) | (have H2_ := (Option.bind_some _ _).symm.trans H; with_reducible exact H2_) | with_reducible exact H | (rw [hy435]; exact H) | exact H
      have Ny435 := am hy435
      clear hy435
      simp only [Option.some.injEq, Prod.mk.injEq] at H
      obtain ⟨rfl, rfl, rfl⟩ := H
      obtain ⟨hnb79,hnc79⟩ := nn NB422_413
      obtain ⟨hnb80,hnc80⟩ := nn NB422_414
      obtain ⟨hnb81,hnc81⟩ := nn NB422_415
      obtain ⟨hnb82,hnc82⟩ := nn NB422_425
      obtain ⟨hnb83,hnc83⟩ := nn NB422_426
      obtain ⟨hcz84_0,hcz84_1,hcz84_2,hcz84_3,hfz84_0,hfz84_1,hfz84_2,hfz84_3⟩ := c4 BK422
      go_wp2_with (first | ((with_reducible refine gate_dst (N := 10) rfl ?_); refine bx 10 #[.int .i64 0, .int .i64 0] 24 ?_; intro gb432 hg w85 hbox hb; have BK432 := am (hbox); have GW432 := am (bs hg (Y6 HB GE413 GE414 GE415 GE422 GE425 GE426)); have GE432 := am (bs hg (Y6 HB GE413 GE414 GE415 GE422 GE425 GE426)); obtain ⟨NB413_432,NB432_413⟩ := ne_ hg BK413; obtain ⟨NB414_432,NB432_414⟩ := ne_ hg BK414; obtain ⟨NB415_432,NB432_415⟩ := ne_ hg BK415; obtain ⟨NB422_432,NB432_422⟩ := ne_ hg BK422; obtain ⟨NB425_432,NB432_425⟩ := ne_ hg BK425; obtain ⟨NB426_432,NB432_426⟩ := ne_ hg BK426; replace BK413 := bb BK413 hb; replace BK414 := bb BK414 hb; replace BK415 := bb BK415 hb; replace BK422 := bb BK422 hb; replace BK425 := bb BK425 hb; replace BK426 := bb BK426 hb; replace HB := am (below_step (Y6 HB GE413 GE414 GE415 GE422 GE425 GE426) hb); clear hb hbox hg; obtain ⟨hnb86,hnc86⟩ := nn NB432_413; obtain ⟨hnb87,hnc87⟩ := nn NB432_414; obtain ⟨hnb88,hnc88⟩ := nn NB432_415; obtain ⟨hnb89,hnc89⟩ := nn NB432_422; obtain ⟨hnb90,hnc90⟩ := nn NB432_425; obtain ⟨hnb91,hnc91⟩ := nn NB432_426; obtain ⟨hcz92_0,hcz92_1,hfz92_0,hfz92_1⟩ := c2 BK432) | ((with_reducible refine gate_callee (f := 47) rfl ?_); refine goesL_ (some 51) rfl rfl Try.func47 (by kernel_rfl) rfl #[.agg #[.int .i64 t420, .int .i64 t421]] rfl mz ?_; (with_reducible refine (impl_Range_empty.calls t420 t421 true _ A75.out).mono ?_); rintro e w93 ⟨rfl, hb⟩; refine ⟨_, rfl, ?_⟩; replace BK413 := am (blk_below (g := gb413) (o := b2 a0_0 a0_1 24) (by refine fa NB413_432 ?_; refine fa NB413_432 ?_; exact Z BK413) hb); replace BK414 := am (blk_below (g := gb414) (o := b2 a1_0 a1_1 24) (by refine fa NB414_432 ?_; refine fa NB414_432 ?_; exact Z BK414) hb); replace BK415 := am (blk_below (g := gb415) (o := b2 0 0 24) (by refine fa NB415_432 ?_; refine fa NB415_432 ?_; exact Z BK415) hb); replace BK422 := am (blk_below (g := gb422) (o := b4 t418 t419 t420 t421 96) (by refine fa NB422_432 ?_; refine fa NB422_432 ?_; exact Z BK422) hb); replace BK425 := am (blk_below (g := gb425) (o := b2 x426000_40 x426001_40 24) (by refine fa NB425_432 ?_; refine fa NB425_432 ?_; exact Z BK425) hb); replace BK426 := am (blk_below (g := gb426) (o := b2 t418 t419 24) (by refine fa NB426_432 ?_; refine fa NB426_432 ?_; exact Z BK426) hb); replace BK432 := am (blk_below (g := gb432) (o := b2 t420 t421 24) (by refine pf ?_; refine blk_put (cs := #[.int .i64 t420, .int .i64 0]) ?_ 1 _ rfl; refine pf ?_; refine blk_put (cs := #[.int .i64 0, .int .i64 0]) ?_ 0 _ rfl; exact Z BK432) hb); replace HB := am (below_step (Y7 HB GE413 GE414 GE415 GE422 GE425 GE426 GE432) hb); (try clear hb); obtain ⟨hnb94,hnc94⟩ := nn NB414_413; obtain ⟨hnb95,hnc95⟩ := nn NB414_415; obtain ⟨hnb96,hnc96⟩ := nn NB414_425; obtain ⟨hnb97,hnc97⟩ := nn NB414_426; obtain ⟨hcz98_0,hcz98_1,hfz98_0,hfz98_1⟩ := c2 BK414) | ((with_reducible refine gate_callee (f := 95) rfl ?_); refine goesL_ (some 62) rfl rfl Try.func95 (by kernel_rfl) rfl #[.agg #[.int .i64 a1_0, .int .i64 a1_1], .int .i64 0] rfl mz ?_; (with_reducible refine (impl_RangeHas.calls a1_0 a1_1 0 true _ A77.out).mono ?_); rintro e w99 ⟨rfl, hb⟩; refine ⟨_, rfl, ?_⟩; replace BK413 := bb BK413 hb; replace BK414 := bb BK414 hb; replace BK415 := bb BK415 hb; replace BK422 := bb BK422 hb; replace BK425 := bb BK425 hb; replace BK426 := bb BK426 hb; replace BK432 := bb BK432 hb; replace HB := am (below_step (Y7 HB GE413 GE414 GE415 GE422 GE425 GE426 GE432) hb); (try clear hb); obtain ⟨hnb100,hnc100⟩ := nn NB425_413; obtain ⟨hnb101,hnc101⟩ := nn NB425_415; obtain ⟨hnb102,hnc102⟩ := nn NB425_426; obtain ⟨hcz103_0,hcz103_1,hfz103_0,hfz103_1⟩ := c2 BK425) | ((with_reducible refine gate_dst (N := 64) rfl ?_); refine Kd.R_lit (Kd.int .i64) _ 3 ?hg (N := 64) ?hd (xs := ([2] : List Int)) (inner := [.int .i64 2]) (ok := fun _ => True) (okp := fun _ => True) ?hr ?hp (fun _ hk => hk) trivial (Below.refl _ _) (Nat.le_refl _) (by simp) ?_; (case hd => rfl); (case hg => rfl); (case hr => first | (go_simp; done) | (go_simp; rfl)); (case hp => exact (Reps.one (show Kd.M (Kd.int .i64) _ _ _ 2 [.int .i64 2] from rfl) (Reps.none _ _))); intro v436 w104 ho105 hb hg_ hnew_; clear hg_ hnew_; (first | rw [← Ny435.out] at ho105 | (simp only [Int.reduceToNat] at ho105; rw [← Ny435.out] at ho105)); have HO437 := am (Kd.R_lower ho105 (below_size (Y7 HB GE413 GE414 GE415 GE422 GE425 GE426 GE432))); replace BK413 := bb BK413 hb; replace BK414 := bb BK414 hb; replace BK415 := bb BK415 hb; replace BK422 := bb BK422 hb; replace BK425 := bb BK425 hb; replace BK426 := bb BK426 hb; replace BK432 := bb BK432 hb; replace HB := am (below_step (Y7 HB GE413 GE414 GE415 GE422 GE425 GE426 GE432) hb); clear hb ho105; obtain ⟨hnb106,hnc106⟩ := nn NB415_413; obtain ⟨hnb107,hnc107⟩ := nn NB415_426; obtain ⟨hcz108_0,hcz108_1,hfz108_0,hfz108_1⟩ := c2 BK415))
      refine bodyPost_ret (results_ct rfl _ _ gb415 24 #[.int .i64 x426000_40, .int .i64 x426001_40] (0, 0) _ rfl (by refine pf ?_; refine blk_put (cs := #[.int .i64 x426000_40, .int .i64 0]) ?_ 1 _ rfl; refine pf ?_; refine blk_put (cs := #[.int .i64 0, .int .i64 0]) ?_ 0 _ rfl; exact Z BK415) Try.underlying24 rfl (by kernel_rfl)) rfl ?_
      exact ⟨_, ez, by (with_reducible repeat (first | apply Kd.R_alloc | apply Kd.R_drewN | apply Kd.R_drew)); exact Kd.R_mono (Kd.R_far (p := ⟨gb415, 1, none⟩) (Kd.R_far (p := ⟨gb415, 0, none⟩) (Kd.R_types HO437.out BK415.out (by decide)) (fun _ hk => hk.2) (.int .i64 x426000_40)) (fun _ hk => hk.2) (.int .i64 x426001_40)) (fun _ hk => trivial), Y7 HB GE413 GE414 GE415 GE422 GE425 GE426 GE432⟩
     replace c76 := Bool.eq_false_iff.mpr c76
     subst c76
     rw [if_neg (show ¬ (false = true) by decide)] at H
     replace H := Option.bind_eq_some_iff.mp H
     obtain ⟨⟨t438, t439⟩, A1370, H⟩ := H
     try dsimp only at H
     have A137 := am A1370
     clear A1370
     replace H := Option.bind_eq_some_iff.mp H
     obtain ⟨⟨t440, t441⟩, A1380, H⟩ := H
     try dsimp only at H
     have A138 := am A1380
     clear A1380
     replace H := Option.bind_eq_some_iff.mp H
     obtain ⟨t442, A1390, H⟩ := H
     try dsimp only at H
     have A139 := am A1390
     clear A1390
     by_cases c140 : t442 = true
     rotate_left
     ·replace c140 := Bool.eq_false_iff.mpr c140
      subst c140
      rw [if_neg (show ¬ (false = true) by decide)] at H
      simp only [Option.some.injEq, Prod.mk.injEq] at H
      obtain ⟨rfl, rfl, rfl⟩ := H
      obtain ⟨hnb176,hnc176⟩ := nn NB422_413
      obtain ⟨hnb177,hnc177⟩ := nn NB422_414
      obtain ⟨hnb178,hnc178⟩ := nn NB422_415
      obtain ⟨hnb179,hnc179⟩ := nn NB422_425
      obtain ⟨hnb180,hnc180⟩ := nn NB422_426
      obtain ⟨hcz181_0,hcz181_1,hcz181_2,hcz181_3,hfz181_0,hfz181_1,hfz181_2,hfz181_3⟩ := c4 BK422
      try go_wp2_with (first | ((with_reducible refine gate_dst (N := 10) rfl ?_); refine bx 10 #[.int .i64 0, .int .i64 0] 24 ?_; intro gb432 hg w182 hbox hb; have BK432 := am (hbox); have GW432 := am (bs hg (Y6 HB GE413 GE414 GE415 GE422 GE425 GE426)); have GE432 := am (bs hg (Y6 HB GE413 GE414 GE415 GE422 GE425 GE426)); obtain ⟨NB413_432,NB432_413⟩ := ne_ hg BK413; obtain ⟨NB414_432,NB432_414⟩ := ne_ hg BK414; obtain ⟨NB415_432,NB432_415⟩ := ne_ hg BK415; obtain ⟨NB422_432,NB432_422⟩ := ne_ hg BK422; obtain ⟨NB425_432,NB432_425⟩ := ne_ hg BK425; obtain ⟨NB426_432,NB432_426⟩ := ne_ hg BK426; replace BK413 := bb BK413 hb; replace BK414 := bb BK414 hb; replace BK415 := bb BK415 hb; replace BK422 := bb BK422 hb; replace BK425 := bb BK425 hb; replace BK426 := bb BK426 hb; replace HB := am (below_step (Y6 HB GE413 GE414 GE415 GE422 GE425 GE426) hb); clear hb hbox hg; obtain ⟨hnb183,hnc183⟩ := nn NB432_413; obtain ⟨hnb184,hnc184⟩ := nn NB432_414; obtain ⟨hnb185,hnc185⟩ := nn NB432_415; obtain ⟨hnb186,hnc186⟩ := nn NB432_422; obtain ⟨hnb187,hnc187⟩ := nn NB432_425; obtain ⟨hnb188,hnc188⟩ := nn NB432_426; obtain ⟨hcz189_0,hcz189_1,hfz189_0,hfz189_1⟩ := c2 BK432) | ((with_reducible refine gate_callee (f := 47) rfl ?_); refine goesL_ (some 51) rfl rfl Try.func47 (by kernel_rfl) rfl #[.agg #[.int .i64 t420, .int .i64 t421]] rfl mz ?_; (with_reducible refine (impl_Range_empty.calls t420 t421 false _ A75.out).mono ?_); rintro e w190 ⟨rfl, hb⟩; refine ⟨_, rfl, ?_⟩; replace BK413 := am (blk_below (g := gb413) (o := b2 a0_0 a0_1 24) (by refine fa NB413_432 ?_; refine fa NB413_432 ?_; exact Z BK413) hb); replace BK414 := am (blk_below (g := gb414) (o := b2 a1_0 a1_1 24) (by refine fa NB414_432 ?_; refine fa NB414_432 ?_; exact Z BK414) hb); replace BK415 := am (blk_below (g := gb415) (o := b2 0 0 24) (by refine fa NB415_432 ?_; refine fa NB415_432 ?_; exact Z BK415) hb); replace BK422 := am (blk_below (g := gb422) (o := b4 t418 t419 t420 t421 96) (by refine fa NB422_432 ?_; refine fa NB422_432 ?_; exact Z BK422) hb); replace BK425 := am (blk_below (g := gb425) (o := b2 x426000_40 x426001_40 24) (by refine fa NB425_432 ?_; refine fa NB425_432 ?_; exact Z BK425) hb); replace BK426 := am (blk_below (g := gb426) (o := b2 t418 t419 24) (by refine fa NB426_432 ?_; refine fa NB426_432 ?_; exact Z BK426) hb); replace BK432 := am (blk_below (g := gb432) (o := b2 t420 t421 24) (by refine pf ?_; refine blk_put (cs := #[.int .i64 t420, .int .i64 0]) ?_ 1 _ rfl; refine pf ?_; refine blk_put (cs := #[.int .i64 0, .int .i64 0]) ?_ 0 _ rfl; exact Z BK432) hb); replace HB := am (below_step (Y7 HB GE413 GE414 GE415 GE422 GE425 GE426 GE432) hb); (try clear hb)))
      replace BK413 := am (blk_drew BK413.out)
      replace BK414 := am (blk_drew BK414.out)
      replace BK415 := am (blk_drew BK415.out)
      replace BK422 := am (blk_drew BK422.out)
      replace BK425 := am (blk_drew BK425.out)
      replace BK426 := am (blk_drew BK426.out)
      replace BK432 := am (blk_drew BK432.out)
      replace HB := am (below_drew1 HB.out)
      refine start_ (n := 9) (S := fun w' => w'.cell? ⟨gb425, 0, none⟩ = some (.int .i64 x426000_40) ∧ w'.cell? ⟨gb425, 1, none⟩ = some (.int .i64 x426001_40) ∧ w'.cell? ⟨gb413, 0, none⟩ = some (.int .i64 a0_0) ∧ w'.cell? ⟨gb413, 1, none⟩ = some (.int .i64 a0_1) ∧ w'.cell? ⟨gb432, 0, none⟩ = some (.int .i64 t420) ∧ w'.cell? ⟨gb432, 1, none⟩ = some (.int .i64 t421)) (ds := [8]) (lb 9 0) (by kernel_rfl) rfl rfl ⟨bc BK425 0, bc BK425 1, bc BK413 0, bc BK413 1, bc BK432 0, bc BK432 1⟩ (fun hHeld => ?_); refine with_tabW impl_rangeRem.tab11 impl_rangeRem.bits11 (fun HT_ HW_ => ?_)
      generalize w190.drew = w191 at BK413 BK414 BK415 BK422 BK425 BK426 BK432 HB hHeld ⊢
      refine pj 2 (some 55) (lb 9 4) ?_
      refine pj 4 (some 57) (lb 9 20) ?_
      refine take_ (i := 0) (N := some 53) (v := ?_) (a' := ?_) (lb 9 21) rfl rfl (take_ofW HT_.out HW_.out (by kernel_rfl)) (fun _ _ _ h => h) (Or.inl ⟨by rfl, ?_⟩) hHeld ?_ ?_
      rotate_left
      ·rintro w' ⟨s0, s1, s2, s3, s4, s5⟩
       go_simp
       with_reducible rfl
      rotate_left
      ·exact pz
      refine take_ (i := 1) (N := some 54) (v := ?_) (a' := ?_) (lb 9 23) rfl rfl (take_ofW HT_.out HW_.out (by kernel_rfl)) (fun _ _ _ h => h) (Or.inl ⟨by rfl, ?_⟩) hHeld ?_ ?_
      rotate_left
      ·rintro w' ⟨s0, s1, s2, s3, s4, s5⟩
       go_simp
       with_reducible rfl
      rotate_left
      ·exact pz
      refine take_ (i := 3) (N := some 56) (v := ?_) (a' := ?_) (lb 9 31) rfl rfl (take_ofW HT_.out HW_.out (by kernel_rfl)) (fun _ _ _ h => h) (Or.inl ⟨by rfl, ?_⟩) hHeld ?_ ?_
      rotate_left
      ·rintro w' ⟨s0, s1, s2, s3, s4, s5⟩
       go_simp
       with_reducible rfl
      rotate_left
      ·exact pz
      refine take_ (i := 5) (N := some 58) (v := ?_) (a' := ?_) (lb 9 63) rfl rfl (take_ofW HT_.out HW_.out (by kernel_rfl)) (fun _ _ _ h => h) (Or.inl ⟨by rfl, ?_⟩) hHeld ?_ ?_
      rotate_left
      ·rintro w' ⟨s0, s1, s2, s3, s4, s5⟩
       go_simp
       with_reducible rfl
      rotate_left
      ·exact pz
      refine one_ (i := 6) (N := some 59) (lb 9 127) rfl rfl (one_of HT_.out (by kernel_rfl)) (by decide) (fun K hK => ?_)
      refine goes_ Try.func97 (by kernel_rfl) rfl #[.agg #[.int .i64 a0_0, .int .i64 a0_1], .int .i64 t420, .int .i64 t421] (by rfl) rfl rfl mz ?_
      with_reducible refine (impl_rangeRemBy.calls kj40 a0_0 a0_1 t420 t421 t438 t439 _ A137.out).mono ?_
      rintro e w192 ⟨rfl, hb⟩
      refine ⟨_, rfl, ?_⟩
      replace BK413 := bb BK413 hb
      replace BK414 := bb BK414 hb
      replace BK415 := bb BK415 hb
      replace BK422 := bb BK422 hb
      replace BK425 := bb BK425 hb
      replace BK426 := bb BK426 hb
      replace BK432 := bb BK432 hb
      replace HB := am (below_step (Y7 HB GE413 GE414 GE415 GE422 GE425 GE426 GE432) hb)
      (try clear hb)
      (try clear hb2)
      (try clear hk)
      (try clear hi)
      refine hK.out _ _ ⟨bc BK425 0, bc BK425 1, bc BK413 0, bc BK413 1, bc BK432 0, bc BK432 1⟩ (fun hHeld => ?_)
      clear hK K
      refine norm_ (a' := ?_) ?_ ?_
      rotate_left
      ·show Act.put _ (some 59) _ = _
       simp only [Act.put, List.setIfInBounds_toArray, List.set_cons_zero, List.set_cons_succ, i64_w, i32_w]
       rfl
      refine one_ (i := 7) (N := some 60) (lb 9 255) rfl rfl (one_of HT_.out (by kernel_rfl)) (by decide) (fun K hK => ?_)
      refine goes_ Try.func84 (by kernel_rfl) rfl #[.agg #[.int .i64 x426000_40, .int .i64 x426001_40], .agg #[.int .i64 t438, .int .i64 t439]] (by rfl) rfl rfl mz ?_
      with_reducible refine (impl_RangeJoin.calls kj40 x426000_40 x426001_40 t438 t439 t440 t441 _ A138.out).mono ?_
      rintro e w193 ⟨rfl, hb⟩
      refine ⟨_, rfl, ?_⟩
      replace BK413 := bb BK413 hb
      replace BK414 := bb BK414 hb
      replace BK415 := bb BK415 hb
      replace BK422 := bb BK422 hb
      replace BK425 := bb BK425 hb
      replace BK426 := bb BK426 hb
      replace BK432 := bb BK432 hb
      replace HB := am (below_step (Y7 HB GE413 GE414 GE415 GE422 GE425 GE426 GE432) hb)
      (try clear hb)
      (try clear hb2)
      (try clear hk)
      (try clear hi)
      refine hK.out _ _ ⟨bc BK425 0, bc BK425 1, bc BK413 0, bc BK413 1, bc BK432 0, bc BK432 1⟩ (fun hHeld => ?_)
      clear hK K
      refine norm_ (a' := ?_) ?_ ?_
      rotate_left
      ·show Act.put _ (some 60) _ = _
       simp only [Act.put, List.setIfInBounds_toArray, List.set_cons_zero, List.set_cons_succ, i64_w, i32_w]
       rfl
      refine last_ (i := 8) (N := none) (lb 9 511) rfl rfl (one_of HT_.out (by kernel_rfl)) (by decide) (fun K hK => ?_)
      have hs194 : w193.cell? ⟨gb425, 0, none⟩ = some (.int .i64 x426000_40) := bc BK425 0
      have hfs194 := blk_frozen BK425.out 0
      have hns194_0 := NB413_425.out
      have hns194_1 := NB414_425.out
      have hns194_2 := NB415_425.out
      have hns194_3 := NB422_425.out
      have hns194_5 := NB426_425.out
      have hns194_6 := NB432_425.out
      have hms194_0 := NB425_413.out
      have hms194_1 := NB425_414.out
      have hms194_2 := NB425_415.out
      have hms194_3 := NB425_422.out
      have hms194_5 := NB425_426.out
      have hms194_6 := NB425_432.out
      have hs195 : w193.cell? ⟨gb425, 1, none⟩ = some (.int .i64 x426001_40) := bc BK425 1
      have hfs195 := blk_frozen BK425.out 1
      have hns195_0 := NB413_425.out
      have hns195_1 := NB414_425.out
      have hns195_2 := NB415_425.out
      have hns195_3 := NB422_425.out
      have hns195_5 := NB426_425.out
      have hns195_6 := NB432_425.out
      have hms195_0 := NB425_413.out
      have hms195_1 := NB425_414.out
      have hms195_2 := NB425_415.out
      have hms195_3 := NB425_422.out
      have hms195_5 := NB425_426.out
      have hms195_6 := NB425_432.out
      refine skip_ (w1 := ?_) (by rfl) rfl ?_ ?_
      rotate_left
      ·go_simp
       rfl
      refine hK.out _ _ ?_
      clear hK K
      refine done_ (done_of HT_.out (by kernel_rfl)) ?_
      obtain ⟨hnb196,hnc196⟩ := nn NB414_413
      obtain ⟨hnb197,hnc197⟩ := nn NB414_415
      obtain ⟨hnb198,hnc198⟩ := nn NB414_425
      obtain ⟨hnb199,hnc199⟩ := nn NB414_426
      obtain ⟨hcz200_0,hcz200_1,hfz200_0,hfz200_1⟩ := c2 BK414
      try go_wp2_with (first | ((with_reducible refine gate_callee (f := 95) rfl ?_); refine goesL_ (some 62) rfl rfl Try.func95 (by kernel_rfl) rfl #[.agg #[.int .i64 a1_0, .int .i64 a1_1], .int .i64 0] rfl mz ?_; (with_reducible refine (impl_RangeHas.calls a1_0 a1_1 0 false _ A139.out).mono ?_); rintro e w201 ⟨rfl, hb⟩; refine ⟨_, rfl, ?_⟩; replace BK413 := am (blk_below (g := gb413) (o := b2 a0_0 a0_1 24) (by refine fa NB413_425 ?_; refine fa NB413_425 ?_; exact Z BK413) hb); replace BK414 := am (blk_below (g := gb414) (o := b2 a1_0 a1_1 24) (by refine fa NB414_425 ?_; refine fa NB414_425 ?_; exact Z BK414) hb); replace BK415 := am (blk_below (g := gb415) (o := b2 0 0 24) (by refine fa NB415_425 ?_; refine fa NB415_425 ?_; exact Z BK415) hb); replace BK422 := am (blk_below (g := gb422) (o := b4 t418 t419 t420 t421 96) (by refine fa NB422_425 ?_; refine fa NB422_425 ?_; exact Z BK422) hb); replace BK425 := am (blk_below (g := gb425) (o := b2 t440 t441 24) (by refine pf ?_; refine blk_put (cs := #[.int .i64 t440, .int .i64 x426001_40]) ?_ 1 _ rfl; refine pf ?_; refine blk_put (cs := #[.int .i64 x426000_40, .int .i64 x426001_40]) ?_ 0 _ rfl; exact Z BK425) hb); replace BK426 := am (blk_below (g := gb426) (o := b2 t418 t419 24) (by refine fa NB426_425 ?_; refine fa NB426_425 ?_; exact Z BK426) hb); replace BK432 := am (blk_below (g := gb432) (o := b2 t420 t421 24) (by refine fa NB432_425 ?_; refine fa NB432_425 ?_; exact Z BK432) hb); replace HB := am (below_step (Y7 HB GE413 GE414 GE415 GE422 GE425 GE426 GE432) hb); (try clear hb); obtain ⟨hnb202,hnc202⟩ := nn NB425_413; obtain ⟨hnb203,hnc203⟩ := nn NB425_415; obtain ⟨hnb204,hnc204⟩ := nn NB425_426; obtain ⟨hcz205_0,hcz205_1,hfz205_0,hfz205_1⟩ := c2 BK425; obtain ⟨hnb206,hnc206⟩ := nn NB415_413; obtain ⟨hnb207,hnc207⟩ := nn NB415_426; obtain ⟨hcz208_0,hcz208_1,hfz208_0,hfz208_1⟩ := c2 BK415))
      refine bodyPost_ret (results_ct rfl _ _ gb415 24 #[.int .i64 t440, .int .i64 t441] (0, 0) _ rfl (by refine pf ?_; refine blk_put (cs := #[.int .i64 t440, .int .i64 0]) ?_ 1 _ rfl; refine pf ?_; refine blk_put (cs := #[.int .i64 0, .int .i64 0]) ?_ 0 _ rfl; exact Z BK415) Try.underlying24 rfl (by kernel_rfl)) rfl ?_
      exact ⟨_, ez, by first | exact Kd.R_nil _ _ _ _ _ | exact Kd.N_nil _ _ _ _ _ | exact Kd.V_nil _ _ _ _ _ | exact Kd.Q_nil _ _ _ _ _ | exact Kd.S_nil _ _ _ _ _, Y7 HB GE413 GE414 GE415 GE422 GE425 GE426 GE432⟩
     subst c140
     rw [if_pos rfl] at H
     obtain ⟨y443, hy443⟩ : ∃ y_ : List Int, y_ = (([2] : List Int)) := ⟨_, rfl⟩
     replace H : (some (t440, t441, y443)) = some (r1, r2, r3) := by first | (rw [hy443]; with_reducible exact H) | (have H2_ := (Option.bind_some _ _).symm.trans H; rw [hy443]; with_reducible exact H2_) | (have H2_ := (Option.bind_some _ _).symm.trans H; with_reducible exact H2_) | with_reducible exact H | (rw [hy443]; exact H) | exact H
     have Ny443 := am hy443
     clear hy443
     simp only [Option.some.injEq, Prod.mk.injEq] at H
     obtain ⟨rfl, rfl, rfl⟩ := H
     obtain ⟨hnb141,hnc141⟩ := nn NB422_413
     obtain ⟨hnb142,hnc142⟩ := nn NB422_414
     obtain ⟨hnb143,hnc143⟩ := nn NB422_415
     obtain ⟨hnb144,hnc144⟩ := nn NB422_425
     obtain ⟨hnb145,hnc145⟩ := nn NB422_426
     obtain ⟨hcz146_0,hcz146_1,hcz146_2,hcz146_3,hfz146_0,hfz146_1,hfz146_2,hfz146_3⟩ := c4 BK422
     try go_wp2_with (first | ((with_reducible refine gate_dst (N := 10) rfl ?_); refine bx 10 #[.int .i64 0, .int .i64 0] 24 ?_; intro gb432 hg w147 hbox hb; have BK432 := am (hbox); have GW432 := am (bs hg (Y6 HB GE413 GE414 GE415 GE422 GE425 GE426)); have GE432 := am (bs hg (Y6 HB GE413 GE414 GE415 GE422 GE425 GE426)); obtain ⟨NB413_432,NB432_413⟩ := ne_ hg BK413; obtain ⟨NB414_432,NB432_414⟩ := ne_ hg BK414; obtain ⟨NB415_432,NB432_415⟩ := ne_ hg BK415; obtain ⟨NB422_432,NB432_422⟩ := ne_ hg BK422; obtain ⟨NB425_432,NB432_425⟩ := ne_ hg BK425; obtain ⟨NB426_432,NB432_426⟩ := ne_ hg BK426; replace BK413 := bb BK413 hb; replace BK414 := bb BK414 hb; replace BK415 := bb BK415 hb; replace BK422 := bb BK422 hb; replace BK425 := bb BK425 hb; replace BK426 := bb BK426 hb; replace HB := am (below_step (Y6 HB GE413 GE414 GE415 GE422 GE425 GE426) hb); clear hb hbox hg; obtain ⟨hnb148,hnc148⟩ := nn NB432_413; obtain ⟨hnb149,hnc149⟩ := nn NB432_414; obtain ⟨hnb150,hnc150⟩ := nn NB432_415; obtain ⟨hnb151,hnc151⟩ := nn NB432_422; obtain ⟨hnb152,hnc152⟩ := nn NB432_425; obtain ⟨hnb153,hnc153⟩ := nn NB432_426; obtain ⟨hcz154_0,hcz154_1,hfz154_0,hfz154_1⟩ := c2 BK432) | ((with_reducible refine gate_callee (f := 47) rfl ?_); refine goesL_ (some 51) rfl rfl Try.func47 (by kernel_rfl) rfl #[.agg #[.int .i64 t420, .int .i64 t421]] rfl mz ?_; (with_reducible refine (impl_Range_empty.calls t420 t421 false _ A75.out).mono ?_); rintro e w155 ⟨rfl, hb⟩; refine ⟨_, rfl, ?_⟩; replace BK413 := am (blk_below (g := gb413) (o := b2 a0_0 a0_1 24) (by refine fa NB413_432 ?_; refine fa NB413_432 ?_; exact Z BK413) hb); replace BK414 := am (blk_below (g := gb414) (o := b2 a1_0 a1_1 24) (by refine fa NB414_432 ?_; refine fa NB414_432 ?_; exact Z BK414) hb); replace BK415 := am (blk_below (g := gb415) (o := b2 0 0 24) (by refine fa NB415_432 ?_; refine fa NB415_432 ?_; exact Z BK415) hb); replace BK422 := am (blk_below (g := gb422) (o := b4 t418 t419 t420 t421 96) (by refine fa NB422_432 ?_; refine fa NB422_432 ?_; exact Z BK422) hb); replace BK425 := am (blk_below (g := gb425) (o := b2 x426000_40 x426001_40 24) (by refine fa NB425_432 ?_; refine fa NB425_432 ?_; exact Z BK425) hb); replace BK426 := am (blk_below (g := gb426) (o := b2 t418 t419 24) (by refine fa NB426_432 ?_; refine fa NB426_432 ?_; exact Z BK426) hb); replace BK432 := am (blk_below (g := gb432) (o := b2 t420 t421 24) (by refine pf ?_; refine blk_put (cs := #[.int .i64 t420, .int .i64 0]) ?_ 1 _ rfl; refine pf ?_; refine blk_put (cs := #[.int .i64 0, .int .i64 0]) ?_ 0 _ rfl; exact Z BK432) hb); replace HB := am (below_step (Y7 HB GE413 GE414 GE415 GE422 GE425 GE426 GE432) hb); (try clear hb)))
     replace BK413 := am (blk_drew BK413.out)
     replace BK414 := am (blk_drew BK414.out)
     replace BK415 := am (blk_drew BK415.out)
     replace BK422 := am (blk_drew BK422.out)
     replace BK425 := am (blk_drew BK425.out)
     replace BK426 := am (blk_drew BK426.out)
     replace BK432 := am (blk_drew BK432.out)
     replace HB := am (below_drew1 HB.out)
     refine start_ (n := 9) (S := fun w' => w'.cell? ⟨gb425, 0, none⟩ = some (.int .i64 x426000_40) ∧ w'.cell? ⟨gb425, 1, none⟩ = some (.int .i64 x426001_40) ∧ w'.cell? ⟨gb413, 0, none⟩ = some (.int .i64 a0_0) ∧ w'.cell? ⟨gb413, 1, none⟩ = some (.int .i64 a0_1) ∧ w'.cell? ⟨gb432, 0, none⟩ = some (.int .i64 t420) ∧ w'.cell? ⟨gb432, 1, none⟩ = some (.int .i64 t421)) (ds := [8]) (lb 9 0) (by kernel_rfl) rfl rfl ⟨bc BK425 0, bc BK425 1, bc BK413 0, bc BK413 1, bc BK432 0, bc BK432 1⟩ (fun hHeld => ?_); refine with_tabW impl_rangeRem.tab11 impl_rangeRem.bits11 (fun HT_ HW_ => ?_)
     generalize w155.drew = w156 at BK413 BK414 BK415 BK422 BK425 BK426 BK432 HB hHeld ⊢
     refine pj 2 (some 55) (lb 9 4) ?_
     refine pj 4 (some 57) (lb 9 20) ?_
     refine take_ (i := 0) (N := some 53) (v := ?_) (a' := ?_) (lb 9 21) rfl rfl (take_ofW HT_.out HW_.out (by kernel_rfl)) (fun _ _ _ h => h) (Or.inl ⟨by rfl, ?_⟩) hHeld ?_ ?_
     rotate_left
     ·rintro w' ⟨s0, s1, s2, s3, s4, s5⟩
      go_simp
      with_reducible rfl
     rotate_left
     ·exact pz
     refine take_ (i := 1) (N := some 54) (v := ?_) (a' := ?_) (lb 9 23) rfl rfl (take_ofW HT_.out HW_.out (by kernel_rfl)) (fun _ _ _ h => h) (Or.inl ⟨by rfl, ?_⟩) hHeld ?_ ?_
     rotate_left
     ·rintro w' ⟨s0, s1, s2, s3, s4, s5⟩
      go_simp
      with_reducible rfl
     rotate_left
     ·exact pz
     refine take_ (i := 3) (N := some 56) (v := ?_) (a' := ?_) (lb 9 31) rfl rfl (take_ofW HT_.out HW_.out (by kernel_rfl)) (fun _ _ _ h => h) (Or.inl ⟨by rfl, ?_⟩) hHeld ?_ ?_
     rotate_left
     ·rintro w' ⟨s0, s1, s2, s3, s4, s5⟩
      go_simp
      with_reducible rfl
     rotate_left
     ·exact pz
     refine take_ (i := 5) (N := some 58) (v := ?_) (a' := ?_) (lb 9 63) rfl rfl (take_ofW HT_.out HW_.out (by kernel_rfl)) (fun _ _ _ h => h) (Or.inl ⟨by rfl, ?_⟩) hHeld ?_ ?_
     rotate_left
     ·rintro w' ⟨s0, s1, s2, s3, s4, s5⟩
      go_simp
      with_reducible rfl
     rotate_left
     ·exact pz
     refine one_ (i := 6) (N := some 59) (lb 9 127) rfl rfl (one_of HT_.out (by kernel_rfl)) (by decide) (fun K hK => ?_)
     refine goes_ Try.func97 (by kernel_rfl) rfl #[.agg #[.int .i64 a0_0, .int .i64 a0_1], .int .i64 t420, .int .i64 t421] (by rfl) rfl rfl mz ?_
     with_reducible refine (impl_rangeRemBy.calls kj40 a0_0 a0_1 t420 t421 t438 t439 _ A137.out).mono ?_
     rintro e w157 ⟨rfl, hb⟩
     refine ⟨_, rfl, ?_⟩
     replace BK413 := bb BK413 hb
     replace BK414 := bb BK414 hb
     replace BK415 := bb BK415 hb
     replace BK422 := bb BK422 hb
     replace BK425 := bb BK425 hb
     replace BK426 := bb BK426 hb
     replace BK432 := bb BK432 hb
     replace HB := am (below_step (Y7 HB GE413 GE414 GE415 GE422 GE425 GE426 GE432) hb)
     (try clear hb)
     (try clear hb2)
     (try clear hk)
     (try clear hi)
     refine hK.out _ _ ⟨bc BK425 0, bc BK425 1, bc BK413 0, bc BK413 1, bc BK432 0, bc BK432 1⟩ (fun hHeld => ?_)
     clear hK K
     refine norm_ (a' := ?_) ?_ ?_
     rotate_left
     ·show Act.put _ (some 59) _ = _
      simp only [Act.put, List.setIfInBounds_toArray, List.set_cons_zero, List.set_cons_succ, i64_w, i32_w]
      rfl
     refine one_ (i := 7) (N := some 60) (lb 9 255) rfl rfl (one_of HT_.out (by kernel_rfl)) (by decide) (fun K hK => ?_)
     refine goes_ Try.func84 (by kernel_rfl) rfl #[.agg #[.int .i64 x426000_40, .int .i64 x426001_40], .agg #[.int .i64 t438, .int .i64 t439]] (by rfl) rfl rfl mz ?_
     with_reducible refine (impl_RangeJoin.calls kj40 x426000_40 x426001_40 t438 t439 t440 t441 _ A138.out).mono ?_
     rintro e w158 ⟨rfl, hb⟩
     refine ⟨_, rfl, ?_⟩
     replace BK413 := bb BK413 hb
     replace BK414 := bb BK414 hb
     replace BK415 := bb BK415 hb
     replace BK422 := bb BK422 hb
     replace BK425 := bb BK425 hb
     replace BK426 := bb BK426 hb
     replace BK432 := bb BK432 hb
     replace HB := am (below_step (Y7 HB GE413 GE414 GE415 GE422 GE425 GE426 GE432) hb)
     (try clear hb)
     (try clear hb2)
     (try clear hk)
     (try clear hi)
     refine hK.out _ _ ⟨bc BK425 0, bc BK425 1, bc BK413 0, bc BK413 1, bc BK432 0, bc BK432 1⟩ (fun hHeld => ?_)
     clear hK K
     refine norm_ (a' := ?_) ?_ ?_
     rotate_left
     ·show Act.put _ (some 60) _ = _
      simp only [Act.put, List.setIfInBounds_toArray, List.set_cons_zero, List.set_cons_succ, i64_w, i32_w]
      rfl
     refine last_ (i := 8) (N := none) (lb 9 511) rfl rfl (one_of HT_.out (by kernel_rfl)) (by decide) (fun K hK => ?_)
     have hs159 : w158.cell? ⟨gb425, 0, none⟩ = some (.int .i64 x426000_40) := bc BK425 0
     have hfs159 := blk_frozen BK425.out 0
     have hns159_0 := NB413_425.out
     have hns159_1 := NB414_425.out
     have hns159_2 := NB415_425.out
     have hns159_3 := NB422_425.out
     have hns159_5 := NB426_425.out
     have hns159_6 := NB432_425.out
     have hms159_0 := NB425_413.out
     have hms159_1 := NB425_414.out
     have hms159_2 := NB425_415.out
     have hms159_3 := NB425_422.out
     have hms159_5 := NB425_426.out
     have hms159_6 := NB425_432.out
     have hs160 : w158.cell? ⟨gb425, 1, none⟩ = some (.int .i64 x426001_40) := bc BK425 1
     have hfs160 := blk_frozen BK425.out 1
     have hns160_0 := NB413_425.out
     have hns160_1 := NB414_425.out
     have hns160_2 := NB415_425.out
     have hns160_3 := NB422_425.out
     have hns160_5 := NB426_425.out
     have hns160_6 := NB432_425.out
     have hms160_0 := NB425_413.out
     have hms160_1 := NB425_414.out
     have hms160_2 := NB425_415.out
     have hms160_3 := NB425_422.out
     have hms160_5 := NB425_426.out
     have hms160_6 := NB425_432.out
     refine skip_ (w1 := ?_) (by rfl) rfl ?_ ?_
     rotate_left
     ·go_simp
      rfl
     refine hK.out _ _ ?_
     clear hK K
     refine done_ (done_of HT_.out (by kernel_rfl)) ?_
     obtain ⟨hnb161,hnc161⟩ := nn NB414_413
     obtain ⟨hnb162,hnc162⟩ := nn NB414_415
     obtain ⟨hnb163,hnc163⟩ := nn NB414_425
     obtain ⟨hnb164,hnc164⟩ := nn NB414_426
     obtain ⟨hcz165_0,hcz165_1,hfz165_0,hfz165_1⟩ := c2 BK414
     try go_wp2_with (first | ((with_reducible refine gate_callee (f := 95) rfl ?_); refine goesL_ (some 62) rfl rfl Try.func95 (by kernel_rfl) rfl #[.agg #[.int .i64 a1_0, .int .i64 a1_1], .int .i64 0] rfl mz ?_; (with_reducible refine (impl_RangeHas.calls a1_0 a1_1 0 true _ A139.out).mono ?_); rintro e w166 ⟨rfl, hb⟩; refine ⟨_, rfl, ?_⟩; replace BK413 := am (blk_below (g := gb413) (o := b2 a0_0 a0_1 24) (by refine fa NB413_425 ?_; refine fa NB413_425 ?_; exact Z BK413) hb); replace BK414 := am (blk_below (g := gb414) (o := b2 a1_0 a1_1 24) (by refine fa NB414_425 ?_; refine fa NB414_425 ?_; exact Z BK414) hb); replace BK415 := am (blk_below (g := gb415) (o := b2 0 0 24) (by refine fa NB415_425 ?_; refine fa NB415_425 ?_; exact Z BK415) hb); replace BK422 := am (blk_below (g := gb422) (o := b4 t418 t419 t420 t421 96) (by refine fa NB422_425 ?_; refine fa NB422_425 ?_; exact Z BK422) hb); replace BK425 := am (blk_below (g := gb425) (o := b2 t440 t441 24) (by refine pf ?_; refine blk_put (cs := #[.int .i64 t440, .int .i64 x426001_40]) ?_ 1 _ rfl; refine pf ?_; refine blk_put (cs := #[.int .i64 x426000_40, .int .i64 x426001_40]) ?_ 0 _ rfl; exact Z BK425) hb); replace BK426 := am (blk_below (g := gb426) (o := b2 t418 t419 24) (by refine fa NB426_425 ?_; refine fa NB426_425 ?_; exact Z BK426) hb); replace BK432 := am (blk_below (g := gb432) (o := b2 t420 t421 24) (by refine fa NB432_425 ?_; refine fa NB432_425 ?_; exact Z BK432) hb); replace HB := am (below_step (Y7 HB GE413 GE414 GE415 GE422 GE425 GE426 GE432) hb); (try clear hb); obtain ⟨hnb167,hnc167⟩ := nn NB425_413; obtain ⟨hnb168,hnc168⟩ := nn NB425_415; obtain ⟨hnb169,hnc169⟩ := nn NB425_426; obtain ⟨hcz170_0,hcz170_1,hfz170_0,hfz170_1⟩ := c2 BK425) | ((with_reducible refine gate_dst (N := 64) rfl ?_); refine Kd.R_lit (Kd.int .i64) _ 3 ?hg (N := 64) ?hd (xs := ([2] : List Int)) (inner := [.int .i64 2]) (ok := fun _ => True) (okp := fun _ => True) ?hr ?hp (fun _ hk => hk) trivial (Below.refl _ _) (Nat.le_refl _) (by simp) ?_; (case hd => rfl); (case hg => rfl); (case hr => first | (go_simp; done) | (go_simp; rfl)); (case hp => exact (Reps.one (show Kd.M (Kd.int .i64) _ _ _ 2 [.int .i64 2] from rfl) (Reps.none _ _))); intro v444 w171 ho172 hb hg_ hnew_; clear hg_ hnew_; (first | rw [← Ny443.out] at ho172 | (simp only [Int.reduceToNat] at ho172; rw [← Ny443.out] at ho172)); have HO445 := am (Kd.R_lower ho172 (below_size (Y7 HB GE413 GE414 GE415 GE422 GE425 GE426 GE432))); replace BK413 := bb BK413 hb; replace BK414 := bb BK414 hb; replace BK415 := bb BK415 hb; replace BK422 := bb BK422 hb; replace BK425 := bb BK425 hb; replace BK426 := bb BK426 hb; replace BK432 := bb BK432 hb; replace HB := am (below_step (Y7 HB GE413 GE414 GE415 GE422 GE425 GE426 GE432) hb); clear hb ho172; obtain ⟨hnb173,hnc173⟩ := nn NB415_413; obtain ⟨hnb174,hnc174⟩ := nn NB415_426; obtain ⟨hcz175_0,hcz175_1,hfz175_0,hfz175_1⟩ := c2 BK415))
     refine bodyPost_ret (results_ct rfl _ _ gb415 24 #[.int .i64 t440, .int .i64 t441] (0, 0) _ rfl (by refine pf ?_; refine blk_put (cs := #[.int .i64 t440, .int .i64 0]) ?_ 1 _ rfl; refine pf ?_; refine blk_put (cs := #[.int .i64 0, .int .i64 0]) ?_ 0 _ rfl; exact Z BK415) Try.underlying24 rfl (by kernel_rfl)) rfl ?_
     exact ⟨_, ez, by (with_reducible repeat (first | apply Kd.R_alloc | apply Kd.R_drewN | apply Kd.R_drew)); exact Kd.R_mono (Kd.R_far (p := ⟨gb415, 1, none⟩) (Kd.R_far (p := ⟨gb415, 0, none⟩) (Kd.R_types HO445.out BK415.out (by decide)) (fun _ hk => hk.2) (.int .i64 t440)) (fun _ hk => hk.2) (.int .i64 t441)) (fun _ hk => trivial), Y7 HB GE413 GE414 GE415 GE422 GE425 GE426 GE432⟩

end Go.Proofs.Ythbkakcchgnhpaa.PFnExactRangeDo
