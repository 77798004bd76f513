/- Written by this session's own driver (wip/dprint.py): the functions that the law FnExactRangeDo reaches, as Lean functions, each with its contract. -/
import Derived.Test.YthbkakcchgnhpaaPFnExactRangeDox0
import Derived.Test.YthbkakcchgnhpaaPFnExactRangeDox12
import Derived.Test.YthbkakcchgnhpaaPFnExactRangeDox14
import Derived.Test.YthbkakcchgnhpaaPFnExactRangeDox15
import Derived.Test.YthbkakcchgnhpaaPFnExactRangeDox16
import Derived.Test.YthbkakcchgnhpaaSv
namespace Go.Proofs.Ythbkakcchgnhpaa.PFnExactRangeDo
open Go.RowKit Go.Proofs.YthbkakcchgnhpaaV.PrintWords Go.Proofs.YthbkakcchgnhpaaV.PrintLast Go.Proofs.YthbkakcchgnhpaaV.PrintMore Go.Proofs.YthbkakcchgnhpaaSv
attribute [local go_sem] max2_int min2_int max_two min_two max_three min_three max_four min_four   -- for this text's walks alone
set_option linter.unusedVariables false
set_option linter.unusedSimpArgs false

/-! ### impl_rangeDiv: function 53 -/
attribute [local go_sem] Go.Proofs.YthbkakcchgnhpaaSet.isSome_setCell
mutual
def impl_rangeDiv.l0 : Nat → Int → Int → Bool → Int → Int → Int → Int → Int → Int → Int → Int → Int → Option (Int × Int × List Int)
 | 0, _, _, _, _, _, _, _, _, _, _, _, _ => none
 | k + 1, x6, x7, x8, x17, x368000, x368001, x369000, x369001, x900016000, x900016001, x900016002, x900016003 => if x17 < 2 then (if x17 = 0 then ((impl_Range_empty.f x900016000 x900016001).bind fun t375 => (if t375 = true then (impl_rangeDiv.l0 k x6 x7 x8 (wrap64 (x17 + 1)) x368000 x368001 x369000 x369001 x900016000 x900016001 x900016002 x900016003) else ((impl_rangeCorners.f k 4 x368000 x368001 x900016000 x900016001).bind fun bt376 => (if x8 = true then (impl_rangeDiv.l0 k (mn bt376.1 x6) (mx bt376.2 x7) true (wrap64 (x17 + 1)) x368000 x368001 x369000 x369001 x900016000 x900016001 x900016002 x900016003) else (impl_rangeDiv.l0 k bt376.1 bt376.2 true (wrap64 (x17 + 1)) x368000 x368001 x369000 x369001 x900016000 x900016001 x900016002 x900016003))))) else (if x17 = 1 then ((impl_Range_empty.f x900016002 x900016003).bind fun t379 => (if t379 = true then (impl_rangeDiv.l0 k x6 x7 x8 (wrap64 (x17 + 1)) x368000 x368001 x369000 x369001 x900016000 x900016001 x900016002 x900016003) else ((impl_rangeCorners.f k 4 x368000 x368001 x900016002 x900016003).bind fun bt380 => (if x8 = true then (impl_rangeDiv.l0 k (mn bt380.1 x6) (mx bt380.2 x7) true (wrap64 (x17 + 1)) x368000 x368001 x369000 x369001 x900016000 x900016001 x900016002 x900016003) else (impl_rangeDiv.l0 k bt380.1 bt380.2 true (wrap64 (x17 + 1)) x368000 x368001 x369000 x369001 x900016000 x900016001 x900016002 x900016003))))) else (none))) else ((impl_rangeNone.f).bind fun bt382 => (if x8 = true then ((impl_rangeFrom.f x6 x7).bind fun bt385 => (impl_rangeDiv.j1 k x368000 x368001 x369000 x369001 bt385.1 bt385.2)) else (impl_rangeDiv.j1 k x368000 x368001 x369000 x369001 bt382.1 bt382.2)))
def impl_rangeDiv.j1 : Nat → Int → Int → Int → Int → Int → Int → Option (Int × Int × List Int)
 | 0, _, _, _, _, _, _ => none
 | k + 1, x368000, x368001, x369000, x369001, x385000, x385001 => (impl_RangeHas.f x368000 x368001 (-2147483648)).bind fun t387 => (if t387 = true then ((impl_RangeHas.f x369000 x369001 (-1)).bind fun t388 => (impl_rangeDiv.j2 k ([] : List Int) t388 x369000 x369001 x385000 x385001)) else (impl_rangeDiv.j2 k ([] : List Int) false x369000 x369001 x385000 x385001))
def impl_rangeDiv.j2 : Nat → List Int → Bool → Int → Int → Int → Int → Option (Int × Int × List Int)
 | 0, _, _, _, _, _, _ => none
 | k + 1, x14, x48, x369000, x369001, x385000, x385001 => if x48 = true then (if x14.length < 17592186044416 then ((some (x14 ++ [1] : List Int)).bind fun y389 => ((impl_RangeHas.f x369000 x369001 0).bind fun t392 => (if t392 = true then (if y389.length < 17592186044416 then (some (x385000, x385001, (y389 ++ [2]))) else (none)) else (some (x385000, x385001, y389))))) else (none)) else ((impl_RangeHas.f x369000 x369001 0).bind fun t396 => (if t396 = true then (if x14.length < 17592186044416 then (some (x385000, x385001, (x14 ++ [2]))) else (none)) else (some (x385000, x385001, x14))))
end
def impl_rangeDiv.f (k : Nat) (a0_0 : Int) (a0_1 : Int) (a1_0 : Int) (a1_1 : Int) : Option (Int × Int × List Int) := (impl_rangeSides.f k a1_0 a1_1).bind fun bt370 => (impl_rangeDiv.l0 k 0 0 false 0 a0_0 a0_1 a1_0 a1_1 bt370.1 bt370.2.1 bt370.2.2.1 bt370.2.2.2)
theorem impl_rangeDiv.mono_l : ∀ k, (∀ y0 y1 y2 y3 y4 y5 y6 y7 y8 y9 y10 y11, LeO (impl_rangeDiv.l0 k y0 y1 y2 y3 y4 y5 y6 y7 y8 y9 y10 y11) (impl_rangeDiv.l0 (k + 1) y0 y1 y2 y3 y4 y5 y6 y7 y8 y9 y10 y11)) ∧ (∀ y0 y1 y2 y3 y4 y5, LeO (impl_rangeDiv.j1 k y0 y1 y2 y3 y4 y5) (impl_rangeDiv.j1 (k + 1) y0 y1 y2 y3 y4 y5)) ∧ (∀ y0 y1 y2 y3 y4 y5, LeO (impl_rangeDiv.j2 k y0 y1 y2 y3 y4 y5) (impl_rangeDiv.j2 (k + 1) y0 y1 y2 y3 y4 y5))
 | 0 => ⟨fun _ _ _ _ _ _ _ _ _ _ _ _ r h => by simp [impl_rangeDiv.l0] at h, fun _ _ _ _ _ _ r h => by simp [impl_rangeDiv.j1] at h, fun _ _ _ _ _ _ r h => by simp [impl_rangeDiv.j2] at h⟩
 | k + 1 => by
  obtain ⟨ih0, ih1, ih2⟩ := impl_rangeDiv.mono_l k
  refine ⟨?_, ?_, ?_⟩
  ·intro y0 y1 y2 y3 y4 y5 y6 y7 y8 y9 y10 y11
   unfold impl_rangeDiv.l0
   repeat' first
   | (with_reducible exact ih0 _ _ _ _ _ _ _ _ _ _ _ _)
   | (with_reducible exact ih1 _ _ _ _ _ _)
   | (with_reducible exact ih2 _ _ _ _ _ _)
   | (with_reducible exact impl_rangeCorners.mono _ _ _ _ _ _)
   | (with_reducible exact impl_rangeSides.mono _ _ _)
   | (with_reducible exact LeO.refl _)
   | (with_reducible exact LeO.none _)
   | (with_reducible refine LeO.ite ?_ ?_)
   | (with_reducible refine LeO.bind ?_ (fun _ => ?_))
   | exact ih0 _ _ _ _ _ _ _ _ _ _ _ _
   | exact ih1 _ _ _ _ _ _
   | exact ih2 _ _ _ _ _ _
   | exact impl_rangeCorners.mono _ _ _ _ _ _
   | exact impl_rangeSides.mono _ _ _
   | exact LeO.none _
   | refine LeO.ite ?_ ?_
   | refine LeO.bind ?_ (fun _ => ?_)
  ·intro y0 y1 y2 y3 y4 y5
   unfold impl_rangeDiv.j1
   repeat' first
   | (with_reducible exact ih0 _ _ _ _ _ _ _ _ _ _ _ _)
   | (with_reducible exact ih1 _ _ _ _ _ _)
   | (with_reducible exact ih2 _ _ _ _ _ _)
   | (with_reducible exact impl_rangeCorners.mono _ _ _ _ _ _)
   | (with_reducible exact impl_rangeSides.mono _ _ _)
   | (with_reducible exact LeO.refl _)
   | (with_reducible exact LeO.none _)
   | (with_reducible refine LeO.ite ?_ ?_)
   | (with_reducible refine LeO.bind ?_ (fun _ => ?_))
   | exact ih0 _ _ _ _ _ _ _ _ _ _ _ _
   | exact ih1 _ _ _ _ _ _
   | exact ih2 _ _ _ _ _ _
   | exact impl_rangeCorners.mono _ _ _ _ _ _
   | exact impl_rangeSides.mono _ _ _
   | exact LeO.none _
   | refine LeO.ite ?_ ?_
   | refine LeO.bind ?_ (fun _ => ?_)
  ·intro y0 y1 y2 y3 y4 y5
   unfold impl_rangeDiv.j2
   repeat' first
   | (with_reducible exact ih0 _ _ _ _ _ _ _ _ _ _ _ _)
   | (with_reducible exact ih1 _ _ _ _ _ _)
   | (with_reducible exact ih2 _ _ _ _ _ _)
   | (with_reducible exact impl_rangeCorners.mono _ _ _ _ _ _)
   | (with_reducible exact impl_rangeSides.mono _ _ _)
   | (with_reducible exact LeO.refl _)
   | (with_reducible exact LeO.none _)
   | (with_reducible refine LeO.ite ?_ ?_)
   | (with_reducible refine LeO.bind ?_ (fun _ => ?_))
   | exact ih0 _ _ _ _ _ _ _ _ _ _ _ _
   | exact ih1 _ _ _ _ _ _
   | exact ih2 _ _ _ _ _ _
   | exact impl_rangeCorners.mono _ _ _ _ _ _
   | exact impl_rangeSides.mono _ _ _
   | exact LeO.none _
   | refine LeO.ite ?_ ?_
   | refine LeO.bind ?_ (fun _ => ?_)
theorem impl_rangeDiv.mono : ∀ a0 a1 a2 a3 k, LeO (impl_rangeDiv.f k a0 a1 a2 a3) (impl_rangeDiv.f (k + 1) a0 a1 a2 a3) := by
 intro a0 a1 a2 a3 k
 obtain ⟨ih0, ih1, ih2⟩ := impl_rangeDiv.mono_l k
 unfold impl_rangeDiv.f
 repeat' first
   | (with_reducible exact ih0 _ _ _ _ _ _ _ _ _ _ _ _)
   | (with_reducible exact ih1 _ _ _ _ _ _)
   | (with_reducible exact ih2 _ _ _ _ _ _)
   | (with_reducible exact impl_rangeCorners.mono _ _ _ _ _ _)
   | (with_reducible exact impl_rangeSides.mono _ _ _)
   | (with_reducible exact LeO.refl _)
   | (with_reducible exact LeO.none _)
   | (with_reducible refine LeO.ite ?_ ?_)
   | (with_reducible refine LeO.bind ?_ (fun _ => ?_))
   | exact ih0 _ _ _ _ _ _ _ _ _ _ _ _
   | exact ih1 _ _ _ _ _ _
   | exact ih2 _ _ _ _ _ _
   | exact impl_rangeCorners.mono _ _ _ _ _ _
   | exact impl_rangeSides.mono _ _ _
   | exact LeO.none _
   | refine LeO.ite ?_ ?_
   | refine LeO.bind ?_ (fun _ => ?_)
set_option maxHeartbeats 8000000 in
set_option maxRecDepth 100000 in
theorem impl_rangeDiv.calls (k : Nat) (a0_0 : Int) (a0_1 : Int) (a1_0 : Int) (a1_1 : Int) (r1 : Int) (r2 : Int) (r3 : List Int) (w : World) (h : impl_rangeDiv.f k a0_0 a0_1 a1_0 a1_1 = some (r1, r2, r3)) :
  Calls Try.prog 53 #[.agg #[.int .i64 a0_0, .int .i64 a0_1], .agg #[.int .i64 a1_0, .int .i64 a1_1]] w fun e w' => ∃ v2_ : Value, e = .returned (.tuple #[.agg #[.int .i64 r1, .int .i64 r2], v2_]) ∧ Kd.R (Kd.int .i64) 3 w' w.heap.size (fun _ => True) v2_ r3 ∧ Below w.heap.size w w' := by
 have hu24 := Try.underlying24
 have HB := am (Below.refl w.heap.size w)
 have H : ((impl_rangeSides.f k a1_0 a1_1).bind fun bt370 => (impl_rangeDiv.l0 k 0 0 false 0 a0_0 a0_1 a1_0 a1_1 bt370.1 bt370.2.1 bt370.2.2.1 bt370.2.2.2)) = some (r1, r2, r3) := h
 clear h
 replace H := Option.bind_eq_some_iff.mp H
 obtain ⟨⟨t370, t371, t372, t373⟩, A30, H⟩ := H
 try dsimp only at H
 have A3 := am A30
 clear A30
 have H' := am H
 clear H
 go_enter Try.func53, Try.ntmps53
 go_wp2_with (first | ((with_reducible refine gate_dst (N := 2) rfl ?_); refine bx 2 #[.int .i64 a0_0, .int .i64 a0_1] 24 ?_; intro gb367 hg w4 hbox hb; have BK367 := am (hbox); have GW367 := am (bs hg (Y0 HB)); have GE367 := am (bs hg (Y0 HB)); replace HB := am (below_step (Y0 HB) hb); clear hb hbox hg) | ((with_reducible refine gate_dst (N := 3) rfl ?_); refine bx 3 #[.int .i64 a1_0, .int .i64 a1_1] 24 ?_; intro gb368 hg w5 hbox hb; have BK368 := am (hbox); have GW368 := am (bs hg (Y1 HB GE367)); have GE368 := am (bs hg (Y1 HB GE367)); obtain ⟨NB367_368,NB368_367⟩ := ne_ hg BK367; replace BK367 := bb BK367 hb; replace HB := am (below_step (Y1 HB GE367) hb); clear hb hbox hg) | ((with_reducible refine gate_dst (N := 4) rfl ?_); refine bx 4 #[.int .i64 0, .int .i64 0] 24 ?_; intro gb369 hg w6 hbox hb; have BK369 := am (hbox); have GW369 := am (bs hg (Y2 HB GE367 GE368)); have GE369 := am (bs hg (Y2 HB GE367 GE368)); obtain ⟨NB367_369,NB369_367⟩ := ne_ hg BK367; obtain ⟨NB368_369,NB369_368⟩ := ne_ hg BK368; replace BK367 := bb BK367 hb; replace BK368 := bb BK368 hb; replace HB := am (below_step (Y2 HB GE367 GE368) hb); clear hb hbox hg; obtain ⟨hnb7,hnc7⟩ := nn NB368_367; obtain ⟨hnb8,hnc8⟩ := nn NB368_369; obtain ⟨hcz9_0,hcz9_1,hfz9_0,hfz9_1⟩ := c2 BK368) | ((with_reducible refine gate_callee (f := 94) rfl ?_); refine goesL_ (some 16) rfl rfl Try.func94 (by kernel_rfl) rfl #[.agg #[.int .i64 a1_0, .int .i64 a1_1]] rfl mz ?_; (with_reducible refine (impl_rangeSides.calls k a1_0 a1_1 t370 t371 t372 t373 _ A3.out).mono ?_); rintro e w10 ⟨rfl, hb⟩; refine ⟨_, rfl, ?_⟩; replace BK367 := bb BK367 hb; replace BK368 := bb BK368 hb; replace BK369 := bb BK369 hb; replace HB := am (below_step (Y3 HB GE367 GE368 GE369) hb); (try clear hb)))
 go_loopg [6, 7, 8, 17] k (fun kq v6 v7 v8 v17 w' => ∃ (x6_1 : Int) (x7_1 : Int) (x8_1 : Bool) (x17_1 : Int), v6 = .int .i64 x6_1 ∧ v7 = .int .i64 x7_1 ∧ v8 = .bool x8_1 ∧ v17 = .int .i64 x17_1 ∧ Aside0 (impl_rangeDiv.l0 kq x6_1 x7_1 x8_1 x17_1 a0_0 a0_1 a1_0 a1_1 t370 t371 t372 t373 = some (r1, r2, r3)) ∧ Aside0 (kq ≤ k) ∧ Aside0 (w'.heap[gb367]? = some (.cells #[.int .i64 a0_0, .int .i64 a0_1] 24 (0, 0))) ∧ Aside0 (w'.heap[gb368]? = some (.cells #[.int .i64 a1_0, .int .i64 a1_1] 24 (0, 0))) ∧ Aside0 (w'.heap[gb369]? = some (.cells #[.int .i64 0, .int .i64 0] 24 (0, 0))) ∧ Aside0 (Below w.heap.size w w'))
 case atStart => exact ⟨(0), (0), (false), (0), ey, ey, ey, ey, H', ⟨Nat.le_refl _⟩, ⟨Z BK367⟩, ⟨Z BK368⟩, ⟨Z BK369⟩, ⟨Y3 HB GE367 GE368 GE369⟩⟩
 case round =>
  clear H'
  (try clear hcz9_0);(try clear hcz9_1);(try clear hfz9_0);(try clear hfz9_1)
  obtain ⟨x6_1, x7_1, x8_1, x17_1, rfl, rfl, rfl, rfl, HA, HK1, BK367, BK368, BK369, HB⟩ := hrel
  cases gk with
  | zero => exact absurd HA.out (by simp [impl_rangeDiv.l0])
  | succ k1 =>
   have H := HA.out
   clear HA
   simp only [impl_rangeDiv.l0] at H
   by_cases c11 : x17_1 < 2
   ·rw [if_pos c11] at H
    have c11b0 : decide (x17_1 < 2) = true := decide_eq_true c11
    clear c11
    by_cases c12 : x17_1 = 0
    ·rw [if_pos c12] at H
     have hix12 : ∀ w', (Instr.index 96 (.agg #[.int .i64 t370, .int .i64 t371, .int .i64 t372, .int .i64 t373]) (.int .i64 x17_1)).run Try.prog w' = .ok (.agg #[.int .i64 t370, .int .i64 t371]) w' := by intro w'; rw [c12]; first | (go_simp; done) | (go_simp; rfl) | rfl
     have c12b0 : (x17_1 == 0) = true := beq_iff_eq.mpr c12
     have c12b1 : (x17_1 != 0) = false := bne_eq_false_iff_eq.mpr c12
     clear c12
     replace H := Option.bind_eq_some_iff.mp H
     obtain ⟨t375, A130, H⟩ := H
     try dsimp only at H
     have A13 := am A130
     clear A130
     by_cases c14 : t375 = true
     ·subst c14
      rw [if_pos rfl] at H
      have H' := am H
      clear H
      go_wp2_with (first | ((with_reducible refine gate_dst (N := 10) rfl ?_); refine bx 10 #[.int .i64 0, .int .i64 0] 24 ?_; intro gb374 hg w15 hbox hb; have BK374 := am (hbox); have GW374 := am (bs hg (Y3 HB GE367 GE368 GE369)); have GE374 := am (bs hg (Y3 HB GE367 GE368 GE369)); obtain ⟨NB367_374,NB374_367⟩ := ne_ hg BK367; obtain ⟨NB368_374,NB374_368⟩ := ne_ hg BK368; obtain ⟨NB369_374,NB374_369⟩ := ne_ hg BK369; replace BK367 := bb BK367 hb; replace BK368 := bb BK368 hb; replace BK369 := bb BK369 hb; replace HB := am (below_step (Y3 HB GE367 GE368 GE369) hb); clear hb hbox hg; obtain ⟨hnb16,hnc16⟩ := nn NB374_367; obtain ⟨hnb17,hnc17⟩ := nn NB374_368; obtain ⟨hnb18,hnc18⟩ := nn NB374_369; obtain ⟨hcz19_0,hcz19_1,hfz19_0,hfz19_1⟩ := c2 BK374) | ((with_reducible refine gate_callee (f := 47) rfl ?_); refine goesL_ (some 21) rfl rfl Try.func47 (by kernel_rfl) rfl #[.agg #[.int .i64 t370, .int .i64 t371]] rfl mz ?_; (with_reducible refine (impl_Range_empty.calls t370 t371 true _ A13.out).mono ?_); rintro e w20 ⟨rfl, hb⟩; refine ⟨_, rfl, ?_⟩; replace BK367 := am (blk_below (g := gb367) (o := b2 a0_0 a0_1 24) (by refine fa NB367_374 ?_; refine fa NB367_374 ?_; exact Z BK367) hb); replace BK368 := am (blk_below (g := gb368) (o := b2 a1_0 a1_1 24) (by refine fa NB368_374 ?_; refine fa NB368_374 ?_; exact Z BK368) hb); replace BK369 := am (blk_below (g := gb369) (o := b2 0 0 24) (by refine fa NB369_374 ?_; refine fa NB369_374 ?_; exact Z BK369) hb); replace BK374 := am (blk_below (g := gb374) (o := b2 t370 t371 24) (by refine pf ?_; refine blk_put (cs := #[.int .i64 t370, .int .i64 0]) ?_ 1 _ rfl; refine pf ?_; refine blk_put (cs := #[.int .i64 0, .int .i64 0]) ?_ 0 _ rfl; exact Z BK374) hb); replace HB := am (below_step (Y4 HB GE367 GE368 GE369 GE374) hb); (try clear hb)))
      go_roundg k1
      case measure => have := HK1.out; omega
      case rel => exact ⟨(x6_1), (x7_1), (x8_1), (wrap64 (x17_1 + 1)), ey, ey, ey, ey, H', ⟨by have := HK1.out; omega⟩, ⟨Z BK367⟩, ⟨Z BK368⟩, ⟨Z BK369⟩, ⟨Y4 HB GE367 GE368 GE369 GE374⟩⟩
     replace c14 := Bool.eq_false_iff.mpr c14
     subst c14
     rw [if_neg (show ¬ (false = true) by decide)] at H
     replace H := Option.bind_eq_some_iff.mp H
     obtain ⟨⟨t376, t377⟩, A210, H⟩ := H
     try dsimp only at H
     have A21 := am A210
     clear A210
     by_cases c22 : x8_1 = true
     rotate_left
     ·replace c22 := Bool.eq_false_iff.mpr c22
      subst c22
      rw [if_neg (show ¬ (false = true) by decide)] at H
      have H' := am H
      clear H
      go_wp2_with (first | ((with_reducible refine gate_dst (N := 10) rfl ?_); refine bx 10 #[.int .i64 0, .int .i64 0] 24 ?_; intro gb374 hg w36 hbox hb; have BK374 := am (hbox); have GW374 := am (bs hg (Y3 HB GE367 GE368 GE369)); have GE374 := am (bs hg (Y3 HB GE367 GE368 GE369)); obtain ⟨NB367_374,NB374_367⟩ := ne_ hg BK367; obtain ⟨NB368_374,NB374_368⟩ := ne_ hg BK368; obtain ⟨NB369_374,NB374_369⟩ := ne_ hg BK369; replace BK367 := bb BK367 hb; replace BK368 := bb BK368 hb; replace BK369 := bb BK369 hb; replace HB := am (below_step (Y3 HB GE367 GE368 GE369) hb); clear hb hbox hg; obtain ⟨hnb37,hnc37⟩ := nn NB374_367; obtain ⟨hnb38,hnc38⟩ := nn NB374_368; obtain ⟨hnb39,hnc39⟩ := nn NB374_369; obtain ⟨hcz40_0,hcz40_1,hfz40_0,hfz40_1⟩ := c2 BK374) | ((with_reducible refine gate_callee (f := 47) rfl ?_); refine goesL_ (some 21) rfl rfl Try.func47 (by kernel_rfl) rfl #[.agg #[.int .i64 t370, .int .i64 t371]] rfl mz ?_; (with_reducible refine (impl_Range_empty.calls t370 t371 false _ A13.out).mono ?_); rintro e w41 ⟨rfl, hb⟩; refine ⟨_, rfl, ?_⟩; replace BK367 := am (blk_below (g := gb367) (o := b2 a0_0 a0_1 24) (by refine fa NB367_374 ?_; refine fa NB367_374 ?_; exact Z BK367) hb); replace BK368 := am (blk_below (g := gb368) (o := b2 a1_0 a1_1 24) (by refine fa NB368_374 ?_; refine fa NB368_374 ?_; exact Z BK368) hb); replace BK369 := am (blk_below (g := gb369) (o := b2 0 0 24) (by refine fa NB369_374 ?_; refine fa NB369_374 ?_; exact Z BK369) hb); replace BK374 := am (blk_below (g := gb374) (o := b2 t370 t371 24) (by refine pf ?_; refine blk_put (cs := #[.int .i64 t370, .int .i64 0]) ?_ 1 _ rfl; refine pf ?_; refine blk_put (cs := #[.int .i64 0, .int .i64 0]) ?_ 0 _ rfl; exact Z BK374) hb); replace HB := am (below_step (Y4 HB GE367 GE368 GE369 GE374) hb); (try clear hb); obtain ⟨hnb42,hnc42⟩ := nn NB367_368; obtain ⟨hnb43,hnc43⟩ := nn NB367_369; obtain ⟨hcz44_0,hcz44_1,hfz44_0,hfz44_1⟩ := c2 BK367; obtain ⟨hcz45_0,hcz45_1,hfz45_0,hfz45_1⟩ := c2 BK374) | ((with_reducible refine gate_callee (f := 49) rfl ?_); refine goesL_ (some 25) rfl rfl Try.func49 (by kernel_rfl) rfl #[.int .i64 4, .agg #[.int .i64 a0_0, .int .i64 a0_1], .agg #[.int .i64 t370, .int .i64 t371]] rfl mz ?_; (with_reducible refine (impl_rangeCorners.calls k1 4 a0_0 a0_1 t370 t371 t376 t377 _ A21.out).mono ?_); rintro e w46 ⟨rfl, hb⟩; refine ⟨_, rfl, ?_⟩; replace BK367 := bb BK367 hb; replace BK368 := bb BK368 hb; replace BK369 := bb BK369 hb; replace BK374 := bb BK374 hb; replace HB := am (below_step (Y4 HB GE367 GE368 GE369 GE374) hb); (try clear hb)))
      go_roundg k1
      case measure => have := HK1.out; omega
      case rel => exact ⟨(t376), (t377), (true), (wrap64 (x17_1 + 1)), ey, ey, ey, ey, H', ⟨by have := HK1.out; omega⟩, ⟨Z BK367⟩, ⟨Z BK368⟩, ⟨Z BK369⟩, ⟨Y4 HB GE367 GE368 GE369 GE374⟩⟩
     subst c22
     rw [if_pos rfl] at H
     obtain ⟨ji23, hji23⟩ : ∃ j_ : Int, (mn t376 x6_1) = j_ := ⟨_, rfl⟩
     replace H : (impl_rangeDiv.l0 k1 ji23 (mx t377 x7_1) true (wrap64 (x17_1 + 1)) a0_0 a0_1 a1_0 a1_1 t370 t371 t372 t373) = some (r1, r2, r3) := by first | (rw [hji23] at H; exact H) | (simp only [hji23] at H ⊢; exact H)
     (try rw [hji23] at A13)
     (try rw [hji23] at A21)
     have hji23_ : (if x6_1 < t376 then x6_1 else t376) = ji23 := hji23
     obtain ⟨ji24, hji24⟩ : ∃ j_ : Int, (mx t377 x7_1) = j_ := ⟨_, rfl⟩
     replace H : (impl_rangeDiv.l0 k1 ji23 ji24 true (wrap64 (x17_1 + 1)) a0_0 a0_1 a1_0 a1_1 t370 t371 t372 t373) = some (r1, r2, r3) := by first | (rw [hji24] at H; exact H) | (simp only [hji24] at H ⊢; exact H)
     (try rw [hji24] at A13)
     (try rw [hji24] at A21)
     have hji24_ : (if t377 < x7_1 then x7_1 else t377) = ji24 := hji24
     have H' := am H
     clear H
     go_wp2_with (first | ((with_reducible refine gate_dst (N := 10) rfl ?_); refine bx 10 #[.int .i64 0, .int .i64 0] 24 ?_; intro gb374 hg w25 hbox hb; have BK374 := am (hbox); have GW374 := am (bs hg (Y3 HB GE367 GE368 GE369)); have GE374 := am (bs hg (Y3 HB GE367 GE368 GE369)); obtain ⟨NB367_374,NB374_367⟩ := ne_ hg BK367; obtain ⟨NB368_374,NB374_368⟩ := ne_ hg BK368; obtain ⟨NB369_374,NB374_369⟩ := ne_ hg BK369; replace BK367 := bb BK367 hb; replace BK368 := bb BK368 hb; replace BK369 := bb BK369 hb; replace HB := am (below_step (Y3 HB GE367 GE368 GE369) hb); clear hb hbox hg; obtain ⟨hnb26,hnc26⟩ := nn NB374_367; obtain ⟨hnb27,hnc27⟩ := nn NB374_368; obtain ⟨hnb28,hnc28⟩ := nn NB374_369; obtain ⟨hcz29_0,hcz29_1,hfz29_0,hfz29_1⟩ := c2 BK374) | ((with_reducible refine gate_callee (f := 47) rfl ?_); refine goesL_ (some 21) rfl rfl Try.func47 (by kernel_rfl) rfl #[.agg #[.int .i64 t370, .int .i64 t371]] rfl mz ?_; (with_reducible refine (impl_Range_empty.calls t370 t371 false _ A13.out).mono ?_); rintro e w30 ⟨rfl, hb⟩; refine ⟨_, rfl, ?_⟩; replace BK367 := am (blk_below (g := gb367) (o := b2 a0_0 a0_1 24) (by refine fa NB367_374 ?_; refine fa NB367_374 ?_; exact Z BK367) hb); replace BK368 := am (blk_below (g := gb368) (o := b2 a1_0 a1_1 24) (by refine fa NB368_374 ?_; refine fa NB368_374 ?_; exact Z BK368) hb); replace BK369 := am (blk_below (g := gb369) (o := b2 0 0 24) (by refine fa NB369_374 ?_; refine fa NB369_374 ?_; exact Z BK369) hb); replace BK374 := am (blk_below (g := gb374) (o := b2 t370 t371 24) (by refine pf ?_; refine blk_put (cs := #[.int .i64 t370, .int .i64 0]) ?_ 1 _ rfl; refine pf ?_; refine blk_put (cs := #[.int .i64 0, .int .i64 0]) ?_ 0 _ rfl; exact Z BK374) hb); replace HB := am (below_step (Y4 HB GE367 GE368 GE369 GE374) hb); (try clear hb); obtain ⟨hnb31,hnc31⟩ := nn NB367_368; obtain ⟨hnb32,hnc32⟩ := nn NB367_369; obtain ⟨hcz33_0,hcz33_1,hfz33_0,hfz33_1⟩ := c2 BK367; obtain ⟨hcz34_0,hcz34_1,hfz34_0,hfz34_1⟩ := c2 BK374) | ((with_reducible refine gate_callee (f := 49) rfl ?_); refine goesL_ (some 25) rfl rfl Try.func49 (by kernel_rfl) rfl #[.int .i64 4, .agg #[.int .i64 a0_0, .int .i64 a0_1], .agg #[.int .i64 t370, .int .i64 t371]] rfl mz ?_; (with_reducible refine (impl_rangeCorners.calls k1 4 a0_0 a0_1 t370 t371 t376 t377 _ A21.out).mono ?_); rintro e w35 ⟨rfl, hb⟩; refine ⟨_, rfl, ?_⟩; replace BK367 := bb BK367 hb; replace BK368 := bb BK368 hb; replace BK369 := bb BK369 hb; replace BK374 := bb BK374 hb; replace HB := am (below_step (Y4 HB GE367 GE368 GE369 GE374) hb); (try clear hb)))
     go_roundg k1
     case measure => have := HK1.out; omega
     case rel => exact ⟨(ji23), (ji24), (true), (wrap64 (x17_1 + 1)), (by first | rfl | (simp; done) | (simp only [← hji23] <;> (first | rfl | simp)) | (simp [*]; done)), (by first | rfl | (simp; done) | (simp only [← hji24] <;> (first | rfl | simp)) | (simp [*]; done)), ey, ey, H', ⟨by have := HK1.out; omega⟩, ⟨Z BK367⟩, ⟨Z BK368⟩, ⟨Z BK369⟩, ⟨Y4 HB GE367 GE368 GE369 GE374⟩⟩
    rw [if_neg c12] at H
    have c12b0 : (x17_1 == 0) = false := beq_eq_false_iff_ne.mpr c12
    have c12b1 : (x17_1 != 0) = true := bne_iff_ne.mpr c12
    by_cases c47 : x17_1 = 1
    rotate_left
    ·rw [if_neg c47] at H
     exact absurd H (by simp)
    rw [if_pos c47] at H
    have hix47 : ∀ w', (Instr.index 96 (.agg #[.int .i64 t370, .int .i64 t371, .int .i64 t372, .int .i64 t373]) (.int .i64 x17_1)).run Try.prog w' = .ok (.agg #[.int .i64 t372, .int .i64 t373]) w' := by intro w'; rw [c47]; first | (go_simp; done) | (go_simp; rfl) | rfl
    have c47b0 : (x17_1 == 1) = true := beq_iff_eq.mpr c47
    have c47b1 : (x17_1 != 1) = false := bne_eq_false_iff_eq.mpr c47
    clear c47
    replace H := Option.bind_eq_some_iff.mp H
    obtain ⟨t379, A480, H⟩ := H
    try dsimp only at H
    have A48 := am A480
    clear A480
    by_cases c49 : t379 = true
    ·subst c49
     rw [if_pos rfl] at H
     have H' := am H
     clear H
     go_wp2_with (first | ((with_reducible refine gate_dst (N := 10) rfl ?_); refine bx 10 #[.int .i64 0, .int .i64 0] 24 ?_; intro gb378 hg w50 hbox hb; have BK378 := am (hbox); have GW378 := am (bs hg (Y3 HB GE367 GE368 GE369)); have GE378 := am (bs hg (Y3 HB GE367 GE368 GE369)); obtain ⟨NB367_378,NB378_367⟩ := ne_ hg BK367; obtain ⟨NB368_378,NB378_368⟩ := ne_ hg BK368; obtain ⟨NB369_378,NB378_369⟩ := ne_ hg BK369; replace BK367 := bb BK367 hb; replace BK368 := bb BK368 hb; replace BK369 := bb BK369 hb; replace HB := am (below_step (Y3 HB GE367 GE368 GE369) hb); clear hb hbox hg; obtain ⟨hnb51,hnc51⟩ := nn NB378_367; obtain ⟨hnb52,hnc52⟩ := nn NB378_368; obtain ⟨hnb53,hnc53⟩ := nn NB378_369; obtain ⟨hcz54_0,hcz54_1,hfz54_0,hfz54_1⟩ := c2 BK378) | ((with_reducible refine gate_callee (f := 47) rfl ?_); refine goesL_ (some 21) rfl rfl Try.func47 (by kernel_rfl) rfl #[.agg #[.int .i64 t372, .int .i64 t373]] rfl mz ?_; (with_reducible refine (impl_Range_empty.calls t372 t373 true _ A48.out).mono ?_); rintro e w55 ⟨rfl, hb⟩; refine ⟨_, rfl, ?_⟩; replace BK367 := am (blk_below (g := gb367) (o := b2 a0_0 a0_1 24) (by refine fa NB367_378 ?_; refine fa NB367_378 ?_; exact Z BK367) hb); replace BK368 := am (blk_below (g := gb368) (o := b2 a1_0 a1_1 24) (by refine fa NB368_378 ?_; refine fa NB368_378 ?_; exact Z BK368) hb); replace BK369 := am (blk_below (g := gb369) (o := b2 0 0 24) (by refine fa NB369_378 ?_; refine fa NB369_378 ?_; exact Z BK369) hb); replace BK378 := am (blk_below (g := gb378) (o := b2 t372 t373 24) (by refine pf ?_; refine blk_put (cs := #[.int .i64 t372, .int .i64 0]) ?_ 1 _ rfl; refine pf ?_; refine blk_put (cs := #[.int .i64 0, .int .i64 0]) ?_ 0 _ rfl; exact Z BK378) hb); replace HB := am (below_step (Y4 HB GE367 GE368 GE369 GE378) hb); (try clear hb)))
     go_roundg k1
     case measure => have := HK1.out; omega
     case rel => exact ⟨(x6_1), (x7_1), (x8_1), (wrap64 (x17_1 + 1)), ey, ey, ey, ey, H', ⟨by have := HK1.out; omega⟩, ⟨Z BK367⟩, ⟨Z BK368⟩, ⟨Z BK369⟩, ⟨Y4 HB GE367 GE368 GE369 GE378⟩⟩
    replace c49 := Bool.eq_false_iff.mpr c49
    subst c49
    rw [if_neg (show ¬ (false = true) by decide)] at H
    replace H := Option.bind_eq_some_iff.mp H
    obtain ⟨⟨t380, t381⟩, A560, H⟩ := H
    try dsimp only at H
    have A56 := am A560
    clear A560
    by_cases c57 : x8_1 = true
    rotate_left
    ·replace c57 := Bool.eq_false_iff.mpr c57
     subst c57
     rw [if_neg (show ¬ (false = true) by decide)] at H
     have H' := am H
     clear H
     go_wp2_with (first | ((with_reducible refine gate_dst (N := 10) rfl ?_); refine bx 10 #[.int .i64 0, .int .i64 0] 24 ?_; intro gb378 hg w71 hbox hb; have BK378 := am (hbox); have GW378 := am (bs hg (Y3 HB GE367 GE368 GE369)); have GE378 := am (bs hg (Y3 HB GE367 GE368 GE369)); obtain ⟨NB367_378,NB378_367⟩ := ne_ hg BK367; obtain ⟨NB368_378,NB378_368⟩ := ne_ hg BK368; obtain ⟨NB369_378,NB378_369⟩ := ne_ hg BK369; replace BK367 := bb BK367 hb; replace BK368 := bb BK368 hb; replace BK369 := bb BK369 hb; replace HB := am (below_step (Y3 HB GE367 GE368 GE369) hb); clear hb hbox hg; obtain ⟨hnb72,hnc72⟩ := nn NB378_367; obtain ⟨hnb73,hnc73⟩ := nn NB378_368; obtain ⟨hnb74,hnc74⟩ := nn NB378_369; obtain ⟨hcz75_0,hcz75_1,hfz75_0,hfz75_1⟩ := c2 BK378) | ((with_reducible refine gate_callee (f := 47) rfl ?_); refine goesL_ (some 21) rfl rfl Try.func47 (by kernel_rfl) rfl #[.agg #[.int .i64 t372, .int .i64 t373]] rfl mz ?_; (with_reducible refine (impl_Range_empty.calls t372 t373 false _ A48.out).mono ?_); rintro e w76 ⟨rfl, hb⟩; refine ⟨_, rfl, ?_⟩; replace BK367 := am (blk_below (g := gb367) (o := b2 a0_0 a0_1 24) (by refine fa NB367_378 ?_; refine fa NB367_378 ?_; exact Z BK367) hb); replace BK368 := am (blk_below (g := gb368) (o := b2 a1_0 a1_1 24) (by refine fa NB368_378 ?_; refine fa NB368_378 ?_; exact Z BK368) hb); replace BK369 := am (blk_below (g := gb369) (o := b2 0 0 24) (by refine fa NB369_378 ?_; refine fa NB369_378 ?_; exact Z BK369) hb); replace BK378 := am (blk_below (g := gb378) (o := b2 t372 t373 24) (by refine pf ?_; refine blk_put (cs := #[.int .i64 t372, .int .i64 0]) ?_ 1 _ rfl; refine pf ?_; refine blk_put (cs := #[.int .i64 0, .int .i64 0]) ?_ 0 _ rfl; exact Z BK378) hb); replace HB := am (below_step (Y4 HB GE367 GE368 GE369 GE378) hb); (try clear hb); obtain ⟨hnb77,hnc77⟩ := nn NB367_368; obtain ⟨hnb78,hnc78⟩ := nn NB367_369; obtain ⟨hcz79_0,hcz79_1,hfz79_0,hfz79_1⟩ := c2 BK367; obtain ⟨hcz80_0,hcz80_1,hfz80_0,hfz80_1⟩ := c2 BK378) | ((with_reducible refine gate_callee (f := 49) rfl ?_); refine goesL_ (some 25) rfl rfl Try.func49 (by kernel_rfl) rfl #[.int .i64 4, .agg #[.int .i64 a0_0, .int .i64 a0_1], .agg #[.int .i64 t372, .int .i64 t373]] rfl mz ?_; (with_reducible refine (impl_rangeCorners.calls k1 4 a0_0 a0_1 t372 t373 t380 t381 _ A56.out).mono ?_); rintro e w81 ⟨rfl, hb⟩; refine ⟨_, rfl, ?_⟩; replace BK367 := bb BK367 hb; replace BK368 := bb BK368 hb; replace BK369 := bb BK369 hb; replace BK378 := bb BK378 hb; replace HB := am (below_step (Y4 HB GE367 GE368 GE369 GE378) hb); (try clear hb)))
     go_roundg k1
     case measure => have := HK1.out; omega
     case rel => exact ⟨(t380), (t381), (true), (wrap64 (x17_1 + 1)), ey, ey, ey, ey, H', ⟨by have := HK1.out; omega⟩, ⟨Z BK367⟩, ⟨Z BK368⟩, ⟨Z BK369⟩, ⟨Y4 HB GE367 GE368 GE369 GE378⟩⟩
    subst c57
    rw [if_pos rfl] at H
    obtain ⟨ji58, hji58⟩ : ∃ j_ : Int, (mn t380 x6_1) = j_ := ⟨_, rfl⟩
    replace H : (impl_rangeDiv.l0 k1 ji58 (mx t381 x7_1) true (wrap64 (x17_1 + 1)) a0_0 a0_1 a1_0 a1_1 t370 t371 t372 t373) = some (r1, r2, r3) := by first | (rw [hji58] at H; exact H) | (simp only [hji58] at H ⊢; exact H)
    (try rw [hji58] at A48)
    (try rw [hji58] at A56)
    have hji58_ : (if x6_1 < t380 then x6_1 else t380) = ji58 := hji58
    obtain ⟨ji59, hji59⟩ : ∃ j_ : Int, (mx t381 x7_1) = j_ := ⟨_, rfl⟩
    replace H : (impl_rangeDiv.l0 k1 ji58 ji59 true (wrap64 (x17_1 + 1)) a0_0 a0_1 a1_0 a1_1 t370 t371 t372 t373) = some (r1, r2, r3) := by first | (rw [hji59] at H; exact H) | (simp only [hji59] at H ⊢; exact H)
    (try rw [hji59] at A48)
    (try rw [hji59] at A56)
    have hji59_ : (if t381 < x7_1 then x7_1 else t381) = ji59 := hji59
    have H' := am H
    clear H
    go_wp2_with (first | ((with_reducible refine gate_dst (N := 10) rfl ?_); refine bx 10 #[.int .i64 0, .int .i64 0] 24 ?_; intro gb378 hg w60 hbox hb; have BK378 := am (hbox); have GW378 := am (bs hg (Y3 HB GE367 GE368 GE369)); have GE378 := am (bs hg (Y3 HB GE367 GE368 GE369)); obtain ⟨NB367_378,NB378_367⟩ := ne_ hg BK367; obtain ⟨NB368_378,NB378_368⟩ := ne_ hg BK368; obtain ⟨NB369_378,NB378_369⟩ := ne_ hg BK369; replace BK367 := bb BK367 hb; replace BK368 := bb BK368 hb; replace BK369 := bb BK369 hb; replace HB := am (below_step (Y3 HB GE367 GE368 GE369) hb); clear hb hbox hg; obtain ⟨hnb61,hnc61⟩ := nn NB378_367; obtain ⟨hnb62,hnc62⟩ := nn NB378_368; obtain ⟨hnb63,hnc63⟩ := nn NB378_369; obtain ⟨hcz64_0,hcz64_1,hfz64_0,hfz64_1⟩ := c2 BK378) | ((with_reducible refine gate_callee (f := 47) rfl ?_); refine goesL_ (some 21) rfl rfl Try.func47 (by kernel_rfl) rfl #[.agg #[.int .i64 t372, .int .i64 t373]] rfl mz ?_; (with_reducible refine (impl_Range_empty.calls t372 t373 false _ A48.out).mono ?_); rintro e w65 ⟨rfl, hb⟩; refine ⟨_, rfl, ?_⟩; replace BK367 := am (blk_below (g := gb367) (o := b2 a0_0 a0_1 24) (by refine fa NB367_378 ?_; refine fa NB367_378 ?_; exact Z BK367) hb); replace BK368 := am (blk_below (g := gb368) (o := b2 a1_0 a1_1 24) (by refine fa NB368_378 ?_; refine fa NB368_378 ?_; exact Z BK368) hb); replace BK369 := am (blk_below (g := gb369) (o := b2 0 0 24) (by refine fa NB369_378 ?_; refine fa NB369_378 ?_; exact Z BK369) hb); replace BK378 := am (blk_below (g := gb378) (o := b2 t372 t373 24) (by refine pf ?_; refine blk_put (cs := #[.int .i64 t372, .int .i64 0]) ?_ 1 _ rfl; refine pf ?_; refine blk_put (cs := #[.int .i64 0, .int .i64 0]) ?_ 0 _ rfl; exact Z BK378) hb); replace HB := am (below_step (Y4 HB GE367 GE368 GE369 GE378) hb); (try clear hb); obtain ⟨hnb66,hnc66⟩ := nn NB367_368; obtain ⟨hnb67,hnc67⟩ := nn NB367_369; obtain ⟨hcz68_0,hcz68_1,hfz68_0,hfz68_1⟩ := c2 BK367; obtain ⟨hcz69_0,hcz69_1,hfz69_0,hfz69_1⟩ := c2 BK378) | ((with_reducible refine gate_callee (f := 49) rfl ?_); refine goesL_ (some 25) rfl rfl Try.func49 (by kernel_rfl) rfl #[.int .i64 4, .agg #[.int .i64 a0_0, .int .i64 a0_1], .agg #[.int .i64 t372, .int .i64 t373]] rfl mz ?_; (with_reducible refine (impl_rangeCorners.calls k1 4 a0_0 a0_1 t372 t373 t380 t381 _ A56.out).mono ?_); rintro e w70 ⟨rfl, hb⟩; refine ⟨_, rfl, ?_⟩; replace BK367 := bb BK367 hb; replace BK368 := bb BK368 hb; replace BK369 := bb BK369 hb; replace BK378 := bb BK378 hb; replace HB := am (below_step (Y4 HB GE367 GE368 GE369 GE378) hb); (try clear hb)))
    go_roundg k1
    case measure => have := HK1.out; omega
    case rel => exact ⟨(ji58), (ji59), (true), (wrap64 (x17_1 + 1)), (by first | rfl | (simp; done) | (simp only [← hji58] <;> (first | rfl | simp)) | (simp [*]; done)), (by first | rfl | (simp; done) | (simp only [← hji59] <;> (first | rfl | simp)) | (simp [*]; done)), ey, ey, H', ⟨by have := HK1.out; omega⟩, ⟨Z BK367⟩, ⟨Z BK368⟩, ⟨Z BK369⟩, ⟨Y4 HB GE367 GE368 GE369 GE378⟩⟩
   rw [if_neg c11] at H
   have c11b0 : decide (x17_1 < 2) = false := decide_eq_false c11
   clear c11
   replace H := Option.bind_eq_some_iff.mp H
   obtain ⟨⟨t382, t383⟩, A820, H⟩ := H
   try dsimp only at H
   have A82 := am A820
   clear A820
   have HC83 := am H
   clear H
   go_upto_if 39 with (first | ((with_reducible refine gate_callee (f := 48) rfl ?_); refine goesL_ (some 38) rfl rfl Try.func48 (by kernel_rfl) rfl #[] rfl mz ?_; (with_reducible refine (impl_rangeNone.calls  t382 t383 _ A82.out).mono ?_); rintro e w84 ⟨rfl, hb⟩; refine ⟨_, rfl, ?_⟩; replace BK367 := bb BK367 hb; replace BK368 := bb BK368 hb; replace BK369 := bb BK369 hb; replace HB := am (below_step (Y3 HB GE367 GE368 GE369) hb); (try clear hb)) | ((with_reducible refine gate_dst (N := 13) rfl ?_); refine bx 13 #[.int .i64 0, .int .i64 0] 24 ?_; intro gb384 hg w85 hbox hb; have BK384 := am (hbox); have GW384 := am (bs hg (Y3 HB GE367 GE368 GE369)); have GE384 := am (bs hg (Y3 HB GE367 GE368 GE369)); obtain ⟨NB367_384,NB384_367⟩ := ne_ hg BK367; obtain ⟨NB368_384,NB384_368⟩ := ne_ hg BK368; obtain ⟨NB369_384,NB384_369⟩ := ne_ hg BK369; replace BK367 := bb BK367 hb; replace BK368 := bb BK368 hb; replace BK369 := bb BK369 hb; replace HB := am (below_step (Y3 HB GE367 GE368 GE369) hb); clear hb hbox hg; obtain ⟨hnb86,hnc86⟩ := nn NB384_367; obtain ⟨hnb87,hnc87⟩ := nn NB384_368; obtain ⟨hnb88,hnc88⟩ := nn NB384_369; obtain ⟨hcz89_0,hcz89_1,hfz89_0,hfz89_1⟩ := c2 BK384))
   (try simp only [Act.put, List.setIfInBounds_toArray, List.set_cons_zero, List.set_cons_succ])
   go_cut [] (fun wc => ∃ (kq : Nat) (x385000_82 : Int) (x385001_82 : Int), Aside0 (impl_rangeDiv.j1 kq a0_0 a0_1 a1_0 a1_1 x385000_82 x385001_82 = some (r1, r2, r3)) ∧ Aside0 (kq ≤ k1) ∧ Aside0 (wc.heap[gb367]? = some (.cells #[.int .i64 a0_0, .int .i64 a0_1] 24 (0, 0))) ∧ Aside0 (wc.heap[gb368]? = some (.cells #[.int .i64 a1_0, .int .i64 a1_1] 24 (0, 0))) ∧ Aside0 (wc.heap[gb369]? = some (.cells #[.int .i64 0, .int .i64 0] 24 (0, 0))) ∧ Aside0 (wc.heap[gb384]? = some (.cells #[.int .i64 x385000_82, .int .i64 x385001_82] 24 (0, 0))) ∧ Aside0 (Below w.heap.size w wc))
   case first =>
    have H := HC83.out
    clear HC83
    by_cases c90 : x8_1 = true
    rotate_left
    ·replace c90 := Bool.eq_false_iff.mpr c90
     subst c90
     rw [if_neg (show ¬ (false = true) by decide)] at H
     have H' := am H
     clear H
     go_wp2
     go_meet
     case rel => exact ⟨_, (t382), (t383), H', ⟨by have := HK1.out; first | omega | exact Nat.le_refl _⟩, ⟨by refine fa NB367_384 ?_; refine fa NB367_384 ?_; exact Z BK367⟩, ⟨by refine fa NB368_384 ?_; refine fa NB368_384 ?_; exact Z BK368⟩, ⟨by refine fa NB369_384 ?_; refine fa NB369_384 ?_; exact Z BK369⟩, ⟨by refine pf ?_; refine blk_put (cs := #[.int .i64 t382, .int .i64 0]) ?_ 1 _ rfl; refine pf ?_; refine blk_put (cs := #[.int .i64 0, .int .i64 0]) ?_ 0 _ rfl; exact Z BK384⟩, ⟨Y4 HB GE367 GE368 GE369 GE384⟩⟩
    subst c90
    rw [if_pos rfl] at H
    replace H := Option.bind_eq_some_iff.mp H
    obtain ⟨⟨t385, t386⟩, A910, H⟩ := H
    try dsimp only at H
    have A91 := am A910
    clear A910
    have H' := am H
    clear H
    go_wp2_with (first | ((with_reducible refine gate_callee (f := 50) rfl ?_); refine goesL_ (some 42) rfl rfl Try.func50 (by kernel_rfl) rfl #[.int .i64 x6_1, .int .i64 x7_1] rfl mz ?_; (with_reducible refine (impl_rangeFrom.calls x6_1 x7_1 t385 t386 _ A91.out).mono ?_); rintro e w92 ⟨rfl, hb⟩; refine ⟨_, rfl, ?_⟩; replace BK367 := am (blk_below (g := gb367) (o := b2 a0_0 a0_1 24) (by refine fa NB367_384 ?_; refine fa NB367_384 ?_; exact Z BK367) hb); replace BK368 := am (blk_below (g := gb368) (o := b2 a1_0 a1_1 24) (by refine fa NB368_384 ?_; refine fa NB368_384 ?_; exact Z BK368) hb); replace BK369 := am (blk_below (g := gb369) (o := b2 0 0 24) (by refine fa NB369_384 ?_; refine fa NB369_384 ?_; exact Z BK369) hb); replace BK384 := am (blk_below (g := gb384) (o := b2 t382 t383 24) (by refine pf ?_; refine blk_put (cs := #[.int .i64 t382, .int .i64 0]) ?_ 1 _ rfl; refine pf ?_; refine blk_put (cs := #[.int .i64 0, .int .i64 0]) ?_ 0 _ rfl; exact Z BK384) hb); replace HB := am (below_step (Y4 HB GE367 GE368 GE369 GE384) hb); (try clear hb); obtain ⟨hnb93,hnc93⟩ := nn NB384_367; obtain ⟨hnb94,hnc94⟩ := nn NB384_368; obtain ⟨hnb95,hnc95⟩ := nn NB384_369; obtain ⟨hcz96_0,hcz96_1,hfz96_0,hfz96_1⟩ := c2 BK384))
    go_meet
    case rel => exact ⟨_, (t385), (t386), H', ⟨by have := HK1.out; first | omega | exact Nat.le_refl _⟩, ⟨by refine fa NB367_384 ?_; refine fa NB367_384 ?_; exact Z BK367⟩, ⟨by refine fa NB368_384 ?_; refine fa NB368_384 ?_; exact Z BK368⟩, ⟨by refine fa NB369_384 ?_; refine fa NB369_384 ?_; exact Z BK369⟩, ⟨by refine pf ?_; refine blk_put (cs := #[.int .i64 t385, .int .i64 t383]) ?_ 1 _ rfl; refine pf ?_; refine blk_put (cs := #[.int .i64 t382, .int .i64 t383]) ?_ 0 _ rfl; exact Z BK384⟩, ⟨Y4 HB GE367 GE368 GE369 GE384⟩⟩
   case rest =>
    clear HC83
    (try clear c11b0);(try clear hcz89_0);(try clear hcz89_1);(try clear hfz89_0);(try clear hfz89_1)
    obtain ⟨kq, x385000_82, x385001_82, HA, HJ82, BK367, BK368, BK369, BK384, HB⟩ := hcut
    cases kq with
    | zero => exact absurd HA.out (by simp [impl_rangeDiv.j1])
    | succ kj82 =>
     have H := HA.out
     clear HA
     simp only [impl_rangeDiv.j1] at H
     have HC97 := am H
     clear H
     go_upto_region 15 with (fail)
     go_cut [48] (fun v48 wc => ∃ (kq : Nat) (x48_96 : Bool), v48 = .bool x48_96 ∧ Aside0 (impl_rangeDiv.j2 kq ([] : List Int) x48_96 a1_0 a1_1 x385000_82 x385001_82 = some (r1, r2, r3)) ∧ Aside0 (kq ≤ kj82) ∧ Aside0 (Kd.R (Kd.int .i64) 3 wc w.heap.size (fun _ => True) (.slice none 0 0) ([] : List Int)) ∧ Aside0 (wc.heap[gb367]? = some (.cells #[.int .i64 a0_0, .int .i64 a0_1] 24 (0, 0))) ∧ Aside0 (wc.heap[gb368]? = some (.cells #[.int .i64 a1_0, .int .i64 a1_1] 24 (0, 0))) ∧ Aside0 (wc.heap[gb369]? = some (.cells #[.int .i64 0, .int .i64 0] 24 (0, 0))) ∧ Aside0 (wc.heap[gb384]? = some (.cells #[.int .i64 x385000_82, .int .i64 x385001_82] 24 (0, 0))) ∧ Aside0 (Below w.heap.size w wc))
     case first =>
      have H := HC97.out
      clear HC97
      replace H := Option.bind_eq_some_iff.mp H
      obtain ⟨t387, A980, H⟩ := H
      try dsimp only at H
      have A98 := am A980
      clear A980
      by_cases c99 : t387 = true
      rotate_left
      ·replace c99 := Bool.eq_false_iff.mpr c99
       subst c99
       rw [if_neg (show ¬ (false = true) by decide)] at H
       have H' := am H
       clear H
       obtain ⟨hnb110,hnc110⟩ := nn NB367_368
       obtain ⟨hnb111,hnc111⟩ := nn NB367_369
       obtain ⟨hnb112,hnc112⟩ := nn NB367_384
       obtain ⟨hcz113_0,hcz113_1,hfz113_0,hfz113_1⟩ := c2 BK367
       go_wp2_with (first | ((with_reducible refine gate_callee (f := 95) rfl ?_); refine goesL_ (some 44) rfl rfl Try.func95 (by kernel_rfl) rfl #[.agg #[.int .i64 a0_0, .int .i64 a0_1], .int .i64 (-2147483648)] rfl mz ?_; (with_reducible refine (impl_RangeHas.calls a0_0 a0_1 (-2147483648) false _ A98.out).mono ?_); rintro e w114 ⟨rfl, hb⟩; refine ⟨_, rfl, ?_⟩; replace BK367 := bb BK367 hb; replace BK368 := bb BK368 hb; replace BK369 := bb BK369 hb; replace BK384 := bb BK384 hb; replace HB := am (below_step (Y4 HB GE367 GE368 GE369 GE384) hb); (try clear hb)))
       go_meet
       case rel => exact ⟨_, (false), ey, H', ⟨by have := HK1.out; have := HJ82.out; first | omega | exact Nat.le_refl _⟩, ⟨by first | exact Kd.R_nil _ _ _ _ _ | exact Kd.N_nil _ _ _ _ _ | exact Kd.V_nil _ _ _ _ _ | exact Kd.Q_nil _ _ _ _ _ | exact Kd.S_nil _ _ _ _ _⟩, ⟨Z BK367⟩, ⟨Z BK368⟩, ⟨Z BK369⟩, ⟨Z BK384⟩, ⟨Y4 HB GE367 GE368 GE369 GE384⟩⟩
      subst c99
      rw [if_pos rfl] at H
      replace H := Option.bind_eq_some_iff.mp H
      obtain ⟨t388, A1000, H⟩ := H
      try dsimp only at H
      have A100 := am A1000
      clear A1000
      have H' := am H
      clear H
      obtain ⟨hnb101,hnc101⟩ := nn NB367_368
      obtain ⟨hnb102,hnc102⟩ := nn NB367_369
      obtain ⟨hnb103,hnc103⟩ := nn NB367_384
      obtain ⟨hcz104_0,hcz104_1,hfz104_0,hfz104_1⟩ := c2 BK367
      go_wp2_with (first | ((with_reducible refine gate_callee (f := 95) rfl ?_); refine goesL_ (some 44) rfl rfl Try.func95 (by kernel_rfl) rfl #[.agg #[.int .i64 a0_0, .int .i64 a0_1], .int .i64 (-2147483648)] rfl mz ?_; (with_reducible refine (impl_RangeHas.calls a0_0 a0_1 (-2147483648) true _ A98.out).mono ?_); rintro e w105 ⟨rfl, hb⟩; refine ⟨_, rfl, ?_⟩; replace BK367 := bb BK367 hb; replace BK368 := bb BK368 hb; replace BK369 := bb BK369 hb; replace BK384 := bb BK384 hb; replace HB := am (below_step (Y4 HB GE367 GE368 GE369 GE384) hb); (try clear hb); obtain ⟨hnb106,hnc106⟩ := nn NB368_369; obtain ⟨hnb107,hnc107⟩ := nn NB368_384; obtain ⟨hcz108_0,hcz108_1,hfz108_0,hfz108_1⟩ := c2 BK368) | (go_at_call 95; (with_reducible refine (impl_RangeHas.calls a1_0 a1_1 (-1) t388 _ A100.out).mono ?_); rintro e w109 ⟨rfl, hb⟩; replace BK367 := bb BK367 hb; replace BK368 := bb BK368 hb; replace BK369 := bb BK369 hb; replace BK384 := bb BK384 hb; replace HB := am (below_step (Y4 HB GE367 GE368 GE369 GE384) hb); (try clear hb)))
      go_meet
      case rel => exact ⟨_, (t388), ey, H', ⟨by have := HK1.out; have := HJ82.out; first | omega | exact Nat.le_refl _⟩, ⟨by first | exact Kd.R_nil _ _ _ _ _ | exact Kd.N_nil _ _ _ _ _ | exact Kd.V_nil _ _ _ _ _ | exact Kd.Q_nil _ _ _ _ _ | exact Kd.S_nil _ _ _ _ _⟩, ⟨Z BK367⟩, ⟨Z BK368⟩, ⟨Z BK369⟩, ⟨Z BK384⟩, ⟨Y4 HB GE367 GE368 GE369 GE384⟩⟩
     case rest =>
      clear HC97
      obtain ⟨kq, x48_96, rfl, HA, HJ96, HO_14, BK367, BK368, BK369, BK384, HB⟩ := hcut
      cases kq with
      | zero => exact absurd HA.out (by simp [impl_rangeDiv.j2])
      | succ kj96 =>
       have H := HA.out
       clear HA
       simp only [impl_rangeDiv.j2] at H
       by_cases c115 : x48_96 = true
       rotate_left
       ·replace c115 := Bool.eq_false_iff.mpr c115
        subst c115
        rw [if_neg (show ¬ (false = true) by decide)] at H
        replace H := Option.bind_eq_some_iff.mp H
        obtain ⟨t396, A1430, H⟩ := H
        try dsimp only at H
        have A143 := am A1430
        clear A1430
        by_cases c144 : t396 = true
        rotate_left
        ·replace c144 := Bool.eq_false_iff.mpr c144
         subst c144
         rw [if_neg (show ¬ (false = true) by decide)] at H
         simp only [Option.some.injEq, Prod.mk.injEq] at H
         obtain ⟨rfl, rfl, rfl⟩ := H
         obtain ⟨hnb157,hnc157⟩ := nn NB368_367
         obtain ⟨hnb158,hnc158⟩ := nn NB368_369
         obtain ⟨hnb159,hnc159⟩ := nn NB368_384
         obtain ⟨hcz160_0,hcz160_1,hfz160_0,hfz160_1⟩ := c2 BK368
         go_wp2_with (first | ((with_reducible refine gate_callee (f := 95) rfl ?_); refine goesL_ (some 53) rfl rfl Try.func95 (by kernel_rfl) rfl #[.agg #[.int .i64 a1_0, .int .i64 a1_1], .int .i64 0] rfl mz ?_; (with_reducible refine (impl_RangeHas.calls a1_0 a1_1 0 false _ A143.out).mono ?_); rintro e w161 ⟨rfl, hb⟩; refine ⟨_, rfl, ?_⟩; replace HO_14 := am (Kd.R_below (by (with_reducible repeat (first | apply Kd.R_alloc | apply Kd.R_drewN | apply Kd.R_drew)); exact HO_14.out) hb); replace BK367 := bb BK367 hb; replace BK368 := bb BK368 hb; replace BK369 := bb BK369 hb; replace BK384 := bb BK384 hb; replace HB := am (below_step (Y4 HB GE367 GE368 GE369 GE384) hb); (try clear hb); obtain ⟨hnb162,hnc162⟩ := nn NB384_367; obtain ⟨hnb163,hnc163⟩ := nn NB384_369; obtain ⟨hcz164_0,hcz164_1,hfz164_0,hfz164_1⟩ := c2 BK384; obtain ⟨hnb165,hnc165⟩ := nn NB369_367; obtain ⟨hcz166_0,hcz166_1,hfz166_0,hfz166_1⟩ := c2 BK369))
         refine bodyPost_ret (results_ct rfl _ _ gb369 24 #[.int .i64 x385000_82, .int .i64 x385001_82] (0, 0) _ rfl (by refine pf ?_; refine blk_put (cs := #[.int .i64 x385000_82, .int .i64 0]) ?_ 1 _ rfl; refine pf ?_; refine blk_put (cs := #[.int .i64 0, .int .i64 0]) ?_ 0 _ rfl; exact Z BK369) Try.underlying24 rfl (by kernel_rfl)) rfl ?_
         exact ⟨_, ez, by (with_reducible repeat (first | apply Kd.R_alloc | apply Kd.R_drewN | apply Kd.R_drew)); exact Kd.R_mono (Kd.R_far (p := ⟨gb369, 1, none⟩) (Kd.R_far (p := ⟨gb369, 0, none⟩) (Kd.R_types HO_14.out BK369.out (by decide)) (fun _ hk => hk.2) (.int .i64 x385000_82)) (fun _ hk => hk.2) (.int .i64 x385001_82)) (fun _ hk => trivial), Y4 HB GE367 GE368 GE369 GE384⟩
        subst c144
        rw [if_pos rfl] at H
        by_cases c145 : ([] : List Int).length < 17592186044416
        rotate_left
        ·rw [if_neg c145] at H
         exact absurd H (by simp)
        rw [if_pos c145] at H
        have LMc145 := am c145
        clear c145
        obtain ⟨y397, hy397⟩ : ∃ y_ : List Int, y_ = (([] : List Int) ++ [2]) := ⟨_, rfl⟩
        replace H : (some (x385000_82, x385001_82, y397)) = some (r1, r2, r3) := by first | (rw [hy397]; with_reducible exact H) | (have H2_ := (Option.bind_some _ _).symm.trans H; rw [hy397]; with_reducible exact H2_) | (have H2_ := (Option.bind_some _ _).symm.trans H; with_reducible exact H2_) | with_reducible exact H | (rw [hy397]; exact H) | exact H
        have Ny397 := am hy397
        clear hy397
        simp only [Option.some.injEq, Prod.mk.injEq] at H
        obtain ⟨rfl, rfl, rfl⟩ := H
        obtain ⟨hnb146,hnc146⟩ := nn NB368_367
        obtain ⟨hnb147,hnc147⟩ := nn NB368_369
        obtain ⟨hnb148,hnc148⟩ := nn NB368_384
        obtain ⟨hcz149_0,hcz149_1,hfz149_0,hfz149_1⟩ := c2 BK368
        go_wp2_with (first | ((with_reducible refine gate_callee (f := 95) rfl ?_); refine goesL_ (some 53) rfl rfl Try.func95 (by kernel_rfl) rfl #[.agg #[.int .i64 a1_0, .int .i64 a1_1], .int .i64 0] rfl mz ?_; (with_reducible refine (impl_RangeHas.calls a1_0 a1_1 0 true _ A143.out).mono ?_); rintro e w150 ⟨rfl, hb⟩; refine ⟨_, rfl, ?_⟩; replace HO_14 := am (Kd.R_below (by (with_reducible repeat (first | apply Kd.R_alloc | apply Kd.R_drewN | apply Kd.R_drew)); exact HO_14.out) hb); replace BK367 := bb BK367 hb; replace BK368 := bb BK368 hb; replace BK369 := bb BK369 hb; replace BK384 := bb BK384 hb; replace HB := am (below_step (Y4 HB GE367 GE368 GE369 GE384) hb); (try clear hb)) | ((with_reducible refine gate_builtin (b := .append) (xs := #[.tmp 54, .tmp 55]) rfl ?_); at_builtin; refine Kd.R_append (Kd.int .i64) (w0 := w) w.heap.size rfl (.tmp 54) (.tmp 55) 25 3 (.int .i64 0) 8 rfl Try.underlying25 info3 rfl (by decide) (by omega) (.slice none 0 0) ([] : List Int) 2 [.int .i64 2] (fun _ => True) (fun _ => False) rfl rfl ?aP (fun _ hk => hk.elim) ?aF ?aO ?aB ?aS ?aL ?_; (case aP => exact rfl); (case aB => exact (Y4 HB GE367 GE368 GE369 GE384)); (case aF => exact (fun _ _ => trivial)); (case aO => exact (by (with_reducible repeat (first | apply Kd.R_alloc | apply Kd.R_drewN | apply Kd.R_drew)); exact HO_14.out)); (case aS => exact (below_size (Y4 HB GE367 GE368 GE369 GE384))); (case aL => have := LMc145.out; omega); intro v398 w151 ho hb hg hat; rw [← Ny397.out] at ho; have HO399 := am (ho); replace BK367 := am (blk_grown (g := gb367) (o := b2 a0_0 a0_1 24) (Z BK367) hg (Kd.R_ne HO_14.out BK367.out (by decide))); replace BK368 := am (blk_grown (g := gb368) (o := b2 a1_0 a1_1 24) (Z BK368) hg (Kd.R_ne HO_14.out BK368.out (by decide))); replace BK369 := am (blk_grown (g := gb369) (o := b2 0 0 24) (Z BK369) hg (Kd.R_ne HO_14.out BK369.out (by decide))); replace BK384 := am (blk_grown (g := gb384) (o := b2 x385000_82 x385001_82 24) (Z BK384) hg (Kd.R_ne HO_14.out BK384.out (by decide))); replace HB := am (hb); clear HO_14; clear ho hb hg hat; obtain ⟨hnb152,hnc152⟩ := nn NB384_367; obtain ⟨hnb153,hnc153⟩ := nn NB384_369; obtain ⟨hcz154_0,hcz154_1,hfz154_0,hfz154_1⟩ := c2 BK384; obtain ⟨hnb155,hnc155⟩ := nn NB369_367; obtain ⟨hcz156_0,hcz156_1,hfz156_0,hfz156_1⟩ := c2 BK369))
        refine bodyPost_ret (results_ct rfl _ _ gb369 24 #[.int .i64 x385000_82, .int .i64 x385001_82] (0, 0) _ rfl (by refine pf ?_; refine blk_put (cs := #[.int .i64 x385000_82, .int .i64 0]) ?_ 1 _ rfl; refine pf ?_; refine blk_put (cs := #[.int .i64 0, .int .i64 0]) ?_ 0 _ rfl; exact Z BK369) Try.underlying24 rfl (by kernel_rfl)) rfl ?_
        exact ⟨_, ez, by (with_reducible repeat (first | apply Kd.R_alloc | apply Kd.R_drewN | apply Kd.R_drew)); exact Kd.R_mono (Kd.R_far (p := ⟨gb369, 1, none⟩) (Kd.R_far (p := ⟨gb369, 0, none⟩) (Kd.R_types HO399.out BK369.out (by decide)) (fun _ hk => hk.2) (.int .i64 x385000_82)) (fun _ hk => hk.2) (.int .i64 x385001_82)) (fun _ hk => trivial), Y4 HB GE367 GE368 GE369 GE384⟩
       subst c115
       rw [if_pos rfl] at H
       by_cases c116 : ([] : List Int).length < 17592186044416
       rotate_left
       ·rw [if_neg c116] at H
        exact absurd H (by simp)
       rw [if_pos c116] at H
       have LMc116 := am c116
       clear c116
       obtain ⟨y389, hy389⟩ : ∃ y_ : List Int, y_ = (([] : List Int) ++ [1]) := ⟨_, rfl⟩
       replace H : ((impl_RangeHas.f a1_0 a1_1 0).bind fun t392 => (if t392 = true then (if y389.length < 17592186044416 then (some (x385000_82, x385001_82, (y389 ++ [2]))) else (none)) else (some (x385000_82, x385001_82, y389)))) = some (r1, r2, r3) := by first | (rw [hy389]; with_reducible exact H) | (have H2_ := (Option.bind_some _ _).symm.trans H; rw [hy389]; with_reducible exact H2_) | (have H2_ := (Option.bind_some _ _).symm.trans H; with_reducible exact H2_) | with_reducible exact H | (rw [hy389]; exact H) | exact H
       have Ny389 := am hy389
       clear hy389
       replace H := Option.bind_eq_some_iff.mp H
       obtain ⟨t392, A1170, H⟩ := H
       try dsimp only at H
       have A117 := am A1170
       clear A1170
       by_cases c118 : t392 = true
       rotate_left
       ·replace c118 := Bool.eq_false_iff.mpr c118
        subst c118
        rw [if_neg (show ¬ (false = true) by decide)] at H
        simp only [Option.some.injEq, Prod.mk.injEq] at H
        obtain ⟨rfl, rfl, rfl⟩ := H
        go_wp2_with (first | ((with_reducible refine gate_builtin (b := .append) (xs := #[.tmp 49, .tmp 50]) rfl ?_); at_builtin; refine Kd.R_append (Kd.int .i64) (w0 := w) w.heap.size rfl (.tmp 49) (.tmp 50) 25 3 (.int .i64 0) 8 rfl Try.underlying25 info3 rfl (by decide) (by omega) (.slice none 0 0) ([] : List Int) 1 [.int .i64 1] (fun _ => True) (fun _ => False) rfl rfl ?aP (fun _ hk => hk.elim) ?aF ?aO ?aB ?aS ?aL ?_; (case aP => exact rfl); (case aB => exact (Y4 HB GE367 GE368 GE369 GE384)); (case aF => exact (fun _ _ => trivial)); (case aO => exact (by (with_reducible repeat (first | apply Kd.R_alloc | apply Kd.R_drewN | apply Kd.R_drew)); exact HO_14.out)); (case aS => exact (below_size (Y4 HB GE367 GE368 GE369 GE384))); (case aL => have := LMc116.out; omega); intro v390 w132 ho hb hg hat; rw [← Ny389.out] at ho; have HO391 := am (ho); replace BK367 := am (blk_grown (g := gb367) (o := b2 a0_0 a0_1 24) (Z BK367) hg (Kd.R_ne HO_14.out BK367.out (by decide))); replace BK368 := am (blk_grown (g := gb368) (o := b2 a1_0 a1_1 24) (Z BK368) hg (Kd.R_ne HO_14.out BK368.out (by decide))); replace BK369 := am (blk_grown (g := gb369) (o := b2 0 0 24) (Z BK369) hg (Kd.R_ne HO_14.out BK369.out (by decide))); replace BK384 := am (blk_grown (g := gb384) (o := b2 x385000_82 x385001_82 24) (Z BK384) hg (Kd.R_ne HO_14.out BK384.out (by decide))); replace HB := am (hb); clear HO_14; clear ho hb hg hat; obtain ⟨hnb133,hnc133⟩ := nn NB368_367; obtain ⟨hnb134,hnc134⟩ := nn NB368_369; obtain ⟨hnb135,hnc135⟩ := nn NB368_384; obtain ⟨hcz136_0,hcz136_1,hfz136_0,hfz136_1⟩ := c2 BK368) | ((with_reducible refine gate_callee (f := 95) rfl ?_); refine goesL_ (some 53) rfl rfl Try.func95 (by kernel_rfl) rfl #[.agg #[.int .i64 a1_0, .int .i64 a1_1], .int .i64 0] rfl mz ?_; (with_reducible refine (impl_RangeHas.calls a1_0 a1_1 0 false _ A117.out).mono ?_); rintro e w137 ⟨rfl, hb⟩; refine ⟨_, rfl, ?_⟩; replace HO391 := am (Kd.R_below (by (with_reducible repeat (first | apply Kd.R_alloc | apply Kd.R_drewN | apply Kd.R_drew)); exact HO391.out) hb); replace BK367 := bb BK367 hb; replace BK368 := bb BK368 hb; replace BK369 := bb BK369 hb; replace BK384 := bb BK384 hb; replace HB := am (below_step (Y4 HB GE367 GE368 GE369 GE384) hb); (try clear hb); obtain ⟨hnb138,hnc138⟩ := nn NB384_367; obtain ⟨hnb139,hnc139⟩ := nn NB384_369; obtain ⟨hcz140_0,hcz140_1,hfz140_0,hfz140_1⟩ := c2 BK384; obtain ⟨hnb141,hnc141⟩ := nn NB369_367; obtain ⟨hcz142_0,hcz142_1,hfz142_0,hfz142_1⟩ := c2 BK369))
        refine bodyPost_ret (results_ct rfl _ _ gb369 24 #[.int .i64 x385000_82, .int .i64 x385001_82] (0, 0) _ rfl (by refine pf ?_; refine blk_put (cs := #[.int .i64 x385000_82, .int .i64 0]) ?_ 1 _ rfl; refine pf ?_; refine blk_put (cs := #[.int .i64 0, .int .i64 0]) ?_ 0 _ rfl; exact Z BK369) Try.underlying24 rfl (by kernel_rfl)) rfl ?_
        exact ⟨_, ez, by (with_reducible repeat (first | apply Kd.R_alloc | apply Kd.R_drewN | apply Kd.R_drew)); exact Kd.R_mono (Kd.R_far (p := ⟨gb369, 1, none⟩) (Kd.R_far (p := ⟨gb369, 0, none⟩) (Kd.R_types HO391.out BK369.out (by decide)) (fun _ hk => hk.2) (.int .i64 x385000_82)) (fun _ hk => hk.2) (.int .i64 x385001_82)) (fun _ hk => trivial), Y4 HB GE367 GE368 GE369 GE384⟩
       subst c118
       rw [if_pos rfl] at H
       by_cases c119 : y389.length < 17592186044416
       rotate_left
       ·rw [if_neg c119] at H
        exact absurd H (by simp)
       rw [if_pos c119] at H
       have LMc119 := am c119
       clear c119
       obtain ⟨y393, hy393⟩ : ∃ y_ : List Int, y_ = (y389 ++ [2]) := ⟨_, rfl⟩
       replace H : (some (x385000_82, x385001_82, y393)) = some (r1, r2, r3) := by first | (rw [hy393]; with_reducible exact H) | (have H2_ := (Option.bind_some _ _).symm.trans H; rw [hy393]; with_reducible exact H2_) | (have H2_ := (Option.bind_some _ _).symm.trans H; with_reducible exact H2_) | with_reducible exact H | (rw [hy393]; exact H) | exact H
       have Ny393 := am hy393
       clear hy393
       simp only [Option.some.injEq, Prod.mk.injEq] at H
       obtain ⟨rfl, rfl, rfl⟩ := H
       go_wp2_with (first | ((with_reducible refine gate_builtin (b := .append) (xs := #[.tmp 49, .tmp 50]) rfl ?_); at_builtin; refine Kd.R_append (Kd.int .i64) (w0 := w) w.heap.size rfl (.tmp 49) (.tmp 50) 25 3 (.int .i64 0) 8 rfl Try.underlying25 info3 rfl (by decide) (by omega) (.slice none 0 0) ([] : List Int) 1 [.int .i64 1] (fun _ => True) (fun _ => False) rfl rfl ?aP (fun _ hk => hk.elim) ?aF ?aO ?aB ?aS ?aL ?_; (case aP => exact rfl); (case aB => exact (Y4 HB GE367 GE368 GE369 GE384)); (case aF => exact (fun _ _ => trivial)); (case aO => exact (by (with_reducible repeat (first | apply Kd.R_alloc | apply Kd.R_drewN | apply Kd.R_drew)); exact HO_14.out)); (case aS => exact (below_size (Y4 HB GE367 GE368 GE369 GE384))); (case aL => have := LMc116.out; omega); intro v390 w120 ho hb hg hat; rw [← Ny389.out] at ho; have HO391 := am (ho); replace BK367 := am (blk_grown (g := gb367) (o := b2 a0_0 a0_1 24) (Z BK367) hg (Kd.R_ne HO_14.out BK367.out (by decide))); replace BK368 := am (blk_grown (g := gb368) (o := b2 a1_0 a1_1 24) (Z BK368) hg (Kd.R_ne HO_14.out BK368.out (by decide))); replace BK369 := am (blk_grown (g := gb369) (o := b2 0 0 24) (Z BK369) hg (Kd.R_ne HO_14.out BK369.out (by decide))); replace BK384 := am (blk_grown (g := gb384) (o := b2 x385000_82 x385001_82 24) (Z BK384) hg (Kd.R_ne HO_14.out BK384.out (by decide))); replace HB := am (hb); clear HO_14; clear ho hb hg hat; obtain ⟨hnb121,hnc121⟩ := nn NB368_367; obtain ⟨hnb122,hnc122⟩ := nn NB368_369; obtain ⟨hnb123,hnc123⟩ := nn NB368_384; obtain ⟨hcz124_0,hcz124_1,hfz124_0,hfz124_1⟩ := c2 BK368) | ((with_reducible refine gate_callee (f := 95) rfl ?_); refine goesL_ (some 53) rfl rfl Try.func95 (by kernel_rfl) rfl #[.agg #[.int .i64 a1_0, .int .i64 a1_1], .int .i64 0] rfl mz ?_; (with_reducible refine (impl_RangeHas.calls a1_0 a1_1 0 true _ A117.out).mono ?_); rintro e w125 ⟨rfl, hb⟩; refine ⟨_, rfl, ?_⟩; replace HO391 := am (Kd.R_below (by (with_reducible repeat (first | apply Kd.R_alloc | apply Kd.R_drewN | apply Kd.R_drew)); exact HO391.out) hb); replace BK367 := bb BK367 hb; replace BK368 := bb BK368 hb; replace BK369 := bb BK369 hb; replace BK384 := bb BK384 hb; replace HB := am (below_step (Y4 HB GE367 GE368 GE369 GE384) hb); (try clear hb)) | ((with_reducible refine gate_builtin (b := .append) (xs := #[.tmp 54, .tmp 55]) rfl ?_); at_builtin; refine Kd.R_append (Kd.int .i64) (w0 := w) w.heap.size rfl (.tmp 54) (.tmp 55) 25 3 (.int .i64 0) 8 rfl Try.underlying25 info3 rfl (by decide) (by omega) v390 y389 2 [.int .i64 2] (fun _ => True) (fun _ => False) rfl rfl ?aP (fun _ hk => hk.elim) ?aF ?aO ?aB ?aS ?aL ?_; (case aP => exact rfl); (case aB => exact (Y4 HB GE367 GE368 GE369 GE384)); (case aF => exact (fun _ _ => trivial)); (case aO => exact (by (with_reducible repeat (first | apply Kd.R_alloc | apply Kd.R_drewN | apply Kd.R_drew)); exact HO391.out)); (case aS => exact (below_size (Y4 HB GE367 GE368 GE369 GE384))); (case aL => have := LMc119.out; omega); intro v394 w126 ho hb hg hat; rw [← Ny393.out] at ho; have HO395 := am (ho); replace BK367 := am (blk_grown (g := gb367) (o := b2 a0_0 a0_1 24) (Z BK367) hg (Kd.R_ne HO391.out BK367.out (by decide))); replace BK368 := am (blk_grown (g := gb368) (o := b2 a1_0 a1_1 24) (Z BK368) hg (Kd.R_ne HO391.out BK368.out (by decide))); replace BK369 := am (blk_grown (g := gb369) (o := b2 0 0 24) (Z BK369) hg (Kd.R_ne HO391.out BK369.out (by decide))); replace BK384 := am (blk_grown (g := gb384) (o := b2 x385000_82 x385001_82 24) (Z BK384) hg (Kd.R_ne HO391.out BK384.out (by decide))); replace HB := am (hb); clear HO391; clear ho hb hg hat; obtain ⟨hnb127,hnc127⟩ := nn NB384_367; obtain ⟨hnb128,hnc128⟩ := nn NB384_369; obtain ⟨hcz129_0,hcz129_1,hfz129_0,hfz129_1⟩ := c2 BK384; obtain ⟨hnb130,hnc130⟩ := nn NB369_367; obtain ⟨hcz131_0,hcz131_1,hfz131_0,hfz131_1⟩ := c2 BK369))
       refine bodyPost_ret (results_ct rfl _ _ gb369 24 #[.int .i64 x385000_82, .int .i64 x385001_82] (0, 0) _ rfl (by refine pf ?_; refine blk_put (cs := #[.int .i64 x385000_82, .int .i64 0]) ?_ 1 _ rfl; refine pf ?_; refine blk_put (cs := #[.int .i64 0, .int .i64 0]) ?_ 0 _ rfl; exact Z BK369) Try.underlying24 rfl (by kernel_rfl)) rfl ?_
       exact ⟨_, ez, by (with_reducible repeat (first | apply Kd.R_alloc | apply Kd.R_drewN | apply Kd.R_drew)); exact Kd.R_mono (Kd.R_far (p := ⟨gb369, 1, none⟩) (Kd.R_far (p := ⟨gb369, 0, none⟩) (Kd.R_types HO395.out BK369.out (by decide)) (fun _ hk => hk.2) (.int .i64 x385000_82)) (fun _ hk => hk.2) (.int .i64 x385001_82)) (fun _ hk => trivial), Y4 HB GE367 GE368 GE369 GE384⟩

end Go.Proofs.Ythbkakcchgnhpaa.PFnExactRangeDo
