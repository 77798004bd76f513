/- Written by this session's own driver (wip/dprint.py): the functions that the law FnRangeFaults reaches, as Lean functions, each with its contract. -/
import Derived.Test.YthbkakcchgnhpaaPFnRangeFaultsx0
import Derived.Test.YthbkakcchgnhpaaPFnRangeFaultsx12
import Derived.Test.YthbkakcchgnhpaaPFnRangeFaultsx14
import Derived.Test.YthbkakcchgnhpaaPFnRangeFaultsx15
import Derived.Test.YthbkakcchgnhpaaPFnRangeFaultsx16
import Derived.Test.YthbkakcchgnhpaaPFnRangeFaultsx17
import Derived.Test.YthbkakcchgnhpaaPFnRangeFaultsx19
import Derived.Test.YthbkakcchgnhpaaPFnRangeFaultsx20
import Derived.Test.YthbkakcchgnhpaaSv
namespace Go.Proofs.Ythbkakcchgnhpaa.PFnRangeFaults
open Go.RowKit Go.Proofs.YthbkakcchgnhpaaV.PrintWords Go.Proofs.YthbkakcchgnhpaaV.PrintLast Go.Proofs.YthbkakcchgnhpaaV.PrintMore Go.Proofs.YthbkakcchgnhpaaSv
attribute [local go_sem] max2_int min2_int max_two min_two max_three min_three max_four min_four   -- for this text's walks alone
set_option linter.unusedVariables false
set_option linter.unusedSimpArgs false

/-! ### impl_RangeDo: function 11 -/
attribute [local go_sem] Go.Proofs.YthbkakcchgnhpaaSet.isSome_setCell
mutual
def impl_RangeDo.j0 : Nat → Int → Bool → Int → Int → Int → Int → Option (Int × Int × List Int)
 | 0, _, _, _, _, _, _ => none
 | k + 1, x0, x30, x451000, x451001, x452000, x452001 => if x30 = true then ((impl_rangeNone.f).bind fun bt458 => (some (bt458.1, bt458.2, ([] : List Int)))) else (if x0 = 1 then (impl_RangeDo.j1 k x0 x0 (x0 == 1) x451000 x451001 x452000 x452001) else (if x0 = 2 then (impl_RangeDo.j1 k x0 x0 (x0 == 2) x451000 x451001 x452000 x452001) else (impl_RangeDo.j1 k x0 x0 (x0 == 3) x451000 x451001 x452000 x452001)))
def impl_RangeDo.j1 : Nat → Int → Int → Bool → Int → Int → Int → Int → Option (Int × Int × List Int)
 | 0, _, _, _, _, _, _, _ => none
 | k + 1, x0, x32, x33, x451000, x451001, x452000, x452001 => if x33 = true then ((impl_rangeCorners.f k x0 x451000 x451001 x452000 x452001).bind fun bt460 => (if bt460.1 < (-2147483648) then (impl_RangeDo.j2 k bt460.1 bt460.2 true) else (impl_RangeDo.j2 k bt460.1 bt460.2 (decide (bt460.2 > 2147483647))))) else (if x32 = 11 then (impl_RangeDo.j3 k x0 x32 (x32 == 11) x451000 x451001 x452000 x452001) else (if x32 = 12 then (impl_RangeDo.j3 k x0 x32 (x32 == 12) x451000 x451001 x452000 x452001) else (impl_RangeDo.j3 k x0 x32 (x32 == 13) x451000 x451001 x452000 x452001)))
def impl_RangeDo.j2 : Nat → Int → Int → Bool → Option (Int × Int × List Int)
 | 0, _, _, _ => none
 | k + 1, x8, x9, x49 => if x49 = true then ((impl_rangeFrom.f x8 x9).bind fun bt462 => (some (bt462.1, bt462.2, (([1] : List Int))))) else ((impl_rangeFrom.f x8 x9).bind fun bt467 => (some (bt467.1, bt467.2, ([] : List Int))))
def impl_RangeDo.j3 : Nat → Int → Int → Bool → Int → Int → Int → Int → Option (Int × Int × List Int)
 | 0, _, _, _, _, _, _, _ => none
 | k + 1, x0, x32, x57, x451000, x451001, x452000, x452001 => if x57 = true then ((impl_rangeWrap.f k x0 x451000 x451001 x452000 x452001).bind fun bt469 => (some (bt469.1, bt469.2, ([] : List Int)))) else (if x32 = 9 then (impl_RangeDo.j4 k x0 x32 (x32 == 9) x451000 x451001 x452000 x452001) else (impl_RangeDo.j4 k x0 x32 (x32 == 10) x451000 x451001 x452000 x452001))
def impl_RangeDo.j4 : Nat → Int → Int → Bool → Int → Int → Int → Int → Option (Int × Int × List Int)
 | 0, _, _, _, _, _, _, _ => none
 | k + 1, x0, x32, x65, x451000, x451001, x452000, x452001 => if x65 = true then ((impl_rangeShift.f k x0 x451000 x451001 x452000 x452001).bind fun bt471 => (some (bt471.1, bt471.2.1, bt471.2.2))) else (if x32 = 4 then ((impl_rangeDiv.f k x451000 x451001 x452000 x452001).bind fun bt476 => (some (bt476.1, bt476.2.1, bt476.2.2))) else (if x32 = 5 then ((impl_rangeRem.f k x451000 x451001 x452000 x452001).bind fun bt481 => (some (bt481.1, bt481.2.1, bt481.2.2))) else ((impl_rangeBits.f k x0 x451000 x451001 x452000 x452001).bind fun bt486 => (some (bt486.1, bt486.2, ([] : List Int))))))
end
def impl_RangeDo.f (k : Nat) (a0 : Int) (a1_0 : Int) (a1_1 : Int) (a2_0 : Int) (a2_1 : Int) : Option (Int × Int × List Int) := (impl_numOp.f a0).bind fun t453 => (if t453 = true then ((impl_RangeOk.f a1_0 a1_1).bind fun t454 => (if t454 = true then ((impl_RangeOk.f a2_0 a2_1).bind fun t455 => (if t455 = true then ((impl_Range_empty.f a1_0 a1_1).bind fun t456 => (if t456 = true then (impl_RangeDo.j0 k a0 true a1_0 a1_1 a2_0 a2_1) else ((impl_Range_empty.f a2_0 a2_1).bind fun t457 => (impl_RangeDo.j0 k a0 t457 a1_0 a1_1 a2_0 a2_1)))) else (impl_RangeDo.j0 k a0 true a1_0 a1_1 a2_0 a2_1))) else (impl_RangeDo.j0 k a0 true a1_0 a1_1 a2_0 a2_1))) else (impl_RangeDo.j0 k a0 true a1_0 a1_1 a2_0 a2_1))
theorem impl_RangeDo.mono_l : ∀ k, (∀ y0 y1 y2 y3 y4 y5, LeO (impl_RangeDo.j0 k y0 y1 y2 y3 y4 y5) (impl_RangeDo.j0 (k + 1) y0 y1 y2 y3 y4 y5)) ∧ (∀ y0 y1 y2 y3 y4 y5 y6, LeO (impl_RangeDo.j1 k y0 y1 y2 y3 y4 y5 y6) (impl_RangeDo.j1 (k + 1) y0 y1 y2 y3 y4 y5 y6)) ∧ (∀ y0 y1 y2, LeO (impl_RangeDo.j2 k y0 y1 y2) (impl_RangeDo.j2 (k + 1) y0 y1 y2)) ∧ (∀ y0 y1 y2 y3 y4 y5 y6, LeO (impl_RangeDo.j3 k y0 y1 y2 y3 y4 y5 y6) (impl_RangeDo.j3 (k + 1) y0 y1 y2 y3 y4 y5 y6)) ∧ (∀ y0 y1 y2 y3 y4 y5 y6, LeO (impl_RangeDo.j4 k y0 y1 y2 y3 y4 y5 y6) (impl_RangeDo.j4 (k + 1) y0 y1 y2 y3 y4 y5 y6))
 | 0 => ⟨fun _ _ _ _ _ _ r h => by simp [impl_RangeDo.j0] at h, fun _ _ _ _ _ _ _ r h => by simp [impl_RangeDo.j1] at h, fun _ _ _ r h => by simp [impl_RangeDo.j2] at h, fun _ _ _ _ _ _ _ r h => by simp [impl_RangeDo.j3] at h, fun _ _ _ _ _ _ _ r h => by simp [impl_RangeDo.j4] at h⟩
 | k + 1 => by
  obtain ⟨ih0, ih1, ih2, ih3, ih4⟩ := impl_RangeDo.mono_l k
  refine ⟨?_, ?_, ?_, ?_, ?_⟩ <;> (intros; (first | unfold impl_RangeDo.j0 | unfold impl_RangeDo.j1 | unfold impl_RangeDo.j2 | unfold impl_RangeDo.j3 | unfold impl_RangeDo.j4); repeat' first | (with_reducible first | apply ih0 | apply ih1 | apply ih2 | apply ih3 | apply ih4 | apply impl_rangeBits.mono | apply impl_rangeCorners.mono | apply impl_rangeDiv.mono | apply impl_rangeRem.mono | apply impl_rangeShift.mono | apply impl_rangeWrap.mono | apply LeO.refl | apply LeO.none | refine LeO.ite ?_ ?_ | refine LeO.bind ?_ (fun _ => ?_)) | apply ih0 | apply ih1 | apply ih2 | apply ih3 | apply ih4 | apply impl_rangeBits.mono | apply impl_rangeCorners.mono | apply impl_rangeDiv.mono | apply impl_rangeRem.mono | apply impl_rangeShift.mono | apply impl_rangeWrap.mono | apply LeO.none | refine LeO.ite ?_ ?_ | refine LeO.bind ?_ (fun _ => ?_))
theorem impl_RangeDo.mono : ∀ a0 a1 a2 a3 a4 k, LeO (impl_RangeDo.f k a0 a1 a2 a3 a4) (impl_RangeDo.f (k + 1) a0 a1 a2 a3 a4) := by
 intro a0 a1 a2 a3 a4 k
 obtain ⟨ih0, ih1, ih2, ih3, ih4⟩ := impl_RangeDo.mono_l k
 unfold impl_RangeDo.f
 repeat' first | (with_reducible first | apply ih0 | apply ih1 | apply ih2 | apply ih3 | apply ih4 | apply impl_rangeBits.mono | apply impl_rangeCorners.mono | apply impl_rangeDiv.mono | apply impl_rangeRem.mono | apply impl_rangeShift.mono | apply impl_rangeWrap.mono | apply LeO.refl | apply LeO.none | refine LeO.ite ?_ ?_ | refine LeO.bind ?_ (fun _ => ?_)) | apply ih0 | apply ih1 | apply ih2 | apply ih3 | apply ih4 | apply impl_rangeBits.mono | apply impl_rangeCorners.mono | apply impl_rangeDiv.mono | apply impl_rangeRem.mono | apply impl_rangeShift.mono | apply impl_rangeWrap.mono | apply LeO.none | refine LeO.ite ?_ ?_ | refine LeO.bind ?_ (fun _ => ?_)
set_option maxHeartbeats 8000000 in
set_option maxRecDepth 100000 in
theorem impl_RangeDo.calls (k : Nat) (a0 : Int) (a1_0 : Int) (a1_1 : Int) (a2_0 : Int) (a2_1 : Int) (r1 : Int) (r2 : Int) (r3 : List Int) (w : World) (h : impl_RangeDo.f k a0 a1_0 a1_1 a2_0 a2_1 = some (r1, r2, r3)) :
  Calls Try.prog 11 #[.int .i64 a0, .agg #[.int .i64 a1_0, .int .i64 a1_1], .agg #[.int .i64 a2_0, .int .i64 a2_1]] w fun e w' => ∃ v2_ : Value, e = .returned (.tuple #[.agg #[.int .i64 r1, .int .i64 r2], v2_]) ∧ Kd.R (Kd.int .i64) 3 w' w.heap.size (fun _ => True) v2_ r3 ∧ Below w.heap.size w w' := by
 have hu24 := Try.underlying24
 have HB := am (Below.refl w.heap.size w)
 have H : ((impl_numOp.f a0).bind fun t453 => (if t453 = true then ((impl_RangeOk.f a1_0 a1_1).bind fun t454 => (if t454 = true then ((impl_RangeOk.f a2_0 a2_1).bind fun t455 => (if t455 = true then ((impl_Range_empty.f a1_0 a1_1).bind fun t456 => (if t456 = true then (impl_RangeDo.j0 k a0 true a1_0 a1_1 a2_0 a2_1) else ((impl_Range_empty.f a2_0 a2_1).bind fun t457 => (impl_RangeDo.j0 k a0 t457 a1_0 a1_1 a2_0 a2_1)))) else (impl_RangeDo.j0 k a0 true a1_0 a1_1 a2_0 a2_1))) else (impl_RangeDo.j0 k a0 true a1_0 a1_1 a2_0 a2_1))) else (impl_RangeDo.j0 k a0 true a1_0 a1_1 a2_0 a2_1))) = some (r1, r2, r3) := h
 clear h
 have HC4 := am H
 clear H
 go_enter Try.func11, Try.ntmps11
 go_upto_region 1 with (first | ((with_reducible refine gate_dst (N := 4) rfl ?_); refine bx 4 #[.int .i64 a1_0, .int .i64 a1_1] 24 ?_; intro gb450 hg w5 hbox hb; have BK450 := am (hbox); have GW450 := am (bs hg (YA HB)); have GE450 := GW450; replace HB := am (below_step (YA HB) hb); clear hb hbox hg) | ((with_reducible refine gate_dst (N := 5) rfl ?_); refine bx 5 #[.int .i64 a2_0, .int .i64 a2_1] 24 ?_; intro gb451 hg w6 hbox hb; have BK451 := am (hbox); have GW451 := am (bs hg (YA HB)); have GE451 := GW451; obtain ⟨NB450_451,NB451_450⟩ := ne_ hg BK450; obtain ⟨BK450, HB⟩ := bk1 BK450 HB hb; clear hb hbox hg) | ((with_reducible refine gate_dst (N := 6) rfl ?_); refine bx 6 #[.int .i64 0, .int .i64 0] 24 ?_; intro gb452 hg w7 hbox hb; have BK452 := am (hbox); have GW452 := am (bs hg (YA HB)); have GE452 := GW452; obtain ⟨NB450_452,NB452_450⟩ := ne_ hg BK450; obtain ⟨NB451_452,NB452_451⟩ := ne_ hg BK451; obtain ⟨BK450, BK451, HB⟩ := bk2 BK450 BK451 HB hb; clear hb hbox hg))
 (try simp only [Act.put, List.setIfInBounds_toArray, List.set_cons_zero, List.set_cons_succ])
 go_cut [30] (fun v30 wc => ∃ (kq : Nat) (x30_3 : Bool), v30 = .bool x30_3 ∧ Aside0 (impl_RangeDo.j0 kq a0 x30_3 a1_0 a1_1 a2_0 a2_1 = some (r1, r2, r3)) ∧ Aside0 (kq ≤ k) ∧ Bx2 wc gb450 a1_0 a1_1 24 ∧ Bx2 wc gb451 a2_0 a2_1 24 ∧ Bx2 wc gb452 0 0 24 ∧ Aside0 (Below w.heap.size w wc))
 case first =>
  have H := HC4.out
  clear HC4
  obtain ⟨t453, A8, H⟩ := bd H
  try dsimp only at H
  by_cases c9 : t453 = true
  rotate_left
  ·replace c9 := Bool.eq_false_iff.mpr c9
   subst c9
   rw [if_neg ff] at H
   have H' := am H
   clear H
   go_wp2_with (first | ((with_reducible refine gate_callee (f := 45) rfl ?_); refine goesL_ (some 11) rfl rfl Try.func45 (by kernel_rfl) rfl #[.int .i64 a0] rfl mz ?_; (with_reducible refine (impl_numOp.calls _ _ _ A8.out).mono ?_); rintro e w' ⟨rfl, ⟨nd, rfl⟩⟩; refine ⟨_, rfl, ?_⟩))
   go_meet
   case rel => exact ⟨_, (true), ey, H', le0, ⟨Z BK450⟩, ⟨Z BK451⟩, ⟨Z BK452⟩, ⟨YA HB⟩⟩
  subst c9
  rw [if_pos rfl] at H
  obtain ⟨t454, A10, H⟩ := bd H
  try dsimp only at H
  by_cases c11 : t454 = true
  rotate_left
  ·replace c11 := Bool.eq_false_iff.mpr c11
   subst c11
   rw [if_neg ff] at H
   have H' := am H
   clear H
   go_wp2_with (first | ((with_reducible refine gate_callee (f := 45) rfl ?_); refine goesL_ (some 11) rfl rfl Try.func45 (by kernel_rfl) rfl #[.int .i64 a0] rfl mz ?_; (with_reducible refine (impl_numOp.calls _ _ _ A8.out).mono ?_); rintro e w' ⟨rfl, ⟨nd, rfl⟩⟩; refine ⟨_, rfl, ?_⟩; obtain ⟨hnb44,hnc44⟩ := nn NB450_451; obtain ⟨hnb45,hnc45⟩ := nn NB450_452; obtain ⟨hcz46_0,hcz46_1,hfz46_0,hfz46_1⟩ := cB2 BK450) | (go_at_call 46; (with_reducible refine (impl_RangeOk.calls _ _ _ _ A10.out).mono ?_); rintro e w47 ⟨rfl, hb⟩; obtain ⟨BK450, BK451, BK452, HB⟩ := bk3 BK450 BK451 BK452 HB hb; (try clear hb)))
   go_meet
   case rel => exact ⟨_, (true), ey, H', le0, ⟨Z BK450⟩, ⟨Z BK451⟩, ⟨Z BK452⟩, ⟨YA HB⟩⟩
  subst c11
  rw [if_pos rfl] at H
  obtain ⟨t455, A12, H⟩ := bd H
  try dsimp only at H
  by_cases c13 : t455 = true
  rotate_left
  ·replace c13 := Bool.eq_false_iff.mpr c13
   subst c13
   rw [if_neg ff] at H
   have H' := am H
   clear H
   go_wp2_with (first | ((with_reducible refine gate_callee (f := 45) rfl ?_); refine goesL_ (some 11) rfl rfl Try.func45 (by kernel_rfl) rfl #[.int .i64 a0] rfl mz ?_; (with_reducible refine (impl_numOp.calls _ _ _ A8.out).mono ?_); rintro e w' ⟨rfl, ⟨nd, rfl⟩⟩; refine ⟨_, rfl, ?_⟩; obtain ⟨hnb37,hnc37⟩ := nn NB450_451; obtain ⟨hnb38,hnc38⟩ := nn NB450_452; obtain ⟨hcz39_0,hcz39_1,hfz39_0,hfz39_1⟩ := cB2 BK450) | (go_at_call 46; (with_reducible refine (impl_RangeOk.calls _ _ _ _ A10.out).mono ?_); rintro e w40 ⟨rfl, hb⟩; obtain ⟨BK450, BK451, BK452, HB⟩ := bk3 BK450 BK451 BK452 HB hb; (try clear hb); obtain ⟨hnb41,hnc41⟩ := nn NB451_452; obtain ⟨hcz42_0,hcz42_1,hfz42_0,hfz42_1⟩ := cB2 BK451) | (go_at_call 46; (with_reducible refine (impl_RangeOk.calls _ _ _ _ A12.out).mono ?_); rintro e w43 ⟨rfl, hb⟩; obtain ⟨BK450, BK451, BK452, HB⟩ := bk3 BK450 BK451 BK452 HB hb; (try clear hb)))
   go_meet
   case rel => exact ⟨_, (true), ey, H', le0, ⟨Z BK450⟩, ⟨Z BK451⟩, ⟨Z BK452⟩, ⟨YA HB⟩⟩
  subst c13
  rw [if_pos rfl] at H
  obtain ⟨t456, A14, H⟩ := bd H
  try dsimp only at H
  by_cases c15 : t456 = true
  ·subst c15
   rw [if_pos rfl] at H
   have H' := am H
   clear H
   go_wp2_with (first | ((with_reducible refine gate_callee (f := 45) rfl ?_); refine goesL_ (some 11) rfl rfl Try.func45 (by kernel_rfl) rfl #[.int .i64 a0] rfl mz ?_; (with_reducible refine (impl_numOp.calls _ _ _ A8.out).mono ?_); rintro e w' ⟨rfl, ⟨nd, rfl⟩⟩; refine ⟨_, rfl, ?_⟩; obtain ⟨hnb16,hnc16⟩ := nn NB450_451; obtain ⟨hnb17,hnc17⟩ := nn NB450_452; obtain ⟨hcz18_0,hcz18_1,hfz18_0,hfz18_1⟩ := cB2 BK450) | (go_at_call 46; (with_reducible refine (impl_RangeOk.calls _ _ _ _ A10.out).mono ?_); rintro e w19 ⟨rfl, hb⟩; obtain ⟨BK450, BK451, BK452, HB⟩ := bk3 BK450 BK451 BK452 HB hb; (try clear hb); obtain ⟨hnb20,hnc20⟩ := nn NB451_452; obtain ⟨hcz21_0,hcz21_1,hfz21_0,hfz21_1⟩ := cB2 BK451) | (go_at_call 46; (with_reducible refine (impl_RangeOk.calls _ _ _ _ A12.out).mono ?_); rintro e w22 ⟨rfl, hb⟩; obtain ⟨BK450, BK451, BK452, HB⟩ := bk3 BK450 BK451 BK452 HB hb; (try clear hb); obtain ⟨hcz23_0,hcz23_1,hfz23_0,hfz23_1⟩ := cB2 BK450) | (go_at_call 47; (with_reducible refine (impl_Range_empty.calls _ _ _ _ A14.out).mono ?_); rintro e w24 ⟨rfl, hb⟩; obtain ⟨BK450, BK451, BK452, HB⟩ := bk3 BK450 BK451 BK452 HB hb; (try clear hb)))
   go_meet
   case rel => exact ⟨_, (true), ey, H', le0, ⟨Z BK450⟩, ⟨Z BK451⟩, ⟨Z BK452⟩, ⟨YA HB⟩⟩
  replace c15 := Bool.eq_false_iff.mpr c15
  subst c15
  rw [if_neg ff] at H
  obtain ⟨t457, A25, H⟩ := bd H
  try dsimp only at H
  have H' := am H
  clear H
  go_wp2_with (first | ((with_reducible refine gate_callee (f := 45) rfl ?_); refine goesL_ (some 11) rfl rfl Try.func45 (by kernel_rfl) rfl #[.int .i64 a0] rfl mz ?_; (with_reducible refine (impl_numOp.calls _ _ _ A8.out).mono ?_); rintro e w' ⟨rfl, ⟨nd, rfl⟩⟩; refine ⟨_, rfl, ?_⟩; obtain ⟨hnb26,hnc26⟩ := nn NB450_451; obtain ⟨hnb27,hnc27⟩ := nn NB450_452; obtain ⟨hcz28_0,hcz28_1,hfz28_0,hfz28_1⟩ := cB2 BK450) | (go_at_call 46; (with_reducible refine (impl_RangeOk.calls _ _ _ _ A10.out).mono ?_); rintro e w29 ⟨rfl, hb⟩; obtain ⟨BK450, BK451, BK452, HB⟩ := bk3 BK450 BK451 BK452 HB hb; (try clear hb); obtain ⟨hnb30,hnc30⟩ := nn NB451_452; obtain ⟨hcz31_0,hcz31_1,hfz31_0,hfz31_1⟩ := cB2 BK451) | (go_at_call 46; (with_reducible refine (impl_RangeOk.calls _ _ _ _ A12.out).mono ?_); rintro e w32 ⟨rfl, hb⟩; obtain ⟨BK450, BK451, BK452, HB⟩ := bk3 BK450 BK451 BK452 HB hb; (try clear hb); obtain ⟨hcz33_0,hcz33_1,hfz33_0,hfz33_1⟩ := cB2 BK450) | (go_at_call 47; (with_reducible refine (impl_Range_empty.calls _ _ _ _ A14.out).mono ?_); rintro e w34 ⟨rfl, hb⟩; obtain ⟨BK450, BK451, BK452, HB⟩ := bk3 BK450 BK451 BK452 HB hb; (try clear hb); obtain ⟨hcz35_0,hcz35_1,hfz35_0,hfz35_1⟩ := cB2 BK451) | (go_at_call 47; (with_reducible refine (impl_Range_empty.calls _ _ _ _ A25.out).mono ?_); rintro e w36 ⟨rfl, hb⟩; obtain ⟨BK450, BK451, BK452, HB⟩ := bk3 BK450 BK451 BK452 HB hb; (try clear hb)))
  go_meet
  case rel => exact ⟨_, (t457), ey, H', le0, ⟨Z BK450⟩, ⟨Z BK451⟩, ⟨Z BK452⟩, ⟨YA HB⟩⟩
 case rest =>
  clear HC4
  obtain ⟨kq, x30_3, rfl, HA, HJ3, BK450, BK451, BK452, HB⟩ := hcut
  cases kq with
  | zero => exact absurd HA.out (by simp [impl_RangeDo.j0])
  | succ kj3 =>
   have H := HA.out
   clear HA
   simp only [impl_RangeDo.j0] at H
   by_cases c48 : x30_3 = true
   ·subst c48
    rw [if_pos rfl] at H
    obtain ⟨⟨t458, t459⟩, A49, H⟩ := bd H
    try dsimp only at H
    simp only [Option.some.injEq, Prod.mk.injEq] at H
    obtain ⟨rfl, rfl, rfl⟩ := H
    go_wp2_with (first | ((with_reducible refine gate_callee (f := 48) rfl ?_); refine gL 31 Try.func48 (impl_rangeNone.calls _ _ _ A49.out) fun w50 hb => ?_; obtain ⟨BK450, BK451, BK452, HB⟩ := bk3 BK450 BK451 BK452 HB hb; (try clear hb); obtain ⟨hnb51,hnc51⟩ := nn NB452_450; obtain ⟨hnb52,hnc52⟩ := nn NB452_451; obtain ⟨hcz53_0,hcz53_1,hfz53_0,hfz53_1⟩ := cB2 BK452))
    refine bodyPost_ret (results_ct rfl _ _ gb452 24 #[.int .i64 t458, .int .i64 t459] (0, 0) _ rfl (by refine pf ?_; refine blk_put (cs := #[.int .i64 t458, .int .i64 0]) ?_ 1 _ rfl; refine pf ?_; refine blk_put (cs := #[.int .i64 0, .int .i64 0]) ?_ 0 _ rfl; exact Z BK452) Try.underlying24 rfl (by kernel_rfl)) rfl ?_
    exact ⟨_, ez, by first | exact Kd.R_nil _ _ _ _ _ | exact Kd.N_nil _ _ _ _ _ | exact Kd.V_nil _ _ _ _ _ | exact Kd.Q_nil _ _ _ _ _ | exact Kd.S_nil _ _ _ _ _, YA HB⟩
   replace c48 := Bool.eq_false_iff.mpr c48
   subst c48
   rw [if_neg ff] at H
   have HC54 := am H
   clear H
   go_upto_if 33 with (fail)
   go_cut [33] (fun v33 wc => ∃ (kq : Nat) (x33_53 : Bool), v33 = .bool x33_53 ∧ Aside0 (impl_RangeDo.j1 kq a0 a0 x33_53 a1_0 a1_1 a2_0 a2_1 = some (r1, r2, r3)) ∧ Aside0 (kq ≤ kj3) ∧ Bx2 wc gb450 a1_0 a1_1 24 ∧ Bx2 wc gb451 a2_0 a2_1 24 ∧ Bx2 wc gb452 0 0 24 ∧ Aside0 (Below w.heap.size w wc))
   case first =>
    have H := HC54.out
    clear HC54
    by_cases c55 : a0 = 1
    ·rw [if_pos c55] at H
     have c55b0 := eT c55
     have c55b1 := nF c55
     clear c55
     (first | rw [c55b0] | (simp only [i64_w, i32_w]; rw [c55b0]) | skip)
     have H' := am H
     clear H
     go_wp2
     go_meet
     case rel => exact ⟨_, ((a0 == 1)), ey, H', le1 HJ3, ⟨Z BK450⟩, ⟨Z BK451⟩, ⟨Z BK452⟩, ⟨YA HB⟩⟩
    rw [if_neg c55] at H
    have c55b0 := eF c55
    have c55b1 := nT c55
    (first | rw [c55b0] | (simp only [i64_w, i32_w]; rw [c55b0]) | skip)
    by_cases c56 : a0 = 2
    rotate_left
    ·rw [if_neg c56] at H
     have c56b0 := eF c56
     have c56b1 := nT c56
     have H' := am H
     clear H
     go_wp2
     go_meet
     case rel => exact ⟨_, ((a0 == 3)), ey, H', le1 HJ3, ⟨Z BK450⟩, ⟨Z BK451⟩, ⟨Z BK452⟩, ⟨YA HB⟩⟩
    rw [if_pos c56] at H
    have c56b0 := eT c56
    have c56b1 := nF c56
    clear c56
    have H' := am H
    clear H
    go_wp2
    go_meet
    case rel => exact ⟨_, ((a0 == 2)), ey, H', le1 HJ3, ⟨Z BK450⟩, ⟨Z BK451⟩, ⟨Z BK452⟩, ⟨YA HB⟩⟩
   case rest =>
    clear HC54
    try clear c48
    obtain ⟨kq, x33_53, rfl, HA, HJ53, BK450, BK451, BK452, HB⟩ := hcut
    cases kq with
    | zero => exact absurd HA.out (by simp [impl_RangeDo.j1])
    | succ kj53 =>
     have H := HA.out
     clear HA
     simp only [impl_RangeDo.j1] at H
     by_cases c57 : x33_53 = true
     ·subst c57
      rw [if_pos rfl] at H
      obtain ⟨⟨t460, t461⟩, A58, H⟩ := bd H
      try dsimp only at H
      have HC59 := am H
      clear H
      obtain ⟨hnb60,hnc60⟩ := nn NB450_451
      obtain ⟨hnb61,hnc61⟩ := nn NB450_452
      obtain ⟨hcz62_0,hcz62_1,hfz62_0,hfz62_1⟩ := cB2 BK450
      obtain ⟨hnb63,hnc63⟩ := nn NB451_452
      obtain ⟨hcz64_0,hcz64_1,hfz64_0,hfz64_1⟩ := cB2 BK451
      go_upto_region 8 with (first | ((with_reducible refine gate_callee (f := 49) rfl ?_); refine gL 41 Try.func49 (impl_rangeCorners.calls _ _ _ _ _ _ _ _ _ A58.out) fun w65 hb => ?_; obtain ⟨BK450, BK451, BK452, HB⟩ := bk3 BK450 BK451 BK452 HB hb; (try clear hb)))
      (try simp only [Act.put, List.setIfInBounds_toArray, List.set_cons_zero, List.set_cons_succ])
      go_cut [49] (fun v49 wc => ∃ (kq : Nat) (x49_58 : Bool), v49 = .bool x49_58 ∧ Aside0 (impl_RangeDo.j2 kq t460 t461 x49_58 = some (r1, r2, r3)) ∧ Aside0 (kq ≤ kj53) ∧ Bx2 wc gb450 a1_0 a1_1 24 ∧ Bx2 wc gb451 a2_0 a2_1 24 ∧ Bx2 wc gb452 0 0 24 ∧ Aside0 (Below w.heap.size w wc))
      case first =>
       have H := HC59.out
       clear HC59
       by_cases c66 : t460 < (-2147483648)
       ·rw [if_pos c66] at H
        have c66b0 := dT c66
        clear c66
        (first | rw [c66b0] | (simp only [i64_w, i32_w]; rw [c66b0]) | skip)
        have H' := am H
        clear H
        go_wp2
        go_meet
        case rel => exact ⟨_, (true), ey, H', ⟨by have := HJ3.out; have := HJ53.out; first | omega | exact Nat.le_refl _⟩, ⟨Z BK450⟩, ⟨Z BK451⟩, ⟨Z BK452⟩, ⟨YA HB⟩⟩
       rw [if_neg c66] at H
       have c66b0 := dF c66
       clear c66
       (first | rw [c66b0] | (simp only [i64_w, i32_w]; rw [c66b0]) | skip)
       have H' := am H
       clear H
       go_wp2
       go_meet
       case rel => exact ⟨_, (decide (t461 > 2147483647)), ey, H', ⟨by have := HJ3.out; have := HJ53.out; first | omega | exact Nat.le_refl _⟩, ⟨Z BK450⟩, ⟨Z BK451⟩, ⟨Z BK452⟩, ⟨YA HB⟩⟩
      case rest =>
       clear HC59
       (try clear c57);(try clear hcz62_0);(try clear hcz62_1);(try clear hcz64_0);(try clear hcz64_1);(try clear hfz62_0);(try clear hfz62_1);(try clear hfz64_0);(try clear hfz64_1)
       obtain ⟨kq, x49_58, rfl, HA, HJ58, BK450, BK451, BK452, HB⟩ := hcut
       cases kq with
       | zero => exact absurd HA.out (by simp [impl_RangeDo.j2])
       | succ kj58 =>
        have H := HA.out
        clear HA
        simp only [impl_RangeDo.j2] at H
        by_cases c67 : x49_58 = true
        rotate_left
        ·replace c67 := Bool.eq_false_iff.mpr c67
         subst c67
         rw [if_neg ff] at H
         obtain ⟨⟨t467, t468⟩, A75, H⟩ := bd H
         try dsimp only at H
         simp only [Option.some.injEq, Prod.mk.injEq] at H
         obtain ⟨rfl, rfl, rfl⟩ := H
         go_wp2_with (first | ((with_reducible refine gate_callee (f := 50) rfl ?_); refine gL 56 Try.func50 (impl_rangeFrom.calls _ _ _ _ _ A75.out) fun w76 hb => ?_; obtain ⟨BK450, BK451, BK452, HB⟩ := bk3 BK450 BK451 BK452 HB hb; (try clear hb); obtain ⟨hnb77,hnc77⟩ := nn NB452_450; obtain ⟨hnb78,hnc78⟩ := nn NB452_451; obtain ⟨hcz79_0,hcz79_1,hfz79_0,hfz79_1⟩ := cB2 BK452))
         refine bodyPost_ret (results_ct rfl _ _ gb452 24 #[.int .i64 t467, .int .i64 t468] (0, 0) _ rfl (by refine pf ?_; refine blk_put (cs := #[.int .i64 t467, .int .i64 0]) ?_ 1 _ rfl; refine pf ?_; refine blk_put (cs := #[.int .i64 0, .int .i64 0]) ?_ 0 _ rfl; exact Z BK452) Try.underlying24 rfl (by kernel_rfl)) rfl ?_
         exact ⟨_, ez, by first | exact Kd.R_nil _ _ _ _ _ | exact Kd.N_nil _ _ _ _ _ | exact Kd.V_nil _ _ _ _ _ | exact Kd.Q_nil _ _ _ _ _ | exact Kd.S_nil _ _ _ _ _, YA HB⟩
        subst c67
        rw [if_pos rfl] at H
        obtain ⟨⟨t462, t463⟩, A68, H⟩ := bd H
        try dsimp only at H
        obtain ⟨y464, hy464⟩ : ∃ y_ : List Int, y_ = (([1] : List Int)) := ⟨_, rfl⟩
        replace H : (some (t462, t463, y464)) = some (r1, r2, r3) := by first | (rw [hy464]; with_reducible exact H) | (have H2_ := (Option.bind_some _ _).symm.trans H; rw [hy464]; with_reducible exact H2_) | (have H2_ := (Option.bind_some _ _).symm.trans H; with_reducible exact H2_) | with_reducible exact H | (rw [hy464]; exact H) | exact H
        have Ny464 := am hy464
        clear hy464
        simp only [Option.some.injEq, Prod.mk.injEq] at H
        obtain ⟨rfl, rfl, rfl⟩ := H
        go_wp2_with (first | ((with_reducible refine gate_callee (f := 50) rfl ?_); refine gL 52 Try.func50 (impl_rangeFrom.calls _ _ _ _ _ A68.out) fun w69 hb => ?_; obtain ⟨BK450, BK451, BK452, HB⟩ := bk3 BK450 BK451 BK452 HB hb; (try clear hb)) | ((with_reducible refine gate_dst (N := 53) rfl ?_); refine Kd.R_lit (Kd.int .i64) _ 3 ?hg (N := 53) ?hd (xs := ([1] : List Int)) (inner := [.int .i64 1]) (ok := fun _ => True) (okp := fun _ => True) ?hr ?hp (fun _ hk => hk) trivial (Below.refl _ _) (Nat.le_refl _) (by simp) ?_; (case hd => rfl); (case hg => rfl); (case hr => first | (go_simp; done) | (go_simp; rfl)); (case hp => exact (Reps.one (show Kd.M (Kd.int .i64) _ _ _ 1 [.int .i64 1] from rfl) (Reps.none _ _))); intro v465 w70 ho71 hb hg_ hnew_; clear hg_ hnew_; (first | rw [← Ny464.out] at ho71 | (simp only [Int.reduceToNat] at ho71; rw [← Ny464.out] at ho71)); have HO466 := am (Kd.R_lower ho71 (below_size (YA HB))); obtain ⟨BK450, BK451, BK452, HB⟩ := bk3 BK450 BK451 BK452 HB hb; clear hb ho71; obtain ⟨hnb72,hnc72⟩ := nn NB452_450; obtain ⟨hnb73,hnc73⟩ := nn NB452_451; obtain ⟨hcz74_0,hcz74_1,hfz74_0,hfz74_1⟩ := cB2 BK452))
        refine bodyPost_ret (results_ct rfl _ _ gb452 24 #[.int .i64 t462, .int .i64 t463] (0, 0) _ rfl (by refine pf ?_; refine blk_put (cs := #[.int .i64 t462, .int .i64 0]) ?_ 1 _ rfl; refine pf ?_; refine blk_put (cs := #[.int .i64 0, .int .i64 0]) ?_ 0 _ rfl; exact Z BK452) Try.underlying24 rfl (by kernel_rfl)) rfl ?_
        exact ⟨_, ez, by (with_reducible repeat (first | apply Kd.R_alloc | apply Kd.R_drewN | apply Kd.R_drew)); exact Kd.R_mono (Kd.R_far (p := ⟨gb452, 1, none⟩) (Kd.R_far (p := ⟨gb452, 0, none⟩) (Kd.R_types HO466.out BK452.out (by decide)) (fun _ hk => hk.2) (.int .i64 t462)) (fun _ hk => hk.2) (.int .i64 t463)) (fun _ hk => trivial), YA HB⟩
     replace c57 := Bool.eq_false_iff.mpr c57
     subst c57
     rw [if_neg ff] at H
     have HC80 := am H
     clear H
     go_upto_if 57 with (fail)
     go_cut [57] (fun v57 wc => ∃ (kq : Nat) (x57_79 : Bool), v57 = .bool x57_79 ∧ Aside0 (impl_RangeDo.j3 kq a0 a0 x57_79 a1_0 a1_1 a2_0 a2_1 = some (r1, r2, r3)) ∧ Aside0 (kq ≤ kj53) ∧ Bx2 wc gb450 a1_0 a1_1 24 ∧ Bx2 wc gb451 a2_0 a2_1 24 ∧ Bx2 wc gb452 0 0 24 ∧ Aside0 (Below w.heap.size w wc))
     case first =>
      have H := HC80.out
      clear HC80
      by_cases c81 : a0 = 11
      ·rw [if_pos c81] at H
       have c81b0 := eT c81
       have c81b1 := nF c81
       clear c81
       (first | rw [c81b0] | (simp only [i64_w, i32_w]; rw [c81b0]) | skip)
       have H' := am H
       clear H
       go_wp2
       go_meet
       case rel => exact ⟨_, ((a0 == 11)), ey, H', ⟨by have := HJ3.out; have := HJ53.out; first | omega | exact Nat.le_refl _⟩, ⟨Z BK450⟩, ⟨Z BK451⟩, ⟨Z BK452⟩, ⟨YA HB⟩⟩
      rw [if_neg c81] at H
      have c81b0 := eF c81
      have c81b1 := nT c81
      (first | rw [c81b0] | (simp only [i64_w, i32_w]; rw [c81b0]) | skip)
      by_cases c82 : a0 = 12
      rotate_left
      ·rw [if_neg c82] at H
       have c82b0 := eF c82
       have c82b1 := nT c82
       have H' := am H
       clear H
       go_wp2
       go_meet
       case rel => exact ⟨_, ((a0 == 13)), ey, H', ⟨by have := HJ3.out; have := HJ53.out; first | omega | exact Nat.le_refl _⟩, ⟨Z BK450⟩, ⟨Z BK451⟩, ⟨Z BK452⟩, ⟨YA HB⟩⟩
      rw [if_pos c82] at H
      have c82b0 := eT c82
      have c82b1 := nF c82
      clear c82
      have H' := am H
      clear H
      go_wp2
      go_meet
      case rel => exact ⟨_, ((a0 == 12)), ey, H', ⟨by have := HJ3.out; have := HJ53.out; first | omega | exact Nat.le_refl _⟩, ⟨Z BK450⟩, ⟨Z BK451⟩, ⟨Z BK452⟩, ⟨YA HB⟩⟩
     case rest =>
      clear HC80
      try clear c57
      obtain ⟨kq, x57_79, rfl, HA, HJ79, BK450, BK451, BK452, HB⟩ := hcut
      cases kq with
      | zero => exact absurd HA.out (by simp [impl_RangeDo.j3])
      | succ kj79 =>
       have H := HA.out
       clear HA
       simp only [impl_RangeDo.j3] at H
       by_cases c83 : x57_79 = true
       ·subst c83
        rw [if_pos rfl] at H
        obtain ⟨⟨t469, t470⟩, A84, H⟩ := bd H
        try dsimp only at H
        simp only [Option.some.injEq, Prod.mk.injEq] at H
        obtain ⟨rfl, rfl, rfl⟩ := H
        obtain ⟨hnb85,hnc85⟩ := nn NB450_451
        obtain ⟨hnb86,hnc86⟩ := nn NB450_452
        obtain ⟨hcz87_0,hcz87_1,hfz87_0,hfz87_1⟩ := cB2 BK450
        obtain ⟨hnb88,hnc88⟩ := nn NB451_452
        obtain ⟨hcz89_0,hcz89_1,hfz89_0,hfz89_1⟩ := cB2 BK451
        go_wp2_with (first | ((with_reducible refine gate_callee (f := 51) rfl ?_); refine gL 64 Try.func51 (impl_rangeWrap.calls _ _ _ _ _ _ _ _ _ A84.out) fun w90 hb => ?_; obtain ⟨BK450, BK451, BK452, HB⟩ := bk3 BK450 BK451 BK452 HB hb; (try clear hb); obtain ⟨hcz91_0,hcz91_1,hfz91_0,hfz91_1⟩ := cB2 BK452))
        refine bodyPost_ret (results_ct rfl _ _ gb452 24 #[.int .i64 t469, .int .i64 t470] (0, 0) _ rfl (by refine pf ?_; refine blk_put (cs := #[.int .i64 t469, .int .i64 0]) ?_ 1 _ rfl; refine pf ?_; refine blk_put (cs := #[.int .i64 0, .int .i64 0]) ?_ 0 _ rfl; exact Z BK452) Try.underlying24 rfl (by kernel_rfl)) rfl ?_
        exact ⟨_, ez, by first | exact Kd.R_nil _ _ _ _ _ | exact Kd.N_nil _ _ _ _ _ | exact Kd.V_nil _ _ _ _ _ | exact Kd.Q_nil _ _ _ _ _ | exact Kd.S_nil _ _ _ _ _, YA HB⟩
       replace c83 := Bool.eq_false_iff.mpr c83
       subst c83
       rw [if_neg ff] at H
       have HC92 := am H
       clear H
       go_upto_if 65 with (fail)
       go_cut [65] (fun v65 wc => ∃ (kq : Nat) (x65_91 : Bool), v65 = .bool x65_91 ∧ Aside0 (impl_RangeDo.j4 kq a0 a0 x65_91 a1_0 a1_1 a2_0 a2_1 = some (r1, r2, r3)) ∧ Aside0 (kq ≤ kj79) ∧ Bx2 wc gb450 a1_0 a1_1 24 ∧ Bx2 wc gb451 a2_0 a2_1 24 ∧ Bx2 wc gb452 0 0 24 ∧ Aside0 (Below w.heap.size w wc))
       case first =>
        have H := HC92.out
        clear HC92
        by_cases c93 : a0 = 9
        rotate_left
        ·rw [if_neg c93] at H
         have c93b0 := eF c93
         have c93b1 := nT c93
         (first | rw [c93b0] | (simp only [i64_w, i32_w]; rw [c93b0]) | skip)
         have H' := am H
         clear H
         go_wp2
         go_meet
         case rel => exact ⟨_, ((a0 == 10)), ey, H', ⟨by have := HJ3.out; have := HJ53.out; have := HJ79.out; first | omega | exact Nat.le_refl _⟩, ⟨Z BK450⟩, ⟨Z BK451⟩, ⟨Z BK452⟩, ⟨YA HB⟩⟩
        rw [if_pos c93] at H
        have c93b0 := eT c93
        have c93b1 := nF c93
        clear c93
        (first | rw [c93b0] | (simp only [i64_w, i32_w]; rw [c93b0]) | skip)
        have H' := am H
        clear H
        go_wp2
        go_meet
        case rel => exact ⟨_, ((a0 == 9)), ey, H', ⟨by have := HJ3.out; have := HJ53.out; have := HJ79.out; first | omega | exact Nat.le_refl _⟩, ⟨Z BK450⟩, ⟨Z BK451⟩, ⟨Z BK452⟩, ⟨YA HB⟩⟩
       case rest =>
        clear HC92
        try clear c83
        obtain ⟨kq, x65_91, rfl, HA, HJ91, BK450, BK451, BK452, HB⟩ := hcut
        cases kq with
        | zero => exact absurd HA.out (by simp [impl_RangeDo.j4])
        | succ kj91 =>
         have H := HA.out
         clear HA
         simp only [impl_RangeDo.j4] at H
         by_cases c94 : x65_91 = true
         ·subst c94
          rw [if_pos rfl] at H
          obtain ⟨⟨t471, t472, t473⟩, A95, H⟩ := bd H
          try dsimp only at H
          simp only [Option.some.injEq, Prod.mk.injEq] at H
          obtain ⟨rfl, rfl, rfl⟩ := H
          obtain ⟨hnb96,hnc96⟩ := nn NB450_451
          obtain ⟨hnb97,hnc97⟩ := nn NB450_452
          obtain ⟨hcz98_0,hcz98_1,hfz98_0,hfz98_1⟩ := cB2 BK450
          obtain ⟨hnb99,hnc99⟩ := nn NB451_452
          obtain ⟨hcz100_0,hcz100_1,hfz100_0,hfz100_1⟩ := cB2 BK451
          go_wp2_with (first | ((with_reducible refine gate_callee (f := 52) rfl ?_); refine goesL_ (some 71) rfl rfl Try.func52 (by kernel_rfl) rfl #[.int .i64 a0, .agg #[.int .i64 a1_0, .int .i64 a1_1], .agg #[.int .i64 a2_0, .int .i64 a2_1]] rfl mz ?_; (with_reducible refine (impl_rangeShift.calls _ _ _ _ _ _ _ _ _ _ A95.out).mono ?_); rintro e w101 ⟨v474, rfl, ho0, hb⟩; refine ⟨_, rfl, ?_⟩; have HO475 := am (Kd.R_lower ho0 (below_size (YA HB))); obtain ⟨BK450, BK451, BK452, HB⟩ := bk3 BK450 BK451 BK452 HB hb; (try clear hb); (try clear ho0); obtain ⟨hcz102_0,hcz102_1,hfz102_0,hfz102_1⟩ := cB2 BK452))
          refine bodyPost_ret (results_ct rfl _ _ gb452 24 #[.int .i64 t471, .int .i64 t472] (0, 0) _ rfl (by refine pf ?_; refine blk_put (cs := #[.int .i64 t471, .int .i64 0]) ?_ 1 _ rfl; refine pf ?_; refine blk_put (cs := #[.int .i64 0, .int .i64 0]) ?_ 0 _ rfl; exact Z BK452) Try.underlying24 rfl (by kernel_rfl)) rfl ?_
          exact ⟨_, ez, by (with_reducible repeat (first | apply Kd.R_alloc | apply Kd.R_drewN | apply Kd.R_drew)); exact Kd.R_mono (Kd.R_far (p := ⟨gb452, 1, none⟩) (Kd.R_far (p := ⟨gb452, 0, none⟩) (Kd.R_types HO475.out BK452.out (by decide)) (fun _ hk => hk.2) (.int .i64 t471)) (fun _ hk => hk.2) (.int .i64 t472)) (fun _ hk => trivial), YA HB⟩
         replace c94 := Bool.eq_false_iff.mpr c94
         subst c94
         rw [if_neg ff] at H
         by_cases c103 : a0 = 4
         ·rw [if_pos c103] at H
          have c103b0 := eT c103
          have c103b1 := nF c103
          clear c103
          obtain ⟨⟨t476, t477, t478⟩, A104, H⟩ := bd H
          try dsimp only at H
          simp only [Option.some.injEq, Prod.mk.injEq] at H
          obtain ⟨rfl, rfl, rfl⟩ := H
          obtain ⟨hnb105,hnc105⟩ := nn NB450_451
          obtain ⟨hnb106,hnc106⟩ := nn NB450_452
          obtain ⟨hcz107_0,hcz107_1,hfz107_0,hfz107_1⟩ := cB2 BK450
          obtain ⟨hnb108,hnc108⟩ := nn NB451_452
          obtain ⟨hcz109_0,hcz109_1,hfz109_0,hfz109_1⟩ := cB2 BK451
          go_wp2_with (first | ((with_reducible refine gate_callee (f := 53) rfl ?_); refine goesL_ (some 78) rfl rfl Try.func53 (by kernel_rfl) rfl #[.agg #[.int .i64 a1_0, .int .i64 a1_1], .agg #[.int .i64 a2_0, .int .i64 a2_1]] rfl mz ?_; (with_reducible refine (impl_rangeDiv.calls _ _ _ _ _ _ _ _ _ A104.out).mono ?_); rintro e w110 ⟨v479, rfl, ho0, hb⟩; refine ⟨_, rfl, ?_⟩; have HO480 := am (Kd.R_lower ho0 (below_size (YA HB))); obtain ⟨BK450, BK451, BK452, HB⟩ := bk3 BK450 BK451 BK452 HB hb; (try clear hb); (try clear ho0); obtain ⟨hcz111_0,hcz111_1,hfz111_0,hfz111_1⟩ := cB2 BK452))
          refine bodyPost_ret (results_ct rfl _ _ gb452 24 #[.int .i64 t476, .int .i64 t477] (0, 0) _ rfl (by refine pf ?_; refine blk_put (cs := #[.int .i64 t476, .int .i64 0]) ?_ 1 _ rfl; refine pf ?_; refine blk_put (cs := #[.int .i64 0, .int .i64 0]) ?_ 0 _ rfl; exact Z BK452) Try.underlying24 rfl (by kernel_rfl)) rfl ?_
          exact ⟨_, ez, by (with_reducible repeat (first | apply Kd.R_alloc | apply Kd.R_drewN | apply Kd.R_drew)); exact Kd.R_mono (Kd.R_far (p := ⟨gb452, 1, none⟩) (Kd.R_far (p := ⟨gb452, 0, none⟩) (Kd.R_types HO480.out BK452.out (by decide)) (fun _ hk => hk.2) (.int .i64 t476)) (fun _ hk => hk.2) (.int .i64 t477)) (fun _ hk => trivial), YA HB⟩
         rw [if_neg c103] at H
         have c103b0 := eF c103
         have c103b1 := nT c103
         by_cases c112 : a0 = 5
         rotate_left
         ·rw [if_neg c112] at H
          have c112b0 := eF c112
          have c112b1 := nT c112
          obtain ⟨⟨t486, t487⟩, A121, H⟩ := bd H
          try dsimp only at H
          simp only [Option.some.injEq, Prod.mk.injEq] at H
          obtain ⟨rfl, rfl, rfl⟩ := H
          obtain ⟨hnb122,hnc122⟩ := nn NB450_451
          obtain ⟨hnb123,hnc123⟩ := nn NB450_452
          obtain ⟨hcz124_0,hcz124_1,hfz124_0,hfz124_1⟩ := cB2 BK450
          obtain ⟨hnb125,hnc125⟩ := nn NB451_452
          obtain ⟨hcz126_0,hcz126_1,hfz126_0,hfz126_1⟩ := cB2 BK451
          go_wp2_with (first | ((with_reducible refine gate_callee (f := 55) rfl ?_); refine gL 91 Try.func55 (impl_rangeBits.calls _ _ _ _ _ _ _ _ _ A121.out) fun w127 hb => ?_; obtain ⟨BK450, BK451, BK452, HB⟩ := bk3 BK450 BK451 BK452 HB hb; (try clear hb); obtain ⟨hcz128_0,hcz128_1,hfz128_0,hfz128_1⟩ := cB2 BK452))
          refine bodyPost_ret (results_ct rfl _ _ gb452 24 #[.int .i64 t486, .int .i64 t487] (0, 0) _ rfl (by refine pf ?_; refine blk_put (cs := #[.int .i64 t486, .int .i64 0]) ?_ 1 _ rfl; refine pf ?_; refine blk_put (cs := #[.int .i64 0, .int .i64 0]) ?_ 0 _ rfl; exact Z BK452) Try.underlying24 rfl (by kernel_rfl)) rfl ?_
          exact ⟨_, ez, by first | exact Kd.R_nil _ _ _ _ _ | exact Kd.N_nil _ _ _ _ _ | exact Kd.V_nil _ _ _ _ _ | exact Kd.Q_nil _ _ _ _ _ | exact Kd.S_nil _ _ _ _ _, YA HB⟩
         rw [if_pos c112] at H
         have c112b0 := eT c112
         have c112b1 := nF c112
         clear c112
         obtain ⟨⟨t481, t482, t483⟩, A113, H⟩ := bd H
         try dsimp only at H
         simp only [Option.some.injEq, Prod.mk.injEq] at H
         obtain ⟨rfl, rfl, rfl⟩ := H
         obtain ⟨hnb114,hnc114⟩ := nn NB450_451
         obtain ⟨hnb115,hnc115⟩ := nn NB450_452
         obtain ⟨hcz116_0,hcz116_1,hfz116_0,hfz116_1⟩ := cB2 BK450
         obtain ⟨hnb117,hnc117⟩ := nn NB451_452
         obtain ⟨hcz118_0,hcz118_1,hfz118_0,hfz118_1⟩ := cB2 BK451
         go_wp2_with (first | ((with_reducible refine gate_callee (f := 54) rfl ?_); refine goesL_ (some 85) rfl rfl Try.func54 (by kernel_rfl) rfl #[.agg #[.int .i64 a1_0, .int .i64 a1_1], .agg #[.int .i64 a2_0, .int .i64 a2_1]] rfl mz ?_; (with_reducible refine (impl_rangeRem.calls _ _ _ _ _ _ _ _ _ A113.out).mono ?_); rintro e w119 ⟨v484, rfl, ho0, hb⟩; refine ⟨_, rfl, ?_⟩; have HO485 := am (Kd.R_lower ho0 (below_size (YA HB))); obtain ⟨BK450, BK451, BK452, HB⟩ := bk3 BK450 BK451 BK452 HB hb; (try clear hb); (try clear ho0); obtain ⟨hcz120_0,hcz120_1,hfz120_0,hfz120_1⟩ := cB2 BK452))
         refine bodyPost_ret (results_ct rfl _ _ gb452 24 #[.int .i64 t481, .int .i64 t482] (0, 0) _ rfl (by refine pf ?_; refine blk_put (cs := #[.int .i64 t481, .int .i64 0]) ?_ 1 _ rfl; refine pf ?_; refine blk_put (cs := #[.int .i64 0, .int .i64 0]) ?_ 0 _ rfl; exact Z BK452) Try.underlying24 rfl (by kernel_rfl)) rfl ?_
         exact ⟨_, ez, by (with_reducible repeat (first | apply Kd.R_alloc | apply Kd.R_drewN | apply Kd.R_drew)); exact Kd.R_mono (Kd.R_far (p := ⟨gb452, 1, none⟩) (Kd.R_far (p := ⟨gb452, 0, none⟩) (Kd.R_types HO485.out BK452.out (by decide)) (fun _ hk => hk.2) (.int .i64 t481)) (fun _ hk => hk.2) (.int .i64 t482)) (fun _ hk => trivial), YA HB⟩

end Go.Proofs.Ythbkakcchgnhpaa.PFnRangeFaults
