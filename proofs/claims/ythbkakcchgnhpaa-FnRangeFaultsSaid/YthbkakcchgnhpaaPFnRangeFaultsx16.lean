/- Written by this session's own driver (wip/dprint.py): the functions that the law FnRangeFaults reaches, as Lean functions, each with its contract. -/
import Derived.Test.YthbkakcchgnhpaaPFnRangeFaultsx0
import Derived.Test.YthbkakcchgnhpaaPFnRangeFaultsx1
import Derived.Test.YthbkakcchgnhpaaPFnRangeFaultsx12
import Derived.Test.YthbkakcchgnhpaaPFnRangeFaultsx14
import Derived.Test.YthbkakcchgnhpaaPFnRangeFaultsx15
import Derived.Test.YthbkakcchgnhpaaSv
namespace Go.Proofs.Ythbkakcchgnhpaa.PFnRangeFaults
open Go.RowKit Go.Proofs.YthbkakcchgnhpaaV.PrintWords Go.Proofs.YthbkakcchgnhpaaV.PrintLast Go.Proofs.YthbkakcchgnhpaaV.PrintMore Go.Proofs.YthbkakcchgnhpaaSv
attribute [local go_sem] max2_int min2_int max_two min_two max_three min_three max_four min_four   -- for this text's walks alone
set_option linter.unusedVariables false
set_option linter.unusedSimpArgs false

attribute [local go_sem high] eqA24
/-! ### impl_rangeShift: function 52 -/
attribute [local go_sem] Go.Proofs.YthbkakcchgnhpaaSet.isSome_setCell
def impl_rangeShift.j0 : Nat → List Int → Bool → Int → Int → Int → Int → Int → Int → Option (Int × Int × List Int)
 | 0, _, _, _, _, _, _, _, _ => none
 | k + 1, x10, x35, x332000, x332001, x336000, x336001, x339000, x339001 => if x35 = true then (if x10.length < 17592186044416 then ((some (x10 ++ [1] : List Int)).bind fun y347 => (if (!(x336000 == x332000) || (!(x336001 == x332001))) = true then (if y347.length < 17592186044416 then (some (x339000, x339001, (y347 ++ [3]))) else (none)) else (some (x339000, x339001, y347)))) else (none)) else (if (!(x336000 == x332000) || (!(x336001 == x332001))) = true then (if x10.length < 17592186044416 then (some (x339000, x339001, (x10 ++ [3]))) else (none)) else (some (x339000, x339001, x10)))
def impl_rangeShift.f (k : Nat) (a0 : Int) (a1_0 : Int) (a1_1 : Int) (a2_0 : Int) (a2_1 : Int) : Option (Int × Int × List Int) := (impl_RangeMeet.f k a2_0 a2_1 0 31).bind fun bt333 => ((impl_rangeNone.f).bind fun bt336 => ((impl_Range_empty.f bt333.1 bt333.2).bind fun t339 => (if t339 = true then (if (!(bt333.1 == a2_0) || (!(bt333.2 == a2_1))) = true then (if ([] : List Int).length < 17592186044416 then (some (bt336.1, bt336.2, (([] : List Int) ++ [3]))) else (none)) else (some (bt336.1, bt336.2, ([] : List Int)))) else ((impl_rangeCorners.f k a0 a1_0 a1_1 bt333.1 bt333.2).bind fun bt343 => ((impl_rangeFrom.f bt343.1 bt343.2).bind fun bt345 => (if bt343.1 < (-2147483648) then (impl_rangeShift.j0 k ([] : List Int) true a2_0 a2_1 bt333.1 bt333.2 bt345.1 bt345.2) else (impl_rangeShift.j0 k ([] : List Int) (decide (bt343.2 > 2147483647)) a2_0 a2_1 bt333.1 bt333.2 bt345.1 bt345.2)))))))
theorem impl_rangeShift.mono_l : ∀ k, (∀ y0 y1 y2 y3 y4 y5 y6 y7, LeO (impl_rangeShift.j0 k y0 y1 y2 y3 y4 y5 y6 y7) (impl_rangeShift.j0 (k + 1) y0 y1 y2 y3 y4 y5 y6 y7))
 | 0 => fun _ _ _ _ _ _ _ _ r h => by simp [impl_rangeShift.j0] at h
 | k + 1 => by
  have ih0 := impl_rangeShift.mono_l k
  ·intro y0 y1 y2 y3 y4 y5 y6 y7
   unfold impl_rangeShift.j0
   repeat' first | (with_reducible first | apply ih0 | apply impl_RangeMeet.mono | apply impl_rangeCorners.mono | apply LeO.refl | apply LeO.none | refine LeO.ite ?_ ?_ | refine LeO.bind ?_ (fun _ => ?_)) | apply ih0 | apply impl_RangeMeet.mono | apply impl_rangeCorners.mono | apply LeO.none | refine LeO.ite ?_ ?_ | refine LeO.bind ?_ (fun _ => ?_)
theorem impl_rangeShift.mono : ∀ a0 a1 a2 a3 a4 k, LeO (impl_rangeShift.f k a0 a1 a2 a3 a4) (impl_rangeShift.f (k + 1) a0 a1 a2 a3 a4) := by
 intro a0 a1 a2 a3 a4 k
 have ih0 := impl_rangeShift.mono_l k
 unfold impl_rangeShift.f
 repeat' first | (with_reducible first | apply ih0 | apply impl_RangeMeet.mono | apply impl_rangeCorners.mono | apply LeO.refl | apply LeO.none | refine LeO.ite ?_ ?_ | refine LeO.bind ?_ (fun _ => ?_)) | apply ih0 | apply impl_RangeMeet.mono | apply impl_rangeCorners.mono | apply LeO.none | refine LeO.ite ?_ ?_ | refine LeO.bind ?_ (fun _ => ?_)
set_option maxHeartbeats 8000000 in
set_option maxRecDepth 100000 in
theorem impl_rangeShift.calls (k : Nat) (a0 : Int) (a1_0 : Int) (a1_1 : Int) (a2_0 : Int) (a2_1 : Int) (r1 : Int) (r2 : Int) (r3 : List Int) (w : World) (h : impl_rangeShift.f k a0 a1_0 a1_1 a2_0 a2_1 = some (r1, r2, r3)) :
  Calls Try.prog 52 #[.int .i64 a0, .agg #[.int .i64 a1_0, .int .i64 a1_1], .agg #[.int .i64 a2_0, .int .i64 a2_1]] w fun e w' => ∃ v2_ : Value, e = .returned (.tuple #[.agg #[.int .i64 r1, .int .i64 r2], v2_]) ∧ Kd.R (Kd.int .i64) 3 w' w.heap.size (fun _ => True) v2_ r3 ∧ Below w.heap.size w w' := by
 have hu24 := Try.underlying24
 have HB := am (Below.refl w.heap.size w)
 have H : ((impl_RangeMeet.f k a2_0 a2_1 0 31).bind fun bt333 => ((impl_rangeNone.f).bind fun bt336 => ((impl_Range_empty.f bt333.1 bt333.2).bind fun t339 => (if t339 = true then (if (!(bt333.1 == a2_0) || (!(bt333.2 == a2_1))) = true then (if ([] : List Int).length < 17592186044416 then (some (bt336.1, bt336.2, (([] : List Int) ++ [3]))) else (none)) else (some (bt336.1, bt336.2, ([] : List Int)))) else ((impl_rangeCorners.f k a0 a1_0 a1_1 bt333.1 bt333.2).bind fun bt343 => ((impl_rangeFrom.f bt343.1 bt343.2).bind fun bt345 => (if bt343.1 < (-2147483648) then (impl_rangeShift.j0 k ([] : List Int) true a2_0 a2_1 bt333.1 bt333.2 bt345.1 bt345.2) else (impl_rangeShift.j0 k ([] : List Int) (decide (bt343.2 > 2147483647)) a2_0 a2_1 bt333.1 bt333.2 bt345.1 bt345.2)))))))) = some (r1, r2, r3) := h
 clear h
 obtain ⟨⟨t333, t334⟩, A4, H⟩ := bd H
 try dsimp only at H
 obtain ⟨⟨t336, t337⟩, A5, H⟩ := bd H
 try dsimp only at H
 obtain ⟨t339, A6, H⟩ := bd H
 try dsimp only at H
 by_cases c7 : t339 = true
 ·subst c7
  rw [if_pos rfl] at H
  by_cases c8 : (!(t333 == a2_0) || (!(t334 == a2_1))) = true
  rotate_left
  ·rw [if_neg c8] at H
   have c8b0 : (!(t333 == a2_0) || (!(t334 == a2_1))) = false := by simpa using c8
   clear c8
   simp only [Option.some.injEq, Prod.mk.injEq] at H
   obtain ⟨rfl, rfl, rfl⟩ := H
   go_enter Try.func52, Try.ntmps52
   go_wp2_with (first | ((with_reducible refine gate_dst (N := 4) rfl ?_); refine bx 4 #[.int .i64 a1_0, .int .i64 a1_1] 24 ?_; intro gb330 hg w37 hbox hb; have BK330 := am (hbox); have GW330 := am (bs hg (YA HB)); have GE330 := GW330; replace HB := am (below_step (YA HB) hb); clear hb hbox hg) | ((with_reducible refine gate_dst (N := 5) rfl ?_); refine bx 5 #[.int .i64 a2_0, .int .i64 a2_1] 24 ?_; intro gb331 hg w38 hbox hb; have BK331 := am (hbox); have GW331 := am (bs hg (YA HB)); have GE331 := GW331; obtain ⟨NB330_331,NB331_330⟩ := ne_ hg BK330; obtain ⟨BK330, HB⟩ := bk1 BK330 HB hb; clear hb hbox hg) | ((with_reducible refine gate_dst (N := 6) rfl ?_); refine bx 6 #[.int .i64 0, .int .i64 0] 24 ?_; intro gb332 hg w39 hbox hb; have BK332 := am (hbox); have GW332 := am (bs hg (YA HB)); have GE332 := GW332; obtain ⟨NB330_332,NB332_330⟩ := ne_ hg BK330; obtain ⟨NB331_332,NB332_331⟩ := ne_ hg BK331; obtain ⟨BK330, BK331, HB⟩ := bk2 BK330 BK331 HB hb; clear hb hbox hg; obtain ⟨hnb40,hnc40⟩ := nn NB331_330; obtain ⟨hnb41,hnc41⟩ := nn NB331_332; obtain ⟨hcz42_0,hcz42_1,hfz42_0,hfz42_1⟩ := cB2 BK331) | ((with_reducible refine gate_callee (f := 93) rfl ?_); refine gL 15 Try.func93 (impl_RangeMeet.calls _ _ _ _ _ _ _ _ A4.out) fun w43 hb => ?_; obtain ⟨BK330, BK331, BK332, HB⟩ := bk3 BK330 BK331 BK332 HB hb; (try clear hb)) | ((with_reducible refine gate_dst (N := 8) rfl ?_); refine bx 8 #[.int .i64 0, .int .i64 0] 24 ?_; intro gb335 hg w44 hbox hb; have BK335 := am (hbox); have GW335 := am (bs hg (YA HB)); have GE335 := GW335; obtain ⟨NB330_335,NB335_330⟩ := ne_ hg BK330; obtain ⟨NB331_335,NB335_331⟩ := ne_ hg BK331; obtain ⟨NB332_335,NB335_332⟩ := ne_ hg BK332; obtain ⟨BK330, BK331, BK332, HB⟩ := bk3 BK330 BK331 BK332 HB hb; clear hb hbox hg; obtain ⟨hnb45,hnc45⟩ := nn NB335_330; obtain ⟨hnb46,hnc46⟩ := nn NB335_331; obtain ⟨hnb47,hnc47⟩ := nn NB335_332; obtain ⟨hcz48_0,hcz48_1,hfz48_0,hfz48_1⟩ := cB2 BK335) | ((with_reducible refine gate_callee (f := 48) rfl ?_); refine gL 16 Try.func48 (impl_rangeNone.calls _ _ _ A5.out) fun w49 hb => ?_; replace BK330 := am (blk_below (g := gb330) (o := b2 a1_0 a1_1 24) (by refine fa NB330_335 ?_; refine fa NB330_335 ?_; exact Z BK330) hb); replace BK331 := am (blk_below (g := gb331) (o := b2 a2_0 a2_1 24) (by refine fa NB331_335 ?_; refine fa NB331_335 ?_; exact Z BK331) hb); replace BK332 := am (blk_below (g := gb332) (o := b2 0 0 24) (by refine fa NB332_335 ?_; refine fa NB332_335 ?_; exact Z BK332) hb); replace BK335 := am (blk_below (g := gb335) (o := b2 t333 t334 24) (by refine pf ?_; refine blk_put (cs := #[.int .i64 t333, .int .i64 0]) ?_ 1 _ rfl; refine pf ?_; refine blk_put (cs := #[.int .i64 0, .int .i64 0]) ?_ 0 _ rfl; exact Z BK335) hb); replace HB := am (below_step (YA HB) hb); (try clear hb)) | ((with_reducible refine gate_dst (N := 9) rfl ?_); refine bx 9 #[.int .i64 0, .int .i64 0] 24 ?_; intro gb338 hg w50 hbox hb; have BK338 := am (hbox); have GW338 := am (bs hg (YA HB)); have GE338 := GW338; obtain ⟨NB330_338,NB338_330⟩ := ne_ hg BK330; obtain ⟨NB331_338,NB338_331⟩ := ne_ hg BK331; obtain ⟨NB332_338,NB338_332⟩ := ne_ hg BK332; obtain ⟨NB335_338,NB338_335⟩ := ne_ hg BK335; obtain ⟨BK330, BK331, BK332, BK335, HB⟩ := bk4 BK330 BK331 BK332 BK335 HB hb; clear hb hbox hg; obtain ⟨hnb51,hnc51⟩ := nn NB338_330; obtain ⟨hnb52,hnc52⟩ := nn NB338_331; obtain ⟨hnb53,hnc53⟩ := nn NB338_332; obtain ⟨hnb54,hnc54⟩ := nn NB338_335; obtain ⟨hcz55_0,hcz55_1,hfz55_0,hfz55_1⟩ := cB2 BK338; obtain ⟨hcz56_0,hcz56_1,hfz56_0,hfz56_1⟩ := cB2 BK335) | ((with_reducible refine gate_callee (f := 47) rfl ?_); refine gL 18 Try.func47 (impl_Range_empty.calls _ _ _ _ A6.out) fun w57 hb => ?_; replace BK330 := am (blk_below (g := gb330) (o := b2 a1_0 a1_1 24) (by refine fa NB330_338 ?_; refine fa NB330_338 ?_; exact Z BK330) hb); replace BK331 := am (blk_below (g := gb331) (o := b2 a2_0 a2_1 24) (by refine fa NB331_338 ?_; refine fa NB331_338 ?_; exact Z BK331) hb); replace BK332 := am (blk_below (g := gb332) (o := b2 0 0 24) (by refine fa NB332_338 ?_; refine fa NB332_338 ?_; exact Z BK332) hb); replace BK335 := am (blk_below (g := gb335) (o := b2 t333 t334 24) (by refine fa NB335_338 ?_; refine fa NB335_338 ?_; exact Z BK335) hb); replace BK338 := am (blk_below (g := gb338) (o := b2 t336 t337 24) (by refine pf ?_; refine blk_put (cs := #[.int .i64 t336, .int .i64 0]) ?_ 1 _ rfl; refine pf ?_; refine blk_put (cs := #[.int .i64 0, .int .i64 0]) ?_ 0 _ rfl; exact Z BK338) hb); replace HB := am (below_step (YA HB) hb); (try clear hb); obtain ⟨hcz58_0,hcz58_1,hfz58_0,hfz58_1⟩ := cB2 BK335; obtain ⟨hcz59_0,hcz59_1,hfz59_0,hfz59_1⟩ := cB2 BK331; obtain ⟨hcz60_0,hcz60_1,hfz60_0,hfz60_1⟩ := cB2 BK338; obtain ⟨hnb61,hnc61⟩ := nn NB332_330; obtain ⟨hcz62_0,hcz62_1,hfz62_0,hfz62_1⟩ := cB2 BK332))
   refine bodyPost_ret (results_ct rfl _ _ gb332 24 #[.int .i64 t336, .int .i64 t337] (0, 0) _ rfl (by refine pf ?_; refine blk_put (cs := #[.int .i64 t336, .int .i64 0]) ?_ 1 _ rfl; refine pf ?_; refine blk_put (cs := #[.int .i64 0, .int .i64 0]) ?_ 0 _ rfl; exact Z BK332) Try.underlying24 rfl (by kernel_rfl)) rfl ?_
   exact ⟨_, ez, by first | exact Kd.R_nil _ _ _ _ _ | exact Kd.N_nil _ _ _ _ _ | exact Kd.V_nil _ _ _ _ _ | exact Kd.Q_nil _ _ _ _ _ | exact Kd.S_nil _ _ _ _ _, YA HB⟩
  rw [if_pos c8] at H
  have c8b0 : (!(t333 == a2_0) || (!(t334 == a2_1))) = true := c8
  clear c8
  by_cases c9 : ([] : List Int).length < 17592186044416
  rotate_left
  ·rw [if_neg c9] at H
   exact absurd H (by simp)
  rw [if_pos c9] at H
  have LMc9 := am c9
  clear c9
  obtain ⟨y340, hy340⟩ : ∃ y_ : List Int, y_ = (([] : List Int) ++ [3]) := ⟨_, rfl⟩
  replace H : (some (t336, t337, y340)) = some (r1, r2, r3) := by first | (rw [hy340]; with_reducible exact H) | (have H2_ := (Option.bind_some _ _).symm.trans H; rw [hy340]; with_reducible exact H2_) | (have H2_ := (Option.bind_some _ _).symm.trans H; with_reducible exact H2_) | with_reducible exact H | (rw [hy340]; exact H) | exact H
  have Ny340 := am hy340
  clear hy340
  simp only [Option.some.injEq, Prod.mk.injEq] at H
  obtain ⟨rfl, rfl, rfl⟩ := H
  go_enter Try.func52, Try.ntmps52
  go_wp2_with (first | ((with_reducible refine gate_dst (N := 4) rfl ?_); refine bx 4 #[.int .i64 a1_0, .int .i64 a1_1] 24 ?_; intro gb330 hg w10 hbox hb; have BK330 := am (hbox); have GW330 := am (bs hg (YA HB)); have GE330 := GW330; replace HB := am (below_step (YA HB) hb); clear hb hbox hg) | ((with_reducible refine gate_dst (N := 5) rfl ?_); refine bx 5 #[.int .i64 a2_0, .int .i64 a2_1] 24 ?_; intro gb331 hg w11 hbox hb; have BK331 := am (hbox); have GW331 := am (bs hg (YA HB)); have GE331 := GW331; obtain ⟨NB330_331,NB331_330⟩ := ne_ hg BK330; obtain ⟨BK330, HB⟩ := bk1 BK330 HB hb; clear hb hbox hg) | ((with_reducible refine gate_dst (N := 6) rfl ?_); refine bx 6 #[.int .i64 0, .int .i64 0] 24 ?_; intro gb332 hg w12 hbox hb; have BK332 := am (hbox); have GW332 := am (bs hg (YA HB)); have GE332 := GW332; obtain ⟨NB330_332,NB332_330⟩ := ne_ hg BK330; obtain ⟨NB331_332,NB332_331⟩ := ne_ hg BK331; obtain ⟨BK330, BK331, HB⟩ := bk2 BK330 BK331 HB hb; clear hb hbox hg; obtain ⟨hnb13,hnc13⟩ := nn NB331_330; obtain ⟨hnb14,hnc14⟩ := nn NB331_332; obtain ⟨hcz15_0,hcz15_1,hfz15_0,hfz15_1⟩ := cB2 BK331) | ((with_reducible refine gate_callee (f := 93) rfl ?_); refine gL 15 Try.func93 (impl_RangeMeet.calls _ _ _ _ _ _ _ _ A4.out) fun w16 hb => ?_; obtain ⟨BK330, BK331, BK332, HB⟩ := bk3 BK330 BK331 BK332 HB hb; (try clear hb)) | ((with_reducible refine gate_dst (N := 8) rfl ?_); refine bx 8 #[.int .i64 0, .int .i64 0] 24 ?_; intro gb335 hg w17 hbox hb; have BK335 := am (hbox); have GW335 := am (bs hg (YA HB)); have GE335 := GW335; obtain ⟨NB330_335,NB335_330⟩ := ne_ hg BK330; obtain ⟨NB331_335,NB335_331⟩ := ne_ hg BK331; obtain ⟨NB332_335,NB335_332⟩ := ne_ hg BK332; obtain ⟨BK330, BK331, BK332, HB⟩ := bk3 BK330 BK331 BK332 HB hb; clear hb hbox hg; obtain ⟨hnb18,hnc18⟩ := nn NB335_330; obtain ⟨hnb19,hnc19⟩ := nn NB335_331; obtain ⟨hnb20,hnc20⟩ := nn NB335_332; obtain ⟨hcz21_0,hcz21_1,hfz21_0,hfz21_1⟩ := cB2 BK335) | ((with_reducible refine gate_callee (f := 48) rfl ?_); refine gL 16 Try.func48 (impl_rangeNone.calls _ _ _ A5.out) fun w22 hb => ?_; replace BK330 := am (blk_below (g := gb330) (o := b2 a1_0 a1_1 24) (by refine fa NB330_335 ?_; refine fa NB330_335 ?_; exact Z BK330) hb); replace BK331 := am (blk_below (g := gb331) (o := b2 a2_0 a2_1 24) (by refine fa NB331_335 ?_; refine fa NB331_335 ?_; exact Z BK331) hb); replace BK332 := am (blk_below (g := gb332) (o := b2 0 0 24) (by refine fa NB332_335 ?_; refine fa NB332_335 ?_; exact Z BK332) hb); replace BK335 := am (blk_below (g := gb335) (o := b2 t333 t334 24) (by refine pf ?_; refine blk_put (cs := #[.int .i64 t333, .int .i64 0]) ?_ 1 _ rfl; refine pf ?_; refine blk_put (cs := #[.int .i64 0, .int .i64 0]) ?_ 0 _ rfl; exact Z BK335) hb); replace HB := am (below_step (YA HB) hb); (try clear hb)) | ((with_reducible refine gate_dst (N := 9) rfl ?_); refine bx 9 #[.int .i64 0, .int .i64 0] 24 ?_; intro gb338 hg w23 hbox hb; have BK338 := am (hbox); have GW338 := am (bs hg (YA HB)); have GE338 := GW338; obtain ⟨NB330_338,NB338_330⟩ := ne_ hg BK330; obtain ⟨NB331_338,NB338_331⟩ := ne_ hg BK331; obtain ⟨NB332_338,NB338_332⟩ := ne_ hg BK332; obtain ⟨NB335_338,NB338_335⟩ := ne_ hg BK335; obtain ⟨BK330, BK331, BK332, BK335, HB⟩ := bk4 BK330 BK331 BK332 BK335 HB hb; clear hb hbox hg; obtain ⟨hnb24,hnc24⟩ := nn NB338_330; obtain ⟨hnb25,hnc25⟩ := nn NB338_331; obtain ⟨hnb26,hnc26⟩ := nn NB338_332; obtain ⟨hnb27,hnc27⟩ := nn NB338_335; obtain ⟨hcz28_0,hcz28_1,hfz28_0,hfz28_1⟩ := cB2 BK338; obtain ⟨hcz29_0,hcz29_1,hfz29_0,hfz29_1⟩ := cB2 BK335) | ((with_reducible refine gate_callee (f := 47) rfl ?_); refine gL 18 Try.func47 (impl_Range_empty.calls _ _ _ _ A6.out) fun w30 hb => ?_; replace BK330 := am (blk_below (g := gb330) (o := b2 a1_0 a1_1 24) (by refine fa NB330_338 ?_; refine fa NB330_338 ?_; exact Z BK330) hb); replace BK331 := am (blk_below (g := gb331) (o := b2 a2_0 a2_1 24) (by refine fa NB331_338 ?_; refine fa NB331_338 ?_; exact Z BK331) hb); replace BK332 := am (blk_below (g := gb332) (o := b2 0 0 24) (by refine fa NB332_338 ?_; refine fa NB332_338 ?_; exact Z BK332) hb); replace BK335 := am (blk_below (g := gb335) (o := b2 t333 t334 24) (by refine fa NB335_338 ?_; refine fa NB335_338 ?_; exact Z BK335) hb); replace BK338 := am (blk_below (g := gb338) (o := b2 t336 t337 24) (by refine pf ?_; refine blk_put (cs := #[.int .i64 t336, .int .i64 0]) ?_ 1 _ rfl; refine pf ?_; refine blk_put (cs := #[.int .i64 0, .int .i64 0]) ?_ 0 _ rfl; exact Z BK338) hb); replace HB := am (below_step (YA HB) hb); (try clear hb); obtain ⟨hcz31_0,hcz31_1,hfz31_0,hfz31_1⟩ := cB2 BK335; obtain ⟨hcz32_0,hcz32_1,hfz32_0,hfz32_1⟩ := cB2 BK331) | ((with_reducible refine gate_builtin (b := .append) (xs := #[.tmp 42, .tmp 43]) rfl ?_); at_builtin; refine Kd.R_append (Kd.int .i64) (w0 := w) w.heap.size rfl (.tmp 42) (.tmp 43) 25 3 (.int .i64 0) 8 rfl Try.underlying25 info3 rfl (by decide) (by omega) (.slice none 0 0) ([] : List Int) 3 [.int .i64 3] (fun _ => True) (fun _ => False) rfl rfl ?aP (fun _ hk => hk.elim) ?aF ?aO ?aB ?aS ?aL ?_; (case aP => exact rfl); (case aB => exact (YA HB)); (case aF => exact (fun _ _ => trivial)); (case aO => exact ((Kd.R_nil _ _ _ _ (fun _ => True)))); (case aS => exact (below_size (YA HB))); (case aL => have := LMc9.out; omega); intro v341 w33 ho hb hg hat; rw [← Ny340.out] at ho; have HO342 := am (ho); replace BK330 := am (blk_grown (g := gb330) (o := b2 a1_0 a1_1 24) (Z BK330) hg (by simp [Value.ownBlock])); replace BK331 := am (blk_grown (g := gb331) (o := b2 a2_0 a2_1 24) (Z BK331) hg (by simp [Value.ownBlock])); replace BK332 := am (blk_grown (g := gb332) (o := b2 0 0 24) (Z BK332) hg (by simp [Value.ownBlock])); replace BK335 := am (blk_grown (g := gb335) (o := b2 t333 t334 24) (Z BK335) hg (by simp [Value.ownBlock])); replace BK338 := am (blk_grown (g := gb338) (o := b2 t336 t337 24) (Z BK338) hg (by simp [Value.ownBlock])); replace HB := am (hb); clear ho hb hg hat; obtain ⟨hcz34_0,hcz34_1,hfz34_0,hfz34_1⟩ := cB2 BK338; obtain ⟨hnb35,hnc35⟩ := nn NB332_330; obtain ⟨hcz36_0,hcz36_1,hfz36_0,hfz36_1⟩ := cB2 BK332))
  refine bodyPost_ret (results_ct rfl _ _ gb332 24 #[.int .i64 t336, .int .i64 t337] (0, 0) _ rfl (by refine pf ?_; refine blk_put (cs := #[.int .i64 t336, .int .i64 0]) ?_ 1 _ rfl; refine pf ?_; refine blk_put (cs := #[.int .i64 0, .int .i64 0]) ?_ 0 _ rfl; exact Z BK332) Try.underlying24 rfl (by kernel_rfl)) rfl ?_
  exact ⟨_, ez, by (with_reducible repeat (first | apply Kd.R_alloc | apply Kd.R_drewN | apply Kd.R_drew)); exact Kd.R_mono (Kd.R_far (p := ⟨gb332, 1, none⟩) (Kd.R_far (p := ⟨gb332, 0, none⟩) (Kd.R_types HO342.out BK332.out (by decide)) (fun _ hk => hk.2) (.int .i64 t336)) (fun _ hk => hk.2) (.int .i64 t337)) (fun _ hk => trivial), YA HB⟩
 replace c7 := Bool.eq_false_iff.mpr c7
 subst c7
 rw [if_neg ff] at H
 obtain ⟨⟨t343, t344⟩, A63, H⟩ := bd H
 try dsimp only at H
 obtain ⟨⟨t345, t346⟩, A64, H⟩ := bd H
 try dsimp only at H
 have HC65 := am H
 clear H
 go_enter Try.func52, Try.ntmps52
 go_upto_region 7 with (first | ((with_reducible refine gate_dst (N := 4) rfl ?_); refine bx 4 #[.int .i64 a1_0, .int .i64 a1_1] 24 ?_; intro gb330 hg w66 hbox hb; have BK330 := am (hbox); have GW330 := am (bs hg (YA HB)); have GE330 := GW330; replace HB := am (below_step (YA HB) hb); clear hb hbox hg) | ((with_reducible refine gate_dst (N := 5) rfl ?_); refine bx 5 #[.int .i64 a2_0, .int .i64 a2_1] 24 ?_; intro gb331 hg w67 hbox hb; have BK331 := am (hbox); have GW331 := am (bs hg (YA HB)); have GE331 := GW331; obtain ⟨NB330_331,NB331_330⟩ := ne_ hg BK330; obtain ⟨BK330, HB⟩ := bk1 BK330 HB hb; clear hb hbox hg) | ((with_reducible refine gate_dst (N := 6) rfl ?_); refine bx 6 #[.int .i64 0, .int .i64 0] 24 ?_; intro gb332 hg w68 hbox hb; have BK332 := am (hbox); have GW332 := am (bs hg (YA HB)); have GE332 := GW332; obtain ⟨NB330_332,NB332_330⟩ := ne_ hg BK330; obtain ⟨NB331_332,NB332_331⟩ := ne_ hg BK331; obtain ⟨BK330, BK331, HB⟩ := bk2 BK330 BK331 HB hb; clear hb hbox hg; obtain ⟨hnb69,hnc69⟩ := nn NB331_330; obtain ⟨hnb70,hnc70⟩ := nn NB331_332; obtain ⟨hcz71_0,hcz71_1,hfz71_0,hfz71_1⟩ := cB2 BK331) | ((with_reducible refine gate_callee (f := 93) rfl ?_); refine gL 15 Try.func93 (impl_RangeMeet.calls _ _ _ _ _ _ _ _ A4.out) fun w72 hb => ?_; obtain ⟨BK330, BK331, BK332, HB⟩ := bk3 BK330 BK331 BK332 HB hb; (try clear hb)) | ((with_reducible refine gate_dst (N := 8) rfl ?_); refine bx 8 #[.int .i64 0, .int .i64 0] 24 ?_; intro gb335 hg w73 hbox hb; have BK335 := am (hbox); have GW335 := am (bs hg (YA HB)); have GE335 := GW335; obtain ⟨NB330_335,NB335_330⟩ := ne_ hg BK330; obtain ⟨NB331_335,NB335_331⟩ := ne_ hg BK331; obtain ⟨NB332_335,NB335_332⟩ := ne_ hg BK332; obtain ⟨BK330, BK331, BK332, HB⟩ := bk3 BK330 BK331 BK332 HB hb; clear hb hbox hg; obtain ⟨hnb74,hnc74⟩ := nn NB335_330; obtain ⟨hnb75,hnc75⟩ := nn NB335_331; obtain ⟨hnb76,hnc76⟩ := nn NB335_332; obtain ⟨hcz77_0,hcz77_1,hfz77_0,hfz77_1⟩ := cB2 BK335) | ((with_reducible refine gate_callee (f := 48) rfl ?_); refine gL 16 Try.func48 (impl_rangeNone.calls _ _ _ A5.out) fun w78 hb => ?_; replace BK330 := am (blk_below (g := gb330) (o := b2 a1_0 a1_1 24) (by refine fa NB330_335 ?_; refine fa NB330_335 ?_; exact Z BK330) hb); replace BK331 := am (blk_below (g := gb331) (o := b2 a2_0 a2_1 24) (by refine fa NB331_335 ?_; refine fa NB331_335 ?_; exact Z BK331) hb); replace BK332 := am (blk_below (g := gb332) (o := b2 0 0 24) (by refine fa NB332_335 ?_; refine fa NB332_335 ?_; exact Z BK332) hb); replace BK335 := am (blk_below (g := gb335) (o := b2 t333 t334 24) (by refine pf ?_; refine blk_put (cs := #[.int .i64 t333, .int .i64 0]) ?_ 1 _ rfl; refine pf ?_; refine blk_put (cs := #[.int .i64 0, .int .i64 0]) ?_ 0 _ rfl; exact Z BK335) hb); replace HB := am (below_step (YA HB) hb); (try clear hb)) | ((with_reducible refine gate_dst (N := 9) rfl ?_); refine bx 9 #[.int .i64 0, .int .i64 0] 24 ?_; intro gb338 hg w79 hbox hb; have BK338 := am (hbox); have GW338 := am (bs hg (YA HB)); have GE338 := GW338; obtain ⟨NB330_338,NB338_330⟩ := ne_ hg BK330; obtain ⟨NB331_338,NB338_331⟩ := ne_ hg BK331; obtain ⟨NB332_338,NB338_332⟩ := ne_ hg BK332; obtain ⟨NB335_338,NB338_335⟩ := ne_ hg BK335; obtain ⟨BK330, BK331, BK332, BK335, HB⟩ := bk4 BK330 BK331 BK332 BK335 HB hb; clear hb hbox hg; obtain ⟨hnb80,hnc80⟩ := nn NB338_330; obtain ⟨hnb81,hnc81⟩ := nn NB338_331; obtain ⟨hnb82,hnc82⟩ := nn NB338_332; obtain ⟨hnb83,hnc83⟩ := nn NB338_335; obtain ⟨hcz84_0,hcz84_1,hfz84_0,hfz84_1⟩ := cB2 BK338; obtain ⟨hcz85_0,hcz85_1,hfz85_0,hfz85_1⟩ := cB2 BK335) | ((with_reducible refine gate_callee (f := 47) rfl ?_); refine gL 18 Try.func47 (impl_Range_empty.calls _ _ _ _ A6.out) fun w86 hb => ?_; replace BK330 := am (blk_below (g := gb330) (o := b2 a1_0 a1_1 24) (by refine fa NB330_338 ?_; refine fa NB330_338 ?_; exact Z BK330) hb); replace BK331 := am (blk_below (g := gb331) (o := b2 a2_0 a2_1 24) (by refine fa NB331_338 ?_; refine fa NB331_338 ?_; exact Z BK331) hb); replace BK332 := am (blk_below (g := gb332) (o := b2 0 0 24) (by refine fa NB332_338 ?_; refine fa NB332_338 ?_; exact Z BK332) hb); replace BK335 := am (blk_below (g := gb335) (o := b2 t333 t334 24) (by refine fa NB335_338 ?_; refine fa NB335_338 ?_; exact Z BK335) hb); replace BK338 := am (blk_below (g := gb338) (o := b2 t336 t337 24) (by refine pf ?_; refine blk_put (cs := #[.int .i64 t336, .int .i64 0]) ?_ 1 _ rfl; refine pf ?_; refine blk_put (cs := #[.int .i64 0, .int .i64 0]) ?_ 0 _ rfl; exact Z BK338) hb); replace HB := am (below_step (YA HB) hb); (try clear hb); obtain ⟨hnb87,hnc87⟩ := nn NB330_332; obtain ⟨hcz88_0,hcz88_1,hfz88_0,hfz88_1⟩ := cB2 BK330; obtain ⟨hcz89_0,hcz89_1,hfz89_0,hfz89_1⟩ := cB2 BK335) | ((with_reducible refine gate_callee (f := 49) rfl ?_); refine gL 24 Try.func49 (impl_rangeCorners.calls _ _ _ _ _ _ _ _ _ A63.out) fun w90 hb => ?_; obtain ⟨BK330, BK331, BK332, BK335, BK338, HB⟩ := bk5 BK330 BK331 BK332 BK335 BK338 HB hb; (try clear hb)) | ((with_reducible refine gate_callee (f := 50) rfl ?_); refine gL 29 Try.func50 (impl_rangeFrom.calls _ _ _ _ _ A64.out) fun w91 hb => ?_; obtain ⟨BK330, BK331, BK332, BK335, BK338, HB⟩ := bk5 BK330 BK331 BK332 BK335 BK338 HB hb; (try clear hb); obtain ⟨hcz92_0,hcz92_1,hfz92_0,hfz92_1⟩ := cB2 BK338))
 (try simp only [Act.put, List.setIfInBounds_toArray, List.set_cons_zero, List.set_cons_succ])
 go_cut [35] (fun v35 wc => ∃ (kq : Nat) (x35_64 : Bool), v35 = .bool x35_64 ∧ Aside0 (impl_rangeShift.j0 kq ([] : List Int) x35_64 a2_0 a2_1 t333 t334 t345 t346 = some (r1, r2, r3)) ∧ Aside0 (kq ≤ k) ∧ Aside0 (Kd.R (Kd.int .i64) 3 wc w.heap.size (fun _ => True) (.slice none 0 0) ([] : List Int)) ∧ Bx2 wc gb330 a1_0 a1_1 24 ∧ Bx2 wc gb331 a2_0 a2_1 24 ∧ Bx2 wc gb332 0 0 24 ∧ Bx2 wc gb335 t333 t334 24 ∧ Bx2 wc gb338 t345 t346 24 ∧ Aside0 (Below w.heap.size w wc))
 case first =>
  have H := HC65.out
  clear HC65
  by_cases c93 : t343 < (-2147483648)
  ·rw [if_pos c93] at H
   have c93b0 := dT c93
   clear c93
   (first | rw [c93b0] | (simp only [i64_w, i32_w]; rw [c93b0]) | skip)
   have H' := am H
   clear H
   go_wp2
   go_meet
   case rel => exact ⟨_, (true), ey, H', le0, ⟨by first | exact Kd.R_nil _ _ _ _ _ | exact Kd.N_nil _ _ _ _ _ | exact Kd.V_nil _ _ _ _ _ | exact Kd.Q_nil _ _ _ _ _ | exact Kd.S_nil _ _ _ _ _⟩, ⟨by refine fa NB330_338 ?_; refine fa NB330_338 ?_; exact Z BK330⟩, ⟨by refine fa NB331_338 ?_; refine fa NB331_338 ?_; exact Z BK331⟩, ⟨by refine fa NB332_338 ?_; refine fa NB332_338 ?_; exact Z BK332⟩, ⟨by refine fa NB335_338 ?_; refine fa NB335_338 ?_; exact Z BK335⟩, ⟨by refine pf ?_; refine blk_put (cs := #[.int .i64 t345, .int .i64 t337]) ?_ 1 _ rfl; refine pf ?_; refine blk_put (cs := #[.int .i64 t336, .int .i64 t337]) ?_ 0 _ rfl; exact Z BK338⟩, ⟨YA HB⟩⟩
  rw [if_neg c93] at H
  have c93b0 := dF c93
  clear c93
  (first | rw [c93b0] | (simp only [i64_w, i32_w]; rw [c93b0]) | skip)
  have H' := am H
  clear H
  go_wp2
  go_meet
  case rel => exact ⟨_, (decide (t344 > 2147483647)), ey, H', le0, ⟨by first | exact Kd.R_nil _ _ _ _ _ | exact Kd.N_nil _ _ _ _ _ | exact Kd.V_nil _ _ _ _ _ | exact Kd.Q_nil _ _ _ _ _ | exact Kd.S_nil _ _ _ _ _⟩, ⟨by refine fa NB330_338 ?_; refine fa NB330_338 ?_; exact Z BK330⟩, ⟨by refine fa NB331_338 ?_; refine fa NB331_338 ?_; exact Z BK331⟩, ⟨by refine fa NB332_338 ?_; refine fa NB332_338 ?_; exact Z BK332⟩, ⟨by refine fa NB335_338 ?_; refine fa NB335_338 ?_; exact Z BK335⟩, ⟨by refine pf ?_; refine blk_put (cs := #[.int .i64 t345, .int .i64 t337]) ?_ 1 _ rfl; refine pf ?_; refine blk_put (cs := #[.int .i64 t336, .int .i64 t337]) ?_ 0 _ rfl; exact Z BK338⟩, ⟨YA HB⟩⟩
 case rest =>
  clear HC65
  (try clear c7);(try clear hcz71_0);(try clear hcz71_1);(try clear hcz77_0);(try clear hcz77_1);(try clear hcz84_0);(try clear hcz84_1);(try clear hcz85_0);(try clear hcz85_1);(try clear hcz88_0);(try clear hcz88_1);(try clear hcz89_0);(try clear hcz89_1);(try clear hcz92_0);(try clear hcz92_1);(try clear hfz71_0);(try clear hfz71_1);(try clear hfz77_0);(try clear hfz77_1);(try clear hfz84_0);(try clear hfz84_1);(try clear hfz85_0);(try clear hfz85_1);(try clear hfz88_0);(try clear hfz88_1);(try clear hfz89_0);(try clear hfz89_1);(try clear hfz92_0);(try clear hfz92_1)
  obtain ⟨kq, x35_64, rfl, HA, HJ64, HO_10, BK330, BK331, BK332, BK335, BK338, HB⟩ := hcut
  cases kq with
  | zero => exact absurd HA.out (by simp [impl_rangeShift.j0])
  | succ kj64 =>
   have H := HA.out
   clear HA
   simp only [impl_rangeShift.j0] at H
   by_cases c94 : x35_64 = true
   rotate_left
   ·replace c94 := Bool.eq_false_iff.mpr c94
    subst c94
    rw [if_neg ff] at H
    by_cases c129 : (!(t333 == a2_0) || (!(t334 == a2_1))) = true
    rotate_left
    ·rw [if_neg c129] at H
     have c129b0 : (!(t333 == a2_0) || (!(t334 == a2_1))) = false := by simpa using c129
     clear c129
     simp only [Option.some.injEq, Prod.mk.injEq] at H
     obtain ⟨rfl, rfl, rfl⟩ := H
     obtain ⟨hnb146,hnc146⟩ := nn NB335_330
     obtain ⟨hnb147,hnc147⟩ := nn NB335_331
     obtain ⟨hnb148,hnc148⟩ := nn NB335_332
     obtain ⟨hnb149,hnc149⟩ := nn NB335_338
     obtain ⟨hcz150_0,hcz150_1,hfz150_0,hfz150_1⟩ := cB2 BK335
     obtain ⟨hnb151,hnc151⟩ := nn NB331_330
     obtain ⟨hnb152,hnc152⟩ := nn NB331_332
     obtain ⟨hnb153,hnc153⟩ := nn NB331_338
     obtain ⟨hcz154_0,hcz154_1,hfz154_0,hfz154_1⟩ := cB2 BK331
     obtain ⟨hnb155,hnc155⟩ := nn NB338_330
     obtain ⟨hnb156,hnc156⟩ := nn NB338_332
     obtain ⟨hcz157_0,hcz157_1,hfz157_0,hfz157_1⟩ := cB2 BK338
     obtain ⟨hnb158,hnc158⟩ := nn NB332_330
     obtain ⟨hcz159_0,hcz159_1,hfz159_0,hfz159_1⟩ := cB2 BK332
     go_wp2
     refine bodyPost_ret (results_ct rfl _ _ gb332 24 #[.int .i64 t345, .int .i64 t346] (0, 0) _ rfl (by refine pf ?_; refine blk_put (cs := #[.int .i64 t345, .int .i64 0]) ?_ 1 _ rfl; refine pf ?_; refine blk_put (cs := #[.int .i64 0, .int .i64 0]) ?_ 0 _ rfl; exact Z BK332) Try.underlying24 rfl (by kernel_rfl)) rfl ?_
     exact ⟨_, ez, by (with_reducible repeat (first | apply Kd.R_alloc | apply Kd.R_drewN | apply Kd.R_drew)); exact Kd.R_mono (Kd.R_far (p := ⟨gb332, 1, none⟩) (Kd.R_far (p := ⟨gb332, 0, none⟩) (Kd.R_types HO_10.out BK332.out (by decide)) (fun _ hk => hk.2) (.int .i64 t345)) (fun _ hk => hk.2) (.int .i64 t346)) (fun _ hk => trivial), YA HB⟩
    rw [if_pos c129] at H
    have c129b0 : (!(t333 == a2_0) || (!(t334 == a2_1))) = true := c129
    clear c129
    by_cases c130 : ([] : List Int).length < 17592186044416
    rotate_left
    ·rw [if_neg c130] at H
     exact absurd H (by simp)
    rw [if_pos c130] at H
    have LMc130 := am c130
    clear c130
    obtain ⟨y353, hy353⟩ : ∃ y_ : List Int, y_ = (([] : List Int) ++ [3]) := ⟨_, rfl⟩
    replace H : (some (t345, t346, y353)) = some (r1, r2, r3) := by first | (rw [hy353]; with_reducible exact H) | (have H2_ := (Option.bind_some _ _).symm.trans H; rw [hy353]; with_reducible exact H2_) | (have H2_ := (Option.bind_some _ _).symm.trans H; with_reducible exact H2_) | with_reducible exact H | (rw [hy353]; exact H) | exact H
    have Ny353 := am hy353
    clear hy353
    simp only [Option.some.injEq, Prod.mk.injEq] at H
    obtain ⟨rfl, rfl, rfl⟩ := H
    obtain ⟨hnb131,hnc131⟩ := nn NB335_330
    obtain ⟨hnb132,hnc132⟩ := nn NB335_331
    obtain ⟨hnb133,hnc133⟩ := nn NB335_332
    obtain ⟨hnb134,hnc134⟩ := nn NB335_338
    obtain ⟨hcz135_0,hcz135_1,hfz135_0,hfz135_1⟩ := cB2 BK335
    obtain ⟨hnb136,hnc136⟩ := nn NB331_330
    obtain ⟨hnb137,hnc137⟩ := nn NB331_332
    obtain ⟨hnb138,hnc138⟩ := nn NB331_338
    obtain ⟨hcz139_0,hcz139_1,hfz139_0,hfz139_1⟩ := cB2 BK331
    go_wp2_with (first | ((with_reducible refine gate_builtin (b := .append) (xs := #[.tmp 42, .tmp 43]) rfl ?_); at_builtin; refine Kd.R_append (Kd.int .i64) (w0 := w) w.heap.size rfl (.tmp 42) (.tmp 43) 25 3 (.int .i64 0) 8 rfl Try.underlying25 info3 rfl (by decide) (by omega) (.slice none 0 0) ([] : List Int) 3 [.int .i64 3] (fun _ => True) (fun _ => False) rfl rfl ?aP (fun _ hk => hk.elim) ?aF ?aO ?aB ?aS ?aL ?_; (case aP => exact rfl); (case aB => exact (YA HB)); (case aF => exact (fun _ _ => trivial)); (case aO => exact (RZ HO_10)); (case aS => exact (below_size (YA HB))); (case aL => have := LMc130.out; omega); intro v354 w140 ho hb hg hat; rw [← Ny353.out] at ho; have HO355 := am (ho); replace BK330 := am (blk_grown (g := gb330) (o := b2 a1_0 a1_1 24) (Z BK330) hg (Kd.R_ne HO_10.out BK330.out (by decide))); replace BK331 := am (blk_grown (g := gb331) (o := b2 a2_0 a2_1 24) (Z BK331) hg (Kd.R_ne HO_10.out BK331.out (by decide))); replace BK332 := am (blk_grown (g := gb332) (o := b2 0 0 24) (Z BK332) hg (Kd.R_ne HO_10.out BK332.out (by decide))); replace BK335 := am (blk_grown (g := gb335) (o := b2 t333 t334 24) (Z BK335) hg (Kd.R_ne HO_10.out BK335.out (by decide))); replace BK338 := am (blk_grown (g := gb338) (o := b2 t345 t346 24) (Z BK338) hg (Kd.R_ne HO_10.out BK338.out (by decide))); replace HB := am (hb); clear HO_10; clear ho hb hg hat; obtain ⟨hnb141,hnc141⟩ := nn NB338_330; obtain ⟨hnb142,hnc142⟩ := nn NB338_332; obtain ⟨hcz143_0,hcz143_1,hfz143_0,hfz143_1⟩ := cB2 BK338; obtain ⟨hnb144,hnc144⟩ := nn NB332_330; obtain ⟨hcz145_0,hcz145_1,hfz145_0,hfz145_1⟩ := cB2 BK332))
    refine bodyPost_ret (results_ct rfl _ _ gb332 24 #[.int .i64 t345, .int .i64 t346] (0, 0) _ rfl (by refine pf ?_; refine blk_put (cs := #[.int .i64 t345, .int .i64 0]) ?_ 1 _ rfl; refine pf ?_; refine blk_put (cs := #[.int .i64 0, .int .i64 0]) ?_ 0 _ rfl; exact Z BK332) Try.underlying24 rfl (by kernel_rfl)) rfl ?_
    exact ⟨_, ez, by (with_reducible repeat (first | apply Kd.R_alloc | apply Kd.R_drewN | apply Kd.R_drew)); exact Kd.R_mono (Kd.R_far (p := ⟨gb332, 1, none⟩) (Kd.R_far (p := ⟨gb332, 0, none⟩) (Kd.R_types HO355.out BK332.out (by decide)) (fun _ hk => hk.2) (.int .i64 t345)) (fun _ hk => hk.2) (.int .i64 t346)) (fun _ hk => trivial), YA HB⟩
   subst c94
   rw [if_pos rfl] at H
   by_cases c95 : ([] : List Int).length < 17592186044416
   rotate_left
   ·rw [if_neg c95] at H
    exact absurd H (by simp)
   rw [if_pos c95] at H
   have LMc95 := am c95
   clear c95
   obtain ⟨y347, hy347⟩ : ∃ y_ : List Int, y_ = (([] : List Int) ++ [1]) := ⟨_, rfl⟩
   replace H : (if (!(t333 == a2_0) || (!(t334 == a2_1))) = true then (if y347.length < 17592186044416 then (some (t345, t346, (y347 ++ [3]))) else (none)) else (some (t345, t346, y347))) = some (r1, r2, r3) := by first | (rw [hy347]; with_reducible exact H) | (have H2_ := (Option.bind_some _ _).symm.trans H; rw [hy347]; with_reducible exact H2_) | (have H2_ := (Option.bind_some _ _).symm.trans H; with_reducible exact H2_) | with_reducible exact H | (rw [hy347]; exact H) | exact H
   have Ny347 := am hy347
   clear hy347
   by_cases c96 : (!(t333 == a2_0) || (!(t334 == a2_1))) = true
   rotate_left
   ·rw [if_neg c96] at H
    have c96b0 : (!(t333 == a2_0) || (!(t334 == a2_1))) = false := by simpa using c96
    clear c96
    simp only [Option.some.injEq, Prod.mk.injEq] at H
    obtain ⟨rfl, rfl, rfl⟩ := H
    go_wp2_with (first | ((with_reducible refine gate_builtin (b := .append) (xs := #[.tmp 36, .tmp 37]) rfl ?_); at_builtin; refine Kd.R_append (Kd.int .i64) (w0 := w) w.heap.size rfl (.tmp 36) (.tmp 37) 25 3 (.int .i64 0) 8 rfl Try.underlying25 info3 rfl (by decide) (by omega) (.slice none 0 0) ([] : List Int) 1 [.int .i64 1] (fun _ => True) (fun _ => False) rfl rfl ?aP (fun _ hk => hk.elim) ?aF ?aO ?aB ?aS ?aL ?_; (case aP => exact rfl); (case aB => exact (YA HB)); (case aF => exact (fun _ _ => trivial)); (case aO => exact (RZ HO_10)); (case aS => exact (below_size (YA HB))); (case aL => have := LMc95.out; omega); intro v348 w114 ho hb hg hat; rw [← Ny347.out] at ho; have HO349 := am (ho); replace BK330 := am (blk_grown (g := gb330) (o := b2 a1_0 a1_1 24) (Z BK330) hg (Kd.R_ne HO_10.out BK330.out (by decide))); replace BK331 := am (blk_grown (g := gb331) (o := b2 a2_0 a2_1 24) (Z BK331) hg (Kd.R_ne HO_10.out BK331.out (by decide))); replace BK332 := am (blk_grown (g := gb332) (o := b2 0 0 24) (Z BK332) hg (Kd.R_ne HO_10.out BK332.out (by decide))); replace BK335 := am (blk_grown (g := gb335) (o := b2 t333 t334 24) (Z BK335) hg (Kd.R_ne HO_10.out BK335.out (by decide))); replace BK338 := am (blk_grown (g := gb338) (o := b2 t345 t346 24) (Z BK338) hg (Kd.R_ne HO_10.out BK338.out (by decide))); replace HB := am (hb); clear HO_10; clear ho hb hg hat; obtain ⟨hnb115,hnc115⟩ := nn NB335_330; obtain ⟨hnb116,hnc116⟩ := nn NB335_331; obtain ⟨hnb117,hnc117⟩ := nn NB335_332; obtain ⟨hnb118,hnc118⟩ := nn NB335_338; obtain ⟨hcz119_0,hcz119_1,hfz119_0,hfz119_1⟩ := cB2 BK335; obtain ⟨hnb120,hnc120⟩ := nn NB331_330; obtain ⟨hnb121,hnc121⟩ := nn NB331_332; obtain ⟨hnb122,hnc122⟩ := nn NB331_338; obtain ⟨hcz123_0,hcz123_1,hfz123_0,hfz123_1⟩ := cB2 BK331; obtain ⟨hnb124,hnc124⟩ := nn NB338_330; obtain ⟨hnb125,hnc125⟩ := nn NB338_332; obtain ⟨hcz126_0,hcz126_1,hfz126_0,hfz126_1⟩ := cB2 BK338; obtain ⟨hnb127,hnc127⟩ := nn NB332_330; obtain ⟨hcz128_0,hcz128_1,hfz128_0,hfz128_1⟩ := cB2 BK332))
    refine bodyPost_ret (results_ct rfl _ _ gb332 24 #[.int .i64 t345, .int .i64 t346] (0, 0) _ rfl (by refine pf ?_; refine blk_put (cs := #[.int .i64 t345, .int .i64 0]) ?_ 1 _ rfl; refine pf ?_; refine blk_put (cs := #[.int .i64 0, .int .i64 0]) ?_ 0 _ rfl; exact Z BK332) Try.underlying24 rfl (by kernel_rfl)) rfl ?_
    exact ⟨_, ez, by (with_reducible repeat (first | apply Kd.R_alloc | apply Kd.R_drewN | apply Kd.R_drew)); exact Kd.R_mono (Kd.R_far (p := ⟨gb332, 1, none⟩) (Kd.R_far (p := ⟨gb332, 0, none⟩) (Kd.R_types HO349.out BK332.out (by decide)) (fun _ hk => hk.2) (.int .i64 t345)) (fun _ hk => hk.2) (.int .i64 t346)) (fun _ hk => trivial), YA HB⟩
   rw [if_pos c96] at H
   have c96b0 : (!(t333 == a2_0) || (!(t334 == a2_1))) = true := c96
   clear c96
   by_cases c97 : y347.length < 17592186044416
   rotate_left
   ·rw [if_neg c97] at H
    exact absurd H (by simp)
   rw [if_pos c97] at H
   have LMc97 := am c97
   clear c97
   obtain ⟨y350, hy350⟩ : ∃ y_ : List Int, y_ = (y347 ++ [3]) := ⟨_, rfl⟩
   replace H : (some (t345, t346, y350)) = some (r1, r2, r3) := by first | (rw [hy350]; with_reducible exact H) | (have H2_ := (Option.bind_some _ _).symm.trans H; rw [hy350]; with_reducible exact H2_) | (have H2_ := (Option.bind_some _ _).symm.trans H; with_reducible exact H2_) | with_reducible exact H | (rw [hy350]; exact H) | exact H
   have Ny350 := am hy350
   clear hy350
   simp only [Option.some.injEq, Prod.mk.injEq] at H
   obtain ⟨rfl, rfl, rfl⟩ := H
   go_wp2_with (first | ((with_reducible refine gate_builtin (b := .append) (xs := #[.tmp 36, .tmp 37]) rfl ?_); at_builtin; refine Kd.R_append (Kd.int .i64) (w0 := w) w.heap.size rfl (.tmp 36) (.tmp 37) 25 3 (.int .i64 0) 8 rfl Try.underlying25 info3 rfl (by decide) (by omega) (.slice none 0 0) ([] : List Int) 1 [.int .i64 1] (fun _ => True) (fun _ => False) rfl rfl ?aP (fun _ hk => hk.elim) ?aF ?aO ?aB ?aS ?aL ?_; (case aP => exact rfl); (case aB => exact (YA HB)); (case aF => exact (fun _ _ => trivial)); (case aO => exact (RZ HO_10)); (case aS => exact (below_size (YA HB))); (case aL => have := LMc95.out; omega); intro v348 w98 ho hb hg hat; rw [← Ny347.out] at ho; have HO349 := am (ho); replace BK330 := am (blk_grown (g := gb330) (o := b2 a1_0 a1_1 24) (Z BK330) hg (Kd.R_ne HO_10.out BK330.out (by decide))); replace BK331 := am (blk_grown (g := gb331) (o := b2 a2_0 a2_1 24) (Z BK331) hg (Kd.R_ne HO_10.out BK331.out (by decide))); replace BK332 := am (blk_grown (g := gb332) (o := b2 0 0 24) (Z BK332) hg (Kd.R_ne HO_10.out BK332.out (by decide))); replace BK335 := am (blk_grown (g := gb335) (o := b2 t333 t334 24) (Z BK335) hg (Kd.R_ne HO_10.out BK335.out (by decide))); replace BK338 := am (blk_grown (g := gb338) (o := b2 t345 t346 24) (Z BK338) hg (Kd.R_ne HO_10.out BK338.out (by decide))); replace HB := am (hb); clear HO_10; clear ho hb hg hat; obtain ⟨hnb99,hnc99⟩ := nn NB335_330; obtain ⟨hnb100,hnc100⟩ := nn NB335_331; obtain ⟨hnb101,hnc101⟩ := nn NB335_332; obtain ⟨hnb102,hnc102⟩ := nn NB335_338; obtain ⟨hcz103_0,hcz103_1,hfz103_0,hfz103_1⟩ := cB2 BK335; obtain ⟨hnb104,hnc104⟩ := nn NB331_330; obtain ⟨hnb105,hnc105⟩ := nn NB331_332; obtain ⟨hnb106,hnc106⟩ := nn NB331_338; obtain ⟨hcz107_0,hcz107_1,hfz107_0,hfz107_1⟩ := cB2 BK331) | ((with_reducible refine gate_builtin (b := .append) (xs := #[.tmp 42, .tmp 43]) rfl ?_); at_builtin; refine Kd.R_append (Kd.int .i64) (w0 := w) w.heap.size rfl (.tmp 42) (.tmp 43) 25 3 (.int .i64 0) 8 rfl Try.underlying25 info3 rfl (by decide) (by omega) v348 y347 3 [.int .i64 3] (fun _ => True) (fun _ => False) rfl rfl ?aP (fun _ hk => hk.elim) ?aF ?aO ?aB ?aS ?aL ?_; (case aP => exact rfl); (case aB => exact (YA HB)); (case aF => exact (fun _ _ => trivial)); (case aO => exact (RZ HO349)); (case aS => exact (below_size (YA HB))); (case aL => have := LMc97.out; omega); intro v351 w108 ho hb hg hat; rw [← Ny350.out] at ho; have HO352 := am (ho); replace BK330 := am (blk_grown (g := gb330) (o := b2 a1_0 a1_1 24) (Z BK330) hg (Kd.R_ne HO349.out BK330.out (by decide))); replace BK331 := am (blk_grown (g := gb331) (o := b2 a2_0 a2_1 24) (Z BK331) hg (Kd.R_ne HO349.out BK331.out (by decide))); replace BK332 := am (blk_grown (g := gb332) (o := b2 0 0 24) (Z BK332) hg (Kd.R_ne HO349.out BK332.out (by decide))); replace BK335 := am (blk_grown (g := gb335) (o := b2 t333 t334 24) (Z BK335) hg (Kd.R_ne HO349.out BK335.out (by decide))); replace BK338 := am (blk_grown (g := gb338) (o := b2 t345 t346 24) (Z BK338) hg (Kd.R_ne HO349.out BK338.out (by decide))); replace HB := am (hb); clear HO349; clear ho hb hg hat; obtain ⟨hnb109,hnc109⟩ := nn NB338_330; obtain ⟨hnb110,hnc110⟩ := nn NB338_332; obtain ⟨hcz111_0,hcz111_1,hfz111_0,hfz111_1⟩ := cB2 BK338; obtain ⟨hnb112,hnc112⟩ := nn NB332_330; obtain ⟨hcz113_0,hcz113_1,hfz113_0,hfz113_1⟩ := cB2 BK332))
   refine bodyPost_ret (results_ct rfl _ _ gb332 24 #[.int .i64 t345, .int .i64 t346] (0, 0) _ rfl (by refine pf ?_; refine blk_put (cs := #[.int .i64 t345, .int .i64 0]) ?_ 1 _ rfl; refine pf ?_; refine blk_put (cs := #[.int .i64 0, .int .i64 0]) ?_ 0 _ rfl; exact Z BK332) Try.underlying24 rfl (by kernel_rfl)) rfl ?_
   exact ⟨_, ez, by (with_reducible repeat (first | apply Kd.R_alloc | apply Kd.R_drewN | apply Kd.R_drew)); exact Kd.R_mono (Kd.R_far (p := ⟨gb332, 1, none⟩) (Kd.R_far (p := ⟨gb332, 0, none⟩) (Kd.R_types HO352.out BK332.out (by decide)) (fun _ hk => hk.2) (.int .i64 t345)) (fun _ hk => hk.2) (.int .i64 t346)) (fun _ hk => trivial), YA HB⟩

/-! ### impl_rangeSides: function 94 -/
attribute [local go_sem] Go.Proofs.YthbkakcchgnhpaaSet.isSome_setCell
def impl_rangeSides.f (k : Nat) (a0_0 : Int) (a0_1 : Int) : Option (Int × Int × Int × Int) := (impl_RangeMeet.f k a0_0 a0_1 (-2147483648) (-1)).bind fun bt358 => ((impl_RangeMeet.f k a0_0 a0_1 1 2147483647).bind fun bt360 => (some (bt358.1, bt358.2, bt360.1, bt360.2)))
theorem impl_rangeSides.mono : ∀ a0 a1 k, LeO (impl_rangeSides.f k a0 a1) (impl_rangeSides.f (k + 1) a0 a1) := by
 intro a0 a1 k
 unfold impl_rangeSides.f
 repeat' first | (with_reducible first | apply impl_RangeMeet.mono | apply LeO.refl | apply LeO.none | refine LeO.ite ?_ ?_ | refine LeO.bind ?_ (fun _ => ?_)) | apply impl_RangeMeet.mono | apply LeO.none | refine LeO.ite ?_ ?_ | refine LeO.bind ?_ (fun _ => ?_)
def impl_rangeSides.T1 : Bool × List (List Nat × List Nat) := (true, [([], []), ([], []), ([0, 1], [0, 1]), ([], []), ([], []), ([3, 4, 2], [3, 4]), ([2, 5], [2, 5]), ([6, 5, 0, 1, 2, 3, 4, 5, 6], [6])])
def impl_rangeSides.B1 : List Nat := [0, 0, 3, 0, 0, 31, 63, 127]
theorem impl_rangeSides.tab1 : rtab .any (opsOf Try.f94 1) = impl_rangeSides.T1 := by kernel_rfl
theorem impl_rangeSides.bits1 : waitsOk impl_rangeSides.T1.2 impl_rangeSides.B1 = true := by kernel_rfl
set_option maxHeartbeats 8000000 in
set_option maxRecDepth 100000 in
theorem impl_rangeSides.calls (k : Nat) (a0_0 : Int) (a0_1 : Int) (r1 : Int) (r2 : Int) (r3 : Int) (r4 : Int) (w : World) (h : impl_rangeSides.f k a0_0 a0_1 = some (r1, r2, r3, r4)) :
  Calls Try.prog 94 #[.agg #[.int .i64 a0_0, .int .i64 a0_1]] w fun e w' => e = .returned (.agg #[.int .i64 r1, .int .i64 r2, .int .i64 r3, .int .i64 r4]) ∧ Below w.heap.size w w' := by
 have hu24 := Try.underlying24
 have hu96 := Try.underlying96
 have HB := am (Below.refl w.heap.size w)
 have H : ((impl_RangeMeet.f k a0_0 a0_1 (-2147483648) (-1)).bind fun bt358 => ((impl_RangeMeet.f k a0_0 a0_1 1 2147483647).bind fun bt360 => (some (bt358.1, bt358.2, bt360.1, bt360.2)))) = some (r1, r2, r3, r4) := h
 clear h
 obtain ⟨⟨t358, t359⟩, A2, H⟩ := bd H
 try dsimp only at H
 obtain ⟨⟨t360, t361⟩, A3, H⟩ := bd H
 try dsimp only at H
 simp only [Option.some.injEq, Prod.mk.injEq] at H
 obtain ⟨rfl, rfl, rfl, rfl⟩ := H
 go_enter Try.func94, Try.ntmps94
 try go_wp2_with (first | ((with_reducible refine gate_dst (N := 1) rfl ?_); refine bx 1 #[.int .i64 a0_0, .int .i64 a0_1] 24 ?_; intro gb356 hg w4 hbox hb; have BK356 := am (hbox); have GW356 := am (bs hg (YA HB)); have GE356 := GW356; replace HB := am (below_step (YA HB) hb); clear hb hbox hg) | ((with_reducible refine gate_dst (N := 2) rfl ?_); refine bx 2 #[.int .i64 0, .int .i64 0, .int .i64 0, .int .i64 0] 96 ?_; intro gb357 hg w5 hbox hb; have BK357 := am (hbox); have GW357 := am (bs hg (YA HB)); have GE357 := GW357; obtain ⟨NB356_357,NB357_356⟩ := ne_ hg BK356; obtain ⟨BK356, HB⟩ := bk1 BK356 HB hb; clear hb hbox hg))
 obtain ⟨BK356, BK357, HB⟩ := dk2 BK356 BK357 HB
 refine start_ (n := 8) (S := fun w' => w'.cell? ⟨gb356, 0, none⟩ = some (.int .i64 a0_0) ∧ w'.cell? ⟨gb356, 1, none⟩ = some (.int .i64 a0_1)) (ds := []) (lb 8 0) (by kernel_rfl) rfl rfl ⟨bc BK356 0, bc BK356 1⟩ (fun hHeld => ?_); refine with_tabW impl_rangeSides.tab1 impl_rangeSides.bits1 (fun HT_ HW_ => ?_)
 generalize w5.drew = w6 at BK356 BK357 HB hHeld ⊢
 refine pk 1 4 2 ?_
 refine pk 4 7 18 ?_
 refine tk 0 3 19 hHeld ?_
 refine tk 3 6 27 hHeld ?_
 refine on 2 (some 5) 31 fun K hK => ?_
 refine gq Try.func93 (impl_RangeMeet.calls _ _ _ _ _ _ _ _ A2.out) fun w7 hb => ?_
 obtain ⟨BK356, BK357, HB⟩ := bk2 BK356 BK357 HB hb
 clear hb
 refine kk hK ⟨bc BK356 0, bc BK356 1⟩ fun hHeld => ?_
 clear hK K
 refine on 5 (some 8) 63 fun K hK => ?_
 refine gq Try.func93 (impl_RangeMeet.calls _ _ _ _ _ _ _ _ A3.out) fun w8 hb => ?_
 obtain ⟨BK356, BK357, HB⟩ := bk2 BK356 BK357 HB hb
 clear hb
 refine kk hK ⟨bc BK356 0, bc BK356 1⟩ fun hHeld => ?_
 clear hK K
 refine pk 6 9 127 ?_
 refine on 7 none 255 fun K hK => ?_
 have hs9 : w8.cell? ⟨gb357, 0, none⟩ = some (.int .i64 0) := bc BK357 0
 have hfs9 := blk_frozen BK357.out 0
 obtain ⟨hns9_0,hms9_0⟩ := nn NB356_357
 have hs10 : w8.cell? ⟨gb357, 1, none⟩ = some (.int .i64 0) := bc BK357 1
 have hfs10 := blk_frozen BK357.out 1
 obtain ⟨hns10_0,hms10_0⟩ := nn NB356_357
 have hs11 : w8.cell? ⟨gb357, 2, none⟩ = some (.int .i64 0) := bc BK357 2
 have hfs11 := blk_frozen BK357.out 2
 obtain ⟨hns11_0,hms11_0⟩ := nn NB356_357
 have hs12 : w8.cell? ⟨gb357, 3, none⟩ = some (.int .i64 0) := bc BK357 3
 have hfs12 := blk_frozen BK357.out 3
 obtain ⟨hns12_0,hms12_0⟩ := nn NB356_357
 refine skip_ (w1 := ?_) (by rfl) rfl ?_ ?_
 rotate_left
 ·go_simp
  rfl
 refine hK.out _ _ ⟨((cell_far (p := ⟨gb357, _, none⟩) NB356_357.out _).trans (((cell_far (p := ⟨gb357, _, none⟩) NB356_357.out _).trans (((cell_far (p := ⟨gb357, _, none⟩) NB356_357.out _).trans (((cell_far (p := ⟨gb357, _, none⟩) NB356_357.out _).trans (hHeld.1)))))))), ((cell_far (p := ⟨gb357, _, none⟩) NB356_357.out _).trans (((cell_far (p := ⟨gb357, _, none⟩) NB356_357.out _).trans (((cell_far (p := ⟨gb357, _, none⟩) NB356_357.out _).trans (((cell_far (p := ⟨gb357, _, none⟩) NB356_357.out _).trans (hHeld.2))))))))⟩ (fun hHeld => ?_)
 clear hK K
 refine done_ (done_of HT_.out (by kernel_rfl)) ?_
 try go_wp2
 refine bodyPost_ret (results_cell_row rfl _ _ gb357 96 #[.int .i64 t358, .int .i64 t359, .int .i64 t360, .int .i64 t361] (0, 0) _ rfl (by refine pf ?_; refine blk_put (cs := #[.int .i64 t358, .int .i64 t359, .int .i64 t360, .int .i64 0]) ?_ 3 _ rfl; refine pf ?_; refine blk_put (cs := #[.int .i64 t358, .int .i64 t359, .int .i64 0, .int .i64 0]) ?_ 2 _ rfl; refine pf ?_; refine blk_put (cs := #[.int .i64 t358, .int .i64 0, .int .i64 0, .int .i64 0]) ?_ 1 _ rfl; refine pf ?_; refine blk_put (cs := #[.int .i64 0, .int .i64 0, .int .i64 0, .int .i64 0]) ?_ 0 _ rfl; exact Z BK357) Try.underlying96 rfl (by kernel_rfl)) rfl ?_
 exact ⟨ez, YA HB⟩

/-! ### impl_RangeHas: function 95 -/
attribute [local go_sem] Go.Proofs.YthbkakcchgnhpaaSet.isSome_setCell
def impl_RangeHas.f (a0_0 : Int) (a0_1 : Int) (a1 : Int) : Option (Bool) := (impl_RangeOk.f a0_0 a0_1).bind fun t363 => (if t363 = true then (if a0_0 ≤ a1 then (some (decide (a1 ≤ a0_1))) else (some false)) else (some false))
set_option maxHeartbeats 8000000 in
set_option maxRecDepth 100000 in
theorem impl_RangeHas.calls (a0_0 : Int) (a0_1 : Int) (a1 : Int) (r : Bool) (w : World) (h : impl_RangeHas.f a0_0 a0_1 a1 = some r) :
  Calls Try.prog 95 #[.agg #[.int .i64 a0_0, .int .i64 a0_1], .int .i64 a1] w fun e w' => e = .returned (.bool r) ∧ Below w.heap.size w w' := by
 have hu24 := Try.underlying24
 have HB := am (Below.refl w.heap.size w)
 have H : ((impl_RangeOk.f a0_0 a0_1).bind fun t363 => (if t363 = true then (if a0_0 ≤ a1 then (some (decide (a1 ≤ a0_1))) else (some false)) else (some false))) = some r := h
 clear h
 obtain ⟨t363, A3, H⟩ := bd H
 try dsimp only at H
 by_cases c4 : t363 = true
 rotate_left
 ·replace c4 := Bool.eq_false_iff.mpr c4
  subst c4
  rw [if_neg ff] at H
  obtain rfl := Option.some.inj H
  go_enter Try.func95, Try.ntmps95
  go_wp2_with (first | ((with_reducible refine gate_dst (N := 2) rfl ?_); refine bx 2 #[.int .i64 a0_0, .int .i64 a0_1] 24 ?_; intro gb362 hg w14 hbox hb; have BK362 := am (hbox); have GW362 := am (bs hg (YA HB)); have GE362 := GW362; replace HB := am (below_step (YA HB) hb); clear hb hbox hg; obtain ⟨hcz15_0,hcz15_1,hfz15_0,hfz15_1⟩ := cB2 BK362) | ((with_reducible refine gate_callee (f := 46) rfl ?_); refine gL 6 Try.func46 (impl_RangeOk.calls _ _ _ _ A3.out) fun w16 hb => ?_; obtain ⟨BK362, HB⟩ := bk1 BK362 HB hb; (try clear hb)))
  go_ret
  exact ⟨ez, YA HB⟩
 subst c4
 rw [if_pos rfl] at H
 by_cases c5 : a0_0 ≤ a1
 ·rw [if_pos c5] at H
  have c5b0 := dT c5
  clear c5
  obtain rfl := Option.some.inj H
  go_enter Try.func95, Try.ntmps95
  go_wp2_with (first | ((with_reducible refine gate_dst (N := 2) rfl ?_); refine bx 2 #[.int .i64 a0_0, .int .i64 a0_1] 24 ?_; intro gb362 hg w6 hbox hb; have BK362 := am (hbox); have GW362 := am (bs hg (YA HB)); have GE362 := GW362; replace HB := am (below_step (YA HB) hb); clear hb hbox hg; obtain ⟨hcz7_0,hcz7_1,hfz7_0,hfz7_1⟩ := cB2 BK362) | ((with_reducible refine gate_callee (f := 46) rfl ?_); refine gL 6 Try.func46 (impl_RangeOk.calls _ _ _ _ A3.out) fun w8 hb => ?_; obtain ⟨BK362, HB⟩ := bk1 BK362 HB hb; (try clear hb); obtain ⟨hcz9_0,hcz9_1,hfz9_0,hfz9_1⟩ := cB2 BK362))
  go_ret
  exact ⟨ez, YA HB⟩
 rw [if_neg c5] at H
 have c5b0 := dF c5
 clear c5
 obtain rfl := Option.some.inj H
 go_enter Try.func95, Try.ntmps95
 go_wp2_with (first | ((with_reducible refine gate_dst (N := 2) rfl ?_); refine bx 2 #[.int .i64 a0_0, .int .i64 a0_1] 24 ?_; intro gb362 hg w10 hbox hb; have BK362 := am (hbox); have GW362 := am (bs hg (YA HB)); have GE362 := GW362; replace HB := am (below_step (YA HB) hb); clear hb hbox hg; obtain ⟨hcz11_0,hcz11_1,hfz11_0,hfz11_1⟩ := cB2 BK362) | ((with_reducible refine gate_callee (f := 46) rfl ?_); refine gL 6 Try.func46 (impl_RangeOk.calls _ _ _ _ A3.out) fun w12 hb => ?_; obtain ⟨BK362, HB⟩ := bk1 BK362 HB hb; (try clear hb); obtain ⟨hcz13_0,hcz13_1,hfz13_0,hfz13_1⟩ := cB2 BK362))
 go_ret
 exact ⟨ez, YA HB⟩

end Go.Proofs.Ythbkakcchgnhpaa.PFnRangeFaults
