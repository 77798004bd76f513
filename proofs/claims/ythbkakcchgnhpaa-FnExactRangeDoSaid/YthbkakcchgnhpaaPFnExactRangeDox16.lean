/- Written by this session's own driver (wip/dprint.py): the functions that the law FnExactRangeDo reaches, as Lean functions, each with its contract. -/
import Derived.Test.YthbkakcchgnhpaaPFnExactRangeDox0
import Derived.Test.YthbkakcchgnhpaaPFnExactRangeDox1
import Derived.Test.YthbkakcchgnhpaaPFnExactRangeDox12
import Derived.Test.YthbkakcchgnhpaaPFnExactRangeDox14
import Derived.Test.YthbkakcchgnhpaaPFnExactRangeDox15
import Derived.Test.YthbkakcchgnhpaaSv
namespace Go.Proofs.Ythbkakcchgnhpaa.PFnExactRangeDo
open Go.RowKit Go.Proofs.YthbkakcchgnhpaaV.PrintWords Go.Proofs.YthbkakcchgnhpaaV.PrintLast Go.Proofs.YthbkakcchgnhpaaV.PrintMore Go.Proofs.YthbkakcchgnhpaaSv
attribute [local go_sem] max2_int min2_int max_two min_two max_three min_three max_four min_four   -- for this text's walks alone
set_option linter.unusedVariables false
set_option linter.unusedSimpArgs false

attribute [local go_sem high] eqA24
/-! ### impl_rangeShift: function 52 -/
attribute [local go_sem] Go.Proofs.YthbkakcchgnhpaaSet.isSome_setCell
def impl_rangeShift.j0 : Nat → List Int → Bool → Int → Int → Int → Int → Int → Int → Option (Int × Int × List Int)
 | 0, _, _, _, _, _, _, _, _ => none
 | k + 1, x10, x35, x335000, x335001, x339000, x339001, x342000, x342001 => if x35 = true then (if x10.length < 17592186044416 then ((some (x10 ++ [1] : List Int)).bind fun y350 => (if (!(x339000 == x335000) || (!(x339001 == x335001))) = true then (if y350.length < 17592186044416 then (some (x342000, x342001, (y350 ++ [3]))) else (none)) else (some (x342000, x342001, y350)))) else (none)) else (if (!(x339000 == x335000) || (!(x339001 == x335001))) = true then (if x10.length < 17592186044416 then (some (x342000, x342001, (x10 ++ [3]))) else (none)) else (some (x342000, x342001, x10)))
def impl_rangeShift.f (k : Nat) (a0 : Int) (a1_0 : Int) (a1_1 : Int) (a2_0 : Int) (a2_1 : Int) : Option (Int × Int × List Int) := (impl_RangeMeet.f k a2_0 a2_1 0 31).bind fun bt336 => ((impl_rangeNone.f).bind fun bt339 => ((impl_Range_empty.f bt336.1 bt336.2).bind fun t342 => (if t342 = true then (if (!(bt336.1 == a2_0) || (!(bt336.2 == a2_1))) = true then (if ([] : List Int).length < 17592186044416 then (some (bt339.1, bt339.2, (([] : List Int) ++ [3]))) else (none)) else (some (bt339.1, bt339.2, ([] : List Int)))) else ((impl_rangeCorners.f k a0 a1_0 a1_1 bt336.1 bt336.2).bind fun bt346 => ((impl_rangeFrom.f bt346.1 bt346.2).bind fun bt348 => (if bt346.1 < (-2147483648) then (impl_rangeShift.j0 k ([] : List Int) true a2_0 a2_1 bt336.1 bt336.2 bt348.1 bt348.2) else (impl_rangeShift.j0 k ([] : List Int) (decide (bt346.2 > 2147483647)) a2_0 a2_1 bt336.1 bt336.2 bt348.1 bt348.2)))))))
theorem impl_rangeShift.mono_l : ∀ k, (∀ y0 y1 y2 y3 y4 y5 y6 y7, LeO (impl_rangeShift.j0 k y0 y1 y2 y3 y4 y5 y6 y7) (impl_rangeShift.j0 (k + 1) y0 y1 y2 y3 y4 y5 y6 y7))
 | 0 => fun _ _ _ _ _ _ _ _ r h => by simp [impl_rangeShift.j0] at h
 | k + 1 => by
  have ih0 := impl_rangeShift.mono_l k
  ·intro y0 y1 y2 y3 y4 y5 y6 y7
   unfold impl_rangeShift.j0
   repeat' first
   | (with_reducible exact ih0 _ _ _ _ _ _ _ _)
   | (with_reducible exact impl_RangeMeet.mono _ _ _ _ _)
   | (with_reducible exact impl_rangeCorners.mono _ _ _ _ _ _)
   | (with_reducible exact LeO.refl _)
   | (with_reducible exact LeO.none _)
   | (with_reducible refine LeO.ite ?_ ?_)
   | (with_reducible refine LeO.bind ?_ (fun _ => ?_))
   | exact ih0 _ _ _ _ _ _ _ _
   | exact impl_RangeMeet.mono _ _ _ _ _
   | exact impl_rangeCorners.mono _ _ _ _ _ _
   | exact LeO.none _
   | refine LeO.ite ?_ ?_
   | refine LeO.bind ?_ (fun _ => ?_)
theorem impl_rangeShift.mono : ∀ a0 a1 a2 a3 a4 k, LeO (impl_rangeShift.f k a0 a1 a2 a3 a4) (impl_rangeShift.f (k + 1) a0 a1 a2 a3 a4) := by
 intro a0 a1 a2 a3 a4 k
 have ih0 := impl_rangeShift.mono_l k
 unfold impl_rangeShift.f
 repeat' first
   | (with_reducible exact ih0 _ _ _ _ _ _ _ _)
   | (with_reducible exact impl_RangeMeet.mono _ _ _ _ _)
   | (with_reducible exact impl_rangeCorners.mono _ _ _ _ _ _)
   | (with_reducible exact LeO.refl _)
   | (with_reducible exact LeO.none _)
   | (with_reducible refine LeO.ite ?_ ?_)
   | (with_reducible refine LeO.bind ?_ (fun _ => ?_))
   | exact ih0 _ _ _ _ _ _ _ _
   | exact impl_RangeMeet.mono _ _ _ _ _
   | exact impl_rangeCorners.mono _ _ _ _ _ _
   | exact LeO.none _
   | refine LeO.ite ?_ ?_
   | refine LeO.bind ?_ (fun _ => ?_)
set_option maxHeartbeats 8000000 in
set_option maxRecDepth 100000 in
theorem impl_rangeShift.calls (k : Nat) (a0 : Int) (a1_0 : Int) (a1_1 : Int) (a2_0 : Int) (a2_1 : Int) (r1 : Int) (r2 : Int) (r3 : List Int) (w : World) (h : impl_rangeShift.f k a0 a1_0 a1_1 a2_0 a2_1 = some (r1, r2, r3)) :
  Calls Try.prog 52 #[.int .i64 a0, .agg #[.int .i64 a1_0, .int .i64 a1_1], .agg #[.int .i64 a2_0, .int .i64 a2_1]] w fun e w' => ∃ v2_ : Value, e = .returned (.tuple #[.agg #[.int .i64 r1, .int .i64 r2], v2_]) ∧ Kd.R (Kd.int .i64) 3 w' w.heap.size (fun _ => True) v2_ r3 ∧ Below w.heap.size w w' := by
 have hu24 := Try.underlying24
 have HB := am (Below.refl w.heap.size w)
 have H : ((impl_RangeMeet.f k a2_0 a2_1 0 31).bind fun bt336 => ((impl_rangeNone.f).bind fun bt339 => ((impl_Range_empty.f bt336.1 bt336.2).bind fun t342 => (if t342 = true then (if (!(bt336.1 == a2_0) || (!(bt336.2 == a2_1))) = true then (if ([] : List Int).length < 17592186044416 then (some (bt339.1, bt339.2, (([] : List Int) ++ [3]))) else (none)) else (some (bt339.1, bt339.2, ([] : List Int)))) else ((impl_rangeCorners.f k a0 a1_0 a1_1 bt336.1 bt336.2).bind fun bt346 => ((impl_rangeFrom.f bt346.1 bt346.2).bind fun bt348 => (if bt346.1 < (-2147483648) then (impl_rangeShift.j0 k ([] : List Int) true a2_0 a2_1 bt336.1 bt336.2 bt348.1 bt348.2) else (impl_rangeShift.j0 k ([] : List Int) (decide (bt346.2 > 2147483647)) a2_0 a2_1 bt336.1 bt336.2 bt348.1 bt348.2)))))))) = some (r1, r2, r3) := h
 clear h
 replace H := Option.bind_eq_some_iff.mp H
 obtain ⟨⟨t336, t337⟩, A40, H⟩ := H
 try dsimp only at H
 have A4 := am A40
 clear A40
 replace H := Option.bind_eq_some_iff.mp H
 obtain ⟨⟨t339, t340⟩, A50, H⟩ := H
 try dsimp only at H
 have A5 := am A50
 clear A50
 replace H := Option.bind_eq_some_iff.mp H
 obtain ⟨t342, A60, H⟩ := H
 try dsimp only at H
 have A6 := am A60
 clear A60
 by_cases c7 : t342 = true
 ·subst c7
  rw [if_pos rfl] at H
  by_cases c8 : (!(t336 == a2_0) || (!(t337 == a2_1))) = true
  rotate_left
  ·rw [if_neg c8] at H
   have c8b0 : (!(t336 == a2_0) || (!(t337 == a2_1))) = false := by simpa using c8
   clear c8
   simp only [Option.some.injEq, Prod.mk.injEq] at H
   obtain ⟨rfl, rfl, rfl⟩ := H
   go_enter Try.func52, Try.ntmps52
   go_wp2_with (first | ((with_reducible refine gate_dst (N := 4) rfl ?_); refine bx 4 #[.int .i64 a1_0, .int .i64 a1_1] 24 ?_; intro gb333 hg w37 hbox hb; have BK333 := am (hbox); have GW333 := am (bs hg (Y0 HB)); have GE333 := am (bs hg (Y0 HB)); replace HB := am (below_step (Y0 HB) hb); clear hb hbox hg) | ((with_reducible refine gate_dst (N := 5) rfl ?_); refine bx 5 #[.int .i64 a2_0, .int .i64 a2_1] 24 ?_; intro gb334 hg w38 hbox hb; have BK334 := am (hbox); have GW334 := am (bs hg (Y1 HB GE333)); have GE334 := am (bs hg (Y1 HB GE333)); obtain ⟨NB333_334,NB334_333⟩ := ne_ hg BK333; replace BK333 := bb BK333 hb; replace HB := am (below_step (Y1 HB GE333) hb); clear hb hbox hg) | ((with_reducible refine gate_dst (N := 6) rfl ?_); refine bx 6 #[.int .i64 0, .int .i64 0] 24 ?_; intro gb335 hg w39 hbox hb; have BK335 := am (hbox); have GW335 := am (bs hg (Y2 HB GE333 GE334)); have GE335 := am (bs hg (Y2 HB GE333 GE334)); obtain ⟨NB333_335,NB335_333⟩ := ne_ hg BK333; obtain ⟨NB334_335,NB335_334⟩ := ne_ hg BK334; replace BK333 := bb BK333 hb; replace BK334 := bb BK334 hb; replace HB := am (below_step (Y2 HB GE333 GE334) hb); clear hb hbox hg; obtain ⟨hnb40,hnc40⟩ := nn NB334_333; obtain ⟨hnb41,hnc41⟩ := nn NB334_335; obtain ⟨hcz42_0,hcz42_1,hfz42_0,hfz42_1⟩ := c2 BK334) | ((with_reducible refine gate_callee (f := 93) rfl ?_); refine goesL_ (some 15) rfl rfl Try.func93 (by kernel_rfl) rfl #[.agg #[.int .i64 a2_0, .int .i64 a2_1], .agg #[.int .i64 0, .int .i64 31]] rfl mz ?_; (with_reducible refine (impl_RangeMeet.calls k a2_0 a2_1 0 31 t336 t337 _ A4.out).mono ?_); rintro e w43 ⟨rfl, hb⟩; refine ⟨_, rfl, ?_⟩; replace BK333 := bb BK333 hb; replace BK334 := bb BK334 hb; replace BK335 := bb BK335 hb; replace HB := am (below_step (Y3 HB GE333 GE334 GE335) hb); (try clear hb)) | ((with_reducible refine gate_dst (N := 8) rfl ?_); refine bx 8 #[.int .i64 0, .int .i64 0] 24 ?_; intro gb338 hg w44 hbox hb; have BK338 := am (hbox); have GW338 := am (bs hg (Y3 HB GE333 GE334 GE335)); have GE338 := am (bs hg (Y3 HB GE333 GE334 GE335)); obtain ⟨NB333_338,NB338_333⟩ := ne_ hg BK333; obtain ⟨NB334_338,NB338_334⟩ := ne_ hg BK334; obtain ⟨NB335_338,NB338_335⟩ := ne_ hg BK335; replace BK333 := bb BK333 hb; replace BK334 := bb BK334 hb; replace BK335 := bb BK335 hb; replace HB := am (below_step (Y3 HB GE333 GE334 GE335) hb); clear hb hbox hg; obtain ⟨hnb45,hnc45⟩ := nn NB338_333; obtain ⟨hnb46,hnc46⟩ := nn NB338_334; obtain ⟨hnb47,hnc47⟩ := nn NB338_335; obtain ⟨hcz48_0,hcz48_1,hfz48_0,hfz48_1⟩ := c2 BK338) | ((with_reducible refine gate_callee (f := 48) rfl ?_); refine goesL_ (some 16) rfl rfl Try.func48 (by kernel_rfl) rfl #[] rfl mz ?_; (with_reducible refine (impl_rangeNone.calls  t339 t340 _ A5.out).mono ?_); rintro e w49 ⟨rfl, hb⟩; refine ⟨_, rfl, ?_⟩; replace BK333 := am (blk_below (g := gb333) (o := b2 a1_0 a1_1 24) (by refine fa NB333_338 ?_; refine fa NB333_338 ?_; exact Z BK333) hb); replace BK334 := am (blk_below (g := gb334) (o := b2 a2_0 a2_1 24) (by refine fa NB334_338 ?_; refine fa NB334_338 ?_; exact Z BK334) hb); replace BK335 := am (blk_below (g := gb335) (o := b2 0 0 24) (by refine fa NB335_338 ?_; refine fa NB335_338 ?_; exact Z BK335) hb); replace BK338 := am (blk_below (g := gb338) (o := b2 t336 t337 24) (by refine pf ?_; refine blk_put (cs := #[.int .i64 t336, .int .i64 0]) ?_ 1 _ rfl; refine pf ?_; refine blk_put (cs := #[.int .i64 0, .int .i64 0]) ?_ 0 _ rfl; exact Z BK338) hb); replace HB := am (below_step (Y4 HB GE333 GE334 GE335 GE338) hb); (try clear hb)) | ((with_reducible refine gate_dst (N := 9) rfl ?_); refine bx 9 #[.int .i64 0, .int .i64 0] 24 ?_; intro gb341 hg w50 hbox hb; have BK341 := am (hbox); have GW341 := am (bs hg (Y4 HB GE333 GE334 GE335 GE338)); have GE341 := am (bs hg (Y4 HB GE333 GE334 GE335 GE338)); obtain ⟨NB333_341,NB341_333⟩ := ne_ hg BK333; obtain ⟨NB334_341,NB341_334⟩ := ne_ hg BK334; obtain ⟨NB335_341,NB341_335⟩ := ne_ hg BK335; obtain ⟨NB338_341,NB341_338⟩ := ne_ hg BK338; replace BK333 := bb BK333 hb; replace BK334 := bb BK334 hb; replace BK335 := bb BK335 hb; replace BK338 := bb BK338 hb; replace HB := am (below_step (Y4 HB GE333 GE334 GE335 GE338) hb); clear hb hbox hg; obtain ⟨hnb51,hnc51⟩ := nn NB341_333; obtain ⟨hnb52,hnc52⟩ := nn NB341_334; obtain ⟨hnb53,hnc53⟩ := nn NB341_335; obtain ⟨hnb54,hnc54⟩ := nn NB341_338; obtain ⟨hcz55_0,hcz55_1,hfz55_0,hfz55_1⟩ := c2 BK341; obtain ⟨hcz56_0,hcz56_1,hfz56_0,hfz56_1⟩ := c2 BK338) | ((with_reducible refine gate_callee (f := 47) rfl ?_); refine goesL_ (some 18) rfl rfl Try.func47 (by kernel_rfl) rfl #[.agg #[.int .i64 t336, .int .i64 t337]] rfl mz ?_; (with_reducible refine (impl_Range_empty.calls t336 t337 true _ A6.out).mono ?_); rintro e w57 ⟨rfl, hb⟩; refine ⟨_, rfl, ?_⟩; replace BK333 := am (blk_below (g := gb333) (o := b2 a1_0 a1_1 24) (by refine fa NB333_341 ?_; refine fa NB333_341 ?_; exact Z BK333) hb); replace BK334 := am (blk_below (g := gb334) (o := b2 a2_0 a2_1 24) (by refine fa NB334_341 ?_; refine fa NB334_341 ?_; exact Z BK334) hb); replace BK335 := am (blk_below (g := gb335) (o := b2 0 0 24) (by refine fa NB335_341 ?_; refine fa NB335_341 ?_; exact Z BK335) hb); replace BK338 := am (blk_below (g := gb338) (o := b2 t336 t337 24) (by refine fa NB338_341 ?_; refine fa NB338_341 ?_; exact Z BK338) hb); replace BK341 := am (blk_below (g := gb341) (o := b2 t339 t340 24) (by refine pf ?_; refine blk_put (cs := #[.int .i64 t339, .int .i64 0]) ?_ 1 _ rfl; refine pf ?_; refine blk_put (cs := #[.int .i64 0, .int .i64 0]) ?_ 0 _ rfl; exact Z BK341) hb); replace HB := am (below_step (Y5 HB GE333 GE334 GE335 GE338 GE341) hb); (try clear hb); obtain ⟨hcz58_0,hcz58_1,hfz58_0,hfz58_1⟩ := c2 BK338; obtain ⟨hcz59_0,hcz59_1,hfz59_0,hfz59_1⟩ := c2 BK334; obtain ⟨hcz60_0,hcz60_1,hfz60_0,hfz60_1⟩ := c2 BK341; obtain ⟨hnb61,hnc61⟩ := nn NB335_333; obtain ⟨hcz62_0,hcz62_1,hfz62_0,hfz62_1⟩ := c2 BK335))
   refine bodyPost_ret (results_ct rfl _ _ gb335 24 #[.int .i64 t339, .int .i64 t340] (0, 0) _ rfl (by refine pf ?_; refine blk_put (cs := #[.int .i64 t339, .int .i64 0]) ?_ 1 _ rfl; refine pf ?_; refine blk_put (cs := #[.int .i64 0, .int .i64 0]) ?_ 0 _ rfl; exact Z BK335) Try.underlying24 rfl (by kernel_rfl)) rfl ?_
   exact ⟨_, ez, by first | exact Kd.R_nil _ _ _ _ _ | exact Kd.N_nil _ _ _ _ _ | exact Kd.V_nil _ _ _ _ _ | exact Kd.Q_nil _ _ _ _ _ | exact Kd.S_nil _ _ _ _ _, Y5 HB GE333 GE334 GE335 GE338 GE341⟩
  rw [if_pos c8] at H
  have c8b0 : (!(t336 == a2_0) || (!(t337 == a2_1))) = true := c8
  clear c8
  by_cases c9 : ([] : List Int).length < 17592186044416
  rotate_left
  ·rw [if_neg c9] at H
   exact absurd H (by simp)
  rw [if_pos c9] at H
  have LMc9 := am c9
  clear c9
  obtain ⟨y343, hy343⟩ : ∃ y_ : List Int, y_ = (([] : List Int) ++ [3]) := ⟨_, rfl⟩
  replace H : (some (t339, t340, y343)) = some (r1, r2, r3) := by first | (rw [hy343]; with_reducible exact H) | (have H2_ := (Option.bind_some _ _).symm.trans H; rw [hy343]; with_reducible exact H2_) | (have H2_ := (Option.bind_some _ _).symm.trans H; with_reducible exact H2_) | with_reducible exact H | (rw [hy343]; exact H) | exact H
  have Ny343 := am hy343
  clear hy343
  simp only [Option.some.injEq, Prod.mk.injEq] at H
  obtain ⟨rfl, rfl, rfl⟩ := H
  go_enter Try.func52, Try.ntmps52
  go_wp2_with (first | ((with_reducible refine gate_dst (N := 4) rfl ?_); refine bx 4 #[.int .i64 a1_0, .int .i64 a1_1] 24 ?_; intro gb333 hg w10 hbox hb; have BK333 := am (hbox); have GW333 := am (bs hg (Y0 HB)); have GE333 := am (bs hg (Y0 HB)); replace HB := am (below_step (Y0 HB) hb); clear hb hbox hg) | ((with_reducible refine gate_dst (N := 5) rfl ?_); refine bx 5 #[.int .i64 a2_0, .int .i64 a2_1] 24 ?_; intro gb334 hg w11 hbox hb; have BK334 := am (hbox); have GW334 := am (bs hg (Y1 HB GE333)); have GE334 := am (bs hg (Y1 HB GE333)); obtain ⟨NB333_334,NB334_333⟩ := ne_ hg BK333; replace BK333 := bb BK333 hb; replace HB := am (below_step (Y1 HB GE333) hb); clear hb hbox hg) | ((with_reducible refine gate_dst (N := 6) rfl ?_); refine bx 6 #[.int .i64 0, .int .i64 0] 24 ?_; intro gb335 hg w12 hbox hb; have BK335 := am (hbox); have GW335 := am (bs hg (Y2 HB GE333 GE334)); have GE335 := am (bs hg (Y2 HB GE333 GE334)); obtain ⟨NB333_335,NB335_333⟩ := ne_ hg BK333; obtain ⟨NB334_335,NB335_334⟩ := ne_ hg BK334; replace BK333 := bb BK333 hb; replace BK334 := bb BK334 hb; replace HB := am (below_step (Y2 HB GE333 GE334) hb); clear hb hbox hg; obtain ⟨hnb13,hnc13⟩ := nn NB334_333; obtain ⟨hnb14,hnc14⟩ := nn NB334_335; obtain ⟨hcz15_0,hcz15_1,hfz15_0,hfz15_1⟩ := c2 BK334) | ((with_reducible refine gate_callee (f := 93) rfl ?_); refine goesL_ (some 15) rfl rfl Try.func93 (by kernel_rfl) rfl #[.agg #[.int .i64 a2_0, .int .i64 a2_1], .agg #[.int .i64 0, .int .i64 31]] rfl mz ?_; (with_reducible refine (impl_RangeMeet.calls k a2_0 a2_1 0 31 t336 t337 _ A4.out).mono ?_); rintro e w16 ⟨rfl, hb⟩; refine ⟨_, rfl, ?_⟩; replace BK333 := bb BK333 hb; replace BK334 := bb BK334 hb; replace BK335 := bb BK335 hb; replace HB := am (below_step (Y3 HB GE333 GE334 GE335) hb); (try clear hb)) | ((with_reducible refine gate_dst (N := 8) rfl ?_); refine bx 8 #[.int .i64 0, .int .i64 0] 24 ?_; intro gb338 hg w17 hbox hb; have BK338 := am (hbox); have GW338 := am (bs hg (Y3 HB GE333 GE334 GE335)); have GE338 := am (bs hg (Y3 HB GE333 GE334 GE335)); obtain ⟨NB333_338,NB338_333⟩ := ne_ hg BK333; obtain ⟨NB334_338,NB338_334⟩ := ne_ hg BK334; obtain ⟨NB335_338,NB338_335⟩ := ne_ hg BK335; replace BK333 := bb BK333 hb; replace BK334 := bb BK334 hb; replace BK335 := bb BK335 hb; replace HB := am (below_step (Y3 HB GE333 GE334 GE335) hb); clear hb hbox hg; obtain ⟨hnb18,hnc18⟩ := nn NB338_333; obtain ⟨hnb19,hnc19⟩ := nn NB338_334; obtain ⟨hnb20,hnc20⟩ := nn NB338_335; obtain ⟨hcz21_0,hcz21_1,hfz21_0,hfz21_1⟩ := c2 BK338) | ((with_reducible refine gate_callee (f := 48) rfl ?_); refine goesL_ (some 16) rfl rfl Try.func48 (by kernel_rfl) rfl #[] rfl mz ?_; (with_reducible refine (impl_rangeNone.calls  t339 t340 _ A5.out).mono ?_); rintro e w22 ⟨rfl, hb⟩; refine ⟨_, rfl, ?_⟩; replace BK333 := am (blk_below (g := gb333) (o := b2 a1_0 a1_1 24) (by refine fa NB333_338 ?_; refine fa NB333_338 ?_; exact Z BK333) hb); replace BK334 := am (blk_below (g := gb334) (o := b2 a2_0 a2_1 24) (by refine fa NB334_338 ?_; refine fa NB334_338 ?_; exact Z BK334) hb); replace BK335 := am (blk_below (g := gb335) (o := b2 0 0 24) (by refine fa NB335_338 ?_; refine fa NB335_338 ?_; exact Z BK335) hb); replace BK338 := am (blk_below (g := gb338) (o := b2 t336 t337 24) (by refine pf ?_; refine blk_put (cs := #[.int .i64 t336, .int .i64 0]) ?_ 1 _ rfl; refine pf ?_; refine blk_put (cs := #[.int .i64 0, .int .i64 0]) ?_ 0 _ rfl; exact Z BK338) hb); replace HB := am (below_step (Y4 HB GE333 GE334 GE335 GE338) hb); (try clear hb)) | ((with_reducible refine gate_dst (N := 9) rfl ?_); refine bx 9 #[.int .i64 0, .int .i64 0] 24 ?_; intro gb341 hg w23 hbox hb; have BK341 := am (hbox); have GW341 := am (bs hg (Y4 HB GE333 GE334 GE335 GE338)); have GE341 := am (bs hg (Y4 HB GE333 GE334 GE335 GE338)); obtain ⟨NB333_341,NB341_333⟩ := ne_ hg BK333; obtain ⟨NB334_341,NB341_334⟩ := ne_ hg BK334; obtain ⟨NB335_341,NB341_335⟩ := ne_ hg BK335; obtain ⟨NB338_341,NB341_338⟩ := ne_ hg BK338; replace BK333 := bb BK333 hb; replace BK334 := bb BK334 hb; replace BK335 := bb BK335 hb; replace BK338 := bb BK338 hb; replace HB := am (below_step (Y4 HB GE333 GE334 GE335 GE338) hb); clear hb hbox hg; obtain ⟨hnb24,hnc24⟩ := nn NB341_333; obtain ⟨hnb25,hnc25⟩ := nn NB341_334; obtain ⟨hnb26,hnc26⟩ := nn NB341_335; obtain ⟨hnb27,hnc27⟩ := nn NB341_338; obtain ⟨hcz28_0,hcz28_1,hfz28_0,hfz28_1⟩ := c2 BK341; obtain ⟨hcz29_0,hcz29_1,hfz29_0,hfz29_1⟩ := c2 BK338) | ((with_reducible refine gate_callee (f := 47) rfl ?_); refine goesL_ (some 18) rfl rfl Try.func47 (by kernel_rfl) rfl #[.agg #[.int .i64 t336, .int .i64 t337]] rfl mz ?_; (with_reducible refine (impl_Range_empty.calls t336 t337 true _ A6.out).mono ?_); rintro e w30 ⟨rfl, hb⟩; refine ⟨_, rfl, ?_⟩; replace BK333 := am (blk_below (g := gb333) (o := b2 a1_0 a1_1 24) (by refine fa NB333_341 ?_; refine fa NB333_341 ?_; exact Z BK333) hb); replace BK334 := am (blk_below (g := gb334) (o := b2 a2_0 a2_1 24) (by refine fa NB334_341 ?_; refine fa NB334_341 ?_; exact Z BK334) hb); replace BK335 := am (blk_below (g := gb335) (o := b2 0 0 24) (by refine fa NB335_341 ?_; refine fa NB335_341 ?_; exact Z BK335) hb); replace BK338 := am (blk_below (g := gb338) (o := b2 t336 t337 24) (by refine fa NB338_341 ?_; refine fa NB338_341 ?_; exact Z BK338) hb); replace BK341 := am (blk_below (g := gb341) (o := b2 t339 t340 24) (by refine pf ?_; refine blk_put (cs := #[.int .i64 t339, .int .i64 0]) ?_ 1 _ rfl; refine pf ?_; refine blk_put (cs := #[.int .i64 0, .int .i64 0]) ?_ 0 _ rfl; exact Z BK341) hb); replace HB := am (below_step (Y5 HB GE333 GE334 GE335 GE338 GE341) hb); (try clear hb); obtain ⟨hcz31_0,hcz31_1,hfz31_0,hfz31_1⟩ := c2 BK338; obtain ⟨hcz32_0,hcz32_1,hfz32_0,hfz32_1⟩ := c2 BK334) | ((with_reducible refine gate_builtin (b := .append) (xs := #[.tmp 42, .tmp 43]) rfl ?_); at_builtin; refine Kd.R_append (Kd.int .i64) (w0 := w) w.heap.size rfl (.tmp 42) (.tmp 43) 25 3 (.int .i64 0) 8 rfl Try.underlying25 info3 rfl (by decide) (by omega) (.slice none 0 0) ([] : List Int) 3 [.int .i64 3] (fun _ => True) (fun _ => False) rfl rfl ?aP (fun _ hk => hk.elim) ?aF ?aO ?aB ?aS ?aL ?_; (case aP => exact rfl); (case aB => exact (Y5 HB GE333 GE334 GE335 GE338 GE341)); (case aF => exact (fun _ _ => trivial)); (case aO => exact ((Kd.R_nil _ _ _ _ (fun _ => True)))); (case aS => exact (below_size (Y5 HB GE333 GE334 GE335 GE338 GE341))); (case aL => have := LMc9.out; omega); intro v344 w33 ho hb hg hat; rw [← Ny343.out] at ho; have HO345 := am (ho); replace BK333 := am (blk_grown (g := gb333) (o := b2 a1_0 a1_1 24) (Z BK333) hg (by simp [Value.ownBlock])); replace BK334 := am (blk_grown (g := gb334) (o := b2 a2_0 a2_1 24) (Z BK334) hg (by simp [Value.ownBlock])); replace BK335 := am (blk_grown (g := gb335) (o := b2 0 0 24) (Z BK335) hg (by simp [Value.ownBlock])); replace BK338 := am (blk_grown (g := gb338) (o := b2 t336 t337 24) (Z BK338) hg (by simp [Value.ownBlock])); replace BK341 := am (blk_grown (g := gb341) (o := b2 t339 t340 24) (Z BK341) hg (by simp [Value.ownBlock])); replace HB := am (hb); clear ho hb hg hat; obtain ⟨hcz34_0,hcz34_1,hfz34_0,hfz34_1⟩ := c2 BK341; obtain ⟨hnb35,hnc35⟩ := nn NB335_333; obtain ⟨hcz36_0,hcz36_1,hfz36_0,hfz36_1⟩ := c2 BK335))
  refine bodyPost_ret (results_ct rfl _ _ gb335 24 #[.int .i64 t339, .int .i64 t340] (0, 0) _ rfl (by refine pf ?_; refine blk_put (cs := #[.int .i64 t339, .int .i64 0]) ?_ 1 _ rfl; refine pf ?_; refine blk_put (cs := #[.int .i64 0, .int .i64 0]) ?_ 0 _ rfl; exact Z BK335) Try.underlying24 rfl (by kernel_rfl)) rfl ?_
  exact ⟨_, ez, by (with_reducible repeat (first | apply Kd.R_alloc | apply Kd.R_drewN | apply Kd.R_drew)); exact Kd.R_mono (Kd.R_far (p := ⟨gb335, 1, none⟩) (Kd.R_far (p := ⟨gb335, 0, none⟩) (Kd.R_types HO345.out BK335.out (by decide)) (fun _ hk => hk.2) (.int .i64 t339)) (fun _ hk => hk.2) (.int .i64 t340)) (fun _ hk => trivial), Y5 HB GE333 GE334 GE335 GE338 GE341⟩
 replace c7 := Bool.eq_false_iff.mpr c7
 subst c7
 rw [if_neg (show ¬ (false = true) by decide)] at H
 replace H := Option.bind_eq_some_iff.mp H
 obtain ⟨⟨t346, t347⟩, A630, H⟩ := H
 try dsimp only at H
 have A63 := am A630
 clear A630
 replace H := Option.bind_eq_some_iff.mp H
 obtain ⟨⟨t348, t349⟩, A640, H⟩ := H
 try dsimp only at H
 have A64 := am A640
 clear A640
 have HC65 := am H
 clear H
 go_enter Try.func52, Try.ntmps52
 go_upto_region 7 with (first | ((with_reducible refine gate_dst (N := 4) rfl ?_); refine bx 4 #[.int .i64 a1_0, .int .i64 a1_1] 24 ?_; intro gb333 hg w66 hbox hb; have BK333 := am (hbox); have GW333 := am (bs hg (Y0 HB)); have GE333 := am (bs hg (Y0 HB)); replace HB := am (below_step (Y0 HB) hb); clear hb hbox hg) | ((with_reducible refine gate_dst (N := 5) rfl ?_); refine bx 5 #[.int .i64 a2_0, .int .i64 a2_1] 24 ?_; intro gb334 hg w67 hbox hb; have BK334 := am (hbox); have GW334 := am (bs hg (Y1 HB GE333)); have GE334 := am (bs hg (Y1 HB GE333)); obtain ⟨NB333_334,NB334_333⟩ := ne_ hg BK333; replace BK333 := bb BK333 hb; replace HB := am (below_step (Y1 HB GE333) hb); clear hb hbox hg) | ((with_reducible refine gate_dst (N := 6) rfl ?_); refine bx 6 #[.int .i64 0, .int .i64 0] 24 ?_; intro gb335 hg w68 hbox hb; have BK335 := am (hbox); have GW335 := am (bs hg (Y2 HB GE333 GE334)); have GE335 := am (bs hg (Y2 HB GE333 GE334)); obtain ⟨NB333_335,NB335_333⟩ := ne_ hg BK333; obtain ⟨NB334_335,NB335_334⟩ := ne_ hg BK334; replace BK333 := bb BK333 hb; replace BK334 := bb BK334 hb; replace HB := am (below_step (Y2 HB GE333 GE334) hb); clear hb hbox hg; obtain ⟨hnb69,hnc69⟩ := nn NB334_333; obtain ⟨hnb70,hnc70⟩ := nn NB334_335; obtain ⟨hcz71_0,hcz71_1,hfz71_0,hfz71_1⟩ := c2 BK334) | ((with_reducible refine gate_callee (f := 93) rfl ?_); refine goesL_ (some 15) rfl rfl Try.func93 (by kernel_rfl) rfl #[.agg #[.int .i64 a2_0, .int .i64 a2_1], .agg #[.int .i64 0, .int .i64 31]] rfl mz ?_; (with_reducible refine (impl_RangeMeet.calls k a2_0 a2_1 0 31 t336 t337 _ A4.out).mono ?_); rintro e w72 ⟨rfl, hb⟩; refine ⟨_, rfl, ?_⟩; replace BK333 := bb BK333 hb; replace BK334 := bb BK334 hb; replace BK335 := bb BK335 hb; replace HB := am (below_step (Y3 HB GE333 GE334 GE335) hb); (try clear hb)) | ((with_reducible refine gate_dst (N := 8) rfl ?_); refine bx 8 #[.int .i64 0, .int .i64 0] 24 ?_; intro gb338 hg w73 hbox hb; have BK338 := am (hbox); have GW338 := am (bs hg (Y3 HB GE333 GE334 GE335)); have GE338 := am (bs hg (Y3 HB GE333 GE334 GE335)); obtain ⟨NB333_338,NB338_333⟩ := ne_ hg BK333; obtain ⟨NB334_338,NB338_334⟩ := ne_ hg BK334; obtain ⟨NB335_338,NB338_335⟩ := ne_ hg BK335; replace BK333 := bb BK333 hb; replace BK334 := bb BK334 hb; replace BK335 := bb BK335 hb; replace HB := am (below_step (Y3 HB GE333 GE334 GE335) hb); clear hb hbox hg; obtain ⟨hnb74,hnc74⟩ := nn NB338_333; obtain ⟨hnb75,hnc75⟩ := nn NB338_334; obtain ⟨hnb76,hnc76⟩ := nn NB338_335; obtain ⟨hcz77_0,hcz77_1,hfz77_0,hfz77_1⟩ := c2 BK338) | ((with_reducible refine gate_callee (f := 48) rfl ?_); refine goesL_ (some 16) rfl rfl Try.func48 (by kernel_rfl) rfl #[] rfl mz ?_; (with_reducible refine (impl_rangeNone.calls  t339 t340 _ A5.out).mono ?_); rintro e w78 ⟨rfl, hb⟩; refine ⟨_, rfl, ?_⟩; replace BK333 := am (blk_below (g := gb333) (o := b2 a1_0 a1_1 24) (by refine fa NB333_338 ?_; refine fa NB333_338 ?_; exact Z BK333) hb); replace BK334 := am (blk_below (g := gb334) (o := b2 a2_0 a2_1 24) (by refine fa NB334_338 ?_; refine fa NB334_338 ?_; exact Z BK334) hb); replace BK335 := am (blk_below (g := gb335) (o := b2 0 0 24) (by refine fa NB335_338 ?_; refine fa NB335_338 ?_; exact Z BK335) hb); replace BK338 := am (blk_below (g := gb338) (o := b2 t336 t337 24) (by refine pf ?_; refine blk_put (cs := #[.int .i64 t336, .int .i64 0]) ?_ 1 _ rfl; refine pf ?_; refine blk_put (cs := #[.int .i64 0, .int .i64 0]) ?_ 0 _ rfl; exact Z BK338) hb); replace HB := am (below_step (Y4 HB GE333 GE334 GE335 GE338) hb); (try clear hb)) | ((with_reducible refine gate_dst (N := 9) rfl ?_); refine bx 9 #[.int .i64 0, .int .i64 0] 24 ?_; intro gb341 hg w79 hbox hb; have BK341 := am (hbox); have GW341 := am (bs hg (Y4 HB GE333 GE334 GE335 GE338)); have GE341 := am (bs hg (Y4 HB GE333 GE334 GE335 GE338)); obtain ⟨NB333_341,NB341_333⟩ := ne_ hg BK333; obtain ⟨NB334_341,NB341_334⟩ := ne_ hg BK334; obtain ⟨NB335_341,NB341_335⟩ := ne_ hg BK335; obtain ⟨NB338_341,NB341_338⟩ := ne_ hg BK338; replace BK333 := bb BK333 hb; replace BK334 := bb BK334 hb; replace BK335 := bb BK335 hb; replace BK338 := bb BK338 hb; replace HB := am (below_step (Y4 HB GE333 GE334 GE335 GE338) hb); clear hb hbox hg; obtain ⟨hnb80,hnc80⟩ := nn NB341_333; obtain ⟨hnb81,hnc81⟩ := nn NB341_334; obtain ⟨hnb82,hnc82⟩ := nn NB341_335; obtain ⟨hnb83,hnc83⟩ := nn NB341_338; obtain ⟨hcz84_0,hcz84_1,hfz84_0,hfz84_1⟩ := c2 BK341; obtain ⟨hcz85_0,hcz85_1,hfz85_0,hfz85_1⟩ := c2 BK338) | ((with_reducible refine gate_callee (f := 47) rfl ?_); refine goesL_ (some 18) rfl rfl Try.func47 (by kernel_rfl) rfl #[.agg #[.int .i64 t336, .int .i64 t337]] rfl mz ?_; (with_reducible refine (impl_Range_empty.calls t336 t337 false _ A6.out).mono ?_); rintro e w86 ⟨rfl, hb⟩; refine ⟨_, rfl, ?_⟩; replace BK333 := am (blk_below (g := gb333) (o := b2 a1_0 a1_1 24) (by refine fa NB333_341 ?_; refine fa NB333_341 ?_; exact Z BK333) hb); replace BK334 := am (blk_below (g := gb334) (o := b2 a2_0 a2_1 24) (by refine fa NB334_341 ?_; refine fa NB334_341 ?_; exact Z BK334) hb); replace BK335 := am (blk_below (g := gb335) (o := b2 0 0 24) (by refine fa NB335_341 ?_; refine fa NB335_341 ?_; exact Z BK335) hb); replace BK338 := am (blk_below (g := gb338) (o := b2 t336 t337 24) (by refine fa NB338_341 ?_; refine fa NB338_341 ?_; exact Z BK338) hb); replace BK341 := am (blk_below (g := gb341) (o := b2 t339 t340 24) (by refine pf ?_; refine blk_put (cs := #[.int .i64 t339, .int .i64 0]) ?_ 1 _ rfl; refine pf ?_; refine blk_put (cs := #[.int .i64 0, .int .i64 0]) ?_ 0 _ rfl; exact Z BK341) hb); replace HB := am (below_step (Y5 HB GE333 GE334 GE335 GE338 GE341) hb); (try clear hb); obtain ⟨hnb87,hnc87⟩ := nn NB333_335; obtain ⟨hcz88_0,hcz88_1,hfz88_0,hfz88_1⟩ := c2 BK333; obtain ⟨hcz89_0,hcz89_1,hfz89_0,hfz89_1⟩ := c2 BK338) | ((with_reducible refine gate_callee (f := 49) rfl ?_); refine goesL_ (some 24) rfl rfl Try.func49 (by kernel_rfl) rfl #[.int .i64 a0, .agg #[.int .i64 a1_0, .int .i64 a1_1], .agg #[.int .i64 t336, .int .i64 t337]] rfl mz ?_; (with_reducible refine (impl_rangeCorners.calls k a0 a1_0 a1_1 t336 t337 t346 t347 _ A63.out).mono ?_); rintro e w90 ⟨rfl, hb⟩; refine ⟨_, rfl, ?_⟩; replace BK333 := bb BK333 hb; replace BK334 := bb BK334 hb; replace BK335 := bb BK335 hb; replace BK338 := bb BK338 hb; replace BK341 := bb BK341 hb; replace HB := am (below_step (Y5 HB GE333 GE334 GE335 GE338 GE341) hb); (try clear hb)) | ((with_reducible refine gate_callee (f := 50) rfl ?_); refine goesL_ (some 29) rfl rfl Try.func50 (by kernel_rfl) rfl #[.int .i64 t346, .int .i64 t347] rfl mz ?_; (with_reducible refine (impl_rangeFrom.calls t346 t347 t348 t349 _ A64.out).mono ?_); rintro e w91 ⟨rfl, hb⟩; refine ⟨_, rfl, ?_⟩; replace BK333 := bb BK333 hb; replace BK334 := bb BK334 hb; replace BK335 := bb BK335 hb; replace BK338 := bb BK338 hb; replace BK341 := bb BK341 hb; replace HB := am (below_step (Y5 HB GE333 GE334 GE335 GE338 GE341) hb); (try clear hb); obtain ⟨hcz92_0,hcz92_1,hfz92_0,hfz92_1⟩ := c2 BK341))
 (try simp only [Act.put, List.setIfInBounds_toArray, List.set_cons_zero, List.set_cons_succ])
 go_cut [35] (fun v35 wc => ∃ (kq : Nat) (x35_64 : Bool), v35 = .bool x35_64 ∧ Aside0 (impl_rangeShift.j0 kq ([] : List Int) x35_64 a2_0 a2_1 t336 t337 t348 t349 = some (r1, r2, r3)) ∧ Aside0 (kq ≤ k) ∧ Aside0 (Kd.R (Kd.int .i64) 3 wc w.heap.size (fun _ => True) (.slice none 0 0) ([] : List Int)) ∧ Aside0 (wc.heap[gb333]? = some (.cells #[.int .i64 a1_0, .int .i64 a1_1] 24 (0, 0))) ∧ Aside0 (wc.heap[gb334]? = some (.cells #[.int .i64 a2_0, .int .i64 a2_1] 24 (0, 0))) ∧ Aside0 (wc.heap[gb335]? = some (.cells #[.int .i64 0, .int .i64 0] 24 (0, 0))) ∧ Aside0 (wc.heap[gb338]? = some (.cells #[.int .i64 t336, .int .i64 t337] 24 (0, 0))) ∧ Aside0 (wc.heap[gb341]? = some (.cells #[.int .i64 t348, .int .i64 t349] 24 (0, 0))) ∧ Aside0 (Below w.heap.size w wc))
 case first =>
  have H := HC65.out
  clear HC65
  by_cases c93 : t346 < (-2147483648)
  ·rw [if_pos c93] at H
   have c93b0 : decide (t346 < (-2147483648)) = true := decide_eq_true c93
   clear c93
   (first | rw [c93b0] | (simp only [i64_w, i32_w]; rw [c93b0]) | skip)
   have H' := am H
   clear H
   go_wp2
   go_meet
   case rel => exact ⟨_, (true), ey, H', ⟨by first | omega | exact Nat.le_refl _⟩, ⟨by first | exact Kd.R_nil _ _ _ _ _ | exact Kd.N_nil _ _ _ _ _ | exact Kd.V_nil _ _ _ _ _ | exact Kd.Q_nil _ _ _ _ _ | exact Kd.S_nil _ _ _ _ _⟩, ⟨by refine fa NB333_341 ?_; refine fa NB333_341 ?_; exact Z BK333⟩, ⟨by refine fa NB334_341 ?_; refine fa NB334_341 ?_; exact Z BK334⟩, ⟨by refine fa NB335_341 ?_; refine fa NB335_341 ?_; exact Z BK335⟩, ⟨by refine fa NB338_341 ?_; refine fa NB338_341 ?_; exact Z BK338⟩, ⟨by refine pf ?_; refine blk_put (cs := #[.int .i64 t348, .int .i64 t340]) ?_ 1 _ rfl; refine pf ?_; refine blk_put (cs := #[.int .i64 t339, .int .i64 t340]) ?_ 0 _ rfl; exact Z BK341⟩, ⟨Y5 HB GE333 GE334 GE335 GE338 GE341⟩⟩
  rw [if_neg c93] at H
  have c93b0 : decide (t346 < (-2147483648)) = false := decide_eq_false c93
  clear c93
  (first | rw [c93b0] | (simp only [i64_w, i32_w]; rw [c93b0]) | skip)
  have H' := am H
  clear H
  go_wp2
  go_meet
  case rel => exact ⟨_, (decide (t347 > 2147483647)), ey, H', ⟨by first | omega | exact Nat.le_refl _⟩, ⟨by first | exact Kd.R_nil _ _ _ _ _ | exact Kd.N_nil _ _ _ _ _ | exact Kd.V_nil _ _ _ _ _ | exact Kd.Q_nil _ _ _ _ _ | exact Kd.S_nil _ _ _ _ _⟩, ⟨by refine fa NB333_341 ?_; refine fa NB333_341 ?_; exact Z BK333⟩, ⟨by refine fa NB334_341 ?_; refine fa NB334_341 ?_; exact Z BK334⟩, ⟨by refine fa NB335_341 ?_; refine fa NB335_341 ?_; exact Z BK335⟩, ⟨by refine fa NB338_341 ?_; refine fa NB338_341 ?_; exact Z BK338⟩, ⟨by refine pf ?_; refine blk_put (cs := #[.int .i64 t348, .int .i64 t340]) ?_ 1 _ rfl; refine pf ?_; refine blk_put (cs := #[.int .i64 t339, .int .i64 t340]) ?_ 0 _ rfl; exact Z BK341⟩, ⟨Y5 HB GE333 GE334 GE335 GE338 GE341⟩⟩
 case rest =>
  clear HC65
  (try clear c7);(try clear hcz71_0);(try clear hcz71_1);(try clear hcz77_0);(try clear hcz77_1);(try clear hcz84_0);(try clear hcz84_1);(try clear hcz85_0);(try clear hcz85_1);(try clear hcz88_0);(try clear hcz88_1);(try clear hcz89_0);(try clear hcz89_1);(try clear hcz92_0);(try clear hcz92_1);(try clear hfz71_0);(try clear hfz71_1);(try clear hfz77_0);(try clear hfz77_1);(try clear hfz84_0);(try clear hfz84_1);(try clear hfz85_0);(try clear hfz85_1);(try clear hfz88_0);(try clear hfz88_1);(try clear hfz89_0);(try clear hfz89_1);(try clear hfz92_0);(try clear hfz92_1)
  obtain ⟨kq, x35_64, rfl, HA, HJ64, HO_10, BK333, BK334, BK335, BK338, BK341, HB⟩ := hcut
  cases kq with
  | zero => exact absurd HA.out (by simp [impl_rangeShift.j0])
  | succ kj64 =>
   have H := HA.out
   clear HA
   simp only [impl_rangeShift.j0] at H
   by_cases c94 : x35_64 = true
   rotate_left
   ·replace c94 := Bool.eq_false_iff.mpr c94
    subst c94
    rw [if_neg (show ¬ (false = true) by decide)] at H
    by_cases c129 : (!(t336 == a2_0) || (!(t337 == a2_1))) = true
    rotate_left
    ·rw [if_neg c129] at H
     have c129b0 : (!(t336 == a2_0) || (!(t337 == a2_1))) = false := by simpa using c129
     clear c129
     simp only [Option.some.injEq, Prod.mk.injEq] at H
     obtain ⟨rfl, rfl, rfl⟩ := H
     obtain ⟨hnb146,hnc146⟩ := nn NB338_333
     obtain ⟨hnb147,hnc147⟩ := nn NB338_334
     obtain ⟨hnb148,hnc148⟩ := nn NB338_335
     obtain ⟨hnb149,hnc149⟩ := nn NB338_341
     obtain ⟨hcz150_0,hcz150_1,hfz150_0,hfz150_1⟩ := c2 BK338
     obtain ⟨hnb151,hnc151⟩ := nn NB334_333
     obtain ⟨hnb152,hnc152⟩ := nn NB334_335
     obtain ⟨hnb153,hnc153⟩ := nn NB334_341
     obtain ⟨hcz154_0,hcz154_1,hfz154_0,hfz154_1⟩ := c2 BK334
     obtain ⟨hnb155,hnc155⟩ := nn NB341_333
     obtain ⟨hnb156,hnc156⟩ := nn NB341_335
     obtain ⟨hcz157_0,hcz157_1,hfz157_0,hfz157_1⟩ := c2 BK341
     obtain ⟨hnb158,hnc158⟩ := nn NB335_333
     obtain ⟨hcz159_0,hcz159_1,hfz159_0,hfz159_1⟩ := c2 BK335
     go_wp2
     refine bodyPost_ret (results_ct rfl _ _ gb335 24 #[.int .i64 t348, .int .i64 t349] (0, 0) _ rfl (by refine pf ?_; refine blk_put (cs := #[.int .i64 t348, .int .i64 0]) ?_ 1 _ rfl; refine pf ?_; refine blk_put (cs := #[.int .i64 0, .int .i64 0]) ?_ 0 _ rfl; exact Z BK335) Try.underlying24 rfl (by kernel_rfl)) rfl ?_
     exact ⟨_, ez, by (with_reducible repeat (first | apply Kd.R_alloc | apply Kd.R_drewN | apply Kd.R_drew)); exact Kd.R_mono (Kd.R_far (p := ⟨gb335, 1, none⟩) (Kd.R_far (p := ⟨gb335, 0, none⟩) (Kd.R_types HO_10.out BK335.out (by decide)) (fun _ hk => hk.2) (.int .i64 t348)) (fun _ hk => hk.2) (.int .i64 t349)) (fun _ hk => trivial), Y5 HB GE333 GE334 GE335 GE338 GE341⟩
    rw [if_pos c129] at H
    have c129b0 : (!(t336 == a2_0) || (!(t337 == a2_1))) = true := c129
    clear c129
    by_cases c130 : ([] : List Int).length < 17592186044416
    rotate_left
    ·rw [if_neg c130] at H
     exact absurd H (by simp)
    rw [if_pos c130] at H
    have LMc130 := am c130
    clear c130
    obtain ⟨y356, hy356⟩ : ∃ y_ : List Int, y_ = (([] : List Int) ++ [3]) := ⟨_, rfl⟩
    replace H : (some (t348, t349, y356)) = some (r1, r2, r3) := by first | (rw [hy356]; with_reducible exact H) | (have H2_ := (Option.bind_some _ _).symm.trans H; rw [hy356]; with_reducible exact H2_) | (have H2_ := (Option.bind_some _ _).symm.trans H; with_reducible exact H2_) | with_reducible exact H | (rw [hy356]; exact H) | exact H
    have Ny356 := am hy356
    clear hy356
    simp only [Option.some.injEq, Prod.mk.injEq] at H
    obtain ⟨rfl, rfl, rfl⟩ := H
    obtain ⟨hnb131,hnc131⟩ := nn NB338_333
    obtain ⟨hnb132,hnc132⟩ := nn NB338_334
    obtain ⟨hnb133,hnc133⟩ := nn NB338_335
    obtain ⟨hnb134,hnc134⟩ := nn NB338_341
    obtain ⟨hcz135_0,hcz135_1,hfz135_0,hfz135_1⟩ := c2 BK338
    obtain ⟨hnb136,hnc136⟩ := nn NB334_333
    obtain ⟨hnb137,hnc137⟩ := nn NB334_335
    obtain ⟨hnb138,hnc138⟩ := nn NB334_341
    obtain ⟨hcz139_0,hcz139_1,hfz139_0,hfz139_1⟩ := c2 BK334
    go_wp2_with (first | ((with_reducible refine gate_builtin (b := .append) (xs := #[.tmp 42, .tmp 43]) rfl ?_); at_builtin; refine Kd.R_append (Kd.int .i64) (w0 := w) w.heap.size rfl (.tmp 42) (.tmp 43) 25 3 (.int .i64 0) 8 rfl Try.underlying25 info3 rfl (by decide) (by omega) (.slice none 0 0) ([] : List Int) 3 [.int .i64 3] (fun _ => True) (fun _ => False) rfl rfl ?aP (fun _ hk => hk.elim) ?aF ?aO ?aB ?aS ?aL ?_; (case aP => exact rfl); (case aB => exact (Y5 HB GE333 GE334 GE335 GE338 GE341)); (case aF => exact (fun _ _ => trivial)); (case aO => exact (by (with_reducible repeat (first | apply Kd.R_alloc | apply Kd.R_drewN | apply Kd.R_drew)); exact HO_10.out)); (case aS => exact (below_size (Y5 HB GE333 GE334 GE335 GE338 GE341))); (case aL => have := LMc130.out; omega); intro v357 w140 ho hb hg hat; rw [← Ny356.out] at ho; have HO358 := am (ho); replace BK333 := am (blk_grown (g := gb333) (o := b2 a1_0 a1_1 24) (Z BK333) hg (Kd.R_ne HO_10.out BK333.out (by decide))); replace BK334 := am (blk_grown (g := gb334) (o := b2 a2_0 a2_1 24) (Z BK334) hg (Kd.R_ne HO_10.out BK334.out (by decide))); replace BK335 := am (blk_grown (g := gb335) (o := b2 0 0 24) (Z BK335) hg (Kd.R_ne HO_10.out BK335.out (by decide))); replace BK338 := am (blk_grown (g := gb338) (o := b2 t336 t337 24) (Z BK338) hg (Kd.R_ne HO_10.out BK338.out (by decide))); replace BK341 := am (blk_grown (g := gb341) (o := b2 t348 t349 24) (Z BK341) hg (Kd.R_ne HO_10.out BK341.out (by decide))); replace HB := am (hb); clear HO_10; clear ho hb hg hat; obtain ⟨hnb141,hnc141⟩ := nn NB341_333; obtain ⟨hnb142,hnc142⟩ := nn NB341_335; obtain ⟨hcz143_0,hcz143_1,hfz143_0,hfz143_1⟩ := c2 BK341; obtain ⟨hnb144,hnc144⟩ := nn NB335_333; obtain ⟨hcz145_0,hcz145_1,hfz145_0,hfz145_1⟩ := c2 BK335))
    refine bodyPost_ret (results_ct rfl _ _ gb335 24 #[.int .i64 t348, .int .i64 t349] (0, 0) _ rfl (by refine pf ?_; refine blk_put (cs := #[.int .i64 t348, .int .i64 0]) ?_ 1 _ rfl; refine pf ?_; refine blk_put (cs := #[.int .i64 0, .int .i64 0]) ?_ 0 _ rfl; exact Z BK335) Try.underlying24 rfl (by kernel_rfl)) rfl ?_
    exact ⟨_, ez, by (with_reducible repeat (first | apply Kd.R_alloc | apply Kd.R_drewN | apply Kd.R_drew)); exact Kd.R_mono (Kd.R_far (p := ⟨gb335, 1, none⟩) (Kd.R_far (p := ⟨gb335, 0, none⟩) (Kd.R_types HO358.out BK335.out (by decide)) (fun _ hk => hk.2) (.int .i64 t348)) (fun _ hk => hk.2) (.int .i64 t349)) (fun _ hk => trivial), Y5 HB GE333 GE334 GE335 GE338 GE341⟩
   subst c94
   rw [if_pos rfl] at H
   by_cases c95 : ([] : List Int).length < 17592186044416
   rotate_left
   ·rw [if_neg c95] at H
    exact absurd H (by simp)
   rw [if_pos c95] at H
   have LMc95 := am c95
   clear c95
   obtain ⟨y350, hy350⟩ : ∃ y_ : List Int, y_ = (([] : List Int) ++ [1]) := ⟨_, rfl⟩
   replace H : (if (!(t336 == a2_0) || (!(t337 == a2_1))) = true then (if y350.length < 17592186044416 then (some (t348, t349, (y350 ++ [3]))) else (none)) else (some (t348, t349, y350))) = some (r1, r2, r3) := by first | (rw [hy350]; with_reducible exact H) | (have H2_ := (Option.bind_some _ _).symm.trans H; rw [hy350]; with_reducible exact H2_) | (have H2_ := (Option.bind_some _ _).symm.trans H; with_reducible exact H2_) | with_reducible exact H | (rw [hy350]; exact H) | exact H
   have Ny350 := am hy350
   clear hy350
   by_cases c96 : (!(t336 == a2_0) || (!(t337 == a2_1))) = true
   rotate_left
   ·rw [if_neg c96] at H
    have c96b0 : (!(t336 == a2_0) || (!(t337 == a2_1))) = false := by simpa using c96
    clear c96
    simp only [Option.some.injEq, Prod.mk.injEq] at H
    obtain ⟨rfl, rfl, rfl⟩ := H
    go_wp2_with (first | ((with_reducible refine gate_builtin (b := .append) (xs := #[.tmp 36, .tmp 37]) rfl ?_); at_builtin; refine Kd.R_append (Kd.int .i64) (w0 := w) w.heap.size rfl (.tmp 36) (.tmp 37) 25 3 (.int .i64 0) 8 rfl Try.underlying25 info3 rfl (by decide) (by omega) (.slice none 0 0) ([] : List Int) 1 [.int .i64 1] (fun _ => True) (fun _ => False) rfl rfl ?aP (fun _ hk => hk.elim) ?aF ?aO ?aB ?aS ?aL ?_; (case aP => exact rfl); (case aB => exact (Y5 HB GE333 GE334 GE335 GE338 GE341)); (case aF => exact (fun _ _ => trivial)); (case aO => exact (by (with_reducible repeat (first | apply Kd.R_alloc | apply Kd.R_drewN | apply Kd.R_drew)); exact HO_10.out)); (case aS => exact (below_size (Y5 HB GE333 GE334 GE335 GE338 GE341))); (case aL => have := LMc95.out; omega); intro v351 w114 ho hb hg hat; rw [← Ny350.out] at ho; have HO352 := am (ho); replace BK333 := am (blk_grown (g := gb333) (o := b2 a1_0 a1_1 24) (Z BK333) hg (Kd.R_ne HO_10.out BK333.out (by decide))); replace BK334 := am (blk_grown (g := gb334) (o := b2 a2_0 a2_1 24) (Z BK334) hg (Kd.R_ne HO_10.out BK334.out (by decide))); replace BK335 := am (blk_grown (g := gb335) (o := b2 0 0 24) (Z BK335) hg (Kd.R_ne HO_10.out BK335.out (by decide))); replace BK338 := am (blk_grown (g := gb338) (o := b2 t336 t337 24) (Z BK338) hg (Kd.R_ne HO_10.out BK338.out (by decide))); replace BK341 := am (blk_grown (g := gb341) (o := b2 t348 t349 24) (Z BK341) hg (Kd.R_ne HO_10.out BK341.out (by decide))); replace HB := am (hb); clear HO_10; clear ho hb hg hat; obtain ⟨hnb115,hnc115⟩ := nn NB338_333; obtain ⟨hnb116,hnc116⟩ := nn NB338_334; obtain ⟨hnb117,hnc117⟩ := nn NB338_335; obtain ⟨hnb118,hnc118⟩ := nn NB338_341; obtain ⟨hcz119_0,hcz119_1,hfz119_0,hfz119_1⟩ := c2 BK338; obtain ⟨hnb120,hnc120⟩ := nn NB334_333; obtain ⟨hnb121,hnc121⟩ := nn NB334_335; obtain ⟨hnb122,hnc122⟩ := nn NB334_341; obtain ⟨hcz123_0,hcz123_1,hfz123_0,hfz123_1⟩ := c2 BK334; obtain ⟨hnb124,hnc124⟩ := nn NB341_333; obtain ⟨hnb125,hnc125⟩ := nn NB341_335; obtain ⟨hcz126_0,hcz126_1,hfz126_0,hfz126_1⟩ := c2 BK341; obtain ⟨hnb127,hnc127⟩ := nn NB335_333; obtain ⟨hcz128_0,hcz128_1,hfz128_0,hfz128_1⟩ := c2 BK335))
    refine bodyPost_ret (results_ct rfl _ _ gb335 24 #[.int .i64 t348, .int .i64 t349] (0, 0) _ rfl (by refine pf ?_; refine blk_put (cs := #[.int .i64 t348, .int .i64 0]) ?_ 1 _ rfl; refine pf ?_; refine blk_put (cs := #[.int .i64 0, .int .i64 0]) ?_ 0 _ rfl; exact Z BK335) Try.underlying24 rfl (by kernel_rfl)) rfl ?_
    exact ⟨_, ez, by (with_reducible repeat (first | apply Kd.R_alloc | apply Kd.R_drewN | apply Kd.R_drew)); exact Kd.R_mono (Kd.R_far (p := ⟨gb335, 1, none⟩) (Kd.R_far (p := ⟨gb335, 0, none⟩) (Kd.R_types HO352.out BK335.out (by decide)) (fun _ hk => hk.2) (.int .i64 t348)) (fun _ hk => hk.2) (.int .i64 t349)) (fun _ hk => trivial), Y5 HB GE333 GE334 GE335 GE338 GE341⟩
   rw [if_pos c96] at H
   have c96b0 : (!(t336 == a2_0) || (!(t337 == a2_1))) = true := c96
   clear c96
   by_cases c97 : y350.length < 17592186044416
   rotate_left
   ·rw [if_neg c97] at H
    exact absurd H (by simp)
   rw [if_pos c97] at H
   have LMc97 := am c97
   clear c97
   obtain ⟨y353, hy353⟩ : ∃ y_ : List Int, y_ = (y350 ++ [3]) := ⟨_, rfl⟩
   replace H : (some (t348, t349, y353)) = some (r1, r2, r3) := by first | (rw [hy353]; with_reducible exact H) | (have H2_ := (Option.bind_some _ _).symm.trans H; rw [hy353]; with_reducible exact H2_) | (have H2_ := (Option.bind_some _ _).symm.trans H; with_reducible exact H2_) | with_reducible exact H | (rw [hy353]; exact H) | exact H
   have Ny353 := am hy353
   clear hy353
   simp only [Option.some.injEq, Prod.mk.injEq] at H
   obtain ⟨rfl, rfl, rfl⟩ := H
   go_wp2_with (first | ((with_reducible refine gate_builtin (b := .append) (xs := #[.tmp 36, .tmp 37]) rfl ?_); at_builtin; refine Kd.R_append (Kd.int .i64) (w0 := w) w.heap.size rfl (.tmp 36) (.tmp 37) 25 3 (.int .i64 0) 8 rfl Try.underlying25 info3 rfl (by decide) (by omega) (.slice none 0 0) ([] : List Int) 1 [.int .i64 1] (fun _ => True) (fun _ => False) rfl rfl ?aP (fun _ hk => hk.elim) ?aF ?aO ?aB ?aS ?aL ?_; (case aP => exact rfl); (case aB => exact (Y5 HB GE333 GE334 GE335 GE338 GE341)); (case aF => exact (fun _ _ => trivial)); (case aO => exact (by (with_reducible repeat (first | apply Kd.R_alloc | apply Kd.R_drewN | apply Kd.R_drew)); exact HO_10.out)); (case aS => exact (below_size (Y5 HB GE333 GE334 GE335 GE338 GE341))); (case aL => have := LMc95.out; omega); intro v351 w98 ho hb hg hat; rw [← Ny350.out] at ho; have HO352 := am (ho); replace BK333 := am (blk_grown (g := gb333) (o := b2 a1_0 a1_1 24) (Z BK333) hg (Kd.R_ne HO_10.out BK333.out (by decide))); replace BK334 := am (blk_grown (g := gb334) (o := b2 a2_0 a2_1 24) (Z BK334) hg (Kd.R_ne HO_10.out BK334.out (by decide))); replace BK335 := am (blk_grown (g := gb335) (o := b2 0 0 24) (Z BK335) hg (Kd.R_ne HO_10.out BK335.out (by decide))); replace BK338 := am (blk_grown (g := gb338) (o := b2 t336 t337 24) (Z BK338) hg (Kd.R_ne HO_10.out BK338.out (by decide))); replace BK341 := am (blk_grown (g := gb341) (o := b2 t348 t349 24) (Z BK341) hg (Kd.R_ne HO_10.out BK341.out (by decide))); replace HB := am (hb); clear HO_10; clear ho hb hg hat; obtain ⟨hnb99,hnc99⟩ := nn NB338_333; obtain ⟨hnb100,hnc100⟩ := nn NB338_334; obtain ⟨hnb101,hnc101⟩ := nn NB338_335; obtain ⟨hnb102,hnc102⟩ := nn NB338_341; obtain ⟨hcz103_0,hcz103_1,hfz103_0,hfz103_1⟩ := c2 BK338; obtain ⟨hnb104,hnc104⟩ := nn NB334_333; obtain ⟨hnb105,hnc105⟩ := nn NB334_335; obtain ⟨hnb106,hnc106⟩ := nn NB334_341; obtain ⟨hcz107_0,hcz107_1,hfz107_0,hfz107_1⟩ := c2 BK334) | ((with_reducible refine gate_builtin (b := .append) (xs := #[.tmp 42, .tmp 43]) rfl ?_); at_builtin; refine Kd.R_append (Kd.int .i64) (w0 := w) w.heap.size rfl (.tmp 42) (.tmp 43) 25 3 (.int .i64 0) 8 rfl Try.underlying25 info3 rfl (by decide) (by omega) v351 y350 3 [.int .i64 3] (fun _ => True) (fun _ => False) rfl rfl ?aP (fun _ hk => hk.elim) ?aF ?aO ?aB ?aS ?aL ?_; (case aP => exact rfl); (case aB => exact (Y5 HB GE333 GE334 GE335 GE338 GE341)); (case aF => exact (fun _ _ => trivial)); (case aO => exact (by (with_reducible repeat (first | apply Kd.R_alloc | apply Kd.R_drewN | apply Kd.R_drew)); exact HO352.out)); (case aS => exact (below_size (Y5 HB GE333 GE334 GE335 GE338 GE341))); (case aL => have := LMc97.out; omega); intro v354 w108 ho hb hg hat; rw [← Ny353.out] at ho; have HO355 := am (ho); replace BK333 := am (blk_grown (g := gb333) (o := b2 a1_0 a1_1 24) (Z BK333) hg (Kd.R_ne HO352.out BK333.out (by decide))); replace BK334 := am (blk_grown (g := gb334) (o := b2 a2_0 a2_1 24) (Z BK334) hg (Kd.R_ne HO352.out BK334.out (by decide))); replace BK335 := am (blk_grown (g := gb335) (o := b2 0 0 24) (Z BK335) hg (Kd.R_ne HO352.out BK335.out (by decide))); replace BK338 := am (blk_grown (g := gb338) (o := b2 t336 t337 24) (Z BK338) hg (Kd.R_ne HO352.out BK338.out (by decide))); replace BK341 := am (blk_grown (g := gb341) (o := b2 t348 t349 24) (Z BK341) hg (Kd.R_ne HO352.out BK341.out (by decide))); replace HB := am (hb); clear HO352; clear ho hb hg hat; obtain ⟨hnb109,hnc109⟩ := nn NB341_333; obtain ⟨hnb110,hnc110⟩ := nn NB341_335; obtain ⟨hcz111_0,hcz111_1,hfz111_0,hfz111_1⟩ := c2 BK341; obtain ⟨hnb112,hnc112⟩ := nn NB335_333; obtain ⟨hcz113_0,hcz113_1,hfz113_0,hfz113_1⟩ := c2 BK335))
   refine bodyPost_ret (results_ct rfl _ _ gb335 24 #[.int .i64 t348, .int .i64 t349] (0, 0) _ rfl (by refine pf ?_; refine blk_put (cs := #[.int .i64 t348, .int .i64 0]) ?_ 1 _ rfl; refine pf ?_; refine blk_put (cs := #[.int .i64 0, .int .i64 0]) ?_ 0 _ rfl; exact Z BK335) Try.underlying24 rfl (by kernel_rfl)) rfl ?_
   exact ⟨_, ez, by (with_reducible repeat (first | apply Kd.R_alloc | apply Kd.R_drewN | apply Kd.R_drew)); exact Kd.R_mono (Kd.R_far (p := ⟨gb335, 1, none⟩) (Kd.R_far (p := ⟨gb335, 0, none⟩) (Kd.R_types HO355.out BK335.out (by decide)) (fun _ hk => hk.2) (.int .i64 t348)) (fun _ hk => hk.2) (.int .i64 t349)) (fun _ hk => trivial), Y5 HB GE333 GE334 GE335 GE338 GE341⟩

/-! ### impl_rangeSides: function 94 -/
attribute [local go_sem] Go.Proofs.YthbkakcchgnhpaaSet.isSome_setCell
def impl_rangeSides.f (k : Nat) (a0_0 : Int) (a0_1 : Int) : Option (Int × Int × Int × Int) := (impl_RangeMeet.f k a0_0 a0_1 (-2147483648) (-1)).bind fun bt361 => ((impl_RangeMeet.f k a0_0 a0_1 1 2147483647).bind fun bt363 => (some (bt361.1, bt361.2, bt363.1, bt363.2)))
theorem impl_rangeSides.mono : ∀ a0 a1 k, LeO (impl_rangeSides.f k a0 a1) (impl_rangeSides.f (k + 1) a0 a1) := by
 intro a0 a1 k
 unfold impl_rangeSides.f
 repeat' first
   | (with_reducible exact impl_RangeMeet.mono _ _ _ _ _)
   | (with_reducible exact LeO.refl _)
   | (with_reducible exact LeO.none _)
   | (with_reducible refine LeO.ite ?_ ?_)
   | (with_reducible refine LeO.bind ?_ (fun _ => ?_))
   | exact impl_RangeMeet.mono _ _ _ _ _
   | exact LeO.none _
   | refine LeO.ite ?_ ?_
   | refine LeO.bind ?_ (fun _ => ?_)
def impl_rangeSides.T1 : Bool × List (List Nat × List Nat) := (true, [([], []), ([], []), ([0, 1], [0, 1]), ([], []), ([], []), ([3, 4, 2], [3, 4]), ([2, 5], [2, 5]), ([6, 5, 0, 1, 2, 3, 4, 5, 6], [6])])
def impl_rangeSides.B1 : List Nat := [0, 0, 3, 0, 0, 31, 63, 127]
theorem impl_rangeSides.tab1 : rtab .any (opsOf Try.f94 1) = impl_rangeSides.T1 := by kernel_rfl
theorem impl_rangeSides.bits1 : waitsOk impl_rangeSides.T1.2 impl_rangeSides.B1 = true := by kernel_rfl
set_option maxHeartbeats 8000000 in
set_option maxRecDepth 100000 in
theorem impl_rangeSides.calls (k : Nat) (a0_0 : Int) (a0_1 : Int) (r1 : Int) (r2 : Int) (r3 : Int) (r4 : Int) (w : World) (h : impl_rangeSides.f k a0_0 a0_1 = some (r1, r2, r3, r4)) :
  Calls Try.prog 94 #[.agg #[.int .i64 a0_0, .int .i64 a0_1]] w fun e w' => e = .returned (.agg #[.int .i64 r1, .int .i64 r2, .int .i64 r3, .int .i64 r4]) ∧ Below w.heap.size w w' := by
 have hu24 := Try.underlying24
 have hu96 := Try.underlying96
 have HB := am (Below.refl w.heap.size w)
 have H : ((impl_RangeMeet.f k a0_0 a0_1 (-2147483648) (-1)).bind fun bt361 => ((impl_RangeMeet.f k a0_0 a0_1 1 2147483647).bind fun bt363 => (some (bt361.1, bt361.2, bt363.1, bt363.2)))) = some (r1, r2, r3, r4) := h
 clear h
 replace H := Option.bind_eq_some_iff.mp H
 obtain ⟨⟨t361, t362⟩, A20, H⟩ := H
 try dsimp only at H
 have A2 := am A20
 clear A20
 replace H := Option.bind_eq_some_iff.mp H
 obtain ⟨⟨t363, t364⟩, A30, H⟩ := H
 try dsimp only at H
 have A3 := am A30
 clear A30
 simp only [Option.some.injEq, Prod.mk.injEq] at H
 obtain ⟨rfl, rfl, rfl, rfl⟩ := H
 go_enter Try.func94, Try.ntmps94
 try go_wp2_with (first | ((with_reducible refine gate_dst (N := 1) rfl ?_); refine bx 1 #[.int .i64 a0_0, .int .i64 a0_1] 24 ?_; intro gb359 hg w4 hbox hb; have BK359 := am (hbox); have GW359 := am (bs hg (Y0 HB)); have GE359 := am (bs hg (Y0 HB)); replace HB := am (below_step (Y0 HB) hb); clear hb hbox hg) | ((with_reducible refine gate_dst (N := 2) rfl ?_); refine bx 2 #[.int .i64 0, .int .i64 0, .int .i64 0, .int .i64 0] 96 ?_; intro gb360 hg w5 hbox hb; have BK360 := am (hbox); have GW360 := am (bs hg (Y1 HB GE359)); have GE360 := am (bs hg (Y1 HB GE359)); obtain ⟨NB359_360,NB360_359⟩ := ne_ hg BK359; replace BK359 := bb BK359 hb; replace HB := am (below_step (Y1 HB GE359) hb); clear hb hbox hg))
 replace BK359 := am (blk_drew BK359.out)
 replace BK360 := am (blk_drew BK360.out)
 replace HB := am (below_drew1 HB.out)
 refine start_ (n := 8) (S := fun w' => w'.cell? ⟨gb359, 0, none⟩ = some (.int .i64 a0_0) ∧ w'.cell? ⟨gb359, 1, none⟩ = some (.int .i64 a0_1)) (ds := []) (lb 8 0) (by kernel_rfl) rfl rfl ⟨bc BK359 0, bc BK359 1⟩ (fun hHeld => ?_); refine with_tabW impl_rangeSides.tab1 impl_rangeSides.bits1 (fun HT_ HW_ => ?_)
 generalize w5.drew = w6 at BK359 BK360 HB hHeld ⊢
 refine pj 1 (some 4) (lb 8 2) ?_
 refine pj 4 (some 7) (lb 8 18) ?_
 refine take_ (i := 0) (N := some 3) (v := ?_) (a' := ?_) (lb 8 19) rfl rfl (take_ofW HT_.out HW_.out (by kernel_rfl)) (fun _ _ _ h => h) (Or.inl ⟨by rfl, ?_⟩) hHeld ?_ ?_
 rotate_left
 ·rintro w' ⟨s0, s1⟩
  go_simp
  with_reducible rfl
 rotate_left
 ·exact pz
 refine take_ (i := 3) (N := some 6) (v := ?_) (a' := ?_) (lb 8 27) rfl rfl (take_ofW HT_.out HW_.out (by kernel_rfl)) (fun _ _ _ h => h) (Or.inl ⟨by rfl, ?_⟩) hHeld ?_ ?_
 rotate_left
 ·rintro w' ⟨s0, s1⟩
  go_simp
  with_reducible rfl
 rotate_left
 ·exact pz
 refine one_ (i := 2) (N := some 5) (lb 8 31) rfl rfl (one_of HT_.out (by kernel_rfl)) (by decide) (fun K hK => ?_)
 refine goes_ Try.func93 (by kernel_rfl) rfl #[.agg #[.int .i64 a0_0, .int .i64 a0_1], .agg #[.int .i64 (-2147483648), .int .i64 (-1)]] (by rfl) rfl rfl mz ?_
 with_reducible refine (impl_RangeMeet.calls k a0_0 a0_1 (-2147483648) (-1) t361 t362 _ A2.out).mono ?_
 rintro e w7 ⟨rfl, hb⟩
 refine ⟨_, rfl, ?_⟩
 replace BK359 := bb BK359 hb
 replace BK360 := bb BK360 hb
 replace HB := am (below_step (Y2 HB GE359 GE360) hb)
 (try clear hb)
 (try clear hb2)
 (try clear hk)
 (try clear hi)
 refine hK.out _ _ ⟨bc BK359 0, bc BK359 1⟩ (fun hHeld => ?_)
 clear hK K
 refine norm_ (a' := ?_) ?_ ?_
 rotate_left
 ·show Act.put _ (some 5) _ = _
  simp only [Act.put, List.setIfInBounds_toArray, List.set_cons_zero, List.set_cons_succ, i64_w, i32_w]
  rfl
 refine one_ (i := 5) (N := some 8) (lb 8 63) rfl rfl (one_of HT_.out (by kernel_rfl)) (by decide) (fun K hK => ?_)
 refine goes_ Try.func93 (by kernel_rfl) rfl #[.agg #[.int .i64 a0_0, .int .i64 a0_1], .agg #[.int .i64 1, .int .i64 2147483647]] (by rfl) rfl rfl mz ?_
 with_reducible refine (impl_RangeMeet.calls k a0_0 a0_1 1 2147483647 t363 t364 _ A3.out).mono ?_
 rintro e w8 ⟨rfl, hb⟩
 refine ⟨_, rfl, ?_⟩
 replace BK359 := bb BK359 hb
 replace BK360 := bb BK360 hb
 replace HB := am (below_step (Y2 HB GE359 GE360) hb)
 (try clear hb)
 (try clear hb2)
 (try clear hk)
 (try clear hi)
 refine hK.out _ _ ⟨bc BK359 0, bc BK359 1⟩ (fun hHeld => ?_)
 clear hK K
 refine norm_ (a' := ?_) ?_ ?_
 rotate_left
 ·show Act.put _ (some 8) _ = _
  simp only [Act.put, List.setIfInBounds_toArray, List.set_cons_zero, List.set_cons_succ, i64_w, i32_w]
  rfl
 refine pj 6 (some 9) (lb 8 127) ?_
 refine one_ (i := 7) (N := none) (lb 8 255) rfl rfl (one_of HT_.out (by kernel_rfl)) (by decide) (fun K hK => ?_)
 have hs9 : w8.cell? ⟨gb360, 0, none⟩ = some (.int .i64 0) := bc BK360 0
 have hfs9 := blk_frozen BK360.out 0
 obtain ⟨hns9_0,hms9_0⟩ := nn NB359_360
 have hs10 : w8.cell? ⟨gb360, 1, none⟩ = some (.int .i64 0) := bc BK360 1
 have hfs10 := blk_frozen BK360.out 1
 obtain ⟨hns10_0,hms10_0⟩ := nn NB359_360
 have hs11 : w8.cell? ⟨gb360, 2, none⟩ = some (.int .i64 0) := bc BK360 2
 have hfs11 := blk_frozen BK360.out 2
 obtain ⟨hns11_0,hms11_0⟩ := nn NB359_360
 have hs12 : w8.cell? ⟨gb360, 3, none⟩ = some (.int .i64 0) := bc BK360 3
 have hfs12 := blk_frozen BK360.out 3
 obtain ⟨hns12_0,hms12_0⟩ := nn NB359_360
 refine skip_ (w1 := ?_) (by rfl) rfl ?_ ?_
 rotate_left
 ·go_simp
  rfl
 refine hK.out _ _ ⟨((cell_far (p := ⟨gb360, _, none⟩) NB359_360.out _).trans (((cell_far (p := ⟨gb360, _, none⟩) NB359_360.out _).trans (((cell_far (p := ⟨gb360, _, none⟩) NB359_360.out _).trans (((cell_far (p := ⟨gb360, _, none⟩) NB359_360.out _).trans (hHeld.1)))))))), ((cell_far (p := ⟨gb360, _, none⟩) NB359_360.out _).trans (((cell_far (p := ⟨gb360, _, none⟩) NB359_360.out _).trans (((cell_far (p := ⟨gb360, _, none⟩) NB359_360.out _).trans (((cell_far (p := ⟨gb360, _, none⟩) NB359_360.out _).trans (hHeld.2))))))))⟩ (fun hHeld => ?_)
 clear hK K
 refine done_ (done_of HT_.out (by kernel_rfl)) ?_
 try go_wp2
 refine bodyPost_ret (results_cell_row rfl _ _ gb360 96 #[.int .i64 t361, .int .i64 t362, .int .i64 t363, .int .i64 t364] (0, 0) _ rfl (by refine pf ?_; refine blk_put (cs := #[.int .i64 t361, .int .i64 t362, .int .i64 t363, .int .i64 0]) ?_ 3 _ rfl; refine pf ?_; refine blk_put (cs := #[.int .i64 t361, .int .i64 t362, .int .i64 0, .int .i64 0]) ?_ 2 _ rfl; refine pf ?_; refine blk_put (cs := #[.int .i64 t361, .int .i64 0, .int .i64 0, .int .i64 0]) ?_ 1 _ rfl; refine pf ?_; refine blk_put (cs := #[.int .i64 0, .int .i64 0, .int .i64 0, .int .i64 0]) ?_ 0 _ rfl; exact Z BK360) Try.underlying96 rfl (by kernel_rfl)) rfl ?_
 exact ⟨ez, Y2 HB GE359 GE360⟩

/-! ### impl_RangeHas: function 95 -/
attribute [local go_sem] Go.Proofs.YthbkakcchgnhpaaSet.isSome_setCell
def impl_RangeHas.f (a0_0 : Int) (a0_1 : Int) (a1 : Int) : Option (Bool) := (impl_RangeOk.f a0_0 a0_1).bind fun t366 => (if t366 = true then (if a0_0 ≤ a1 then (some (decide (a1 ≤ a0_1))) else (some false)) else (some false))
set_option maxHeartbeats 8000000 in
set_option maxRecDepth 100000 in
theorem impl_RangeHas.calls (a0_0 : Int) (a0_1 : Int) (a1 : Int) (r : Bool) (w : World) (h : impl_RangeHas.f a0_0 a0_1 a1 = some r) :
  Calls Try.prog 95 #[.agg #[.int .i64 a0_0, .int .i64 a0_1], .int .i64 a1] w fun e w' => e = .returned (.bool r) ∧ Below w.heap.size w w' := by
 have hu24 := Try.underlying24
 have HB := am (Below.refl w.heap.size w)
 have H : ((impl_RangeOk.f a0_0 a0_1).bind fun t366 => (if t366 = true then (if a0_0 ≤ a1 then (some (decide (a1 ≤ a0_1))) else (some false)) else (some false))) = some r := h
 clear h
 replace H := Option.bind_eq_some_iff.mp H
 obtain ⟨t366, A30, H⟩ := H
 try dsimp only at H
 have A3 := am A30
 clear A30
 by_cases c4 : t366 = true
 rotate_left
 ·replace c4 := Bool.eq_false_iff.mpr c4
  subst c4
  rw [if_neg (show ¬ (false = true) by decide)] at H
  obtain rfl := Option.some.inj H
  go_enter Try.func95, Try.ntmps95
  go_wp2_with (first | ((with_reducible refine gate_dst (N := 2) rfl ?_); refine bx 2 #[.int .i64 a0_0, .int .i64 a0_1] 24 ?_; intro gb365 hg w14 hbox hb; have BK365 := am (hbox); have GW365 := am (bs hg (Y0 HB)); have GE365 := am (bs hg (Y0 HB)); replace HB := am (below_step (Y0 HB) hb); clear hb hbox hg; obtain ⟨hcz15_0,hcz15_1,hfz15_0,hfz15_1⟩ := c2 BK365) | ((with_reducible refine gate_callee (f := 46) rfl ?_); refine goesL_ (some 6) rfl rfl Try.func46 (by kernel_rfl) rfl #[.agg #[.int .i64 a0_0, .int .i64 a0_1]] rfl mz ?_; (with_reducible refine (impl_RangeOk.calls a0_0 a0_1 false _ A3.out).mono ?_); rintro e w16 ⟨rfl, hb⟩; refine ⟨_, rfl, ?_⟩; replace BK365 := bb BK365 hb; replace HB := am (below_step (Y1 HB GE365) hb); (try clear hb)))
  go_ret
  exact ⟨ez, Y1 HB GE365⟩
 subst c4
 rw [if_pos rfl] at H
 by_cases c5 : a0_0 ≤ a1
 ·rw [if_pos c5] at H
  have c5b0 : decide (a0_0 ≤ a1) = true := decide_eq_true c5
  clear c5
  obtain rfl := Option.some.inj H
  go_enter Try.func95, Try.ntmps95
  go_wp2_with (first | ((with_reducible refine gate_dst (N := 2) rfl ?_); refine bx 2 #[.int .i64 a0_0, .int .i64 a0_1] 24 ?_; intro gb365 hg w6 hbox hb; have BK365 := am (hbox); have GW365 := am (bs hg (Y0 HB)); have GE365 := am (bs hg (Y0 HB)); replace HB := am (below_step (Y0 HB) hb); clear hb hbox hg; obtain ⟨hcz7_0,hcz7_1,hfz7_0,hfz7_1⟩ := c2 BK365) | ((with_reducible refine gate_callee (f := 46) rfl ?_); refine goesL_ (some 6) rfl rfl Try.func46 (by kernel_rfl) rfl #[.agg #[.int .i64 a0_0, .int .i64 a0_1]] rfl mz ?_; (with_reducible refine (impl_RangeOk.calls a0_0 a0_1 true _ A3.out).mono ?_); rintro e w8 ⟨rfl, hb⟩; refine ⟨_, rfl, ?_⟩; replace BK365 := bb BK365 hb; replace HB := am (below_step (Y1 HB GE365) hb); (try clear hb); obtain ⟨hcz9_0,hcz9_1,hfz9_0,hfz9_1⟩ := c2 BK365))
  go_ret
  exact ⟨ez, Y1 HB GE365⟩
 rw [if_neg c5] at H
 have c5b0 : decide (a0_0 ≤ a1) = false := decide_eq_false c5
 clear c5
 obtain rfl := Option.some.inj H
 go_enter Try.func95, Try.ntmps95
 go_wp2_with (first | ((with_reducible refine gate_dst (N := 2) rfl ?_); refine bx 2 #[.int .i64 a0_0, .int .i64 a0_1] 24 ?_; intro gb365 hg w10 hbox hb; have BK365 := am (hbox); have GW365 := am (bs hg (Y0 HB)); have GE365 := am (bs hg (Y0 HB)); replace HB := am (below_step (Y0 HB) hb); clear hb hbox hg; obtain ⟨hcz11_0,hcz11_1,hfz11_0,hfz11_1⟩ := c2 BK365) | ((with_reducible refine gate_callee (f := 46) rfl ?_); refine goesL_ (some 6) rfl rfl Try.func46 (by kernel_rfl) rfl #[.agg #[.int .i64 a0_0, .int .i64 a0_1]] rfl mz ?_; (with_reducible refine (impl_RangeOk.calls a0_0 a0_1 true _ A3.out).mono ?_); rintro e w12 ⟨rfl, hb⟩; refine ⟨_, rfl, ?_⟩; replace BK365 := bb BK365 hb; replace HB := am (below_step (Y1 HB GE365) hb); (try clear hb); obtain ⟨hcz13_0,hcz13_1,hfz13_0,hfz13_1⟩ := c2 BK365))
 go_ret
 exact ⟨ez, Y1 HB GE365⟩

end Go.Proofs.Ythbkakcchgnhpaa.PFnExactRangeDo
