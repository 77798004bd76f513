/- Written by this session's own driver (wip/dprint.py): the functions that the law FnRangeOne reaches, as Lean functions, each with its contract. -/
import Derived.Test.YthbkakcchgnhpaaPFnRangeOnex0
import Derived.Test.YthbkakcchgnhpaaPFnRangeOnex2
import Derived.Test.YthbkakcchgnhpaaPFnRangeOnex4
import Derived.Test.YthbkakcchgnhpaaPFnRangeOnex5
import Derived.Test.YthbkakcchgnhpaaPFnRangeOnex6
import Derived.Test.YthbkakcchgnhpaaPFnRangeOnex7
import Derived.Test.YthbkakcchgnhpaaPFnRangeOnex9
import Derived.Test.YthbkakcchgnhpaaPFnRangeOnex10
import Derived.Test.YthbkakcchgnhpaaSv
namespace Go.Proofs.Ythbkakcchgnhpaa.PFnRangeOne
open Go.RowKit Go.Proofs.YthbkakcchgnhpaaV.PrintWords Go.Proofs.YthbkakcchgnhpaaV.PrintLast Go.Proofs.YthbkakcchgnhpaaV.PrintMore Go.Proofs.YthbkakcchgnhpaaSv
attribute [local go_sem] max2_int min2_int max_two min_two max_three min_three max_four min_four   -- for this text's walks alone
set_option linter.unusedVariables false
set_option linter.unusedSimpArgs false

/-! ### impl_RangeDo: function 11 -/
mutual
def impl_RangeDo.j0 : Nat → Int → Bool → Int → Int → Int → Int → Option (Int × Int × List Int)
 | 0, _, _, _, _, _, _ => none
 | k + 1, x0, x30, x264000, x264001, x265000, x265001 => if x30 = true then ((impl_rangeNone.f).bind fun bt271 => (some (bt271.1, bt271.2, ([] : List Int)))) else (if x0 = 1 then (impl_RangeDo.j1 k x0 x0 (x0 == 1) x264000 x264001 x265000 x265001) else (if x0 = 2 then (impl_RangeDo.j1 k x0 x0 (x0 == 2) x264000 x264001 x265000 x265001) else (impl_RangeDo.j1 k x0 x0 (x0 == 3) x264000 x264001 x265000 x265001)))
def impl_RangeDo.j1 : Nat → Int → Int → Bool → Int → Int → Int → Int → Option (Int × Int × List Int)
 | 0, _, _, _, _, _, _, _ => none
 | k + 1, x0, x32, x33, x264000, x264001, x265000, x265001 => if x33 = true then ((impl_rangeCorners.f k x0 x264000 x264001 x265000 x265001).bind fun bt273 => (if bt273.1 < (-2147483648) then (impl_RangeDo.j2 k bt273.1 bt273.2 true) else (impl_RangeDo.j2 k bt273.1 bt273.2 (decide (bt273.2 > 2147483647))))) else (if x32 = 11 then (impl_RangeDo.j3 k x0 x32 (x32 == 11) x264000 x264001 x265000 x265001) else (if x32 = 12 then (impl_RangeDo.j3 k x0 x32 (x32 == 12) x264000 x264001 x265000 x265001) else (impl_RangeDo.j3 k x0 x32 (x32 == 13) x264000 x264001 x265000 x265001)))
def impl_RangeDo.j2 : Nat → Int → Int → Bool → Option (Int × Int × List Int)
 | 0, _, _, _ => none
 | k + 1, x8, x9, x49 => if x49 = true then ((impl_rangeFrom.f x8 x9).bind fun bt275 => (some (bt275.1, bt275.2, (([1] : List Int))))) else ((impl_rangeFrom.f x8 x9).bind fun bt280 => (some (bt280.1, bt280.2, ([] : List Int))))
def impl_RangeDo.j3 : Nat → Int → Int → Bool → Int → Int → Int → Int → Option (Int × Int × List Int)
 | 0, _, _, _, _, _, _, _ => none
 | k + 1, x0, x32, x57, x264000, x264001, x265000, x265001 => if x57 = true then ((impl_rangeWrap.f k x0 x264000 x264001 x265000 x265001).bind fun bt282 => (some (bt282.1, bt282.2, ([] : List Int)))) else (if x32 = 9 then (impl_RangeDo.j4 k x0 x32 (x32 == 9) x264000 x264001 x265000 x265001) else (impl_RangeDo.j4 k x0 x32 (x32 == 10) x264000 x264001 x265000 x265001))
def impl_RangeDo.j4 : Nat → Int → Int → Bool → Int → Int → Int → Int → Option (Int × Int × List Int)
 | 0, _, _, _, _, _, _, _ => none
 | k + 1, x0, x32, x65, x264000, x264001, x265000, x265001 => if x65 = true then ((impl_rangeShift.f k x0 x264000 x264001 x265000 x265001).bind fun bt284 => (some (bt284.1, bt284.2.1, bt284.2.2))) else (if x32 = 4 then ((impl_rangeDiv.f k x264000 x264001 x265000 x265001).bind fun bt289 => (some (bt289.1, bt289.2.1, bt289.2.2))) else (if x32 = 5 then ((impl_rangeRem.f k x264000 x264001 x265000 x265001).bind fun bt294 => (some (bt294.1, bt294.2.1, bt294.2.2))) else ((impl_rangeBits.f k x0 x264000 x264001 x265000 x265001).bind fun bt299 => (some (bt299.1, bt299.2, ([] : List Int))))))
end
def impl_RangeDo.f (k : Nat) (a0 : Int) (a1_0 : Int) (a1_1 : Int) (a2_0 : Int) (a2_1 : Int) : Option (Int × Int × List Int) := (impl_numOp.f a0).bind fun t266 => (if t266 = true then ((impl_RangeOk.f a1_0 a1_1).bind fun t267 => (if t267 = true then ((impl_RangeOk.f a2_0 a2_1).bind fun t268 => (if t268 = true then ((impl_Range_empty.f a1_0 a1_1).bind fun t269 => (if t269 = true then (impl_RangeDo.j0 k a0 true a1_0 a1_1 a2_0 a2_1) else ((impl_Range_empty.f a2_0 a2_1).bind fun t270 => (impl_RangeDo.j0 k a0 t270 a1_0 a1_1 a2_0 a2_1)))) else (impl_RangeDo.j0 k a0 true a1_0 a1_1 a2_0 a2_1))) else (impl_RangeDo.j0 k a0 true a1_0 a1_1 a2_0 a2_1))) else (impl_RangeDo.j0 k a0 true a1_0 a1_1 a2_0 a2_1))
theorem impl_RangeDo.mono_l : ∀ k, (∀ y0 y1 y2 y3 y4 y5, LeO (impl_RangeDo.j0 k y0 y1 y2 y3 y4 y5) (impl_RangeDo.j0 (k + 1) y0 y1 y2 y3 y4 y5)) ∧ (∀ y0 y1 y2 y3 y4 y5 y6, LeO (impl_RangeDo.j1 k y0 y1 y2 y3 y4 y5 y6) (impl_RangeDo.j1 (k + 1) y0 y1 y2 y3 y4 y5 y6)) ∧ (∀ y0 y1 y2, LeO (impl_RangeDo.j2 k y0 y1 y2) (impl_RangeDo.j2 (k + 1) y0 y1 y2)) ∧ (∀ y0 y1 y2 y3 y4 y5 y6, LeO (impl_RangeDo.j3 k y0 y1 y2 y3 y4 y5 y6) (impl_RangeDo.j3 (k + 1) y0 y1 y2 y3 y4 y5 y6)) ∧ (∀ y0 y1 y2 y3 y4 y5 y6, LeO (impl_RangeDo.j4 k y0 y1 y2 y3 y4 y5 y6) (impl_RangeDo.j4 (k + 1) y0 y1 y2 y3 y4 y5 y6))
 | 0 => ⟨fun _ _ _ _ _ _ r h => by simp [impl_RangeDo.j0] at h, fun _ _ _ _ _ _ _ r h => by simp [impl_RangeDo.j1] at h, fun _ _ _ r h => by simp [impl_RangeDo.j2] at h, fun _ _ _ _ _ _ _ r h => by simp [impl_RangeDo.j3] at h, fun _ _ _ _ _ _ _ r h => by simp [impl_RangeDo.j4] at h⟩
 | k + 1 => by
  obtain ⟨ih0, ih1, ih2, ih3, ih4⟩ := impl_RangeDo.mono_l k
  refine ⟨?_, ?_, ?_, ?_, ?_⟩
  ·intro y0 y1 y2 y3 y4 y5
   unfold impl_RangeDo.j0
   repeat' first
   | (with_reducible exact ih0 _ _ _ _ _ _)
   | (with_reducible exact ih1 _ _ _ _ _ _ _)
   | (with_reducible exact ih2 _ _ _)
   | (with_reducible exact ih3 _ _ _ _ _ _ _)
   | (with_reducible exact ih4 _ _ _ _ _ _ _)
   | (with_reducible exact impl_rangeBits.mono _ _ _ _ _ _)
   | (with_reducible exact impl_rangeCorners.mono _ _ _ _ _ _)
   | (with_reducible exact impl_rangeDiv.mono _ _ _ _ _)
   | (with_reducible exact impl_rangeRem.mono _ _ _ _ _)
   | (with_reducible exact impl_rangeShift.mono _ _ _ _ _ _)
   | (with_reducible exact impl_rangeWrap.mono _ _ _ _ _ _)
   | (with_reducible exact LeO.refl _)
   | (with_reducible exact LeO.none _)
   | (with_reducible refine LeO.ite ?_ ?_)
   | (with_reducible refine LeO.bind ?_ (fun _ => ?_))
   | exact ih0 _ _ _ _ _ _
   | exact ih1 _ _ _ _ _ _ _
   | exact ih2 _ _ _
   | exact ih3 _ _ _ _ _ _ _
   | exact ih4 _ _ _ _ _ _ _
   | exact impl_rangeBits.mono _ _ _ _ _ _
   | exact impl_rangeCorners.mono _ _ _ _ _ _
   | exact impl_rangeDiv.mono _ _ _ _ _
   | exact impl_rangeRem.mono _ _ _ _ _
   | exact impl_rangeShift.mono _ _ _ _ _ _
   | exact impl_rangeWrap.mono _ _ _ _ _ _
   | exact LeO.none _
   | refine LeO.ite ?_ ?_
   | refine LeO.bind ?_ (fun _ => ?_)
  ·intro y0 y1 y2 y3 y4 y5 y6
   unfold impl_RangeDo.j1
   repeat' first
   | (with_reducible exact ih0 _ _ _ _ _ _)
   | (with_reducible exact ih1 _ _ _ _ _ _ _)
   | (with_reducible exact ih2 _ _ _)
   | (with_reducible exact ih3 _ _ _ _ _ _ _)
   | (with_reducible exact ih4 _ _ _ _ _ _ _)
   | (with_reducible exact impl_rangeBits.mono _ _ _ _ _ _)
   | (with_reducible exact impl_rangeCorners.mono _ _ _ _ _ _)
   | (with_reducible exact impl_rangeDiv.mono _ _ _ _ _)
   | (with_reducible exact impl_rangeRem.mono _ _ _ _ _)
   | (with_reducible exact impl_rangeShift.mono _ _ _ _ _ _)
   | (with_reducible exact impl_rangeWrap.mono _ _ _ _ _ _)
   | (with_reducible exact LeO.refl _)
   | (with_reducible exact LeO.none _)
   | (with_reducible refine LeO.ite ?_ ?_)
   | (with_reducible refine LeO.bind ?_ (fun _ => ?_))
   | exact ih0 _ _ _ _ _ _
   | exact ih1 _ _ _ _ _ _ _
   | exact ih2 _ _ _
   | exact ih3 _ _ _ _ _ _ _
   | exact ih4 _ _ _ _ _ _ _
   | exact impl_rangeBits.mono _ _ _ _ _ _
   | exact impl_rangeCorners.mono _ _ _ _ _ _
   | exact impl_rangeDiv.mono _ _ _ _ _
   | exact impl_rangeRem.mono _ _ _ _ _
   | exact impl_rangeShift.mono _ _ _ _ _ _
   | exact impl_rangeWrap.mono _ _ _ _ _ _
   | exact LeO.none _
   | refine LeO.ite ?_ ?_
   | refine LeO.bind ?_ (fun _ => ?_)
  ·intro y0 y1 y2
   unfold impl_RangeDo.j2
   repeat' first
   | (with_reducible exact ih0 _ _ _ _ _ _)
   | (with_reducible exact ih1 _ _ _ _ _ _ _)
   | (with_reducible exact ih2 _ _ _)
   | (with_reducible exact ih3 _ _ _ _ _ _ _)
   | (with_reducible exact ih4 _ _ _ _ _ _ _)
   | (with_reducible exact impl_rangeBits.mono _ _ _ _ _ _)
   | (with_reducible exact impl_rangeCorners.mono _ _ _ _ _ _)
   | (with_reducible exact impl_rangeDiv.mono _ _ _ _ _)
   | (with_reducible exact impl_rangeRem.mono _ _ _ _ _)
   | (with_reducible exact impl_rangeShift.mono _ _ _ _ _ _)
   | (with_reducible exact impl_rangeWrap.mono _ _ _ _ _ _)
   | (with_reducible exact LeO.refl _)
   | (with_reducible exact LeO.none _)
   | (with_reducible refine LeO.ite ?_ ?_)
   | (with_reducible refine LeO.bind ?_ (fun _ => ?_))
   | exact ih0 _ _ _ _ _ _
   | exact ih1 _ _ _ _ _ _ _
   | exact ih2 _ _ _
   | exact ih3 _ _ _ _ _ _ _
   | exact ih4 _ _ _ _ _ _ _
   | exact impl_rangeBits.mono _ _ _ _ _ _
   | exact impl_rangeCorners.mono _ _ _ _ _ _
   | exact impl_rangeDiv.mono _ _ _ _ _
   | exact impl_rangeRem.mono _ _ _ _ _
   | exact impl_rangeShift.mono _ _ _ _ _ _
   | exact impl_rangeWrap.mono _ _ _ _ _ _
   | exact LeO.none _
   | refine LeO.ite ?_ ?_
   | refine LeO.bind ?_ (fun _ => ?_)
  ·intro y0 y1 y2 y3 y4 y5 y6
   unfold impl_RangeDo.j3
   repeat' first
   | (with_reducible exact ih0 _ _ _ _ _ _)
   | (with_reducible exact ih1 _ _ _ _ _ _ _)
   | (with_reducible exact ih2 _ _ _)
   | (with_reducible exact ih3 _ _ _ _ _ _ _)
   | (with_reducible exact ih4 _ _ _ _ _ _ _)
   | (with_reducible exact impl_rangeBits.mono _ _ _ _ _ _)
   | (with_reducible exact impl_rangeCorners.mono _ _ _ _ _ _)
   | (with_reducible exact impl_rangeDiv.mono _ _ _ _ _)
   | (with_reducible exact impl_rangeRem.mono _ _ _ _ _)
   | (with_reducible exact impl_rangeShift.mono _ _ _ _ _ _)
   | (with_reducible exact impl_rangeWrap.mono _ _ _ _ _ _)
   | (with_reducible exact LeO.refl _)
   | (with_reducible exact LeO.none _)
   | (with_reducible refine LeO.ite ?_ ?_)
   | (with_reducible refine LeO.bind ?_ (fun _ => ?_))
   | exact ih0 _ _ _ _ _ _
   | exact ih1 _ _ _ _ _ _ _
   | exact ih2 _ _ _
   | exact ih3 _ _ _ _ _ _ _
   | exact ih4 _ _ _ _ _ _ _
   | exact impl_rangeBits.mono _ _ _ _ _ _
   | exact impl_rangeCorners.mono _ _ _ _ _ _
   | exact impl_rangeDiv.mono _ _ _ _ _
   | exact impl_rangeRem.mono _ _ _ _ _
   | exact impl_rangeShift.mono _ _ _ _ _ _
   | exact impl_rangeWrap.mono _ _ _ _ _ _
   | exact LeO.none _
   | refine LeO.ite ?_ ?_
   | refine LeO.bind ?_ (fun _ => ?_)
  ·intro y0 y1 y2 y3 y4 y5 y6
   unfold impl_RangeDo.j4
   repeat' first
   | (with_reducible exact ih0 _ _ _ _ _ _)
   | (with_reducible exact ih1 _ _ _ _ _ _ _)
   | (with_reducible exact ih2 _ _ _)
   | (with_reducible exact ih3 _ _ _ _ _ _ _)
   | (with_reducible exact ih4 _ _ _ _ _ _ _)
   | (with_reducible exact impl_rangeBits.mono _ _ _ _ _ _)
   | (with_reducible exact impl_rangeCorners.mono _ _ _ _ _ _)
   | (with_reducible exact impl_rangeDiv.mono _ _ _ _ _)
   | (with_reducible exact impl_rangeRem.mono _ _ _ _ _)
   | (with_reducible exact impl_rangeShift.mono _ _ _ _ _ _)
   | (with_reducible exact impl_rangeWrap.mono _ _ _ _ _ _)
   | (with_reducible exact LeO.refl _)
   | (with_reducible exact LeO.none _)
   | (with_reducible refine LeO.ite ?_ ?_)
   | (with_reducible refine LeO.bind ?_ (fun _ => ?_))
   | exact ih0 _ _ _ _ _ _
   | exact ih1 _ _ _ _ _ _ _
   | exact ih2 _ _ _
   | exact ih3 _ _ _ _ _ _ _
   | exact ih4 _ _ _ _ _ _ _
   | exact impl_rangeBits.mono _ _ _ _ _ _
   | exact impl_rangeCorners.mono _ _ _ _ _ _
   | exact impl_rangeDiv.mono _ _ _ _ _
   | exact impl_rangeRem.mono _ _ _ _ _
   | exact impl_rangeShift.mono _ _ _ _ _ _
   | exact impl_rangeWrap.mono _ _ _ _ _ _
   | exact LeO.none _
   | refine LeO.ite ?_ ?_
   | refine LeO.bind ?_ (fun _ => ?_)
theorem impl_RangeDo.mono : ∀ a0 a1 a2 a3 a4 k, LeO (impl_RangeDo.f k a0 a1 a2 a3 a4) (impl_RangeDo.f (k + 1) a0 a1 a2 a3 a4) := by
 intro a0 a1 a2 a3 a4 k
 obtain ⟨ih0, ih1, ih2, ih3, ih4⟩ := impl_RangeDo.mono_l k
 unfold impl_RangeDo.f
 repeat' first
   | (with_reducible exact ih0 _ _ _ _ _ _)
   | (with_reducible exact ih1 _ _ _ _ _ _ _)
   | (with_reducible exact ih2 _ _ _)
   | (with_reducible exact ih3 _ _ _ _ _ _ _)
   | (with_reducible exact ih4 _ _ _ _ _ _ _)
   | (with_reducible exact impl_rangeBits.mono _ _ _ _ _ _)
   | (with_reducible exact impl_rangeCorners.mono _ _ _ _ _ _)
   | (with_reducible exact impl_rangeDiv.mono _ _ _ _ _)
   | (with_reducible exact impl_rangeRem.mono _ _ _ _ _)
   | (with_reducible exact impl_rangeShift.mono _ _ _ _ _ _)
   | (with_reducible exact impl_rangeWrap.mono _ _ _ _ _ _)
   | (with_reducible exact LeO.refl _)
   | (with_reducible exact LeO.none _)
   | (with_reducible refine LeO.ite ?_ ?_)
   | (with_reducible refine LeO.bind ?_ (fun _ => ?_))
   | exact ih0 _ _ _ _ _ _
   | exact ih1 _ _ _ _ _ _ _
   | exact ih2 _ _ _
   | exact ih3 _ _ _ _ _ _ _
   | exact ih4 _ _ _ _ _ _ _
   | exact impl_rangeBits.mono _ _ _ _ _ _
   | exact impl_rangeCorners.mono _ _ _ _ _ _
   | exact impl_rangeDiv.mono _ _ _ _ _
   | exact impl_rangeRem.mono _ _ _ _ _
   | exact impl_rangeShift.mono _ _ _ _ _ _
   | exact impl_rangeWrap.mono _ _ _ _ _ _
   | exact LeO.none _
   | refine LeO.ite ?_ ?_
   | refine LeO.bind ?_ (fun _ => ?_)
set_option maxHeartbeats 8000000 in
set_option maxRecDepth 100000 in
theorem impl_RangeDo.calls (k : Nat) (a0 : Int) (a1_0 : Int) (a1_1 : Int) (a2_0 : Int) (a2_1 : Int) (r1 : Int) (r2 : Int) (r3 : List Int) (w : World) (h : impl_RangeDo.f k a0 a1_0 a1_1 a2_0 a2_1 = some (r1, r2, r3)) :
  Calls Try.prog 11 #[.int .i64 a0, .agg #[.int .i64 a1_0, .int .i64 a1_1], .agg #[.int .i64 a2_0, .int .i64 a2_1]] w fun e w' => ∃ v2_ : Value, e = .returned (.tuple #[.agg #[.int .i64 r1, .int .i64 r2], v2_]) ∧ Kd.R (Kd.int .i64) 3 w' w.heap.size (fun _ => True) v2_ r3 ∧ Below w.heap.size w w' := by
 have hu24 := Try.underlying24
 have HB := am (Below.refl w.heap.size w)
 have H : ((impl_numOp.f a0).bind fun t266 => (if t266 = true then ((impl_RangeOk.f a1_0 a1_1).bind fun t267 => (if t267 = true then ((impl_RangeOk.f a2_0 a2_1).bind fun t268 => (if t268 = true then ((impl_Range_empty.f a1_0 a1_1).bind fun t269 => (if t269 = true then (impl_RangeDo.j0 k a0 true a1_0 a1_1 a2_0 a2_1) else ((impl_Range_empty.f a2_0 a2_1).bind fun t270 => (impl_RangeDo.j0 k a0 t270 a1_0 a1_1 a2_0 a2_1)))) else (impl_RangeDo.j0 k a0 true a1_0 a1_1 a2_0 a2_1))) else (impl_RangeDo.j0 k a0 true a1_0 a1_1 a2_0 a2_1))) else (impl_RangeDo.j0 k a0 true a1_0 a1_1 a2_0 a2_1))) = some (r1, r2, r3) := h
 clear h
 have HC4 := am H
 clear H
 go_enter Try.func11, Try.ntmps11
 go_upto_region 1 with (first | ((with_reducible refine gate_dst (N := 4) rfl ?_); refine box_event ?hg (N := 4) ?hd (cs := #[.int .i64 a1_0, .int .i64 a1_1]) (t := 24) ?hr ?_; (case hd => rfl); (case hg => rfl); (case hr => first | (go_simp; done) | (go_simp; rfl)); intro gb263 hg w5 hbox hb; have BK263 := am (hbox); have GW263 := am ((by rw [hg]; exact (below_size (Y0 HB)) : w.heap.size ≤ gb263)); have GE263 := am ((by rw [hg]; exact (below_size (Y0 HB)) : w.heap.size ≤ gb263)); replace HB := am (below_step (Y0 HB) hb); clear hb hbox hg) | ((with_reducible refine gate_dst (N := 5) rfl ?_); refine box_event ?hg (N := 5) ?hd (cs := #[.int .i64 a2_0, .int .i64 a2_1]) (t := 24) ?hr ?_; (case hd => rfl); (case hg => rfl); (case hr => first | (go_simp; done) | (go_simp; rfl)); intro gb264 hg w6 hbox hb; have BK264 := am (hbox); have GW264 := am ((by rw [hg]; exact (below_size (Y1 HB GE263)) : w.heap.size ≤ gb264)); have GE264 := am ((by rw [hg]; exact (below_size (Y1 HB GE263)) : w.heap.size ≤ gb264)); have NB263_264 := am ((nl (o := b2 a1_0 a1_1 24) hg (Z BK263) : gb263 ≠ gb264)); have NB264_263 := am ((ng (o := b2 a1_0 a1_1 24) hg (Z BK263) : gb264 ≠ gb263)); replace BK263 := am (blk_below (g := gb263) (o := b2 a1_0 a1_1 24) (Z BK263) hb); replace HB := am (below_step (Y1 HB GE263) hb); clear hb hbox hg) | ((with_reducible refine gate_dst (N := 6) rfl ?_); refine box_event ?hg (N := 6) ?hd (cs := #[.int .i64 0, .int .i64 0]) (t := 24) ?hr ?_; (case hd => rfl); (case hg => rfl); (case hr => first | (go_simp; done) | (go_simp; rfl)); intro gb265 hg w7 hbox hb; have BK265 := am (hbox); have GW265 := am ((by rw [hg]; exact (below_size (Y2 HB GE263 GE264)) : w.heap.size ≤ gb265)); have GE265 := am ((by rw [hg]; exact (below_size (Y2 HB GE263 GE264)) : w.heap.size ≤ gb265)); have NB263_265 := am ((nl (o := b2 a1_0 a1_1 24) hg (Z BK263) : gb263 ≠ gb265)); have NB265_263 := am ((ng (o := b2 a1_0 a1_1 24) hg (Z BK263) : gb265 ≠ gb263)); have NB264_265 := am ((nl (o := b2 a2_0 a2_1 24) hg (Z BK264) : gb264 ≠ gb265)); have NB265_264 := am ((ng (o := b2 a2_0 a2_1 24) hg (Z BK264) : gb265 ≠ gb264)); replace BK263 := am (blk_below (g := gb263) (o := b2 a1_0 a1_1 24) (Z BK263) hb); replace BK264 := am (blk_below (g := gb264) (o := b2 a2_0 a2_1 24) (Z BK264) hb); replace HB := am (below_step (Y2 HB GE263 GE264) hb); clear hb hbox hg))
 (try simp only [Act.put, List.setIfInBounds_toArray, List.set_cons_zero, List.set_cons_succ])
 go_cut [30] (fun v30 wc => ∃ (kq : Nat) (x30_3 : Bool), v30 = .bool x30_3 ∧ Aside0 (impl_RangeDo.j0 kq a0 x30_3 a1_0 a1_1 a2_0 a2_1 = some (r1, r2, r3)) ∧ Aside0 (kq ≤ k) ∧ Aside0 (wc.heap[gb263]? = some (.cells #[.int .i64 a1_0, .int .i64 a1_1] 24 (0, 0))) ∧ Aside0 (wc.heap[gb264]? = some (.cells #[.int .i64 a2_0, .int .i64 a2_1] 24 (0, 0))) ∧ Aside0 (wc.heap[gb265]? = some (.cells #[.int .i64 0, .int .i64 0] 24 (0, 0))) ∧ Aside0 (Below w.heap.size w wc))
 case first =>
  have H := HC4.out
  clear HC4
  replace H := Option.bind_eq_some_iff.mp H
  obtain ⟨t266, A80, H⟩ := H
  replace H : (if t266 = true then ((impl_RangeOk.f a1_0 a1_1).bind fun t267 => (if t267 = true then ((impl_RangeOk.f a2_0 a2_1).bind fun t268 => (if t268 = true then ((impl_Range_empty.f a1_0 a1_1).bind fun t269 => (if t269 = true then (impl_RangeDo.j0 k a0 true a1_0 a1_1 a2_0 a2_1) else ((impl_Range_empty.f a2_0 a2_1).bind fun t270 => (impl_RangeDo.j0 k a0 t270 a1_0 a1_1 a2_0 a2_1)))) else (impl_RangeDo.j0 k a0 true a1_0 a1_1 a2_0 a2_1))) else (impl_RangeDo.j0 k a0 true a1_0 a1_1 a2_0 a2_1))) else (impl_RangeDo.j0 k a0 true a1_0 a1_1 a2_0 a2_1)) = some (r1, r2, r3) := H
  have A8 := am A80
  clear A80
  by_cases c9 : t266 = true
  ·subst c9
   have H1 : ((impl_RangeOk.f a1_0 a1_1).bind fun t267 => (if t267 = true then ((impl_RangeOk.f a2_0 a2_1).bind fun t268 => (if t268 = true then ((impl_Range_empty.f a1_0 a1_1).bind fun t269 => (if t269 = true then (impl_RangeDo.j0 k a0 true a1_0 a1_1 a2_0 a2_1) else ((impl_Range_empty.f a2_0 a2_1).bind fun t270 => (impl_RangeDo.j0 k a0 t270 a1_0 a1_1 a2_0 a2_1)))) else (impl_RangeDo.j0 k a0 true a1_0 a1_1 a2_0 a2_1))) else (impl_RangeDo.j0 k a0 true a1_0 a1_1 a2_0 a2_1))) = some (r1, r2, r3) := by rw [if_pos rfl] at H; exact H
   clear H
   have H := H1
   clear H1
   replace H := Option.bind_eq_some_iff.mp H
   obtain ⟨t267, A100, H⟩ := H
   replace H : (if t267 = true then ((impl_RangeOk.f a2_0 a2_1).bind fun t268 => (if t268 = true then ((impl_Range_empty.f a1_0 a1_1).bind fun t269 => (if t269 = true then (impl_RangeDo.j0 k a0 true a1_0 a1_1 a2_0 a2_1) else ((impl_Range_empty.f a2_0 a2_1).bind fun t270 => (impl_RangeDo.j0 k a0 t270 a1_0 a1_1 a2_0 a2_1)))) else (impl_RangeDo.j0 k a0 true a1_0 a1_1 a2_0 a2_1))) else (impl_RangeDo.j0 k a0 true a1_0 a1_1 a2_0 a2_1)) = some (r1, r2, r3) := H
   have A10 := am A100
   clear A100
   by_cases c11 : t267 = true
   ·subst c11
    have H1 : ((impl_RangeOk.f a2_0 a2_1).bind fun t268 => (if t268 = true then ((impl_Range_empty.f a1_0 a1_1).bind fun t269 => (if t269 = true then (impl_RangeDo.j0 k a0 true a1_0 a1_1 a2_0 a2_1) else ((impl_Range_empty.f a2_0 a2_1).bind fun t270 => (impl_RangeDo.j0 k a0 t270 a1_0 a1_1 a2_0 a2_1)))) else (impl_RangeDo.j0 k a0 true a1_0 a1_1 a2_0 a2_1))) = some (r1, r2, r3) := by rw [if_pos rfl] at H; exact H
    clear H
    have H := H1
    clear H1
    replace H := Option.bind_eq_some_iff.mp H
    obtain ⟨t268, A120, H⟩ := H
    replace H : (if t268 = true then ((impl_Range_empty.f a1_0 a1_1).bind fun t269 => (if t269 = true then (impl_RangeDo.j0 k a0 true a1_0 a1_1 a2_0 a2_1) else ((impl_Range_empty.f a2_0 a2_1).bind fun t270 => (impl_RangeDo.j0 k a0 t270 a1_0 a1_1 a2_0 a2_1)))) else (impl_RangeDo.j0 k a0 true a1_0 a1_1 a2_0 a2_1)) = some (r1, r2, r3) := H
    have A12 := am A120
    clear A120
    by_cases c13 : t268 = true
    ·subst c13
     have H1 : ((impl_Range_empty.f a1_0 a1_1).bind fun t269 => (if t269 = true then (impl_RangeDo.j0 k a0 true a1_0 a1_1 a2_0 a2_1) else ((impl_Range_empty.f a2_0 a2_1).bind fun t270 => (impl_RangeDo.j0 k a0 t270 a1_0 a1_1 a2_0 a2_1)))) = some (r1, r2, r3) := by rw [if_pos rfl] at H; exact H
     clear H
     have H := H1
     clear H1
     replace H := Option.bind_eq_some_iff.mp H
     obtain ⟨t269, A140, H⟩ := H
     replace H : (if t269 = true then (impl_RangeDo.j0 k a0 true a1_0 a1_1 a2_0 a2_1) else ((impl_Range_empty.f a2_0 a2_1).bind fun t270 => (impl_RangeDo.j0 k a0 t270 a1_0 a1_1 a2_0 a2_1))) = some (r1, r2, r3) := H
     have A14 := am A140
     clear A140
     by_cases c15 : t269 = true
     ·subst c15
      have H1 : (impl_RangeDo.j0 k a0 true a1_0 a1_1 a2_0 a2_1) = some (r1, r2, r3) := by rw [if_pos rfl] at H; exact H
      clear H
      have H := H1
      clear H1
      have H' := am H
      clear H
      go_wp2_with (first | ((with_reducible refine gate_callee (f := 45) rfl ?_); refine goesL_ (some 11) rfl rfl Try.func45 (by kernel_rfl) rfl #[.int .i64 a0] rfl mz ?_; (with_reducible refine (impl_numOp.calls a0 true _ A8.out).mono ?_); rintro e w' ⟨rfl, ⟨nd, rfl⟩⟩; refine ⟨_, rfl, ?_⟩; have hnb16 := NB263_264.out; have hnc16 := NB264_263.out; have hnb17 := NB263_265.out; have hnc17 := NB265_263.out; have hcz18_0 : w7.cell? ⟨gb263, 0, none⟩ = some (.int .i64 a1_0) := bc BK263 0; have hcz18_1 : w7.cell? ⟨gb263, 1, none⟩ = some (.int .i64 a1_1) := bc BK263 1; have hfz18_0 := blk_frozen BK263.out 0; have hfz18_1 := blk_frozen BK263.out 1) | (go_at_call 46; (with_reducible refine (impl_RangeOk.calls a1_0 a1_1 true _ A10.out).mono ?_); rintro e w19 ⟨rfl, hb⟩; replace BK263 := am (blk_below (g := gb263) (o := b2 a1_0 a1_1 24) (Z BK263) hb); replace BK264 := am (blk_below (g := gb264) (o := b2 a2_0 a2_1 24) (Z BK264) hb); replace BK265 := am (blk_below (g := gb265) (o := b2 0 0 24) (Z BK265) hb); replace HB := am (below_step (Y3 HB GE263 GE264 GE265) hb); (try clear hb); (try clear hb2); (try clear hk); (try clear hi); have hnb20 := NB264_265.out; have hnc20 := NB265_264.out; have hcz21_0 : w19.cell? ⟨gb264, 0, none⟩ = some (.int .i64 a2_0) := bc BK264 0; have hcz21_1 : w19.cell? ⟨gb264, 1, none⟩ = some (.int .i64 a2_1) := bc BK264 1; have hfz21_0 := blk_frozen BK264.out 0; have hfz21_1 := blk_frozen BK264.out 1) | (go_at_call 46; (with_reducible refine (impl_RangeOk.calls a2_0 a2_1 true _ A12.out).mono ?_); rintro e w22 ⟨rfl, hb⟩; replace BK263 := am (blk_below (g := gb263) (o := b2 a1_0 a1_1 24) (Z BK263) hb); replace BK264 := am (blk_below (g := gb264) (o := b2 a2_0 a2_1 24) (Z BK264) hb); replace BK265 := am (blk_below (g := gb265) (o := b2 0 0 24) (Z BK265) hb); replace HB := am (below_step (Y3 HB GE263 GE264 GE265) hb); (try clear hb); (try clear hb2); (try clear hk); (try clear hi); have hcz23_0 : w22.cell? ⟨gb263, 0, none⟩ = some (.int .i64 a1_0) := bc BK263 0; have hcz23_1 : w22.cell? ⟨gb263, 1, none⟩ = some (.int .i64 a1_1) := bc BK263 1; have hfz23_0 := blk_frozen BK263.out 0; have hfz23_1 := blk_frozen BK263.out 1) | (go_at_call 47; (with_reducible refine (impl_Range_empty.calls a1_0 a1_1 true _ A14.out).mono ?_); rintro e w24 ⟨rfl, hb⟩; replace BK263 := am (blk_below (g := gb263) (o := b2 a1_0 a1_1 24) (Z BK263) hb); replace BK264 := am (blk_below (g := gb264) (o := b2 a2_0 a2_1 24) (Z BK264) hb); replace BK265 := am (blk_below (g := gb265) (o := b2 0 0 24) (Z BK265) hb); replace HB := am (below_step (Y3 HB GE263 GE264 GE265) hb); (try clear hb); (try clear hb2); (try clear hk); (try clear hi)))
      go_meet
      case rel => exact ⟨_, (true), (by first | rfl | (simp; done) | (simp [*]; done)), H', ⟨by first | omega | exact Nat.le_refl _⟩, ⟨Z BK263⟩, ⟨Z BK264⟩, ⟨Z BK265⟩, ⟨Y3 HB GE263 GE264 GE265⟩⟩
     ·replace c15 := Bool.eq_false_iff.mpr c15
      subst c15
      have H1 : ((impl_Range_empty.f a2_0 a2_1).bind fun t270 => (impl_RangeDo.j0 k a0 t270 a1_0 a1_1 a2_0 a2_1)) = some (r1, r2, r3) := by rw [if_neg (show ¬ (false = true) by decide)] at H; exact H
      clear H
      have H := H1
      clear H1
      replace H := Option.bind_eq_some_iff.mp H
      obtain ⟨t270, A250, H⟩ := H
      replace H : (impl_RangeDo.j0 k a0 t270 a1_0 a1_1 a2_0 a2_1) = some (r1, r2, r3) := H
      have A25 := am A250
      clear A250
      have H' := am H
      clear H
      go_wp2_with (first | ((with_reducible refine gate_callee (f := 45) rfl ?_); refine goesL_ (some 11) rfl rfl Try.func45 (by kernel_rfl) rfl #[.int .i64 a0] rfl mz ?_; (with_reducible refine (impl_numOp.calls a0 true _ A8.out).mono ?_); rintro e w' ⟨rfl, ⟨nd, rfl⟩⟩; refine ⟨_, rfl, ?_⟩; have hnb26 := NB263_264.out; have hnc26 := NB264_263.out; have hnb27 := NB263_265.out; have hnc27 := NB265_263.out; have hcz28_0 : w7.cell? ⟨gb263, 0, none⟩ = some (.int .i64 a1_0) := bc BK263 0; have hcz28_1 : w7.cell? ⟨gb263, 1, none⟩ = some (.int .i64 a1_1) := bc BK263 1; have hfz28_0 := blk_frozen BK263.out 0; have hfz28_1 := blk_frozen BK263.out 1) | (go_at_call 46; (with_reducible refine (impl_RangeOk.calls a1_0 a1_1 true _ A10.out).mono ?_); rintro e w29 ⟨rfl, hb⟩; replace BK263 := am (blk_below (g := gb263) (o := b2 a1_0 a1_1 24) (Z BK263) hb); replace BK264 := am (blk_below (g := gb264) (o := b2 a2_0 a2_1 24) (Z BK264) hb); replace BK265 := am (blk_below (g := gb265) (o := b2 0 0 24) (Z BK265) hb); replace HB := am (below_step (Y3 HB GE263 GE264 GE265) hb); (try clear hb); (try clear hb2); (try clear hk); (try clear hi); have hnb30 := NB264_265.out; have hnc30 := NB265_264.out; have hcz31_0 : w29.cell? ⟨gb264, 0, none⟩ = some (.int .i64 a2_0) := bc BK264 0; have hcz31_1 : w29.cell? ⟨gb264, 1, none⟩ = some (.int .i64 a2_1) := bc BK264 1; have hfz31_0 := blk_frozen BK264.out 0; have hfz31_1 := blk_frozen BK264.out 1) | (go_at_call 46; (with_reducible refine (impl_RangeOk.calls a2_0 a2_1 true _ A12.out).mono ?_); rintro e w32 ⟨rfl, hb⟩; replace BK263 := am (blk_below (g := gb263) (o := b2 a1_0 a1_1 24) (Z BK263) hb); replace BK264 := am (blk_below (g := gb264) (o := b2 a2_0 a2_1 24) (Z BK264) hb); replace BK265 := am (blk_below (g := gb265) (o := b2 0 0 24) (Z BK265) hb); replace HB := am (below_step (Y3 HB GE263 GE264 GE265) hb); (try clear hb); (try clear hb2); (try clear hk); (try clear hi); have hcz33_0 : w32.cell? ⟨gb263, 0, none⟩ = some (.int .i64 a1_0) := bc BK263 0; have hcz33_1 : w32.cell? ⟨gb263, 1, none⟩ = some (.int .i64 a1_1) := bc BK263 1; have hfz33_0 := blk_frozen BK263.out 0; have hfz33_1 := blk_frozen BK263.out 1) | (go_at_call 47; (with_reducible refine (impl_Range_empty.calls a1_0 a1_1 false _ A14.out).mono ?_); rintro e w34 ⟨rfl, hb⟩; replace BK263 := am (blk_below (g := gb263) (o := b2 a1_0 a1_1 24) (Z BK263) hb); replace BK264 := am (blk_below (g := gb264) (o := b2 a2_0 a2_1 24) (Z BK264) hb); replace BK265 := am (blk_below (g := gb265) (o := b2 0 0 24) (Z BK265) hb); replace HB := am (below_step (Y3 HB GE263 GE264 GE265) hb); (try clear hb); (try clear hb2); (try clear hk); (try clear hi); have hcz35_0 : w34.cell? ⟨gb264, 0, none⟩ = some (.int .i64 a2_0) := bc BK264 0; have hcz35_1 : w34.cell? ⟨gb264, 1, none⟩ = some (.int .i64 a2_1) := bc BK264 1; have hfz35_0 := blk_frozen BK264.out 0; have hfz35_1 := blk_frozen BK264.out 1) | (go_at_call 47; (with_reducible refine (impl_Range_empty.calls a2_0 a2_1 t270 _ A25.out).mono ?_); rintro e w36 ⟨rfl, hb⟩; replace BK263 := am (blk_below (g := gb263) (o := b2 a1_0 a1_1 24) (Z BK263) hb); replace BK264 := am (blk_below (g := gb264) (o := b2 a2_0 a2_1 24) (Z BK264) hb); replace BK265 := am (blk_below (g := gb265) (o := b2 0 0 24) (Z BK265) hb); replace HB := am (below_step (Y3 HB GE263 GE264 GE265) hb); (try clear hb); (try clear hb2); (try clear hk); (try clear hi)))
      go_meet
      case rel => exact ⟨_, (t270), (by first | rfl | (simp; done) | (simp [*]; done)), H', ⟨by first | omega | exact Nat.le_refl _⟩, ⟨Z BK263⟩, ⟨Z BK264⟩, ⟨Z BK265⟩, ⟨Y3 HB GE263 GE264 GE265⟩⟩
    ·replace c13 := Bool.eq_false_iff.mpr c13
     subst c13
     have H1 : (impl_RangeDo.j0 k a0 true a1_0 a1_1 a2_0 a2_1) = some (r1, r2, r3) := by rw [if_neg (show ¬ (false = true) by decide)] at H; exact H
     clear H
     have H := H1
     clear H1
     have H' := am H
     clear H
     go_wp2_with (first | ((with_reducible refine gate_callee (f := 45) rfl ?_); refine goesL_ (some 11) rfl rfl Try.func45 (by kernel_rfl) rfl #[.int .i64 a0] rfl mz ?_; (with_reducible refine (impl_numOp.calls a0 true _ A8.out).mono ?_); rintro e w' ⟨rfl, ⟨nd, rfl⟩⟩; refine ⟨_, rfl, ?_⟩; have hnb37 := NB263_264.out; have hnc37 := NB264_263.out; have hnb38 := NB263_265.out; have hnc38 := NB265_263.out; have hcz39_0 : w7.cell? ⟨gb263, 0, none⟩ = some (.int .i64 a1_0) := bc BK263 0; have hcz39_1 : w7.cell? ⟨gb263, 1, none⟩ = some (.int .i64 a1_1) := bc BK263 1; have hfz39_0 := blk_frozen BK263.out 0; have hfz39_1 := blk_frozen BK263.out 1) | (go_at_call 46; (with_reducible refine (impl_RangeOk.calls a1_0 a1_1 true _ A10.out).mono ?_); rintro e w40 ⟨rfl, hb⟩; replace BK263 := am (blk_below (g := gb263) (o := b2 a1_0 a1_1 24) (Z BK263) hb); replace BK264 := am (blk_below (g := gb264) (o := b2 a2_0 a2_1 24) (Z BK264) hb); replace BK265 := am (blk_below (g := gb265) (o := b2 0 0 24) (Z BK265) hb); replace HB := am (below_step (Y3 HB GE263 GE264 GE265) hb); (try clear hb); (try clear hb2); (try clear hk); (try clear hi); have hnb41 := NB264_265.out; have hnc41 := NB265_264.out; have hcz42_0 : w40.cell? ⟨gb264, 0, none⟩ = some (.int .i64 a2_0) := bc BK264 0; have hcz42_1 : w40.cell? ⟨gb264, 1, none⟩ = some (.int .i64 a2_1) := bc BK264 1; have hfz42_0 := blk_frozen BK264.out 0; have hfz42_1 := blk_frozen BK264.out 1) | (go_at_call 46; (with_reducible refine (impl_RangeOk.calls a2_0 a2_1 false _ A12.out).mono ?_); rintro e w43 ⟨rfl, hb⟩; replace BK263 := am (blk_below (g := gb263) (o := b2 a1_0 a1_1 24) (Z BK263) hb); replace BK264 := am (blk_below (g := gb264) (o := b2 a2_0 a2_1 24) (Z BK264) hb); replace BK265 := am (blk_below (g := gb265) (o := b2 0 0 24) (Z BK265) hb); replace HB := am (below_step (Y3 HB GE263 GE264 GE265) hb); (try clear hb); (try clear hb2); (try clear hk); (try clear hi)))
     go_meet
     case rel => exact ⟨_, (true), (by first | rfl | (simp; done) | (simp [*]; done)), H', ⟨by first | omega | exact Nat.le_refl _⟩, ⟨Z BK263⟩, ⟨Z BK264⟩, ⟨Z BK265⟩, ⟨Y3 HB GE263 GE264 GE265⟩⟩
   ·replace c11 := Bool.eq_false_iff.mpr c11
    subst c11
    have H1 : (impl_RangeDo.j0 k a0 true a1_0 a1_1 a2_0 a2_1) = some (r1, r2, r3) := by rw [if_neg (show ¬ (false = true) by decide)] at H; exact H
    clear H
    have H := H1
    clear H1
    have H' := am H
    clear H
    go_wp2_with (first | ((with_reducible refine gate_callee (f := 45) rfl ?_); refine goesL_ (some 11) rfl rfl Try.func45 (by kernel_rfl) rfl #[.int .i64 a0] rfl mz ?_; (with_reducible refine (impl_numOp.calls a0 true _ A8.out).mono ?_); rintro e w' ⟨rfl, ⟨nd, rfl⟩⟩; refine ⟨_, rfl, ?_⟩; have hnb44 := NB263_264.out; have hnc44 := NB264_263.out; have hnb45 := NB263_265.out; have hnc45 := NB265_263.out; have hcz46_0 : w7.cell? ⟨gb263, 0, none⟩ = some (.int .i64 a1_0) := bc BK263 0; have hcz46_1 : w7.cell? ⟨gb263, 1, none⟩ = some (.int .i64 a1_1) := bc BK263 1; have hfz46_0 := blk_frozen BK263.out 0; have hfz46_1 := blk_frozen BK263.out 1) | (go_at_call 46; (with_reducible refine (impl_RangeOk.calls a1_0 a1_1 false _ A10.out).mono ?_); rintro e w47 ⟨rfl, hb⟩; replace BK263 := am (blk_below (g := gb263) (o := b2 a1_0 a1_1 24) (Z BK263) hb); replace BK264 := am (blk_below (g := gb264) (o := b2 a2_0 a2_1 24) (Z BK264) hb); replace BK265 := am (blk_below (g := gb265) (o := b2 0 0 24) (Z BK265) hb); replace HB := am (below_step (Y3 HB GE263 GE264 GE265) hb); (try clear hb); (try clear hb2); (try clear hk); (try clear hi)))
    go_meet
    case rel => exact ⟨_, (true), (by first | rfl | (simp; done) | (simp [*]; done)), H', ⟨by first | omega | exact Nat.le_refl _⟩, ⟨Z BK263⟩, ⟨Z BK264⟩, ⟨Z BK265⟩, ⟨Y3 HB GE263 GE264 GE265⟩⟩
  ·replace c9 := Bool.eq_false_iff.mpr c9
   subst c9
   have H1 : (impl_RangeDo.j0 k a0 true a1_0 a1_1 a2_0 a2_1) = some (r1, r2, r3) := by rw [if_neg (show ¬ (false = true) by decide)] at H; exact H
   clear H
   have H := H1
   clear H1
   have H' := am H
   clear H
   go_wp2_with (first | ((with_reducible refine gate_callee (f := 45) rfl ?_); refine goesL_ (some 11) rfl rfl Try.func45 (by kernel_rfl) rfl #[.int .i64 a0] rfl mz ?_; (with_reducible refine (impl_numOp.calls a0 false _ A8.out).mono ?_); rintro e w' ⟨rfl, ⟨nd, rfl⟩⟩; refine ⟨_, rfl, ?_⟩))
   go_meet
   case rel => exact ⟨_, (true), (by first | rfl | (simp; done) | (simp [*]; done)), H', ⟨by first | omega | exact Nat.le_refl _⟩, ⟨Z BK263⟩, ⟨Z BK264⟩, ⟨Z BK265⟩, ⟨Y3 HB GE263 GE264 GE265⟩⟩
 case rest =>
  clear HC4
  try clear c1
  try clear c2
  try clear p2
  try clear c3
  try clear c4
  try clear c9
  try clear c11
  try clear c13
  try clear c15
  try clear c16
  try clear c17
  try clear c20
  try clear c26
  try clear c27
  try clear c30
  try clear c37
  try clear c38
  try clear c41
  try clear c44
  try clear c45
  try clear hcz18_0
  try clear hcz18_1
  try clear hcz21_0
  try clear hcz21_1
  try clear hcz23_0
  try clear hcz23_1
  try clear hcz28_0
  try clear hcz28_1
  try clear hcz31_0
  try clear hcz31_1
  try clear hcz33_0
  try clear hcz33_1
  try clear hcz35_0
  try clear hcz35_1
  try clear hcz39_0
  try clear hcz39_1
  try clear hcz42_0
  try clear hcz42_1
  try clear hcz46_0
  try clear hcz46_1
  try clear hfz18_0
  try clear hfz18_1
  try clear hfz21_0
  try clear hfz21_1
  try clear hfz23_0
  try clear hfz23_1
  try clear hfz28_0
  try clear hfz28_1
  try clear hfz31_0
  try clear hfz31_1
  try clear hfz33_0
  try clear hfz33_1
  try clear hfz35_0
  try clear hfz35_1
  try clear hfz39_0
  try clear hfz39_1
  try clear hfz42_0
  try clear hfz42_1
  try clear hfz46_0
  try clear hfz46_1
  obtain ⟨kq, x30_3, rfl, HA, HJ3, BK263, BK264, BK265, HB⟩ := hcut
  cases kq with
  | zero => exact absurd HA.out (by simp [impl_RangeDo.j0])
  | succ kj3 =>
   have H := HA.out
   clear HA
   simp only [impl_RangeDo.j0] at H
   by_cases c48 : x30_3 = true
   ·subst c48
    have H1 : ((impl_rangeNone.f).bind fun bt271 => (some (bt271.1, bt271.2, ([] : List Int)))) = some (r1, r2, r3) := by rw [if_pos rfl] at H; exact H
    clear H
    have H := H1
    clear H1
    replace H := Option.bind_eq_some_iff.mp H
    obtain ⟨⟨t271, t272⟩, A490, H⟩ := H
    replace H : (some (t271, t272, ([] : List Int))) = some (r1, r2, r3) := H
    have A49 := am A490
    clear A490
    simp only [Option.some.injEq, Prod.mk.injEq] at H
    obtain ⟨rfl, rfl, rfl⟩ := H
    go_wp2_with (first | ((with_reducible refine gate_callee (f := 48) rfl ?_); refine goesL_ (some 31) rfl rfl Try.func48 (by kernel_rfl) rfl #[] rfl mz ?_; (with_reducible refine (impl_rangeNone.calls  t271 t272 _ A49.out).mono ?_); rintro e w50 ⟨rfl, hb⟩; refine ⟨_, rfl, ?_⟩; replace BK263 := am (blk_below (g := gb263) (o := b2 a1_0 a1_1 24) (Z BK263) hb); replace BK264 := am (blk_below (g := gb264) (o := b2 a2_0 a2_1 24) (Z BK264) hb); replace BK265 := am (blk_below (g := gb265) (o := b2 0 0 24) (Z BK265) hb); replace HB := am (below_step (Y3 HB GE263 GE264 GE265) hb); (try clear hb); (try clear hb2); (try clear hk); (try clear hi); have hnb51 := NB265_263.out; have hnc51 := NB263_265.out; have hnb52 := NB265_264.out; have hnc52 := NB264_265.out; have hcz53_0 : w50.cell? ⟨gb265, 0, none⟩ = some (.int .i64 0) := bc BK265 0; have hcz53_1 : w50.cell? ⟨gb265, 1, none⟩ = some (.int .i64 0) := bc BK265 1; have hfz53_0 := blk_frozen BK265.out 0; have hfz53_1 := blk_frozen BK265.out 1))
    refine bodyPost_ret (results_ct rfl _ _ gb265 24 #[.int .i64 t271, .int .i64 t272] (0, 0) _ rfl (by (with_reducible repeat (first | refine blk_drewN ?_ _ | refine blk_drew ?_ | refine blk_alloc ?_ _)); refine blk_put (cs := #[.int .i64 t271, .int .i64 0]) ?_ 1 _ rfl; (with_reducible repeat (first | refine blk_drewN ?_ _ | refine blk_drew ?_ | refine blk_alloc ?_ _)); refine blk_put (cs := #[.int .i64 0, .int .i64 0]) ?_ 0 _ rfl; (with_reducible repeat (first | refine blk_drewN ?_ _ | refine blk_drew ?_ | refine blk_alloc ?_ _)); exact BK265.out) Try.underlying24 rfl (by kernel_rfl)) rfl ?_
    exact ⟨_, by first | rfl | (simp [errW_none, errW_some] <;> rfl) | (simp [*, errW_none, errW_some] <;> rfl), by first | exact Kd.R_nil _ _ _ _ _ | exact Kd.N_nil _ _ _ _ _ | exact Kd.V_nil _ _ _ _ _ | exact Kd.Q_nil _ _ _ _ _ | exact Kd.S_nil _ _ _ _ _, Y3 HB GE263 GE264 GE265⟩
   ·replace c48 := Bool.eq_false_iff.mpr c48
    subst c48
    have H1 : (if a0 = 1 then (impl_RangeDo.j1 kj3 a0 a0 (a0 == 1) a1_0 a1_1 a2_0 a2_1) else (if a0 = 2 then (impl_RangeDo.j1 kj3 a0 a0 (a0 == 2) a1_0 a1_1 a2_0 a2_1) else (impl_RangeDo.j1 kj3 a0 a0 (a0 == 3) a1_0 a1_1 a2_0 a2_1))) = some (r1, r2, r3) := by rw [if_neg (show ¬ (false = true) by decide)] at H; exact H
    clear H
    have H := H1
    clear H1
    have HC54 := am H
    clear H
    go_upto_if 33 with (fail)
    go_cut [33] (fun v33 wc => ∃ (kq : Nat) (x33_53 : Bool), v33 = .bool x33_53 ∧ Aside0 (impl_RangeDo.j1 kq a0 a0 x33_53 a1_0 a1_1 a2_0 a2_1 = some (r1, r2, r3)) ∧ Aside0 (kq ≤ kj3) ∧ Aside0 (wc.heap[gb263]? = some (.cells #[.int .i64 a1_0, .int .i64 a1_1] 24 (0, 0))) ∧ Aside0 (wc.heap[gb264]? = some (.cells #[.int .i64 a2_0, .int .i64 a2_1] 24 (0, 0))) ∧ Aside0 (wc.heap[gb265]? = some (.cells #[.int .i64 0, .int .i64 0] 24 (0, 0))) ∧ Aside0 (Below w.heap.size w wc))
    case first =>
     have H := HC54.out
     clear HC54
     by_cases c55 : a0 = 1
     ·rw [if_pos c55] at H
      have c55b0 : (a0 == 1) = true := beq_iff_eq.mpr c55
      have c55b1 : (a0 != 1) = false := bne_eq_false_iff_eq.mpr c55
      clear c55
      (first | rw [c55b0] | (simp only [i64_w, i32_w]; rw [c55b0]) | skip)
      have H' := am H
      clear H
      go_wp2
      go_meet
      case rel => exact ⟨_, ((a0 == 1)), (by first | rfl | (simp; done) | (simp [*]; done)), H', ⟨by have := HJ3.out; first | omega | exact Nat.le_refl _⟩, ⟨Z BK263⟩, ⟨Z BK264⟩, ⟨Z BK265⟩, ⟨Y3 HB GE263 GE264 GE265⟩⟩
     ·rw [if_neg c55] at H
      have c55b0 : (a0 == 1) = false := beq_eq_false_iff_ne.mpr c55
      have c55b1 : (a0 != 1) = true := bne_iff_ne.mpr c55
      (first | rw [c55b0] | (simp only [i64_w, i32_w]; rw [c55b0]) | skip)
      by_cases c56 : a0 = 2
      ·rw [if_pos c56] at H
       have c56b0 : (a0 == 2) = true := beq_iff_eq.mpr c56
       have c56b1 : (a0 != 2) = false := bne_eq_false_iff_eq.mpr c56
       clear c56
       have H' := am H
       clear H
       go_wp2
       go_meet
       case rel => exact ⟨_, ((a0 == 2)), (by first | rfl | (simp; done) | (simp [*]; done)), H', ⟨by have := HJ3.out; first | omega | exact Nat.le_refl _⟩, ⟨Z BK263⟩, ⟨Z BK264⟩, ⟨Z BK265⟩, ⟨Y3 HB GE263 GE264 GE265⟩⟩
      ·rw [if_neg c56] at H
       have c56b0 : (a0 == 2) = false := beq_eq_false_iff_ne.mpr c56
       have c56b1 : (a0 != 2) = true := bne_iff_ne.mpr c56
       have H' := am H
       clear H
       go_wp2
       go_meet
       case rel => exact ⟨_, ((a0 == 3)), (by first | rfl | (simp; done) | (simp [*]; done)), H', ⟨by have := HJ3.out; first | omega | exact Nat.le_refl _⟩, ⟨Z BK263⟩, ⟨Z BK264⟩, ⟨Z BK265⟩, ⟨Y3 HB GE263 GE264 GE265⟩⟩
    case rest =>
     clear HC54
     try clear c1
     try clear c2
     try clear p2
     try clear c3
     try clear c4
     try clear c5
     try clear c9
     try clear c11
     try clear c13
     try clear c15
     try clear c16
     try clear c17
     try clear c20
     try clear c26
     try clear c27
     try clear c30
     try clear c37
     try clear c38
     try clear c41
     try clear c44
     try clear c45
     try clear c48
     try clear c51
     try clear c52
     try clear c55
     try clear c55b0
     try clear c55b1
     try clear c56
     try clear c56b0
     try clear c56b1
     try clear hcz18_0
     try clear hcz18_1
     try clear hcz21_0
     try clear hcz21_1
     try clear hcz23_0
     try clear hcz23_1
     try clear hcz28_0
     try clear hcz28_1
     try clear hcz31_0
     try clear hcz31_1
     try clear hcz33_0
     try clear hcz33_1
     try clear hcz35_0
     try clear hcz35_1
     try clear hcz39_0
     try clear hcz39_1
     try clear hcz42_0
     try clear hcz42_1
     try clear hcz46_0
     try clear hcz46_1
     try clear hcz53_0
     try clear hcz53_1
     try clear hfz18_0
     try clear hfz18_1
     try clear hfz21_0
     try clear hfz21_1
     try clear hfz23_0
     try clear hfz23_1
     try clear hfz28_0
     try clear hfz28_1
     try clear hfz31_0
     try clear hfz31_1
     try clear hfz33_0
     try clear hfz33_1
     try clear hfz35_0
     try clear hfz35_1
     try clear hfz39_0
     try clear hfz39_1
     try clear hfz42_0
     try clear hfz42_1
     try clear hfz46_0
     try clear hfz46_1
     try clear hfz53_0
     try clear hfz53_1
     try clear p2
     obtain ⟨kq, x33_53, rfl, HA, HJ53, BK263, BK264, BK265, HB⟩ := hcut
     cases kq with
     | zero => exact absurd HA.out (by simp [impl_RangeDo.j1])
     | succ kj53 =>
      have H := HA.out
      clear HA
      simp only [impl_RangeDo.j1] at H
      by_cases c57 : x33_53 = true
      ·subst c57
       have H1 : ((impl_rangeCorners.f kj53 a0 a1_0 a1_1 a2_0 a2_1).bind fun bt273 => (if bt273.1 < (-2147483648) then (impl_RangeDo.j2 kj53 bt273.1 bt273.2 true) else (impl_RangeDo.j2 kj53 bt273.1 bt273.2 (decide (bt273.2 > 2147483647))))) = some (r1, r2, r3) := by rw [if_pos rfl] at H; exact H
       clear H
       have H := H1
       clear H1
       replace H := Option.bind_eq_some_iff.mp H
       obtain ⟨⟨t273, t274⟩, A580, H⟩ := H
       replace H : (if t273 < (-2147483648) then (impl_RangeDo.j2 kj53 t273 t274 true) else (impl_RangeDo.j2 kj53 t273 t274 (decide (t274 > 2147483647)))) = some (r1, r2, r3) := H
       have A58 := am A580
       clear A580
       have HC59 := am H
       clear H
       have hnb60 := NB263_264.out
       have hnc60 := NB264_263.out
       have hnb61 := NB263_265.out
       have hnc61 := NB265_263.out
       have hcz62_0 : wc.cell? ⟨gb263, 0, none⟩ = some (.int .i64 a1_0) := bc BK263 0
       have hcz62_1 : wc.cell? ⟨gb263, 1, none⟩ = some (.int .i64 a1_1) := bc BK263 1
       have hfz62_0 := blk_frozen BK263.out 0
       have hfz62_1 := blk_frozen BK263.out 1
       have hnb63 := NB264_265.out
       have hnc63 := NB265_264.out
       have hcz64_0 : wc.cell? ⟨gb264, 0, none⟩ = some (.int .i64 a2_0) := bc BK264 0
       have hcz64_1 : wc.cell? ⟨gb264, 1, none⟩ = some (.int .i64 a2_1) := bc BK264 1
       have hfz64_0 := blk_frozen BK264.out 0
       have hfz64_1 := blk_frozen BK264.out 1
       go_upto_region 8 with (first | ((with_reducible refine gate_callee (f := 49) rfl ?_); refine goesL_ (some 41) rfl rfl Try.func49 (by kernel_rfl) rfl #[.int .i64 a0, .agg #[.int .i64 a1_0, .int .i64 a1_1], .agg #[.int .i64 a2_0, .int .i64 a2_1]] rfl mz ?_; (with_reducible refine (impl_rangeCorners.calls kj53 a0 a1_0 a1_1 a2_0 a2_1 t273 t274 _ A58.out).mono ?_); rintro e w65 ⟨rfl, hb⟩; refine ⟨_, rfl, ?_⟩; replace BK263 := am (blk_below (g := gb263) (o := b2 a1_0 a1_1 24) (Z BK263) hb); replace BK264 := am (blk_below (g := gb264) (o := b2 a2_0 a2_1 24) (Z BK264) hb); replace BK265 := am (blk_below (g := gb265) (o := b2 0 0 24) (Z BK265) hb); replace HB := am (below_step (Y3 HB GE263 GE264 GE265) hb); (try clear hb); (try clear hb2); (try clear hk); (try clear hi)))
       (try simp only [Act.put, List.setIfInBounds_toArray, List.set_cons_zero, List.set_cons_succ])
       go_cut [49] (fun v49 wc => ∃ (kq : Nat) (x49_58 : Bool), v49 = .bool x49_58 ∧ Aside0 (impl_RangeDo.j2 kq t273 t274 x49_58 = some (r1, r2, r3)) ∧ Aside0 (kq ≤ kj53) ∧ Aside0 (wc.heap[gb263]? = some (.cells #[.int .i64 a1_0, .int .i64 a1_1] 24 (0, 0))) ∧ Aside0 (wc.heap[gb264]? = some (.cells #[.int .i64 a2_0, .int .i64 a2_1] 24 (0, 0))) ∧ Aside0 (wc.heap[gb265]? = some (.cells #[.int .i64 0, .int .i64 0] 24 (0, 0))) ∧ Aside0 (Below w.heap.size w wc))
       case first =>
        have H := HC59.out
        clear HC59
        by_cases c66 : t273 < (-2147483648)
        ·rw [if_pos c66] at H
         have c66b0 : decide (t273 < (-2147483648)) = true := decide_eq_true c66
         clear c66
         (first | rw [c66b0] | (simp only [i64_w, i32_w]; rw [c66b0]) | skip)
         have H' := am H
         clear H
         go_wp2
         go_meet
         case rel => exact ⟨_, (true), (by first | rfl | (simp; done) | (simp [*]; done)), H', ⟨by have := HJ3.out; have := HJ53.out; first | omega | exact Nat.le_refl _⟩, ⟨Z BK263⟩, ⟨Z BK264⟩, ⟨Z BK265⟩, ⟨Y3 HB GE263 GE264 GE265⟩⟩
        ·rw [if_neg c66] at H
         have c66b0 : decide (t273 < (-2147483648)) = false := decide_eq_false c66
         clear c66
         (first | rw [c66b0] | (simp only [i64_w, i32_w]; rw [c66b0]) | skip)
         have H' := am H
         clear H
         go_wp2
         go_meet
         case rel => exact ⟨_, (decide (t274 > 2147483647)), (by first | rfl | (simp; done) | (simp [*]; done)), H', ⟨by have := HJ3.out; have := HJ53.out; first | omega | exact Nat.le_refl _⟩, ⟨Z BK263⟩, ⟨Z BK264⟩, ⟨Z BK265⟩, ⟨Y3 HB GE263 GE264 GE265⟩⟩
       case rest =>
        clear HC59
        try clear c1
        try clear c2
        try clear p2
        try clear c3
        try clear c4
        try clear c5
        try clear c6
        try clear c9
        try clear c11
        try clear c13
        try clear c15
        try clear c16
        try clear c17
        try clear c20
        try clear c26
        try clear c27
        try clear c30
        try clear c37
        try clear c38
        try clear c41
        try clear c44
        try clear c45
        try clear c48
        try clear c49
        try clear c51
        try clear c52
        try clear c55
        try clear c55b0
        try clear c55b1
        try clear c56
        try clear c56b0
        try clear c56b1
        try clear c57
        try clear c60
        try clear c61
        try clear c63
        try clear c66
        try clear c66b0
        try clear hcz18_0
        try clear hcz18_1
        try clear hcz21_0
        try clear hcz21_1
        try clear hcz23_0
        try clear hcz23_1
        try clear hcz28_0
        try clear hcz28_1
        try clear hcz31_0
        try clear hcz31_1
        try clear hcz33_0
        try clear hcz33_1
        try clear hcz35_0
        try clear hcz35_1
        try clear hcz39_0
        try clear hcz39_1
        try clear hcz42_0
        try clear hcz42_1
        try clear hcz46_0
        try clear hcz46_1
        try clear hcz53_0
        try clear hcz53_1
        try clear hcz62_0
        try clear hcz62_1
        try clear hcz64_0
        try clear hcz64_1
        try clear hfz18_0
        try clear hfz18_1
        try clear hfz21_0
        try clear hfz21_1
        try clear hfz23_0
        try clear hfz23_1
        try clear hfz28_0
        try clear hfz28_1
        try clear hfz31_0
        try clear hfz31_1
        try clear hfz33_0
        try clear hfz33_1
        try clear hfz35_0
        try clear hfz35_1
        try clear hfz39_0
        try clear hfz39_1
        try clear hfz42_0
        try clear hfz42_1
        try clear hfz46_0
        try clear hfz46_1
        try clear hfz53_0
        try clear hfz53_1
        try clear hfz62_0
        try clear hfz62_1
        try clear hfz64_0
        try clear hfz64_1
        try clear p2
        obtain ⟨kq, x49_58, rfl, HA, HJ58, BK263, BK264, BK265, HB⟩ := hcut
        cases kq with
        | zero => exact absurd HA.out (by simp [impl_RangeDo.j2])
        | succ kj58 =>
         have H := HA.out
         clear HA
         simp only [impl_RangeDo.j2] at H
         by_cases c67 : x49_58 = true
         ·subst c67
          have H1 : ((impl_rangeFrom.f t273 t274).bind fun bt275 => (some (bt275.1, bt275.2, (([1] : List Int))))) = some (r1, r2, r3) := by rw [if_pos rfl] at H; exact H
          clear H
          have H := H1
          clear H1
          replace H := Option.bind_eq_some_iff.mp H
          obtain ⟨⟨t275, t276⟩, A680, H⟩ := H
          replace H : (some (t275, t276, (([1] : List Int)))) = some (r1, r2, r3) := H
          have A68 := am A680
          clear A680
          obtain ⟨y277, hy277⟩ : ∃ y_ : List Int, y_ = (([1] : List Int)) := ⟨_, rfl⟩
          replace H : (some (t275, t276, y277)) = some (r1, r2, r3) := by first | (rw [hy277]; with_reducible exact H) | (have H2_ := (Option.bind_some _ _).symm.trans H; rw [hy277]; with_reducible exact H2_) | (have H2_ := (Option.bind_some _ _).symm.trans H; with_reducible exact H2_) | with_reducible exact H | (rw [hy277]; exact H) | exact H
          have Ny277 := am hy277
          clear hy277
          simp only [Option.some.injEq, Prod.mk.injEq] at H
          obtain ⟨rfl, rfl, rfl⟩ := H
          go_wp2_with (first | ((with_reducible refine gate_callee (f := 50) rfl ?_); refine goesL_ (some 52) rfl rfl Try.func50 (by kernel_rfl) rfl #[.int .i64 t273, .int .i64 t274] rfl mz ?_; (with_reducible refine (impl_rangeFrom.calls t273 t274 t275 t276 _ A68.out).mono ?_); rintro e w69 ⟨rfl, hb⟩; refine ⟨_, rfl, ?_⟩; replace BK263 := am (blk_below (g := gb263) (o := b2 a1_0 a1_1 24) (Z BK263) hb); replace BK264 := am (blk_below (g := gb264) (o := b2 a2_0 a2_1 24) (Z BK264) hb); replace BK265 := am (blk_below (g := gb265) (o := b2 0 0 24) (Z BK265) hb); replace HB := am (below_step (Y3 HB GE263 GE264 GE265) hb); (try clear hb); (try clear hb2); (try clear hk); (try clear hi)) | ((with_reducible refine gate_dst (N := 53) rfl ?_); refine Kd.R_lit (Kd.int .i64) _ 3 ?hg (N := 53) ?hd (xs := ([1] : List Int)) (inner := [.int .i64 1]) (ok := fun _ => True) (okp := fun _ => True) ?hr ?hp (fun _ hk => hk) trivial (Below.refl _ _) (Nat.le_refl _) (by simp) ?_; (case hd => rfl); (case hg => rfl); (case hr => first | (go_simp; done) | (go_simp; rfl)); (case hp => exact (Reps.one (show Kd.M (Kd.int .i64) _ _ _ 1 [.int .i64 1] from rfl) (Reps.none _ _))); intro v278 w70 ho71 hb hg_ hnew_; clear hg_ hnew_; (first | rw [← Ny277.out] at ho71 | (simp only [Int.reduceToNat] at ho71; rw [← Ny277.out] at ho71)); have HO279 := am (Kd.R_lower ho71 (below_size (Y3 HB GE263 GE264 GE265))); replace BK263 := am (blk_below (g := gb263) (o := b2 a1_0 a1_1 24) (Z BK263) hb); replace BK264 := am (blk_below (g := gb264) (o := b2 a2_0 a2_1 24) (Z BK264) hb); replace BK265 := am (blk_below (g := gb265) (o := b2 0 0 24) (Z BK265) hb); replace HB := am (below_step (Y3 HB GE263 GE264 GE265) hb); clear hb ho71; have hnb72 := NB265_263.out; have hnc72 := NB263_265.out; have hnb73 := NB265_264.out; have hnc73 := NB264_265.out; have hcz74_0 : w70.cell? ⟨gb265, 0, none⟩ = some (.int .i64 0) := bc BK265 0; have hcz74_1 : w70.cell? ⟨gb265, 1, none⟩ = some (.int .i64 0) := bc BK265 1; have hfz74_0 := blk_frozen BK265.out 0; have hfz74_1 := blk_frozen BK265.out 1))
          refine bodyPost_ret (results_ct rfl _ _ gb265 24 #[.int .i64 t275, .int .i64 t276] (0, 0) _ rfl (by (with_reducible repeat (first | refine blk_drewN ?_ _ | refine blk_drew ?_ | refine blk_alloc ?_ _)); refine blk_put (cs := #[.int .i64 t275, .int .i64 0]) ?_ 1 _ rfl; (with_reducible repeat (first | refine blk_drewN ?_ _ | refine blk_drew ?_ | refine blk_alloc ?_ _)); refine blk_put (cs := #[.int .i64 0, .int .i64 0]) ?_ 0 _ rfl; (with_reducible repeat (first | refine blk_drewN ?_ _ | refine blk_drew ?_ | refine blk_alloc ?_ _)); exact BK265.out) Try.underlying24 rfl (by kernel_rfl)) rfl ?_
          exact ⟨_, by first | rfl | (simp [errW_none, errW_some] <;> rfl) | (simp [*, errW_none, errW_some] <;> rfl), by (with_reducible repeat (first | apply Kd.R_alloc | apply Kd.R_drewN | apply Kd.R_drew)); exact Kd.R_mono (Kd.R_far (p := ⟨gb265, 1, none⟩) (Kd.R_far (p := ⟨gb265, 0, none⟩) (Kd.R_types HO279.out BK265.out (by decide)) (fun _ hk => hk.2) (.int .i64 t275)) (fun _ hk => hk.2) (.int .i64 t276)) (fun _ hk => trivial), Y3 HB GE263 GE264 GE265⟩
         ·replace c67 := Bool.eq_false_iff.mpr c67
          subst c67
          have H1 : ((impl_rangeFrom.f t273 t274).bind fun bt280 => (some (bt280.1, bt280.2, ([] : List Int)))) = some (r1, r2, r3) := by rw [if_neg (show ¬ (false = true) by decide)] at H; exact H
          clear H
          have H := H1
          clear H1
          replace H := Option.bind_eq_some_iff.mp H
          obtain ⟨⟨t280, t281⟩, A750, H⟩ := H
          replace H : (some (t280, t281, ([] : List Int))) = some (r1, r2, r3) := H
          have A75 := am A750
          clear A750
          simp only [Option.some.injEq, Prod.mk.injEq] at H
          obtain ⟨rfl, rfl, rfl⟩ := H
          go_wp2_with (first | ((with_reducible refine gate_callee (f := 50) rfl ?_); refine goesL_ (some 56) rfl rfl Try.func50 (by kernel_rfl) rfl #[.int .i64 t273, .int .i64 t274] rfl mz ?_; (with_reducible refine (impl_rangeFrom.calls t273 t274 t280 t281 _ A75.out).mono ?_); rintro e w76 ⟨rfl, hb⟩; refine ⟨_, rfl, ?_⟩; replace BK263 := am (blk_below (g := gb263) (o := b2 a1_0 a1_1 24) (Z BK263) hb); replace BK264 := am (blk_below (g := gb264) (o := b2 a2_0 a2_1 24) (Z BK264) hb); replace BK265 := am (blk_below (g := gb265) (o := b2 0 0 24) (Z BK265) hb); replace HB := am (below_step (Y3 HB GE263 GE264 GE265) hb); (try clear hb); (try clear hb2); (try clear hk); (try clear hi); have hnb77 := NB265_263.out; have hnc77 := NB263_265.out; have hnb78 := NB265_264.out; have hnc78 := NB264_265.out; have hcz79_0 : w76.cell? ⟨gb265, 0, none⟩ = some (.int .i64 0) := bc BK265 0; have hcz79_1 : w76.cell? ⟨gb265, 1, none⟩ = some (.int .i64 0) := bc BK265 1; have hfz79_0 := blk_frozen BK265.out 0; have hfz79_1 := blk_frozen BK265.out 1))
          refine bodyPost_ret (results_ct rfl _ _ gb265 24 #[.int .i64 t280, .int .i64 t281] (0, 0) _ rfl (by (with_reducible repeat (first | refine blk_drewN ?_ _ | refine blk_drew ?_ | refine blk_alloc ?_ _)); refine blk_put (cs := #[.int .i64 t280, .int .i64 0]) ?_ 1 _ rfl; (with_reducible repeat (first | refine blk_drewN ?_ _ | refine blk_drew ?_ | refine blk_alloc ?_ _)); refine blk_put (cs := #[.int .i64 0, .int .i64 0]) ?_ 0 _ rfl; (with_reducible repeat (first | refine blk_drewN ?_ _ | refine blk_drew ?_ | refine blk_alloc ?_ _)); exact BK265.out) Try.underlying24 rfl (by kernel_rfl)) rfl ?_
          exact ⟨_, by first | rfl | (simp [errW_none, errW_some] <;> rfl) | (simp [*, errW_none, errW_some] <;> rfl), by first | exact Kd.R_nil _ _ _ _ _ | exact Kd.N_nil _ _ _ _ _ | exact Kd.V_nil _ _ _ _ _ | exact Kd.Q_nil _ _ _ _ _ | exact Kd.S_nil _ _ _ _ _, Y3 HB GE263 GE264 GE265⟩
      ·replace c57 := Bool.eq_false_iff.mpr c57
       subst c57
       have H1 : (if a0 = 11 then (impl_RangeDo.j3 kj53 a0 a0 (a0 == 11) a1_0 a1_1 a2_0 a2_1) else (if a0 = 12 then (impl_RangeDo.j3 kj53 a0 a0 (a0 == 12) a1_0 a1_1 a2_0 a2_1) else (impl_RangeDo.j3 kj53 a0 a0 (a0 == 13) a1_0 a1_1 a2_0 a2_1))) = some (r1, r2, r3) := by rw [if_neg (show ¬ (false = true) by decide)] at H; exact H
       clear H
       have H := H1
       clear H1
       have HC80 := am H
       clear H
       go_upto_if 57 with (fail)
       go_cut [57] (fun v57 wc => ∃ (kq : Nat) (x57_79 : Bool), v57 = .bool x57_79 ∧ Aside0 (impl_RangeDo.j3 kq a0 a0 x57_79 a1_0 a1_1 a2_0 a2_1 = some (r1, r2, r3)) ∧ Aside0 (kq ≤ kj53) ∧ Aside0 (wc.heap[gb263]? = some (.cells #[.int .i64 a1_0, .int .i64 a1_1] 24 (0, 0))) ∧ Aside0 (wc.heap[gb264]? = some (.cells #[.int .i64 a2_0, .int .i64 a2_1] 24 (0, 0))) ∧ Aside0 (wc.heap[gb265]? = some (.cells #[.int .i64 0, .int .i64 0] 24 (0, 0))) ∧ Aside0 (Below w.heap.size w wc))
       case first =>
        have H := HC80.out
        clear HC80
        by_cases c81 : a0 = 11
        ·rw [if_pos c81] at H
         have c81b0 : (a0 == 11) = true := beq_iff_eq.mpr c81
         have c81b1 : (a0 != 11) = false := bne_eq_false_iff_eq.mpr c81
         clear c81
         (first | rw [c81b0] | (simp only [i64_w, i32_w]; rw [c81b0]) | skip)
         have H' := am H
         clear H
         go_wp2
         go_meet
         case rel => exact ⟨_, ((a0 == 11)), (by first | rfl | (simp; done) | (simp [*]; done)), H', ⟨by have := HJ3.out; have := HJ53.out; first | omega | exact Nat.le_refl _⟩, ⟨Z BK263⟩, ⟨Z BK264⟩, ⟨Z BK265⟩, ⟨Y3 HB GE263 GE264 GE265⟩⟩
        ·rw [if_neg c81] at H
         have c81b0 : (a0 == 11) = false := beq_eq_false_iff_ne.mpr c81
         have c81b1 : (a0 != 11) = true := bne_iff_ne.mpr c81
         (first | rw [c81b0] | (simp only [i64_w, i32_w]; rw [c81b0]) | skip)
         by_cases c82 : a0 = 12
         ·rw [if_pos c82] at H
          have c82b0 : (a0 == 12) = true := beq_iff_eq.mpr c82
          have c82b1 : (a0 != 12) = false := bne_eq_false_iff_eq.mpr c82
          clear c82
          have H' := am H
          clear H
          go_wp2
          go_meet
          case rel => exact ⟨_, ((a0 == 12)), (by first | rfl | (simp; done) | (simp [*]; done)), H', ⟨by have := HJ3.out; have := HJ53.out; first | omega | exact Nat.le_refl _⟩, ⟨Z BK263⟩, ⟨Z BK264⟩, ⟨Z BK265⟩, ⟨Y3 HB GE263 GE264 GE265⟩⟩
         ·rw [if_neg c82] at H
          have c82b0 : (a0 == 12) = false := beq_eq_false_iff_ne.mpr c82
          have c82b1 : (a0 != 12) = true := bne_iff_ne.mpr c82
          have H' := am H
          clear H
          go_wp2
          go_meet
          case rel => exact ⟨_, ((a0 == 13)), (by first | rfl | (simp; done) | (simp [*]; done)), H', ⟨by have := HJ3.out; have := HJ53.out; first | omega | exact Nat.le_refl _⟩, ⟨Z BK263⟩, ⟨Z BK264⟩, ⟨Z BK265⟩, ⟨Y3 HB GE263 GE264 GE265⟩⟩
       case rest =>
        clear HC80
        try clear c1
        try clear c2
        try clear p2
        try clear c3
        try clear c4
        try clear c5
        try clear c6
        try clear c7
        try clear c8
        try clear c9
        try clear c11
        try clear c13
        try clear c15
        try clear c16
        try clear c17
        try clear c20
        try clear c26
        try clear c27
        try clear c30
        try clear c37
        try clear c38
        try clear c41
        try clear c44
        try clear c45
        try clear c48
        try clear c49
        try clear c50
        try clear c51
        try clear c52
        try clear c55
        try clear c55b0
        try clear c55b1
        try clear c56
        try clear c56b0
        try clear c56b1
        try clear c57
        try clear c60
        try clear c61
        try clear c63
        try clear c66
        try clear c66b0
        try clear c67
        try clear c72
        try clear c73
        try clear c77
        try clear c78
        try clear c81
        try clear c81b0
        try clear c81b1
        try clear c82
        try clear c82b0
        try clear c82b1
        try clear hcz18_0
        try clear hcz18_1
        try clear hcz21_0
        try clear hcz21_1
        try clear hcz23_0
        try clear hcz23_1
        try clear hcz28_0
        try clear hcz28_1
        try clear hcz31_0
        try clear hcz31_1
        try clear hcz33_0
        try clear hcz33_1
        try clear hcz35_0
        try clear hcz35_1
        try clear hcz39_0
        try clear hcz39_1
        try clear hcz42_0
        try clear hcz42_1
        try clear hcz46_0
        try clear hcz46_1
        try clear hcz53_0
        try clear hcz53_1
        try clear hcz62_0
        try clear hcz62_1
        try clear hcz64_0
        try clear hcz64_1
        try clear hcz74_0
        try clear hcz74_1
        try clear hcz79_0
        try clear hcz79_1
        try clear hfz18_0
        try clear hfz18_1
        try clear hfz21_0
        try clear hfz21_1
        try clear hfz23_0
        try clear hfz23_1
        try clear hfz28_0
        try clear hfz28_1
        try clear hfz31_0
        try clear hfz31_1
        try clear hfz33_0
        try clear hfz33_1
        try clear hfz35_0
        try clear hfz35_1
        try clear hfz39_0
        try clear hfz39_1
        try clear hfz42_0
        try clear hfz42_1
        try clear hfz46_0
        try clear hfz46_1
        try clear hfz53_0
        try clear hfz53_1
        try clear hfz62_0
        try clear hfz62_1
        try clear hfz64_0
        try clear hfz64_1
        try clear hfz74_0
        try clear hfz74_1
        try clear hfz79_0
        try clear hfz79_1
        try clear p2
        obtain ⟨kq, x57_79, rfl, HA, HJ79, BK263, BK264, BK265, HB⟩ := hcut
        cases kq with
        | zero => exact absurd HA.out (by simp [impl_RangeDo.j3])
        | succ kj79 =>
         have H := HA.out
         clear HA
         simp only [impl_RangeDo.j3] at H
         by_cases c83 : x57_79 = true
         ·subst c83
          have H1 : ((impl_rangeWrap.f kj79 a0 a1_0 a1_1 a2_0 a2_1).bind fun bt282 => (some (bt282.1, bt282.2, ([] : List Int)))) = some (r1, r2, r3) := by rw [if_pos rfl] at H; exact H
          clear H
          have H := H1
          clear H1
          replace H := Option.bind_eq_some_iff.mp H
          obtain ⟨⟨t282, t283⟩, A840, H⟩ := H
          replace H : (some (t282, t283, ([] : List Int))) = some (r1, r2, r3) := H
          have A84 := am A840
          clear A840
          simp only [Option.some.injEq, Prod.mk.injEq] at H
          obtain ⟨rfl, rfl, rfl⟩ := H
          have hnb85 := NB263_264.out
          have hnc85 := NB264_263.out
          have hnb86 := NB263_265.out
          have hnc86 := NB265_263.out
          have hcz87_0 : wc.cell? ⟨gb263, 0, none⟩ = some (.int .i64 a1_0) := bc BK263 0
          have hcz87_1 : wc.cell? ⟨gb263, 1, none⟩ = some (.int .i64 a1_1) := bc BK263 1
          have hfz87_0 := blk_frozen BK263.out 0
          have hfz87_1 := blk_frozen BK263.out 1
          have hnb88 := NB264_265.out
          have hnc88 := NB265_264.out
          have hcz89_0 : wc.cell? ⟨gb264, 0, none⟩ = some (.int .i64 a2_0) := bc BK264 0
          have hcz89_1 : wc.cell? ⟨gb264, 1, none⟩ = some (.int .i64 a2_1) := bc BK264 1
          have hfz89_0 := blk_frozen BK264.out 0
          have hfz89_1 := blk_frozen BK264.out 1
          go_wp2_with (first | ((with_reducible refine gate_callee (f := 51) rfl ?_); refine goesL_ (some 64) rfl rfl Try.func51 (by kernel_rfl) rfl #[.int .i64 a0, .agg #[.int .i64 a1_0, .int .i64 a1_1], .agg #[.int .i64 a2_0, .int .i64 a2_1]] rfl mz ?_; (with_reducible refine (impl_rangeWrap.calls kj79 a0 a1_0 a1_1 a2_0 a2_1 t282 t283 _ A84.out).mono ?_); rintro e w90 ⟨rfl, hb⟩; refine ⟨_, rfl, ?_⟩; replace BK263 := am (blk_below (g := gb263) (o := b2 a1_0 a1_1 24) (Z BK263) hb); replace BK264 := am (blk_below (g := gb264) (o := b2 a2_0 a2_1 24) (Z BK264) hb); replace BK265 := am (blk_below (g := gb265) (o := b2 0 0 24) (Z BK265) hb); replace HB := am (below_step (Y3 HB GE263 GE264 GE265) hb); (try clear hb); (try clear hb2); (try clear hk); (try clear hi); have hcz91_0 : w90.cell? ⟨gb265, 0, none⟩ = some (.int .i64 0) := bc BK265 0; have hcz91_1 : w90.cell? ⟨gb265, 1, none⟩ = some (.int .i64 0) := bc BK265 1; have hfz91_0 := blk_frozen BK265.out 0; have hfz91_1 := blk_frozen BK265.out 1))
          refine bodyPost_ret (results_ct rfl _ _ gb265 24 #[.int .i64 t282, .int .i64 t283] (0, 0) _ rfl (by (with_reducible repeat (first | refine blk_drewN ?_ _ | refine blk_drew ?_ | refine blk_alloc ?_ _)); refine blk_put (cs := #[.int .i64 t282, .int .i64 0]) ?_ 1 _ rfl; (with_reducible repeat (first | refine blk_drewN ?_ _ | refine blk_drew ?_ | refine blk_alloc ?_ _)); refine blk_put (cs := #[.int .i64 0, .int .i64 0]) ?_ 0 _ rfl; (with_reducible repeat (first | refine blk_drewN ?_ _ | refine blk_drew ?_ | refine blk_alloc ?_ _)); exact BK265.out) Try.underlying24 rfl (by kernel_rfl)) rfl ?_
          exact ⟨_, by first | rfl | (simp [errW_none, errW_some] <;> rfl) | (simp [*, errW_none, errW_some] <;> rfl), by first | exact Kd.R_nil _ _ _ _ _ | exact Kd.N_nil _ _ _ _ _ | exact Kd.V_nil _ _ _ _ _ | exact Kd.Q_nil _ _ _ _ _ | exact Kd.S_nil _ _ _ _ _, Y3 HB GE263 GE264 GE265⟩
         ·replace c83 := Bool.eq_false_iff.mpr c83
          subst c83
          have H1 : (if a0 = 9 then (impl_RangeDo.j4 kj79 a0 a0 (a0 == 9) a1_0 a1_1 a2_0 a2_1) else (impl_RangeDo.j4 kj79 a0 a0 (a0 == 10) a1_0 a1_1 a2_0 a2_1)) = some (r1, r2, r3) := by rw [if_neg (show ¬ (false = true) by decide)] at H; exact H
          clear H
          have H := H1
          clear H1
          have HC92 := am H
          clear H
          go_upto_if 65 with (fail)
          go_cut [65] (fun v65 wc => ∃ (kq : Nat) (x65_91 : Bool), v65 = .bool x65_91 ∧ Aside0 (impl_RangeDo.j4 kq a0 a0 x65_91 a1_0 a1_1 a2_0 a2_1 = some (r1, r2, r3)) ∧ Aside0 (kq ≤ kj79) ∧ Aside0 (wc.heap[gb263]? = some (.cells #[.int .i64 a1_0, .int .i64 a1_1] 24 (0, 0))) ∧ Aside0 (wc.heap[gb264]? = some (.cells #[.int .i64 a2_0, .int .i64 a2_1] 24 (0, 0))) ∧ Aside0 (wc.heap[gb265]? = some (.cells #[.int .i64 0, .int .i64 0] 24 (0, 0))) ∧ Aside0 (Below w.heap.size w wc))
          case first =>
           have H := HC92.out
           clear HC92
           by_cases c93 : a0 = 9
           ·rw [if_pos c93] at H
            have c93b0 : (a0 == 9) = true := beq_iff_eq.mpr c93
            have c93b1 : (a0 != 9) = false := bne_eq_false_iff_eq.mpr c93
            clear c93
            (first | rw [c93b0] | (simp only [i64_w, i32_w]; rw [c93b0]) | skip)
            have H' := am H
            clear H
            go_wp2
            go_meet
            case rel => exact ⟨_, ((a0 == 9)), (by first | rfl | (simp; done) | (simp [*]; done)), H', ⟨by have := HJ3.out; have := HJ53.out; have := HJ79.out; first | omega | exact Nat.le_refl _⟩, ⟨Z BK263⟩, ⟨Z BK264⟩, ⟨Z BK265⟩, ⟨Y3 HB GE263 GE264 GE265⟩⟩
           ·rw [if_neg c93] at H
            have c93b0 : (a0 == 9) = false := beq_eq_false_iff_ne.mpr c93
            have c93b1 : (a0 != 9) = true := bne_iff_ne.mpr c93
            (first | rw [c93b0] | (simp only [i64_w, i32_w]; rw [c93b0]) | skip)
            have H' := am H
            clear H
            go_wp2
            go_meet
            case rel => exact ⟨_, ((a0 == 10)), (by first | rfl | (simp; done) | (simp [*]; done)), H', ⟨by have := HJ3.out; have := HJ53.out; have := HJ79.out; first | omega | exact Nat.le_refl _⟩, ⟨Z BK263⟩, ⟨Z BK264⟩, ⟨Z BK265⟩, ⟨Y3 HB GE263 GE264 GE265⟩⟩
          case rest =>
           clear HC92
           try clear c1
           try clear c2
           try clear p2
           try clear c3
           try clear c4
           try clear c5
           try clear c6
           try clear c7
           try clear c8
           try clear c9
           try clear c11
           try clear c13
           try clear c15
           try clear c16
           try clear c17
           try clear c20
           try clear c26
           try clear c27
           try clear c30
           try clear c37
           try clear c38
           try clear c41
           try clear c44
           try clear c45
           try clear c48
           try clear c49
           try clear c50
           try clear c51
           try clear c52
           try clear c55
           try clear c55b0
           try clear c55b1
           try clear c56
           try clear c56b0
           try clear c56b1
           try clear c57
           try clear c60
           try clear c61
           try clear c63
           try clear c66
           try clear c66b0
           try clear c67
           try clear c72
           try clear c73
           try clear c77
           try clear c78
           try clear c81
           try clear c81b0
           try clear c81b1
           try clear c82
           try clear c82b0
           try clear c82b1
           try clear c83
           try clear c85
           try clear c86
           try clear c88
           try clear c93
           try clear c93b0
           try clear c93b1
           try clear hcz18_0
           try clear hcz18_1
           try clear hcz21_0
           try clear hcz21_1
           try clear hcz23_0
           try clear hcz23_1
           try clear hcz28_0
           try clear hcz28_1
           try clear hcz31_0
           try clear hcz31_1
           try clear hcz33_0
           try clear hcz33_1
           try clear hcz35_0
           try clear hcz35_1
           try clear hcz39_0
           try clear hcz39_1
           try clear hcz42_0
           try clear hcz42_1
           try clear hcz46_0
           try clear hcz46_1
           try clear hcz53_0
           try clear hcz53_1
           try clear hcz62_0
           try clear hcz62_1
           try clear hcz64_0
           try clear hcz64_1
           try clear hcz74_0
           try clear hcz74_1
           try clear hcz79_0
           try clear hcz79_1
           try clear hcz87_0
           try clear hcz87_1
           try clear hcz89_0
           try clear hcz89_1
           try clear hcz91_0
           try clear hcz91_1
           try clear hfz18_0
           try clear hfz18_1
           try clear hfz21_0
           try clear hfz21_1
           try clear hfz23_0
           try clear hfz23_1
           try clear hfz28_0
           try clear hfz28_1
           try clear hfz31_0
           try clear hfz31_1
           try clear hfz33_0
           try clear hfz33_1
           try clear hfz35_0
           try clear hfz35_1
           try clear hfz39_0
           try clear hfz39_1
           try clear hfz42_0
           try clear hfz42_1
           try clear hfz46_0
           try clear hfz46_1
           try clear hfz53_0
           try clear hfz53_1
           try clear hfz62_0
           try clear hfz62_1
           try clear hfz64_0
           try clear hfz64_1
           try clear hfz74_0
           try clear hfz74_1
           try clear hfz79_0
           try clear hfz79_1
           try clear hfz87_0
           try clear hfz87_1
           try clear hfz89_0
           try clear hfz89_1
           try clear hfz91_0
           try clear hfz91_1
           try clear p2
           obtain ⟨kq, x65_91, rfl, HA, HJ91, BK263, BK264, BK265, HB⟩ := hcut
           cases kq with
           | zero => exact absurd HA.out (by simp [impl_RangeDo.j4])
           | succ kj91 =>
            have H := HA.out
            clear HA
            simp only [impl_RangeDo.j4] at H
            by_cases c94 : x65_91 = true
            ·subst c94
             have H1 : ((impl_rangeShift.f kj91 a0 a1_0 a1_1 a2_0 a2_1).bind fun bt284 => (some (bt284.1, bt284.2.1, bt284.2.2))) = some (r1, r2, r3) := by rw [if_pos rfl] at H; exact H
             clear H
             have H := H1
             clear H1
             replace H := Option.bind_eq_some_iff.mp H
             obtain ⟨⟨t284, t285, t286⟩, A950, H⟩ := H
             replace H : (some (t284, t285, t286)) = some (r1, r2, r3) := H
             have A95 := am A950
             clear A950
             simp only [Option.some.injEq, Prod.mk.injEq] at H
             obtain ⟨rfl, rfl, rfl⟩ := H
             have hnb96 := NB263_264.out
             have hnc96 := NB264_263.out
             have hnb97 := NB263_265.out
             have hnc97 := NB265_263.out
             have hcz98_0 : wc.cell? ⟨gb263, 0, none⟩ = some (.int .i64 a1_0) := bc BK263 0
             have hcz98_1 : wc.cell? ⟨gb263, 1, none⟩ = some (.int .i64 a1_1) := bc BK263 1
             have hfz98_0 := blk_frozen BK263.out 0
             have hfz98_1 := blk_frozen BK263.out 1
             have hnb99 := NB264_265.out
             have hnc99 := NB265_264.out
             have hcz100_0 : wc.cell? ⟨gb264, 0, none⟩ = some (.int .i64 a2_0) := bc BK264 0
             have hcz100_1 : wc.cell? ⟨gb264, 1, none⟩ = some (.int .i64 a2_1) := bc BK264 1
             have hfz100_0 := blk_frozen BK264.out 0
             have hfz100_1 := blk_frozen BK264.out 1
             go_wp2_with (first | ((with_reducible refine gate_callee (f := 52) rfl ?_); refine goesL_ (some 71) rfl rfl Try.func52 (by kernel_rfl) rfl #[.int .i64 a0, .agg #[.int .i64 a1_0, .int .i64 a1_1], .agg #[.int .i64 a2_0, .int .i64 a2_1]] rfl mz ?_; (with_reducible refine (impl_rangeShift.calls kj91 a0 a1_0 a1_1 a2_0 a2_1 t284 t285 t286 _ A95.out).mono ?_); rintro e w101 ⟨v287, rfl, ho0, hb⟩; refine ⟨_, rfl, ?_⟩; have HO288 := am (Kd.R_lower ho0 (below_size (Y3 HB GE263 GE264 GE265))); replace BK263 := am (blk_below (g := gb263) (o := b2 a1_0 a1_1 24) (Z BK263) hb); replace BK264 := am (blk_below (g := gb264) (o := b2 a2_0 a2_1 24) (Z BK264) hb); replace BK265 := am (blk_below (g := gb265) (o := b2 0 0 24) (Z BK265) hb); replace HB := am (below_step (Y3 HB GE263 GE264 GE265) hb); (try clear hb); (try clear hb2); (try clear hk); (try clear hi); (try clear ho0); have hcz102_0 : w101.cell? ⟨gb265, 0, none⟩ = some (.int .i64 0) := bc BK265 0; have hcz102_1 : w101.cell? ⟨gb265, 1, none⟩ = some (.int .i64 0) := bc BK265 1; have hfz102_0 := blk_frozen BK265.out 0; have hfz102_1 := blk_frozen BK265.out 1))
             refine bodyPost_ret (results_ct rfl _ _ gb265 24 #[.int .i64 t284, .int .i64 t285] (0, 0) _ rfl (by (with_reducible repeat (first | refine blk_drewN ?_ _ | refine blk_drew ?_ | refine blk_alloc ?_ _)); refine blk_put (cs := #[.int .i64 t284, .int .i64 0]) ?_ 1 _ rfl; (with_reducible repeat (first | refine blk_drewN ?_ _ | refine blk_drew ?_ | refine blk_alloc ?_ _)); refine blk_put (cs := #[.int .i64 0, .int .i64 0]) ?_ 0 _ rfl; (with_reducible repeat (first | refine blk_drewN ?_ _ | refine blk_drew ?_ | refine blk_alloc ?_ _)); exact BK265.out) Try.underlying24 rfl (by kernel_rfl)) rfl ?_
             exact ⟨_, by first | rfl | (simp [errW_none, errW_some] <;> rfl) | (simp [*, errW_none, errW_some] <;> rfl), by (with_reducible repeat (first | apply Kd.R_alloc | apply Kd.R_drewN | apply Kd.R_drew)); exact Kd.R_mono (Kd.R_far (p := ⟨gb265, 1, none⟩) (Kd.R_far (p := ⟨gb265, 0, none⟩) (Kd.R_types HO288.out BK265.out (by decide)) (fun _ hk => hk.2) (.int .i64 t284)) (fun _ hk => hk.2) (.int .i64 t285)) (fun _ hk => trivial), Y3 HB GE263 GE264 GE265⟩
            ·replace c94 := Bool.eq_false_iff.mpr c94
             subst c94
             have H1 : (if a0 = 4 then ((impl_rangeDiv.f kj91 a1_0 a1_1 a2_0 a2_1).bind fun bt289 => (some (bt289.1, bt289.2.1, bt289.2.2))) else (if a0 = 5 then ((impl_rangeRem.f kj91 a1_0 a1_1 a2_0 a2_1).bind fun bt294 => (some (bt294.1, bt294.2.1, bt294.2.2))) else ((impl_rangeBits.f kj91 a0 a1_0 a1_1 a2_0 a2_1).bind fun bt299 => (some (bt299.1, bt299.2, ([] : List Int)))))) = some (r1, r2, r3) := by rw [if_neg (show ¬ (false = true) by decide)] at H; exact H
             clear H
             have H := H1
             clear H1
             by_cases c103 : a0 = 4
             ·rw [if_pos c103] at H
              have c103b0 : (a0 == 4) = true := beq_iff_eq.mpr c103
              have c103b1 : (a0 != 4) = false := bne_eq_false_iff_eq.mpr c103
              clear c103
              replace H := Option.bind_eq_some_iff.mp H
              obtain ⟨⟨t289, t290, t291⟩, A1040, H⟩ := H
              replace H : (some (t289, t290, t291)) = some (r1, r2, r3) := H
              have A104 := am A1040
              clear A1040
              simp only [Option.some.injEq, Prod.mk.injEq] at H
              obtain ⟨rfl, rfl, rfl⟩ := H
              have hnb105 := NB263_264.out
              have hnc105 := NB264_263.out
              have hnb106 := NB263_265.out
              have hnc106 := NB265_263.out
              have hcz107_0 : wc.cell? ⟨gb263, 0, none⟩ = some (.int .i64 a1_0) := bc BK263 0
              have hcz107_1 : wc.cell? ⟨gb263, 1, none⟩ = some (.int .i64 a1_1) := bc BK263 1
              have hfz107_0 := blk_frozen BK263.out 0
              have hfz107_1 := blk_frozen BK263.out 1
              have hnb108 := NB264_265.out
              have hnc108 := NB265_264.out
              have hcz109_0 : wc.cell? ⟨gb264, 0, none⟩ = some (.int .i64 a2_0) := bc BK264 0
              have hcz109_1 : wc.cell? ⟨gb264, 1, none⟩ = some (.int .i64 a2_1) := bc BK264 1
              have hfz109_0 := blk_frozen BK264.out 0
              have hfz109_1 := blk_frozen BK264.out 1
              go_wp2_with (first | ((with_reducible refine gate_callee (f := 53) rfl ?_); refine goesL_ (some 78) rfl rfl Try.func53 (by kernel_rfl) rfl #[.agg #[.int .i64 a1_0, .int .i64 a1_1], .agg #[.int .i64 a2_0, .int .i64 a2_1]] rfl mz ?_; (with_reducible refine (impl_rangeDiv.calls kj91 a1_0 a1_1 a2_0 a2_1 t289 t290 t291 _ A104.out).mono ?_); rintro e w110 ⟨v292, rfl, ho0, hb⟩; refine ⟨_, rfl, ?_⟩; have HO293 := am (Kd.R_lower ho0 (below_size (Y3 HB GE263 GE264 GE265))); replace BK263 := am (blk_below (g := gb263) (o := b2 a1_0 a1_1 24) (Z BK263) hb); replace BK264 := am (blk_below (g := gb264) (o := b2 a2_0 a2_1 24) (Z BK264) hb); replace BK265 := am (blk_below (g := gb265) (o := b2 0 0 24) (Z BK265) hb); replace HB := am (below_step (Y3 HB GE263 GE264 GE265) hb); (try clear hb); (try clear hb2); (try clear hk); (try clear hi); (try clear ho0); have hcz111_0 : w110.cell? ⟨gb265, 0, none⟩ = some (.int .i64 0) := bc BK265 0; have hcz111_1 : w110.cell? ⟨gb265, 1, none⟩ = some (.int .i64 0) := bc BK265 1; have hfz111_0 := blk_frozen BK265.out 0; have hfz111_1 := blk_frozen BK265.out 1))
              refine bodyPost_ret (results_ct rfl _ _ gb265 24 #[.int .i64 t289, .int .i64 t290] (0, 0) _ rfl (by (with_reducible repeat (first | refine blk_drewN ?_ _ | refine blk_drew ?_ | refine blk_alloc ?_ _)); refine blk_put (cs := #[.int .i64 t289, .int .i64 0]) ?_ 1 _ rfl; (with_reducible repeat (first | refine blk_drewN ?_ _ | refine blk_drew ?_ | refine blk_alloc ?_ _)); refine blk_put (cs := #[.int .i64 0, .int .i64 0]) ?_ 0 _ rfl; (with_reducible repeat (first | refine blk_drewN ?_ _ | refine blk_drew ?_ | refine blk_alloc ?_ _)); exact BK265.out) Try.underlying24 rfl (by kernel_rfl)) rfl ?_
              exact ⟨_, by first | rfl | (simp [errW_none, errW_some] <;> rfl) | (simp [*, errW_none, errW_some] <;> rfl), by (with_reducible repeat (first | apply Kd.R_alloc | apply Kd.R_drewN | apply Kd.R_drew)); exact Kd.R_mono (Kd.R_far (p := ⟨gb265, 1, none⟩) (Kd.R_far (p := ⟨gb265, 0, none⟩) (Kd.R_types HO293.out BK265.out (by decide)) (fun _ hk => hk.2) (.int .i64 t289)) (fun _ hk => hk.2) (.int .i64 t290)) (fun _ hk => trivial), Y3 HB GE263 GE264 GE265⟩
             ·rw [if_neg c103] at H
              have c103b0 : (a0 == 4) = false := beq_eq_false_iff_ne.mpr c103
              have c103b1 : (a0 != 4) = true := bne_iff_ne.mpr c103
              by_cases c112 : a0 = 5
              ·rw [if_pos c112] at H
               have c112b0 : (a0 == 5) = true := beq_iff_eq.mpr c112
               have c112b1 : (a0 != 5) = false := bne_eq_false_iff_eq.mpr c112
               clear c112
               replace H := Option.bind_eq_some_iff.mp H
               obtain ⟨⟨t294, t295, t296⟩, A1130, H⟩ := H
               replace H : (some (t294, t295, t296)) = some (r1, r2, r3) := H
               have A113 := am A1130
               clear A1130
               simp only [Option.some.injEq, Prod.mk.injEq] at H
               obtain ⟨rfl, rfl, rfl⟩ := H
               have hnb114 := NB263_264.out
               have hnc114 := NB264_263.out
               have hnb115 := NB263_265.out
               have hnc115 := NB265_263.out
               have hcz116_0 : wc.cell? ⟨gb263, 0, none⟩ = some (.int .i64 a1_0) := bc BK263 0
               have hcz116_1 : wc.cell? ⟨gb263, 1, none⟩ = some (.int .i64 a1_1) := bc BK263 1
               have hfz116_0 := blk_frozen BK263.out 0
               have hfz116_1 := blk_frozen BK263.out 1
               have hnb117 := NB264_265.out
               have hnc117 := NB265_264.out
               have hcz118_0 : wc.cell? ⟨gb264, 0, none⟩ = some (.int .i64 a2_0) := bc BK264 0
               have hcz118_1 : wc.cell? ⟨gb264, 1, none⟩ = some (.int .i64 a2_1) := bc BK264 1
               have hfz118_0 := blk_frozen BK264.out 0
               have hfz118_1 := blk_frozen BK264.out 1
               go_wp2_with (first | ((with_reducible refine gate_callee (f := 54) rfl ?_); refine goesL_ (some 85) rfl rfl Try.func54 (by kernel_rfl) rfl #[.agg #[.int .i64 a1_0, .int .i64 a1_1], .agg #[.int .i64 a2_0, .int .i64 a2_1]] rfl mz ?_; (with_reducible refine (impl_rangeRem.calls kj91 a1_0 a1_1 a2_0 a2_1 t294 t295 t296 _ A113.out).mono ?_); rintro e w119 ⟨v297, rfl, ho0, hb⟩; refine ⟨_, rfl, ?_⟩; have HO298 := am (Kd.R_lower ho0 (below_size (Y3 HB GE263 GE264 GE265))); replace BK263 := am (blk_below (g := gb263) (o := b2 a1_0 a1_1 24) (Z BK263) hb); replace BK264 := am (blk_below (g := gb264) (o := b2 a2_0 a2_1 24) (Z BK264) hb); replace BK265 := am (blk_below (g := gb265) (o := b2 0 0 24) (Z BK265) hb); replace HB := am (below_step (Y3 HB GE263 GE264 GE265) hb); (try clear hb); (try clear hb2); (try clear hk); (try clear hi); (try clear ho0); have hcz120_0 : w119.cell? ⟨gb265, 0, none⟩ = some (.int .i64 0) := bc BK265 0; have hcz120_1 : w119.cell? ⟨gb265, 1, none⟩ = some (.int .i64 0) := bc BK265 1; have hfz120_0 := blk_frozen BK265.out 0; have hfz120_1 := blk_frozen BK265.out 1))
               refine bodyPost_ret (results_ct rfl _ _ gb265 24 #[.int .i64 t294, .int .i64 t295] (0, 0) _ rfl (by (with_reducible repeat (first | refine blk_drewN ?_ _ | refine blk_drew ?_ | refine blk_alloc ?_ _)); refine blk_put (cs := #[.int .i64 t294, .int .i64 0]) ?_ 1 _ rfl; (with_reducible repeat (first | refine blk_drewN ?_ _ | refine blk_drew ?_ | refine blk_alloc ?_ _)); refine blk_put (cs := #[.int .i64 0, .int .i64 0]) ?_ 0 _ rfl; (with_reducible repeat (first | refine blk_drewN ?_ _ | refine blk_drew ?_ | refine blk_alloc ?_ _)); exact BK265.out) Try.underlying24 rfl (by kernel_rfl)) rfl ?_
               exact ⟨_, by first | rfl | (simp [errW_none, errW_some] <;> rfl) | (simp [*, errW_none, errW_some] <;> rfl), by (with_reducible repeat (first | apply Kd.R_alloc | apply Kd.R_drewN | apply Kd.R_drew)); exact Kd.R_mono (Kd.R_far (p := ⟨gb265, 1, none⟩) (Kd.R_far (p := ⟨gb265, 0, none⟩) (Kd.R_types HO298.out BK265.out (by decide)) (fun _ hk => hk.2) (.int .i64 t294)) (fun _ hk => hk.2) (.int .i64 t295)) (fun _ hk => trivial), Y3 HB GE263 GE264 GE265⟩
              ·rw [if_neg c112] at H
               have c112b0 : (a0 == 5) = false := beq_eq_false_iff_ne.mpr c112
               have c112b1 : (a0 != 5) = true := bne_iff_ne.mpr c112
               replace H := Option.bind_eq_some_iff.mp H
               obtain ⟨⟨t299, t300⟩, A1210, H⟩ := H
               replace H : (some (t299, t300, ([] : List Int))) = some (r1, r2, r3) := H
               have A121 := am A1210
               clear A1210
               simp only [Option.some.injEq, Prod.mk.injEq] at H
               obtain ⟨rfl, rfl, rfl⟩ := H
               have hnb122 := NB263_264.out
               have hnc122 := NB264_263.out
               have hnb123 := NB263_265.out
               have hnc123 := NB265_263.out
               have hcz124_0 : wc.cell? ⟨gb263, 0, none⟩ = some (.int .i64 a1_0) := bc BK263 0
               have hcz124_1 : wc.cell? ⟨gb263, 1, none⟩ = some (.int .i64 a1_1) := bc BK263 1
               have hfz124_0 := blk_frozen BK263.out 0
               have hfz124_1 := blk_frozen BK263.out 1
               have hnb125 := NB264_265.out
               have hnc125 := NB265_264.out
               have hcz126_0 : wc.cell? ⟨gb264, 0, none⟩ = some (.int .i64 a2_0) := bc BK264 0
               have hcz126_1 : wc.cell? ⟨gb264, 1, none⟩ = some (.int .i64 a2_1) := bc BK264 1
               have hfz126_0 := blk_frozen BK264.out 0
               have hfz126_1 := blk_frozen BK264.out 1
               go_wp2_with (first | ((with_reducible refine gate_callee (f := 55) rfl ?_); refine goesL_ (some 91) rfl rfl Try.func55 (by kernel_rfl) rfl #[.int .i64 a0, .agg #[.int .i64 a1_0, .int .i64 a1_1], .agg #[.int .i64 a2_0, .int .i64 a2_1]] rfl mz ?_; (with_reducible refine (impl_rangeBits.calls kj91 a0 a1_0 a1_1 a2_0 a2_1 t299 t300 _ A121.out).mono ?_); rintro e w127 ⟨rfl, hb⟩; refine ⟨_, rfl, ?_⟩; replace BK263 := am (blk_below (g := gb263) (o := b2 a1_0 a1_1 24) (Z BK263) hb); replace BK264 := am (blk_below (g := gb264) (o := b2 a2_0 a2_1 24) (Z BK264) hb); replace BK265 := am (blk_below (g := gb265) (o := b2 0 0 24) (Z BK265) hb); replace HB := am (below_step (Y3 HB GE263 GE264 GE265) hb); (try clear hb); (try clear hb2); (try clear hk); (try clear hi); have hcz128_0 : w127.cell? ⟨gb265, 0, none⟩ = some (.int .i64 0) := bc BK265 0; have hcz128_1 : w127.cell? ⟨gb265, 1, none⟩ = some (.int .i64 0) := bc BK265 1; have hfz128_0 := blk_frozen BK265.out 0; have hfz128_1 := blk_frozen BK265.out 1))
               refine bodyPost_ret (results_ct rfl _ _ gb265 24 #[.int .i64 t299, .int .i64 t300] (0, 0) _ rfl (by (with_reducible repeat (first | refine blk_drewN ?_ _ | refine blk_drew ?_ | refine blk_alloc ?_ _)); refine blk_put (cs := #[.int .i64 t299, .int .i64 0]) ?_ 1 _ rfl; (with_reducible repeat (first | refine blk_drewN ?_ _ | refine blk_drew ?_ | refine blk_alloc ?_ _)); refine blk_put (cs := #[.int .i64 0, .int .i64 0]) ?_ 0 _ rfl; (with_reducible repeat (first | refine blk_drewN ?_ _ | refine blk_drew ?_ | refine blk_alloc ?_ _)); exact BK265.out) Try.underlying24 rfl (by kernel_rfl)) rfl ?_
               exact ⟨_, by first | rfl | (simp [errW_none, errW_some] <;> rfl) | (simp [*, errW_none, errW_some] <;> rfl), by first | exact Kd.R_nil _ _ _ _ _ | exact Kd.N_nil _ _ _ _ _ | exact Kd.V_nil _ _ _ _ _ | exact Kd.Q_nil _ _ _ _ _ | exact Kd.S_nil _ _ _ _ _, Y3 HB GE263 GE264 GE265⟩

end Go.Proofs.Ythbkakcchgnhpaa.PFnRangeOne
