/- Written by this session's own driver (wip/dprint.py): the functions that the law FnRangeFaults reaches, as Lean functions, each with its contract. -/
import Derived.Test.YthbkakcchgnhpaaPFnRangeFaultsx0
import Derived.Test.YthbkakcchgnhpaaPFnRangeFaultsx1
import Derived.Test.YthbkakcchgnhpaaPFnRangeFaultsx2
import Derived.Test.YthbkakcchgnhpaaPFnRangeFaultsx3
import Derived.Test.YthbkakcchgnhpaaPFnRangeFaultsx4
import Derived.Test.YthbkakcchgnhpaaPFnRangeFaultsx6
import Derived.Test.YthbkakcchgnhpaaPFnRangeFaultsx7
import Derived.Test.YthbkakcchgnhpaaPFnRangeFaultsx9
import Derived.Test.YthbkakcchgnhpaaPFnRangeFaultsx10
import Derived.Test.YthbkakcchgnhpaaSv
namespace Go.Proofs.Ythbkakcchgnhpaa.PFnRangeFaults
open Go.RowKit Go.Proofs.YthbkakcchgnhpaaV.PrintWords Go.Proofs.YthbkakcchgnhpaaV.PrintLast Go.Proofs.YthbkakcchgnhpaaV.PrintMore Go.Proofs.YthbkakcchgnhpaaSv
attribute [local go_sem] max2_int min2_int max_two min_two max_three min_three max_four min_four   -- for this text's walks alone
set_option linter.unusedVariables false
set_option linter.unusedSimpArgs false

attribute [local go_sem high] eqA24
/-! ### spec_RangeDo: function 9 -/
attribute [local go_sem] Go.Proofs.YthbkakcchgnhpaaSet.isSome_setCell
mutual
def spec_RangeDo.j0 : Nat → Int → List Int → Bool → Int → Int → Int → Int → Option (Int × Int × List Int)
 | 0, _, _, _, _, _, _, _ => none
 | k + 1, x0, x8, x35, x245000, x245001, x246000, x246001 => if x35 = true then ((spec_l8None.f).bind fun bt257 => (some (bt257.1, bt257.2, x8))) else (if x0 = 4 then (spec_RangeDo.j1 k x0 x8 true x245000 x245001 x246000 x246001) else (spec_RangeDo.j1 k x0 x8 (x0 == 5) x245000 x245001 x246000 x246001))
def spec_RangeDo.j1 : Nat → Int → List Int → Bool → Int → Int → Int → Int → Option (Int × Int × List Int)
 | 0, _, _, _, _, _, _, _ => none
 | k + 1, x0, x8, x43, x245000, x245001, x246000, x246001 => if x43 = true then ((spec_l8Div.f k x0 x245000 x245001 x246000 x246001).bind fun bt259 => (some (bt259.1, bt259.2.1, bt259.2.2))) else ((spec_l1In.f x0 6 8).bind fun t264 => (if t264 = true then ((spec_l8Bits.f k x0 x245000 x245001 x246000 x246001).bind fun bt265 => (some (bt265.1, bt265.2, x8))) else (if x0 = 9 then (spec_RangeDo.j2 k x0 x8 true x245000 x245001 x246000 x246001 x246000 x246001) else (spec_RangeDo.j2 k x0 x8 (x0 == 10) x245000 x245001 x246000 x246001 x246000 x246001))))
def spec_RangeDo.j2 : Nat → Int → List Int → Bool → Int → Int → Int → Int → Int → Int → Option (Int × Int × List Int)
 | 0, _, _, _, _, _, _, _, _, _ => none
 | k + 1, x0, x8, x10, x245000, x245001, x246000, x246001, x268000, x268001 => if x10 = true then ((spec_RangeMeet.f k x246000 x246001 0 31).bind fun bt268 => (spec_RangeDo.j3 k x0 x8 x10 x245000 x245001 x246000 x246001 bt268.1 bt268.2)) else (spec_RangeDo.j3 k x0 x8 x10 x245000 x245001 x246000 x246001 x268000 x268001)
def spec_RangeDo.j3 : Nat → Int → List Int → Bool → Int → Int → Int → Int → Int → Int → Option (Int × Int × List Int)
 | 0, _, _, _, _, _, _, _, _, _ => none
 | k + 1, x0, x8, x10, x245000, x245001, x246000, x246001, x268000, x268001 => (spec_l8None.f).bind fun bt271 => (if (!(x268000 == bt271.1) || (!(x268001 == bt271.2))) = true then ((spec_l8R_corners.f k false 0 0 x0 x245000 x245001 x268000 x268001).bind fun bt273 => (spec_RangeDo.j4 k x0 x8 x10 x246000 x246001 x268000 x268001 bt273.1 bt273.2.1 bt273.2.2)) else (spec_RangeDo.j4 k x0 x8 x10 x246000 x246001 x268000 x268001 false 0 0))
def spec_RangeDo.j4 : Nat → Int → List Int → Bool → Int → Int → Int → Int → Bool → Int → Int → Option (Int × Int × List Int)
 | 0, _, _, _, _, _, _, _, _, _, _ => none
 | k + 1, x0, x8, x10, x246000, x246001, x268000, x268001, x271000, x271001, x271002 => if x0 ≥ 11 then ((spec_l8Wrapped.f k x271001 x271002).bind fun bt276 => (some (bt276.1, bt276.2, x8))) else (if x271000 = true then (if x271001 < (-2147483648) then (spec_RangeDo.j5 k x8 x10 true x246000 x246001 x268000 x268001 x271000 x271001 x271002) else (spec_RangeDo.j5 k x8 x10 (decide (x271002 > 2147483647)) x246000 x246001 x268000 x268001 x271000 x271001 x271002)) else (spec_RangeDo.j5 k x8 x10 false x246000 x246001 x268000 x268001 x271000 x271001 x271002))
def spec_RangeDo.j5 : Nat → List Int → Bool → Bool → Int → Int → Int → Int → Bool → Int → Int → Option (Int × Int × List Int)
 | 0, _, _, _, _, _, _, _, _, _, _ => none
 | k + 1, x8, x10, x107, x246000, x246001, x268000, x268001, x271000, x271001, x271002 => if x107 = true then (if x8.length < 17592186044416 then (spec_RangeDo.j6 k (x8 ++ [1]) x10 x246000 x246001 x268000 x268001 x271000 x271001 x271002) else (none)) else (spec_RangeDo.j6 k x8 x10 x246000 x246001 x268000 x268001 x271000 x271001 x271002)
def spec_RangeDo.j6 : Nat → List Int → Bool → Int → Int → Int → Int → Bool → Int → Int → Option (Int × Int × List Int)
 | 0, _, _, _, _, _, _, _, _, _ => none
 | k + 1, x8, x10, x246000, x246001, x268000, x268001, x271000, x271001, x271002 => if x10 = true then (spec_RangeDo.j7 k x8 (!(x268000 == x246000) || (!(x268001 == x246001))) x271000 x271001 x271002) else (spec_RangeDo.j7 k x8 false x271000 x271001 x271002)
def spec_RangeDo.j7 : Nat → List Int → Bool → Bool → Int → Int → Option (Int × Int × List Int)
 | 0, _, _, _, _, _ => none
 | k + 1, x8, x116, x271000, x271001, x271002 => if x116 = true then (if x8.length < 17592186044416 then (spec_RangeDo.j8 k (x8 ++ [3]) x271000 x271001 x271002) else (none)) else (spec_RangeDo.j8 k x8 x271000 x271001 x271002)
def spec_RangeDo.j8 : Nat → List Int → Bool → Int → Int → Option (Int × Int × List Int)
 | 0, _, _, _, _ => none
 | k + 1, x8, x271000, x271001, x271002 => if x271000 = true then ((spec_l8Cut.f x271001 x271002).bind fun bt284 => (some (bt284.1, bt284.2, x8))) else ((spec_l8None.f).bind fun bt286 => (some (bt286.1, bt286.2, x8)))
end
def spec_RangeDo.f (k : Nat) (a0 : Int) (a1_0 : Int) (a1_1 : Int) (a2_0 : Int) (a2_1 : Int) : Option (Int × Int × List Int) := (some (([] : List Int) : List Int)).bind fun y247 => ((spec_l1In.f a0 1 13).bind fun t250 => (if t250 = true then ((spec_RangeOk.f a1_0 a1_1).bind fun t251 => (if t251 = true then ((spec_RangeOk.f a2_0 a2_1).bind fun t252 => (if t252 = true then ((spec_l8None.f).bind fun bt253 => (if (a1_0 == bt253.1 && (a1_1 == bt253.2)) = true then (spec_RangeDo.j0 k a0 y247 true a1_0 a1_1 a2_0 a2_1) else ((spec_l8None.f).bind fun bt255 => (spec_RangeDo.j0 k a0 y247 (a2_0 == bt255.1 && (a2_1 == bt255.2)) a1_0 a1_1 a2_0 a2_1)))) else (spec_RangeDo.j0 k a0 y247 true a1_0 a1_1 a2_0 a2_1))) else (spec_RangeDo.j0 k a0 y247 true a1_0 a1_1 a2_0 a2_1))) else (spec_RangeDo.j0 k a0 y247 true a1_0 a1_1 a2_0 a2_1)))
theorem spec_RangeDo.mono_l : ∀ k, (∀ y0 y1 y2 y3 y4 y5 y6, LeO (spec_RangeDo.j0 k y0 y1 y2 y3 y4 y5 y6) (spec_RangeDo.j0 (k + 1) y0 y1 y2 y3 y4 y5 y6)) ∧ (∀ y0 y1 y2 y3 y4 y5 y6, LeO (spec_RangeDo.j1 k y0 y1 y2 y3 y4 y5 y6) (spec_RangeDo.j1 (k + 1) y0 y1 y2 y3 y4 y5 y6)) ∧ (∀ y0 y1 y2 y3 y4 y5 y6 y7 y8, LeO (spec_RangeDo.j2 k y0 y1 y2 y3 y4 y5 y6 y7 y8) (spec_RangeDo.j2 (k + 1) y0 y1 y2 y3 y4 y5 y6 y7 y8)) ∧ (∀ y0 y1 y2 y3 y4 y5 y6 y7 y8, LeO (spec_RangeDo.j3 k y0 y1 y2 y3 y4 y5 y6 y7 y8) (spec_RangeDo.j3 (k + 1) y0 y1 y2 y3 y4 y5 y6 y7 y8)) ∧ (∀ y0 y1 y2 y3 y4 y5 y6 y7 y8 y9, LeO (spec_RangeDo.j4 k y0 y1 y2 y3 y4 y5 y6 y7 y8 y9) (spec_RangeDo.j4 (k + 1) y0 y1 y2 y3 y4 y5 y6 y7 y8 y9)) ∧ (∀ y0 y1 y2 y3 y4 y5 y6 y7 y8 y9, LeO (spec_RangeDo.j5 k y0 y1 y2 y3 y4 y5 y6 y7 y8 y9) (spec_RangeDo.j5 (k + 1) y0 y1 y2 y3 y4 y5 y6 y7 y8 y9)) ∧ (∀ y0 y1 y2 y3 y4 y5 y6 y7 y8, LeO (spec_RangeDo.j6 k y0 y1 y2 y3 y4 y5 y6 y7 y8) (spec_RangeDo.j6 (k + 1) y0 y1 y2 y3 y4 y5 y6 y7 y8)) ∧ (∀ y0 y1 y2 y3 y4, LeO (spec_RangeDo.j7 k y0 y1 y2 y3 y4) (spec_RangeDo.j7 (k + 1) y0 y1 y2 y3 y4)) ∧ (∀ y0 y1 y2 y3, LeO (spec_RangeDo.j8 k y0 y1 y2 y3) (spec_RangeDo.j8 (k + 1) y0 y1 y2 y3))
 | 0 => ⟨fun _ _ _ _ _ _ _ r h => by simp [spec_RangeDo.j0] at h, fun _ _ _ _ _ _ _ r h => by simp [spec_RangeDo.j1] at h, fun _ _ _ _ _ _ _ _ _ r h => by simp [spec_RangeDo.j2] at h, fun _ _ _ _ _ _ _ _ _ r h => by simp [spec_RangeDo.j3] at h, fun _ _ _ _ _ _ _ _ _ _ r h => by simp [spec_RangeDo.j4] at h, fun _ _ _ _ _ _ _ _ _ _ r h => by simp [spec_RangeDo.j5] at h, fun _ _ _ _ _ _ _ _ _ r h => by simp [spec_RangeDo.j6] at h, fun _ _ _ _ _ r h => by simp [spec_RangeDo.j7] at h, fun _ _ _ _ r h => by simp [spec_RangeDo.j8] at h⟩
 | k + 1 => by
  obtain ⟨ih0, ih1, ih2, ih3, ih4, ih5, ih6, ih7, ih8⟩ := spec_RangeDo.mono_l k
  refine ⟨?_, ?_, ?_, ?_, ?_, ?_, ?_, ?_, ?_⟩ <;> (intros; (first | unfold spec_RangeDo.j0 | unfold spec_RangeDo.j1 | unfold spec_RangeDo.j2 | unfold spec_RangeDo.j3 | unfold spec_RangeDo.j4 | unfold spec_RangeDo.j5 | unfold spec_RangeDo.j6 | unfold spec_RangeDo.j7 | unfold spec_RangeDo.j8); repeat' first | (with_reducible first | apply ih0 | apply ih1 | apply ih2 | apply ih3 | apply ih4 | apply ih5 | apply ih6 | apply ih7 | apply ih8 | apply spec_RangeMeet.mono | apply spec_l8Bits.mono | apply spec_l8Div.mono | apply spec_l8R_corners.mono | apply spec_l8Wrapped.mono | apply LeO.refl | apply LeO.none | refine LeO.ite ?_ ?_ | refine LeO.bind ?_ (fun _ => ?_)) | apply ih0 | apply ih1 | apply ih2 | apply ih3 | apply ih4 | apply ih5 | apply ih6 | apply ih7 | apply ih8 | apply spec_RangeMeet.mono | apply spec_l8Bits.mono | apply spec_l8Div.mono | apply spec_l8R_corners.mono | apply spec_l8Wrapped.mono | apply LeO.none | refine LeO.ite ?_ ?_ | refine LeO.bind ?_ (fun _ => ?_))
theorem spec_RangeDo.mono : ∀ a0 a1 a2 a3 a4 k, LeO (spec_RangeDo.f k a0 a1 a2 a3 a4) (spec_RangeDo.f (k + 1) a0 a1 a2 a3 a4) := by
 intro a0 a1 a2 a3 a4 k
 obtain ⟨ih0, ih1, ih2, ih3, ih4, ih5, ih6, ih7, ih8⟩ := spec_RangeDo.mono_l k
 unfold spec_RangeDo.f
 repeat' first | (with_reducible first | apply ih0 | apply ih1 | apply ih2 | apply ih3 | apply ih4 | apply ih5 | apply ih6 | apply ih7 | apply ih8 | apply spec_RangeMeet.mono | apply spec_l8Bits.mono | apply spec_l8Div.mono | apply spec_l8R_corners.mono | apply spec_l8Wrapped.mono | apply LeO.refl | apply LeO.none | refine LeO.ite ?_ ?_ | refine LeO.bind ?_ (fun _ => ?_)) | apply ih0 | apply ih1 | apply ih2 | apply ih3 | apply ih4 | apply ih5 | apply ih6 | apply ih7 | apply ih8 | apply spec_RangeMeet.mono | apply spec_l8Bits.mono | apply spec_l8Div.mono | apply spec_l8R_corners.mono | apply spec_l8Wrapped.mono | apply LeO.none | refine LeO.ite ?_ ?_ | refine LeO.bind ?_ (fun _ => ?_)
def spec_RangeDo.T2 : Bool × List (List Nat × List Nat) := (true, [([], []), ([0], [0]), ([1], [1]), ([2, 1], [2]), ([3], [3]), ([4, 3, 3], [3, 4]), ([5, 3], [3, 5]), ([3, 6], [3, 6]), ([7, 5], [7]), ([8], [8]), ([9, 8, 8], [8, 9]), ([10, 8], [8, 10]), ([8, 11], [8, 11]), ([12, 10], [12]), ([13], [13]), ([13, 13], [13]), ([14, 15, 13], [13, 14, 15]), ([13, 16], [13, 16]), ([17, 15], [17]), ([18], [18]), ([18, 18], [18]), ([19, 20, 18], [18, 19, 20]), ([18, 21], [18, 21])])
def spec_RangeDo.B2 : List Nat := [0, 1, 3, 7, 15, 31, 63, 127, 255, 511, 1023, 2047, 4095, 8191, 16383, 16383, 65535, 131071, 262143, 524287, 524287, 2097151, 4194303]
theorem spec_RangeDo.tab2 : rtab .any (opsOf Try.f9 2) = spec_RangeDo.T2 := by kernel_rfl
theorem spec_RangeDo.bits2 : waitsOk spec_RangeDo.T2.2 spec_RangeDo.B2 = true := by kernel_rfl
def spec_RangeDo.T16 : Bool × List (List Nat × List Nat) := (true, [([], []), ([0], [0]), ([1], [1]), ([2], [2]), ([], []), ([4], [4]), ([5], [5]), ([6], [6]), ([3, 7], [3, 7]), ([], []), ([8, 8, 0, 1, 2, 3, 4, 5, 6, 7, 8], [8]), ([9, 10, 0, 1, 2, 3, 4, 5, 6, 7, 8, 9, 10], [9])])
def spec_RangeDo.B16 : List Nat := [0, 1, 3, 7, 0, 16, 48, 112, 255, 0, 511, 2047]
theorem spec_RangeDo.tab16 : rtab .any (opsOf Try.f9 16) = spec_RangeDo.T16 := by kernel_rfl
theorem spec_RangeDo.bits16 : waitsOk spec_RangeDo.T16.2 spec_RangeDo.B16 = true := by kernel_rfl
def spec_RangeDo.T23 : Bool × List (List Nat × List Nat) := (true, [([], []), ([0], [0]), ([1], [1]), ([2], [2]), ([], []), ([4], [4]), ([5], [5]), ([6], [6]), ([3, 7], [3, 7]), ([], []), ([8, 8, 0, 1, 2, 3, 4, 5, 6, 7, 8], [8]), ([9, 10, 0, 1, 2, 3, 4, 5, 6, 7, 8, 9, 10], [9])])
def spec_RangeDo.B23 : List Nat := [0, 1, 3, 7, 0, 16, 48, 112, 255, 0, 511, 2047]
theorem spec_RangeDo.tab23 : rtab .any (opsOf Try.f9 23) = spec_RangeDo.T23 := by kernel_rfl
theorem spec_RangeDo.bits23 : waitsOk spec_RangeDo.T23.2 spec_RangeDo.B23 = true := by kernel_rfl
set_option maxHeartbeats 8000000 in
set_option maxRecDepth 100000 in
theorem spec_RangeDo.calls (k : Nat) (a0 : Int) (a1_0 : Int) (a1_1 : Int) (a2_0 : Int) (a2_1 : Int) (r1 : Int) (r2 : Int) (r3 : List Int) (w : World) (h : spec_RangeDo.f k a0 a1_0 a1_1 a2_0 a2_1 = some (r1, r2, r3)) :
  Calls Try.prog 9 #[.int .i64 a0, .agg #[.int .i64 a1_0, .int .i64 a1_1], .agg #[.int .i64 a2_0, .int .i64 a2_1]] w fun e w' => ∃ v2_ : Value, e = .returned (.tuple #[.agg #[.int .i64 r1, .int .i64 r2], v2_]) ∧ Kd.R (Kd.int .i64) 3 w' w.heap.size (fun _ => True) v2_ r3 ∧ Below w.heap.size w w' := by
 have hu24 := Try.underlying24
 have hu67 := Try.underlying67
 have HB := am (Below.refl w.heap.size w)
 have H : ((some (([] : List Int) : List Int)).bind fun y247 => ((spec_l1In.f a0 1 13).bind fun t250 => (if t250 = true then ((spec_RangeOk.f a1_0 a1_1).bind fun t251 => (if t251 = true then ((spec_RangeOk.f a2_0 a2_1).bind fun t252 => (if t252 = true then ((spec_l8None.f).bind fun bt253 => (if (a1_0 == bt253.1 && (a1_1 == bt253.2)) = true then (spec_RangeDo.j0 k a0 y247 true a1_0 a1_1 a2_0 a2_1) else ((spec_l8None.f).bind fun bt255 => (spec_RangeDo.j0 k a0 y247 (a2_0 == bt255.1 && (a2_1 == bt255.2)) a1_0 a1_1 a2_0 a2_1)))) else (spec_RangeDo.j0 k a0 y247 true a1_0 a1_1 a2_0 a2_1))) else (spec_RangeDo.j0 k a0 y247 true a1_0 a1_1 a2_0 a2_1))) else (spec_RangeDo.j0 k a0 y247 true a1_0 a1_1 a2_0 a2_1)))) = some (r1, r2, r3) := h
 clear h
 obtain ⟨y247, hy247⟩ : ∃ y_ : List Int, y_ = (([] : List Int)) := ⟨_, rfl⟩
 replace H : ((spec_l1In.f a0 1 13).bind fun t250 => (if t250 = true then ((spec_RangeOk.f a1_0 a1_1).bind fun t251 => (if t251 = true then ((spec_RangeOk.f a2_0 a2_1).bind fun t252 => (if t252 = true then ((spec_l8None.f).bind fun bt253 => (if (a1_0 == bt253.1 && (a1_1 == bt253.2)) = true then (spec_RangeDo.j0 k a0 y247 true a1_0 a1_1 a2_0 a2_1) else ((spec_l8None.f).bind fun bt255 => (spec_RangeDo.j0 k a0 y247 (a2_0 == bt255.1 && (a2_1 == bt255.2)) a1_0 a1_1 a2_0 a2_1)))) else (spec_RangeDo.j0 k a0 y247 true a1_0 a1_1 a2_0 a2_1))) else (spec_RangeDo.j0 k a0 y247 true a1_0 a1_1 a2_0 a2_1))) else (spec_RangeDo.j0 k a0 y247 true a1_0 a1_1 a2_0 a2_1))) = some (r1, r2, r3) := by first | (rw [hy247]; with_reducible exact H) | (have H2_ := (Option.bind_some _ _).symm.trans H; rw [hy247]; with_reducible exact H2_) | (have H2_ := (Option.bind_some _ _).symm.trans H; with_reducible exact H2_) | with_reducible exact H | (rw [hy247]; exact H) | exact H
 have Ny247 := am hy247
 clear hy247
 have HC4 := am H
 clear H
 go_enter Try.func9, Try.ntmps9
 go_upto_region 2 with (first | ((with_reducible refine gate_dst (N := 4) rfl ?_); refine bx 4 #[.int .i64 a1_0, .int .i64 a1_1] 24 ?_; intro gb244 hg w5 hbox hb; have BK244 := am (hbox); have GW244 := am (bs hg (YA HB)); have GE244 := GW244; replace HB := am (below_step (YA HB) hb); clear hb hbox hg) | ((with_reducible refine gate_dst (N := 5) rfl ?_); refine bx 5 #[.int .i64 a2_0, .int .i64 a2_1] 24 ?_; intro gb245 hg w6 hbox hb; have BK245 := am (hbox); have GW245 := am (bs hg (YA HB)); have GE245 := GW245; obtain ⟨NB244_245,NB245_244⟩ := ne_ hg BK244; obtain ⟨BK244, HB⟩ := bk1 BK244 HB hb; clear hb hbox hg) | ((with_reducible refine gate_dst (N := 6) rfl ?_); refine bx 6 #[.int .i64 0, .int .i64 0] 24 ?_; intro gb246 hg w7 hbox hb; have BK246 := am (hbox); have GW246 := am (bs hg (YA HB)); have GE246 := GW246; obtain ⟨NB244_246,NB246_244⟩ := ne_ hg BK244; obtain ⟨NB245_246,NB246_245⟩ := ne_ hg BK245; obtain ⟨BK244, BK245, HB⟩ := bk2 BK244 BK245 HB hb; clear hb hbox hg) | ((with_reducible refine gate_dst (N := 12) rfl ?_); refine Kd.R_lit (Kd.int .i64) _ 3 ?hg (N := 12) ?hd (xs := ([] : List Int)) (inner := []) (ok := fun _ => True) (okp := fun _ => True) ?hr ?hp (fun _ hk => hk) trivial (Below.refl _ _) (Nat.le_refl _) (by simp) ?_; (case hd => rfl); (case hg => rfl); (case hr => first | (go_simp; done) | (go_simp; rfl)); (case hp => exact (Reps.none _ _)); intro v248 w8 ho9 hb hg_ hnew_; clear hg_ hnew_; (first | rw [← Ny247.out] at ho9 | (simp only [Int.reduceToNat] at ho9; rw [← Ny247.out] at ho9)); have HO249 := am (Kd.R_lower ho9 (below_size (YA HB))); obtain ⟨BK244, BK245, BK246, HB⟩ := bk3 BK244 BK245 BK246 HB hb; clear hb ho9))
 (try simp only [Act.put, List.setIfInBounds_toArray, List.set_cons_zero, List.set_cons_succ])
 go_cut [35] (fun v35 wc => ∃ (kq : Nat) (x35_3 : Bool), v35 = .bool x35_3 ∧ Aside0 (spec_RangeDo.j0 kq a0 y247 x35_3 a1_0 a1_1 a2_0 a2_1 = some (r1, r2, r3)) ∧ Aside0 (kq ≤ k) ∧ Aside0 (Kd.R (Kd.int .i64) 3 wc w.heap.size (fun _ => True) v248 y247) ∧ Bx2 wc gb244 a1_0 a1_1 24 ∧ Bx2 wc gb245 a2_0 a2_1 24 ∧ Bx2 wc gb246 0 0 24 ∧ Aside0 (Below w.heap.size w wc))
 case first =>
  have H := HC4.out
  clear HC4
  obtain ⟨t250, A10, H⟩ := bd H
  try dsimp only at H
  by_cases c11 : t250 = true
  rotate_left
  ·replace c11 := Bool.eq_false_iff.mpr c11
   subst c11
   rw [if_neg ff] at H
   have H' := am H
   clear H
   try go_wp2
   replace HO249 := am (Kd.R_drew HO249.out)
   obtain ⟨BK244, BK245, BK246, HB⟩ := dk3 BK244 BK245 BK246 HB
   refine start_ (n := 23) (S := fun w' => True) (ds := []) (lb 23 0) (by kernel_rfl) rfl rfl trivial (fun hHeld => ?_); refine with_tabW spec_RangeDo.tab2 spec_RangeDo.bits2 (fun HT_ HW_ => ?_)
   generalize w8.drew = w33 at HO249 BK244 BK245 BK246 HB hHeld ⊢
   refine pk 0 13 1 ?_
   refine on 1 (some 14) 3 fun K hK => ?_
   refine goes_ Try.func37 (by kernel_rfl) rfl #[.int .i64 a0, .int .i64 1, .int .i64 13] (by rfl) rfl rfl mz ?_
   with_reducible refine (spec_l1In.calls _ _ _ _ _ A10.out).mono ?_
   rintro e w' ⟨rfl, ⟨nd, rfl⟩⟩
   refine ⟨_, rfl, ?_⟩
   refine kk hK trivial fun hHeld => ?_
   clear hK K
   refine pk 2 15 7 ?_
   refine pk 3 16 15 ?_
   refine uk 4 17 31 ?_
   refine uk 5 18 63 ?_
   refine uk 6 19 127 ?_
   refine pk 7 20 255 ?_
   refine pk 8 21 511 ?_
   refine uk 9 22 1023 ?_
   refine uk 10 23 2047 ?_
   refine uk 11 24 4095 ?_
   refine pk 12 25 8191 ?_
   refine pk 13 26 16383 ?_
   refine uk 14 27 32767 ?_
   refine uk 15 28 65535 ?_
   refine uk 16 29 131071 ?_
   refine pk 17 30 262143 ?_
   refine pk 18 31 524287 ?_
   refine uk 19 32 1048575 ?_
   refine uk 20 33 2097151 ?_
   refine uk 21 34 4194303 ?_
   refine pk 22 35 8388607 ?_
   refine done_ (done_of HT_.out (by kernel_rfl)) ?_
   try go_wp2
   go_meet
   case rel => exact ⟨_, (true), ey, H', le0, ⟨by exact RZ HO249⟩, ⟨Z BK244⟩, ⟨Z BK245⟩, ⟨Z BK246⟩, ⟨YA HB⟩⟩
  subst c11
  rw [if_pos rfl] at H
  obtain ⟨t251, A12, H⟩ := bd H
  try dsimp only at H
  by_cases c13 : t251 = true
  rotate_left
  ·replace c13 := Bool.eq_false_iff.mpr c13
   subst c13
   rw [if_neg ff] at H
   have H' := am H
   clear H
   try go_wp2
   replace HO249 := am (Kd.R_drew HO249.out)
   obtain ⟨BK244, BK245, BK246, HB⟩ := dk3 BK244 BK245 BK246 HB
   refine start_ (n := 23) (S := fun w' => w'.cell? ⟨gb244, 0, none⟩ = some (.int .i64 a1_0) ∧ w'.cell? ⟨gb244, 1, none⟩ = some (.int .i64 a1_1)) (ds := []) (lb 23 0) (by kernel_rfl) rfl rfl ⟨bc BK244 0, bc BK244 1⟩ (fun hHeld => ?_); refine with_tabW spec_RangeDo.tab2 spec_RangeDo.bits2 (fun HT_ HW_ => ?_)
   generalize w8.drew = w31 at HO249 BK244 BK245 BK246 HB hHeld ⊢
   refine pk 0 13 1 ?_
   refine on 1 (some 14) 3 fun K hK => ?_
   refine goes_ Try.func37 (by kernel_rfl) rfl #[.int .i64 a0, .int .i64 1, .int .i64 13] (by rfl) rfl rfl mz ?_
   with_reducible refine (spec_l1In.calls _ _ _ _ _ A10.out).mono ?_
   rintro e w' ⟨rfl, ⟨nd, rfl⟩⟩
   refine ⟨_, rfl, ?_⟩
   refine kk hK ⟨bc BK244 0, bc BK244 1⟩ fun hHeld => ?_
   clear hK K
   refine pk 2 15 7 ?_
   refine pk 3 16 15 ?_
   refine tk 4 17 31 hHeld ?_
   refine on 5 (some 18) 63 fun K hK => ?_
   refine gq Try.func24 (spec_RangeOk.calls _ _ _ _ A12.out) fun w32 hb => ?_
   replace HO249 := am (Kd.R_below (RZ HO249) hb)
   obtain ⟨BK244, BK245, BK246, HB⟩ := bk3 BK244 BK245 BK246 HB hb
   clear hb
   refine kk hK ⟨bc BK244 0, bc BK244 1⟩ fun hHeld => ?_
   clear hK K
   refine pk 6 19 127 ?_
   refine pk 7 20 255 ?_
   refine pk 8 21 511 ?_
   refine uk 9 22 1023 ?_
   refine uk 10 23 2047 ?_
   refine uk 11 24 4095 ?_
   refine pk 12 25 8191 ?_
   refine pk 13 26 16383 ?_
   refine uk 14 27 32767 ?_
   refine uk 15 28 65535 ?_
   refine uk 16 29 131071 ?_
   refine pk 17 30 262143 ?_
   refine pk 18 31 524287 ?_
   refine uk 19 32 1048575 ?_
   refine uk 20 33 2097151 ?_
   refine uk 21 34 4194303 ?_
   refine pk 22 35 8388607 ?_
   refine done_ (done_of HT_.out (by kernel_rfl)) ?_
   try go_wp2
   go_meet
   case rel => exact ⟨_, (true), ey, H', le0, ⟨by exact RZ HO249⟩, ⟨Z BK244⟩, ⟨Z BK245⟩, ⟨Z BK246⟩, ⟨YA HB⟩⟩
  subst c13
  rw [if_pos rfl] at H
  obtain ⟨t252, A14, H⟩ := bd H
  try dsimp only at H
  by_cases c15 : t252 = true
  rotate_left
  ·replace c15 := Bool.eq_false_iff.mpr c15
   subst c15
   rw [if_neg ff] at H
   have H' := am H
   clear H
   try go_wp2
   replace HO249 := am (Kd.R_drew HO249.out)
   obtain ⟨BK244, BK245, BK246, HB⟩ := dk3 BK244 BK245 BK246 HB
   refine start_ (n := 23) (S := fun w' => w'.cell? ⟨gb244, 0, none⟩ = some (.int .i64 a1_0) ∧ w'.cell? ⟨gb244, 1, none⟩ = some (.int .i64 a1_1) ∧ w'.cell? ⟨gb245, 0, none⟩ = some (.int .i64 a2_0) ∧ w'.cell? ⟨gb245, 1, none⟩ = some (.int .i64 a2_1)) (ds := []) (lb 23 0) (by kernel_rfl) rfl rfl ⟨bc BK244 0, bc BK244 1, bc BK245 0, bc BK245 1⟩ (fun hHeld => ?_); refine with_tabW spec_RangeDo.tab2 spec_RangeDo.bits2 (fun HT_ HW_ => ?_)
   generalize w8.drew = w28 at HO249 BK244 BK245 BK246 HB hHeld ⊢
   refine pk 0 13 1 ?_
   refine on 1 (some 14) 3 fun K hK => ?_
   refine goes_ Try.func37 (by kernel_rfl) rfl #[.int .i64 a0, .int .i64 1, .int .i64 13] (by rfl) rfl rfl mz ?_
   with_reducible refine (spec_l1In.calls _ _ _ _ _ A10.out).mono ?_
   rintro e w' ⟨rfl, ⟨nd, rfl⟩⟩
   refine ⟨_, rfl, ?_⟩
   refine kk hK ⟨bc BK244 0, bc BK244 1, bc BK245 0, bc BK245 1⟩ fun hHeld => ?_
   clear hK K
   refine pk 2 15 7 ?_
   refine pk 3 16 15 ?_
   refine tk 4 17 31 hHeld ?_
   refine on 5 (some 18) 63 fun K hK => ?_
   refine gq Try.func24 (spec_RangeOk.calls _ _ _ _ A12.out) fun w29 hb => ?_
   replace HO249 := am (Kd.R_below (RZ HO249) hb)
   obtain ⟨BK244, BK245, BK246, HB⟩ := bk3 BK244 BK245 BK246 HB hb
   clear hb
   refine kk hK ⟨bc BK244 0, bc BK244 1, bc BK245 0, bc BK245 1⟩ fun hHeld => ?_
   clear hK K
   refine pk 6 19 127 ?_
   refine pk 7 20 255 ?_
   refine pk 8 21 511 ?_
   refine tk 9 22 1023 hHeld ?_
   refine on 10 (some 23) 2047 fun K hK => ?_
   refine gq Try.func24 (spec_RangeOk.calls _ _ _ _ A14.out) fun w30 hb => ?_
   replace HO249 := am (Kd.R_below (RZ HO249) hb)
   obtain ⟨BK244, BK245, BK246, HB⟩ := bk3 BK244 BK245 BK246 HB hb
   clear hb
   refine kk hK ⟨bc BK244 0, bc BK244 1, bc BK245 0, bc BK245 1⟩ fun hHeld => ?_
   clear hK K
   refine pk 11 24 4095 ?_
   refine pk 12 25 8191 ?_
   refine pk 13 26 16383 ?_
   refine uk 14 27 32767 ?_
   refine uk 15 28 65535 ?_
   refine uk 16 29 131071 ?_
   refine pk 17 30 262143 ?_
   refine pk 18 31 524287 ?_
   refine uk 19 32 1048575 ?_
   refine uk 20 33 2097151 ?_
   refine uk 21 34 4194303 ?_
   refine pk 22 35 8388607 ?_
   refine done_ (done_of HT_.out (by kernel_rfl)) ?_
   try go_wp2
   go_meet
   case rel => exact ⟨_, (true), ey, H', le0, ⟨by exact RZ HO249⟩, ⟨Z BK244⟩, ⟨Z BK245⟩, ⟨Z BK246⟩, ⟨YA HB⟩⟩
  subst c15
  rw [if_pos rfl] at H
  obtain ⟨⟨t253, t254⟩, A16, H⟩ := bd H
  try dsimp only at H
  by_cases c17 : (a1_0 == t253 && (a1_1 == t254)) = true
  ·rw [if_pos c17] at H
   have c17b0 : (a1_0 == t253 && (a1_1 == t254)) = true := c17
   (try (have c17b1 : decide (a1_0 = t253 && (a1_1 == t254)) = true := by simpa using c17))
   (try (have c17b2 : (a1_0 == t253 && (a1_1 == t254)) = true := by simpa using c17))
   clear c17
   (first | rw [c17b0] | (simp only [i64_w, i32_w]; rw [c17b0]) | skip)
   have H' := am H
   clear H
   try go_wp2
   replace HO249 := am (Kd.R_drew HO249.out)
   obtain ⟨BK244, BK245, BK246, HB⟩ := dk3 BK244 BK245 BK246 HB
   refine start_ (n := 23) (S := fun w' => w'.cell? ⟨gb244, 0, none⟩ = some (.int .i64 a1_0) ∧ w'.cell? ⟨gb244, 1, none⟩ = some (.int .i64 a1_1) ∧ w'.cell? ⟨gb245, 0, none⟩ = some (.int .i64 a2_0) ∧ w'.cell? ⟨gb245, 1, none⟩ = some (.int .i64 a2_1)) (ds := []) (lb 23 0) (by kernel_rfl) rfl rfl ⟨bc BK244 0, bc BK244 1, bc BK245 0, bc BK245 1⟩ (fun hHeld => ?_); refine with_tabW spec_RangeDo.tab2 spec_RangeDo.bits2 (fun HT_ HW_ => ?_)
   generalize w8.drew = w18 at HO249 BK244 BK245 BK246 HB hHeld ⊢
   refine pk 0 13 1 ?_
   refine on 1 (some 14) 3 fun K hK => ?_
   refine goes_ Try.func37 (by kernel_rfl) rfl #[.int .i64 a0, .int .i64 1, .int .i64 13] (by rfl) rfl rfl mz ?_
   with_reducible refine (spec_l1In.calls _ _ _ _ _ A10.out).mono ?_
   rintro e w' ⟨rfl, ⟨nd, rfl⟩⟩
   refine ⟨_, rfl, ?_⟩
   refine kk hK ⟨bc BK244 0, bc BK244 1, bc BK245 0, bc BK245 1⟩ fun hHeld => ?_
   clear hK K
   refine pk 2 15 7 ?_
   refine pk 3 16 15 ?_
   refine tk 4 17 31 hHeld ?_
   refine on 5 (some 18) 63 fun K hK => ?_
   refine gq Try.func24 (spec_RangeOk.calls _ _ _ _ A12.out) fun w19 hb => ?_
   replace HO249 := am (Kd.R_below (RZ HO249) hb)
   obtain ⟨BK244, BK245, BK246, HB⟩ := bk3 BK244 BK245 BK246 HB hb
   clear hb
   refine kk hK ⟨bc BK244 0, bc BK244 1, bc BK245 0, bc BK245 1⟩ fun hHeld => ?_
   clear hK K
   refine pk 6 19 127 ?_
   refine pk 7 20 255 ?_
   refine pk 8 21 511 ?_
   refine tk 9 22 1023 hHeld ?_
   refine on 10 (some 23) 2047 fun K hK => ?_
   refine gq Try.func24 (spec_RangeOk.calls _ _ _ _ A14.out) fun w20 hb => ?_
   replace HO249 := am (Kd.R_below (RZ HO249) hb)
   obtain ⟨BK244, BK245, BK246, HB⟩ := bk3 BK244 BK245 BK246 HB hb
   clear hb
   refine kk hK ⟨bc BK244 0, bc BK244 1, bc BK245 0, bc BK245 1⟩ fun hHeld => ?_
   clear hK K
   refine pk 11 24 4095 ?_
   refine pk 12 25 8191 ?_
   refine pk 13 26 16383 ?_
   refine tk 14 27 32767 hHeld ?_
   refine on 15 (some 28) 65535 fun K hK => ?_
   refine gq Try.func38 (spec_l8None.calls _ _ _ A16.out) fun w21 hb => ?_
   replace HO249 := am (Kd.R_below (RZ HO249) hb)
   obtain ⟨BK244, BK245, BK246, HB⟩ := bk3 BK244 BK245 BK246 HB hb
   clear hb
   refine kk hK ⟨bc BK244 0, bc BK244 1, bc BK245 0, bc BK245 1⟩ fun hHeld => ?_
   clear hK K
   refine pk 16 29 131071 ?_
   refine pk 17 30 262143 ?_
   refine pk 18 31 524287 ?_
   refine uk 19 32 1048575 ?_
   refine uk 20 33 2097151 ?_
   refine uk 21 34 4194303 ?_
   refine pk 22 35 8388607 ?_
   refine done_ (done_of HT_.out (by kernel_rfl)) ?_
   try go_wp2
   go_meet
   case rel => exact ⟨_, (true), ey, H', le0, ⟨by exact RZ HO249⟩, ⟨Z BK244⟩, ⟨Z BK245⟩, ⟨Z BK246⟩, ⟨YA HB⟩⟩
  rw [if_neg c17] at H
  have c17b0 : (a1_0 == t253 && (a1_1 == t254)) = false := by simpa using c17
  (try (have c17b1 : decide (a1_0 = t253 && (a1_1 == t254)) = false := by simpa using c17))
  (try (have c17b2 : (a1_0 == t253 && (a1_1 == t254)) = false := by simpa using c17))
  (try (have c17b3 : ¬ (a1_0 = t253 && (a1_1 == t254)) := by simpa using c17))
  clear c17
  (first | rw [c17b0] | (simp only [i64_w, i32_w]; rw [c17b0]) | skip)
  obtain ⟨⟨t255, t256⟩, A22, H⟩ := bd H
  try dsimp only at H
  have H' := am H
  clear H
  try go_wp2
  replace HO249 := am (Kd.R_drew HO249.out)
  obtain ⟨BK244, BK245, BK246, HB⟩ := dk3 BK244 BK245 BK246 HB
  refine start_ (n := 23) (S := fun w' => w'.cell? ⟨gb244, 0, none⟩ = some (.int .i64 a1_0) ∧ w'.cell? ⟨gb244, 1, none⟩ = some (.int .i64 a1_1) ∧ w'.cell? ⟨gb245, 0, none⟩ = some (.int .i64 a2_0) ∧ w'.cell? ⟨gb245, 1, none⟩ = some (.int .i64 a2_1)) (ds := []) (lb 23 0) (by kernel_rfl) rfl rfl ⟨bc BK244 0, bc BK244 1, bc BK245 0, bc BK245 1⟩ (fun hHeld => ?_); refine with_tabW spec_RangeDo.tab2 spec_RangeDo.bits2 (fun HT_ HW_ => ?_)
  generalize w8.drew = w23 at HO249 BK244 BK245 BK246 HB hHeld ⊢
  refine pk 0 13 1 ?_
  refine on 1 (some 14) 3 fun K hK => ?_
  refine goes_ Try.func37 (by kernel_rfl) rfl #[.int .i64 a0, .int .i64 1, .int .i64 13] (by rfl) rfl rfl mz ?_
  with_reducible refine (spec_l1In.calls _ _ _ _ _ A10.out).mono ?_
  rintro e w' ⟨rfl, ⟨nd, rfl⟩⟩
  refine ⟨_, rfl, ?_⟩
  refine kk hK ⟨bc BK244 0, bc BK244 1, bc BK245 0, bc BK245 1⟩ fun hHeld => ?_
  clear hK K
  refine pk 2 15 7 ?_
  refine pk 3 16 15 ?_
  refine tk 4 17 31 hHeld ?_
  refine on 5 (some 18) 63 fun K hK => ?_
  refine gq Try.func24 (spec_RangeOk.calls _ _ _ _ A12.out) fun w24 hb => ?_
  replace HO249 := am (Kd.R_below (RZ HO249) hb)
  obtain ⟨BK244, BK245, BK246, HB⟩ := bk3 BK244 BK245 BK246 HB hb
  clear hb
  refine kk hK ⟨bc BK244 0, bc BK244 1, bc BK245 0, bc BK245 1⟩ fun hHeld => ?_
  clear hK K
  refine pk 6 19 127 ?_
  refine pk 7 20 255 ?_
  refine pk 8 21 511 ?_
  refine tk 9 22 1023 hHeld ?_
  refine on 10 (some 23) 2047 fun K hK => ?_
  refine gq Try.func24 (spec_RangeOk.calls _ _ _ _ A14.out) fun w25 hb => ?_
  replace HO249 := am (Kd.R_below (RZ HO249) hb)
  obtain ⟨BK244, BK245, BK246, HB⟩ := bk3 BK244 BK245 BK246 HB hb
  clear hb
  refine kk hK ⟨bc BK244 0, bc BK244 1, bc BK245 0, bc BK245 1⟩ fun hHeld => ?_
  clear hK K
  refine pk 11 24 4095 ?_
  refine pk 12 25 8191 ?_
  refine pk 13 26 16383 ?_
  refine tk 14 27 32767 hHeld ?_
  refine on 15 (some 28) 65535 fun K hK => ?_
  refine gq Try.func38 (spec_l8None.calls _ _ _ A16.out) fun w26 hb => ?_
  replace HO249 := am (Kd.R_below (RZ HO249) hb)
  obtain ⟨BK244, BK245, BK246, HB⟩ := bk3 BK244 BK245 BK246 HB hb
  clear hb
  refine kk hK ⟨bc BK244 0, bc BK244 1, bc BK245 0, bc BK245 1⟩ fun hHeld => ?_
  clear hK K
  refine pk 16 29 131071 ?_
  refine pk 17 30 262143 ?_
  refine pk 18 31 524287 ?_
  refine tk 19 32 1048575 hHeld ?_
  refine on 20 (some 33) 2097151 fun K hK => ?_
  refine gq Try.func38 (spec_l8None.calls _ _ _ A22.out) fun w27 hb => ?_
  replace HO249 := am (Kd.R_below (RZ HO249) hb)
  obtain ⟨BK244, BK245, BK246, HB⟩ := bk3 BK244 BK245 BK246 HB hb
  clear hb
  refine kk hK ⟨bc BK244 0, bc BK244 1, bc BK245 0, bc BK245 1⟩ fun hHeld => ?_
  clear hK K
  refine pk 21 34 4194303 ?_
  refine pk 22 35 8388607 ?_
  refine done_ (done_of HT_.out (by kernel_rfl)) ?_
  try go_wp2
  go_meet
  case rel => exact ⟨_, ((a2_0 == t255 && (a2_1 == t256))), ey, H', le0, ⟨by exact RZ HO249⟩, ⟨Z BK244⟩, ⟨Z BK245⟩, ⟨Z BK246⟩, ⟨YA HB⟩⟩
 case rest =>
  clear HC4
  obtain ⟨kq, x35_3, rfl, HA, HJ3, HO_8, BK244, BK245, BK246, HB⟩ := hcut
  cases kq with
  | zero => exact absurd HA.out (by simp [spec_RangeDo.j0])
  | succ kj3 =>
   have H := HA.out
   clear HA
   simp only [spec_RangeDo.j0] at H
   by_cases c34 : x35_3 = true
   ·subst c34
    rw [if_pos rfl] at H
    obtain ⟨⟨t257, t258⟩, A35, H⟩ := bd H
    try dsimp only at H
    simp only [Option.some.injEq, Prod.mk.injEq] at H
    obtain ⟨rfl, rfl, rfl⟩ := H
    go_wp2_with (first | ((with_reducible refine gate_callee (f := 38) rfl ?_); refine gL 36 Try.func38 (spec_l8None.calls _ _ _ A35.out) fun w36 hb => ?_; replace HO_8 := am (Kd.R_below (RZ HO_8) hb); obtain ⟨BK244, BK245, BK246, HB⟩ := bk3 BK244 BK245 BK246 HB hb; (try clear hb); obtain ⟨hnb37,hnc37⟩ := nn NB246_244; obtain ⟨hnb38,hnc38⟩ := nn NB246_245; obtain ⟨hcz39_0,hcz39_1,hfz39_0,hfz39_1⟩ := cB2 BK246))
    refine bodyPost_ret (results_ct rfl _ _ gb246 24 #[.int .i64 t257, .int .i64 t258] (0, 0) _ rfl (by refine pf ?_; refine blk_put (cs := #[.int .i64 t257, .int .i64 0]) ?_ 1 _ rfl; refine pf ?_; refine blk_put (cs := #[.int .i64 0, .int .i64 0]) ?_ 0 _ rfl; exact Z BK246) Try.underlying24 rfl (by kernel_rfl)) rfl ?_
    exact ⟨_, ez, by (with_reducible repeat (first | apply Kd.R_alloc | apply Kd.R_drewN | apply Kd.R_drew)); exact Kd.R_mono (Kd.R_far (p := ⟨gb246, 1, none⟩) (Kd.R_far (p := ⟨gb246, 0, none⟩) (Kd.R_types HO_8.out BK246.out (by decide)) (fun _ hk => hk.2) (.int .i64 t257)) (fun _ hk => hk.2) (.int .i64 t258)) (fun _ hk => trivial), YA HB⟩
   replace c34 := Bool.eq_false_iff.mpr c34
   subst c34
   rw [if_neg ff] at H
   have HC40 := am H
   clear H
   go_upto_region 4 with (fail)
   go_cut [43] (fun v43 wc => ∃ (kq : Nat) (x43_39 : Bool), v43 = .bool x43_39 ∧ Aside0 (spec_RangeDo.j1 kq a0 y247 x43_39 a1_0 a1_1 a2_0 a2_1 = some (r1, r2, r3)) ∧ Aside0 (kq ≤ kj3) ∧ Aside0 (Kd.R (Kd.int .i64) 3 wc w.heap.size (fun _ => True) v248 y247) ∧ Bx2 wc gb244 a1_0 a1_1 24 ∧ Bx2 wc gb245 a2_0 a2_1 24 ∧ Bx2 wc gb246 0 0 24 ∧ Aside0 (Below w.heap.size w wc))
   case first =>
    have H := HC40.out
    clear HC40
    by_cases c41 : a0 = 4
    rotate_left
    ·rw [if_neg c41] at H
     have c41b0 := eF c41
     have c41b1 := nT c41
     (first | rw [c41b0] | (simp only [i64_w, i32_w]; rw [c41b0]) | skip)
     have H' := am H
     clear H
     go_wp2
     go_meet
     case rel => exact ⟨_, ((a0 == 5)), ey, H', le1 HJ3, ⟨by exact RZ HO_8⟩, ⟨Z BK244⟩, ⟨Z BK245⟩, ⟨Z BK246⟩, ⟨YA HB⟩⟩
    rw [if_pos c41] at H
    have c41b0 := eT c41
    have c41b1 := nF c41
    clear c41
    (first | rw [c41b0] | (simp only [i64_w, i32_w]; rw [c41b0]) | skip)
    have H' := am H
    clear H
    go_wp2
    go_meet
    case rel => exact ⟨_, (true), ey, H', le1 HJ3, ⟨by exact RZ HO_8⟩, ⟨Z BK244⟩, ⟨Z BK245⟩, ⟨Z BK246⟩, ⟨YA HB⟩⟩
   case rest =>
    clear HC40
    try clear c34
    obtain ⟨kq, x43_39, rfl, HA, HJ39, HO_8, BK244, BK245, BK246, HB⟩ := hcut
    cases kq with
    | zero => exact absurd HA.out (by simp [spec_RangeDo.j1])
    | succ kj39 =>
     have H := HA.out
     clear HA
     simp only [spec_RangeDo.j1] at H
     by_cases c42 : x43_39 = true
     ·subst c42
      rw [if_pos rfl] at H
      obtain ⟨⟨t259, t260, t261⟩, A43, H⟩ := bd H
      try dsimp only at H
      simp only [Option.some.injEq, Prod.mk.injEq] at H
      obtain ⟨rfl, rfl, rfl⟩ := H
      obtain ⟨hnb44,hnc44⟩ := nn NB244_245
      obtain ⟨hnb45,hnc45⟩ := nn NB244_246
      obtain ⟨hcz46_0,hcz46_1,hfz46_0,hfz46_1⟩ := cB2 BK244
      obtain ⟨hnb47,hnc47⟩ := nn NB245_246
      obtain ⟨hcz48_0,hcz48_1,hfz48_0,hfz48_1⟩ := cB2 BK245
      go_wp2_with (first | ((with_reducible refine gate_callee (f := 39) rfl ?_); refine goesL_ (some 47) rfl rfl Try.func39 (by kernel_rfl) rfl #[.int .i64 a0, .agg #[.int .i64 a1_0, .int .i64 a1_1], .agg #[.int .i64 a2_0, .int .i64 a2_1]] rfl mz ?_; (with_reducible refine (spec_l8Div.calls _ _ _ _ _ _ _ _ _ _ A43.out).mono ?_); rintro e w49 ⟨v262, rfl, ho0, hb⟩; refine ⟨_, rfl, ?_⟩; have HO263 := am (Kd.R_lower (Kd.R_new' ho0 (Kd.R_lt (RZ HO_8))) (below_size (YA HB))); replace HO_8 := am (Kd.R_elder' (RZ HO_8) (Kd.R_base ho0) hb); obtain ⟨BK244, BK245, BK246, HB⟩ := bk3 BK244 BK245 BK246 HB hb; (try clear hb); (try clear ho0); obtain ⟨hcz50_0,hcz50_1,hfz50_0,hfz50_1⟩ := cB2 BK246))
      refine bodyPost_ret (results_ct rfl _ _ gb246 24 #[.int .i64 t259, .int .i64 t260] (0, 0) _ rfl (by refine pf ?_; refine blk_put (cs := #[.int .i64 t259, .int .i64 0]) ?_ 1 _ rfl; refine pf ?_; refine blk_put (cs := #[.int .i64 0, .int .i64 0]) ?_ 0 _ rfl; exact Z BK246) Try.underlying24 rfl (by kernel_rfl)) rfl ?_
      exact ⟨_, ez, by (with_reducible repeat (first | apply Kd.R_alloc | apply Kd.R_drewN | apply Kd.R_drew)); exact Kd.R_mono (Kd.R_far (p := ⟨gb246, 1, none⟩) (Kd.R_far (p := ⟨gb246, 0, none⟩) (Kd.R_types HO263.out BK246.out (by decide)) (fun _ hk => hk.2) (.int .i64 t259)) (fun _ hk => hk.2) (.int .i64 t260)) (fun _ hk => trivial), YA HB⟩
     replace c42 := Bool.eq_false_iff.mpr c42
     subst c42
     rw [if_neg ff] at H
     obtain ⟨t264, A51, H⟩ := bd H
     try dsimp only at H
     by_cases c52 : t264 = true
     ·subst c52
      rw [if_pos rfl] at H
      obtain ⟨⟨t265, t266⟩, A53, H⟩ := bd H
      try dsimp only at H
      simp only [Option.some.injEq, Prod.mk.injEq] at H
      obtain ⟨rfl, rfl, rfl⟩ := H
      go_wp2_with (first | ((with_reducible refine gate_callee (f := 37) rfl ?_); refine goesL_ (some 51) rfl rfl Try.func37 (by kernel_rfl) rfl #[.int .i64 a0, .int .i64 6, .int .i64 8] rfl mz ?_; (with_reducible refine (spec_l1In.calls _ _ _ _ _ A51.out).mono ?_); rintro e w' ⟨rfl, ⟨nd, rfl⟩⟩; refine ⟨_, rfl, ?_⟩; (try (rw [drewN_self wc]; generalize hq_ : World.drewN wc _ = wc; replace HO_8 : Aside0 (Kd.R (Kd.int .i64) 3 wc w.heap.size (fun _ => True) v248 y247) := ⟨by rw [← hq_]; exact (RZ HO_8)⟩; replace BK244 : Bx2 wc gb244 a1_0 a1_1 24 := ⟨by rw [← hq_]; exact (Z BK244)⟩; replace BK245 : Bx2 wc gb245 a2_0 a2_1 24 := ⟨by rw [← hq_]; exact (Z BK245)⟩; replace BK246 : Bx2 wc gb246 0 0 24 := ⟨by rw [← hq_]; exact (Z BK246)⟩; replace HB : Aside0 (Below w.heap.size w wc) := ⟨by rw [← hq_]; exact (YA HB)⟩; clear hq_)); obtain ⟨hnb54,hnc54⟩ := nn NB244_245; obtain ⟨hnb55,hnc55⟩ := nn NB244_246; obtain ⟨hcz56_0,hcz56_1,hfz56_0,hfz56_1⟩ := cB2 BK244; obtain ⟨hnb57,hnc57⟩ := nn NB245_246; obtain ⟨hcz58_0,hcz58_1,hfz58_0,hfz58_1⟩ := cB2 BK245) | ((with_reducible refine gate_callee (f := 40) rfl ?_); refine gL 55 Try.func40 (spec_l8Bits.calls _ _ _ _ _ _ _ _ _ A53.out) fun w59 hb => ?_; replace HO_8 := am (Kd.R_below (RZ HO_8) hb); obtain ⟨BK244, BK245, BK246, HB⟩ := bk3 BK244 BK245 BK246 HB hb; (try clear hb); obtain ⟨hcz60_0,hcz60_1,hfz60_0,hfz60_1⟩ := cB2 BK246))
      refine bodyPost_ret (results_ct rfl _ _ gb246 24 #[.int .i64 t265, .int .i64 t266] (0, 0) _ rfl (by refine pf ?_; refine blk_put (cs := #[.int .i64 t265, .int .i64 0]) ?_ 1 _ rfl; refine pf ?_; refine blk_put (cs := #[.int .i64 0, .int .i64 0]) ?_ 0 _ rfl; exact Z BK246) Try.underlying24 rfl (by kernel_rfl)) rfl ?_
      exact ⟨_, ez, by (with_reducible repeat (first | apply Kd.R_alloc | apply Kd.R_drewN | apply Kd.R_drew)); exact Kd.R_mono (Kd.R_far (p := ⟨gb246, 1, none⟩) (Kd.R_far (p := ⟨gb246, 0, none⟩) (Kd.R_types HO_8.out BK246.out (by decide)) (fun _ hk => hk.2) (.int .i64 t265)) (fun _ hk => hk.2) (.int .i64 t266)) (fun _ hk => trivial), YA HB⟩
     replace c52 := Bool.eq_false_iff.mpr c52
     subst c52
     rw [if_neg ff] at H
     have HC61 := am H
     clear H
     go_upto_region 9 with (first | ((with_reducible refine gate_callee (f := 37) rfl ?_); refine goesL_ (some 51) rfl rfl Try.func37 (by kernel_rfl) rfl #[.int .i64 a0, .int .i64 6, .int .i64 8] rfl mz ?_; (with_reducible refine (spec_l1In.calls _ _ _ _ _ A51.out).mono ?_); rintro e w' ⟨rfl, ⟨nd, rfl⟩⟩; refine ⟨_, rfl, ?_⟩; (try (rw [drewN_self wc]; generalize hq_ : World.drewN wc _ = wc; replace HO_8 : Aside0 (Kd.R (Kd.int .i64) 3 wc w.heap.size (fun _ => True) v248 y247) := ⟨by rw [← hq_]; exact (RZ HO_8)⟩; replace BK244 : Bx2 wc gb244 a1_0 a1_1 24 := ⟨by rw [← hq_]; exact (Z BK244)⟩; replace BK245 : Bx2 wc gb245 a2_0 a2_1 24 := ⟨by rw [← hq_]; exact (Z BK245)⟩; replace BK246 : Bx2 wc gb246 0 0 24 := ⟨by rw [← hq_]; exact (Z BK246)⟩; replace HB : Aside0 (Below w.heap.size w wc) := ⟨by rw [← hq_]; exact (YA HB)⟩; clear hq_)); obtain ⟨hnb62,hnc62⟩ := nn NB245_244; obtain ⟨hnb63,hnc63⟩ := nn NB245_246; obtain ⟨hcz64_0,hcz64_1,hfz64_0,hfz64_1⟩ := cB2 BK245) | ((with_reducible refine gate_dst (N := 9) rfl ?_); refine bx 9 #[.int .i64 0, .int .i64 0] 24 ?_; intro gb267 hg w65 hbox hb; have BK267 := am (hbox); have GW267 := am (bs hg (YA HB)); have GE267 := GW267; obtain ⟨NB244_267,NB267_244⟩ := ne_ hg BK244; obtain ⟨NB245_267,NB267_245⟩ := ne_ hg BK245; obtain ⟨NB246_267,NB267_246⟩ := ne_ hg BK246; replace HO_8 := am (Kd.R_below (RZ HO_8) hb); obtain ⟨BK244, BK245, BK246, HB⟩ := bk3 BK244 BK245 BK246 HB hb; clear hb hbox hg; obtain ⟨hnb66,hnc66⟩ := nn NB267_244; obtain ⟨hnb67,hnc67⟩ := nn NB267_245; obtain ⟨hnb68,hnc68⟩ := nn NB267_246; obtain ⟨hcz69_0,hcz69_1,hfz69_0,hfz69_1⟩ := cB2 BK267))
     (try simp only [Act.put, List.setIfInBounds_toArray, List.set_cons_zero, List.set_cons_succ])
     go_cut [10] (fun v10 wc => ∃ (kq : Nat) (x10_60 : Bool), v10 = .bool x10_60 ∧ Aside0 (spec_RangeDo.j2 kq a0 y247 x10_60 a1_0 a1_1 a2_0 a2_1 a2_0 a2_1 = some (r1, r2, r3)) ∧ Aside0 (kq ≤ kj39) ∧ Aside0 (Kd.R (Kd.int .i64) 3 wc w.heap.size (fun _ => True) v248 y247) ∧ Bx2 wc gb244 a1_0 a1_1 24 ∧ Bx2 wc gb245 a2_0 a2_1 24 ∧ Bx2 wc gb246 0 0 24 ∧ Bx2 wc gb267 a2_0 a2_1 24 ∧ Aside0 (Below w.heap.size w wc))
     case first =>
      have H := HC61.out
      clear HC61
      by_cases c70 : a0 = 9
      rotate_left
      ·rw [if_neg c70] at H
       have c70b0 := eF c70
       have c70b1 := nT c70
       (first | rw [c70b0] | (simp only [i64_w, i32_w]; rw [c70b0]) | skip)
       have H' := am H
       clear H
       go_wp2
       go_meet
       case rel => exact ⟨_, ((a0 == 10)), ey, H', ⟨by have := HJ3.out; have := HJ39.out; first | omega | exact Nat.le_refl _⟩, ⟨by (with_reducible repeat (first | apply Kd.R_alloc | apply Kd.R_drewN | apply Kd.R_drew)); exact Kd.R_mono (Kd.R_far (p := ⟨gb267, 1, none⟩) (Kd.R_far (p := ⟨gb267, 0, none⟩) (Kd.R_types HO_8.out BK267.out (by decide)) (fun _ hk => hk.2) (.int .i64 a2_0)) (fun _ hk => hk.2) (.int .i64 a2_1)) (fun _ hk => trivial)⟩, ⟨by refine fa NB244_267 ?_; refine fa NB244_267 ?_; exact Z BK244⟩, ⟨by refine fa NB245_267 ?_; refine fa NB245_267 ?_; exact Z BK245⟩, ⟨by refine fa NB246_267 ?_; refine fa NB246_267 ?_; exact Z BK246⟩, ⟨by refine pf ?_; refine blk_put (cs := #[.int .i64 a2_0, .int .i64 0]) ?_ 1 _ rfl; refine pf ?_; refine blk_put (cs := #[.int .i64 0, .int .i64 0]) ?_ 0 _ rfl; exact Z BK267⟩, ⟨YA HB⟩⟩
      rw [if_pos c70] at H
      have c70b0 := eT c70
      have c70b1 := nF c70
      clear c70
      (first | rw [c70b0] | (simp only [i64_w, i32_w]; rw [c70b0]) | skip)
      have H' := am H
      clear H
      go_wp2
      go_meet
      case rel => exact ⟨_, (true), ey, H', ⟨by have := HJ3.out; have := HJ39.out; first | omega | exact Nat.le_refl _⟩, ⟨by (with_reducible repeat (first | apply Kd.R_alloc | apply Kd.R_drewN | apply Kd.R_drew)); exact Kd.R_mono (Kd.R_far (p := ⟨gb267, 1, none⟩) (Kd.R_far (p := ⟨gb267, 0, none⟩) (Kd.R_types HO_8.out BK267.out (by decide)) (fun _ hk => hk.2) (.int .i64 a2_0)) (fun _ hk => hk.2) (.int .i64 a2_1)) (fun _ hk => trivial)⟩, ⟨by refine fa NB244_267 ?_; refine fa NB244_267 ?_; exact Z BK244⟩, ⟨by refine fa NB245_267 ?_; refine fa NB245_267 ?_; exact Z BK245⟩, ⟨by refine fa NB246_267 ?_; refine fa NB246_267 ?_; exact Z BK246⟩, ⟨by refine pf ?_; refine blk_put (cs := #[.int .i64 a2_0, .int .i64 0]) ?_ 1 _ rfl; refine pf ?_; refine blk_put (cs := #[.int .i64 0, .int .i64 0]) ?_ 0 _ rfl; exact Z BK267⟩, ⟨YA HB⟩⟩
     case rest =>
      clear HC61
      (try clear c42);(try clear c52);(try clear hcz64_0);(try clear hcz64_1);(try clear hcz69_0);(try clear hcz69_1);(try clear hfz64_0);(try clear hfz64_1);(try clear hfz69_0);(try clear hfz69_1)
      obtain ⟨kq, x10_60, rfl, HA, HJ60, HO_8, BK244, BK245, BK246, BK267, HB⟩ := hcut
      cases kq with
      | zero => exact absurd HA.out (by simp [spec_RangeDo.j2])
      | succ kj60 =>
       have H := HA.out
       clear HA
       simp only [spec_RangeDo.j2] at H
       have HC71 := am H
       clear H
       go_upto_if 64 with (fail)
       go_cut [] (fun wc => ∃ (kq : Nat) (x268000_70 : Int) (x268001_70 : Int), Aside0 (spec_RangeDo.j3 kq a0 y247 x10_60 a1_0 a1_1 a2_0 a2_1 x268000_70 x268001_70 = some (r1, r2, r3)) ∧ Aside0 (kq ≤ kj60) ∧ Aside0 (Kd.R (Kd.int .i64) 3 wc w.heap.size (fun _ => True) v248 y247) ∧ Bx2 wc gb244 a1_0 a1_1 24 ∧ Bx2 wc gb245 a2_0 a2_1 24 ∧ Bx2 wc gb246 0 0 24 ∧ Bx2 wc gb267 x268000_70 x268001_70 24 ∧ Aside0 (Below w.heap.size w wc))
       case first =>
        have H := HC71.out
        clear HC71
        by_cases c72 : x10_60 = true
        rotate_left
        ·replace c72 := Bool.eq_false_iff.mpr c72
         subst c72
         rw [if_neg ff] at H
         have H' := am H
         clear H
         go_wp2
         go_meet
         case rel => exact ⟨_, (a2_0), (a2_1), H', ⟨by have := HJ3.out; have := HJ39.out; have := HJ60.out; first | omega | exact Nat.le_refl _⟩, ⟨by exact RZ HO_8⟩, ⟨Z BK244⟩, ⟨Z BK245⟩, ⟨Z BK246⟩, ⟨Z BK267⟩, ⟨YA HB⟩⟩
        subst c72
        rw [if_pos rfl] at H
        obtain ⟨⟨t268, t269⟩, A73, H⟩ := bd H
        try dsimp only at H
        have H' := am H
        clear H
        obtain ⟨hnb74,hnc74⟩ := nn NB245_244
        obtain ⟨hnb75,hnc75⟩ := nn NB245_246
        obtain ⟨hnb76,hnc76⟩ := nn NB245_267
        obtain ⟨hcz77_0,hcz77_1,hfz77_0,hfz77_1⟩ := cB2 BK245
        go_wp2_with (first | ((with_reducible refine gate_callee (f := 41) rfl ?_); refine gL 67 Try.func41 (spec_RangeMeet.calls _ _ _ _ _ _ _ _ A73.out) fun w78 hb => ?_; replace HO_8 := am (Kd.R_below (RZ HO_8) hb); obtain ⟨BK244, BK245, BK246, BK267, HB⟩ := bk4 BK244 BK245 BK246 BK267 HB hb; (try clear hb); obtain ⟨hnb79,hnc79⟩ := nn NB267_244; obtain ⟨hnb80,hnc80⟩ := nn NB267_246; obtain ⟨hcz81_0,hcz81_1,hfz81_0,hfz81_1⟩ := cB2 BK267))
        go_meet
        case rel => exact ⟨_, (t268), (t269), H', ⟨by have := HJ3.out; have := HJ39.out; have := HJ60.out; first | omega | exact Nat.le_refl _⟩, ⟨by (with_reducible repeat (first | apply Kd.R_alloc | apply Kd.R_drewN | apply Kd.R_drew)); exact Kd.R_mono (Kd.R_far (p := ⟨gb267, 1, none⟩) (Kd.R_far (p := ⟨gb267, 0, none⟩) (Kd.R_types HO_8.out BK267.out (by decide)) (fun _ hk => hk.2) (.int .i64 t268)) (fun _ hk => hk.2) (.int .i64 t269)) (fun _ hk => trivial)⟩, ⟨by refine fa NB244_267 ?_; refine fa NB244_267 ?_; exact Z BK244⟩, ⟨by refine fa NB245_267 ?_; refine fa NB245_267 ?_; exact Z BK245⟩, ⟨by refine fa NB246_267 ?_; refine fa NB246_267 ?_; exact Z BK246⟩, ⟨by refine pf ?_; refine blk_put (cs := #[.int .i64 t268, .int .i64 a2_1]) ?_ 1 _ rfl; refine pf ?_; refine blk_put (cs := #[.int .i64 a2_0, .int .i64 a2_1]) ?_ 0 _ rfl; exact Z BK267⟩, ⟨YA HB⟩⟩
       case rest =>
        clear HC71
        obtain ⟨kq, x268000_70, x268001_70, HA, HJ70, HO_8, BK244, BK245, BK246, BK267, HB⟩ := hcut
        cases kq with
        | zero => exact absurd HA.out (by simp [spec_RangeDo.j3])
        | succ kj70 =>
         have H := HA.out
         clear HA
         simp only [spec_RangeDo.j3] at H
         obtain ⟨⟨t271, t272⟩, A82, H⟩ := bd H
         try dsimp only at H
         have HC83 := am H
         clear H
         try go_wp2_with (first | ((with_reducible refine gate_dst (N := 69) rfl ?_); refine bx 69 #[.bool false, .int .i64 0, .int .i64 0] 67 ?_; intro gb270 hg w84 hbox hb; have BK270 := am (hbox); have GW270 := am (bs hg (YA HB)); have GE270 := GW270; obtain ⟨NB244_270,NB270_244⟩ := ne_ hg BK244; obtain ⟨NB245_270,NB270_245⟩ := ne_ hg BK245; obtain ⟨NB246_270,NB270_246⟩ := ne_ hg BK246; obtain ⟨NB267_270,NB270_267⟩ := ne_ hg BK267; replace HO_8 := am (Kd.R_below (RZ HO_8) hb); obtain ⟨BK244, BK245, BK246, BK267, HB⟩ := bk4 BK244 BK245 BK246 BK267 HB hb; clear hb hbox hg))
         replace HO_8 := am (Kd.R_drew HO_8.out)
         obtain ⟨BK244, BK245, BK246, BK267, BK270, HB⟩ := dk5 BK244 BK245 BK246 BK267 BK270 HB
         refine start_ (n := 3) (S := fun w' => w'.cell? ⟨gb267, 0, none⟩ = some (.int .i64 x268000_70) ∧ w'.cell? ⟨gb267, 1, none⟩ = some (.int .i64 x268001_70)) (ds := []) (lb 3 0) (by kernel_rfl) rfl rfl ⟨bc BK267 0, bc BK267 1⟩ (fun hHeld => ?_)
         generalize w84.drew = w85 at HO_8 BK244 BK245 BK246 BK267 BK270 HB hHeld ⊢
         refine take_ (i := 0) (N := some 70) (v := ?_) (a' := ?_) (lb 3 1) rfl rfl (by kernel_rfl) (fun _ _ _ h => h) (Or.inl ⟨by rfl, ?_⟩) hHeld ?_ ?_
         rotate_left
         ·rintro w' ⟨s0, s1⟩
          go_simp
          with_reducible rfl
         rotate_left
         ·exact pz
         refine one_ (i := 1) (N := some 71) (lb 3 3) rfl rfl (by kernel_rfl) (by decide) (fun K hK => ?_)
         refine gq Try.func38 (spec_l8None.calls _ _ _ A82.out) fun w86 hb => ?_
         replace HO_8 := am (Kd.R_below (RZ HO_8) hb)
         obtain ⟨BK244, BK245, BK246, BK267, BK270, HB⟩ := bk5 BK244 BK245 BK246 BK267 BK270 HB hb
         clear hb
         refine kk hK ⟨bc BK267 0, bc BK267 1⟩ fun hHeld => ?_
         clear hK K
         refine pure_ (i := 2) (N := some 72) (v := ?_) (a' := ?_) (lb 3 7) rfl rfl (by kernel_rfl) (fun _ _ _ h => h) (Or.inl ⟨by rfl, ?_⟩) ?_ ?_
         rotate_left
         ·exact gz
         rotate_left
         ·exact pz
         refine done_ (by kernel_rfl) ?_
         go_upto_if 72 with (fail)
         go_cut [] (fun wc => ∃ (kq : Nat) (x271000_82 : Bool) (x271001_82 : Int) (x271002_82 : Int), Aside0 (spec_RangeDo.j4 kq a0 y247 x10_60 a2_0 a2_1 x268000_70 x268001_70 x271000_82 x271001_82 x271002_82 = some (r1, r2, r3)) ∧ Aside0 (kq ≤ kj70) ∧ Aside0 (Kd.R (Kd.int .i64) 3 wc w.heap.size (fun _ => True) v248 y247) ∧ Bx2 wc gb244 a1_0 a1_1 24 ∧ Bx2 wc gb245 a2_0 a2_1 24 ∧ Bx2 wc gb246 0 0 24 ∧ Bx2 wc gb267 x268000_70 x268001_70 24 ∧ Aside0 (wc.heap[gb270]? = some (.cells #[.bool x271000_82, .int .i64 x271001_82, .int .i64 x271002_82] 67 (0, 0))) ∧ Aside0 (Below w.heap.size w wc))
         case first =>
          have H := HC83.out
          clear HC83
          by_cases c87 : (!(x268000_70 == t271) || (!(x268001_70 == t272))) = true
          rotate_left
          ·rw [if_neg c87] at H
           have c87b0 : (!(x268000_70 == t271) || (!(x268001_70 == t272))) = false := by simpa using c87
           clear c87
           (first | rw [c87b0] | (simp only [i64_w, i32_w]; rw [c87b0]) | skip)
           have H' := am H
           clear H
           go_wp2
           go_meet
           case rel => exact ⟨_, (false), (0), (0), H', ⟨by have := HJ3.out; have := HJ39.out; have := HJ60.out; have := HJ70.out; first | omega | exact Nat.le_refl _⟩, ⟨by exact RZ HO_8⟩, ⟨Z BK244⟩, ⟨Z BK245⟩, ⟨Z BK246⟩, ⟨Z BK267⟩, ⟨Z BK270⟩, ⟨YA HB⟩⟩
          rw [if_pos c87] at H
          have c87b0 : (!(x268000_70 == t271) || (!(x268001_70 == t272))) = true := c87
          clear c87
          (first | rw [c87b0] | (simp only [i64_w, i32_w]; rw [c87b0]) | skip)
          obtain ⟨⟨t273, t274, t275⟩, A88, H⟩ := bd H
          try dsimp only at H
          have H' := am H
          clear H
          obtain ⟨hnb89,hnc89⟩ := nn NB244_245
          obtain ⟨hnb90,hnc90⟩ := nn NB244_246
          obtain ⟨hnb91,hnc91⟩ := nn NB244_267
          obtain ⟨hnb92,hnc92⟩ := nn NB244_270
          obtain ⟨hcz93_0,hcz93_1,hfz93_0,hfz93_1⟩ := cB2 BK244
          obtain ⟨hnb94,hnc94⟩ := nn NB267_245
          obtain ⟨hnb95,hnc95⟩ := nn NB267_246
          obtain ⟨hnb96,hnc96⟩ := nn NB267_270
          obtain ⟨hcz97_0,hcz97_1,hfz97_0,hfz97_1⟩ := cB2 BK267
          go_wp2_with (first | (have HI270 := am (show IsS67 w _ gb270 false 0 0 from And.intro BK270.out GE270.out); (with_reducible refine gate_callee (f := 42) rfl ?_); refine goesL_ (some 77) rfl rfl Try.func42 (by kernel_rfl) rfl #[.pointer (some ⟨gb270, 0, none⟩), .int .i64 a0, .agg #[.int .i64 a1_0, .int .i64 a1_1], .agg #[.int .i64 x268000_70, .int .i64 x268001_70]] rfl mz ?_; (with_reducible refine (spec_l8R_corners.calls kj70 gb270 false 0 0 a0 a1_0 a1_1 x268000_70 x268001_70 t273 t274 t275 w _ ?side1 ?side2 A88.out).mono ?_); (case side1 => repeat (first | (with_reducible first | exact HI270.out | apply IsS67.alloc | apply IsS67.drewN | apply IsS67.drew | apply IsS67.set_0 | apply IsS67.set_1 | apply IsS67.set_2 | refine IsS67.far ?_ NB270_244.out _ | refine IsS67.far ?_ NB270_245.out _ | refine IsS67.far ?_ NB270_246.out _ | refine IsS67.far ?_ NB270_267.out _) | exact HI270.out)); (case side2 => repeat (first | (with_reducible first | exact HB.out | apply below_alloc | apply pw_below_drewN | apply below_drew1 | refine below_set ?_ (IsS67.ge HI270.out) | refine below_set ?_ GE244.out | refine below_set ?_ GE245.out | refine below_set ?_ GE246.out | refine below_set ?_ GE267.out) | exact HB.out)); rintro e w98 ⟨rfl, hi, hb, hk⟩; refine ⟨_, rfl, ?_⟩; replace HO_8 := am (Kd.R_mono (Kd.R_keep (IsS67.apart (show IsS67 w _ gb270 false 0 0 from by repeat (first | (with_reducible first | exact HI270.out | apply IsS67.alloc | apply IsS67.drewN | apply IsS67.drew | apply IsS67.set_0 | apply IsS67.set_1 | apply IsS67.set_2 | refine IsS67.far ?_ NB270_244.out _ | refine IsS67.far ?_ NB270_245.out _ | refine IsS67.far ?_ NB270_246.out _ | refine IsS67.far ?_ NB270_267.out _) | exact HI270.out)) (RZ HO_8) (by decide)) hk (fun _ h => h.2)) (fun _ h => h.1)); replace BK244 := am (KeepBut.blk hk (g' := gb244) (o := b2 a1_0 a1_1 24) (Z BK244) NB244_270.out (by simp)); replace BK245 := am (KeepBut.blk hk (g' := gb245) (o := b2 a2_0 a2_1 24) (Z BK245) NB245_270.out (by simp)); replace BK246 := am (KeepBut.blk hk (g' := gb246) (o := b2 0 0 24) (Z BK246) NB246_270.out (by simp)); replace BK267 := am (KeepBut.blk hk (g' := gb267) (o := b2 x268000_70 x268001_70 24) (Z BK267) NB267_270.out (by simp)); replace HB := am (hb); replace HI270 := am (hi); (try clear hb); clear BK270; have BK270 := am (HI270.out.1); clear HI270))
          go_meet
          case rel => exact ⟨_, (t273), (t274), (t275), H', ⟨by have := HJ3.out; have := HJ39.out; have := HJ60.out; have := HJ70.out; first | omega | exact Nat.le_refl _⟩, ⟨by exact RZ HO_8⟩, ⟨Z BK244⟩, ⟨Z BK245⟩, ⟨Z BK246⟩, ⟨Z BK267⟩, ⟨Z BK270⟩, ⟨YA HB⟩⟩
         case rest =>
          clear HC83
          obtain ⟨kq, x271000_82, x271001_82, x271002_82, HA, HJ82, HO_8, BK244, BK245, BK246, BK267, BK270, HB⟩ := hcut
          cases kq with
          | zero => exact absurd HA.out (by simp [spec_RangeDo.j4])
          | succ kj82 =>
           have H := HA.out
           clear HA
           simp only [spec_RangeDo.j4] at H
           by_cases c99 : a0 ≥ 11
           ·rw [if_pos c99] at H
            have c99b0 := dT c99
            clear c99
            obtain ⟨⟨t276, t277⟩, A100, H⟩ := bd H
            try dsimp only at H
            simp only [Option.some.injEq, Prod.mk.injEq] at H
            obtain ⟨rfl, rfl, rfl⟩ := H
            try go_wp2
            replace HO_8 := am (Kd.R_drew HO_8.out)
            obtain ⟨BK244, BK245, BK246, BK267, BK270, HB⟩ := dk5 BK244 BK245 BK246 BK267 BK270 HB
            refine start_ (n := 12) (S := fun w' => w'.cell? ⟨gb270, 0, none⟩ = some (.bool x271000_82) ∧ w'.cell? ⟨gb270, 1, none⟩ = some (.int .i64 x271001_82) ∧ w'.cell? ⟨gb270, 2, none⟩ = some (.int .i64 x271002_82)) (ds := []) (lb 12 0) (by kernel_rfl) rfl rfl ⟨bc BK270 0, bc BK270 1, bc BK270 2⟩ (fun hHeld => ?_); refine with_tabW spec_RangeDo.tab16 spec_RangeDo.bits16 (fun HT_ HW_ => ?_)
            generalize wc.drew = w101 at HO_8 BK244 BK245 BK246 BK267 BK270 HB hHeld ⊢
            refine pk 0 80 1 ?_
            refine pk 1 81 3 ?_
            refine pk 2 82 7 ?_
            refine pk 4 84 23 ?_
            refine pk 5 85 55 ?_
            refine pk 6 86 119 ?_
            refine pk 9 89 631 ?_
            refine tk 3 83 639 hHeld ?_
            refine tk 7 87 767 hHeld ?_
            refine on 8 (some 88) 1023 fun K hK => ?_
            refine gq Try.func43 (spec_l8Wrapped.calls _ _ _ _ _ _ A100.out) fun w102 hb => ?_
            replace HO_8 := am (Kd.R_below (RZ HO_8) hb)
            obtain ⟨BK244, BK245, BK246, BK267, BK270, HB⟩ := bk5 BK244 BK245 BK246 BK267 BK270 HB hb
            clear hb
            refine kk hK ⟨bc BK270 0, bc BK270 1, bc BK270 2⟩ fun hHeld => ?_
            clear hK K
            refine on 10 none 2047 fun K hK => ?_
            have hs103 : w102.cell? ⟨gb246, 0, none⟩ = some (.int .i64 0) := bc BK246 0
            have hfs103 := blk_frozen BK246.out 0
            have hns103_0 := NB244_246.out
            have hns103_1 := NB245_246.out
            have hns103_3 := NB267_246.out
            have hns103_4 := NB270_246.out
            have hms103_0 := NB246_244.out
            have hms103_1 := NB246_245.out
            have hms103_3 := NB246_267.out
            have hms103_4 := NB246_270.out
            have hs104 : w102.cell? ⟨gb246, 1, none⟩ = some (.int .i64 0) := bc BK246 1
            have hfs104 := blk_frozen BK246.out 1
            have hns104_0 := NB244_246.out
            have hns104_1 := NB245_246.out
            have hns104_3 := NB267_246.out
            have hns104_4 := NB270_246.out
            have hms104_0 := NB246_244.out
            have hms104_1 := NB246_245.out
            have hms104_3 := NB246_267.out
            have hms104_4 := NB246_270.out
            refine skip_ (w1 := ?_) (by rfl) rfl ?_ ?_
            rotate_left
            ·go_simp
             rfl
            refine hK.out _ _ ⟨((cell_far (p := ⟨gb246, _, none⟩) NB270_246.out _).trans (((cell_far (p := ⟨gb246, _, none⟩) NB270_246.out _).trans (hHeld.1)))), ((cell_far (p := ⟨gb246, _, none⟩) NB270_246.out _).trans (((cell_far (p := ⟨gb246, _, none⟩) NB270_246.out _).trans (hHeld.2.1)))), ((cell_far (p := ⟨gb246, _, none⟩) NB270_246.out _).trans (((cell_far (p := ⟨gb246, _, none⟩) NB270_246.out _).trans (hHeld.2.2))))⟩ (fun hHeld => ?_)
            clear hK K
            refine pk 11 7 4095 ?_
            refine done_ (done_of HT_.out (by kernel_rfl)) ?_
            try go_wp2
            refine bodyPost_ret (results_ct rfl _ _ gb246 24 #[.int .i64 t276, .int .i64 t277] (0, 0) _ rfl (by refine pf ?_; refine blk_put (cs := #[.int .i64 t276, .int .i64 0]) ?_ 1 _ rfl; refine pf ?_; refine blk_put (cs := #[.int .i64 0, .int .i64 0]) ?_ 0 _ rfl; exact Z BK246) Try.underlying24 rfl (by kernel_rfl)) rfl ?_
            exact ⟨_, ez, by (with_reducible repeat (first | apply Kd.R_alloc | apply Kd.R_drewN | apply Kd.R_drew)); exact Kd.R_mono (Kd.R_far (p := ⟨gb246, 1, none⟩) (Kd.R_far (p := ⟨gb246, 0, none⟩) (Kd.R_types HO_8.out BK246.out (by decide)) (fun _ hk => hk.2) (.int .i64 t276)) (fun _ hk => hk.2) (.int .i64 t277)) (fun _ hk => trivial), YA HB⟩
           rw [if_neg c99] at H
           have c99b0 := dF c99
           clear c99
           have HC105 := am H
           clear H
           go_upto_region 17 with (fail)
           go_cut [107] (fun v107 wc => ∃ (kq : Nat) (x107_104 : Bool), v107 = .bool x107_104 ∧ Aside0 (spec_RangeDo.j5 kq y247 x10_60 x107_104 a2_0 a2_1 x268000_70 x268001_70 x271000_82 x271001_82 x271002_82 = some (r1, r2, r3)) ∧ Aside0 (kq ≤ kj82) ∧ Aside0 (Kd.R (Kd.int .i64) 3 wc w.heap.size (fun _ => True) v248 y247) ∧ Bx2 wc gb244 a1_0 a1_1 24 ∧ Bx2 wc gb245 a2_0 a2_1 24 ∧ Bx2 wc gb246 0 0 24 ∧ Bx2 wc gb267 x268000_70 x268001_70 24 ∧ Aside0 (wc.heap[gb270]? = some (.cells #[.bool x271000_82, .int .i64 x271001_82, .int .i64 x271002_82] 67 (0, 0))) ∧ Aside0 (Below w.heap.size w wc))
           case first =>
            have H := HC105.out
            clear HC105
            by_cases c106 : x271000_82 = true
            rotate_left
            ·replace c106 := Bool.eq_false_iff.mpr c106
             subst c106
             rw [if_neg ff] at H
             have H' := am H
             clear H
             obtain ⟨hnb118,hnc118⟩ := nn NB270_244
             obtain ⟨hnb119,hnc119⟩ := nn NB270_245
             obtain ⟨hnb120,hnc120⟩ := nn NB270_246
             obtain ⟨hnb121,hnc121⟩ := nn NB270_267
             obtain ⟨hcz122_0,hcz122_1,hcz122_2,hfz122_0,hfz122_1,hfz122_2⟩ := cB3 BK270
             go_wp2
             go_meet
             case rel => exact ⟨_, (false), ey, H', ⟨by have := HJ3.out; have := HJ39.out; have := HJ60.out; have := HJ70.out; have := HJ82.out; first | omega | exact Nat.le_refl _⟩, ⟨by exact RZ HO_8⟩, ⟨Z BK244⟩, ⟨Z BK245⟩, ⟨Z BK246⟩, ⟨Z BK267⟩, ⟨Z BK270⟩, ⟨YA HB⟩⟩
            subst c106
            rw [if_pos rfl] at H
            by_cases c107 : x271001_82 < (-2147483648)
            ·rw [if_pos c107] at H
             have c107b0 := dT c107
             clear c107
             (first | rw [c107b0] | (simp only [i64_w, i32_w]; rw [c107b0]) | skip)
             have H' := am H
             clear H
             obtain ⟨hnb108,hnc108⟩ := nn NB270_244
             obtain ⟨hnb109,hnc109⟩ := nn NB270_245
             obtain ⟨hnb110,hnc110⟩ := nn NB270_246
             obtain ⟨hnb111,hnc111⟩ := nn NB270_267
             obtain ⟨hcz112_0,hcz112_1,hcz112_2,hfz112_0,hfz112_1,hfz112_2⟩ := cB3 BK270
             go_wp2
             go_meet
             case rel => exact ⟨_, (true), ey, H', ⟨by have := HJ3.out; have := HJ39.out; have := HJ60.out; have := HJ70.out; have := HJ82.out; first | omega | exact Nat.le_refl _⟩, ⟨by exact RZ HO_8⟩, ⟨Z BK244⟩, ⟨Z BK245⟩, ⟨Z BK246⟩, ⟨Z BK267⟩, ⟨Z BK270⟩, ⟨YA HB⟩⟩
            rw [if_neg c107] at H
            have c107b0 := dF c107
            clear c107
            (first | rw [c107b0] | (simp only [i64_w, i32_w]; rw [c107b0]) | skip)
            have H' := am H
            clear H
            obtain ⟨hnb113,hnc113⟩ := nn NB270_244
            obtain ⟨hnb114,hnc114⟩ := nn NB270_245
            obtain ⟨hnb115,hnc115⟩ := nn NB270_246
            obtain ⟨hnb116,hnc116⟩ := nn NB270_267
            obtain ⟨hcz117_0,hcz117_1,hcz117_2,hfz117_0,hfz117_1,hfz117_2⟩ := cB3 BK270
            go_wp2
            go_meet
            case rel => exact ⟨_, (decide (x271002_82 > 2147483647)), ey, H', ⟨by have := HJ3.out; have := HJ39.out; have := HJ60.out; have := HJ70.out; have := HJ82.out; first | omega | exact Nat.le_refl _⟩, ⟨by exact RZ HO_8⟩, ⟨Z BK244⟩, ⟨Z BK245⟩, ⟨Z BK246⟩, ⟨Z BK267⟩, ⟨Z BK270⟩, ⟨YA HB⟩⟩
           case rest =>
            clear HC105
            try clear c99b0
            obtain ⟨kq, x107_104, rfl, HA, HJ104, HO_8, BK244, BK245, BK246, BK267, BK270, HB⟩ := hcut
            cases kq with
            | zero => exact absurd HA.out (by simp [spec_RangeDo.j5])
            | succ kj104 =>
             have H := HA.out
             clear HA
             simp only [spec_RangeDo.j5] at H
             have HC123 := am H
             clear H
             go_upto_if 107 with (fail)
             go_cut [8] (fun v8 wc => ∃ (kq : Nat) (x8_122 : List Int), Aside0 (spec_RangeDo.j6 kq x8_122 x10_60 a2_0 a2_1 x268000_70 x268001_70 x271000_82 x271001_82 x271002_82 = some (r1, r2, r3)) ∧ Aside0 (kq ≤ kj104) ∧ Aside0 (Kd.R (Kd.int .i64) 3 wc w.heap.size (fun _ => True) v8 x8_122) ∧ Bx2 wc gb244 a1_0 a1_1 24 ∧ Bx2 wc gb245 a2_0 a2_1 24 ∧ Bx2 wc gb246 0 0 24 ∧ Bx2 wc gb267 x268000_70 x268001_70 24 ∧ Aside0 (wc.heap[gb270]? = some (.cells #[.bool x271000_82, .int .i64 x271001_82, .int .i64 x271002_82] 67 (0, 0))) ∧ Aside0 (Below w.heap.size w wc))
             case first =>
              have H := HC123.out
              clear HC123
              by_cases c124 : x107_104 = true
              rotate_left
              ·replace c124 := Bool.eq_false_iff.mpr c124
               subst c124
               rw [if_neg ff] at H
               have H' := am H
               clear H
               go_wp2
               go_meet
               case rel => exact ⟨_, (y247), H', ⟨by have := HJ3.out; have := HJ39.out; have := HJ60.out; have := HJ70.out; have := HJ82.out; have := HJ104.out; first | omega | exact Nat.le_refl _⟩, ⟨by exact RZ HO_8⟩, ⟨Z BK244⟩, ⟨Z BK245⟩, ⟨Z BK246⟩, ⟨Z BK267⟩, ⟨Z BK270⟩, ⟨YA HB⟩⟩
              subst c124
              rw [if_pos rfl] at H
              by_cases c125 : y247.length < 17592186044416
              rotate_left
              ·rw [if_neg c125] at H
               exact absurd H (by simp)
              rw [if_pos c125] at H
              have LMc125 := am c125
              clear c125
              obtain ⟨y278, hy278⟩ : ∃ y_ : List Int, y_ = (y247 ++ [1]) := ⟨_, rfl⟩
              replace H : (spec_RangeDo.j6 kj104 y278 x10_60 a2_0 a2_1 x268000_70 x268001_70 x271000_82 x271001_82 x271002_82) = some (r1, r2, r3) := by first | (rw [hy278]; with_reducible exact H) | (have H2_ := (Option.bind_some _ _).symm.trans H; rw [hy278]; with_reducible exact H2_) | (have H2_ := (Option.bind_some _ _).symm.trans H; with_reducible exact H2_) | with_reducible exact H | (rw [hy278]; exact H) | exact H
              have Ny278 := am hy278
              clear hy278
              have H' := am H
              clear H
              go_wp2_with (first | ((with_reducible refine gate_builtin (b := .append) (xs := #[.tmp 108, .tmp 109]) rfl ?_); at_builtin; refine Kd.R_append (Kd.int .i64) (w0 := w) w.heap.size rfl (.tmp 108) (.tmp 109) 25 3 (.int .i64 0) 8 rfl Try.underlying25 info3 rfl (by decide) (by omega) v248 y247 1 [.int .i64 1] (fun _ => True) (fun _ => False) rfl rfl ?aP (fun _ hk => hk.elim) ?aF ?aO ?aB ?aS ?aL ?_; (case aP => exact rfl); (case aB => exact (YA HB)); (case aF => exact (fun _ _ => trivial)); (case aO => exact (RZ HO_8)); (case aS => exact (below_size (YA HB))); (case aL => have := LMc125.out; omega); intro v279 w126 ho hb hg hat; rw [← Ny278.out] at ho; have HO280 := am (ho); replace BK244 := am (blk_grown (g := gb244) (o := b2 a1_0 a1_1 24) (Z BK244) hg (Kd.R_ne HO_8.out BK244.out (by decide))); replace BK245 := am (blk_grown (g := gb245) (o := b2 a2_0 a2_1 24) (Z BK245) hg (Kd.R_ne HO_8.out BK245.out (by decide))); replace BK246 := am (blk_grown (g := gb246) (o := b2 0 0 24) (Z BK246) hg (Kd.R_ne HO_8.out BK246.out (by decide))); replace BK267 := am (blk_grown (g := gb267) (o := b2 x268000_70 x268001_70 24) (Z BK267) hg (Kd.R_ne HO_8.out BK267.out (by decide))); replace BK270 := am (blk_grown (g := gb270) (o := .cells #[.bool x271000_82, .int .i64 x271001_82, .int .i64 x271002_82] 67 (0, 0)) (Z BK270) hg (Kd.R_ne HO_8.out BK270.out (by decide))); replace HB := am (hb); clear HO_8; clear ho hb hg hat))
              go_meet
              case rel => exact ⟨_, (y278), H', ⟨by have := HJ3.out; have := HJ39.out; have := HJ60.out; have := HJ70.out; have := HJ82.out; have := HJ104.out; first | omega | exact Nat.le_refl _⟩, ⟨by exact RZ HO280⟩, ⟨Z BK244⟩, ⟨Z BK245⟩, ⟨Z BK246⟩, ⟨Z BK267⟩, ⟨Z BK270⟩, ⟨YA HB⟩⟩
             case rest =>
              clear HC123
              obtain ⟨kq, x8_122, HA, HJ122, HO_8, BK244, BK245, BK246, BK267, BK270, HB⟩ := hcut
              cases kq with
              | zero => exact absurd HA.out (by simp [spec_RangeDo.j6])
              | succ kj122 =>
               have H := HA.out
               clear HA
               simp only [spec_RangeDo.j6] at H
               have HC127 := am H
               clear H
               go_upto_region 19 with (fail)
               go_cut [116] (fun v116 wc => ∃ (kq : Nat) (x116_126 : Bool), v116 = .bool x116_126 ∧ Aside0 (spec_RangeDo.j7 kq x8_122 x116_126 x271000_82 x271001_82 x271002_82 = some (r1, r2, r3)) ∧ Aside0 (kq ≤ kj122) ∧ Aside0 (Kd.R (Kd.int .i64) 3 wc w.heap.size (fun _ => True) u8 x8_122) ∧ Bx2 wc gb244 a1_0 a1_1 24 ∧ Bx2 wc gb245 a2_0 a2_1 24 ∧ Bx2 wc gb246 0 0 24 ∧ Bx2 wc gb267 x268000_70 x268001_70 24 ∧ Aside0 (wc.heap[gb270]? = some (.cells #[.bool x271000_82, .int .i64 x271001_82, .int .i64 x271002_82] 67 (0, 0))) ∧ Aside0 (Below w.heap.size w wc))
               case first =>
                have H := HC127.out
                clear HC127
                by_cases c128 : x10_60 = true
                rotate_left
                ·replace c128 := Bool.eq_false_iff.mpr c128
                 subst c128
                 rw [if_neg ff] at H
                 have H' := am H
                 clear H
                 go_wp2
                 go_meet
                 case rel => exact ⟨_, (false), ey, H', ⟨by have := HJ3.out; have := HJ39.out; have := HJ60.out; have := HJ70.out; have := HJ82.out; have := HJ104.out; have := HJ122.out; first | omega | exact Nat.le_refl _⟩, ⟨by exact RZ HO_8⟩, ⟨Z BK244⟩, ⟨Z BK245⟩, ⟨Z BK246⟩, ⟨Z BK267⟩, ⟨Z BK270⟩, ⟨YA HB⟩⟩
                subst c128
                rw [if_pos rfl] at H
                have H' := am H
                clear H
                obtain ⟨hnb129,hnc129⟩ := nn NB267_244
                obtain ⟨hnb130,hnc130⟩ := nn NB267_245
                obtain ⟨hnb131,hnc131⟩ := nn NB267_246
                obtain ⟨hnb132,hnc132⟩ := nn NB267_270
                obtain ⟨hcz133_0,hcz133_1,hfz133_0,hfz133_1⟩ := cB2 BK267
                obtain ⟨hnb134,hnc134⟩ := nn NB245_244
                obtain ⟨hnb135,hnc135⟩ := nn NB245_246
                obtain ⟨hnb136,hnc136⟩ := nn NB245_270
                obtain ⟨hcz137_0,hcz137_1,hfz137_0,hfz137_1⟩ := cB2 BK245
                go_wp2
                go_meet
                case rel => exact ⟨_, ((!(x268000_70 == a2_0) || (!(x268001_70 == a2_1)))), ey, H', ⟨by have := HJ3.out; have := HJ39.out; have := HJ60.out; have := HJ70.out; have := HJ82.out; have := HJ104.out; have := HJ122.out; first | omega | exact Nat.le_refl _⟩, ⟨by exact RZ HO_8⟩, ⟨Z BK244⟩, ⟨Z BK245⟩, ⟨Z BK246⟩, ⟨Z BK267⟩, ⟨Z BK270⟩, ⟨YA HB⟩⟩
               case rest =>
                clear HC127
                obtain ⟨kq, x116_126, rfl, HA, HJ126, HO_8, BK244, BK245, BK246, BK267, BK270, HB⟩ := hcut
                cases kq with
                | zero => exact absurd HA.out (by simp [spec_RangeDo.j7])
                | succ kj126 =>
                 have H := HA.out
                 clear HA
                 simp only [spec_RangeDo.j7] at H
                 have HC138 := am H
                 clear H
                 go_upto_if 116 with (fail)
                 go_cut [8] (fun v8 wc => ∃ (kq : Nat) (x8_137 : List Int), Aside0 (spec_RangeDo.j8 kq x8_137 x271000_82 x271001_82 x271002_82 = some (r1, r2, r3)) ∧ Aside0 (kq ≤ kj126) ∧ Aside0 (Kd.R (Kd.int .i64) 3 wc w.heap.size (fun _ => True) v8 x8_137) ∧ Bx2 wc gb244 a1_0 a1_1 24 ∧ Bx2 wc gb245 a2_0 a2_1 24 ∧ Bx2 wc gb246 0 0 24 ∧ Bx2 wc gb267 x268000_70 x268001_70 24 ∧ Aside0 (wc.heap[gb270]? = some (.cells #[.bool x271000_82, .int .i64 x271001_82, .int .i64 x271002_82] 67 (0, 0))) ∧ Aside0 (Below w.heap.size w wc))
                 case first =>
                  have H := HC138.out
                  clear HC138
                  by_cases c139 : x116_126 = true
                  rotate_left
                  ·replace c139 := Bool.eq_false_iff.mpr c139
                   subst c139
                   rw [if_neg ff] at H
                   have H' := am H
                   clear H
                   go_wp2
                   go_meet
                   case rel => exact ⟨_, (x8_122), H', ⟨by have := HJ3.out; have := HJ39.out; have := HJ60.out; have := HJ70.out; have := HJ82.out; have := HJ104.out; have := HJ122.out; have := HJ126.out; first | omega | exact Nat.le_refl _⟩, ⟨by exact RZ HO_8⟩, ⟨Z BK244⟩, ⟨Z BK245⟩, ⟨Z BK246⟩, ⟨Z BK267⟩, ⟨Z BK270⟩, ⟨YA HB⟩⟩
                  subst c139
                  rw [if_pos rfl] at H
                  by_cases c140 : x8_122.length < 17592186044416
                  rotate_left
                  ·rw [if_neg c140] at H
                   exact absurd H (by simp)
                  rw [if_pos c140] at H
                  have LMc140 := am c140
                  clear c140
                  obtain ⟨y281, hy281⟩ : ∃ y_ : List Int, y_ = (x8_122 ++ [3]) := ⟨_, rfl⟩
                  replace H : (spec_RangeDo.j8 kj126 y281 x271000_82 x271001_82 x271002_82) = some (r1, r2, r3) := by first | (rw [hy281]; with_reducible exact H) | (have H2_ := (Option.bind_some _ _).symm.trans H; rw [hy281]; with_reducible exact H2_) | (have H2_ := (Option.bind_some _ _).symm.trans H; with_reducible exact H2_) | with_reducible exact H | (rw [hy281]; exact H) | exact H
                  have Ny281 := am hy281
                  clear hy281
                  have H' := am H
                  clear H
                  go_wp2_with (first | ((with_reducible refine gate_builtin (b := .append) (xs := #[.tmp 117, .tmp 118]) rfl ?_); at_builtin; refine Kd.R_append (Kd.int .i64) (w0 := w) w.heap.size rfl (.tmp 117) (.tmp 118) 25 3 (.int .i64 0) 8 rfl Try.underlying25 info3 rfl (by decide) (by omega) u8 x8_122 3 [.int .i64 3] (fun _ => True) (fun _ => False) rfl rfl ?aP (fun _ hk => hk.elim) ?aF ?aO ?aB ?aS ?aL ?_; (case aP => exact rfl); (case aB => exact (YA HB)); (case aF => exact (fun _ _ => trivial)); (case aO => exact (RZ HO_8)); (case aS => exact (below_size (YA HB))); (case aL => have := LMc140.out; omega); intro v282 w141 ho hb hg hat; rw [← Ny281.out] at ho; have HO283 := am (ho); replace BK244 := am (blk_grown (g := gb244) (o := b2 a1_0 a1_1 24) (Z BK244) hg (Kd.R_ne HO_8.out BK244.out (by decide))); replace BK245 := am (blk_grown (g := gb245) (o := b2 a2_0 a2_1 24) (Z BK245) hg (Kd.R_ne HO_8.out BK245.out (by decide))); replace BK246 := am (blk_grown (g := gb246) (o := b2 0 0 24) (Z BK246) hg (Kd.R_ne HO_8.out BK246.out (by decide))); replace BK267 := am (blk_grown (g := gb267) (o := b2 x268000_70 x268001_70 24) (Z BK267) hg (Kd.R_ne HO_8.out BK267.out (by decide))); replace BK270 := am (blk_grown (g := gb270) (o := .cells #[.bool x271000_82, .int .i64 x271001_82, .int .i64 x271002_82] 67 (0, 0)) (Z BK270) hg (Kd.R_ne HO_8.out BK270.out (by decide))); replace HB := am (hb); clear HO_8; clear ho hb hg hat))
                  go_meet
                  case rel => exact ⟨_, (y281), H', ⟨by have := HJ3.out; have := HJ39.out; have := HJ60.out; have := HJ70.out; have := HJ82.out; have := HJ104.out; have := HJ122.out; have := HJ126.out; first | omega | exact Nat.le_refl _⟩, ⟨by exact RZ HO283⟩, ⟨Z BK244⟩, ⟨Z BK245⟩, ⟨Z BK246⟩, ⟨Z BK267⟩, ⟨Z BK270⟩, ⟨YA HB⟩⟩
                 case rest =>
                  clear HC138
                  obtain ⟨kq, x8_137, HA, HJ137, HO_8, BK244, BK245, BK246, BK267, BK270, HB⟩ := hcut
                  cases kq with
                  | zero => exact absurd HA.out (by simp [spec_RangeDo.j8])
                  | succ kj137 =>
                   have H := HA.out
                   clear HA
                   simp only [spec_RangeDo.j8] at H
                   by_cases c142 : x271000_82 = true
                   rotate_left
                   ·replace c142 := Bool.eq_false_iff.mpr c142
                    subst c142
                    rw [if_neg ff] at H
                    obtain ⟨⟨t286, t287⟩, A153, H⟩ := bd H
                    try dsimp only at H
                    simp only [Option.some.injEq, Prod.mk.injEq] at H
                    obtain ⟨rfl, rfl, rfl⟩ := H
                    obtain ⟨hnb154,hnc154⟩ := nn NB270_244
                    obtain ⟨hnb155,hnc155⟩ := nn NB270_245
                    obtain ⟨hnb156,hnc156⟩ := nn NB270_246
                    obtain ⟨hnb157,hnc157⟩ := nn NB270_267
                    obtain ⟨hcz158_0,hcz158_1,hcz158_2,hfz158_0,hfz158_1,hfz158_2⟩ := cB3 BK270
                    go_wp2_with (first | ((with_reducible refine gate_callee (f := 38) rfl ?_); refine gL 125 Try.func38 (spec_l8None.calls _ _ _ A153.out) fun w159 hb => ?_; replace HO_8 := am (Kd.R_below (RZ HO_8) hb); obtain ⟨BK244, BK245, BK246, BK267, BK270, HB⟩ := bk5 BK244 BK245 BK246 BK267 BK270 HB hb; (try clear hb); obtain ⟨hnb160,hnc160⟩ := nn NB246_244; obtain ⟨hnb161,hnc161⟩ := nn NB246_245; obtain ⟨hnb162,hnc162⟩ := nn NB246_267; obtain ⟨hcz163_0,hcz163_1,hfz163_0,hfz163_1⟩ := cB2 BK246))
                    refine bodyPost_ret (results_ct rfl _ _ gb246 24 #[.int .i64 t286, .int .i64 t287] (0, 0) _ rfl (by refine pf ?_; refine blk_put (cs := #[.int .i64 t286, .int .i64 0]) ?_ 1 _ rfl; refine pf ?_; refine blk_put (cs := #[.int .i64 0, .int .i64 0]) ?_ 0 _ rfl; exact Z BK246) Try.underlying24 rfl (by kernel_rfl)) rfl ?_
                    exact ⟨_, ez, by (with_reducible repeat (first | apply Kd.R_alloc | apply Kd.R_drewN | apply Kd.R_drew)); exact Kd.R_mono (Kd.R_far (p := ⟨gb246, 1, none⟩) (Kd.R_far (p := ⟨gb246, 0, none⟩) (Kd.R_types HO_8.out BK246.out (by decide)) (fun _ hk => hk.2) (.int .i64 t286)) (fun _ hk => hk.2) (.int .i64 t287)) (fun _ hk => trivial), YA HB⟩
                   subst c142
                   rw [if_pos rfl] at H
                   obtain ⟨⟨t284, t285⟩, A143, H⟩ := bd H
                   try dsimp only at H
                   simp only [Option.some.injEq, Prod.mk.injEq] at H
                   obtain ⟨rfl, rfl, rfl⟩ := H
                   obtain ⟨hnb144,hnc144⟩ := nn NB270_244
                   obtain ⟨hnb145,hnc145⟩ := nn NB270_245
                   obtain ⟨hnb146,hnc146⟩ := nn NB270_246
                   obtain ⟨hnb147,hnc147⟩ := nn NB270_267
                   obtain ⟨hcz148_0,hcz148_1,hcz148_2,hfz148_0,hfz148_1,hfz148_2⟩ := cB3 BK270
                   try go_wp2
                   replace HO_8 := am (Kd.R_drew HO_8.out)
                   obtain ⟨BK244, BK245, BK246, BK267, BK270, HB⟩ := dk5 BK244 BK245 BK246 BK267 BK270 HB
                   refine start_ (n := 12) (S := fun w' => w'.cell? ⟨gb270, 0, none⟩ = some (.bool true) ∧ w'.cell? ⟨gb270, 1, none⟩ = some (.int .i64 x271001_82) ∧ w'.cell? ⟨gb270, 2, none⟩ = some (.int .i64 x271002_82)) (ds := []) (lb 12 0) (by kernel_rfl) rfl rfl ⟨bc BK270 0, bc BK270 1, bc BK270 2⟩ (fun hHeld => ?_); refine with_tabW spec_RangeDo.tab23 spec_RangeDo.bits23 (fun HT_ HW_ => ?_)
                   generalize wc.drew = w149 at HO_8 BK244 BK245 BK246 BK267 BK270 HB hHeld ⊢
                   refine pk 0 127 1 ?_
                   refine pk 1 128 3 ?_
                   refine pk 2 129 7 ?_
                   refine pk 4 131 23 ?_
                   refine pk 5 132 55 ?_
                   refine pk 6 133 119 ?_
                   refine pk 9 136 631 ?_
                   refine tk 3 130 639 hHeld ?_
                   refine tk 7 134 767 hHeld ?_
                   refine on 8 (some 135) 1023 fun K hK => ?_
                   refine gq Try.func44 (spec_l8Cut.calls _ _ _ _ _ A143.out) fun w150 hb => ?_
                   replace HO_8 := am (Kd.R_below (RZ HO_8) hb)
                   obtain ⟨BK244, BK245, BK246, BK267, BK270, HB⟩ := bk5 BK244 BK245 BK246 BK267 BK270 HB hb
                   clear hb
                   refine kk hK ⟨bc BK270 0, bc BK270 1, bc BK270 2⟩ fun hHeld => ?_
                   clear hK K
                   refine on 10 none 2047 fun K hK => ?_
                   have hs151 : w150.cell? ⟨gb246, 0, none⟩ = some (.int .i64 0) := bc BK246 0
                   have hfs151 := blk_frozen BK246.out 0
                   have hns151_0 := NB244_246.out
                   have hns151_1 := NB245_246.out
                   have hns151_3 := NB267_246.out
                   have hns151_4 := NB270_246.out
                   have hms151_0 := NB246_244.out
                   have hms151_1 := NB246_245.out
                   have hms151_3 := NB246_267.out
                   have hms151_4 := NB246_270.out
                   have hs152 : w150.cell? ⟨gb246, 1, none⟩ = some (.int .i64 0) := bc BK246 1
                   have hfs152 := blk_frozen BK246.out 1
                   have hns152_0 := NB244_246.out
                   have hns152_1 := NB245_246.out
                   have hns152_3 := NB267_246.out
                   have hns152_4 := NB270_246.out
                   have hms152_0 := NB246_244.out
                   have hms152_1 := NB246_245.out
                   have hms152_3 := NB246_267.out
                   have hms152_4 := NB246_270.out
                   refine skip_ (w1 := ?_) (by rfl) rfl ?_ ?_
                   rotate_left
                   ·go_simp
                    rfl
                   refine hK.out _ _ ⟨((cell_far (p := ⟨gb246, _, none⟩) NB270_246.out _).trans (((cell_far (p := ⟨gb246, _, none⟩) NB270_246.out _).trans (hHeld.1)))), ((cell_far (p := ⟨gb246, _, none⟩) NB270_246.out _).trans (((cell_far (p := ⟨gb246, _, none⟩) NB270_246.out _).trans (hHeld.2.1)))), ((cell_far (p := ⟨gb246, _, none⟩) NB270_246.out _).trans (((cell_far (p := ⟨gb246, _, none⟩) NB270_246.out _).trans (hHeld.2.2))))⟩ (fun hHeld => ?_)
                   clear hK K
                   refine pk 11 7 4095 ?_
                   refine done_ (done_of HT_.out (by kernel_rfl)) ?_
                   try go_wp2
                   refine bodyPost_ret (results_ct rfl _ _ gb246 24 #[.int .i64 t284, .int .i64 t285] (0, 0) _ rfl (by refine pf ?_; refine blk_put (cs := #[.int .i64 t284, .int .i64 0]) ?_ 1 _ rfl; refine pf ?_; refine blk_put (cs := #[.int .i64 0, .int .i64 0]) ?_ 0 _ rfl; exact Z BK246) Try.underlying24 rfl (by kernel_rfl)) rfl ?_
                   exact ⟨_, ez, by (with_reducible repeat (first | apply Kd.R_alloc | apply Kd.R_drewN | apply Kd.R_drew)); exact Kd.R_mono (Kd.R_far (p := ⟨gb246, 1, none⟩) (Kd.R_far (p := ⟨gb246, 0, none⟩) (Kd.R_types HO_8.out BK246.out (by decide)) (fun _ hk => hk.2) (.int .i64 t284)) (fun _ hk => hk.2) (.int .i64 t285)) (fun _ hk => trivial), YA HB⟩

end Go.Proofs.Ythbkakcchgnhpaa.PFnRangeFaults
