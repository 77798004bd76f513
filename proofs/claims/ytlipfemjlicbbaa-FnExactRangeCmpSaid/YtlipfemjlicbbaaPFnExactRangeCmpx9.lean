/- Written by this session's own driver (wip/dprint.py): the functions that the law FnExactRangeCmp reaches, as Lean functions, each with its contract. -/
import Derived.Test.YtlipfemjlicbbaaPFnExactRangeCmpx0
import Derived.Test.YtlipfemjlicbbaaPFnExactRangeCmpx7
import Derived.Test.YtlipfemjlicbbaaPFnExactRangeCmpx8
import Derived.Test.YtlipfemjlicbbaaSv
namespace Go.Proofs.Ytlipfemjlicbbaa.PFnExactRangeCmp
open Go.RowKit Go.Proofs.YtlipfemjlicbbaaV.PrintWords Go.Proofs.YtlipfemjlicbbaaV.PrintLast Go.Proofs.YtlipfemjlicbbaaV.PrintMore Go.Proofs.YtlipfemjlicbbaaSv
attribute [local go_sem] max2_int min2_int max_two min_two max_three min_three max_four min_four   -- for this text's walks alone
set_option linter.unusedVariables false
set_option linter.unusedSimpArgs false

/-! ### impl_RangeCmp: function 26 -/
mutual
def impl_RangeCmp.j0 : Nat → Int → Bool → Int → Int → Int → Int → Option (Int × Int × Int × Int)
 | 0, _, _, _, _, _, _ => none
 | k + 1, x0, x25, x220000, x220001, x221000, x221001 => if x25 = true then ((impl_rangeNone.f).bind fun bt227 => ((impl_rangeNone.f).bind fun bt229 => (some (bt227.1, bt227.2, bt229.1, bt229.2)))) else (if x0 = 1 then ((impl_RangeMeet.f k x220000 x220001 x221000 x221001).bind fun bt233 => (impl_RangeCmp.j2 k bt233.1 bt233.2 bt233.1 bt233.2)) else (if x0 = 2 then ((impl_rangeWithout.f k x220000 x220001 x221000 x221001).bind fun bt235 => ((impl_rangeWithout.f k x221000 x221001 x220000 x220001).bind fun bt237 => (impl_RangeCmp.j2 k bt235.1 bt235.2 bt237.1 bt237.2))) else (if x0 = 3 then ((impl_rangeFrom.f x220000 (mn x220001 (wrap64 (x221001 - 1)))).bind fun bt239 => ((impl_rangeFrom.f (mx x221000 (wrap64 (x220000 + 1))) x221001).bind fun bt241 => (impl_RangeCmp.j2 k bt239.1 bt239.2 bt241.1 bt241.2))) else (if x0 = 4 then ((impl_rangeFrom.f x220000 (mn x220001 x221001)).bind fun bt243 => ((impl_rangeFrom.f (mx x221000 x220000) x221001).bind fun bt245 => (impl_RangeCmp.j2 k bt243.1 bt243.2 bt245.1 bt245.2))) else (if x0 = 5 then (impl_RangeCmp.j1 k x0 (x0 == 5) x220000 x220001 x221000 x221001) else (impl_RangeCmp.j1 k x0 (x0 == 6) x220000 x220001 x221000 x221001))))))
def impl_RangeCmp.j2 : Nat → Int → Int → Int → Int → Option (Int × Int × Int × Int)
 | 0, _, _, _, _ => none
 | k + 1, x232000, x232001, x233000, x233001 => (impl_Range_empty.f x232000 x232001).bind fun t256 => (if t256 = true then (impl_RangeCmp.j3 k true x232000 x232001 x233000 x233001) else ((impl_Range_empty.f x233000 x233001).bind fun t257 => (impl_RangeCmp.j3 k t257 x232000 x232001 x233000 x233001)))
def impl_RangeCmp.j3 : Nat → Bool → Int → Int → Int → Int → Option (Int × Int × Int × Int)
 | 0, _, _, _, _, _ => none
 | k + 1, x99, x232000, x232001, x233000, x233001 => if x99 = true then ((impl_rangeNone.f).bind fun bt258 => ((impl_rangeNone.f).bind fun bt260 => (some (bt258.1, bt258.2, bt260.1, bt260.2)))) else (some (x232000, x232001, x233000, x233001))
def impl_RangeCmp.j1 : Nat → Int → Bool → Int → Int → Int → Int → Option (Int × Int × Int × Int)
 | 0, _, _, _, _, _, _ => none
 | k + 1, x0, x83, x220000, x220001, x221000, x221001 => if x83 = true then ((impl_CmpTurn.f k x0).bind fun t247 => ((impl_RangeCmp.f k t247 x221000 x221001 x220000 x220001).bind fun bt248 => (impl_RangeCmp.j2 k bt248.2.2.1 bt248.2.2.2 bt248.1 bt248.2.1))) else ((impl_rangeNone.f).bind fun bt252 => ((impl_rangeNone.f).bind fun bt254 => (some (bt252.1, bt252.2, bt254.1, bt254.2))))
def impl_RangeCmp.f : Nat → Int → Int → Int → Int → Int → Option (Int × Int × Int × Int)
 | 0, _, _, _, _, _ => none
 | k + 1, a0, a1_0, a1_1, a2_0, a2_1 => (impl_RangeOk.f a1_0 a1_1).bind fun t223 => (if t223 = true then ((impl_RangeOk.f a2_0 a2_1).bind fun t224 => (if t224 = true then ((impl_Range_empty.f a1_0 a1_1).bind fun t225 => (if t225 = true then (impl_RangeCmp.j0 k a0 true a1_0 a1_1 a2_0 a2_1) else ((impl_Range_empty.f a2_0 a2_1).bind fun t226 => (impl_RangeCmp.j0 k a0 t226 a1_0 a1_1 a2_0 a2_1)))) else (impl_RangeCmp.j0 k a0 true a1_0 a1_1 a2_0 a2_1))) else (impl_RangeCmp.j0 k a0 true a1_0 a1_1 a2_0 a2_1))
end
theorem impl_RangeCmp.mono_l : ∀ k, (∀ y0 y1 y2 y3 y4, LeO (impl_RangeCmp.f k y0 y1 y2 y3 y4) (impl_RangeCmp.f (k + 1) y0 y1 y2 y3 y4)) ∧ (∀ y0 y1 y2 y3 y4 y5, LeO (impl_RangeCmp.j0 k y0 y1 y2 y3 y4 y5) (impl_RangeCmp.j0 (k + 1) y0 y1 y2 y3 y4 y5)) ∧ (∀ y0 y1 y2 y3, LeO (impl_RangeCmp.j2 k y0 y1 y2 y3) (impl_RangeCmp.j2 (k + 1) y0 y1 y2 y3)) ∧ (∀ y0 y1 y2 y3 y4, LeO (impl_RangeCmp.j3 k y0 y1 y2 y3 y4) (impl_RangeCmp.j3 (k + 1) y0 y1 y2 y3 y4)) ∧ (∀ y0 y1 y2 y3 y4 y5, LeO (impl_RangeCmp.j1 k y0 y1 y2 y3 y4 y5) (impl_RangeCmp.j1 (k + 1) y0 y1 y2 y3 y4 y5))
 | 0 => ⟨fun _ _ _ _ _ r h => by simp [impl_RangeCmp.f] at h, fun _ _ _ _ _ _ r h => by simp [impl_RangeCmp.j0] at h, fun _ _ _ _ r h => by simp [impl_RangeCmp.j2] at h, fun _ _ _ _ _ r h => by simp [impl_RangeCmp.j3] at h, fun _ _ _ _ _ _ r h => by simp [impl_RangeCmp.j1] at h⟩
 | k + 1 => by
  obtain ⟨ih0, ih1, ih2, ih3, ih4⟩ := impl_RangeCmp.mono_l k
  refine ⟨?_, ?_, ?_, ?_, ?_⟩
  ·intro y0 y1 y2 y3 y4
   unfold impl_RangeCmp.f
   repeat' first
   | (with_reducible exact ih0 _ _ _ _ _)
   | (with_reducible exact ih1 _ _ _ _ _ _)
   | (with_reducible exact ih2 _ _ _ _)
   | (with_reducible exact ih3 _ _ _ _ _)
   | (with_reducible exact ih4 _ _ _ _ _ _)
   | (with_reducible exact impl_CmpTurn.mono _ _)
   | (with_reducible exact impl_RangeMeet.mono _ _ _ _ _)
   | (with_reducible exact impl_rangeWithout.mono _ _ _ _ _)
   | (with_reducible exact LeO.refl _)
   | (with_reducible exact LeO.none _)
   | (with_reducible refine LeO.ite ?_ ?_)
   | (with_reducible refine LeO.bind ?_ (fun _ => ?_))
   | exact ih0 _ _ _ _ _
   | exact ih1 _ _ _ _ _ _
   | exact ih2 _ _ _ _
   | exact ih3 _ _ _ _ _
   | exact ih4 _ _ _ _ _ _
   | exact impl_CmpTurn.mono _ _
   | exact impl_RangeMeet.mono _ _ _ _ _
   | exact impl_rangeWithout.mono _ _ _ _ _
   | exact LeO.none _
   | refine LeO.ite ?_ ?_
   | refine LeO.bind ?_ (fun _ => ?_)
  ·intro y0 y1 y2 y3 y4 y5
   unfold impl_RangeCmp.j0
   repeat' first
   | (with_reducible exact ih0 _ _ _ _ _)
   | (with_reducible exact ih1 _ _ _ _ _ _)
   | (with_reducible exact ih2 _ _ _ _)
   | (with_reducible exact ih3 _ _ _ _ _)
   | (with_reducible exact ih4 _ _ _ _ _ _)
   | (with_reducible exact impl_CmpTurn.mono _ _)
   | (with_reducible exact impl_RangeMeet.mono _ _ _ _ _)
   | (with_reducible exact impl_rangeWithout.mono _ _ _ _ _)
   | (with_reducible exact LeO.refl _)
   | (with_reducible exact LeO.none _)
   | (with_reducible refine LeO.ite ?_ ?_)
   | (with_reducible refine LeO.bind ?_ (fun _ => ?_))
   | exact ih0 _ _ _ _ _
   | exact ih1 _ _ _ _ _ _
   | exact ih2 _ _ _ _
   | exact ih3 _ _ _ _ _
   | exact ih4 _ _ _ _ _ _
   | exact impl_CmpTurn.mono _ _
   | exact impl_RangeMeet.mono _ _ _ _ _
   | exact impl_rangeWithout.mono _ _ _ _ _
   | exact LeO.none _
   | refine LeO.ite ?_ ?_
   | refine LeO.bind ?_ (fun _ => ?_)
  ·intro y0 y1 y2 y3
   unfold impl_RangeCmp.j2
   repeat' first
   | (with_reducible exact ih0 _ _ _ _ _)
   | (with_reducible exact ih1 _ _ _ _ _ _)
   | (with_reducible exact ih2 _ _ _ _)
   | (with_reducible exact ih3 _ _ _ _ _)
   | (with_reducible exact ih4 _ _ _ _ _ _)
   | (with_reducible exact impl_CmpTurn.mono _ _)
   | (with_reducible exact impl_RangeMeet.mono _ _ _ _ _)
   | (with_reducible exact impl_rangeWithout.mono _ _ _ _ _)
   | (with_reducible exact LeO.refl _)
   | (with_reducible exact LeO.none _)
   | (with_reducible refine LeO.ite ?_ ?_)
   | (with_reducible refine LeO.bind ?_ (fun _ => ?_))
   | exact ih0 _ _ _ _ _
   | exact ih1 _ _ _ _ _ _
   | exact ih2 _ _ _ _
   | exact ih3 _ _ _ _ _
   | exact ih4 _ _ _ _ _ _
   | exact impl_CmpTurn.mono _ _
   | exact impl_RangeMeet.mono _ _ _ _ _
   | exact impl_rangeWithout.mono _ _ _ _ _
   | exact LeO.none _
   | refine LeO.ite ?_ ?_
   | refine LeO.bind ?_ (fun _ => ?_)
  ·intro y0 y1 y2 y3 y4
   unfold impl_RangeCmp.j3
   repeat' first
   | (with_reducible exact ih0 _ _ _ _ _)
   | (with_reducible exact ih1 _ _ _ _ _ _)
   | (with_reducible exact ih2 _ _ _ _)
   | (with_reducible exact ih3 _ _ _ _ _)
   | (with_reducible exact ih4 _ _ _ _ _ _)
   | (with_reducible exact impl_CmpTurn.mono _ _)
   | (with_reducible exact impl_RangeMeet.mono _ _ _ _ _)
   | (with_reducible exact impl_rangeWithout.mono _ _ _ _ _)
   | (with_reducible exact LeO.refl _)
   | (with_reducible exact LeO.none _)
   | (with_reducible refine LeO.ite ?_ ?_)
   | (with_reducible refine LeO.bind ?_ (fun _ => ?_))
   | exact ih0 _ _ _ _ _
   | exact ih1 _ _ _ _ _ _
   | exact ih2 _ _ _ _
   | exact ih3 _ _ _ _ _
   | exact ih4 _ _ _ _ _ _
   | exact impl_CmpTurn.mono _ _
   | exact impl_RangeMeet.mono _ _ _ _ _
   | exact impl_rangeWithout.mono _ _ _ _ _
   | exact LeO.none _
   | refine LeO.ite ?_ ?_
   | refine LeO.bind ?_ (fun _ => ?_)
  ·intro y0 y1 y2 y3 y4 y5
   unfold impl_RangeCmp.j1
   repeat' first
   | (with_reducible exact ih0 _ _ _ _ _)
   | (with_reducible exact ih1 _ _ _ _ _ _)
   | (with_reducible exact ih2 _ _ _ _)
   | (with_reducible exact ih3 _ _ _ _ _)
   | (with_reducible exact ih4 _ _ _ _ _ _)
   | (with_reducible exact impl_CmpTurn.mono _ _)
   | (with_reducible exact impl_RangeMeet.mono _ _ _ _ _)
   | (with_reducible exact impl_rangeWithout.mono _ _ _ _ _)
   | (with_reducible exact LeO.refl _)
   | (with_reducible exact LeO.none _)
   | (with_reducible refine LeO.ite ?_ ?_)
   | (with_reducible refine LeO.bind ?_ (fun _ => ?_))
   | exact ih0 _ _ _ _ _
   | exact ih1 _ _ _ _ _ _
   | exact ih2 _ _ _ _
   | exact ih3 _ _ _ _ _
   | exact ih4 _ _ _ _ _ _
   | exact impl_CmpTurn.mono _ _
   | exact impl_RangeMeet.mono _ _ _ _ _
   | exact impl_rangeWithout.mono _ _ _ _ _
   | exact LeO.none _
   | refine LeO.ite ?_ ?_
   | refine LeO.bind ?_ (fun _ => ?_)
theorem impl_RangeCmp.mono : ∀ a0 a1 a2 a3 a4 k, LeO (impl_RangeCmp.f k a0 a1 a2 a3 a4) (impl_RangeCmp.f (k + 1) a0 a1 a2 a3 a4) := by
 intro a0 a1 a2 a3 a4 k
 obtain ⟨ih0, ih1, ih2, ih3, ih4⟩ := impl_RangeCmp.mono_l k
 exact ih0 a0 a1 a2 a3 a4
def impl_RangeCmp.T10 : Bool × List (List Nat × List Nat) := (true, [([], []), ([], []), ([0, 1], [0, 1]), ([], []), ([], []), ([3, 4, 2], [3, 4]), ([2, 5, 0, 1, 2], [2]), ([5, 6, 0, 1, 2, 3, 4, 5, 6], [5])])
def impl_RangeCmp.B10 : List Nat := [0, 0, 3, 0, 0, 31, 63, 127]
theorem impl_RangeCmp.tab10 : rtab .any (opsOf Try.f26 10) = impl_RangeCmp.T10 := by kernel_rfl
theorem impl_RangeCmp.bits10 : waitsOk impl_RangeCmp.T10.2 impl_RangeCmp.B10 = true := by kernel_rfl
def impl_RangeCmp.T19 : Bool × List (List Nat × List Nat) := (true, [([], []), ([0], [0]), ([], []), ([], []), ([1, 2, 3, 1], [1, 2, 3]), ([4], [4]), ([5], [5]), ([5], [5]), ([6, 4, 0, 1, 2, 3, 4, 5, 6], [6]), ([7, 8, 0, 1, 2, 3, 4, 5, 6, 7, 8], [7])])
def impl_RangeCmp.B19 : List Nat := [0, 1, 0, 0, 15, 31, 63, 63, 127, 511]
theorem impl_RangeCmp.tab19 : rtab .any (opsOf Try.f26 19) = impl_RangeCmp.T19 := by kernel_rfl
theorem impl_RangeCmp.bits19 : waitsOk impl_RangeCmp.T19.2 impl_RangeCmp.B19 = true := by kernel_rfl
set_option maxHeartbeats 8000000 in
set_option maxRecDepth 100000 in
theorem impl_RangeCmp.calls (k : Nat) : ∀ (a0 : Int) (a1_0 : Int) (a1_1 : Int) (a2_0 : Int) (a2_1 : Int) (r1 : Int) (r2 : Int) (r3 : Int) (r4 : Int) (w : World) (h : impl_RangeCmp.f k a0 a1_0 a1_1 a2_0 a2_1 = some (r1, r2, r3, r4)),
  Calls Try.prog 26 #[.int .i64 a0, .agg #[.int .i64 a1_0, .int .i64 a1_1], .agg #[.int .i64 a2_0, .int .i64 a2_1]] w fun e w' => e = .returned (.tuple #[.agg #[.int .i64 r1, .int .i64 r2], .agg #[.int .i64 r3, .int .i64 r4]]) ∧ Below w.heap.size w w' := by
 induction k using Nat.strongRecOn with
 | _ k ih =>
 intro a0 a1_0 a1_1 a2_0 a2_1 r1 r2 r3 r4 w h
 cases k with
 | zero => exact absurd h (by simp [impl_RangeCmp.f])
 | succ k =>
 simp only [impl_RangeCmp.f] at h
 have hu24 := Try.underlying24
 have HB := am (Below.refl w.heap.size w)
 have H : ((impl_RangeOk.f a1_0 a1_1).bind fun t223 => (if t223 = true then ((impl_RangeOk.f a2_0 a2_1).bind fun t224 => (if t224 = true then ((impl_Range_empty.f a1_0 a1_1).bind fun t225 => (if t225 = true then (impl_RangeCmp.j0 k a0 true a1_0 a1_1 a2_0 a2_1) else ((impl_Range_empty.f a2_0 a2_1).bind fun t226 => (impl_RangeCmp.j0 k a0 t226 a1_0 a1_1 a2_0 a2_1)))) else (impl_RangeCmp.j0 k a0 true a1_0 a1_1 a2_0 a2_1))) else (impl_RangeCmp.j0 k a0 true a1_0 a1_1 a2_0 a2_1))) = some (r1, r2, r3, r4) := h
 clear h
 have HC4 := am H
 clear H
 go_enter Try.func26, Try.ntmps26
 go_upto_region 1 with (first | ((with_reducible refine gate_dst (N := 4) rfl ?_); refine box_event ?hg (N := 4) ?hd (cs := #[.int .i64 a1_0, .int .i64 a1_1]) (t := 24) ?hr ?_; (case hd => rfl); (case hg => rfl); (case hr => first | (go_simp; done) | (go_simp; rfl)); intro gb219 hg w5 hbox hb; have n0_ := am (below_step (Y0 HB) hb); have n1_ := am (hbox); have n2_ := am ((by rw [hg]; exact (below_size (Y0 HB)) : w.heap.size ≤ gb219)); have n3_ := am ((by rw [hg]; exact (below_size (Y0 HB)) : w.heap.size ≤ gb219)); clear HB; have HB := n0_; have BK219 := n1_; have GW219 := n2_; have GE219 := n3_; clear n0_ n1_ n2_ n3_; clear hb hbox hg) | ((with_reducible refine gate_dst (N := 5) rfl ?_); refine box_event ?hg (N := 5) ?hd (cs := #[.int .i64 a2_0, .int .i64 a2_1]) (t := 24) ?hr ?_; (case hd => rfl); (case hg => rfl); (case hr => first | (go_simp; done) | (go_simp; rfl)); intro gb220 hg w6 hbox hb; have n0_ := am (blk_below (g := gb219) (o := b2 a1_0 a1_1 24) (Z BK219) hb); have n1_ := am (below_step (Y1 HB GE219) hb); have n2_ := am (hbox); have n3_ := am ((by rw [hg]; exact (below_size (Y1 HB GE219)) : w.heap.size ≤ gb220)); have n4_ := am ((by rw [hg]; exact (below_size (Y1 HB GE219)) : w.heap.size ≤ gb220)); have n5_ := am ((nl (o := b2 a1_0 a1_1 24) hg (Z BK219) : gb219 ≠ gb220)); have n6_ := am ((ng (o := b2 a1_0 a1_1 24) hg (Z BK219) : gb220 ≠ gb219)); clear BK219; clear HB; have BK219 := n0_; have HB := n1_; have BK220 := n2_; have GW220 := n3_; have GE220 := n4_; have NB219_220 := n5_; have NB220_219 := n6_; clear n0_ n1_ n2_ n3_ n4_ n5_ n6_; clear hb hbox hg) | ((with_reducible refine gate_dst (N := 6) rfl ?_); refine box_event ?hg (N := 6) ?hd (cs := #[.int .i64 0, .int .i64 0]) (t := 24) ?hr ?_; (case hd => rfl); (case hg => rfl); (case hr => first | (go_simp; done) | (go_simp; rfl)); intro gb221 hg w7 hbox hb; have n0_ := am (blk_below (g := gb219) (o := b2 a1_0 a1_1 24) (Z BK219) hb); have n1_ := am (blk_below (g := gb220) (o := b2 a2_0 a2_1 24) (Z BK220) hb); have n2_ := am (below_step (Y2 HB GE219 GE220) hb); have n3_ := am (hbox); have n4_ := am ((by rw [hg]; exact (below_size (Y2 HB GE219 GE220)) : w.heap.size ≤ gb221)); have n5_ := am ((by rw [hg]; exact (below_size (Y2 HB GE219 GE220)) : w.heap.size ≤ gb221)); have n6_ := am ((nl (o := b2 a1_0 a1_1 24) hg (Z BK219) : gb219 ≠ gb221)); have n7_ := am ((ng (o := b2 a1_0 a1_1 24) hg (Z BK219) : gb221 ≠ gb219)); have n8_ := am ((nl (o := b2 a2_0 a2_1 24) hg (Z BK220) : gb220 ≠ gb221)); have n9_ := am ((ng (o := b2 a2_0 a2_1 24) hg (Z BK220) : gb221 ≠ gb220)); clear BK219; clear BK220; clear HB; have BK219 := n0_; have BK220 := n1_; have HB := n2_; have BK221 := n3_; have GW221 := n4_; have GE221 := n5_; have NB219_221 := n6_; have NB221_219 := n7_; have NB220_221 := n8_; have NB221_220 := n9_; clear n0_ n1_ n2_ n3_ n4_ n5_ n6_ n7_ n8_ n9_; clear hb hbox hg) | ((with_reducible refine gate_dst (N := 7) rfl ?_); refine box_event ?hg (N := 7) ?hd (cs := #[.int .i64 0, .int .i64 0]) (t := 24) ?hr ?_; (case hd => rfl); (case hg => rfl); (case hr => first | (go_simp; done) | (go_simp; rfl)); intro gb222 hg w8 hbox hb; have n0_ := am (blk_below (g := gb219) (o := b2 a1_0 a1_1 24) (Z BK219) hb); have n1_ := am (blk_below (g := gb220) (o := b2 a2_0 a2_1 24) (Z BK220) hb); have n2_ := am (blk_below (g := gb221) (o := b2 0 0 24) (Z BK221) hb); have n3_ := am (below_step (Y3 HB GE219 GE220 GE221) hb); have n4_ := am (hbox); have n5_ := am ((by rw [hg]; exact (below_size (Y3 HB GE219 GE220 GE221)) : w.heap.size ≤ gb222)); have n6_ := am ((by rw [hg]; exact (below_size (Y3 HB GE219 GE220 GE221)) : w.heap.size ≤ gb222)); have n7_ := am ((nl (o := b2 a1_0 a1_1 24) hg (Z BK219) : gb219 ≠ gb222)); have n8_ := am ((ng (o := b2 a1_0 a1_1 24) hg (Z BK219) : gb222 ≠ gb219)); have n9_ := am ((nl (o := b2 a2_0 a2_1 24) hg (Z BK220) : gb220 ≠ gb222)); have n10_ := am ((ng (o := b2 a2_0 a2_1 24) hg (Z BK220) : gb222 ≠ gb220)); have n11_ := am ((nl (o := b2 0 0 24) hg (Z BK221) : gb221 ≠ gb222)); have n12_ := am ((ng (o := b2 0 0 24) hg (Z BK221) : gb222 ≠ gb221)); clear BK219; clear BK220; clear BK221; clear HB; have BK219 := n0_; have BK220 := n1_; have BK221 := n2_; have HB := n3_; have BK222 := n4_; have GW222 := n5_; have GE222 := n6_; have NB219_222 := n7_; have NB222_219 := n8_; have NB220_222 := n9_; have NB222_220 := n10_; have NB221_222 := n11_; have NB222_221 := n12_; clear n0_ n1_ n2_ n3_ n4_ n5_ n6_ n7_ n8_ n9_ n10_ n11_ n12_; clear hb hbox hg))
 (try simp only [Act.put, List.setIfInBounds_toArray, List.set_cons_zero, List.set_cons_succ])
 go_cut [25] (fun v25 wc => ∃ (kq : Nat) (x25_3 : Bool), v25 = .bool x25_3 ∧ Aside0 (impl_RangeCmp.j0 kq a0 x25_3 a1_0 a1_1 a2_0 a2_1 = some (r1, r2, r3, r4)) ∧ Aside0 (kq ≤ k) ∧ Aside0 (wc.heap[gb219]? = some (.cells #[.int .i64 a1_0, .int .i64 a1_1] 24 (0, 0))) ∧ Aside0 (wc.heap[gb220]? = some (.cells #[.int .i64 a2_0, .int .i64 a2_1] 24 (0, 0))) ∧ Aside0 (wc.heap[gb221]? = some (.cells #[.int .i64 0, .int .i64 0] 24 (0, 0))) ∧ Aside0 (wc.heap[gb222]? = some (.cells #[.int .i64 0, .int .i64 0] 24 (0, 0))) ∧ Aside0 (Below w.heap.size w wc))
 case first =>
  have H := HC4.out
  clear HC4
  replace H := Option.bind_eq_some_iff.mp H
  obtain ⟨t223, A90, H⟩ := H
  replace H : (if t223 = true then ((impl_RangeOk.f a2_0 a2_1).bind fun t224 => (if t224 = true then ((impl_Range_empty.f a1_0 a1_1).bind fun t225 => (if t225 = true then (impl_RangeCmp.j0 k a0 true a1_0 a1_1 a2_0 a2_1) else ((impl_Range_empty.f a2_0 a2_1).bind fun t226 => (impl_RangeCmp.j0 k a0 t226 a1_0 a1_1 a2_0 a2_1)))) else (impl_RangeCmp.j0 k a0 true a1_0 a1_1 a2_0 a2_1))) else (impl_RangeCmp.j0 k a0 true a1_0 a1_1 a2_0 a2_1)) = some (r1, r2, r3, r4) := H
  have A9 := am A90
  clear A90
  by_cases c10 : t223 = true
  ·subst c10
   have H1 : ((impl_RangeOk.f a2_0 a2_1).bind fun t224 => (if t224 = true then ((impl_Range_empty.f a1_0 a1_1).bind fun t225 => (if t225 = true then (impl_RangeCmp.j0 k a0 true a1_0 a1_1 a2_0 a2_1) else ((impl_Range_empty.f a2_0 a2_1).bind fun t226 => (impl_RangeCmp.j0 k a0 t226 a1_0 a1_1 a2_0 a2_1)))) else (impl_RangeCmp.j0 k a0 true a1_0 a1_1 a2_0 a2_1))) = some (r1, r2, r3, r4) := by rw [if_pos rfl] at H; exact H
   clear H
   have H := H1
   clear H1
   replace H := Option.bind_eq_some_iff.mp H
   obtain ⟨t224, A110, H⟩ := H
   replace H : (if t224 = true then ((impl_Range_empty.f a1_0 a1_1).bind fun t225 => (if t225 = true then (impl_RangeCmp.j0 k a0 true a1_0 a1_1 a2_0 a2_1) else ((impl_Range_empty.f a2_0 a2_1).bind fun t226 => (impl_RangeCmp.j0 k a0 t226 a1_0 a1_1 a2_0 a2_1)))) else (impl_RangeCmp.j0 k a0 true a1_0 a1_1 a2_0 a2_1)) = some (r1, r2, r3, r4) := H
   have A11 := am A110
   clear A110
   by_cases c12 : t224 = true
   ·subst c12
    have H1 : ((impl_Range_empty.f a1_0 a1_1).bind fun t225 => (if t225 = true then (impl_RangeCmp.j0 k a0 true a1_0 a1_1 a2_0 a2_1) else ((impl_Range_empty.f a2_0 a2_1).bind fun t226 => (impl_RangeCmp.j0 k a0 t226 a1_0 a1_1 a2_0 a2_1)))) = some (r1, r2, r3, r4) := by rw [if_pos rfl] at H; exact H
    clear H
    have H := H1
    clear H1
    replace H := Option.bind_eq_some_iff.mp H
    obtain ⟨t225, A130, H⟩ := H
    replace H : (if t225 = true then (impl_RangeCmp.j0 k a0 true a1_0 a1_1 a2_0 a2_1) else ((impl_Range_empty.f a2_0 a2_1).bind fun t226 => (impl_RangeCmp.j0 k a0 t226 a1_0 a1_1 a2_0 a2_1))) = some (r1, r2, r3, r4) := H
    have A13 := am A130
    clear A130
    by_cases c14 : t225 = true
    ·subst c14
     have H1 : (impl_RangeCmp.j0 k a0 true a1_0 a1_1 a2_0 a2_1) = some (r1, r2, r3, r4) := by rw [if_pos rfl] at H; exact H
     clear H
     have H := H1
     clear H1
     have H' := am H
     clear H
     have hnb15 := NB219_220.out
     have hnc15 := NB220_219.out
     have hnb16 := NB219_221.out
     have hnc16 := NB221_219.out
     have hnb17 := NB219_222.out
     have hnc17 := NB222_219.out
     have hcz18_0 : w8.cell? ⟨gb219, 0, none⟩ = some (.int .i64 a1_0) := bc BK219 0
     have hcz18_1 : w8.cell? ⟨gb219, 1, none⟩ = some (.int .i64 a1_1) := bc BK219 1
     have hfz18_0 := blk_frozen BK219.out 0
     have hfz18_1 := blk_frozen BK219.out 1
     go_wp2_with (first | ((with_reducible refine gate_callee (f := 51) rfl ?_); refine goesL_ (some 11) rfl rfl Try.func51 (by kernel_rfl) rfl #[.agg #[.int .i64 a1_0, .int .i64 a1_1]] rfl mz ?_; (with_reducible refine (impl_RangeOk.calls a1_0 a1_1 true _ A9.out).mono ?_); rintro e w19 ⟨rfl, hb⟩; refine ⟨_, rfl, ?_⟩; have n0_ := am (blk_below (g := gb219) (o := b2 a1_0 a1_1 24) (Z BK219) hb); have n1_ := am (blk_below (g := gb220) (o := b2 a2_0 a2_1 24) (Z BK220) hb); have n2_ := am (blk_below (g := gb221) (o := b2 0 0 24) (Z BK221) hb); have n3_ := am (blk_below (g := gb222) (o := b2 0 0 24) (Z BK222) hb); have n4_ := am (below_step (Y4 HB GE219 GE220 GE221 GE222) hb); clear BK219; clear BK220; clear BK221; clear BK222; clear HB; have BK219 := n0_; have BK220 := n1_; have BK221 := n2_; have BK222 := n3_; have HB := n4_; clear n0_ n1_ n2_ n3_ n4_; (try clear hb); (try clear hb2); (try clear hk); (try clear hi); have hnb20 := NB220_221.out; have hnc20 := NB221_220.out; have hnb21 := NB220_222.out; have hnc21 := NB222_220.out; have hcz22_0 : w19.cell? ⟨gb220, 0, none⟩ = some (.int .i64 a2_0) := bc BK220 0; have hcz22_1 : w19.cell? ⟨gb220, 1, none⟩ = some (.int .i64 a2_1) := bc BK220 1; have hfz22_0 := blk_frozen BK220.out 0; have hfz22_1 := blk_frozen BK220.out 1) | (go_at_call 51; (with_reducible refine (impl_RangeOk.calls a2_0 a2_1 true _ A11.out).mono ?_); rintro e w23 ⟨rfl, hb⟩; have n0_ := am (blk_below (g := gb219) (o := b2 a1_0 a1_1 24) (Z BK219) hb); have n1_ := am (blk_below (g := gb220) (o := b2 a2_0 a2_1 24) (Z BK220) hb); have n2_ := am (blk_below (g := gb221) (o := b2 0 0 24) (Z BK221) hb); have n3_ := am (blk_below (g := gb222) (o := b2 0 0 24) (Z BK222) hb); have n4_ := am (below_step (Y4 HB GE219 GE220 GE221 GE222) hb); clear BK219; clear BK220; clear BK221; clear BK222; clear HB; have BK219 := n0_; have BK220 := n1_; have BK221 := n2_; have BK222 := n3_; have HB := n4_; clear n0_ n1_ n2_ n3_ n4_; (try clear hb); (try clear hb2); (try clear hk); (try clear hi); have hcz24_0 : w23.cell? ⟨gb219, 0, none⟩ = some (.int .i64 a1_0) := bc BK219 0; have hcz24_1 : w23.cell? ⟨gb219, 1, none⟩ = some (.int .i64 a1_1) := bc BK219 1; have hfz24_0 := blk_frozen BK219.out 0; have hfz24_1 := blk_frozen BK219.out 1) | (go_at_call 53; (with_reducible refine (impl_Range_empty.calls a1_0 a1_1 true _ A13.out).mono ?_); rintro e w25 ⟨rfl, hb⟩; have n0_ := am (blk_below (g := gb219) (o := b2 a1_0 a1_1 24) (Z BK219) hb); have n1_ := am (blk_below (g := gb220) (o := b2 a2_0 a2_1 24) (Z BK220) hb); have n2_ := am (blk_below (g := gb221) (o := b2 0 0 24) (Z BK221) hb); have n3_ := am (blk_below (g := gb222) (o := b2 0 0 24) (Z BK222) hb); have n4_ := am (below_step (Y4 HB GE219 GE220 GE221 GE222) hb); clear BK219; clear BK220; clear BK221; clear BK222; clear HB; have BK219 := n0_; have BK220 := n1_; have BK221 := n2_; have BK222 := n3_; have HB := n4_; clear n0_ n1_ n2_ n3_ n4_; (try clear hb); (try clear hb2); (try clear hk); (try clear hi)))
     go_meet
     case rel => exact ⟨_, (true), (by first | rfl | (simp; done) | (simp [*]; done)), H', ⟨by first | omega | exact Nat.le_refl _⟩, ⟨Z BK219⟩, ⟨Z BK220⟩, ⟨Z BK221⟩, ⟨Z BK222⟩, ⟨Y4 HB GE219 GE220 GE221 GE222⟩⟩
    ·replace c14 := Bool.eq_false_iff.mpr c14
     subst c14
     have H1 : ((impl_Range_empty.f a2_0 a2_1).bind fun t226 => (impl_RangeCmp.j0 k a0 t226 a1_0 a1_1 a2_0 a2_1)) = some (r1, r2, r3, r4) := by rw [if_neg (show ¬ (false = true) by decide)] at H; exact H
     clear H
     have H := H1
     clear H1
     replace H := Option.bind_eq_some_iff.mp H
     obtain ⟨t226, A260, H⟩ := H
     replace H : (impl_RangeCmp.j0 k a0 t226 a1_0 a1_1 a2_0 a2_1) = some (r1, r2, r3, r4) := H
     have A26 := am A260
     clear A260
     have H' := am H
     clear H
     have hnb27 := NB219_220.out
     have hnc27 := NB220_219.out
     have hnb28 := NB219_221.out
     have hnc28 := NB221_219.out
     have hnb29 := NB219_222.out
     have hnc29 := NB222_219.out
     have hcz30_0 : w8.cell? ⟨gb219, 0, none⟩ = some (.int .i64 a1_0) := bc BK219 0
     have hcz30_1 : w8.cell? ⟨gb219, 1, none⟩ = some (.int .i64 a1_1) := bc BK219 1
     have hfz30_0 := blk_frozen BK219.out 0
     have hfz30_1 := blk_frozen BK219.out 1
     go_wp2_with (first | ((with_reducible refine gate_callee (f := 51) rfl ?_); refine goesL_ (some 11) rfl rfl Try.func51 (by kernel_rfl) rfl #[.agg #[.int .i64 a1_0, .int .i64 a1_1]] rfl mz ?_; (with_reducible refine (impl_RangeOk.calls a1_0 a1_1 true _ A9.out).mono ?_); rintro e w31 ⟨rfl, hb⟩; refine ⟨_, rfl, ?_⟩; have n0_ := am (blk_below (g := gb219) (o := b2 a1_0 a1_1 24) (Z BK219) hb); have n1_ := am (blk_below (g := gb220) (o := b2 a2_0 a2_1 24) (Z BK220) hb); have n2_ := am (blk_below (g := gb221) (o := b2 0 0 24) (Z BK221) hb); have n3_ := am (blk_below (g := gb222) (o := b2 0 0 24) (Z BK222) hb); have n4_ := am (below_step (Y4 HB GE219 GE220 GE221 GE222) hb); clear BK219; clear BK220; clear BK221; clear BK222; clear HB; have BK219 := n0_; have BK220 := n1_; have BK221 := n2_; have BK222 := n3_; have HB := n4_; clear n0_ n1_ n2_ n3_ n4_; (try clear hb); (try clear hb2); (try clear hk); (try clear hi); have hnb32 := NB220_221.out; have hnc32 := NB221_220.out; have hnb33 := NB220_222.out; have hnc33 := NB222_220.out; have hcz34_0 : w31.cell? ⟨gb220, 0, none⟩ = some (.int .i64 a2_0) := bc BK220 0; have hcz34_1 : w31.cell? ⟨gb220, 1, none⟩ = some (.int .i64 a2_1) := bc BK220 1; have hfz34_0 := blk_frozen BK220.out 0; have hfz34_1 := blk_frozen BK220.out 1) | (go_at_call 51; (with_reducible refine (impl_RangeOk.calls a2_0 a2_1 true _ A11.out).mono ?_); rintro e w35 ⟨rfl, hb⟩; have n0_ := am (blk_below (g := gb219) (o := b2 a1_0 a1_1 24) (Z BK219) hb); have n1_ := am (blk_below (g := gb220) (o := b2 a2_0 a2_1 24) (Z BK220) hb); have n2_ := am (blk_below (g := gb221) (o := b2 0 0 24) (Z BK221) hb); have n3_ := am (blk_below (g := gb222) (o := b2 0 0 24) (Z BK222) hb); have n4_ := am (below_step (Y4 HB GE219 GE220 GE221 GE222) hb); clear BK219; clear BK220; clear BK221; clear BK222; clear HB; have BK219 := n0_; have BK220 := n1_; have BK221 := n2_; have BK222 := n3_; have HB := n4_; clear n0_ n1_ n2_ n3_ n4_; (try clear hb); (try clear hb2); (try clear hk); (try clear hi); have hcz36_0 : w35.cell? ⟨gb219, 0, none⟩ = some (.int .i64 a1_0) := bc BK219 0; have hcz36_1 : w35.cell? ⟨gb219, 1, none⟩ = some (.int .i64 a1_1) := bc BK219 1; have hfz36_0 := blk_frozen BK219.out 0; have hfz36_1 := blk_frozen BK219.out 1) | (go_at_call 53; (with_reducible refine (impl_Range_empty.calls a1_0 a1_1 false _ A13.out).mono ?_); rintro e w37 ⟨rfl, hb⟩; have n0_ := am (blk_below (g := gb219) (o := b2 a1_0 a1_1 24) (Z BK219) hb); have n1_ := am (blk_below (g := gb220) (o := b2 a2_0 a2_1 24) (Z BK220) hb); have n2_ := am (blk_below (g := gb221) (o := b2 0 0 24) (Z BK221) hb); have n3_ := am (blk_below (g := gb222) (o := b2 0 0 24) (Z BK222) hb); have n4_ := am (below_step (Y4 HB GE219 GE220 GE221 GE222) hb); clear BK219; clear BK220; clear BK221; clear BK222; clear HB; have BK219 := n0_; have BK220 := n1_; have BK221 := n2_; have BK222 := n3_; have HB := n4_; clear n0_ n1_ n2_ n3_ n4_; (try clear hb); (try clear hb2); (try clear hk); (try clear hi); have hcz38_0 : w37.cell? ⟨gb220, 0, none⟩ = some (.int .i64 a2_0) := bc BK220 0; have hcz38_1 : w37.cell? ⟨gb220, 1, none⟩ = some (.int .i64 a2_1) := bc BK220 1; have hfz38_0 := blk_frozen BK220.out 0; have hfz38_1 := blk_frozen BK220.out 1) | (go_at_call 53; (with_reducible refine (impl_Range_empty.calls a2_0 a2_1 t226 _ A26.out).mono ?_); rintro e w39 ⟨rfl, hb⟩; have n0_ := am (blk_below (g := gb219) (o := b2 a1_0 a1_1 24) (Z BK219) hb); have n1_ := am (blk_below (g := gb220) (o := b2 a2_0 a2_1 24) (Z BK220) hb); have n2_ := am (blk_below (g := gb221) (o := b2 0 0 24) (Z BK221) hb); have n3_ := am (blk_below (g := gb222) (o := b2 0 0 24) (Z BK222) hb); have n4_ := am (below_step (Y4 HB GE219 GE220 GE221 GE222) hb); clear BK219; clear BK220; clear BK221; clear BK222; clear HB; have BK219 := n0_; have BK220 := n1_; have BK221 := n2_; have BK222 := n3_; have HB := n4_; clear n0_ n1_ n2_ n3_ n4_; (try clear hb); (try clear hb2); (try clear hk); (try clear hi)))
     go_meet
     case rel => exact ⟨_, (t226), (by first | rfl | (simp; done) | (simp [*]; done)), H', ⟨by first | omega | exact Nat.le_refl _⟩, ⟨Z BK219⟩, ⟨Z BK220⟩, ⟨Z BK221⟩, ⟨Z BK222⟩, ⟨Y4 HB GE219 GE220 GE221 GE222⟩⟩
   ·replace c12 := Bool.eq_false_iff.mpr c12
    subst c12
    have H1 : (impl_RangeCmp.j0 k a0 true a1_0 a1_1 a2_0 a2_1) = some (r1, r2, r3, r4) := by rw [if_neg (show ¬ (false = true) by decide)] at H; exact H
    clear H
    have H := H1
    clear H1
    have H' := am H
    clear H
    have hnb40 := NB219_220.out
    have hnc40 := NB220_219.out
    have hnb41 := NB219_221.out
    have hnc41 := NB221_219.out
    have hnb42 := NB219_222.out
    have hnc42 := NB222_219.out
    have hcz43_0 : w8.cell? ⟨gb219, 0, none⟩ = some (.int .i64 a1_0) := bc BK219 0
    have hcz43_1 : w8.cell? ⟨gb219, 1, none⟩ = some (.int .i64 a1_1) := bc BK219 1
    have hfz43_0 := blk_frozen BK219.out 0
    have hfz43_1 := blk_frozen BK219.out 1
    go_wp2_with (first | ((with_reducible refine gate_callee (f := 51) rfl ?_); refine goesL_ (some 11) rfl rfl Try.func51 (by kernel_rfl) rfl #[.agg #[.int .i64 a1_0, .int .i64 a1_1]] rfl mz ?_; (with_reducible refine (impl_RangeOk.calls a1_0 a1_1 true _ A9.out).mono ?_); rintro e w44 ⟨rfl, hb⟩; refine ⟨_, rfl, ?_⟩; have n0_ := am (blk_below (g := gb219) (o := b2 a1_0 a1_1 24) (Z BK219) hb); have n1_ := am (blk_below (g := gb220) (o := b2 a2_0 a2_1 24) (Z BK220) hb); have n2_ := am (blk_below (g := gb221) (o := b2 0 0 24) (Z BK221) hb); have n3_ := am (blk_below (g := gb222) (o := b2 0 0 24) (Z BK222) hb); have n4_ := am (below_step (Y4 HB GE219 GE220 GE221 GE222) hb); clear BK219; clear BK220; clear BK221; clear BK222; clear HB; have BK219 := n0_; have BK220 := n1_; have BK221 := n2_; have BK222 := n3_; have HB := n4_; clear n0_ n1_ n2_ n3_ n4_; (try clear hb); (try clear hb2); (try clear hk); (try clear hi); have hnb45 := NB220_221.out; have hnc45 := NB221_220.out; have hnb46 := NB220_222.out; have hnc46 := NB222_220.out; have hcz47_0 : w44.cell? ⟨gb220, 0, none⟩ = some (.int .i64 a2_0) := bc BK220 0; have hcz47_1 : w44.cell? ⟨gb220, 1, none⟩ = some (.int .i64 a2_1) := bc BK220 1; have hfz47_0 := blk_frozen BK220.out 0; have hfz47_1 := blk_frozen BK220.out 1) | (go_at_call 51; (with_reducible refine (impl_RangeOk.calls a2_0 a2_1 false _ A11.out).mono ?_); rintro e w48 ⟨rfl, hb⟩; have n0_ := am (blk_below (g := gb219) (o := b2 a1_0 a1_1 24) (Z BK219) hb); have n1_ := am (blk_below (g := gb220) (o := b2 a2_0 a2_1 24) (Z BK220) hb); have n2_ := am (blk_below (g := gb221) (o := b2 0 0 24) (Z BK221) hb); have n3_ := am (blk_below (g := gb222) (o := b2 0 0 24) (Z BK222) hb); have n4_ := am (below_step (Y4 HB GE219 GE220 GE221 GE222) hb); clear BK219; clear BK220; clear BK221; clear BK222; clear HB; have BK219 := n0_; have BK220 := n1_; have BK221 := n2_; have BK222 := n3_; have HB := n4_; clear n0_ n1_ n2_ n3_ n4_; (try clear hb); (try clear hb2); (try clear hk); (try clear hi)))
    go_meet
    case rel => exact ⟨_, (true), (by first | rfl | (simp; done) | (simp [*]; done)), H', ⟨by first | omega | exact Nat.le_refl _⟩, ⟨Z BK219⟩, ⟨Z BK220⟩, ⟨Z BK221⟩, ⟨Z BK222⟩, ⟨Y4 HB GE219 GE220 GE221 GE222⟩⟩
  ·replace c10 := Bool.eq_false_iff.mpr c10
   subst c10
   have H1 : (impl_RangeCmp.j0 k a0 true a1_0 a1_1 a2_0 a2_1) = some (r1, r2, r3, r4) := by rw [if_neg (show ¬ (false = true) by decide)] at H; exact H
   clear H
   have H := H1
   clear H1
   have H' := am H
   clear H
   have hnb49 := NB219_220.out
   have hnc49 := NB220_219.out
   have hnb50 := NB219_221.out
   have hnc50 := NB221_219.out
   have hnb51 := NB219_222.out
   have hnc51 := NB222_219.out
   have hcz52_0 : w8.cell? ⟨gb219, 0, none⟩ = some (.int .i64 a1_0) := bc BK219 0
   have hcz52_1 : w8.cell? ⟨gb219, 1, none⟩ = some (.int .i64 a1_1) := bc BK219 1
   have hfz52_0 := blk_frozen BK219.out 0
   have hfz52_1 := blk_frozen BK219.out 1
   go_wp2_with (first | ((with_reducible refine gate_callee (f := 51) rfl ?_); refine goesL_ (some 11) rfl rfl Try.func51 (by kernel_rfl) rfl #[.agg #[.int .i64 a1_0, .int .i64 a1_1]] rfl mz ?_; (with_reducible refine (impl_RangeOk.calls a1_0 a1_1 false _ A9.out).mono ?_); rintro e w53 ⟨rfl, hb⟩; refine ⟨_, rfl, ?_⟩; have n0_ := am (blk_below (g := gb219) (o := b2 a1_0 a1_1 24) (Z BK219) hb); have n1_ := am (blk_below (g := gb220) (o := b2 a2_0 a2_1 24) (Z BK220) hb); have n2_ := am (blk_below (g := gb221) (o := b2 0 0 24) (Z BK221) hb); have n3_ := am (blk_below (g := gb222) (o := b2 0 0 24) (Z BK222) hb); have n4_ := am (below_step (Y4 HB GE219 GE220 GE221 GE222) hb); clear BK219; clear BK220; clear BK221; clear BK222; clear HB; have BK219 := n0_; have BK220 := n1_; have BK221 := n2_; have BK222 := n3_; have HB := n4_; clear n0_ n1_ n2_ n3_ n4_; (try clear hb); (try clear hb2); (try clear hk); (try clear hi)))
   go_meet
   case rel => exact ⟨_, (true), (by first | rfl | (simp; done) | (simp [*]; done)), H', ⟨by first | omega | exact Nat.le_refl _⟩, ⟨Z BK219⟩, ⟨Z BK220⟩, ⟨Z BK221⟩, ⟨Z BK222⟩, ⟨Y4 HB GE219 GE220 GE221 GE222⟩⟩
 case rest =>
  clear HC4
  try clear c1
  try clear c2
  try clear p2
  try clear c3
  try clear c4
  try clear c5
  try clear c10
  try clear c12
  try clear c14
  try clear c15
  try clear c16
  try clear c17
  try clear c20
  try clear c21
  try clear c26
  try clear c27
  try clear c28
  try clear c29
  try clear c32
  try clear c33
  try clear c40
  try clear c41
  try clear c42
  try clear c45
  try clear c46
  try clear c49
  try clear c50
  try clear c51
  try clear hcz18_0
  try clear hcz18_1
  try clear hcz22_0
  try clear hcz22_1
  try clear hcz24_0
  try clear hcz24_1
  try clear hcz30_0
  try clear hcz30_1
  try clear hcz34_0
  try clear hcz34_1
  try clear hcz36_0
  try clear hcz36_1
  try clear hcz38_0
  try clear hcz38_1
  try clear hcz43_0
  try clear hcz43_1
  try clear hcz47_0
  try clear hcz47_1
  try clear hcz52_0
  try clear hcz52_1
  try clear hfz18_0
  try clear hfz18_1
  try clear hfz22_0
  try clear hfz22_1
  try clear hfz24_0
  try clear hfz24_1
  try clear hfz30_0
  try clear hfz30_1
  try clear hfz34_0
  try clear hfz34_1
  try clear hfz36_0
  try clear hfz36_1
  try clear hfz38_0
  try clear hfz38_1
  try clear hfz43_0
  try clear hfz43_1
  try clear hfz47_0
  try clear hfz47_1
  try clear hfz52_0
  try clear hfz52_1
  obtain ⟨kq, x25_3, rfl, HA, HJ3, BK219, BK220, BK221, BK222, HB⟩ := hcut
  cases kq with
  | zero => exact absurd HA.out (by simp [impl_RangeCmp.j0])
  | succ kj3 =>
   have H := HA.out
   clear HA
   simp only [impl_RangeCmp.j0] at H
   by_cases c54 : x25_3 = true
   ·subst c54
    have H1 : ((impl_rangeNone.f).bind fun bt227 => ((impl_rangeNone.f).bind fun bt229 => (some (bt227.1, bt227.2, bt229.1, bt229.2)))) = some (r1, r2, r3, r4) := by rw [if_pos rfl] at H; exact H
    clear H
    have H := H1
    clear H1
    replace H := Option.bind_eq_some_iff.mp H
    obtain ⟨⟨t227, t228⟩, A550, H⟩ := H
    replace H : ((impl_rangeNone.f).bind fun bt229 => (some (t227, t228, bt229.1, bt229.2))) = some (r1, r2, r3, r4) := H
    have A55 := am A550
    clear A550
    replace H := Option.bind_eq_some_iff.mp H
    obtain ⟨⟨t229, t230⟩, A560, H⟩ := H
    replace H : (some (t227, t228, t229, t230)) = some (r1, r2, r3, r4) := H
    have A56 := am A560
    clear A560
    simp only [Option.some.injEq, Prod.mk.injEq] at H
    obtain ⟨rfl, rfl, rfl, rfl⟩ := H
    go_wp2_with (first | ((with_reducible refine gate_callee (f := 52) rfl ?_); refine goesL_ (some 26) rfl rfl Try.func52 (by kernel_rfl) rfl #[] rfl mz ?_; (with_reducible refine (impl_rangeNone.calls  t227 t228 _ A55.out).mono ?_); rintro e w57 ⟨rfl, hb⟩; refine ⟨_, rfl, ?_⟩; have n0_ := am (blk_below (g := gb219) (o := b2 a1_0 a1_1 24) (Z BK219) hb); have n1_ := am (blk_below (g := gb220) (o := b2 a2_0 a2_1 24) (Z BK220) hb); have n2_ := am (blk_below (g := gb221) (o := b2 0 0 24) (Z BK221) hb); have n3_ := am (blk_below (g := gb222) (o := b2 0 0 24) (Z BK222) hb); have n4_ := am (below_step (Y4 HB GE219 GE220 GE221 GE222) hb); clear BK219; clear BK220; clear BK221; clear BK222; clear HB; have BK219 := n0_; have BK220 := n1_; have BK221 := n2_; have BK222 := n3_; have HB := n4_; clear n0_ n1_ n2_ n3_ n4_; (try clear hb); (try clear hb2); (try clear hk); (try clear hi)) | ((with_reducible refine gate_callee (f := 52) rfl ?_); refine goesL_ (some 27) rfl rfl Try.func52 (by kernel_rfl) rfl #[] rfl mz ?_; (with_reducible refine (impl_rangeNone.calls  t229 t230 _ A56.out).mono ?_); rintro e w58 ⟨rfl, hb⟩; refine ⟨_, rfl, ?_⟩; have n0_ := am (blk_below (g := gb219) (o := b2 a1_0 a1_1 24) (Z BK219) hb); have n1_ := am (blk_below (g := gb220) (o := b2 a2_0 a2_1 24) (Z BK220) hb); have n2_ := am (blk_below (g := gb221) (o := b2 0 0 24) (Z BK221) hb); have n3_ := am (blk_below (g := gb222) (o := b2 0 0 24) (Z BK222) hb); have n4_ := am (below_step (Y4 HB GE219 GE220 GE221 GE222) hb); clear BK219; clear BK220; clear BK221; clear BK222; clear HB; have BK219 := n0_; have BK220 := n1_; have BK221 := n2_; have BK222 := n3_; have HB := n4_; clear n0_ n1_ n2_ n3_ n4_; (try clear hb); (try clear hb2); (try clear hk); (try clear hi); have hnb59 := NB221_219.out; have hnc59 := NB219_221.out; have hnb60 := NB221_220.out; have hnc60 := NB220_221.out; have hnb61 := NB221_222.out; have hnc61 := NB222_221.out; have hcz62_0 : w58.cell? ⟨gb221, 0, none⟩ = some (.int .i64 0) := bc BK221 0; have hcz62_1 : w58.cell? ⟨gb221, 1, none⟩ = some (.int .i64 0) := bc BK221 1; have hfz62_0 := blk_frozen BK221.out 0; have hfz62_1 := blk_frozen BK221.out 1; have hnb63 := NB222_219.out; have hnc63 := NB219_222.out; have hnb64 := NB222_220.out; have hnc64 := NB220_222.out; have hcz65_0 : w58.cell? ⟨gb222, 0, none⟩ = some (.int .i64 0) := bc BK222 0; have hcz65_1 : w58.cell? ⟨gb222, 1, none⟩ = some (.int .i64 0) := bc BK222 1; have hfz65_0 := blk_frozen BK222.out 0; have hfz65_1 := blk_frozen BK222.out 1))
    refine bodyPost_ret (results_cc rfl _ _ gb221 gb222 24 24 #[.int .i64 t227, .int .i64 t228] #[.int .i64 t229, .int .i64 t230] (0, 0) (0, 0) _ _ rfl (by (with_reducible repeat (first | refine blk_drewN ?_ _ | refine blk_drew ?_ | refine blk_alloc ?_ _)); refine blk_far ?_ NB221_222.out _; (with_reducible repeat (first | refine blk_drewN ?_ _ | refine blk_drew ?_ | refine blk_alloc ?_ _)); refine blk_far ?_ NB221_222.out _; (with_reducible repeat (first | refine blk_drewN ?_ _ | refine blk_drew ?_ | refine blk_alloc ?_ _)); refine blk_put (cs := #[.int .i64 t227, .int .i64 0]) ?_ 1 _ rfl; (with_reducible repeat (first | refine blk_drewN ?_ _ | refine blk_drew ?_ | refine blk_alloc ?_ _)); refine blk_put (cs := #[.int .i64 0, .int .i64 0]) ?_ 0 _ rfl; (with_reducible repeat (first | refine blk_drewN ?_ _ | refine blk_drew ?_ | refine blk_alloc ?_ _)); exact BK221.out) Try.underlying24 rfl (by kernel_rfl) rfl (by (with_reducible repeat (first | refine blk_drewN ?_ _ | refine blk_drew ?_ | refine blk_alloc ?_ _)); refine blk_put (cs := #[.int .i64 t229, .int .i64 0]) ?_ 1 _ rfl; (with_reducible repeat (first | refine blk_drewN ?_ _ | refine blk_drew ?_ | refine blk_alloc ?_ _)); refine blk_put (cs := #[.int .i64 0, .int .i64 0]) ?_ 0 _ rfl; (with_reducible repeat (first | refine blk_drewN ?_ _ | refine blk_drew ?_ | refine blk_alloc ?_ _)); refine blk_far ?_ NB222_221.out _; (with_reducible repeat (first | refine blk_drewN ?_ _ | refine blk_drew ?_ | refine blk_alloc ?_ _)); refine blk_far ?_ NB222_221.out _; (with_reducible repeat (first | refine blk_drewN ?_ _ | refine blk_drew ?_ | refine blk_alloc ?_ _)); exact BK222.out) Try.underlying24 rfl (by kernel_rfl)) rfl ?_
    exact ⟨by first | rfl | (simp [errW_none, errW_some] <;> rfl) | (simp [*, errW_none, errW_some] <;> rfl), Y4 HB GE219 GE220 GE221 GE222⟩
   ·replace c54 := Bool.eq_false_iff.mpr c54
    subst c54
    have H1 : (if a0 = 1 then ((impl_RangeMeet.f kj3 a1_0 a1_1 a2_0 a2_1).bind fun bt233 => (impl_RangeCmp.j2 kj3 bt233.1 bt233.2 bt233.1 bt233.2)) else (if a0 = 2 then ((impl_rangeWithout.f kj3 a1_0 a1_1 a2_0 a2_1).bind fun bt235 => ((impl_rangeWithout.f kj3 a2_0 a2_1 a1_0 a1_1).bind fun bt237 => (impl_RangeCmp.j2 kj3 bt235.1 bt235.2 bt237.1 bt237.2))) else (if a0 = 3 then ((impl_rangeFrom.f a1_0 (mn a1_1 (wrap64 (a2_1 - 1)))).bind fun bt239 => ((impl_rangeFrom.f (mx a2_0 (wrap64 (a1_0 + 1))) a2_1).bind fun bt241 => (impl_RangeCmp.j2 kj3 bt239.1 bt239.2 bt241.1 bt241.2))) else (if a0 = 4 then ((impl_rangeFrom.f a1_0 (mn a1_1 a2_1)).bind fun bt243 => ((impl_rangeFrom.f (mx a2_0 a1_0) a2_1).bind fun bt245 => (impl_RangeCmp.j2 kj3 bt243.1 bt243.2 bt245.1 bt245.2))) else (if a0 = 5 then (impl_RangeCmp.j1 kj3 a0 (a0 == 5) a1_0 a1_1 a2_0 a2_1) else (impl_RangeCmp.j1 kj3 a0 (a0 == 6) a1_0 a1_1 a2_0 a2_1)))))) = some (r1, r2, r3, r4) := by rw [if_neg (show ¬ (false = true) by decide)] at H; exact H
    clear H
    have H := H1
    clear H1
    have HC66 := am H
    clear H
    go_upto_block 0 with (first | ((with_reducible refine gate_dst (N := 8) rfl ?_); refine box_event ?hg (N := 8) ?hd (cs := #[.int .i64 0, .int .i64 0]) (t := 24) ?hr ?_; (case hd => rfl); (case hg => rfl); (case hr => first | (go_simp; done) | (go_simp; rfl)); intro gb231 hg w67 hbox hb; have n0_ := am (blk_below (g := gb219) (o := b2 a1_0 a1_1 24) (Z BK219) hb); have n1_ := am (blk_below (g := gb220) (o := b2 a2_0 a2_1 24) (Z BK220) hb); have n2_ := am (blk_below (g := gb221) (o := b2 0 0 24) (Z BK221) hb); have n3_ := am (blk_below (g := gb222) (o := b2 0 0 24) (Z BK222) hb); have n4_ := am (below_step (Y4 HB GE219 GE220 GE221 GE222) hb); have n5_ := am (hbox); have n6_ := am ((by rw [hg]; exact (below_size (Y4 HB GE219 GE220 GE221 GE222)) : w.heap.size ≤ gb231)); have n7_ := am ((by rw [hg]; exact (below_size (Y4 HB GE219 GE220 GE221 GE222)) : w.heap.size ≤ gb231)); have n8_ := am ((nl (o := b2 a1_0 a1_1 24) hg (Z BK219) : gb219 ≠ gb231)); have n9_ := am ((ng (o := b2 a1_0 a1_1 24) hg (Z BK219) : gb231 ≠ gb219)); have n10_ := am ((nl (o := b2 a2_0 a2_1 24) hg (Z BK220) : gb220 ≠ gb231)); have n11_ := am ((ng (o := b2 a2_0 a2_1 24) hg (Z BK220) : gb231 ≠ gb220)); have n12_ := am ((nl (o := b2 0 0 24) hg (Z BK221) : gb221 ≠ gb231)); have n13_ := am ((ng (o := b2 0 0 24) hg (Z BK221) : gb231 ≠ gb221)); have n14_ := am ((nl (o := b2 0 0 24) hg (Z BK222) : gb222 ≠ gb231)); have n15_ := am ((ng (o := b2 0 0 24) hg (Z BK222) : gb231 ≠ gb222)); clear BK219; clear BK220; clear BK221; clear BK222; clear HB; have BK219 := n0_; have BK220 := n1_; have BK221 := n2_; have BK222 := n3_; have HB := n4_; have BK231 := n5_; have GW231 := n6_; have GE231 := n7_; have NB219_231 := n8_; have NB231_219 := n9_; have NB220_231 := n10_; have NB231_220 := n11_; have NB221_231 := n12_; have NB231_221 := n13_; have NB222_231 := n14_; have NB231_222 := n15_; clear n0_ n1_ n2_ n3_ n4_ n5_ n6_ n7_ n8_ n9_ n10_ n11_ n12_ n13_ n14_ n15_; clear hb hbox hg) | ((with_reducible refine gate_dst (N := 9) rfl ?_); refine box_event ?hg (N := 9) ?hd (cs := #[.int .i64 0, .int .i64 0]) (t := 24) ?hr ?_; (case hd => rfl); (case hg => rfl); (case hr => first | (go_simp; done) | (go_simp; rfl)); intro gb232 hg w68 hbox hb; have n0_ := am (blk_below (g := gb219) (o := b2 a1_0 a1_1 24) (Z BK219) hb); have n1_ := am (blk_below (g := gb220) (o := b2 a2_0 a2_1 24) (Z BK220) hb); have n2_ := am (blk_below (g := gb221) (o := b2 0 0 24) (Z BK221) hb); have n3_ := am (blk_below (g := gb222) (o := b2 0 0 24) (Z BK222) hb); have n4_ := am (blk_below (g := gb231) (o := b2 0 0 24) (Z BK231) hb); have n5_ := am (below_step (Y5 HB GE219 GE220 GE221 GE222 GE231) hb); have n6_ := am (hbox); have n7_ := am ((by rw [hg]; exact (below_size (Y5 HB GE219 GE220 GE221 GE222 GE231)) : w.heap.size ≤ gb232)); have n8_ := am ((by rw [hg]; exact (below_size (Y5 HB GE219 GE220 GE221 GE222 GE231)) : w.heap.size ≤ gb232)); have n9_ := am ((nl (o := b2 a1_0 a1_1 24) hg (Z BK219) : gb219 ≠ gb232)); have n10_ := am ((ng (o := b2 a1_0 a1_1 24) hg (Z BK219) : gb232 ≠ gb219)); have n11_ := am ((nl (o := b2 a2_0 a2_1 24) hg (Z BK220) : gb220 ≠ gb232)); have n12_ := am ((ng (o := b2 a2_0 a2_1 24) hg (Z BK220) : gb232 ≠ gb220)); have n13_ := am ((nl (o := b2 0 0 24) hg (Z BK221) : gb221 ≠ gb232)); have n14_ := am ((ng (o := b2 0 0 24) hg (Z BK221) : gb232 ≠ gb221)); have n15_ := am ((nl (o := b2 0 0 24) hg (Z BK222) : gb222 ≠ gb232)); have n16_ := am ((ng (o := b2 0 0 24) hg (Z BK222) : gb232 ≠ gb222)); have n17_ := am ((nl (o := b2 0 0 24) hg (Z BK231) : gb231 ≠ gb232)); have n18_ := am ((ng (o := b2 0 0 24) hg (Z BK231) : gb232 ≠ gb231)); clear BK219; clear BK220; clear BK221; clear BK222; clear BK231; clear HB; have BK219 := n0_; have BK220 := n1_; have BK221 := n2_; have BK222 := n3_; have BK231 := n4_; have HB := n5_; have BK232 := n6_; have GW232 := n7_; have GE232 := n8_; have NB219_232 := n9_; have NB232_219 := n10_; have NB220_232 := n11_; have NB232_220 := n12_; have NB221_232 := n13_; have NB232_221 := n14_; have NB222_232 := n15_; have NB232_222 := n16_; have NB231_232 := n17_; have NB232_231 := n18_; clear n0_ n1_ n2_ n3_ n4_ n5_ n6_ n7_ n8_ n9_ n10_ n11_ n12_ n13_ n14_ n15_ n16_ n17_ n18_; clear hb hbox hg))
    (try simp only [Act.put, List.setIfInBounds_toArray, List.set_cons_zero, List.set_cons_succ])
    go_cut [] (fun wc => ∃ (kq : Nat) (x222000_65 : Int) (x222001_65 : Int) (x223000_65 : Int) (x223001_65 : Int) (x232000_65 : Int) (x232001_65 : Int) (x233000_65 : Int) (x233001_65 : Int), Aside0 (impl_RangeCmp.j2 kq x232000_65 x232001_65 x233000_65 x233001_65 = some (r1, r2, r3, r4)) ∧ Aside0 (kq ≤ kj3) ∧ Aside0 (wc.heap[gb219]? = some (.cells #[.int .i64 a1_0, .int .i64 a1_1] 24 (0, 0))) ∧ Aside0 (wc.heap[gb220]? = some (.cells #[.int .i64 a2_0, .int .i64 a2_1] 24 (0, 0))) ∧ Aside0 (wc.heap[gb221]? = some (.cells #[.int .i64 x222000_65, .int .i64 x222001_65] 24 (0, 0))) ∧ Aside0 (wc.heap[gb222]? = some (.cells #[.int .i64 x223000_65, .int .i64 x223001_65] 24 (0, 0))) ∧ Aside0 (wc.heap[gb231]? = some (.cells #[.int .i64 x232000_65, .int .i64 x232001_65] 24 (0, 0))) ∧ Aside0 (wc.heap[gb232]? = some (.cells #[.int .i64 x233000_65, .int .i64 x233001_65] 24 (0, 0))) ∧ Aside0 (Below w.heap.size w wc))
    case first =>
     have H := HC66.out
     clear HC66
     by_cases c69 : a0 = 1
     ·rw [if_pos c69] at H
      have c69b0 : (a0 == 1) = true := beq_iff_eq.mpr c69
      have c69b1 : (a0 != 1) = false := bne_eq_false_iff_eq.mpr c69
      clear c69
      (first | rw [c69b0] | (simp only [i64_w, i32_w]; rw [c69b0]) | skip)
      replace H := Option.bind_eq_some_iff.mp H
      obtain ⟨⟨t233, t234⟩, A700, H⟩ := H
      replace H : (impl_RangeCmp.j2 kj3 t233 t234 t233 t234) = some (r1, r2, r3, r4) := H
      have A70 := am A700
      clear A700
      have H' := am H
      clear H
      have hnb71 := NB219_220.out
      have hnc71 := NB220_219.out
      have hnb72 := NB219_221.out
      have hnc72 := NB221_219.out
      have hnb73 := NB219_222.out
      have hnc73 := NB222_219.out
      have hnb74 := NB219_231.out
      have hnc74 := NB231_219.out
      have hnb75 := NB219_232.out
      have hnc75 := NB232_219.out
      have hcz76_0 : w68.cell? ⟨gb219, 0, none⟩ = some (.int .i64 a1_0) := bc BK219 0
      have hcz76_1 : w68.cell? ⟨gb219, 1, none⟩ = some (.int .i64 a1_1) := bc BK219 1
      have hfz76_0 := blk_frozen BK219.out 0
      have hfz76_1 := blk_frozen BK219.out 1
      have hnb77 := NB220_221.out
      have hnc77 := NB221_220.out
      have hnb78 := NB220_222.out
      have hnc78 := NB222_220.out
      have hnb79 := NB220_231.out
      have hnc79 := NB231_220.out
      have hnb80 := NB220_232.out
      have hnc80 := NB232_220.out
      have hcz81_0 : w68.cell? ⟨gb220, 0, none⟩ = some (.int .i64 a2_0) := bc BK220 0
      have hcz81_1 : w68.cell? ⟨gb220, 1, none⟩ = some (.int .i64 a2_1) := bc BK220 1
      have hfz81_0 := blk_frozen BK220.out 0
      have hfz81_1 := blk_frozen BK220.out 1
      go_wp2_with (first | ((with_reducible refine gate_callee (f := 20) rfl ?_); refine goesL_ (some 35) rfl rfl Try.func20 (by kernel_rfl) rfl #[.agg #[.int .i64 a1_0, .int .i64 a1_1], .agg #[.int .i64 a2_0, .int .i64 a2_1]] rfl mz ?_; (with_reducible refine (impl_RangeMeet.calls kj3 a1_0 a1_1 a2_0 a2_1 t233 t234 _ A70.out).mono ?_); rintro e w82 ⟨rfl, hb⟩; refine ⟨_, rfl, ?_⟩; have n0_ := am (blk_below (g := gb219) (o := b2 a1_0 a1_1 24) (Z BK219) hb); have n1_ := am (blk_below (g := gb220) (o := b2 a2_0 a2_1 24) (Z BK220) hb); have n2_ := am (blk_below (g := gb221) (o := b2 0 0 24) (Z BK221) hb); have n3_ := am (blk_below (g := gb222) (o := b2 0 0 24) (Z BK222) hb); have n4_ := am (blk_below (g := gb231) (o := b2 0 0 24) (Z BK231) hb); have n5_ := am (blk_below (g := gb232) (o := b2 0 0 24) (Z BK232) hb); have n6_ := am (below_step (Y6 HB GE219 GE220 GE221 GE222 GE231 GE232) hb); clear BK219; clear BK220; clear BK221; clear BK222; clear BK231; clear BK232; clear HB; have BK219 := n0_; have BK220 := n1_; have BK221 := n2_; have BK222 := n3_; have BK231 := n4_; have BK232 := n5_; have HB := n6_; clear n0_ n1_ n2_ n3_ n4_ n5_ n6_; (try clear hb); (try clear hb2); (try clear hk); (try clear hi); have hnb83 := NB231_221.out; have hnc83 := NB221_231.out; have hnb84 := NB231_222.out; have hnc84 := NB222_231.out; have hnb85 := NB231_232.out; have hnc85 := NB232_231.out; have hcz86_0 : w82.cell? ⟨gb231, 0, none⟩ = some (.int .i64 0) := bc BK231 0; have hcz86_1 : w82.cell? ⟨gb231, 1, none⟩ = some (.int .i64 0) := bc BK231 1; have hfz86_0 := blk_frozen BK231.out 0; have hfz86_1 := blk_frozen BK231.out 1; have hnb87 := NB232_221.out; have hnc87 := NB221_232.out; have hnb88 := NB232_222.out; have hnc88 := NB222_232.out; have hcz89_0 : w82.cell? ⟨gb232, 0, none⟩ = some (.int .i64 0) := bc BK232 0; have hcz89_1 : w82.cell? ⟨gb232, 1, none⟩ = some (.int .i64 0) := bc BK232 1; have hfz89_0 := blk_frozen BK232.out 0; have hfz89_1 := blk_frozen BK232.out 1))
      go_meet
      case rel => exact ⟨_, (0), (0), (0), (0), (t233), (t234), (t233), (t234), H', ⟨by have := HJ3.out; first | omega | exact Nat.le_refl _⟩, ⟨by (with_reducible repeat (first | refine blk_drewN ?_ _ | refine blk_drew ?_ | refine blk_alloc ?_ _)); refine blk_far ?_ NB219_232.out _; (with_reducible repeat (first | refine blk_drewN ?_ _ | refine blk_drew ?_ | refine blk_alloc ?_ _)); refine blk_far ?_ NB219_232.out _; (with_reducible repeat (first | refine blk_drewN ?_ _ | refine blk_drew ?_ | refine blk_alloc ?_ _)); refine blk_far ?_ NB219_231.out _; (with_reducible repeat (first | refine blk_drewN ?_ _ | refine blk_drew ?_ | refine blk_alloc ?_ _)); refine blk_far ?_ NB219_231.out _; (with_reducible repeat (first | refine blk_drewN ?_ _ | refine blk_drew ?_ | refine blk_alloc ?_ _)); exact BK219.out⟩, ⟨by (with_reducible repeat (first | refine blk_drewN ?_ _ | refine blk_drew ?_ | refine blk_alloc ?_ _)); refine blk_far ?_ NB220_232.out _; (with_reducible repeat (first | refine blk_drewN ?_ _ | refine blk_drew ?_ | refine blk_alloc ?_ _)); refine blk_far ?_ NB220_232.out _; (with_reducible repeat (first | refine blk_drewN ?_ _ | refine blk_drew ?_ | refine blk_alloc ?_ _)); refine blk_far ?_ NB220_231.out _; (with_reducible repeat (first | refine blk_drewN ?_ _ | refine blk_drew ?_ | refine blk_alloc ?_ _)); refine blk_far ?_ NB220_231.out _; (with_reducible repeat (first | refine blk_drewN ?_ _ | refine blk_drew ?_ | refine blk_alloc ?_ _)); exact BK220.out⟩, ⟨by (with_reducible repeat (first | refine blk_drewN ?_ _ | refine blk_drew ?_ | refine blk_alloc ?_ _)); refine blk_far ?_ NB221_232.out _; (with_reducible repeat (first | refine blk_drewN ?_ _ | refine blk_drew ?_ | refine blk_alloc ?_ _)); refine blk_far ?_ NB221_232.out _; (with_reducible repeat (first | refine blk_drewN ?_ _ | refine blk_drew ?_ | refine blk_alloc ?_ _)); refine blk_far ?_ NB221_231.out _; (with_reducible repeat (first | refine blk_drewN ?_ _ | refine blk_drew ?_ | refine blk_alloc ?_ _)); refine blk_far ?_ NB221_231.out _; (with_reducible repeat (first | refine blk_drewN ?_ _ | refine blk_drew ?_ | refine blk_alloc ?_ _)); exact BK221.out⟩, ⟨by (with_reducible repeat (first | refine blk_drewN ?_ _ | refine blk_drew ?_ | refine blk_alloc ?_ _)); refine blk_far ?_ NB222_232.out _; (with_reducible repeat (first | refine blk_drewN ?_ _ | refine blk_drew ?_ | refine blk_alloc ?_ _)); refine blk_far ?_ NB222_232.out _; (with_reducible repeat (first | refine blk_drewN ?_ _ | refine blk_drew ?_ | refine blk_alloc ?_ _)); refine blk_far ?_ NB222_231.out _; (with_reducible repeat (first | refine blk_drewN ?_ _ | refine blk_drew ?_ | refine blk_alloc ?_ _)); refine blk_far ?_ NB222_231.out _; (with_reducible repeat (first | refine blk_drewN ?_ _ | refine blk_drew ?_ | refine blk_alloc ?_ _)); exact BK222.out⟩, ⟨by (with_reducible repeat (first | refine blk_drewN ?_ _ | refine blk_drew ?_ | refine blk_alloc ?_ _)); refine blk_far ?_ NB231_232.out _; (with_reducible repeat (first | refine blk_drewN ?_ _ | refine blk_drew ?_ | refine blk_alloc ?_ _)); refine blk_far ?_ NB231_232.out _; (with_reducible repeat (first | refine blk_drewN ?_ _ | refine blk_drew ?_ | refine blk_alloc ?_ _)); refine blk_put (cs := #[.int .i64 t233, .int .i64 0]) ?_ 1 _ rfl; (with_reducible repeat (first | refine blk_drewN ?_ _ | refine blk_drew ?_ | refine blk_alloc ?_ _)); refine blk_put (cs := #[.int .i64 0, .int .i64 0]) ?_ 0 _ rfl; (with_reducible repeat (first | refine blk_drewN ?_ _ | refine blk_drew ?_ | refine blk_alloc ?_ _)); exact BK231.out⟩, ⟨by (with_reducible repeat (first | refine blk_drewN ?_ _ | refine blk_drew ?_ | refine blk_alloc ?_ _)); refine blk_put (cs := #[.int .i64 t233, .int .i64 0]) ?_ 1 _ rfl; (with_reducible repeat (first | refine blk_drewN ?_ _ | refine blk_drew ?_ | refine blk_alloc ?_ _)); refine blk_put (cs := #[.int .i64 0, .int .i64 0]) ?_ 0 _ rfl; (with_reducible repeat (first | refine blk_drewN ?_ _ | refine blk_drew ?_ | refine blk_alloc ?_ _)); refine blk_far ?_ NB232_231.out _; (with_reducible repeat (first | refine blk_drewN ?_ _ | refine blk_drew ?_ | refine blk_alloc ?_ _)); refine blk_far ?_ NB232_231.out _; (with_reducible repeat (first | refine blk_drewN ?_ _ | refine blk_drew ?_ | refine blk_alloc ?_ _)); exact BK232.out⟩, ⟨Y6 HB GE219 GE220 GE221 GE222 GE231 GE232⟩⟩
     ·rw [if_neg c69] at H
      have c69b0 : (a0 == 1) = false := beq_eq_false_iff_ne.mpr c69
      have c69b1 : (a0 != 1) = true := bne_iff_ne.mpr c69
      (first | rw [c69b0] | (simp only [i64_w, i32_w]; rw [c69b0]) | skip)
      by_cases c90 : a0 = 2
      ·rw [if_pos c90] at H
       have c90b0 : (a0 == 2) = true := beq_iff_eq.mpr c90
       have c90b1 : (a0 != 2) = false := bne_eq_false_iff_eq.mpr c90
       clear c90
       replace H := Option.bind_eq_some_iff.mp H
       obtain ⟨⟨t235, t236⟩, A910, H⟩ := H
       replace H : ((impl_rangeWithout.f kj3 a2_0 a2_1 a1_0 a1_1).bind fun bt237 => (impl_RangeCmp.j2 kj3 t235 t236 bt237.1 bt237.2)) = some (r1, r2, r3, r4) := H
       have A91 := am A910
       clear A910
       replace H := Option.bind_eq_some_iff.mp H
       obtain ⟨⟨t237, t238⟩, A920, H⟩ := H
       replace H : (impl_RangeCmp.j2 kj3 t235 t236 t237 t238) = some (r1, r2, r3, r4) := H
       have A92 := am A920
       clear A920
       have H' := am H
       clear H
       try go_wp2
       have n0_ := am (blk_drew BK219.out)
       have n1_ := am (blk_drew BK220.out)
       have n2_ := am (blk_drew BK221.out)
       have n3_ := am (blk_drew BK222.out)
       have n4_ := am (blk_drew BK231.out)
       have n5_ := am (blk_drew BK232.out)
       have n6_ := am (below_drew1 HB.out)
       clear BK219
       clear BK220
       clear BK221
       clear BK222
       clear BK231
       clear BK232
       clear HB
       have BK219 := n0_
       have BK220 := n1_
       have BK221 := n2_
       have BK222 := n3_
       have BK231 := n4_
       have BK232 := n5_
       have HB := n6_
       clear n0_ n1_ n2_ n3_ n4_ n5_ n6_
       refine start_ (n := 8) (S := fun w' => w'.cell? ⟨gb219, 0, none⟩ = some (.int .i64 a1_0) ∧ w'.cell? ⟨gb219, 1, none⟩ = some (.int .i64 a1_1) ∧ w'.cell? ⟨gb220, 0, none⟩ = some (.int .i64 a2_0) ∧ w'.cell? ⟨gb220, 1, none⟩ = some (.int .i64 a2_1)) (ds := []) #[F, F, F, F, F, F, F, F] (by kernel_rfl) rfl rfl ⟨bc BK219 0, bc BK219 1, bc BK220 0, bc BK220 1⟩ (fun hHeld => ?_); refine with_tabW impl_RangeCmp.tab10 impl_RangeCmp.bits10 (fun HT_ HW_ => ?_)
       generalize w68.drew = w93 at BK219 BK220 BK221 BK222 BK231 BK232 HB hHeld ⊢
       refine take_ (i := 0) (N := some 39) (v := ?_) (a' := ?_) #[T, F, F, F, F, F, F, F] rfl rfl (take_ofW HT_.out HW_.out (by kernel_rfl)) (fun _ _ _ h => h) (Or.inl ⟨by rfl, ?_⟩) hHeld ?_ ?_
       rotate_left
       ·rintro w' ⟨s0, s1, s2, s3⟩
        go_simp
        with_reducible rfl
       rotate_left
       ·exact pz
       refine take_ (i := 1) (N := some 40) (v := ?_) (a' := ?_) #[T, T, F, F, F, F, F, F] rfl rfl (take_ofW HT_.out HW_.out (by kernel_rfl)) (fun _ _ _ h => h) (Or.inl ⟨by rfl, ?_⟩) hHeld ?_ ?_
       rotate_left
       ·rintro w' ⟨s0, s1, s2, s3⟩
        go_simp
        with_reducible rfl
       rotate_left
       ·exact pz
       refine take_ (i := 3) (N := some 42) (v := ?_) (a' := ?_) #[T, T, F, T, F, F, F, F] rfl rfl (take_ofW HT_.out HW_.out (by kernel_rfl)) (fun _ _ _ h => h) (Or.inl ⟨by rfl, ?_⟩) hHeld ?_ ?_
       rotate_left
       ·rintro w' ⟨s0, s1, s2, s3⟩
        go_simp
        with_reducible rfl
       rotate_left
       ·exact pz
       refine take_ (i := 4) (N := some 43) (v := ?_) (a' := ?_) #[T, T, F, T, T, F, F, F] rfl rfl (take_ofW HT_.out HW_.out (by kernel_rfl)) (fun _ _ _ h => h) (Or.inl ⟨by rfl, ?_⟩) hHeld ?_ ?_
       rotate_left
       ·rintro w' ⟨s0, s1, s2, s3⟩
        go_simp
        with_reducible rfl
       rotate_left
       ·exact pz
       refine one_ (i := 2) (N := some 41) #[T, T, T, T, T, F, F, F] rfl rfl (one_of HT_.out (by kernel_rfl)) (by decide) (fun K hK => ?_)
       refine goes_ Try.func61 (by kernel_rfl) rfl #[.agg #[.int .i64 a1_0, .int .i64 a1_1], .agg #[.int .i64 a2_0, .int .i64 a2_1]] (by rfl) rfl rfl mz ?_
       with_reducible refine (impl_rangeWithout.calls kj3 a1_0 a1_1 a2_0 a2_1 t235 t236 _ A91.out).mono ?_
       rintro e w94 ⟨rfl, hb⟩
       refine ⟨_, rfl, ?_⟩
       have n0_ := am (blk_below (g := gb219) (o := b2 a1_0 a1_1 24) (Z BK219) hb)
       have n1_ := am (blk_below (g := gb220) (o := b2 a2_0 a2_1 24) (Z BK220) hb)
       have n2_ := am (blk_below (g := gb221) (o := b2 0 0 24) (Z BK221) hb)
       have n3_ := am (blk_below (g := gb222) (o := b2 0 0 24) (Z BK222) hb)
       have n4_ := am (blk_below (g := gb231) (o := b2 0 0 24) (Z BK231) hb)
       have n5_ := am (blk_below (g := gb232) (o := b2 0 0 24) (Z BK232) hb)
       have n6_ := am (below_step (Y6 HB GE219 GE220 GE221 GE222 GE231 GE232) hb)
       clear BK219
       clear BK220
       clear BK221
       clear BK222
       clear BK231
       clear BK232
       clear HB
       have BK219 := n0_
       have BK220 := n1_
       have BK221 := n2_
       have BK222 := n3_
       have BK231 := n4_
       have BK232 := n5_
       have HB := n6_
       clear n0_ n1_ n2_ n3_ n4_ n5_ n6_
       (try clear hb)
       (try clear hb2)
       (try clear hk)
       (try clear hi)
       refine hK.out _ _ ⟨bc BK219 0, bc BK219 1, bc BK220 0, bc BK220 1⟩ (fun hHeld => ?_)
       clear hK K
       refine norm_ (a' := ?_) ?_ ?_
       rotate_left
       ·show Act.put _ (some 41) _ = _
        simp only [Act.put, List.setIfInBounds_toArray, List.set_cons_zero, List.set_cons_succ, i64_w, i32_w]
        rfl
       refine one_ (i := 5) (N := some 44) #[T, T, T, T, T, T, F, F] rfl rfl (one_of HT_.out (by kernel_rfl)) (by decide) (fun K hK => ?_)
       refine goes_ Try.func61 (by kernel_rfl) rfl #[.agg #[.int .i64 a2_0, .int .i64 a2_1], .agg #[.int .i64 a1_0, .int .i64 a1_1]] (by rfl) rfl rfl mz ?_
       with_reducible refine (impl_rangeWithout.calls kj3 a2_0 a2_1 a1_0 a1_1 t237 t238 _ A92.out).mono ?_
       rintro e w95 ⟨rfl, hb⟩
       refine ⟨_, rfl, ?_⟩
       have n0_ := am (blk_below (g := gb219) (o := b2 a1_0 a1_1 24) (Z BK219) hb)
       have n1_ := am (blk_below (g := gb220) (o := b2 a2_0 a2_1 24) (Z BK220) hb)
       have n2_ := am (blk_below (g := gb221) (o := b2 0 0 24) (Z BK221) hb)
       have n3_ := am (blk_below (g := gb222) (o := b2 0 0 24) (Z BK222) hb)
       have n4_ := am (blk_below (g := gb231) (o := b2 0 0 24) (Z BK231) hb)
       have n5_ := am (blk_below (g := gb232) (o := b2 0 0 24) (Z BK232) hb)
       have n6_ := am (below_step (Y6 HB GE219 GE220 GE221 GE222 GE231 GE232) hb)
       clear BK219
       clear BK220
       clear BK221
       clear BK222
       clear BK231
       clear BK232
       clear HB
       have BK219 := n0_
       have BK220 := n1_
       have BK221 := n2_
       have BK222 := n3_
       have BK231 := n4_
       have BK232 := n5_
       have HB := n6_
       clear n0_ n1_ n2_ n3_ n4_ n5_ n6_
       (try clear hb)
       (try clear hb2)
       (try clear hk)
       (try clear hi)
       refine hK.out _ _ ⟨bc BK219 0, bc BK219 1, bc BK220 0, bc BK220 1⟩ (fun hHeld => ?_)
       clear hK K
       refine norm_ (a' := ?_) ?_ ?_
       rotate_left
       ·show Act.put _ (some 44) _ = _
        simp only [Act.put, List.setIfInBounds_toArray, List.set_cons_zero, List.set_cons_succ, i64_w, i32_w]
        rfl
       refine one_ (i := 6) (N := none) #[T, T, T, T, T, T, T, F] rfl rfl (one_of HT_.out (by kernel_rfl)) (by decide) (fun K hK => ?_)
       have hs96 : w95.cell? ⟨gb231, 0, none⟩ = some (.int .i64 0) := bc BK231 0
       have hfs96 := blk_frozen BK231.out 0
       have hns96_0 := NB219_231.out
       have hns96_1 := NB220_231.out
       have hns96_2 := NB221_231.out
       have hns96_3 := NB222_231.out
       have hns96_5 := NB232_231.out
       have hms96_0 := NB231_219.out
       have hms96_1 := NB231_220.out
       have hms96_2 := NB231_221.out
       have hms96_3 := NB231_222.out
       have hms96_5 := NB231_232.out
       have hs97 : w95.cell? ⟨gb231, 1, none⟩ = some (.int .i64 0) := bc BK231 1
       have hfs97 := blk_frozen BK231.out 1
       have hns97_0 := NB219_231.out
       have hns97_1 := NB220_231.out
       have hns97_2 := NB221_231.out
       have hns97_3 := NB222_231.out
       have hns97_5 := NB232_231.out
       have hms97_0 := NB231_219.out
       have hms97_1 := NB231_220.out
       have hms97_2 := NB231_221.out
       have hms97_3 := NB231_222.out
       have hms97_5 := NB231_232.out
       refine skip_ (w1 := ?_) (by rfl) rfl ?_ ?_
       rotate_left
       ·go_simp
        rfl
       refine hK.out _ _ ⟨((cell_far (p := ⟨gb231, _, none⟩) NB219_231.out _).trans (((cell_far (p := ⟨gb231, _, none⟩) NB219_231.out _).trans (hHeld.1)))), ((cell_far (p := ⟨gb231, _, none⟩) NB219_231.out _).trans (((cell_far (p := ⟨gb231, _, none⟩) NB219_231.out _).trans (hHeld.2.1)))), ((cell_far (p := ⟨gb231, _, none⟩) NB220_231.out _).trans (((cell_far (p := ⟨gb231, _, none⟩) NB220_231.out _).trans (hHeld.2.2.1)))), ((cell_far (p := ⟨gb231, _, none⟩) NB220_231.out _).trans (((cell_far (p := ⟨gb231, _, none⟩) NB220_231.out _).trans (hHeld.2.2.2))))⟩ (fun hHeld => ?_)
       clear hK K
       refine one_ (i := 7) (N := none) #[T, T, T, T, T, T, T, T] rfl rfl (one_of HT_.out (by kernel_rfl)) (by decide) (fun K hK => ?_)
       have hs98 : w95.cell? ⟨gb232, 0, none⟩ = some (.int .i64 0) := bc BK232 0
       have hfs98 := blk_frozen BK232.out 0
       have hns98_0 := NB219_232.out
       have hns98_1 := NB220_232.out
       have hns98_2 := NB221_232.out
       have hns98_3 := NB222_232.out
       have hns98_4 := NB231_232.out
       have hms98_0 := NB232_219.out
       have hms98_1 := NB232_220.out
       have hms98_2 := NB232_221.out
       have hms98_3 := NB232_222.out
       have hms98_4 := NB232_231.out
       have hs99 : w95.cell? ⟨gb232, 1, none⟩ = some (.int .i64 0) := bc BK232 1
       have hfs99 := blk_frozen BK232.out 1
       have hns99_0 := NB219_232.out
       have hns99_1 := NB220_232.out
       have hns99_2 := NB221_232.out
       have hns99_3 := NB222_232.out
       have hns99_4 := NB231_232.out
       have hms99_0 := NB232_219.out
       have hms99_1 := NB232_220.out
       have hms99_2 := NB232_221.out
       have hms99_3 := NB232_222.out
       have hms99_4 := NB232_231.out
       refine skip_ (w1 := ?_) (by rfl) rfl ?_ ?_
       rotate_left
       ·go_simp
        rfl
       refine hK.out _ _ ⟨((cell_far (p := ⟨gb232, _, none⟩) NB219_232.out _).trans (((cell_far (p := ⟨gb232, _, none⟩) NB219_232.out _).trans (hHeld.1)))), ((cell_far (p := ⟨gb232, _, none⟩) NB219_232.out _).trans (((cell_far (p := ⟨gb232, _, none⟩) NB219_232.out _).trans (hHeld.2.1)))), ((cell_far (p := ⟨gb232, _, none⟩) NB220_232.out _).trans (((cell_far (p := ⟨gb232, _, none⟩) NB220_232.out _).trans (hHeld.2.2.1)))), ((cell_far (p := ⟨gb232, _, none⟩) NB220_232.out _).trans (((cell_far (p := ⟨gb232, _, none⟩) NB220_232.out _).trans (hHeld.2.2.2))))⟩ (fun hHeld => ?_)
       clear hK K
       refine done_ (done_of HT_.out (by kernel_rfl)) ?_
       try go_wp2
       go_meet
       case rel => exact ⟨_, (0), (0), (0), (0), (t235), (t236), (t237), (t238), H', ⟨by have := HJ3.out; first | omega | exact Nat.le_refl _⟩, ⟨by (with_reducible repeat (first | refine blk_drewN ?_ _ | refine blk_drew ?_ | refine blk_alloc ?_ _)); refine blk_far ?_ NB219_232.out _; (with_reducible repeat (first | refine blk_drewN ?_ _ | refine blk_drew ?_ | refine blk_alloc ?_ _)); refine blk_far ?_ NB219_232.out _; (with_reducible repeat (first | refine blk_drewN ?_ _ | refine blk_drew ?_ | refine blk_alloc ?_ _)); refine blk_far ?_ NB219_231.out _; (with_reducible repeat (first | refine blk_drewN ?_ _ | refine blk_drew ?_ | refine blk_alloc ?_ _)); refine blk_far ?_ NB219_231.out _; (with_reducible repeat (first | refine blk_drewN ?_ _ | refine blk_drew ?_ | refine blk_alloc ?_ _)); exact BK219.out⟩, ⟨by (with_reducible repeat (first | refine blk_drewN ?_ _ | refine blk_drew ?_ | refine blk_alloc ?_ _)); refine blk_far ?_ NB220_232.out _; (with_reducible repeat (first | refine blk_drewN ?_ _ | refine blk_drew ?_ | refine blk_alloc ?_ _)); refine blk_far ?_ NB220_232.out _; (with_reducible repeat (first | refine blk_drewN ?_ _ | refine blk_drew ?_ | refine blk_alloc ?_ _)); refine blk_far ?_ NB220_231.out _; (with_reducible repeat (first | refine blk_drewN ?_ _ | refine blk_drew ?_ | refine blk_alloc ?_ _)); refine blk_far ?_ NB220_231.out _; (with_reducible repeat (first | refine blk_drewN ?_ _ | refine blk_drew ?_ | refine blk_alloc ?_ _)); exact BK220.out⟩, ⟨by (with_reducible repeat (first | refine blk_drewN ?_ _ | refine blk_drew ?_ | refine blk_alloc ?_ _)); refine blk_far ?_ NB221_232.out _; (with_reducible repeat (first | refine blk_drewN ?_ _ | refine blk_drew ?_ | refine blk_alloc ?_ _)); refine blk_far ?_ NB221_232.out _; (with_reducible repeat (first | refine blk_drewN ?_ _ | refine blk_drew ?_ | refine blk_alloc ?_ _)); refine blk_far ?_ NB221_231.out _; (with_reducible repeat (first | refine blk_drewN ?_ _ | refine blk_drew ?_ | refine blk_alloc ?_ _)); refine blk_far ?_ NB221_231.out _; (with_reducible repeat (first | refine blk_drewN ?_ _ | refine blk_drew ?_ | refine blk_alloc ?_ _)); exact BK221.out⟩, ⟨by (with_reducible repeat (first | refine blk_drewN ?_ _ | refine blk_drew ?_ | refine blk_alloc ?_ _)); refine blk_far ?_ NB222_232.out _; (with_reducible repeat (first | refine blk_drewN ?_ _ | refine blk_drew ?_ | refine blk_alloc ?_ _)); refine blk_far ?_ NB222_232.out _; (with_reducible repeat (first | refine blk_drewN ?_ _ | refine blk_drew ?_ | refine blk_alloc ?_ _)); refine blk_far ?_ NB222_231.out _; (with_reducible repeat (first | refine blk_drewN ?_ _ | refine blk_drew ?_ | refine blk_alloc ?_ _)); refine blk_far ?_ NB222_231.out _; (with_reducible repeat (first | refine blk_drewN ?_ _ | refine blk_drew ?_ | refine blk_alloc ?_ _)); exact BK222.out⟩, ⟨by (with_reducible repeat (first | refine blk_drewN ?_ _ | refine blk_drew ?_ | refine blk_alloc ?_ _)); refine blk_far ?_ NB231_232.out _; (with_reducible repeat (first | refine blk_drewN ?_ _ | refine blk_drew ?_ | refine blk_alloc ?_ _)); refine blk_far ?_ NB231_232.out _; (with_reducible repeat (first | refine blk_drewN ?_ _ | refine blk_drew ?_ | refine blk_alloc ?_ _)); refine blk_put (cs := #[.int .i64 t235, .int .i64 0]) ?_ 1 _ rfl; (with_reducible repeat (first | refine blk_drewN ?_ _ | refine blk_drew ?_ | refine blk_alloc ?_ _)); refine blk_put (cs := #[.int .i64 0, .int .i64 0]) ?_ 0 _ rfl; (with_reducible repeat (first | refine blk_drewN ?_ _ | refine blk_drew ?_ | refine blk_alloc ?_ _)); exact BK231.out⟩, ⟨by (with_reducible repeat (first | refine blk_drewN ?_ _ | refine blk_drew ?_ | refine blk_alloc ?_ _)); refine blk_put (cs := #[.int .i64 t237, .int .i64 0]) ?_ 1 _ rfl; (with_reducible repeat (first | refine blk_drewN ?_ _ | refine blk_drew ?_ | refine blk_alloc ?_ _)); refine blk_put (cs := #[.int .i64 0, .int .i64 0]) ?_ 0 _ rfl; (with_reducible repeat (first | refine blk_drewN ?_ _ | refine blk_drew ?_ | refine blk_alloc ?_ _)); refine blk_far ?_ NB232_231.out _; (with_reducible repeat (first | refine blk_drewN ?_ _ | refine blk_drew ?_ | refine blk_alloc ?_ _)); refine blk_far ?_ NB232_231.out _; (with_reducible repeat (first | refine blk_drewN ?_ _ | refine blk_drew ?_ | refine blk_alloc ?_ _)); exact BK232.out⟩, ⟨Y6 HB GE219 GE220 GE221 GE222 GE231 GE232⟩⟩
      ·rw [if_neg c90] at H
       have c90b0 : (a0 == 2) = false := beq_eq_false_iff_ne.mpr c90
       have c90b1 : (a0 != 2) = true := bne_iff_ne.mpr c90
       by_cases c100 : a0 = 3
       ·rw [if_pos c100] at H
        have c100b0 : (a0 == 3) = true := beq_iff_eq.mpr c100
        have c100b1 : (a0 != 3) = false := bne_eq_false_iff_eq.mpr c100
        clear c100
        obtain ⟨ji101, hji101⟩ : ∃ j_ : Int, (mn a1_1 (wrap64 (a2_1 - 1))) = j_ := ⟨_, rfl⟩
        replace H : ((impl_rangeFrom.f a1_0 (ji101)).bind fun bt239 => ((impl_rangeFrom.f (mx a2_0 (wrap64 (a1_0 + 1))) a2_1).bind fun bt241 => (impl_RangeCmp.j2 kj3 bt239.1 bt239.2 bt241.1 bt241.2))) = some (r1, r2, r3, r4) := by first | (rw [hji101] at H; exact H) | (simp only [hji101] at H ⊢; exact H)
        have hji101_ : (if (wrap64 (a2_1 - 1)) < a1_1 then (wrap64 (a2_1 - 1)) else a1_1) = ji101 := hji101
        replace H := Option.bind_eq_some_iff.mp H
        obtain ⟨⟨t239, t240⟩, A1020, H⟩ := H
        replace H : ((impl_rangeFrom.f (mx a2_0 (wrap64 (a1_0 + 1))) a2_1).bind fun bt241 => (impl_RangeCmp.j2 kj3 t239 t240 bt241.1 bt241.2)) = some (r1, r2, r3, r4) := H
        have A102 := am A1020
        clear A1020
        obtain ⟨ji103, hji103⟩ : ∃ j_ : Int, (mx a2_0 (wrap64 (a1_0 + 1))) = j_ := ⟨_, rfl⟩
        replace H : ((impl_rangeFrom.f (ji103) a2_1).bind fun bt241 => (impl_RangeCmp.j2 kj3 t239 t240 bt241.1 bt241.2)) = some (r1, r2, r3, r4) := by first | (rw [hji103] at H; exact H) | (simp only [hji103] at H ⊢; exact H)
        (try rw [hji103] at A102)
        have hji103_ : (if a2_0 < (wrap64 (a1_0 + 1)) then (wrap64 (a1_0 + 1)) else a2_0) = ji103 := hji103
        replace H := Option.bind_eq_some_iff.mp H
        obtain ⟨⟨t241, t242⟩, A1040, H⟩ := H
        replace H : (impl_RangeCmp.j2 kj3 t239 t240 t241 t242) = some (r1, r2, r3, r4) := H
        have A104 := am A1040
        clear A1040
        have H' := am H
        clear H
        have hnb105 := NB219_220.out
        have hnc105 := NB220_219.out
        have hnb106 := NB219_221.out
        have hnc106 := NB221_219.out
        have hnb107 := NB219_222.out
        have hnc107 := NB222_219.out
        have hnb108 := NB219_231.out
        have hnc108 := NB231_219.out
        have hnb109 := NB219_232.out
        have hnc109 := NB232_219.out
        have hcz110_0 : w68.cell? ⟨gb219, 0, none⟩ = some (.int .i64 a1_0) := bc BK219 0
        have hcz110_1 : w68.cell? ⟨gb219, 1, none⟩ = some (.int .i64 a1_1) := bc BK219 1
        have hfz110_0 := blk_frozen BK219.out 0
        have hfz110_1 := blk_frozen BK219.out 1
        have hnb111 := NB220_221.out
        have hnc111 := NB221_220.out
        have hnb112 := NB220_222.out
        have hnc112 := NB222_220.out
        have hnb113 := NB220_231.out
        have hnc113 := NB231_220.out
        have hnb114 := NB220_232.out
        have hnc114 := NB232_220.out
        have hcz115_0 : w68.cell? ⟨gb220, 0, none⟩ = some (.int .i64 a2_0) := bc BK220 0
        have hcz115_1 : w68.cell? ⟨gb220, 1, none⟩ = some (.int .i64 a2_1) := bc BK220 1
        have hfz115_0 := blk_frozen BK220.out 0
        have hfz115_1 := blk_frozen BK220.out 1
        go_wp2_with (first | ((with_reducible refine gate_callee (f := 55) rfl ?_); refine goesL_ (some 55) rfl rfl Try.func55 (by kernel_rfl) rfl #[.int .i64 a1_0, .int .i64 ji101] rfl (by (try simp only [List.map_toArray, List.map_cons, List.map_nil]); first | done | (simp only [hji101]; rfl) | rfl | (simp only [List.length_drop, List.length_take]; rfl)) ?_; (with_reducible refine (impl_rangeFrom.calls a1_0 ji101 t239 t240 _ A102.out).mono ?_); rintro e w116 ⟨rfl, hb⟩; refine ⟨_, rfl, ?_⟩; have n0_ := am (blk_below (g := gb219) (o := b2 a1_0 a1_1 24) (Z BK219) hb); have n1_ := am (blk_below (g := gb220) (o := b2 a2_0 a2_1 24) (Z BK220) hb); have n2_ := am (blk_below (g := gb221) (o := b2 0 0 24) (Z BK221) hb); have n3_ := am (blk_below (g := gb222) (o := b2 0 0 24) (Z BK222) hb); have n4_ := am (blk_below (g := gb231) (o := b2 0 0 24) (Z BK231) hb); have n5_ := am (blk_below (g := gb232) (o := b2 0 0 24) (Z BK232) hb); have n6_ := am (below_step (Y6 HB GE219 GE220 GE221 GE222 GE231 GE232) hb); clear BK219; clear BK220; clear BK221; clear BK222; clear BK231; clear BK232; clear HB; have BK219 := n0_; have BK220 := n1_; have BK221 := n2_; have BK222 := n3_; have BK231 := n4_; have BK232 := n5_; have HB := n6_; clear n0_ n1_ n2_ n3_ n4_ n5_ n6_; (try clear hb); (try clear hb2); (try clear hk); (try clear hi); have hnb117 := NB231_221.out; have hnc117 := NB221_231.out; have hnb118 := NB231_222.out; have hnc118 := NB222_231.out; have hnb119 := NB231_232.out; have hnc119 := NB232_231.out; have hcz120_0 : w116.cell? ⟨gb231, 0, none⟩ = some (.int .i64 0) := bc BK231 0; have hcz120_1 : w116.cell? ⟨gb231, 1, none⟩ = some (.int .i64 0) := bc BK231 1; have hfz120_0 := blk_frozen BK231.out 0; have hfz120_1 := blk_frozen BK231.out 1; have hcz121_0 : w116.cell? ⟨gb220, 0, none⟩ = some (.int .i64 a2_0) := bc BK220 0; have hcz121_1 : w116.cell? ⟨gb220, 1, none⟩ = some (.int .i64 a2_1) := bc BK220 1; have hfz121_0 := blk_frozen BK220.out 0; have hfz121_1 := blk_frozen BK220.out 1; have hcz122_0 : w116.cell? ⟨gb219, 0, none⟩ = some (.int .i64 a1_0) := bc BK219 0; have hcz122_1 : w116.cell? ⟨gb219, 1, none⟩ = some (.int .i64 a1_1) := bc BK219 1; have hfz122_0 := blk_frozen BK219.out 0; have hfz122_1 := blk_frozen BK219.out 1) | ((with_reducible refine gate_callee (f := 55) rfl ?_); refine goesL_ (some 64) rfl rfl Try.func55 (by kernel_rfl) rfl #[.int .i64 ji103, .int .i64 a2_1] rfl (by (try simp only [List.map_toArray, List.map_cons, List.map_nil]); first | done | (simp only [hji103]; rfl) | rfl | (simp only [List.length_drop, List.length_take]; rfl)) ?_; (with_reducible refine (impl_rangeFrom.calls ji103 a2_1 t241 t242 _ A104.out).mono ?_); rintro e w123 ⟨rfl, hb⟩; refine ⟨_, rfl, ?_⟩; have n0_ := am (blk_below (g := gb219) (o := b2 a1_0 a1_1 24) (by (with_reducible repeat (first | refine blk_drewN ?_ _ | refine blk_drew ?_ | refine blk_alloc ?_ _)); refine blk_far ?_ NB219_231.out _; (with_reducible repeat (first | refine blk_drewN ?_ _ | refine blk_drew ?_ | refine blk_alloc ?_ _)); refine blk_far ?_ NB219_231.out _; (with_reducible repeat (first | refine blk_drewN ?_ _ | refine blk_drew ?_ | refine blk_alloc ?_ _)); exact BK219.out) hb); have n1_ := am (blk_below (g := gb220) (o := b2 a2_0 a2_1 24) (by (with_reducible repeat (first | refine blk_drewN ?_ _ | refine blk_drew ?_ | refine blk_alloc ?_ _)); refine blk_far ?_ NB220_231.out _; (with_reducible repeat (first | refine blk_drewN ?_ _ | refine blk_drew ?_ | refine blk_alloc ?_ _)); refine blk_far ?_ NB220_231.out _; (with_reducible repeat (first | refine blk_drewN ?_ _ | refine blk_drew ?_ | refine blk_alloc ?_ _)); exact BK220.out) hb); have n2_ := am (blk_below (g := gb221) (o := b2 0 0 24) (by (with_reducible repeat (first | refine blk_drewN ?_ _ | refine blk_drew ?_ | refine blk_alloc ?_ _)); refine blk_far ?_ NB221_231.out _; (with_reducible repeat (first | refine blk_drewN ?_ _ | refine blk_drew ?_ | refine blk_alloc ?_ _)); refine blk_far ?_ NB221_231.out _; (with_reducible repeat (first | refine blk_drewN ?_ _ | refine blk_drew ?_ | refine blk_alloc ?_ _)); exact BK221.out) hb); have n3_ := am (blk_below (g := gb222) (o := b2 0 0 24) (by (with_reducible repeat (first | refine blk_drewN ?_ _ | refine blk_drew ?_ | refine blk_alloc ?_ _)); refine blk_far ?_ NB222_231.out _; (with_reducible repeat (first | refine blk_drewN ?_ _ | refine blk_drew ?_ | refine blk_alloc ?_ _)); refine blk_far ?_ NB222_231.out _; (with_reducible repeat (first | refine blk_drewN ?_ _ | refine blk_drew ?_ | refine blk_alloc ?_ _)); exact BK222.out) hb); have n4_ := am (blk_below (g := gb231) (o := b2 t239 t240 24) (by (with_reducible repeat (first | refine blk_drewN ?_ _ | refine blk_drew ?_ | refine blk_alloc ?_ _)); refine blk_put (cs := #[.int .i64 t239, .int .i64 0]) ?_ 1 _ rfl; (with_reducible repeat (first | refine blk_drewN ?_ _ | refine blk_drew ?_ | refine blk_alloc ?_ _)); refine blk_put (cs := #[.int .i64 0, .int .i64 0]) ?_ 0 _ rfl; (with_reducible repeat (first | refine blk_drewN ?_ _ | refine blk_drew ?_ | refine blk_alloc ?_ _)); exact BK231.out) hb); have n5_ := am (blk_below (g := gb232) (o := b2 0 0 24) (by (with_reducible repeat (first | refine blk_drewN ?_ _ | refine blk_drew ?_ | refine blk_alloc ?_ _)); refine blk_far ?_ NB232_231.out _; (with_reducible repeat (first | refine blk_drewN ?_ _ | refine blk_drew ?_ | refine blk_alloc ?_ _)); refine blk_far ?_ NB232_231.out _; (with_reducible repeat (first | refine blk_drewN ?_ _ | refine blk_drew ?_ | refine blk_alloc ?_ _)); exact BK232.out) hb); have n6_ := am (below_step (Y6 HB GE219 GE220 GE221 GE222 GE231 GE232) hb); clear BK219; clear BK220; clear BK221; clear BK222; clear BK231; clear BK232; clear HB; have BK219 := n0_; have BK220 := n1_; have BK221 := n2_; have BK222 := n3_; have BK231 := n4_; have BK232 := n5_; have HB := n6_; clear n0_ n1_ n2_ n3_ n4_ n5_ n6_; (try clear hb); (try clear hb2); (try clear hk); (try clear hi); have hnb124 := NB232_221.out; have hnc124 := NB221_232.out; have hnb125 := NB232_222.out; have hnc125 := NB222_232.out; have hcz126_0 : w123.cell? ⟨gb232, 0, none⟩ = some (.int .i64 0) := bc BK232 0; have hcz126_1 : w123.cell? ⟨gb232, 1, none⟩ = some (.int .i64 0) := bc BK232 1; have hfz126_0 := blk_frozen BK232.out 0; have hfz126_1 := blk_frozen BK232.out 1))
        go_meet
        case rel => exact ⟨_, (0), (0), (0), (0), (t239), (t240), (t241), (t242), H', ⟨by have := HJ3.out; first | omega | exact Nat.le_refl _⟩, ⟨by (with_reducible repeat (first | refine blk_drewN ?_ _ | refine blk_drew ?_ | refine blk_alloc ?_ _)); refine blk_far ?_ NB219_232.out _; (with_reducible repeat (first | refine blk_drewN ?_ _ | refine blk_drew ?_ | refine blk_alloc ?_ _)); refine blk_far ?_ NB219_232.out _; (with_reducible repeat (first | refine blk_drewN ?_ _ | refine blk_drew ?_ | refine blk_alloc ?_ _)); exact BK219.out⟩, ⟨by (with_reducible repeat (first | refine blk_drewN ?_ _ | refine blk_drew ?_ | refine blk_alloc ?_ _)); refine blk_far ?_ NB220_232.out _; (with_reducible repeat (first | refine blk_drewN ?_ _ | refine blk_drew ?_ | refine blk_alloc ?_ _)); refine blk_far ?_ NB220_232.out _; (with_reducible repeat (first | refine blk_drewN ?_ _ | refine blk_drew ?_ | refine blk_alloc ?_ _)); exact BK220.out⟩, ⟨by (with_reducible repeat (first | refine blk_drewN ?_ _ | refine blk_drew ?_ | refine blk_alloc ?_ _)); refine blk_far ?_ NB221_232.out _; (with_reducible repeat (first | refine blk_drewN ?_ _ | refine blk_drew ?_ | refine blk_alloc ?_ _)); refine blk_far ?_ NB221_232.out _; (with_reducible repeat (first | refine blk_drewN ?_ _ | refine blk_drew ?_ | refine blk_alloc ?_ _)); exact BK221.out⟩, ⟨by (with_reducible repeat (first | refine blk_drewN ?_ _ | refine blk_drew ?_ | refine blk_alloc ?_ _)); refine blk_far ?_ NB222_232.out _; (with_reducible repeat (first | refine blk_drewN ?_ _ | refine blk_drew ?_ | refine blk_alloc ?_ _)); refine blk_far ?_ NB222_232.out _; (with_reducible repeat (first | refine blk_drewN ?_ _ | refine blk_drew ?_ | refine blk_alloc ?_ _)); exact BK222.out⟩, ⟨by (with_reducible repeat (first | refine blk_drewN ?_ _ | refine blk_drew ?_ | refine blk_alloc ?_ _)); refine blk_far ?_ NB231_232.out _; (with_reducible repeat (first | refine blk_drewN ?_ _ | refine blk_drew ?_ | refine blk_alloc ?_ _)); refine blk_far ?_ NB231_232.out _; (with_reducible repeat (first | refine blk_drewN ?_ _ | refine blk_drew ?_ | refine blk_alloc ?_ _)); exact BK231.out⟩, ⟨by (with_reducible repeat (first | refine blk_drewN ?_ _ | refine blk_drew ?_ | refine blk_alloc ?_ _)); refine blk_put (cs := #[.int .i64 t241, .int .i64 0]) ?_ 1 _ rfl; (with_reducible repeat (first | refine blk_drewN ?_ _ | refine blk_drew ?_ | refine blk_alloc ?_ _)); refine blk_put (cs := #[.int .i64 0, .int .i64 0]) ?_ 0 _ rfl; (with_reducible repeat (first | refine blk_drewN ?_ _ | refine blk_drew ?_ | refine blk_alloc ?_ _)); exact BK232.out⟩, ⟨Y6 HB GE219 GE220 GE221 GE222 GE231 GE232⟩⟩
       ·rw [if_neg c100] at H
        have c100b0 : (a0 == 3) = false := beq_eq_false_iff_ne.mpr c100
        have c100b1 : (a0 != 3) = true := bne_iff_ne.mpr c100
        by_cases c127 : a0 = 4
        ·rw [if_pos c127] at H
         have c127b0 : (a0 == 4) = true := beq_iff_eq.mpr c127
         have c127b1 : (a0 != 4) = false := bne_eq_false_iff_eq.mpr c127
         clear c127
         obtain ⟨ji128, hji128⟩ : ∃ j_ : Int, (mn a1_1 a2_1) = j_ := ⟨_, rfl⟩
         replace H : ((impl_rangeFrom.f a1_0 (ji128)).bind fun bt243 => ((impl_rangeFrom.f (mx a2_0 a1_0) a2_1).bind fun bt245 => (impl_RangeCmp.j2 kj3 bt243.1 bt243.2 bt245.1 bt245.2))) = some (r1, r2, r3, r4) := by first | (rw [hji128] at H; exact H) | (simp only [hji128] at H ⊢; exact H)
         have hji128_ : (if a2_1 < a1_1 then a2_1 else a1_1) = ji128 := hji128
         replace H := Option.bind_eq_some_iff.mp H
         obtain ⟨⟨t243, t244⟩, A1290, H⟩ := H
         replace H : ((impl_rangeFrom.f (mx a2_0 a1_0) a2_1).bind fun bt245 => (impl_RangeCmp.j2 kj3 t243 t244 bt245.1 bt245.2)) = some (r1, r2, r3, r4) := H
         have A129 := am A1290
         clear A1290
         obtain ⟨ji130, hji130⟩ : ∃ j_ : Int, (mx a2_0 a1_0) = j_ := ⟨_, rfl⟩
         replace H : ((impl_rangeFrom.f (ji130) a2_1).bind fun bt245 => (impl_RangeCmp.j2 kj3 t243 t244 bt245.1 bt245.2)) = some (r1, r2, r3, r4) := by first | (rw [hji130] at H; exact H) | (simp only [hji130] at H ⊢; exact H)
         (try rw [hji130] at A129)
         have hji130_ : (if a2_0 < a1_0 then a1_0 else a2_0) = ji130 := hji130
         replace H := Option.bind_eq_some_iff.mp H
         obtain ⟨⟨t245, t246⟩, A1310, H⟩ := H
         replace H : (impl_RangeCmp.j2 kj3 t243 t244 t245 t246) = some (r1, r2, r3, r4) := H
         have A131 := am A1310
         clear A1310
         have H' := am H
         clear H
         have hnb132 := NB219_220.out
         have hnc132 := NB220_219.out
         have hnb133 := NB219_221.out
         have hnc133 := NB221_219.out
         have hnb134 := NB219_222.out
         have hnc134 := NB222_219.out
         have hnb135 := NB219_231.out
         have hnc135 := NB231_219.out
         have hnb136 := NB219_232.out
         have hnc136 := NB232_219.out
         have hcz137_0 : w68.cell? ⟨gb219, 0, none⟩ = some (.int .i64 a1_0) := bc BK219 0
         have hcz137_1 : w68.cell? ⟨gb219, 1, none⟩ = some (.int .i64 a1_1) := bc BK219 1
         have hfz137_0 := blk_frozen BK219.out 0
         have hfz137_1 := blk_frozen BK219.out 1
         have hnb138 := NB220_221.out
         have hnc138 := NB221_220.out
         have hnb139 := NB220_222.out
         have hnc139 := NB222_220.out
         have hnb140 := NB220_231.out
         have hnc140 := NB231_220.out
         have hnb141 := NB220_232.out
         have hnc141 := NB232_220.out
         have hcz142_0 : w68.cell? ⟨gb220, 0, none⟩ = some (.int .i64 a2_0) := bc BK220 0
         have hcz142_1 : w68.cell? ⟨gb220, 1, none⟩ = some (.int .i64 a2_1) := bc BK220 1
         have hfz142_0 := blk_frozen BK220.out 0
         have hfz142_1 := blk_frozen BK220.out 1
         go_wp2_with (first | ((with_reducible refine gate_callee (f := 55) rfl ?_); refine goesL_ (some 74) rfl rfl Try.func55 (by kernel_rfl) rfl #[.int .i64 a1_0, .int .i64 ji128] rfl (by (try simp only [List.map_toArray, List.map_cons, List.map_nil]); first | done | (simp only [hji128]; rfl) | rfl | (simp only [List.length_drop, List.length_take]; rfl)) ?_; (with_reducible refine (impl_rangeFrom.calls a1_0 ji128 t243 t244 _ A129.out).mono ?_); rintro e w143 ⟨rfl, hb⟩; refine ⟨_, rfl, ?_⟩; have n0_ := am (blk_below (g := gb219) (o := b2 a1_0 a1_1 24) (Z BK219) hb); have n1_ := am (blk_below (g := gb220) (o := b2 a2_0 a2_1 24) (Z BK220) hb); have n2_ := am (blk_below (g := gb221) (o := b2 0 0 24) (Z BK221) hb); have n3_ := am (blk_below (g := gb222) (o := b2 0 0 24) (Z BK222) hb); have n4_ := am (blk_below (g := gb231) (o := b2 0 0 24) (Z BK231) hb); have n5_ := am (blk_below (g := gb232) (o := b2 0 0 24) (Z BK232) hb); have n6_ := am (below_step (Y6 HB GE219 GE220 GE221 GE222 GE231 GE232) hb); clear BK219; clear BK220; clear BK221; clear BK222; clear BK231; clear BK232; clear HB; have BK219 := n0_; have BK220 := n1_; have BK221 := n2_; have BK222 := n3_; have BK231 := n4_; have BK232 := n5_; have HB := n6_; clear n0_ n1_ n2_ n3_ n4_ n5_ n6_; (try clear hb); (try clear hb2); (try clear hk); (try clear hi); have hnb144 := NB231_221.out; have hnc144 := NB221_231.out; have hnb145 := NB231_222.out; have hnc145 := NB222_231.out; have hnb146 := NB231_232.out; have hnc146 := NB232_231.out; have hcz147_0 : w143.cell? ⟨gb231, 0, none⟩ = some (.int .i64 0) := bc BK231 0; have hcz147_1 : w143.cell? ⟨gb231, 1, none⟩ = some (.int .i64 0) := bc BK231 1; have hfz147_0 := blk_frozen BK231.out 0; have hfz147_1 := blk_frozen BK231.out 1; have hcz148_0 : w143.cell? ⟨gb220, 0, none⟩ = some (.int .i64 a2_0) := bc BK220 0; have hcz148_1 : w143.cell? ⟨gb220, 1, none⟩ = some (.int .i64 a2_1) := bc BK220 1; have hfz148_0 := blk_frozen BK220.out 0; have hfz148_1 := blk_frozen BK220.out 1; have hcz149_0 : w143.cell? ⟨gb219, 0, none⟩ = some (.int .i64 a1_0) := bc BK219 0; have hcz149_1 : w143.cell? ⟨gb219, 1, none⟩ = some (.int .i64 a1_1) := bc BK219 1; have hfz149_0 := blk_frozen BK219.out 0; have hfz149_1 := blk_frozen BK219.out 1) | ((with_reducible refine gate_callee (f := 55) rfl ?_); refine goesL_ (some 82) rfl rfl Try.func55 (by kernel_rfl) rfl #[.int .i64 ji130, .int .i64 a2_1] rfl (by (try simp only [List.map_toArray, List.map_cons, List.map_nil]); first | done | (simp only [hji130]; rfl) | rfl | (simp only [List.length_drop, List.length_take]; rfl)) ?_; (with_reducible refine (impl_rangeFrom.calls ji130 a2_1 t245 t246 _ A131.out).mono ?_); rintro e w150 ⟨rfl, hb⟩; refine ⟨_, rfl, ?_⟩; have n0_ := am (blk_below (g := gb219) (o := b2 a1_0 a1_1 24) (by (with_reducible repeat (first | refine blk_drewN ?_ _ | refine blk_drew ?_ | refine blk_alloc ?_ _)); refine blk_far ?_ NB219_231.out _; (with_reducible repeat (first | refine blk_drewN ?_ _ | refine blk_drew ?_ | refine blk_alloc ?_ _)); refine blk_far ?_ NB219_231.out _; (with_reducible repeat (first | refine blk_drewN ?_ _ | refine blk_drew ?_ | refine blk_alloc ?_ _)); exact BK219.out) hb); have n1_ := am (blk_below (g := gb220) (o := b2 a2_0 a2_1 24) (by (with_reducible repeat (first | refine blk_drewN ?_ _ | refine blk_drew ?_ | refine blk_alloc ?_ _)); refine blk_far ?_ NB220_231.out _; (with_reducible repeat (first | refine blk_drewN ?_ _ | refine blk_drew ?_ | refine blk_alloc ?_ _)); refine blk_far ?_ NB220_231.out _; (with_reducible repeat (first | refine blk_drewN ?_ _ | refine blk_drew ?_ | refine blk_alloc ?_ _)); exact BK220.out) hb); have n2_ := am (blk_below (g := gb221) (o := b2 0 0 24) (by (with_reducible repeat (first | refine blk_drewN ?_ _ | refine blk_drew ?_ | refine blk_alloc ?_ _)); refine blk_far ?_ NB221_231.out _; (with_reducible repeat (first | refine blk_drewN ?_ _ | refine blk_drew ?_ | refine blk_alloc ?_ _)); refine blk_far ?_ NB221_231.out _; (with_reducible repeat (first | refine blk_drewN ?_ _ | refine blk_drew ?_ | refine blk_alloc ?_ _)); exact BK221.out) hb); have n3_ := am (blk_below (g := gb222) (o := b2 0 0 24) (by (with_reducible repeat (first | refine blk_drewN ?_ _ | refine blk_drew ?_ | refine blk_alloc ?_ _)); refine blk_far ?_ NB222_231.out _; (with_reducible repeat (first | refine blk_drewN ?_ _ | refine blk_drew ?_ | refine blk_alloc ?_ _)); refine blk_far ?_ NB222_231.out _; (with_reducible repeat (first | refine blk_drewN ?_ _ | refine blk_drew ?_ | refine blk_alloc ?_ _)); exact BK222.out) hb); have n4_ := am (blk_below (g := gb231) (o := b2 t243 t244 24) (by (with_reducible repeat (first | refine blk_drewN ?_ _ | refine blk_drew ?_ | refine blk_alloc ?_ _)); refine blk_put (cs := #[.int .i64 t243, .int .i64 0]) ?_ 1 _ rfl; (with_reducible repeat (first | refine blk_drewN ?_ _ | refine blk_drew ?_ | refine blk_alloc ?_ _)); refine blk_put (cs := #[.int .i64 0, .int .i64 0]) ?_ 0 _ rfl; (with_reducible repeat (first | refine blk_drewN ?_ _ | refine blk_drew ?_ | refine blk_alloc ?_ _)); exact BK231.out) hb); have n5_ := am (blk_below (g := gb232) (o := b2 0 0 24) (by (with_reducible repeat (first | refine blk_drewN ?_ _ | refine blk_drew ?_ | refine blk_alloc ?_ _)); refine blk_far ?_ NB232_231.out _; (with_reducible repeat (first | refine blk_drewN ?_ _ | refine blk_drew ?_ | refine blk_alloc ?_ _)); refine blk_far ?_ NB232_231.out _; (with_reducible repeat (first | refine blk_drewN ?_ _ | refine blk_drew ?_ | refine blk_alloc ?_ _)); exact BK232.out) hb); have n6_ := am (below_step (Y6 HB GE219 GE220 GE221 GE222 GE231 GE232) hb); clear BK219; clear BK220; clear BK221; clear BK222; clear BK231; clear BK232; clear HB; have BK219 := n0_; have BK220 := n1_; have BK221 := n2_; have BK222 := n3_; have BK231 := n4_; have BK232 := n5_; have HB := n6_; clear n0_ n1_ n2_ n3_ n4_ n5_ n6_; (try clear hb); (try clear hb2); (try clear hk); (try clear hi); have hnb151 := NB232_221.out; have hnc151 := NB221_232.out; have hnb152 := NB232_222.out; have hnc152 := NB222_232.out; have hcz153_0 : w150.cell? ⟨gb232, 0, none⟩ = some (.int .i64 0) := bc BK232 0; have hcz153_1 : w150.cell? ⟨gb232, 1, none⟩ = some (.int .i64 0) := bc BK232 1; have hfz153_0 := blk_frozen BK232.out 0; have hfz153_1 := blk_frozen BK232.out 1))
         go_meet
         case rel => exact ⟨_, (0), (0), (0), (0), (t243), (t244), (t245), (t246), H', ⟨by have := HJ3.out; first | omega | exact Nat.le_refl _⟩, ⟨by (with_reducible repeat (first | refine blk_drewN ?_ _ | refine blk_drew ?_ | refine blk_alloc ?_ _)); refine blk_far ?_ NB219_232.out _; (with_reducible repeat (first | refine blk_drewN ?_ _ | refine blk_drew ?_ | refine blk_alloc ?_ _)); refine blk_far ?_ NB219_232.out _; (with_reducible repeat (first | refine blk_drewN ?_ _ | refine blk_drew ?_ | refine blk_alloc ?_ _)); exact BK219.out⟩, ⟨by (with_reducible repeat (first | refine blk_drewN ?_ _ | refine blk_drew ?_ | refine blk_alloc ?_ _)); refine blk_far ?_ NB220_232.out _; (with_reducible repeat (first | refine blk_drewN ?_ _ | refine blk_drew ?_ | refine blk_alloc ?_ _)); refine blk_far ?_ NB220_232.out _; (with_reducible repeat (first | refine blk_drewN ?_ _ | refine blk_drew ?_ | refine blk_alloc ?_ _)); exact BK220.out⟩, ⟨by (with_reducible repeat (first | refine blk_drewN ?_ _ | refine blk_drew ?_ | refine blk_alloc ?_ _)); refine blk_far ?_ NB221_232.out _; (with_reducible repeat (first | refine blk_drewN ?_ _ | refine blk_drew ?_ | refine blk_alloc ?_ _)); refine blk_far ?_ NB221_232.out _; (with_reducible repeat (first | refine blk_drewN ?_ _ | refine blk_drew ?_ | refine blk_alloc ?_ _)); exact BK221.out⟩, ⟨by (with_reducible repeat (first | refine blk_drewN ?_ _ | refine blk_drew ?_ | refine blk_alloc ?_ _)); refine blk_far ?_ NB222_232.out _; (with_reducible repeat (first | refine blk_drewN ?_ _ | refine blk_drew ?_ | refine blk_alloc ?_ _)); refine blk_far ?_ NB222_232.out _; (with_reducible repeat (first | refine blk_drewN ?_ _ | refine blk_drew ?_ | refine blk_alloc ?_ _)); exact BK222.out⟩, ⟨by (with_reducible repeat (first | refine blk_drewN ?_ _ | refine blk_drew ?_ | refine blk_alloc ?_ _)); refine blk_far ?_ NB231_232.out _; (with_reducible repeat (first | refine blk_drewN ?_ _ | refine blk_drew ?_ | refine blk_alloc ?_ _)); refine blk_far ?_ NB231_232.out _; (with_reducible repeat (first | refine blk_drewN ?_ _ | refine blk_drew ?_ | refine blk_alloc ?_ _)); exact BK231.out⟩, ⟨by (with_reducible repeat (first | refine blk_drewN ?_ _ | refine blk_drew ?_ | refine blk_alloc ?_ _)); refine blk_put (cs := #[.int .i64 t245, .int .i64 0]) ?_ 1 _ rfl; (with_reducible repeat (first | refine blk_drewN ?_ _ | refine blk_drew ?_ | refine blk_alloc ?_ _)); refine blk_put (cs := #[.int .i64 0, .int .i64 0]) ?_ 0 _ rfl; (with_reducible repeat (first | refine blk_drewN ?_ _ | refine blk_drew ?_ | refine blk_alloc ?_ _)); exact BK232.out⟩, ⟨Y6 HB GE219 GE220 GE221 GE222 GE231 GE232⟩⟩
        ·rw [if_neg c127] at H
         have c127b0 : (a0 == 4) = false := beq_eq_false_iff_ne.mpr c127
         have c127b1 : (a0 != 4) = true := bne_iff_ne.mpr c127
         have HC154 := am H
         clear H
         go_upto_if 83 with (fail)
         go_cut [83] (fun v83 wc => ∃ (kq : Nat) (x83_153 : Bool), v83 = .bool x83_153 ∧ Aside0 (impl_RangeCmp.j1 kq a0 x83_153 a1_0 a1_1 a2_0 a2_1 = some (r1, r2, r3, r4)) ∧ Aside0 (kq ≤ kj3) ∧ Aside0 (wc.heap[gb219]? = some (.cells #[.int .i64 a1_0, .int .i64 a1_1] 24 (0, 0))) ∧ Aside0 (wc.heap[gb220]? = some (.cells #[.int .i64 a2_0, .int .i64 a2_1] 24 (0, 0))) ∧ Aside0 (wc.heap[gb221]? = some (.cells #[.int .i64 0, .int .i64 0] 24 (0, 0))) ∧ Aside0 (wc.heap[gb222]? = some (.cells #[.int .i64 0, .int .i64 0] 24 (0, 0))) ∧ Aside0 (wc.heap[gb231]? = some (.cells #[.int .i64 0, .int .i64 0] 24 (0, 0))) ∧ Aside0 (wc.heap[gb232]? = some (.cells #[.int .i64 0, .int .i64 0] 24 (0, 0))) ∧ Aside0 (Below w.heap.size w wc))
         case first =>
          have H := HC154.out
          clear HC154
          by_cases c155 : a0 = 5
          ·rw [if_pos c155] at H
           have c155b0 : (a0 == 5) = true := beq_iff_eq.mpr c155
           have c155b1 : (a0 != 5) = false := bne_eq_false_iff_eq.mpr c155
           clear c155
           (first | rw [c155b0] | (simp only [i64_w, i32_w]; rw [c155b0]) | skip)
           have H' := am H
           clear H
           go_wp2
           go_meet
           case rel => exact ⟨_, ((a0 == 5)), (by first | rfl | (simp; done) | (simp [*]; done)), H', ⟨by have := HJ3.out; first | omega | exact Nat.le_refl _⟩, ⟨Z BK219⟩, ⟨Z BK220⟩, ⟨Z BK221⟩, ⟨Z BK222⟩, ⟨Z BK231⟩, ⟨Z BK232⟩, ⟨Y6 HB GE219 GE220 GE221 GE222 GE231 GE232⟩⟩
          ·rw [if_neg c155] at H
           have c155b0 : (a0 == 5) = false := beq_eq_false_iff_ne.mpr c155
           have c155b1 : (a0 != 5) = true := bne_iff_ne.mpr c155
           (first | rw [c155b0] | (simp only [i64_w, i32_w]; rw [c155b0]) | skip)
           have H' := am H
           clear H
           go_wp2
           go_meet
           case rel => exact ⟨_, ((a0 == 6)), (by first | rfl | (simp; done) | (simp [*]; done)), H', ⟨by have := HJ3.out; first | omega | exact Nat.le_refl _⟩, ⟨Z BK219⟩, ⟨Z BK220⟩, ⟨Z BK221⟩, ⟨Z BK222⟩, ⟨Z BK231⟩, ⟨Z BK232⟩, ⟨Y6 HB GE219 GE220 GE221 GE222 GE231 GE232⟩⟩
         case rest =>
          clear HC154
          try clear c1
          try clear c2
          try clear p2
          try clear c3
          try clear c4
          try clear c5
          try clear c6
          try clear p6
          try clear c7
          try clear c8
          try clear c9
          try clear c10
          try clear c11
          try clear c12
          try clear c13
          try clear c14
          try clear c15
          try clear c16
          try clear c17
          try clear c20
          try clear c21
          try clear c26
          try clear c27
          try clear c28
          try clear c29
          try clear c32
          try clear c33
          try clear c40
          try clear c41
          try clear c42
          try clear c45
          try clear c46
          try clear c49
          try clear c50
          try clear c51
          try clear c52
          try clear c54
          try clear c55
          try clear c59
          try clear c60
          try clear c61
          try clear c63
          try clear c64
          try clear p64
          try clear c69
          try clear c69b0
          try clear c69b1
          try clear c71
          try clear c72
          try clear c73
          try clear c74
          try clear c75
          try clear c77
          try clear c78
          try clear c79
          try clear c80
          try clear c83
          try clear c84
          try clear c85
          try clear c87
          try clear c88
          try clear c90
          try clear c90b0
          try clear c90b1
          try clear c100
          try clear c100b0
          try clear c100b1
          try clear c105
          try clear c106
          try clear c107
          try clear c108
          try clear c109
          try clear c111
          try clear c112
          try clear c113
          try clear c114
          try clear c117
          try clear c118
          try clear c119
          try clear c124
          try clear c125
          try clear c127
          try clear c127b0
          try clear c127b1
          try clear c132
          try clear c133
          try clear c134
          try clear c135
          try clear c136
          try clear c138
          try clear c139
          try clear c140
          try clear c141
          try clear c144
          try clear c145
          try clear c146
          try clear c151
          try clear c152
          try clear c155
          try clear c155b0
          try clear c155b1
          try clear hcz110_0
          try clear hcz110_1
          try clear hcz115_0
          try clear hcz115_1
          try clear hcz120_0
          try clear hcz120_1
          try clear hcz121_0
          try clear hcz121_1
          try clear hcz122_0
          try clear hcz122_1
          try clear hcz126_0
          try clear hcz126_1
          try clear hcz137_0
          try clear hcz137_1
          try clear hcz142_0
          try clear hcz142_1
          try clear hcz147_0
          try clear hcz147_1
          try clear hcz148_0
          try clear hcz148_1
          try clear hcz149_0
          try clear hcz149_1
          try clear hcz153_0
          try clear hcz153_1
          try clear hcz18_0
          try clear hcz18_1
          try clear hcz22_0
          try clear hcz22_1
          try clear hcz24_0
          try clear hcz24_1
          try clear hcz30_0
          try clear hcz30_1
          try clear hcz34_0
          try clear hcz34_1
          try clear hcz36_0
          try clear hcz36_1
          try clear hcz38_0
          try clear hcz38_1
          try clear hcz43_0
          try clear hcz43_1
          try clear hcz47_0
          try clear hcz47_1
          try clear hcz52_0
          try clear hcz52_1
          try clear hcz62_0
          try clear hcz62_1
          try clear hcz65_0
          try clear hcz65_1
          try clear hcz76_0
          try clear hcz76_1
          try clear hcz81_0
          try clear hcz81_1
          try clear hcz86_0
          try clear hcz86_1
          try clear hcz89_0
          try clear hcz89_1
          try clear hfz110_0
          try clear hfz110_1
          try clear hfz115_0
          try clear hfz115_1
          try clear hfz120_0
          try clear hfz120_1
          try clear hfz121_0
          try clear hfz121_1
          try clear hfz122_0
          try clear hfz122_1
          try clear hfz126_0
          try clear hfz126_1
          try clear hfz137_0
          try clear hfz137_1
          try clear hfz142_0
          try clear hfz142_1
          try clear hfz147_0
          try clear hfz147_1
          try clear hfz148_0
          try clear hfz148_1
          try clear hfz149_0
          try clear hfz149_1
          try clear hfz153_0
          try clear hfz153_1
          try clear hfz18_0
          try clear hfz18_1
          try clear hfz22_0
          try clear hfz22_1
          try clear hfz24_0
          try clear hfz24_1
          try clear hfz30_0
          try clear hfz30_1
          try clear hfz34_0
          try clear hfz34_1
          try clear hfz36_0
          try clear hfz36_1
          try clear hfz38_0
          try clear hfz38_1
          try clear hfz43_0
          try clear hfz43_1
          try clear hfz47_0
          try clear hfz47_1
          try clear hfz52_0
          try clear hfz52_1
          try clear hfz62_0
          try clear hfz62_1
          try clear hfz65_0
          try clear hfz65_1
          try clear hfz76_0
          try clear hfz76_1
          try clear hfz81_0
          try clear hfz81_1
          try clear hfz86_0
          try clear hfz86_1
          try clear hfz89_0
          try clear hfz89_1
          try clear p2
          obtain ⟨kq, x83_153, rfl, HA, HJ153, BK219, BK220, BK221, BK222, BK231, BK232, HB⟩ := hcut
          cases kq with
          | zero => exact absurd HA.out (by simp [impl_RangeCmp.j1])
          | succ kj153 =>
           have H := HA.out
           clear HA
           simp only [impl_RangeCmp.j1] at H
           by_cases c156 : x83_153 = true
           ·subst c156
            have H1 : ((impl_CmpTurn.f kj153 a0).bind fun t247 => ((impl_RangeCmp.f kj153 t247 a2_0 a2_1 a1_0 a1_1).bind fun bt248 => (impl_RangeCmp.j2 kj153 bt248.2.2.1 bt248.2.2.2 bt248.1 bt248.2.1))) = some (r1, r2, r3, r4) := by rw [if_pos rfl] at H; exact H
            clear H
            have H := H1
            clear H1
            replace H := Option.bind_eq_some_iff.mp H
            obtain ⟨t247, A1570, H⟩ := H
            replace H : ((impl_RangeCmp.f kj153 t247 a2_0 a2_1 a1_0 a1_1).bind fun bt248 => (impl_RangeCmp.j2 kj153 bt248.2.2.1 bt248.2.2.2 bt248.1 bt248.2.1)) = some (r1, r2, r3, r4) := H
            have A157 := am A1570
            clear A1570
            replace H := Option.bind_eq_some_iff.mp H
            obtain ⟨⟨t248, t249, t250, t251⟩, A1580, H⟩ := H
            replace H : (impl_RangeCmp.j2 kj153 t250 t251 t248 t249) = some (r1, r2, r3, r4) := H
            have A158 := am A1580
            clear A1580
            have H' := am H
            clear H
            try go_wp2
            have n0_ := am (blk_drew BK219.out)
            have n1_ := am (blk_drew BK220.out)
            have n2_ := am (blk_drew BK221.out)
            have n3_ := am (blk_drew BK222.out)
            have n4_ := am (blk_drew BK231.out)
            have n5_ := am (blk_drew BK232.out)
            have n6_ := am (below_drew1 HB.out)
            clear BK219
            clear BK220
            clear BK221
            clear BK222
            clear BK231
            clear BK232
            clear HB
            have BK219 := n0_
            have BK220 := n1_
            have BK221 := n2_
            have BK222 := n3_
            have BK231 := n4_
            have BK232 := n5_
            have HB := n6_
            clear n0_ n1_ n2_ n3_ n4_ n5_ n6_
            refine start_ (n := 10) (S := fun w' => w'.cell? ⟨gb220, 0, none⟩ = some (.int .i64 a2_0) ∧ w'.cell? ⟨gb220, 1, none⟩ = some (.int .i64 a2_1) ∧ w'.cell? ⟨gb219, 0, none⟩ = some (.int .i64 a1_0) ∧ w'.cell? ⟨gb219, 1, none⟩ = some (.int .i64 a1_1)) (ds := []) #[F, F, F, F, F, F, F, F, F, F] (by kernel_rfl) rfl rfl ⟨bc BK220 0, bc BK220 1, bc BK219 0, bc BK219 1⟩ (fun hHeld => ?_); refine with_tabW impl_RangeCmp.tab19 impl_RangeCmp.bits19 (fun HT_ HW_ => ?_)
            generalize wc.drew = w159 at BK219 BK220 BK221 BK222 BK231 BK232 HB hHeld ⊢
            refine pure_ (i := 0) (N := some 87) (v := ?_) (a' := ?_) #[T, F, F, F, F, F, F, F, F, F] rfl rfl (any_of HT_.out (by kernel_rfl)) (fun _ _ _ h => h) (Or.inl ⟨by rfl, ?_⟩) ?_ ?_
            rotate_left
            ·exact gz
            rotate_left
            ·exact pz
            refine take_ (i := 2) (N := some 89) (v := ?_) (a' := ?_) #[T, F, T, F, F, F, F, F, F, F] rfl rfl (take_ofW HT_.out HW_.out (by kernel_rfl)) (fun _ _ _ h => h) (Or.inl ⟨by rfl, ?_⟩) hHeld ?_ ?_
            rotate_left
            ·rintro w' ⟨s0, s1, s2, s3⟩
             go_simp
             with_reducible rfl
            rotate_left
            ·exact pz
            refine take_ (i := 3) (N := some 90) (v := ?_) (a' := ?_) #[T, F, T, T, F, F, F, F, F, F] rfl rfl (take_ofW HT_.out HW_.out (by kernel_rfl)) (fun _ _ _ h => h) (Or.inl ⟨by rfl, ?_⟩) hHeld ?_ ?_
            rotate_left
            ·rintro w' ⟨s0, s1, s2, s3⟩
             go_simp
             with_reducible rfl
            rotate_left
            ·exact pz
            refine one_ (i := 1) (N := some 88) #[T, T, T, T, F, F, F, F, F, F] rfl rfl (one_of HT_.out (by kernel_rfl)) (by decide) (fun K hK => ?_)
            refine goes_ Try.func62 (by kernel_rfl) rfl #[.int .i64 a0] (by rfl) rfl rfl mz ?_
            with_reducible refine (impl_CmpTurn.calls kj153 a0 t247 _ A157.out).mono ?_
            rintro e w' ⟨rfl, ⟨nd, rfl⟩⟩
            refine ⟨_, rfl, ?_⟩
            refine hK.out _ _ ⟨bc BK220 0, bc BK220 1, bc BK219 0, bc BK219 1⟩ (fun hHeld => ?_)
            clear hK K
            refine norm_ (a' := ?_) ?_ ?_
            rotate_left
            ·show Act.put _ (some 88) _ = _
             simp only [Act.put, List.setIfInBounds_toArray, List.set_cons_zero, List.set_cons_succ, i64_w, i32_w]
             rfl
            refine one_ (i := 4) (N := some 91) #[T, T, T, T, T, F, F, F, F, F] rfl rfl (one_of HT_.out (by kernel_rfl)) (by decide) (fun K hK => ?_)
            refine goes_ Try.func26 (by kernel_rfl) rfl #[.int .i64 t247, .agg #[.int .i64 a2_0, .int .i64 a2_1], .agg #[.int .i64 a1_0, .int .i64 a1_1]] (by rfl) rfl rfl mz ?_
            with_reducible refine (ih kj153 (by have := HJ3.out; have := HJ153.out; omega) t247 a2_0 a2_1 a1_0 a1_1 t248 t249 t250 t251 _ A158.out).mono ?_
            rintro e w160 ⟨rfl, hb⟩
            refine ⟨_, rfl, ?_⟩
            have n0_ := am (blk_below (g := gb219) (o := b2 a1_0 a1_1 24) (Z BK219) hb)
            have n1_ := am (blk_below (g := gb220) (o := b2 a2_0 a2_1 24) (Z BK220) hb)
            have n2_ := am (blk_below (g := gb221) (o := b2 0 0 24) (Z BK221) hb)
            have n3_ := am (blk_below (g := gb222) (o := b2 0 0 24) (Z BK222) hb)
            have n4_ := am (blk_below (g := gb231) (o := b2 0 0 24) (Z BK231) hb)
            have n5_ := am (blk_below (g := gb232) (o := b2 0 0 24) (Z BK232) hb)
            have n6_ := am (below_step (Y6 HB GE219 GE220 GE221 GE222 GE231 GE232) hb)
            clear BK219
            clear BK220
            clear BK221
            clear BK222
            clear BK231
            clear BK232
            clear HB
            have BK219 := n0_
            have BK220 := n1_
            have BK221 := n2_
            have BK222 := n3_
            have BK231 := n4_
            have BK232 := n5_
            have HB := n6_
            clear n0_ n1_ n2_ n3_ n4_ n5_ n6_
            (try clear hb)
            (try clear hb2)
            (try clear hk)
            (try clear hi)
            refine hK.out _ _ ⟨bc BK220 0, bc BK220 1, bc BK219 0, bc BK219 1⟩ (fun hHeld => ?_)
            clear hK K
            refine norm_ (a' := ?_) ?_ ?_
            rotate_left
            ·show Act.put _ (some 91) _ = _
             simp only [Act.put, List.setIfInBounds_toArray, List.set_cons_zero, List.set_cons_succ, i64_w, i32_w]
             rfl
            refine pure_ (i := 5) (N := some 86) (v := ?_) (a' := ?_) #[T, T, T, T, T, T, F, F, F, F] rfl rfl (any_of HT_.out (by kernel_rfl)) (fun _ _ _ h => h) (Or.inl ⟨by rfl, ?_⟩) ?_ ?_
            rotate_left
            ·exact gz
            rotate_left
            ·exact pz
            refine pure_ (i := 6) (N := some 92) (v := ?_) (a' := ?_) #[T, T, T, T, T, T, T, F, F, F] rfl rfl (any_of HT_.out (by kernel_rfl)) (fun _ _ _ h => h) (Or.inl ⟨by rfl, ?_⟩) ?_ ?_
            rotate_left
            ·exact gz
            rotate_left
            ·exact pz
            refine pure_ (i := 7) (N := some 93) (v := ?_) (a' := ?_) #[T, T, T, T, T, T, T, T, F, F] rfl rfl (any_of HT_.out (by kernel_rfl)) (fun _ _ _ h => h) (Or.inl ⟨by rfl, ?_⟩) ?_ ?_
            rotate_left
            ·exact gz
            rotate_left
            ·exact pz
            refine one_ (i := 8) (N := none) #[T, T, T, T, T, T, T, T, T, F] rfl rfl (one_of HT_.out (by kernel_rfl)) (by decide) (fun K hK => ?_)
            have hs161 : w160.cell? ⟨gb232, 0, none⟩ = some (.int .i64 0) := bc BK232 0
            have hfs161 := blk_frozen BK232.out 0
            have hns161_0 := NB219_232.out
            have hns161_1 := NB220_232.out
            have hns161_2 := NB221_232.out
            have hns161_3 := NB222_232.out
            have hns161_4 := NB231_232.out
            have hms161_0 := NB232_219.out
            have hms161_1 := NB232_220.out
            have hms161_2 := NB232_221.out
            have hms161_3 := NB232_222.out
            have hms161_4 := NB232_231.out
            have hs162 : w160.cell? ⟨gb232, 1, none⟩ = some (.int .i64 0) := bc BK232 1
            have hfs162 := blk_frozen BK232.out 1
            have hns162_0 := NB219_232.out
            have hns162_1 := NB220_232.out
            have hns162_2 := NB221_232.out
            have hns162_3 := NB222_232.out
            have hns162_4 := NB231_232.out
            have hms162_0 := NB232_219.out
            have hms162_1 := NB232_220.out
            have hms162_2 := NB232_221.out
            have hms162_3 := NB232_222.out
            have hms162_4 := NB232_231.out
            refine skip_ (w1 := ?_) (by rfl) rfl ?_ ?_
            rotate_left
            ·go_simp
             rfl
            refine hK.out _ _ ⟨((cell_far (p := ⟨gb232, _, none⟩) NB220_232.out _).trans (((cell_far (p := ⟨gb232, _, none⟩) NB220_232.out _).trans (hHeld.1)))), ((cell_far (p := ⟨gb232, _, none⟩) NB220_232.out _).trans (((cell_far (p := ⟨gb232, _, none⟩) NB220_232.out _).trans (hHeld.2.1)))), ((cell_far (p := ⟨gb232, _, none⟩) NB219_232.out _).trans (((cell_far (p := ⟨gb232, _, none⟩) NB219_232.out _).trans (hHeld.2.2.1)))), ((cell_far (p := ⟨gb232, _, none⟩) NB219_232.out _).trans (((cell_far (p := ⟨gb232, _, none⟩) NB219_232.out _).trans (hHeld.2.2.2))))⟩ (fun hHeld => ?_)
            clear hK K
            refine one_ (i := 9) (N := none) #[T, T, T, T, T, T, T, T, T, T] rfl rfl (one_of HT_.out (by kernel_rfl)) (by decide) (fun K hK => ?_)
            have hs163 : w160.cell? ⟨gb231, 0, none⟩ = some (.int .i64 0) := bc BK231 0
            have hfs163 := blk_frozen BK231.out 0
            have hns163_0 := NB219_231.out
            have hns163_1 := NB220_231.out
            have hns163_2 := NB221_231.out
            have hns163_3 := NB222_231.out
            have hns163_5 := NB232_231.out
            have hms163_0 := NB231_219.out
            have hms163_1 := NB231_220.out
            have hms163_2 := NB231_221.out
            have hms163_3 := NB231_222.out
            have hms163_5 := NB231_232.out
            have hs164 : w160.cell? ⟨gb231, 1, none⟩ = some (.int .i64 0) := bc BK231 1
            have hfs164 := blk_frozen BK231.out 1
            have hns164_0 := NB219_231.out
            have hns164_1 := NB220_231.out
            have hns164_2 := NB221_231.out
            have hns164_3 := NB222_231.out
            have hns164_5 := NB232_231.out
            have hms164_0 := NB231_219.out
            have hms164_1 := NB231_220.out
            have hms164_2 := NB231_221.out
            have hms164_3 := NB231_222.out
            have hms164_5 := NB231_232.out
            refine skip_ (w1 := ?_) (by rfl) rfl ?_ ?_
            rotate_left
            ·go_simp
             rfl
            refine hK.out _ _ ⟨((cell_far (p := ⟨gb231, _, none⟩) NB220_231.out _).trans (((cell_far (p := ⟨gb231, _, none⟩) NB220_231.out _).trans (hHeld.1)))), ((cell_far (p := ⟨gb231, _, none⟩) NB220_231.out _).trans (((cell_far (p := ⟨gb231, _, none⟩) NB220_231.out _).trans (hHeld.2.1)))), ((cell_far (p := ⟨gb231, _, none⟩) NB219_231.out _).trans (((cell_far (p := ⟨gb231, _, none⟩) NB219_231.out _).trans (hHeld.2.2.1)))), ((cell_far (p := ⟨gb231, _, none⟩) NB219_231.out _).trans (((cell_far (p := ⟨gb231, _, none⟩) NB219_231.out _).trans (hHeld.2.2.2))))⟩ (fun hHeld => ?_)
            clear hK K
            refine done_ (done_of HT_.out (by kernel_rfl)) ?_
            try go_wp2
            go_meet
            case rel => exact ⟨_, (0), (0), (0), (0), (t250), (t251), (t248), (t249), H', ⟨by have := HJ3.out; have := HJ153.out; first | omega | exact Nat.le_refl _⟩, ⟨by (with_reducible repeat (first | refine blk_drewN ?_ _ | refine blk_drew ?_ | refine blk_alloc ?_ _)); refine blk_far ?_ NB219_231.out _; (with_reducible repeat (first | refine blk_drewN ?_ _ | refine blk_drew ?_ | refine blk_alloc ?_ _)); refine blk_far ?_ NB219_231.out _; (with_reducible repeat (first | refine blk_drewN ?_ _ | refine blk_drew ?_ | refine blk_alloc ?_ _)); refine blk_far ?_ NB219_232.out _; (with_reducible repeat (first | refine blk_drewN ?_ _ | refine blk_drew ?_ | refine blk_alloc ?_ _)); refine blk_far ?_ NB219_232.out _; (with_reducible repeat (first | refine blk_drewN ?_ _ | refine blk_drew ?_ | refine blk_alloc ?_ _)); exact BK219.out⟩, ⟨by (with_reducible repeat (first | refine blk_drewN ?_ _ | refine blk_drew ?_ | refine blk_alloc ?_ _)); refine blk_far ?_ NB220_231.out _; (with_reducible repeat (first | refine blk_drewN ?_ _ | refine blk_drew ?_ | refine blk_alloc ?_ _)); refine blk_far ?_ NB220_231.out _; (with_reducible repeat (first | refine blk_drewN ?_ _ | refine blk_drew ?_ | refine blk_alloc ?_ _)); refine blk_far ?_ NB220_232.out _; (with_reducible repeat (first | refine blk_drewN ?_ _ | refine blk_drew ?_ | refine blk_alloc ?_ _)); refine blk_far ?_ NB220_232.out _; (with_reducible repeat (first | refine blk_drewN ?_ _ | refine blk_drew ?_ | refine blk_alloc ?_ _)); exact BK220.out⟩, ⟨by (with_reducible repeat (first | refine blk_drewN ?_ _ | refine blk_drew ?_ | refine blk_alloc ?_ _)); refine blk_far ?_ NB221_231.out _; (with_reducible repeat (first | refine blk_drewN ?_ _ | refine blk_drew ?_ | refine blk_alloc ?_ _)); refine blk_far ?_ NB221_231.out _; (with_reducible repeat (first | refine blk_drewN ?_ _ | refine blk_drew ?_ | refine blk_alloc ?_ _)); refine blk_far ?_ NB221_232.out _; (with_reducible repeat (first | refine blk_drewN ?_ _ | refine blk_drew ?_ | refine blk_alloc ?_ _)); refine blk_far ?_ NB221_232.out _; (with_reducible repeat (first | refine blk_drewN ?_ _ | refine blk_drew ?_ | refine blk_alloc ?_ _)); exact BK221.out⟩, ⟨by (with_reducible repeat (first | refine blk_drewN ?_ _ | refine blk_drew ?_ | refine blk_alloc ?_ _)); refine blk_far ?_ NB222_231.out _; (with_reducible repeat (first | refine blk_drewN ?_ _ | refine blk_drew ?_ | refine blk_alloc ?_ _)); refine blk_far ?_ NB222_231.out _; (with_reducible repeat (first | refine blk_drewN ?_ _ | refine blk_drew ?_ | refine blk_alloc ?_ _)); refine blk_far ?_ NB222_232.out _; (with_reducible repeat (first | refine blk_drewN ?_ _ | refine blk_drew ?_ | refine blk_alloc ?_ _)); refine blk_far ?_ NB222_232.out _; (with_reducible repeat (first | refine blk_drewN ?_ _ | refine blk_drew ?_ | refine blk_alloc ?_ _)); exact BK222.out⟩, ⟨by (with_reducible repeat (first | refine blk_drewN ?_ _ | refine blk_drew ?_ | refine blk_alloc ?_ _)); refine blk_put (cs := #[.int .i64 t250, .int .i64 0]) ?_ 1 _ rfl; (with_reducible repeat (first | refine blk_drewN ?_ _ | refine blk_drew ?_ | refine blk_alloc ?_ _)); refine blk_put (cs := #[.int .i64 0, .int .i64 0]) ?_ 0 _ rfl; (with_reducible repeat (first | refine blk_drewN ?_ _ | refine blk_drew ?_ | refine blk_alloc ?_ _)); refine blk_far ?_ NB231_232.out _; (with_reducible repeat (first | refine blk_drewN ?_ _ | refine blk_drew ?_ | refine blk_alloc ?_ _)); refine blk_far ?_ NB231_232.out _; (with_reducible repeat (first | refine blk_drewN ?_ _ | refine blk_drew ?_ | refine blk_alloc ?_ _)); exact BK231.out⟩, ⟨by (with_reducible repeat (first | refine blk_drewN ?_ _ | refine blk_drew ?_ | refine blk_alloc ?_ _)); refine blk_far ?_ NB232_231.out _; (with_reducible repeat (first | refine blk_drewN ?_ _ | refine blk_drew ?_ | refine blk_alloc ?_ _)); refine blk_far ?_ NB232_231.out _; (with_reducible repeat (first | refine blk_drewN ?_ _ | refine blk_drew ?_ | refine blk_alloc ?_ _)); refine blk_put (cs := #[.int .i64 t248, .int .i64 0]) ?_ 1 _ rfl; (with_reducible repeat (first | refine blk_drewN ?_ _ | refine blk_drew ?_ | refine blk_alloc ?_ _)); refine blk_put (cs := #[.int .i64 0, .int .i64 0]) ?_ 0 _ rfl; (with_reducible repeat (first | refine blk_drewN ?_ _ | refine blk_drew ?_ | refine blk_alloc ?_ _)); exact BK232.out⟩, ⟨Y6 HB GE219 GE220 GE221 GE222 GE231 GE232⟩⟩
           ·replace c156 := Bool.eq_false_iff.mpr c156
            subst c156
            have H1 : ((impl_rangeNone.f).bind fun bt252 => ((impl_rangeNone.f).bind fun bt254 => (some (bt252.1, bt252.2, bt254.1, bt254.2)))) = some (r1, r2, r3, r4) := by rw [if_neg (show ¬ (false = true) by decide)] at H; exact H
            clear H
            have H := H1
            clear H1
            replace H := Option.bind_eq_some_iff.mp H
            obtain ⟨⟨t252, t253⟩, A1650, H⟩ := H
            replace H : ((impl_rangeNone.f).bind fun bt254 => (some (t252, t253, bt254.1, bt254.2))) = some (r1, r2, r3, r4) := H
            have A165 := am A1650
            clear A1650
            replace H := Option.bind_eq_some_iff.mp H
            obtain ⟨⟨t254, t255⟩, A1660, H⟩ := H
            replace H : (some (t252, t253, t254, t255)) = some (r1, r2, r3, r4) := H
            have A166 := am A1660
            clear A1660
            simp only [Option.some.injEq, Prod.mk.injEq] at H
            obtain ⟨rfl, rfl, rfl, rfl⟩ := H
            go_wp2_with (first | ((with_reducible refine gate_callee (f := 52) rfl ?_); refine goesL_ (some 29) rfl rfl Try.func52 (by kernel_rfl) rfl #[] rfl mz ?_; (with_reducible refine (impl_rangeNone.calls  t252 t253 _ A165.out).mono ?_); rintro e w167 ⟨rfl, hb⟩; refine ⟨_, rfl, ?_⟩; have n0_ := am (blk_below (g := gb219) (o := b2 a1_0 a1_1 24) (Z BK219) hb); have n1_ := am (blk_below (g := gb220) (o := b2 a2_0 a2_1 24) (Z BK220) hb); have n2_ := am (blk_below (g := gb221) (o := b2 0 0 24) (Z BK221) hb); have n3_ := am (blk_below (g := gb222) (o := b2 0 0 24) (Z BK222) hb); have n4_ := am (blk_below (g := gb231) (o := b2 0 0 24) (Z BK231) hb); have n5_ := am (blk_below (g := gb232) (o := b2 0 0 24) (Z BK232) hb); have n6_ := am (below_step (Y6 HB GE219 GE220 GE221 GE222 GE231 GE232) hb); clear BK219; clear BK220; clear BK221; clear BK222; clear BK231; clear BK232; clear HB; have BK219 := n0_; have BK220 := n1_; have BK221 := n2_; have BK222 := n3_; have BK231 := n4_; have BK232 := n5_; have HB := n6_; clear n0_ n1_ n2_ n3_ n4_ n5_ n6_; (try clear hb); (try clear hb2); (try clear hk); (try clear hi)) | ((with_reducible refine gate_callee (f := 52) rfl ?_); refine goesL_ (some 30) rfl rfl Try.func52 (by kernel_rfl) rfl #[] rfl mz ?_; (with_reducible refine (impl_rangeNone.calls  t254 t255 _ A166.out).mono ?_); rintro e w168 ⟨rfl, hb⟩; refine ⟨_, rfl, ?_⟩; have n0_ := am (blk_below (g := gb219) (o := b2 a1_0 a1_1 24) (Z BK219) hb); have n1_ := am (blk_below (g := gb220) (o := b2 a2_0 a2_1 24) (Z BK220) hb); have n2_ := am (blk_below (g := gb221) (o := b2 0 0 24) (Z BK221) hb); have n3_ := am (blk_below (g := gb222) (o := b2 0 0 24) (Z BK222) hb); have n4_ := am (blk_below (g := gb231) (o := b2 0 0 24) (Z BK231) hb); have n5_ := am (blk_below (g := gb232) (o := b2 0 0 24) (Z BK232) hb); have n6_ := am (below_step (Y6 HB GE219 GE220 GE221 GE222 GE231 GE232) hb); clear BK219; clear BK220; clear BK221; clear BK222; clear BK231; clear BK232; clear HB; have BK219 := n0_; have BK220 := n1_; have BK221 := n2_; have BK222 := n3_; have BK231 := n4_; have BK232 := n5_; have HB := n6_; clear n0_ n1_ n2_ n3_ n4_ n5_ n6_; (try clear hb); (try clear hb2); (try clear hk); (try clear hi); have hnb169 := NB221_219.out; have hnc169 := NB219_221.out; have hnb170 := NB221_220.out; have hnc170 := NB220_221.out; have hnb171 := NB221_222.out; have hnc171 := NB222_221.out; have hnb172 := NB221_231.out; have hnc172 := NB231_221.out; have hnb173 := NB221_232.out; have hnc173 := NB232_221.out; have hcz174_0 : w168.cell? ⟨gb221, 0, none⟩ = some (.int .i64 0) := bc BK221 0; have hcz174_1 : w168.cell? ⟨gb221, 1, none⟩ = some (.int .i64 0) := bc BK221 1; have hfz174_0 := blk_frozen BK221.out 0; have hfz174_1 := blk_frozen BK221.out 1; have hnb175 := NB222_219.out; have hnc175 := NB219_222.out; have hnb176 := NB222_220.out; have hnc176 := NB220_222.out; have hnb177 := NB222_231.out; have hnc177 := NB231_222.out; have hnb178 := NB222_232.out; have hnc178 := NB232_222.out; have hcz179_0 : w168.cell? ⟨gb222, 0, none⟩ = some (.int .i64 0) := bc BK222 0; have hcz179_1 : w168.cell? ⟨gb222, 1, none⟩ = some (.int .i64 0) := bc BK222 1; have hfz179_0 := blk_frozen BK222.out 0; have hfz179_1 := blk_frozen BK222.out 1))
            refine bodyPost_ret (results_cc rfl _ _ gb221 gb222 24 24 #[.int .i64 t252, .int .i64 t253] #[.int .i64 t254, .int .i64 t255] (0, 0) (0, 0) _ _ rfl (by (with_reducible repeat (first | refine blk_drewN ?_ _ | refine blk_drew ?_ | refine blk_alloc ?_ _)); refine blk_far ?_ NB221_222.out _; (with_reducible repeat (first | refine blk_drewN ?_ _ | refine blk_drew ?_ | refine blk_alloc ?_ _)); refine blk_far ?_ NB221_222.out _; (with_reducible repeat (first | refine blk_drewN ?_ _ | refine blk_drew ?_ | refine blk_alloc ?_ _)); refine blk_put (cs := #[.int .i64 t252, .int .i64 0]) ?_ 1 _ rfl; (with_reducible repeat (first | refine blk_drewN ?_ _ | refine blk_drew ?_ | refine blk_alloc ?_ _)); refine blk_put (cs := #[.int .i64 0, .int .i64 0]) ?_ 0 _ rfl; (with_reducible repeat (first | refine blk_drewN ?_ _ | refine blk_drew ?_ | refine blk_alloc ?_ _)); exact BK221.out) Try.underlying24 rfl (by kernel_rfl) rfl (by (with_reducible repeat (first | refine blk_drewN ?_ _ | refine blk_drew ?_ | refine blk_alloc ?_ _)); refine blk_put (cs := #[.int .i64 t254, .int .i64 0]) ?_ 1 _ rfl; (with_reducible repeat (first | refine blk_drewN ?_ _ | refine blk_drew ?_ | refine blk_alloc ?_ _)); refine blk_put (cs := #[.int .i64 0, .int .i64 0]) ?_ 0 _ rfl; (with_reducible repeat (first | refine blk_drewN ?_ _ | refine blk_drew ?_ | refine blk_alloc ?_ _)); refine blk_far ?_ NB222_221.out _; (with_reducible repeat (first | refine blk_drewN ?_ _ | refine blk_drew ?_ | refine blk_alloc ?_ _)); refine blk_far ?_ NB222_221.out _; (with_reducible repeat (first | refine blk_drewN ?_ _ | refine blk_drew ?_ | refine blk_alloc ?_ _)); exact BK222.out) Try.underlying24 rfl (by kernel_rfl)) rfl ?_
            exact ⟨by first | rfl | (simp [errW_none, errW_some] <;> rfl) | (simp [*, errW_none, errW_some] <;> rfl), Y6 HB GE219 GE220 GE221 GE222 GE231 GE232⟩
    case rest =>
     clear HC66
     try clear c1
     try clear c2
     try clear p2
     try clear c3
     try clear c4
     try clear c5
     try clear c6
     try clear p6
     try clear c7
     try clear c8
     try clear c9
     try clear c10
     try clear c11
     try clear c12
     try clear c13
     try clear c14
     try clear c15
     try clear c16
     try clear c17
     try clear c20
     try clear c21
     try clear c26
     try clear c27
     try clear c28
     try clear c29
     try clear c32
     try clear c33
     try clear c40
     try clear c41
     try clear c42
     try clear c45
     try clear c46
     try clear c49
     try clear c50
     try clear c51
     try clear c52
     try clear c54
     try clear c55
     try clear c59
     try clear c60
     try clear c61
     try clear c62
     try clear c63
     try clear c64
     try clear p64
     try clear c69
     try clear c69b0
     try clear c69b1
     try clear c71
     try clear c72
     try clear c73
     try clear c74
     try clear c75
     try clear c77
     try clear c78
     try clear c79
     try clear c80
     try clear c83
     try clear c84
     try clear c85
     try clear c87
     try clear c88
     try clear c90
     try clear c90b0
     try clear c90b1
     try clear c100
     try clear c100b0
     try clear c100b1
     try clear c105
     try clear c106
     try clear c107
     try clear c108
     try clear c109
     try clear c111
     try clear c112
     try clear c113
     try clear c114
     try clear c117
     try clear c118
     try clear c119
     try clear c124
     try clear c125
     try clear c127
     try clear c127b0
     try clear c127b1
     try clear c132
     try clear c133
     try clear c134
     try clear c135
     try clear c136
     try clear c138
     try clear c139
     try clear c140
     try clear c141
     try clear c144
     try clear c145
     try clear c146
     try clear c151
     try clear c152
     try clear c155
     try clear c155b0
     try clear c155b1
     try clear c156
     try clear c169
     try clear c170
     try clear c171
     try clear c172
     try clear c173
     try clear c175
     try clear c176
     try clear c177
     try clear c178
     try clear hcz110_0
     try clear hcz110_1
     try clear hcz115_0
     try clear hcz115_1
     try clear hcz120_0
     try clear hcz120_1
     try clear hcz121_0
     try clear hcz121_1
     try clear hcz122_0
     try clear hcz122_1
     try clear hcz126_0
     try clear hcz126_1
     try clear hcz137_0
     try clear hcz137_1
     try clear hcz142_0
     try clear hcz142_1
     try clear hcz147_0
     try clear hcz147_1
     try clear hcz148_0
     try clear hcz148_1
     try clear hcz149_0
     try clear hcz149_1
     try clear hcz153_0
     try clear hcz153_1
     try clear hcz174_0
     try clear hcz174_1
     try clear hcz179_0
     try clear hcz179_1
     try clear hcz18_0
     try clear hcz18_1
     try clear hcz22_0
     try clear hcz22_1
     try clear hcz24_0
     try clear hcz24_1
     try clear hcz30_0
     try clear hcz30_1
     try clear hcz34_0
     try clear hcz34_1
     try clear hcz36_0
     try clear hcz36_1
     try clear hcz38_0
     try clear hcz38_1
     try clear hcz43_0
     try clear hcz43_1
     try clear hcz47_0
     try clear hcz47_1
     try clear hcz52_0
     try clear hcz52_1
     try clear hcz62_0
     try clear hcz62_1
     try clear hcz65_0
     try clear hcz65_1
     try clear hcz76_0
     try clear hcz76_1
     try clear hcz81_0
     try clear hcz81_1
     try clear hcz86_0
     try clear hcz86_1
     try clear hcz89_0
     try clear hcz89_1
     try clear hfz110_0
     try clear hfz110_1
     try clear hfz115_0
     try clear hfz115_1
     try clear hfz120_0
     try clear hfz120_1
     try clear hfz121_0
     try clear hfz121_1
     try clear hfz122_0
     try clear hfz122_1
     try clear hfz126_0
     try clear hfz126_1
     try clear hfz137_0
     try clear hfz137_1
     try clear hfz142_0
     try clear hfz142_1
     try clear hfz147_0
     try clear hfz147_1
     try clear hfz148_0
     try clear hfz148_1
     try clear hfz149_0
     try clear hfz149_1
     try clear hfz153_0
     try clear hfz153_1
     try clear hfz174_0
     try clear hfz174_1
     try clear hfz179_0
     try clear hfz179_1
     try clear hfz18_0
     try clear hfz18_1
     try clear hfz22_0
     try clear hfz22_1
     try clear hfz24_0
     try clear hfz24_1
     try clear hfz30_0
     try clear hfz30_1
     try clear hfz34_0
     try clear hfz34_1
     try clear hfz36_0
     try clear hfz36_1
     try clear hfz38_0
     try clear hfz38_1
     try clear hfz43_0
     try clear hfz43_1
     try clear hfz47_0
     try clear hfz47_1
     try clear hfz52_0
     try clear hfz52_1
     try clear hfz62_0
     try clear hfz62_1
     try clear hfz65_0
     try clear hfz65_1
     try clear hfz76_0
     try clear hfz76_1
     try clear hfz81_0
     try clear hfz81_1
     try clear hfz86_0
     try clear hfz86_1
     try clear hfz89_0
     try clear hfz89_1
     try clear p2
     try clear p6
     try clear p64
     obtain ⟨kq, x222000_65, x222001_65, x223000_65, x223001_65, x232000_65, x232001_65, x233000_65, x233001_65, HA, HJ65, BK219, BK220, BK221, BK222, BK231, BK232, HB⟩ := hcut
     cases kq with
     | zero => exact absurd HA.out (by simp [impl_RangeCmp.j2])
     | succ kj65 =>
      have H := HA.out
      clear HA
      simp only [impl_RangeCmp.j2] at H
      have HC180 := am H
      clear H
      go_upto_region 20 with (fail)
      go_cut [99] (fun v99 wc => ∃ (kq : Nat) (x99_179 : Bool), v99 = .bool x99_179 ∧ Aside0 (impl_RangeCmp.j3 kq x99_179 x232000_65 x232001_65 x233000_65 x233001_65 = some (r1, r2, r3, r4)) ∧ Aside0 (kq ≤ kj65) ∧ Aside0 (wc.heap[gb219]? = some (.cells #[.int .i64 a1_0, .int .i64 a1_1] 24 (0, 0))) ∧ Aside0 (wc.heap[gb220]? = some (.cells #[.int .i64 a2_0, .int .i64 a2_1] 24 (0, 0))) ∧ Aside0 (wc.heap[gb221]? = some (.cells #[.int .i64 x222000_65, .int .i64 x222001_65] 24 (0, 0))) ∧ Aside0 (wc.heap[gb222]? = some (.cells #[.int .i64 x223000_65, .int .i64 x223001_65] 24 (0, 0))) ∧ Aside0 (wc.heap[gb231]? = some (.cells #[.int .i64 x232000_65, .int .i64 x232001_65] 24 (0, 0))) ∧ Aside0 (wc.heap[gb232]? = some (.cells #[.int .i64 x233000_65, .int .i64 x233001_65] 24 (0, 0))) ∧ Aside0 (Below w.heap.size w wc))
      case first =>
       have H := HC180.out
       clear HC180
       replace H := Option.bind_eq_some_iff.mp H
       obtain ⟨t256, A1810, H⟩ := H
       replace H : (if t256 = true then (impl_RangeCmp.j3 kj65 true x232000_65 x232001_65 x233000_65 x233001_65) else ((impl_Range_empty.f x233000_65 x233001_65).bind fun t257 => (impl_RangeCmp.j3 kj65 t257 x232000_65 x232001_65 x233000_65 x233001_65))) = some (r1, r2, r3, r4) := H
       have A181 := am A1810
       clear A1810
       by_cases c182 : t256 = true
       ·subst c182
        have H1 : (impl_RangeCmp.j3 kj65 true x232000_65 x232001_65 x233000_65 x233001_65) = some (r1, r2, r3, r4) := by rw [if_pos rfl] at H; exact H
        clear H
        have H := H1
        clear H1
        have H' := am H
        clear H
        have hnb183 := NB231_219.out
        have hnc183 := NB219_231.out
        have hnb184 := NB231_220.out
        have hnc184 := NB220_231.out
        have hnb185 := NB231_221.out
        have hnc185 := NB221_231.out
        have hnb186 := NB231_222.out
        have hnc186 := NB222_231.out
        have hnb187 := NB231_232.out
        have hnc187 := NB232_231.out
        have hcz188_0 : wc.cell? ⟨gb231, 0, none⟩ = some (.int .i64 x232000_65) := bc BK231 0
        have hcz188_1 : wc.cell? ⟨gb231, 1, none⟩ = some (.int .i64 x232001_65) := bc BK231 1
        have hfz188_0 := blk_frozen BK231.out 0
        have hfz188_1 := blk_frozen BK231.out 1
        go_wp2_with (first | ((with_reducible refine gate_callee (f := 53) rfl ?_); refine goesL_ (some 95) rfl rfl Try.func53 (by kernel_rfl) rfl #[.agg #[.int .i64 x232000_65, .int .i64 x232001_65]] rfl mz ?_; (with_reducible refine (impl_Range_empty.calls x232000_65 x232001_65 true _ A181.out).mono ?_); rintro e w189 ⟨rfl, hb⟩; refine ⟨_, rfl, ?_⟩; have n0_ := am (blk_below (g := gb219) (o := b2 a1_0 a1_1 24) (Z BK219) hb); have n1_ := am (blk_below (g := gb220) (o := b2 a2_0 a2_1 24) (Z BK220) hb); have n2_ := am (blk_below (g := gb221) (o := b2 x222000_65 x222001_65 24) (Z BK221) hb); have n3_ := am (blk_below (g := gb222) (o := b2 x223000_65 x223001_65 24) (Z BK222) hb); have n4_ := am (blk_below (g := gb231) (o := b2 x232000_65 x232001_65 24) (Z BK231) hb); have n5_ := am (blk_below (g := gb232) (o := b2 x233000_65 x233001_65 24) (Z BK232) hb); have n6_ := am (below_step (Y6 HB GE219 GE220 GE221 GE222 GE231 GE232) hb); clear BK219; clear BK220; clear BK221; clear BK222; clear BK231; clear BK232; clear HB; have BK219 := n0_; have BK220 := n1_; have BK221 := n2_; have BK222 := n3_; have BK231 := n4_; have BK232 := n5_; have HB := n6_; clear n0_ n1_ n2_ n3_ n4_ n5_ n6_; (try clear hb); (try clear hb2); (try clear hk); (try clear hi)))
        go_meet
        case rel => exact ⟨_, (true), (by first | rfl | (simp; done) | (simp [*]; done)), H', ⟨by have := HJ3.out; have := HJ65.out; first | omega | exact Nat.le_refl _⟩, ⟨Z BK219⟩, ⟨Z BK220⟩, ⟨Z BK221⟩, ⟨Z BK222⟩, ⟨Z BK231⟩, ⟨Z BK232⟩, ⟨Y6 HB GE219 GE220 GE221 GE222 GE231 GE232⟩⟩
       ·replace c182 := Bool.eq_false_iff.mpr c182
        subst c182
        have H1 : ((impl_Range_empty.f x233000_65 x233001_65).bind fun t257 => (impl_RangeCmp.j3 kj65 t257 x232000_65 x232001_65 x233000_65 x233001_65)) = some (r1, r2, r3, r4) := by rw [if_neg (show ¬ (false = true) by decide)] at H; exact H
        clear H
        have H := H1
        clear H1
        replace H := Option.bind_eq_some_iff.mp H
        obtain ⟨t257, A1900, H⟩ := H
        replace H : (impl_RangeCmp.j3 kj65 t257 x232000_65 x232001_65 x233000_65 x233001_65) = some (r1, r2, r3, r4) := H
        have A190 := am A1900
        clear A1900
        have H' := am H
        clear H
        have hnb191 := NB231_219.out
        have hnc191 := NB219_231.out
        have hnb192 := NB231_220.out
        have hnc192 := NB220_231.out
        have hnb193 := NB231_221.out
        have hnc193 := NB221_231.out
        have hnb194 := NB231_222.out
        have hnc194 := NB222_231.out
        have hnb195 := NB231_232.out
        have hnc195 := NB232_231.out
        have hcz196_0 : wc.cell? ⟨gb231, 0, none⟩ = some (.int .i64 x232000_65) := bc BK231 0
        have hcz196_1 : wc.cell? ⟨gb231, 1, none⟩ = some (.int .i64 x232001_65) := bc BK231 1
        have hfz196_0 := blk_frozen BK231.out 0
        have hfz196_1 := blk_frozen BK231.out 1
        go_wp2_with (first | ((with_reducible refine gate_callee (f := 53) rfl ?_); refine goesL_ (some 95) rfl rfl Try.func53 (by kernel_rfl) rfl #[.agg #[.int .i64 x232000_65, .int .i64 x232001_65]] rfl mz ?_; (with_reducible refine (impl_Range_empty.calls x232000_65 x232001_65 false _ A181.out).mono ?_); rintro e w197 ⟨rfl, hb⟩; refine ⟨_, rfl, ?_⟩; have n0_ := am (blk_below (g := gb219) (o := b2 a1_0 a1_1 24) (Z BK219) hb); have n1_ := am (blk_below (g := gb220) (o := b2 a2_0 a2_1 24) (Z BK220) hb); have n2_ := am (blk_below (g := gb221) (o := b2 x222000_65 x222001_65 24) (Z BK221) hb); have n3_ := am (blk_below (g := gb222) (o := b2 x223000_65 x223001_65 24) (Z BK222) hb); have n4_ := am (blk_below (g := gb231) (o := b2 x232000_65 x232001_65 24) (Z BK231) hb); have n5_ := am (blk_below (g := gb232) (o := b2 x233000_65 x233001_65 24) (Z BK232) hb); have n6_ := am (below_step (Y6 HB GE219 GE220 GE221 GE222 GE231 GE232) hb); clear BK219; clear BK220; clear BK221; clear BK222; clear BK231; clear BK232; clear HB; have BK219 := n0_; have BK220 := n1_; have BK221 := n2_; have BK222 := n3_; have BK231 := n4_; have BK232 := n5_; have HB := n6_; clear n0_ n1_ n2_ n3_ n4_ n5_ n6_; (try clear hb); (try clear hb2); (try clear hk); (try clear hi); have hnb198 := NB232_219.out; have hnc198 := NB219_232.out; have hnb199 := NB232_220.out; have hnc199 := NB220_232.out; have hnb200 := NB232_221.out; have hnc200 := NB221_232.out; have hnb201 := NB232_222.out; have hnc201 := NB222_232.out; have hcz202_0 : w197.cell? ⟨gb232, 0, none⟩ = some (.int .i64 x233000_65) := bc BK232 0; have hcz202_1 : w197.cell? ⟨gb232, 1, none⟩ = some (.int .i64 x233001_65) := bc BK232 1; have hfz202_0 := blk_frozen BK232.out 0; have hfz202_1 := blk_frozen BK232.out 1) | (go_at_call 53; (with_reducible refine (impl_Range_empty.calls x233000_65 x233001_65 t257 _ A190.out).mono ?_); rintro e w203 ⟨rfl, hb⟩; have n0_ := am (blk_below (g := gb219) (o := b2 a1_0 a1_1 24) (Z BK219) hb); have n1_ := am (blk_below (g := gb220) (o := b2 a2_0 a2_1 24) (Z BK220) hb); have n2_ := am (blk_below (g := gb221) (o := b2 x222000_65 x222001_65 24) (Z BK221) hb); have n3_ := am (blk_below (g := gb222) (o := b2 x223000_65 x223001_65 24) (Z BK222) hb); have n4_ := am (blk_below (g := gb231) (o := b2 x232000_65 x232001_65 24) (Z BK231) hb); have n5_ := am (blk_below (g := gb232) (o := b2 x233000_65 x233001_65 24) (Z BK232) hb); have n6_ := am (below_step (Y6 HB GE219 GE220 GE221 GE222 GE231 GE232) hb); clear BK219; clear BK220; clear BK221; clear BK222; clear BK231; clear BK232; clear HB; have BK219 := n0_; have BK220 := n1_; have BK221 := n2_; have BK222 := n3_; have BK231 := n4_; have BK232 := n5_; have HB := n6_; clear n0_ n1_ n2_ n3_ n4_ n5_ n6_; (try clear hb); (try clear hb2); (try clear hk); (try clear hi)))
        go_meet
        case rel => exact ⟨_, (t257), (by first | rfl | (simp; done) | (simp [*]; done)), H', ⟨by have := HJ3.out; have := HJ65.out; first | omega | exact Nat.le_refl _⟩, ⟨Z BK219⟩, ⟨Z BK220⟩, ⟨Z BK221⟩, ⟨Z BK222⟩, ⟨Z BK231⟩, ⟨Z BK232⟩, ⟨Y6 HB GE219 GE220 GE221 GE222 GE231 GE232⟩⟩
      case rest =>
       clear HC180
       try clear c1
       try clear c2
       try clear p2
       try clear c3
       try clear c4
       try clear c5
       try clear c6
       try clear p6
       try clear c7
       try clear c8
       try clear c9
       try clear c10
       try clear c11
       try clear c12
       try clear c13
       try clear c14
       try clear c15
       try clear c16
       try clear c17
       try clear c18
       try clear c19
       try clear c20
       try clear c21
       try clear c26
       try clear c27
       try clear c28
       try clear c29
       try clear c32
       try clear c33
       try clear c40
       try clear c41
       try clear c42
       try clear c45
       try clear c46
       try clear c49
       try clear c50
       try clear c51
       try clear c52
       try clear c53
       try clear c54
       try clear c55
       try clear c59
       try clear c60
       try clear c61
       try clear c62
       try clear c63
       try clear c64
       try clear p64
       try clear c69
       try clear c69b0
       try clear c69b1
       try clear c71
       try clear c72
       try clear c73
       try clear c74
       try clear c75
       try clear c77
       try clear c78
       try clear c79
       try clear c80
       try clear c83
       try clear c84
       try clear c85
       try clear c87
       try clear c88
       try clear c90
       try clear c90b0
       try clear c90b1
       try clear c100
       try clear c100b0
       try clear c100b1
       try clear c105
       try clear c106
       try clear c107
       try clear c108
       try clear c109
       try clear c111
       try clear c112
       try clear c113
       try clear c114
       try clear c117
       try clear c118
       try clear c119
       try clear c124
       try clear c125
       try clear c127
       try clear c127b0
       try clear c127b1
       try clear c132
       try clear c133
       try clear c134
       try clear c135
       try clear c136
       try clear c138
       try clear c139
       try clear c140
       try clear c141
       try clear c144
       try clear c145
       try clear c146
       try clear c151
       try clear c152
       try clear c155
       try clear c155b0
       try clear c155b1
       try clear c156
       try clear c169
       try clear c170
       try clear c171
       try clear c172
       try clear c173
       try clear c175
       try clear c176
       try clear c177
       try clear c178
       try clear c182
       try clear c183
       try clear c184
       try clear c185
       try clear c186
       try clear c187
       try clear c191
       try clear c192
       try clear c193
       try clear c194
       try clear c195
       try clear c198
       try clear c199
       try clear c200
       try clear c201
       try clear hcz110_0
       try clear hcz110_1
       try clear hcz115_0
       try clear hcz115_1
       try clear hcz120_0
       try clear hcz120_1
       try clear hcz121_0
       try clear hcz121_1
       try clear hcz122_0
       try clear hcz122_1
       try clear hcz126_0
       try clear hcz126_1
       try clear hcz137_0
       try clear hcz137_1
       try clear hcz142_0
       try clear hcz142_1
       try clear hcz147_0
       try clear hcz147_1
       try clear hcz148_0
       try clear hcz148_1
       try clear hcz149_0
       try clear hcz149_1
       try clear hcz153_0
       try clear hcz153_1
       try clear hcz174_0
       try clear hcz174_1
       try clear hcz179_0
       try clear hcz179_1
       try clear hcz188_0
       try clear hcz188_1
       try clear hcz18_0
       try clear hcz18_1
       try clear hcz196_0
       try clear hcz196_1
       try clear hcz202_0
       try clear hcz202_1
       try clear hcz22_0
       try clear hcz22_1
       try clear hcz24_0
       try clear hcz24_1
       try clear hcz30_0
       try clear hcz30_1
       try clear hcz34_0
       try clear hcz34_1
       try clear hcz36_0
       try clear hcz36_1
       try clear hcz38_0
       try clear hcz38_1
       try clear hcz43_0
       try clear hcz43_1
       try clear hcz47_0
       try clear hcz47_1
       try clear hcz52_0
       try clear hcz52_1
       try clear hcz62_0
       try clear hcz62_1
       try clear hcz65_0
       try clear hcz65_1
       try clear hcz76_0
       try clear hcz76_1
       try clear hcz81_0
       try clear hcz81_1
       try clear hcz86_0
       try clear hcz86_1
       try clear hcz89_0
       try clear hcz89_1
       try clear hfz110_0
       try clear hfz110_1
       try clear hfz115_0
       try clear hfz115_1
       try clear hfz120_0
       try clear hfz120_1
       try clear hfz121_0
       try clear hfz121_1
       try clear hfz122_0
       try clear hfz122_1
       try clear hfz126_0
       try clear hfz126_1
       try clear hfz137_0
       try clear hfz137_1
       try clear hfz142_0
       try clear hfz142_1
       try clear hfz147_0
       try clear hfz147_1
       try clear hfz148_0
       try clear hfz148_1
       try clear hfz149_0
       try clear hfz149_1
       try clear hfz153_0
       try clear hfz153_1
       try clear hfz174_0
       try clear hfz174_1
       try clear hfz179_0
       try clear hfz179_1
       try clear hfz188_0
       try clear hfz188_1
       try clear hfz18_0
       try clear hfz18_1
       try clear hfz196_0
       try clear hfz196_1
       try clear hfz202_0
       try clear hfz202_1
       try clear hfz22_0
       try clear hfz22_1
       try clear hfz24_0
       try clear hfz24_1
       try clear hfz30_0
       try clear hfz30_1
       try clear hfz34_0
       try clear hfz34_1
       try clear hfz36_0
       try clear hfz36_1
       try clear hfz38_0
       try clear hfz38_1
       try clear hfz43_0
       try clear hfz43_1
       try clear hfz47_0
       try clear hfz47_1
       try clear hfz52_0
       try clear hfz52_1
       try clear hfz62_0
       try clear hfz62_1
       try clear hfz65_0
       try clear hfz65_1
       try clear hfz76_0
       try clear hfz76_1
       try clear hfz81_0
       try clear hfz81_1
       try clear hfz86_0
       try clear hfz86_1
       try clear hfz89_0
       try clear hfz89_1
       try clear p2
       try clear p6
       try clear p64
       obtain ⟨kq, x99_179, rfl, HA, HJ179, BK219, BK220, BK221, BK222, BK231, BK232, HB⟩ := hcut
       cases kq with
       | zero => exact absurd HA.out (by simp [impl_RangeCmp.j3])
       | succ kj179 =>
        have H := HA.out
        clear HA
        simp only [impl_RangeCmp.j3] at H
        by_cases c204 : x99_179 = true
        ·subst c204
         have H1 : ((impl_rangeNone.f).bind fun bt258 => ((impl_rangeNone.f).bind fun bt260 => (some (bt258.1, bt258.2, bt260.1, bt260.2)))) = some (r1, r2, r3, r4) := by rw [if_pos rfl] at H; exact H
         clear H
         have H := H1
         clear H1
         replace H := Option.bind_eq_some_iff.mp H
         obtain ⟨⟨t258, t259⟩, A2050, H⟩ := H
         replace H : ((impl_rangeNone.f).bind fun bt260 => (some (t258, t259, bt260.1, bt260.2))) = some (r1, r2, r3, r4) := H
         have A205 := am A2050
         clear A2050
         replace H := Option.bind_eq_some_iff.mp H
         obtain ⟨⟨t260, t261⟩, A2060, H⟩ := H
         replace H : (some (t258, t259, t260, t261)) = some (r1, r2, r3, r4) := H
         have A206 := am A2060
         clear A2060
         simp only [Option.some.injEq, Prod.mk.injEq] at H
         obtain ⟨rfl, rfl, rfl, rfl⟩ := H
         go_wp2_with (first | ((with_reducible refine gate_callee (f := 52) rfl ?_); refine goesL_ (some 100) rfl rfl Try.func52 (by kernel_rfl) rfl #[] rfl mz ?_; (with_reducible refine (impl_rangeNone.calls  t258 t259 _ A205.out).mono ?_); rintro e w207 ⟨rfl, hb⟩; refine ⟨_, rfl, ?_⟩; have n0_ := am (blk_below (g := gb219) (o := b2 a1_0 a1_1 24) (Z BK219) hb); have n1_ := am (blk_below (g := gb220) (o := b2 a2_0 a2_1 24) (Z BK220) hb); have n2_ := am (blk_below (g := gb221) (o := b2 x222000_65 x222001_65 24) (Z BK221) hb); have n3_ := am (blk_below (g := gb222) (o := b2 x223000_65 x223001_65 24) (Z BK222) hb); have n4_ := am (blk_below (g := gb231) (o := b2 x232000_65 x232001_65 24) (Z BK231) hb); have n5_ := am (blk_below (g := gb232) (o := b2 x233000_65 x233001_65 24) (Z BK232) hb); have n6_ := am (below_step (Y6 HB GE219 GE220 GE221 GE222 GE231 GE232) hb); clear BK219; clear BK220; clear BK221; clear BK222; clear BK231; clear BK232; clear HB; have BK219 := n0_; have BK220 := n1_; have BK221 := n2_; have BK222 := n3_; have BK231 := n4_; have BK232 := n5_; have HB := n6_; clear n0_ n1_ n2_ n3_ n4_ n5_ n6_; (try clear hb); (try clear hb2); (try clear hk); (try clear hi)) | ((with_reducible refine gate_callee (f := 52) rfl ?_); refine goesL_ (some 101) rfl rfl Try.func52 (by kernel_rfl) rfl #[] rfl mz ?_; (with_reducible refine (impl_rangeNone.calls  t260 t261 _ A206.out).mono ?_); rintro e w208 ⟨rfl, hb⟩; refine ⟨_, rfl, ?_⟩; have n0_ := am (blk_below (g := gb219) (o := b2 a1_0 a1_1 24) (Z BK219) hb); have n1_ := am (blk_below (g := gb220) (o := b2 a2_0 a2_1 24) (Z BK220) hb); have n2_ := am (blk_below (g := gb221) (o := b2 x222000_65 x222001_65 24) (Z BK221) hb); have n3_ := am (blk_below (g := gb222) (o := b2 x223000_65 x223001_65 24) (Z BK222) hb); have n4_ := am (blk_below (g := gb231) (o := b2 x232000_65 x232001_65 24) (Z BK231) hb); have n5_ := am (blk_below (g := gb232) (o := b2 x233000_65 x233001_65 24) (Z BK232) hb); have n6_ := am (below_step (Y6 HB GE219 GE220 GE221 GE222 GE231 GE232) hb); clear BK219; clear BK220; clear BK221; clear BK222; clear BK231; clear BK232; clear HB; have BK219 := n0_; have BK220 := n1_; have BK221 := n2_; have BK222 := n3_; have BK231 := n4_; have BK232 := n5_; have HB := n6_; clear n0_ n1_ n2_ n3_ n4_ n5_ n6_; (try clear hb); (try clear hb2); (try clear hk); (try clear hi); have hnb209 := NB221_219.out; have hnc209 := NB219_221.out; have hnb210 := NB221_220.out; have hnc210 := NB220_221.out; have hnb211 := NB221_222.out; have hnc211 := NB222_221.out; have hnb212 := NB221_231.out; have hnc212 := NB231_221.out; have hnb213 := NB221_232.out; have hnc213 := NB232_221.out; have hcz214_0 : w208.cell? ⟨gb221, 0, none⟩ = some (.int .i64 x222000_65) := bc BK221 0; have hcz214_1 : w208.cell? ⟨gb221, 1, none⟩ = some (.int .i64 x222001_65) := bc BK221 1; have hfz214_0 := blk_frozen BK221.out 0; have hfz214_1 := blk_frozen BK221.out 1; have hnb215 := NB222_219.out; have hnc215 := NB219_222.out; have hnb216 := NB222_220.out; have hnc216 := NB220_222.out; have hnb217 := NB222_231.out; have hnc217 := NB231_222.out; have hnb218 := NB222_232.out; have hnc218 := NB232_222.out; have hcz219_0 : w208.cell? ⟨gb222, 0, none⟩ = some (.int .i64 x223000_65) := bc BK222 0; have hcz219_1 : w208.cell? ⟨gb222, 1, none⟩ = some (.int .i64 x223001_65) := bc BK222 1; have hfz219_0 := blk_frozen BK222.out 0; have hfz219_1 := blk_frozen BK222.out 1))
         refine bodyPost_ret (results_cc rfl _ _ gb221 gb222 24 24 #[.int .i64 t258, .int .i64 t259] #[.int .i64 t260, .int .i64 t261] (0, 0) (0, 0) _ _ rfl (by (with_reducible repeat (first | refine blk_drewN ?_ _ | refine blk_drew ?_ | refine blk_alloc ?_ _)); refine blk_far ?_ NB221_222.out _; (with_reducible repeat (first | refine blk_drewN ?_ _ | refine blk_drew ?_ | refine blk_alloc ?_ _)); refine blk_far ?_ NB221_222.out _; (with_reducible repeat (first | refine blk_drewN ?_ _ | refine blk_drew ?_ | refine blk_alloc ?_ _)); refine blk_put (cs := #[.int .i64 t258, .int .i64 x222001_65]) ?_ 1 _ rfl; (with_reducible repeat (first | refine blk_drewN ?_ _ | refine blk_drew ?_ | refine blk_alloc ?_ _)); refine blk_put (cs := #[.int .i64 x222000_65, .int .i64 x222001_65]) ?_ 0 _ rfl; (with_reducible repeat (first | refine blk_drewN ?_ _ | refine blk_drew ?_ | refine blk_alloc ?_ _)); exact BK221.out) Try.underlying24 rfl (by kernel_rfl) rfl (by (with_reducible repeat (first | refine blk_drewN ?_ _ | refine blk_drew ?_ | refine blk_alloc ?_ _)); refine blk_put (cs := #[.int .i64 t260, .int .i64 x223001_65]) ?_ 1 _ rfl; (with_reducible repeat (first | refine blk_drewN ?_ _ | refine blk_drew ?_ | refine blk_alloc ?_ _)); refine blk_put (cs := #[.int .i64 x223000_65, .int .i64 x223001_65]) ?_ 0 _ rfl; (with_reducible repeat (first | refine blk_drewN ?_ _ | refine blk_drew ?_ | refine blk_alloc ?_ _)); refine blk_far ?_ NB222_221.out _; (with_reducible repeat (first | refine blk_drewN ?_ _ | refine blk_drew ?_ | refine blk_alloc ?_ _)); refine blk_far ?_ NB222_221.out _; (with_reducible repeat (first | refine blk_drewN ?_ _ | refine blk_drew ?_ | refine blk_alloc ?_ _)); exact BK222.out) Try.underlying24 rfl (by kernel_rfl)) rfl ?_
         exact ⟨by first | rfl | (simp [errW_none, errW_some] <;> rfl) | (simp [*, errW_none, errW_some] <;> rfl), Y6 HB GE219 GE220 GE221 GE222 GE231 GE232⟩
        ·replace c204 := Bool.eq_false_iff.mpr c204
         subst c204
         have H1 : (some (x232000_65, x232001_65, x233000_65, x233001_65)) = some (r1, r2, r3, r4) := by rw [if_neg (show ¬ (false = true) by decide)] at H; exact H
         clear H
         have H := H1
         clear H1
         simp only [Option.some.injEq, Prod.mk.injEq] at H
         obtain ⟨rfl, rfl, rfl, rfl⟩ := H
         try go_wp2
         have n0_ := am (blk_drew BK219.out)
         have n1_ := am (blk_drew BK220.out)
         have n2_ := am (blk_drew BK221.out)
         have n3_ := am (blk_drew BK222.out)
         have n4_ := am (blk_drew BK231.out)
         have n5_ := am (blk_drew BK232.out)
         have n6_ := am (below_drew1 HB.out)
         clear BK219
         clear BK220
         clear BK221
         clear BK222
         clear BK231
         clear BK232
         clear HB
         have BK219 := n0_
         have BK220 := n1_
         have BK221 := n2_
         have BK222 := n3_
         have BK231 := n4_
         have BK232 := n5_
         have HB := n6_
         clear n0_ n1_ n2_ n3_ n4_ n5_ n6_
         refine start_ (n := 4) (S := fun w' => w'.cell? ⟨gb231, 0, none⟩ = some (.int .i64 x232000_65) ∧ w'.cell? ⟨gb231, 1, none⟩ = some (.int .i64 x232001_65) ∧ w'.cell? ⟨gb232, 0, none⟩ = some (.int .i64 x233000_65) ∧ w'.cell? ⟨gb232, 1, none⟩ = some (.int .i64 x233001_65)) (ds := []) #[F, F, F, F] (by kernel_rfl) rfl rfl ⟨bc BK231 0, bc BK231 1, bc BK232 0, bc BK232 1⟩ (fun hHeld => ?_)
         generalize wc.drew = w220 at BK219 BK220 BK221 BK222 BK231 BK232 HB hHeld ⊢
         refine take_ (i := 0) (N := some 102) (v := ?_) (a' := ?_) #[T, F, F, F] rfl rfl (by kernel_rfl) (fun _ _ _ h => h) (Or.inl ⟨by rfl, ?_⟩) hHeld ?_ ?_
         rotate_left
         ·rintro w' ⟨s0, s1, s2, s3⟩
          go_simp
          with_reducible rfl
         rotate_left
         ·exact pz
         refine take_ (i := 1) (N := some 103) (v := ?_) (a' := ?_) #[T, T, F, F] rfl rfl (by kernel_rfl) (fun _ _ _ h => h) (Or.inl ⟨by rfl, ?_⟩) hHeld ?_ ?_
         rotate_left
         ·rintro w' ⟨s0, s1, s2, s3⟩
          go_simp
          with_reducible rfl
         rotate_left
         ·exact pz
         refine one_ (i := 2) (N := none) #[T, T, T, F] rfl rfl (by kernel_rfl) (by decide) (fun K hK => ?_)
         have hs221 : w220.cell? ⟨gb221, 0, none⟩ = some (.int .i64 x222000_65) := bc BK221 0
         have hfs221 := blk_frozen BK221.out 0
         have hns221_0 := NB219_221.out
         have hns221_1 := NB220_221.out
         have hns221_3 := NB222_221.out
         have hns221_4 := NB231_221.out
         have hns221_5 := NB232_221.out
         have hms221_0 := NB221_219.out
         have hms221_1 := NB221_220.out
         have hms221_3 := NB221_222.out
         have hms221_4 := NB221_231.out
         have hms221_5 := NB221_232.out
         have hs222 : w220.cell? ⟨gb221, 1, none⟩ = some (.int .i64 x222001_65) := bc BK221 1
         have hfs222 := blk_frozen BK221.out 1
         have hns222_0 := NB219_221.out
         have hns222_1 := NB220_221.out
         have hns222_3 := NB222_221.out
         have hns222_4 := NB231_221.out
         have hns222_5 := NB232_221.out
         have hms222_0 := NB221_219.out
         have hms222_1 := NB221_220.out
         have hms222_3 := NB221_222.out
         have hms222_4 := NB221_231.out
         have hms222_5 := NB221_232.out
         refine skip_ (w1 := ?_) (by rfl) rfl ?_ ?_
         rotate_left
         ·go_simp
          rfl
         refine hK.out _ _ ⟨((cell_far (p := ⟨gb221, _, none⟩) NB231_221.out _).trans (((cell_far (p := ⟨gb221, _, none⟩) NB231_221.out _).trans (hHeld.1)))), ((cell_far (p := ⟨gb221, _, none⟩) NB231_221.out _).trans (((cell_far (p := ⟨gb221, _, none⟩) NB231_221.out _).trans (hHeld.2.1)))), ((cell_far (p := ⟨gb221, _, none⟩) NB232_221.out _).trans (((cell_far (p := ⟨gb221, _, none⟩) NB232_221.out _).trans (hHeld.2.2.1)))), ((cell_far (p := ⟨gb221, _, none⟩) NB232_221.out _).trans (((cell_far (p := ⟨gb221, _, none⟩) NB232_221.out _).trans (hHeld.2.2.2))))⟩ (fun hHeld => ?_)
         clear hK K
         refine one_ (i := 3) (N := none) #[T, T, T, T] rfl rfl (by kernel_rfl) (by decide) (fun K hK => ?_)
         have hs223 : w220.cell? ⟨gb222, 0, none⟩ = some (.int .i64 x223000_65) := bc BK222 0
         have hfs223 := blk_frozen BK222.out 0
         have hns223_0 := NB219_222.out
         have hns223_1 := NB220_222.out
         have hns223_2 := NB221_222.out
         have hns223_4 := NB231_222.out
         have hns223_5 := NB232_222.out
         have hms223_0 := NB222_219.out
         have hms223_1 := NB222_220.out
         have hms223_2 := NB222_221.out
         have hms223_4 := NB222_231.out
         have hms223_5 := NB222_232.out
         have hs224 : w220.cell? ⟨gb222, 1, none⟩ = some (.int .i64 x223001_65) := bc BK222 1
         have hfs224 := blk_frozen BK222.out 1
         have hns224_0 := NB219_222.out
         have hns224_1 := NB220_222.out
         have hns224_2 := NB221_222.out
         have hns224_4 := NB231_222.out
         have hns224_5 := NB232_222.out
         have hms224_0 := NB222_219.out
         have hms224_1 := NB222_220.out
         have hms224_2 := NB222_221.out
         have hms224_4 := NB222_231.out
         have hms224_5 := NB222_232.out
         refine skip_ (w1 := ?_) (by rfl) rfl ?_ ?_
         rotate_left
         ·go_simp
          rfl
         refine hK.out _ _ ⟨((cell_far (p := ⟨gb222, _, none⟩) NB231_222.out _).trans (((cell_far (p := ⟨gb222, _, none⟩) NB231_222.out _).trans (hHeld.1)))), ((cell_far (p := ⟨gb222, _, none⟩) NB231_222.out _).trans (((cell_far (p := ⟨gb222, _, none⟩) NB231_222.out _).trans (hHeld.2.1)))), ((cell_far (p := ⟨gb222, _, none⟩) NB232_222.out _).trans (((cell_far (p := ⟨gb222, _, none⟩) NB232_222.out _).trans (hHeld.2.2.1)))), ((cell_far (p := ⟨gb222, _, none⟩) NB232_222.out _).trans (((cell_far (p := ⟨gb222, _, none⟩) NB232_222.out _).trans (hHeld.2.2.2))))⟩ (fun hHeld => ?_)
         clear hK K
         refine done_ (by kernel_rfl) ?_
         try go_wp2
         refine bodyPost_ret (results_cc rfl _ _ gb221 gb222 24 24 #[.int .i64 x232000_65, .int .i64 x232001_65] #[.int .i64 x233000_65, .int .i64 x233001_65] (0, 0) (0, 0) _ _ rfl (by (with_reducible repeat (first | refine blk_drewN ?_ _ | refine blk_drew ?_ | refine blk_alloc ?_ _)); refine blk_far ?_ NB221_222.out _; (with_reducible repeat (first | refine blk_drewN ?_ _ | refine blk_drew ?_ | refine blk_alloc ?_ _)); refine blk_far ?_ NB221_222.out _; (with_reducible repeat (first | refine blk_drewN ?_ _ | refine blk_drew ?_ | refine blk_alloc ?_ _)); refine blk_put (cs := #[.int .i64 x232000_65, .int .i64 x222001_65]) ?_ 1 _ rfl; (with_reducible repeat (first | refine blk_drewN ?_ _ | refine blk_drew ?_ | refine blk_alloc ?_ _)); refine blk_put (cs := #[.int .i64 x222000_65, .int .i64 x222001_65]) ?_ 0 _ rfl; (with_reducible repeat (first | refine blk_drewN ?_ _ | refine blk_drew ?_ | refine blk_alloc ?_ _)); exact BK221.out) Try.underlying24 rfl (by kernel_rfl) rfl (by (with_reducible repeat (first | refine blk_drewN ?_ _ | refine blk_drew ?_ | refine blk_alloc ?_ _)); refine blk_put (cs := #[.int .i64 x233000_65, .int .i64 x223001_65]) ?_ 1 _ rfl; (with_reducible repeat (first | refine blk_drewN ?_ _ | refine blk_drew ?_ | refine blk_alloc ?_ _)); refine blk_put (cs := #[.int .i64 x223000_65, .int .i64 x223001_65]) ?_ 0 _ rfl; (with_reducible repeat (first | refine blk_drewN ?_ _ | refine blk_drew ?_ | refine blk_alloc ?_ _)); refine blk_far ?_ NB222_221.out _; (with_reducible repeat (first | refine blk_drewN ?_ _ | refine blk_drew ?_ | refine blk_alloc ?_ _)); refine blk_far ?_ NB222_221.out _; (with_reducible repeat (first | refine blk_drewN ?_ _ | refine blk_drew ?_ | refine blk_alloc ?_ _)); exact BK222.out) Try.underlying24 rfl (by kernel_rfl)) rfl ?_
         exact ⟨by first | rfl | (simp [errW_none, errW_some] <;> rfl) | (simp [*, errW_none, errW_some] <;> rfl), Y6 HB GE219 GE220 GE221 GE222 GE231 GE232⟩

end Go.Proofs.Ytlipfemjlicbbaa.PFnExactRangeCmp
