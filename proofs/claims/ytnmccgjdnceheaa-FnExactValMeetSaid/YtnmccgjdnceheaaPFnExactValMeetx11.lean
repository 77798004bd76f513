/- Written by this session's own driver (wip/dprint.py): the functions that the law FnExactValMeet reaches, as Lean functions, each with its contract. -/
import Derived.Test.YtnmccgjdnceheaaPFnExactValMeetx0
import Derived.Test.YtnmccgjdnceheaaPFnExactValMeetx1
import Derived.Test.YtnmccgjdnceheaaPFnExactValMeetx3
import Derived.Test.YtnmccgjdnceheaaPFnExactValMeetx6
import Derived.Test.YtnmccgjdnceheaaPFnExactValMeetx7
import Derived.Test.YtnmccgjdnceheaaPFnExactValMeetx9
import Derived.Test.YtnmccgjdnceheaaPFnExactValMeetx10
import Derived.Test.YtnmccgjdnceheaaSv
namespace Go.Proofs.Ytnmccgjdnceheaa.PFnExactValMeet
open Go.RowKit Go.Proofs.YtnmccgjdnceheaaV.PrintWords Go.Proofs.YtnmccgjdnceheaaV.PrintLast Go.Proofs.YtnmccgjdnceheaaV.PrintMore Go.Proofs.YtnmccgjdnceheaaSv
attribute [local go_sem] max2_int min2_int max_two min_two max_three min_three max_four min_four   -- for this text's walks alone
set_option linter.unusedVariables false
set_option linter.unusedSimpArgs false

attribute [local go_sem high] eqA25
/-! ### spec_ValMeet: function 23 -/
def spec_ValMeet.j0 : Nat → Bool → Int → Int → Int → Int → Int → Int → Int → Int → Option (Int × Int × Int × Int)
 | 0, _, _, _, _, _, _, _, _, _ => none
 | k + 1, x24, x212000, x212001, x212002, x212003, x213000, x213001, x213002, x213003 => if x24 = true then ((spec_l10None.f).bind fun bt224 => (some (bt224.1, bt224.2.1, bt224.2.2.1, bt224.2.2.2))) else ((spec_l10Rest.f x212000 x212001 x212002 x212003).bind fun bt228 => ((spec_l10Rest.f x213000 x213001 x213002 x213003).bind fun bt230 => ((spec_RestMeet.f k bt228.1 bt228.2 bt230.1 bt230.2).bind fun bt232 => (if bt232.2.2 = true then ((spec_l10Range.f x212000 x212001 x212002 x212003).bind fun bt240 => ((spec_l10Range.f x213000 x213001 x213002 x213003).bind fun bt242 => ((spec_RangeMeet.f k bt240.1 bt240.2 bt242.1 bt242.2).bind fun bt244 => ((spec_ValMake.f k bt244.1 bt244.2 bt232.1 bt232.2.1).bind fun bt246 => (some (bt246.1, bt246.2.1, bt246.2.2.1, bt246.2.2.2)))))) else ((spec_l10None.f).bind fun bt236 => (some (bt236.1, bt236.2.1, bt236.2.2.1, bt236.2.2.2)))))))
def spec_ValMeet.f (k : Nat) (a0_0 : Int) (a0_1 : Int) (a0_2 : Int) (a0_3 : Int) (a1_0 : Int) (a1_1 : Int) (a1_2 : Int) (a1_3 : Int) : Option (Int × Int × Int × Int) := (spec_ValOk.f k a0_0 a0_1 a0_2 a0_3).bind fun t214 => (if t214 = true then ((spec_ValOk.f k a1_0 a1_1 a1_2 a1_3).bind fun t215 => (if t215 = true then ((spec_l10None.f).bind fun bt216 => (if (a0_0 == bt216.1 && (a0_1 == bt216.2.1 && (a0_2 == bt216.2.2.1 && (a0_3 == bt216.2.2.2)))) = true then (spec_ValMeet.j0 k true a0_0 a0_1 a0_2 a0_3 a1_0 a1_1 a1_2 a1_3) else ((spec_l10None.f).bind fun bt220 => (spec_ValMeet.j0 k (a1_0 == bt220.1 && (a1_1 == bt220.2.1 && (a1_2 == bt220.2.2.1 && (a1_3 == bt220.2.2.2)))) a0_0 a0_1 a0_2 a0_3 a1_0 a1_1 a1_2 a1_3)))) else (spec_ValMeet.j0 k true a0_0 a0_1 a0_2 a0_3 a1_0 a1_1 a1_2 a1_3))) else (spec_ValMeet.j0 k true a0_0 a0_1 a0_2 a0_3 a1_0 a1_1 a1_2 a1_3))
theorem spec_ValMeet.mono_l : ∀ k, (∀ y0 y1 y2 y3 y4 y5 y6 y7 y8, LeO (spec_ValMeet.j0 k y0 y1 y2 y3 y4 y5 y6 y7 y8) (spec_ValMeet.j0 (k + 1) y0 y1 y2 y3 y4 y5 y6 y7 y8))
 | 0 => fun _ _ _ _ _ _ _ _ _ r h => by simp [spec_ValMeet.j0] at h
 | k + 1 => by
  have ih0 := spec_ValMeet.mono_l k
  ·intro y0 y1 y2 y3 y4 y5 y6 y7 y8
   unfold spec_ValMeet.j0
   repeat' first
   | (with_reducible exact ih0 _ _ _ _ _ _ _ _ _)
   | (with_reducible exact spec_RangeMeet.mono _ _ _ _ _)
   | (with_reducible exact spec_RestMeet.mono _ _ _ _ _)
   | (with_reducible exact spec_ValMake.mono _ _ _ _ _)
   | (with_reducible exact spec_ValOk.mono _ _ _ _ _)
   | (with_reducible exact LeO.refl _)
   | (with_reducible exact LeO.none _)
   | (with_reducible refine LeO.ite ?_ ?_)
   | (with_reducible refine LeO.bind ?_ (fun _ => ?_))
   | exact ih0 _ _ _ _ _ _ _ _ _
   | exact spec_RangeMeet.mono _ _ _ _ _
   | exact spec_RestMeet.mono _ _ _ _ _
   | exact spec_ValMake.mono _ _ _ _ _
   | exact spec_ValOk.mono _ _ _ _ _
   | exact LeO.none _
   | refine LeO.ite ?_ ?_
   | refine LeO.bind ?_ (fun _ => ?_)
theorem spec_ValMeet.mono : ∀ a0 a1 a2 a3 a4 a5 a6 a7 k, LeO (spec_ValMeet.f k a0 a1 a2 a3 a4 a5 a6 a7) (spec_ValMeet.f (k + 1) a0 a1 a2 a3 a4 a5 a6 a7) := by
 intro a0 a1 a2 a3 a4 a5 a6 a7 k
 have ih0 := spec_ValMeet.mono_l k
 unfold spec_ValMeet.f
 repeat' first
   | (with_reducible exact ih0 _ _ _ _ _ _ _ _ _)
   | (with_reducible exact spec_RangeMeet.mono _ _ _ _ _)
   | (with_reducible exact spec_RestMeet.mono _ _ _ _ _)
   | (with_reducible exact spec_ValMake.mono _ _ _ _ _)
   | (with_reducible exact spec_ValOk.mono _ _ _ _ _)
   | (with_reducible exact LeO.refl _)
   | (with_reducible exact LeO.none _)
   | (with_reducible refine LeO.ite ?_ ?_)
   | (with_reducible refine LeO.bind ?_ (fun _ => ?_))
   | exact ih0 _ _ _ _ _ _ _ _ _
   | exact spec_RangeMeet.mono _ _ _ _ _
   | exact spec_RestMeet.mono _ _ _ _ _
   | exact spec_ValMake.mono _ _ _ _ _
   | exact spec_ValOk.mono _ _ _ _ _
   | exact LeO.none _
   | refine LeO.ite ?_ ?_
   | refine LeO.bind ?_ (fun _ => ?_)
def spec_ValMeet.T1 : Bool × List (List Nat × List Nat) := (true, [([], []), ([0], [0]), ([1], [1]), ([2, 1], [2]), ([3], [3]), ([4, 3, 3], [3, 4]), ([5, 3], [3, 5]), ([3, 6], [3, 6]), ([7, 5], [7]), ([8], [8]), ([8, 8], [8]), ([9, 10, 8], [8, 9, 10]), ([8, 11], [8, 11]), ([12, 10], [12]), ([13], [13]), ([13, 13], [13]), ([14, 15, 13], [13, 14, 15]), ([13, 16], [13, 16])])
def spec_ValMeet.B1 : List Nat := [0, 1, 3, 7, 15, 31, 63, 127, 255, 511, 511, 2047, 4095, 8191, 16383, 16383, 65535, 131071]
theorem spec_ValMeet.tab1 : rtab .any (opsOf Try.f23 1) = spec_ValMeet.T1 := by kernel_rfl
theorem spec_ValMeet.bits1 : waitsOk spec_ValMeet.T1.2 spec_ValMeet.B1 = true := by kernel_rfl
def spec_ValMeet.T3 : Bool × List (List Nat × List Nat) := (true, [([], []), ([0], [0]), ([], []), ([2, 1], [2]), ([1, 3, 3], [1, 3]), ([4], [4]), ([5], [5]), ([5], [5]), ([], []), ([8, 6, 4, 0, 1, 2, 3, 4, 5, 6, 8], [6, 8]), ([7, 9, 0, 1, 2, 3, 4, 5, 6, 7, 8, 9], [7])])
def spec_ValMeet.B3 : List Nat := [0, 1, 0, 7, 15, 31, 63, 63, 0, 383, 1023]
theorem spec_ValMeet.tab3 : rtab .any (opsOf Try.f23 3) = spec_ValMeet.T3 := by kernel_rfl
theorem spec_ValMeet.bits3 : waitsOk spec_ValMeet.T3.2 spec_ValMeet.B3 = true := by kernel_rfl
def spec_ValMeet.T6 : Bool × List (List Nat × List Nat) := (true, [([], []), ([0], [0]), ([], []), ([2, 1], [2]), ([1, 3, 3], [1, 3]), ([], []), ([4, 5, 4], [4, 5]), ([6, 6, 0, 1, 2, 3, 4, 5, 6], [6])])
def spec_ValMeet.B6 : List Nat := [0, 1, 0, 7, 15, 0, 63, 127]
theorem spec_ValMeet.tab6 : rtab .any (opsOf Try.f23 6) = spec_ValMeet.T6 := by kernel_rfl
theorem spec_ValMeet.bits6 : waitsOk spec_ValMeet.T6.2 spec_ValMeet.B6 = true := by kernel_rfl
set_option maxHeartbeats 8000000 in
set_option maxRecDepth 100000 in
theorem spec_ValMeet.calls (k : Nat) (a0_0 : Int) (a0_1 : Int) (a0_2 : Int) (a0_3 : Int) (a1_0 : Int) (a1_1 : Int) (a1_2 : Int) (a1_3 : Int) (r1 : Int) (r2 : Int) (r3 : Int) (r4 : Int) (w : World) (h : spec_ValMeet.f k a0_0 a0_1 a0_2 a0_3 a1_0 a1_1 a1_2 a1_3 = some (r1, r2, r3, r4)) :
  Calls Try.prog 23 #[.agg #[.int .i64 a0_0, .int .i64 a0_1, .int .i64 a0_2, .int .i64 a0_3], .agg #[.int .i64 a1_0, .int .i64 a1_1, .int .i64 a1_2, .int .i64 a1_3]] w fun e w' => e = .returned (.agg #[.int .i64 r1, .int .i64 r2, .int .i64 r3, .int .i64 r4]) ∧ Below w.heap.size w w' := by
 have hu25 := Try.underlying25
 have hu90 := Try.underlying90
 have HB := Aside0.mk (Below.refl w.heap.size w)
 have H : ((spec_ValOk.f k a0_0 a0_1 a0_2 a0_3).bind fun t214 => (if t214 = true then ((spec_ValOk.f k a1_0 a1_1 a1_2 a1_3).bind fun t215 => (if t215 = true then ((spec_l10None.f).bind fun bt216 => (if (a0_0 == bt216.1 && (a0_1 == bt216.2.1 && (a0_2 == bt216.2.2.1 && (a0_3 == bt216.2.2.2)))) = true then (spec_ValMeet.j0 k true a0_0 a0_1 a0_2 a0_3 a1_0 a1_1 a1_2 a1_3) else ((spec_l10None.f).bind fun bt220 => (spec_ValMeet.j0 k (a1_0 == bt220.1 && (a1_1 == bt220.2.1 && (a1_2 == bt220.2.2.1 && (a1_3 == bt220.2.2.2)))) a0_0 a0_1 a0_2 a0_3 a1_0 a1_1 a1_2 a1_3)))) else (spec_ValMeet.j0 k true a0_0 a0_1 a0_2 a0_3 a1_0 a1_1 a1_2 a1_3))) else (spec_ValMeet.j0 k true a0_0 a0_1 a0_2 a0_3 a1_0 a1_1 a1_2 a1_3))) = some (r1, r2, r3, r4) := h
 clear h
 have HC3 := Aside0.mk H
 clear H
 go_enter Try.func23, Try.ntmps23
 go_upto_region 1 with (first | ((with_reducible refine gate_dst (N := 2) rfl ?_); refine box_event ?hg (N := 2) ?hd (cs := #[.int .i64 a0_0, .int .i64 a0_1, .int .i64 a0_2, .int .i64 a0_3]) (t := 25) ?hr ?_; (case hd => rfl); (case hg => rfl); (case hr => first | (go_simp; done) | (go_simp; rfl)); intro gb211 hg w4 hbox hb; have n0_ := Aside0.mk (below_step (hz HB.out) hb); have n1_ := Aside0.mk (hbox); have n2_ := Aside0.mk ((by rw [hg]; exact (below_size (hz HB.out)) : w.heap.size ≤ gb211)); have n3_ := Aside0.mk ((by rw [hg]; exact (below_size (hz HB.out)) : w.heap.size ≤ gb211)); clear HB; have HB := n0_; have BK211 := n1_; have GW211 := n2_; have GE211 := n3_; clear n0_ n1_ n2_ n3_; clear hb hbox hg) | ((with_reducible refine gate_dst (N := 3) rfl ?_); refine box_event ?hg (N := 3) ?hd (cs := #[.int .i64 a1_0, .int .i64 a1_1, .int .i64 a1_2, .int .i64 a1_3]) (t := 25) ?hr ?_; (case hd => rfl); (case hg => rfl); (case hr => first | (go_simp; done) | (go_simp; rfl)); intro gb212 hg w5 hbox hb; have n0_ := Aside0.mk (blk_below (g := gb211) (o := b4 a0_0 a0_1 a0_2 a0_3 25) (bz BK211.out) hb); have n1_ := Aside0.mk (below_step (hz1 HB.out GE211.out) hb); have n2_ := Aside0.mk (hbox); have n3_ := Aside0.mk ((by rw [hg]; exact (below_size (hz1 HB.out GE211.out)) : w.heap.size ≤ gb212)); have n4_ := Aside0.mk ((by rw [hg]; exact (below_size (hz1 HB.out GE211.out)) : w.heap.size ≤ gb212)); have n5_ := Aside0.mk ((by rw [hg]; exact Nat.ne_of_lt (blk_lt (g := gb211) (o := b4 a0_0 a0_1 a0_2 a0_3 25) (bz BK211.out)) : gb211 ≠ gb212)); have n6_ := Aside0.mk ((by rw [hg]; exact Nat.ne_of_gt (blk_lt (g := gb211) (o := b4 a0_0 a0_1 a0_2 a0_3 25) (bz BK211.out)) : gb212 ≠ gb211)); clear BK211; clear HB; have BK211 := n0_; have HB := n1_; have BK212 := n2_; have GW212 := n3_; have GE212 := n4_; have NB211_212 := n5_; have NB212_211 := n6_; clear n0_ n1_ n2_ n3_ n4_ n5_ n6_; clear hb hbox hg) | ((with_reducible refine gate_dst (N := 4) rfl ?_); refine box_event ?hg (N := 4) ?hd (cs := #[.int .i64 0, .int .i64 0, .int .i64 0, .int .i64 0]) (t := 25) ?hr ?_; (case hd => rfl); (case hg => rfl); (case hr => first | (go_simp; done) | (go_simp; rfl)); intro gb213 hg w6 hbox hb; have n0_ := Aside0.mk (blk_below (g := gb211) (o := b4 a0_0 a0_1 a0_2 a0_3 25) (bz BK211.out) hb); have n1_ := Aside0.mk (blk_below (g := gb212) (o := b4 a1_0 a1_1 a1_2 a1_3 25) (bz BK212.out) hb); have n2_ := Aside0.mk (below_step (hz2 HB.out GE211.out GE212.out) hb); have n3_ := Aside0.mk (hbox); have n4_ := Aside0.mk ((by rw [hg]; exact (below_size (hz2 HB.out GE211.out GE212.out)) : w.heap.size ≤ gb213)); have n5_ := Aside0.mk ((by rw [hg]; exact (below_size (hz2 HB.out GE211.out GE212.out)) : w.heap.size ≤ gb213)); have n6_ := Aside0.mk ((by rw [hg]; exact Nat.ne_of_lt (blk_lt (g := gb211) (o := b4 a0_0 a0_1 a0_2 a0_3 25) (bz BK211.out)) : gb211 ≠ gb213)); have n7_ := Aside0.mk ((by rw [hg]; exact Nat.ne_of_gt (blk_lt (g := gb211) (o := b4 a0_0 a0_1 a0_2 a0_3 25) (bz BK211.out)) : gb213 ≠ gb211)); have n8_ := Aside0.mk ((by rw [hg]; exact Nat.ne_of_lt (blk_lt (g := gb212) (o := b4 a1_0 a1_1 a1_2 a1_3 25) (bz BK212.out)) : gb212 ≠ gb213)); have n9_ := Aside0.mk ((by rw [hg]; exact Nat.ne_of_gt (blk_lt (g := gb212) (o := b4 a1_0 a1_1 a1_2 a1_3 25) (bz BK212.out)) : gb213 ≠ gb212)); clear BK211; clear BK212; clear HB; have BK211 := n0_; have BK212 := n1_; have HB := n2_; have BK213 := n3_; have GW213 := n4_; have GE213 := n5_; have NB211_213 := n6_; have NB213_211 := n7_; have NB212_213 := n8_; have NB213_212 := n9_; clear n0_ n1_ n2_ n3_ n4_ n5_ n6_ n7_ n8_ n9_; clear hb hbox hg))
 (try simp only [Act.put, List.setIfInBounds_toArray, List.set_cons_zero, List.set_cons_succ])
 go_cut [24] (fun v24 wc => ∃ (kq : Nat) (x24_2 : Bool), v24 = .bool x24_2 ∧ Aside0 (spec_ValMeet.j0 kq x24_2 a0_0 a0_1 a0_2 a0_3 a1_0 a1_1 a1_2 a1_3 = some (r1, r2, r3, r4)) ∧ Aside0 (kq ≤ k) ∧ Aside0 (wc.heap[gb211]? = some (.cells #[.int .i64 a0_0, .int .i64 a0_1, .int .i64 a0_2, .int .i64 a0_3] 25 (0, 0))) ∧ Aside0 (wc.heap[gb212]? = some (.cells #[.int .i64 a1_0, .int .i64 a1_1, .int .i64 a1_2, .int .i64 a1_3] 25 (0, 0))) ∧ Aside0 (wc.heap[gb213]? = some (.cells #[.int .i64 0, .int .i64 0, .int .i64 0, .int .i64 0] 25 (0, 0))) ∧ Aside0 (Below w.heap.size w wc))
 case first =>
  have H := HC3.out
  clear HC3
  replace H := Option.bind_eq_some_iff.mp H
  obtain ⟨t214, A70, H⟩ := H
  replace H : (if t214 = true then ((spec_ValOk.f k a1_0 a1_1 a1_2 a1_3).bind fun t215 => (if t215 = true then ((spec_l10None.f).bind fun bt216 => (if (a0_0 == bt216.1 && (a0_1 == bt216.2.1 && (a0_2 == bt216.2.2.1 && (a0_3 == bt216.2.2.2)))) = true then (spec_ValMeet.j0 k true a0_0 a0_1 a0_2 a0_3 a1_0 a1_1 a1_2 a1_3) else ((spec_l10None.f).bind fun bt220 => (spec_ValMeet.j0 k (a1_0 == bt220.1 && (a1_1 == bt220.2.1 && (a1_2 == bt220.2.2.1 && (a1_3 == bt220.2.2.2)))) a0_0 a0_1 a0_2 a0_3 a1_0 a1_1 a1_2 a1_3)))) else (spec_ValMeet.j0 k true a0_0 a0_1 a0_2 a0_3 a1_0 a1_1 a1_2 a1_3))) else (spec_ValMeet.j0 k true a0_0 a0_1 a0_2 a0_3 a1_0 a1_1 a1_2 a1_3)) = some (r1, r2, r3, r4) := H
  have A7 := Aside0.mk A70
  clear A70
  by_cases c8 : t214 = true
  ·subst c8
   have H1 : ((spec_ValOk.f k a1_0 a1_1 a1_2 a1_3).bind fun t215 => (if t215 = true then ((spec_l10None.f).bind fun bt216 => (if (a0_0 == bt216.1 && (a0_1 == bt216.2.1 && (a0_2 == bt216.2.2.1 && (a0_3 == bt216.2.2.2)))) = true then (spec_ValMeet.j0 k true a0_0 a0_1 a0_2 a0_3 a1_0 a1_1 a1_2 a1_3) else ((spec_l10None.f).bind fun bt220 => (spec_ValMeet.j0 k (a1_0 == bt220.1 && (a1_1 == bt220.2.1 && (a1_2 == bt220.2.2.1 && (a1_3 == bt220.2.2.2)))) a0_0 a0_1 a0_2 a0_3 a1_0 a1_1 a1_2 a1_3)))) else (spec_ValMeet.j0 k true a0_0 a0_1 a0_2 a0_3 a1_0 a1_1 a1_2 a1_3))) = some (r1, r2, r3, r4) := by rw [if_pos rfl] at H; exact H
   clear H
   have H := H1
   clear H1
   replace H := Option.bind_eq_some_iff.mp H
   obtain ⟨t215, A90, H⟩ := H
   replace H : (if t215 = true then ((spec_l10None.f).bind fun bt216 => (if (a0_0 == bt216.1 && (a0_1 == bt216.2.1 && (a0_2 == bt216.2.2.1 && (a0_3 == bt216.2.2.2)))) = true then (spec_ValMeet.j0 k true a0_0 a0_1 a0_2 a0_3 a1_0 a1_1 a1_2 a1_3) else ((spec_l10None.f).bind fun bt220 => (spec_ValMeet.j0 k (a1_0 == bt220.1 && (a1_1 == bt220.2.1 && (a1_2 == bt220.2.2.1 && (a1_3 == bt220.2.2.2)))) a0_0 a0_1 a0_2 a0_3 a1_0 a1_1 a1_2 a1_3)))) else (spec_ValMeet.j0 k true a0_0 a0_1 a0_2 a0_3 a1_0 a1_1 a1_2 a1_3)) = some (r1, r2, r3, r4) := H
   have A9 := Aside0.mk A90
   clear A90
   by_cases c10 : t215 = true
   ·subst c10
    have H1 : ((spec_l10None.f).bind fun bt216 => (if (a0_0 == bt216.1 && (a0_1 == bt216.2.1 && (a0_2 == bt216.2.2.1 && (a0_3 == bt216.2.2.2)))) = true then (spec_ValMeet.j0 k true a0_0 a0_1 a0_2 a0_3 a1_0 a1_1 a1_2 a1_3) else ((spec_l10None.f).bind fun bt220 => (spec_ValMeet.j0 k (a1_0 == bt220.1 && (a1_1 == bt220.2.1 && (a1_2 == bt220.2.2.1 && (a1_3 == bt220.2.2.2)))) a0_0 a0_1 a0_2 a0_3 a1_0 a1_1 a1_2 a1_3)))) = some (r1, r2, r3, r4) := by rw [if_pos rfl] at H; exact H
    clear H
    have H := H1
    clear H1
    replace H := Option.bind_eq_some_iff.mp H
    obtain ⟨⟨t216, t217, t218, t219⟩, A110, H⟩ := H
    replace H : (if (a0_0 == t216 && (a0_1 == t217 && (a0_2 == t218 && (a0_3 == t219)))) = true then (spec_ValMeet.j0 k true a0_0 a0_1 a0_2 a0_3 a1_0 a1_1 a1_2 a1_3) else ((spec_l10None.f).bind fun bt220 => (spec_ValMeet.j0 k (a1_0 == bt220.1 && (a1_1 == bt220.2.1 && (a1_2 == bt220.2.2.1 && (a1_3 == bt220.2.2.2)))) a0_0 a0_1 a0_2 a0_3 a1_0 a1_1 a1_2 a1_3))) = some (r1, r2, r3, r4) := H
    have A11 := Aside0.mk A110
    clear A110
    by_cases c12 : (a0_0 == t216 && (a0_1 == t217 && (a0_2 == t218 && (a0_3 == t219)))) = true
    ·rw [if_pos c12] at H
     have c12b0 : (a0_0 == t216 && (a0_1 == t217 && (a0_2 == t218 && (a0_3 == t219)))) = true := c12
     (try (have c12b1 : decide (a0_0 = t216 && (a0_1 == t217 && (a0_2 == t218 && (a0_3 == t219)))) = true := by simpa using c12))
     (try (have c12b2 : (a0_0 == t216 && (a0_1 == t217 && (a0_2 == t218 && (a0_3 == t219)))) = true := by simpa using c12))
     clear c12
     (first | rw [c12b0] | (simp only [i64_w, i32_w]; rw [c12b0]) | skip)
     have H' := Aside0.mk H
     clear H
     try go_wp2
     have n0_ := Aside0.mk (blk_drew BK211.out)
     have n1_ := Aside0.mk (blk_drew BK212.out)
     have n2_ := Aside0.mk (blk_drew BK213.out)
     have n3_ := Aside0.mk (below_drew1 HB.out)
     clear BK211
     clear BK212
     clear BK213
     clear HB
     have BK211 := n0_
     have BK212 := n1_
     have BK213 := n2_
     have HB := n3_
     clear n0_ n1_ n2_ n3_
     refine start_ (n := 18) (S := fun w' => w'.cell? ⟨gb211, 0, none⟩ = some (.int .i64 a0_0) ∧ w'.cell? ⟨gb211, 1, none⟩ = some (.int .i64 a0_1) ∧ w'.cell? ⟨gb211, 2, none⟩ = some (.int .i64 a0_2) ∧ w'.cell? ⟨gb211, 3, none⟩ = some (.int .i64 a0_3) ∧ w'.cell? ⟨gb212, 0, none⟩ = some (.int .i64 a1_0) ∧ w'.cell? ⟨gb212, 1, none⟩ = some (.int .i64 a1_1) ∧ w'.cell? ⟨gb212, 2, none⟩ = some (.int .i64 a1_2) ∧ w'.cell? ⟨gb212, 3, none⟩ = some (.int .i64 a1_3)) (ds := []) #[F, F, F, F, F, F, F, F, F, F, F, F, F, F, F, F, F, F] (by kernel_rfl) rfl rfl ⟨bc BK211 0, bc BK211 1, bc BK211 2, bc BK211 3, bc BK212 0, bc BK212 1, bc BK212 2, bc BK212 3⟩ (fun hHeld => ?_); refine with_tabW spec_ValMeet.tab1 spec_ValMeet.bits1 (fun HT_ HW_ => ?_)
     generalize w6.drew = w13 at BK211 BK212 BK213 HB hHeld ⊢
     refine take_ (i := 0) (N := some 7) (v := ?_) (a' := ?_) #[T, F, F, F, F, F, F, F, F, F, F, F, F, F, F, F, F, F] rfl rfl (take_ofW HT_.out HW_.out (by kernel_rfl)) (fun _ _ _ h => h) (Or.inl ⟨by rfl, ?_⟩) hHeld ?_ ?_
     rotate_left
     ·rintro w' ⟨s0, s1, s2, s3, s4, s5, s6, s7⟩
      go_simp
      with_reducible rfl
     rotate_left
     ·exact pz
     refine one_ (i := 1) (N := some 8) #[T, T, F, F, F, F, F, F, F, F, F, F, F, F, F, F, F, F] rfl rfl (one_of HT_.out (by kernel_rfl)) (by decide) (fun K hK => ?_)
     refine goes_ Try.func57 (by kernel_rfl) rfl #[.agg #[.int .i64 a0_0, .int .i64 a0_1, .int .i64 a0_2, .int .i64 a0_3]] (by rfl) rfl rfl mz ?_
     with_reducible refine (spec_ValOk.calls k a0_0 a0_1 a0_2 a0_3 true _ A7.out).mono ?_
     rintro e w14 ⟨rfl, hb⟩
     refine ⟨_, rfl, ?_⟩
     have n0_ := Aside0.mk (blk_below (g := gb211) (o := b4 a0_0 a0_1 a0_2 a0_3 25) (bz BK211.out) hb)
     have n1_ := Aside0.mk (blk_below (g := gb212) (o := b4 a1_0 a1_1 a1_2 a1_3 25) (bz BK212.out) hb)
     have n2_ := Aside0.mk (blk_below (g := gb213) (o := b4 0 0 0 0 25) (bz BK213.out) hb)
     have n3_ := Aside0.mk (below_step (hz3 HB.out GE211.out GE212.out GE213.out) hb)
     clear BK211
     clear BK212
     clear BK213
     clear HB
     have BK211 := n0_
     have BK212 := n1_
     have BK213 := n2_
     have HB := n3_
     clear n0_ n1_ n2_ n3_
     (try clear hb)
     (try clear hb2)
     (try clear hk)
     (try clear hi)
     refine hK.out _ _ ⟨bc BK211 0, bc BK211 1, bc BK211 2, bc BK211 3, bc BK212 0, bc BK212 1, bc BK212 2, bc BK212 3⟩ (fun hHeld => ?_)
     clear hK K
     refine norm_ (a' := ?_) ?_ ?_
     rotate_left
     ·show Act.put _ (some 8) _ = _
      simp only [Act.put, List.setIfInBounds_toArray, List.set_cons_zero, List.set_cons_succ, i64_w, i32_w]
      rfl
     refine pure_ (i := 2) (N := some 9) (v := ?_) (a' := ?_) #[T, T, T, F, F, F, F, F, F, F, F, F, F, F, F, F, F, F] rfl rfl (any_of HT_.out (by kernel_rfl)) (fun _ _ _ h => h) (Or.inl ⟨by rfl, ?_⟩) ?_ ?_
     rotate_left
     ·exact gz
     rotate_left
     ·exact pz
     refine pure_ (i := 3) (N := some 10) (v := ?_) (a' := ?_) #[T, T, T, T, F, F, F, F, F, F, F, F, F, F, F, F, F, F] rfl rfl (any_of HT_.out (by kernel_rfl)) (fun _ _ _ h => h) (Or.inl ⟨by rfl, ?_⟩) ?_ ?_
     rotate_left
     ·exact gz
     rotate_left
     ·exact pz
     refine take_ (i := 4) (N := some 11) (v := ?_) (a' := ?_) #[T, T, T, T, T, F, F, F, F, F, F, F, F, F, F, F, F, F] rfl rfl (take_ofW HT_.out HW_.out (by kernel_rfl)) (fun _ _ _ h => h) (Or.inl ⟨by rfl, ?_⟩) hHeld ?_ ?_
     rotate_left
     ·rintro w' ⟨s0, s1, s2, s3, s4, s5, s6, s7⟩
      go_simp
      with_reducible rfl
     rotate_left
     ·exact pz
     refine one_ (i := 5) (N := some 12) #[T, T, T, T, T, T, F, F, F, F, F, F, F, F, F, F, F, F] rfl rfl (one_of HT_.out (by kernel_rfl)) (by decide) (fun K hK => ?_)
     refine goes_ Try.func57 (by kernel_rfl) rfl #[.agg #[.int .i64 a1_0, .int .i64 a1_1, .int .i64 a1_2, .int .i64 a1_3]] (by rfl) rfl rfl mz ?_
     with_reducible refine (spec_ValOk.calls k a1_0 a1_1 a1_2 a1_3 true _ A9.out).mono ?_
     rintro e w15 ⟨rfl, hb⟩
     refine ⟨_, rfl, ?_⟩
     have n0_ := Aside0.mk (blk_below (g := gb211) (o := b4 a0_0 a0_1 a0_2 a0_3 25) (bz BK211.out) hb)
     have n1_ := Aside0.mk (blk_below (g := gb212) (o := b4 a1_0 a1_1 a1_2 a1_3 25) (bz BK212.out) hb)
     have n2_ := Aside0.mk (blk_below (g := gb213) (o := b4 0 0 0 0 25) (bz BK213.out) hb)
     have n3_ := Aside0.mk (below_step (hz3 HB.out GE211.out GE212.out GE213.out) hb)
     clear BK211
     clear BK212
     clear BK213
     clear HB
     have BK211 := n0_
     have BK212 := n1_
     have BK213 := n2_
     have HB := n3_
     clear n0_ n1_ n2_ n3_
     (try clear hb)
     (try clear hb2)
     (try clear hk)
     (try clear hi)
     refine hK.out _ _ ⟨bc BK211 0, bc BK211 1, bc BK211 2, bc BK211 3, bc BK212 0, bc BK212 1, bc BK212 2, bc BK212 3⟩ (fun hHeld => ?_)
     clear hK K
     refine norm_ (a' := ?_) ?_ ?_
     rotate_left
     ·show Act.put _ (some 12) _ = _
      simp only [Act.put, List.setIfInBounds_toArray, List.set_cons_zero, List.set_cons_succ, i64_w, i32_w]
      rfl
     refine pure_ (i := 6) (N := some 13) (v := ?_) (a' := ?_) #[T, T, T, T, T, T, T, F, F, F, F, F, F, F, F, F, F, F] rfl rfl (any_of HT_.out (by kernel_rfl)) (fun _ _ _ h => h) (Or.inl ⟨by rfl, ?_⟩) ?_ ?_
     rotate_left
     ·exact gz
     rotate_left
     ·exact pz
     refine pure_ (i := 7) (N := some 14) (v := ?_) (a' := ?_) #[T, T, T, T, T, T, T, T, F, F, F, F, F, F, F, F, F, F] rfl rfl (any_of HT_.out (by kernel_rfl)) (fun _ _ _ h => h) (Or.inl ⟨by rfl, ?_⟩) ?_ ?_
     rotate_left
     ·exact gz
     rotate_left
     ·exact pz
     refine pure_ (i := 8) (N := some 15) (v := ?_) (a' := ?_) #[T, T, T, T, T, T, T, T, T, F, F, F, F, F, F, F, F, F] rfl rfl (any_of HT_.out (by kernel_rfl)) (fun _ _ _ h => h) (Or.inl ⟨by rfl, ?_⟩) ?_ ?_
     rotate_left
     ·exact gz
     rotate_left
     ·exact pz
     refine take_ (i := 9) (N := some 16) (v := ?_) (a' := ?_) #[T, T, T, T, T, T, T, T, T, T, F, F, F, F, F, F, F, F] rfl rfl (take_ofW HT_.out HW_.out (by kernel_rfl)) (fun _ _ _ h => h) (Or.inl ⟨by rfl, ?_⟩) hHeld ?_ ?_
     rotate_left
     ·rintro w' ⟨s0, s1, s2, s3, s4, s5, s6, s7⟩
      go_simp
      with_reducible rfl
     rotate_left
     ·exact pz
     refine one_ (i := 10) (N := some 17) #[T, T, T, T, T, T, T, T, T, T, T, F, F, F, F, F, F, F] rfl rfl (one_of HT_.out (by kernel_rfl)) (by decide) (fun K hK => ?_)
     refine goes_ Try.func58 (by kernel_rfl) rfl #[] (by rfl) rfl rfl mz ?_
     with_reducible refine (spec_l10None.calls  t216 t217 t218 t219 _ A11.out).mono ?_
     rintro e w16 ⟨rfl, hb⟩
     refine ⟨_, rfl, ?_⟩
     have n0_ := Aside0.mk (blk_below (g := gb211) (o := b4 a0_0 a0_1 a0_2 a0_3 25) (bz BK211.out) hb)
     have n1_ := Aside0.mk (blk_below (g := gb212) (o := b4 a1_0 a1_1 a1_2 a1_3 25) (bz BK212.out) hb)
     have n2_ := Aside0.mk (blk_below (g := gb213) (o := b4 0 0 0 0 25) (bz BK213.out) hb)
     have n3_ := Aside0.mk (below_step (hz3 HB.out GE211.out GE212.out GE213.out) hb)
     clear BK211
     clear BK212
     clear BK213
     clear HB
     have BK211 := n0_
     have BK212 := n1_
     have BK213 := n2_
     have HB := n3_
     clear n0_ n1_ n2_ n3_
     (try clear hb)
     (try clear hb2)
     (try clear hk)
     (try clear hi)
     refine hK.out _ _ ⟨bc BK211 0, bc BK211 1, bc BK211 2, bc BK211 3, bc BK212 0, bc BK212 1, bc BK212 2, bc BK212 3⟩ (fun hHeld => ?_)
     clear hK K
     refine norm_ (a' := ?_) ?_ ?_
     rotate_left
     ·show Act.put _ (some 17) _ = _
      simp only [Act.put, List.setIfInBounds_toArray, List.set_cons_zero, List.set_cons_succ, i64_w, i32_w]
      rfl
     refine pure_ (i := 11) (N := some 18) (v := ?_) (a' := ?_) #[T, T, T, T, T, T, T, T, T, T, T, T, F, F, F, F, F, F] rfl rfl (any_of HT_.out (by kernel_rfl)) (fun _ _ _ h => h) (Or.inl ⟨by rfl, ?_⟩) ?_ ?_
     rotate_left
     ·exact gz
     rotate_left
     ·exact pz
     refine pure_ (i := 12) (N := some 19) (v := ?_) (a' := ?_) #[T, T, T, T, T, T, T, T, T, T, T, T, T, F, F, F, F, F] rfl rfl (any_of HT_.out (by kernel_rfl)) (fun _ _ _ h => h) (Or.inl ⟨by rfl, ?_⟩) ?_ ?_
     rotate_left
     ·exact gz
     rotate_left
     ·exact pz
     refine pure_ (i := 13) (N := some 20) (v := ?_) (a' := ?_) #[T, T, T, T, T, T, T, T, T, T, T, T, T, T, F, F, F, F] rfl rfl (any_of HT_.out (by kernel_rfl)) (fun _ _ _ h => h) (Or.inl ⟨by rfl, ?_⟩) ?_ ?_
     rotate_left
     ·exact gz
     rotate_left
     ·exact pz
     refine pure_ (i := 14) (N := some 21) (v := undef) (a' := ?_) #[T, T, T, T, T, T, T, T, T, T, T, T, T, T, T, F, F, F] rfl rfl (any_of HT_.out (by kernel_rfl)) (fun _ _ _ h => h) (Or.inr ⟨by rfl, rfl⟩) ?_ ?_
     rotate_left
     ·exact pz
     refine pure_ (i := 15) (N := some 22) (v := undef) (a' := ?_) #[T, T, T, T, T, T, T, T, T, T, T, T, T, T, T, T, F, F] rfl rfl (any_of HT_.out (by kernel_rfl)) (fun _ _ _ h => h) (Or.inr ⟨by rfl, rfl⟩) ?_ ?_
     rotate_left
     ·exact pz
     refine pure_ (i := 16) (N := some 23) (v := undef) (a' := ?_) #[T, T, T, T, T, T, T, T, T, T, T, T, T, T, T, T, T, F] rfl rfl (any_of HT_.out (by kernel_rfl)) (fun _ _ _ h => h) (Or.inr ⟨by rfl, rfl⟩) ?_ ?_
     rotate_left
     ·exact pz
     refine pure_ (i := 17) (N := some 24) (v := ?_) (a' := ?_) #[T, T, T, T, T, T, T, T, T, T, T, T, T, T, T, T, T, T] rfl rfl (any_of HT_.out (by kernel_rfl)) (fun _ _ _ h => h) (Or.inl ⟨by rfl, ?_⟩) ?_ ?_
     rotate_left
     ·exact gz
     rotate_left
     ·exact pz
     refine done_ (done_of HT_.out (by kernel_rfl)) ?_
     try go_wp2
     go_meet
     case rel => exact ⟨_, (true), (by first | rfl | (simp; done) | (simp [*]; done)), H', ⟨by first | omega | exact Nat.le_refl _⟩, ⟨bz BK211.out⟩, ⟨bz BK212.out⟩, ⟨bz BK213.out⟩, ⟨hz3 HB.out GE211.out GE212.out GE213.out⟩⟩
    ·rw [if_neg c12] at H
     have c12b0 : (a0_0 == t216 && (a0_1 == t217 && (a0_2 == t218 && (a0_3 == t219)))) = false := by simpa using c12
     (try (have c12b1 : decide (a0_0 = t216 && (a0_1 == t217 && (a0_2 == t218 && (a0_3 == t219)))) = false := by simpa using c12))
     (try (have c12b2 : (a0_0 == t216 && (a0_1 == t217 && (a0_2 == t218 && (a0_3 == t219)))) = false := by simpa using c12))
     (try (have c12b3 : ¬ (a0_0 = t216 && (a0_1 == t217 && (a0_2 == t218 && (a0_3 == t219)))) := by simpa using c12))
     clear c12
     (first | rw [c12b0] | (simp only [i64_w, i32_w]; rw [c12b0]) | skip)
     replace H := Option.bind_eq_some_iff.mp H
     obtain ⟨⟨t220, t221, t222, t223⟩, A170, H⟩ := H
     replace H : (spec_ValMeet.j0 k (a1_0 == t220 && (a1_1 == t221 && (a1_2 == t222 && (a1_3 == t223)))) a0_0 a0_1 a0_2 a0_3 a1_0 a1_1 a1_2 a1_3) = some (r1, r2, r3, r4) := H
     have A17 := Aside0.mk A170
     clear A170
     have H' := Aside0.mk H
     clear H
     try go_wp2
     have n0_ := Aside0.mk (blk_drew BK211.out)
     have n1_ := Aside0.mk (blk_drew BK212.out)
     have n2_ := Aside0.mk (blk_drew BK213.out)
     have n3_ := Aside0.mk (below_drew1 HB.out)
     clear BK211
     clear BK212
     clear BK213
     clear HB
     have BK211 := n0_
     have BK212 := n1_
     have BK213 := n2_
     have HB := n3_
     clear n0_ n1_ n2_ n3_
     refine start_ (n := 18) (S := fun w' => w'.cell? ⟨gb211, 0, none⟩ = some (.int .i64 a0_0) ∧ w'.cell? ⟨gb211, 1, none⟩ = some (.int .i64 a0_1) ∧ w'.cell? ⟨gb211, 2, none⟩ = some (.int .i64 a0_2) ∧ w'.cell? ⟨gb211, 3, none⟩ = some (.int .i64 a0_3) ∧ w'.cell? ⟨gb212, 0, none⟩ = some (.int .i64 a1_0) ∧ w'.cell? ⟨gb212, 1, none⟩ = some (.int .i64 a1_1) ∧ w'.cell? ⟨gb212, 2, none⟩ = some (.int .i64 a1_2) ∧ w'.cell? ⟨gb212, 3, none⟩ = some (.int .i64 a1_3)) (ds := []) #[F, F, F, F, F, F, F, F, F, F, F, F, F, F, F, F, F, F] (by kernel_rfl) rfl rfl ⟨bc BK211 0, bc BK211 1, bc BK211 2, bc BK211 3, bc BK212 0, bc BK212 1, bc BK212 2, bc BK212 3⟩ (fun hHeld => ?_); refine with_tabW spec_ValMeet.tab1 spec_ValMeet.bits1 (fun HT_ HW_ => ?_)
     generalize w6.drew = w18 at BK211 BK212 BK213 HB hHeld ⊢
     refine take_ (i := 0) (N := some 7) (v := ?_) (a' := ?_) #[T, F, F, F, F, F, F, F, F, F, F, F, F, F, F, F, F, F] rfl rfl (take_ofW HT_.out HW_.out (by kernel_rfl)) (fun _ _ _ h => h) (Or.inl ⟨by rfl, ?_⟩) hHeld ?_ ?_
     rotate_left
     ·rintro w' ⟨s0, s1, s2, s3, s4, s5, s6, s7⟩
      go_simp
      with_reducible rfl
     rotate_left
     ·exact pz
     refine one_ (i := 1) (N := some 8) #[T, T, F, F, F, F, F, F, F, F, F, F, F, F, F, F, F, F] rfl rfl (one_of HT_.out (by kernel_rfl)) (by decide) (fun K hK => ?_)
     refine goes_ Try.func57 (by kernel_rfl) rfl #[.agg #[.int .i64 a0_0, .int .i64 a0_1, .int .i64 a0_2, .int .i64 a0_3]] (by rfl) rfl rfl mz ?_
     with_reducible refine (spec_ValOk.calls k a0_0 a0_1 a0_2 a0_3 true _ A7.out).mono ?_
     rintro e w19 ⟨rfl, hb⟩
     refine ⟨_, rfl, ?_⟩
     have n0_ := Aside0.mk (blk_below (g := gb211) (o := b4 a0_0 a0_1 a0_2 a0_3 25) (bz BK211.out) hb)
     have n1_ := Aside0.mk (blk_below (g := gb212) (o := b4 a1_0 a1_1 a1_2 a1_3 25) (bz BK212.out) hb)
     have n2_ := Aside0.mk (blk_below (g := gb213) (o := b4 0 0 0 0 25) (bz BK213.out) hb)
     have n3_ := Aside0.mk (below_step (hz3 HB.out GE211.out GE212.out GE213.out) hb)
     clear BK211
     clear BK212
     clear BK213
     clear HB
     have BK211 := n0_
     have BK212 := n1_
     have BK213 := n2_
     have HB := n3_
     clear n0_ n1_ n2_ n3_
     (try clear hb)
     (try clear hb2)
     (try clear hk)
     (try clear hi)
     refine hK.out _ _ ⟨bc BK211 0, bc BK211 1, bc BK211 2, bc BK211 3, bc BK212 0, bc BK212 1, bc BK212 2, bc BK212 3⟩ (fun hHeld => ?_)
     clear hK K
     refine norm_ (a' := ?_) ?_ ?_
     rotate_left
     ·show Act.put _ (some 8) _ = _
      simp only [Act.put, List.setIfInBounds_toArray, List.set_cons_zero, List.set_cons_succ, i64_w, i32_w]
      rfl
     refine pure_ (i := 2) (N := some 9) (v := ?_) (a' := ?_) #[T, T, T, F, F, F, F, F, F, F, F, F, F, F, F, F, F, F] rfl rfl (any_of HT_.out (by kernel_rfl)) (fun _ _ _ h => h) (Or.inl ⟨by rfl, ?_⟩) ?_ ?_
     rotate_left
     ·exact gz
     rotate_left
     ·exact pz
     refine pure_ (i := 3) (N := some 10) (v := ?_) (a' := ?_) #[T, T, T, T, F, F, F, F, F, F, F, F, F, F, F, F, F, F] rfl rfl (any_of HT_.out (by kernel_rfl)) (fun _ _ _ h => h) (Or.inl ⟨by rfl, ?_⟩) ?_ ?_
     rotate_left
     ·exact gz
     rotate_left
     ·exact pz
     refine take_ (i := 4) (N := some 11) (v := ?_) (a' := ?_) #[T, T, T, T, T, F, F, F, F, F, F, F, F, F, F, F, F, F] rfl rfl (take_ofW HT_.out HW_.out (by kernel_rfl)) (fun _ _ _ h => h) (Or.inl ⟨by rfl, ?_⟩) hHeld ?_ ?_
     rotate_left
     ·rintro w' ⟨s0, s1, s2, s3, s4, s5, s6, s7⟩
      go_simp
      with_reducible rfl
     rotate_left
     ·exact pz
     refine one_ (i := 5) (N := some 12) #[T, T, T, T, T, T, F, F, F, F, F, F, F, F, F, F, F, F] rfl rfl (one_of HT_.out (by kernel_rfl)) (by decide) (fun K hK => ?_)
     refine goes_ Try.func57 (by kernel_rfl) rfl #[.agg #[.int .i64 a1_0, .int .i64 a1_1, .int .i64 a1_2, .int .i64 a1_3]] (by rfl) rfl rfl mz ?_
     with_reducible refine (spec_ValOk.calls k a1_0 a1_1 a1_2 a1_3 true _ A9.out).mono ?_
     rintro e w20 ⟨rfl, hb⟩
     refine ⟨_, rfl, ?_⟩
     have n0_ := Aside0.mk (blk_below (g := gb211) (o := b4 a0_0 a0_1 a0_2 a0_3 25) (bz BK211.out) hb)
     have n1_ := Aside0.mk (blk_below (g := gb212) (o := b4 a1_0 a1_1 a1_2 a1_3 25) (bz BK212.out) hb)
     have n2_ := Aside0.mk (blk_below (g := gb213) (o := b4 0 0 0 0 25) (bz BK213.out) hb)
     have n3_ := Aside0.mk (below_step (hz3 HB.out GE211.out GE212.out GE213.out) hb)
     clear BK211
     clear BK212
     clear BK213
     clear HB
     have BK211 := n0_
     have BK212 := n1_
     have BK213 := n2_
     have HB := n3_
     clear n0_ n1_ n2_ n3_
     (try clear hb)
     (try clear hb2)
     (try clear hk)
     (try clear hi)
     refine hK.out _ _ ⟨bc BK211 0, bc BK211 1, bc BK211 2, bc BK211 3, bc BK212 0, bc BK212 1, bc BK212 2, bc BK212 3⟩ (fun hHeld => ?_)
     clear hK K
     refine norm_ (a' := ?_) ?_ ?_
     rotate_left
     ·show Act.put _ (some 12) _ = _
      simp only [Act.put, List.setIfInBounds_toArray, List.set_cons_zero, List.set_cons_succ, i64_w, i32_w]
      rfl
     refine pure_ (i := 6) (N := some 13) (v := ?_) (a' := ?_) #[T, T, T, T, T, T, T, F, F, F, F, F, F, F, F, F, F, F] rfl rfl (any_of HT_.out (by kernel_rfl)) (fun _ _ _ h => h) (Or.inl ⟨by rfl, ?_⟩) ?_ ?_
     rotate_left
     ·exact gz
     rotate_left
     ·exact pz
     refine pure_ (i := 7) (N := some 14) (v := ?_) (a' := ?_) #[T, T, T, T, T, T, T, T, F, F, F, F, F, F, F, F, F, F] rfl rfl (any_of HT_.out (by kernel_rfl)) (fun _ _ _ h => h) (Or.inl ⟨by rfl, ?_⟩) ?_ ?_
     rotate_left
     ·exact gz
     rotate_left
     ·exact pz
     refine pure_ (i := 8) (N := some 15) (v := ?_) (a' := ?_) #[T, T, T, T, T, T, T, T, T, F, F, F, F, F, F, F, F, F] rfl rfl (any_of HT_.out (by kernel_rfl)) (fun _ _ _ h => h) (Or.inl ⟨by rfl, ?_⟩) ?_ ?_
     rotate_left
     ·exact gz
     rotate_left
     ·exact pz
     refine take_ (i := 9) (N := some 16) (v := ?_) (a' := ?_) #[T, T, T, T, T, T, T, T, T, T, F, F, F, F, F, F, F, F] rfl rfl (take_ofW HT_.out HW_.out (by kernel_rfl)) (fun _ _ _ h => h) (Or.inl ⟨by rfl, ?_⟩) hHeld ?_ ?_
     rotate_left
     ·rintro w' ⟨s0, s1, s2, s3, s4, s5, s6, s7⟩
      go_simp
      with_reducible rfl
     rotate_left
     ·exact pz
     refine one_ (i := 10) (N := some 17) #[T, T, T, T, T, T, T, T, T, T, T, F, F, F, F, F, F, F] rfl rfl (one_of HT_.out (by kernel_rfl)) (by decide) (fun K hK => ?_)
     refine goes_ Try.func58 (by kernel_rfl) rfl #[] (by rfl) rfl rfl mz ?_
     with_reducible refine (spec_l10None.calls  t216 t217 t218 t219 _ A11.out).mono ?_
     rintro e w21 ⟨rfl, hb⟩
     refine ⟨_, rfl, ?_⟩
     have n0_ := Aside0.mk (blk_below (g := gb211) (o := b4 a0_0 a0_1 a0_2 a0_3 25) (bz BK211.out) hb)
     have n1_ := Aside0.mk (blk_below (g := gb212) (o := b4 a1_0 a1_1 a1_2 a1_3 25) (bz BK212.out) hb)
     have n2_ := Aside0.mk (blk_below (g := gb213) (o := b4 0 0 0 0 25) (bz BK213.out) hb)
     have n3_ := Aside0.mk (below_step (hz3 HB.out GE211.out GE212.out GE213.out) hb)
     clear BK211
     clear BK212
     clear BK213
     clear HB
     have BK211 := n0_
     have BK212 := n1_
     have BK213 := n2_
     have HB := n3_
     clear n0_ n1_ n2_ n3_
     (try clear hb)
     (try clear hb2)
     (try clear hk)
     (try clear hi)
     refine hK.out _ _ ⟨bc BK211 0, bc BK211 1, bc BK211 2, bc BK211 3, bc BK212 0, bc BK212 1, bc BK212 2, bc BK212 3⟩ (fun hHeld => ?_)
     clear hK K
     refine norm_ (a' := ?_) ?_ ?_
     rotate_left
     ·show Act.put _ (some 17) _ = _
      simp only [Act.put, List.setIfInBounds_toArray, List.set_cons_zero, List.set_cons_succ, i64_w, i32_w]
      rfl
     refine pure_ (i := 11) (N := some 18) (v := ?_) (a' := ?_) #[T, T, T, T, T, T, T, T, T, T, T, T, F, F, F, F, F, F] rfl rfl (any_of HT_.out (by kernel_rfl)) (fun _ _ _ h => h) (Or.inl ⟨by rfl, ?_⟩) ?_ ?_
     rotate_left
     ·exact gz
     rotate_left
     ·exact pz
     refine pure_ (i := 12) (N := some 19) (v := ?_) (a' := ?_) #[T, T, T, T, T, T, T, T, T, T, T, T, T, F, F, F, F, F] rfl rfl (any_of HT_.out (by kernel_rfl)) (fun _ _ _ h => h) (Or.inl ⟨by rfl, ?_⟩) ?_ ?_
     rotate_left
     ·exact gz
     rotate_left
     ·exact pz
     refine pure_ (i := 13) (N := some 20) (v := ?_) (a' := ?_) #[T, T, T, T, T, T, T, T, T, T, T, T, T, T, F, F, F, F] rfl rfl (any_of HT_.out (by kernel_rfl)) (fun _ _ _ h => h) (Or.inl ⟨by rfl, ?_⟩) ?_ ?_
     rotate_left
     ·exact gz
     rotate_left
     ·exact pz
     refine take_ (i := 14) (N := some 21) (v := ?_) (a' := ?_) #[T, T, T, T, T, T, T, T, T, T, T, T, T, T, T, F, F, F] rfl rfl (take_ofW HT_.out HW_.out (by kernel_rfl)) (fun _ _ _ h => h) (Or.inl ⟨by rfl, ?_⟩) hHeld ?_ ?_
     rotate_left
     ·rintro w' ⟨s0, s1, s2, s3, s4, s5, s6, s7⟩
      go_simp
      with_reducible rfl
     rotate_left
     ·exact pz
     refine one_ (i := 15) (N := some 22) #[T, T, T, T, T, T, T, T, T, T, T, T, T, T, T, T, F, F] rfl rfl (one_of HT_.out (by kernel_rfl)) (by decide) (fun K hK => ?_)
     refine goes_ Try.func58 (by kernel_rfl) rfl #[] (by rfl) rfl rfl mz ?_
     with_reducible refine (spec_l10None.calls  t220 t221 t222 t223 _ A17.out).mono ?_
     rintro e w22 ⟨rfl, hb⟩
     refine ⟨_, rfl, ?_⟩
     have n0_ := Aside0.mk (blk_below (g := gb211) (o := b4 a0_0 a0_1 a0_2 a0_3 25) (bz BK211.out) hb)
     have n1_ := Aside0.mk (blk_below (g := gb212) (o := b4 a1_0 a1_1 a1_2 a1_3 25) (bz BK212.out) hb)
     have n2_ := Aside0.mk (blk_below (g := gb213) (o := b4 0 0 0 0 25) (bz BK213.out) hb)
     have n3_ := Aside0.mk (below_step (hz3 HB.out GE211.out GE212.out GE213.out) hb)
     clear BK211
     clear BK212
     clear BK213
     clear HB
     have BK211 := n0_
     have BK212 := n1_
     have BK213 := n2_
     have HB := n3_
     clear n0_ n1_ n2_ n3_
     (try clear hb)
     (try clear hb2)
     (try clear hk)
     (try clear hi)
     refine hK.out _ _ ⟨bc BK211 0, bc BK211 1, bc BK211 2, bc BK211 3, bc BK212 0, bc BK212 1, bc BK212 2, bc BK212 3⟩ (fun hHeld => ?_)
     clear hK K
     refine norm_ (a' := ?_) ?_ ?_
     rotate_left
     ·show Act.put _ (some 22) _ = _
      simp only [Act.put, List.setIfInBounds_toArray, List.set_cons_zero, List.set_cons_succ, i64_w, i32_w]
      rfl
     refine pure_ (i := 16) (N := some 23) (v := ?_) (a' := ?_) #[T, T, T, T, T, T, T, T, T, T, T, T, T, T, T, T, T, F] rfl rfl (any_of HT_.out (by kernel_rfl)) (fun _ _ _ h => h) (Or.inl ⟨by rfl, ?_⟩) ?_ ?_
     rotate_left
     ·exact gz
     rotate_left
     ·exact pz
     refine pure_ (i := 17) (N := some 24) (v := ?_) (a' := ?_) #[T, T, T, T, T, T, T, T, T, T, T, T, T, T, T, T, T, T] rfl rfl (any_of HT_.out (by kernel_rfl)) (fun _ _ _ h => h) (Or.inl ⟨by rfl, ?_⟩) ?_ ?_
     rotate_left
     ·exact gz
     rotate_left
     ·exact pz
     refine done_ (done_of HT_.out (by kernel_rfl)) ?_
     try go_wp2
     go_meet
     case rel => exact ⟨_, ((a1_0 == t220 && (a1_1 == t221 && (a1_2 == t222 && (a1_3 == t223))))), (by first | rfl | (simp; done) | (simp [*]; done)), H', ⟨by first | omega | exact Nat.le_refl _⟩, ⟨bz BK211.out⟩, ⟨bz BK212.out⟩, ⟨bz BK213.out⟩, ⟨hz3 HB.out GE211.out GE212.out GE213.out⟩⟩
   ·replace c10 := Bool.eq_false_iff.mpr c10
    subst c10
    have H1 : (spec_ValMeet.j0 k true a0_0 a0_1 a0_2 a0_3 a1_0 a1_1 a1_2 a1_3) = some (r1, r2, r3, r4) := by rw [if_neg (show ¬ (false = true) by decide)] at H; exact H
    clear H
    have H := H1
    clear H1
    have H' := Aside0.mk H
    clear H
    try go_wp2
    have n0_ := Aside0.mk (blk_drew BK211.out)
    have n1_ := Aside0.mk (blk_drew BK212.out)
    have n2_ := Aside0.mk (blk_drew BK213.out)
    have n3_ := Aside0.mk (below_drew1 HB.out)
    clear BK211
    clear BK212
    clear BK213
    clear HB
    have BK211 := n0_
    have BK212 := n1_
    have BK213 := n2_
    have HB := n3_
    clear n0_ n1_ n2_ n3_
    refine start_ (n := 18) (S := fun w' => w'.cell? ⟨gb211, 0, none⟩ = some (.int .i64 a0_0) ∧ w'.cell? ⟨gb211, 1, none⟩ = some (.int .i64 a0_1) ∧ w'.cell? ⟨gb211, 2, none⟩ = some (.int .i64 a0_2) ∧ w'.cell? ⟨gb211, 3, none⟩ = some (.int .i64 a0_3) ∧ w'.cell? ⟨gb212, 0, none⟩ = some (.int .i64 a1_0) ∧ w'.cell? ⟨gb212, 1, none⟩ = some (.int .i64 a1_1) ∧ w'.cell? ⟨gb212, 2, none⟩ = some (.int .i64 a1_2) ∧ w'.cell? ⟨gb212, 3, none⟩ = some (.int .i64 a1_3)) (ds := []) #[F, F, F, F, F, F, F, F, F, F, F, F, F, F, F, F, F, F] (by kernel_rfl) rfl rfl ⟨bc BK211 0, bc BK211 1, bc BK211 2, bc BK211 3, bc BK212 0, bc BK212 1, bc BK212 2, bc BK212 3⟩ (fun hHeld => ?_); refine with_tabW spec_ValMeet.tab1 spec_ValMeet.bits1 (fun HT_ HW_ => ?_)
    generalize w6.drew = w23 at BK211 BK212 BK213 HB hHeld ⊢
    refine take_ (i := 0) (N := some 7) (v := ?_) (a' := ?_) #[T, F, F, F, F, F, F, F, F, F, F, F, F, F, F, F, F, F] rfl rfl (take_ofW HT_.out HW_.out (by kernel_rfl)) (fun _ _ _ h => h) (Or.inl ⟨by rfl, ?_⟩) hHeld ?_ ?_
    rotate_left
    ·rintro w' ⟨s0, s1, s2, s3, s4, s5, s6, s7⟩
     go_simp
     with_reducible rfl
    rotate_left
    ·exact pz
    refine one_ (i := 1) (N := some 8) #[T, T, F, F, F, F, F, F, F, F, F, F, F, F, F, F, F, F] rfl rfl (one_of HT_.out (by kernel_rfl)) (by decide) (fun K hK => ?_)
    refine goes_ Try.func57 (by kernel_rfl) rfl #[.agg #[.int .i64 a0_0, .int .i64 a0_1, .int .i64 a0_2, .int .i64 a0_3]] (by rfl) rfl rfl mz ?_
    with_reducible refine (spec_ValOk.calls k a0_0 a0_1 a0_2 a0_3 true _ A7.out).mono ?_
    rintro e w24 ⟨rfl, hb⟩
    refine ⟨_, rfl, ?_⟩
    have n0_ := Aside0.mk (blk_below (g := gb211) (o := b4 a0_0 a0_1 a0_2 a0_3 25) (bz BK211.out) hb)
    have n1_ := Aside0.mk (blk_below (g := gb212) (o := b4 a1_0 a1_1 a1_2 a1_3 25) (bz BK212.out) hb)
    have n2_ := Aside0.mk (blk_below (g := gb213) (o := b4 0 0 0 0 25) (bz BK213.out) hb)
    have n3_ := Aside0.mk (below_step (hz3 HB.out GE211.out GE212.out GE213.out) hb)
    clear BK211
    clear BK212
    clear BK213
    clear HB
    have BK211 := n0_
    have BK212 := n1_
    have BK213 := n2_
    have HB := n3_
    clear n0_ n1_ n2_ n3_
    (try clear hb)
    (try clear hb2)
    (try clear hk)
    (try clear hi)
    refine hK.out _ _ ⟨bc BK211 0, bc BK211 1, bc BK211 2, bc BK211 3, bc BK212 0, bc BK212 1, bc BK212 2, bc BK212 3⟩ (fun hHeld => ?_)
    clear hK K
    refine norm_ (a' := ?_) ?_ ?_
    rotate_left
    ·show Act.put _ (some 8) _ = _
     simp only [Act.put, List.setIfInBounds_toArray, List.set_cons_zero, List.set_cons_succ, i64_w, i32_w]
     rfl
    refine pure_ (i := 2) (N := some 9) (v := ?_) (a' := ?_) #[T, T, T, F, F, F, F, F, F, F, F, F, F, F, F, F, F, F] rfl rfl (any_of HT_.out (by kernel_rfl)) (fun _ _ _ h => h) (Or.inl ⟨by rfl, ?_⟩) ?_ ?_
    rotate_left
    ·exact gz
    rotate_left
    ·exact pz
    refine pure_ (i := 3) (N := some 10) (v := ?_) (a' := ?_) #[T, T, T, T, F, F, F, F, F, F, F, F, F, F, F, F, F, F] rfl rfl (any_of HT_.out (by kernel_rfl)) (fun _ _ _ h => h) (Or.inl ⟨by rfl, ?_⟩) ?_ ?_
    rotate_left
    ·exact gz
    rotate_left
    ·exact pz
    refine take_ (i := 4) (N := some 11) (v := ?_) (a' := ?_) #[T, T, T, T, T, F, F, F, F, F, F, F, F, F, F, F, F, F] rfl rfl (take_ofW HT_.out HW_.out (by kernel_rfl)) (fun _ _ _ h => h) (Or.inl ⟨by rfl, ?_⟩) hHeld ?_ ?_
    rotate_left
    ·rintro w' ⟨s0, s1, s2, s3, s4, s5, s6, s7⟩
     go_simp
     with_reducible rfl
    rotate_left
    ·exact pz
    refine one_ (i := 5) (N := some 12) #[T, T, T, T, T, T, F, F, F, F, F, F, F, F, F, F, F, F] rfl rfl (one_of HT_.out (by kernel_rfl)) (by decide) (fun K hK => ?_)
    refine goes_ Try.func57 (by kernel_rfl) rfl #[.agg #[.int .i64 a1_0, .int .i64 a1_1, .int .i64 a1_2, .int .i64 a1_3]] (by rfl) rfl rfl mz ?_
    with_reducible refine (spec_ValOk.calls k a1_0 a1_1 a1_2 a1_3 false _ A9.out).mono ?_
    rintro e w25 ⟨rfl, hb⟩
    refine ⟨_, rfl, ?_⟩
    have n0_ := Aside0.mk (blk_below (g := gb211) (o := b4 a0_0 a0_1 a0_2 a0_3 25) (bz BK211.out) hb)
    have n1_ := Aside0.mk (blk_below (g := gb212) (o := b4 a1_0 a1_1 a1_2 a1_3 25) (bz BK212.out) hb)
    have n2_ := Aside0.mk (blk_below (g := gb213) (o := b4 0 0 0 0 25) (bz BK213.out) hb)
    have n3_ := Aside0.mk (below_step (hz3 HB.out GE211.out GE212.out GE213.out) hb)
    clear BK211
    clear BK212
    clear BK213
    clear HB
    have BK211 := n0_
    have BK212 := n1_
    have BK213 := n2_
    have HB := n3_
    clear n0_ n1_ n2_ n3_
    (try clear hb)
    (try clear hb2)
    (try clear hk)
    (try clear hi)
    refine hK.out _ _ ⟨bc BK211 0, bc BK211 1, bc BK211 2, bc BK211 3, bc BK212 0, bc BK212 1, bc BK212 2, bc BK212 3⟩ (fun hHeld => ?_)
    clear hK K
    refine norm_ (a' := ?_) ?_ ?_
    rotate_left
    ·show Act.put _ (some 12) _ = _
     simp only [Act.put, List.setIfInBounds_toArray, List.set_cons_zero, List.set_cons_succ, i64_w, i32_w]
     rfl
    refine pure_ (i := 6) (N := some 13) (v := ?_) (a' := ?_) #[T, T, T, T, T, T, T, F, F, F, F, F, F, F, F, F, F, F] rfl rfl (any_of HT_.out (by kernel_rfl)) (fun _ _ _ h => h) (Or.inl ⟨by rfl, ?_⟩) ?_ ?_
    rotate_left
    ·exact gz
    rotate_left
    ·exact pz
    refine pure_ (i := 7) (N := some 14) (v := ?_) (a' := ?_) #[T, T, T, T, T, T, T, T, F, F, F, F, F, F, F, F, F, F] rfl rfl (any_of HT_.out (by kernel_rfl)) (fun _ _ _ h => h) (Or.inl ⟨by rfl, ?_⟩) ?_ ?_
    rotate_left
    ·exact gz
    rotate_left
    ·exact pz
    refine pure_ (i := 8) (N := some 15) (v := ?_) (a' := ?_) #[T, T, T, T, T, T, T, T, T, F, F, F, F, F, F, F, F, F] rfl rfl (any_of HT_.out (by kernel_rfl)) (fun _ _ _ h => h) (Or.inl ⟨by rfl, ?_⟩) ?_ ?_
    rotate_left
    ·exact gz
    rotate_left
    ·exact pz
    refine pure_ (i := 9) (N := some 16) (v := undef) (a' := ?_) #[T, T, T, T, T, T, T, T, T, T, F, F, F, F, F, F, F, F] rfl rfl (any_of HT_.out (by kernel_rfl)) (fun _ _ _ h => h) (Or.inr ⟨by rfl, rfl⟩) ?_ ?_
    rotate_left
    ·exact pz
    refine pure_ (i := 10) (N := some 17) (v := undef) (a' := ?_) #[T, T, T, T, T, T, T, T, T, T, T, F, F, F, F, F, F, F] rfl rfl (any_of HT_.out (by kernel_rfl)) (fun _ _ _ h => h) (Or.inr ⟨by rfl, rfl⟩) ?_ ?_
    rotate_left
    ·exact pz
    refine pure_ (i := 11) (N := some 18) (v := undef) (a' := ?_) #[T, T, T, T, T, T, T, T, T, T, T, T, F, F, F, F, F, F] rfl rfl (any_of HT_.out (by kernel_rfl)) (fun _ _ _ h => h) (Or.inr ⟨by rfl, rfl⟩) ?_ ?_
    rotate_left
    ·exact pz
    refine pure_ (i := 12) (N := some 19) (v := ?_) (a' := ?_) #[T, T, T, T, T, T, T, T, T, T, T, T, T, F, F, F, F, F] rfl rfl (any_of HT_.out (by kernel_rfl)) (fun _ _ _ h => h) (Or.inl ⟨by rfl, ?_⟩) ?_ ?_
    rotate_left
    ·exact gz
    rotate_left
    ·exact pz
    refine pure_ (i := 13) (N := some 20) (v := ?_) (a' := ?_) #[T, T, T, T, T, T, T, T, T, T, T, T, T, T, F, F, F, F] rfl rfl (any_of HT_.out (by kernel_rfl)) (fun _ _ _ h => h) (Or.inl ⟨by rfl, ?_⟩) ?_ ?_
    rotate_left
    ·exact gz
    rotate_left
    ·exact pz
    refine pure_ (i := 14) (N := some 21) (v := undef) (a' := ?_) #[T, T, T, T, T, T, T, T, T, T, T, T, T, T, T, F, F, F] rfl rfl (any_of HT_.out (by kernel_rfl)) (fun _ _ _ h => h) (Or.inr ⟨by rfl, rfl⟩) ?_ ?_
    rotate_left
    ·exact pz
    refine pure_ (i := 15) (N := some 22) (v := undef) (a' := ?_) #[T, T, T, T, T, T, T, T, T, T, T, T, T, T, T, T, F, F] rfl rfl (any_of HT_.out (by kernel_rfl)) (fun _ _ _ h => h) (Or.inr ⟨by rfl, rfl⟩) ?_ ?_
    rotate_left
    ·exact pz
    refine pure_ (i := 16) (N := some 23) (v := undef) (a' := ?_) #[T, T, T, T, T, T, T, T, T, T, T, T, T, T, T, T, T, F] rfl rfl (any_of HT_.out (by kernel_rfl)) (fun _ _ _ h => h) (Or.inr ⟨by rfl, rfl⟩) ?_ ?_
    rotate_left
    ·exact pz
    refine pure_ (i := 17) (N := some 24) (v := ?_) (a' := ?_) #[T, T, T, T, T, T, T, T, T, T, T, T, T, T, T, T, T, T] rfl rfl (any_of HT_.out (by kernel_rfl)) (fun _ _ _ h => h) (Or.inl ⟨by rfl, ?_⟩) ?_ ?_
    rotate_left
    ·exact gz
    rotate_left
    ·exact pz
    refine done_ (done_of HT_.out (by kernel_rfl)) ?_
    try go_wp2
    go_meet
    case rel => exact ⟨_, (true), (by first | rfl | (simp; done) | (simp [*]; done)), H', ⟨by first | omega | exact Nat.le_refl _⟩, ⟨bz BK211.out⟩, ⟨bz BK212.out⟩, ⟨bz BK213.out⟩, ⟨hz3 HB.out GE211.out GE212.out GE213.out⟩⟩
  ·replace c8 := Bool.eq_false_iff.mpr c8
   subst c8
   have H1 : (spec_ValMeet.j0 k true a0_0 a0_1 a0_2 a0_3 a1_0 a1_1 a1_2 a1_3) = some (r1, r2, r3, r4) := by rw [if_neg (show ¬ (false = true) by decide)] at H; exact H
   clear H
   have H := H1
   clear H1
   have H' := Aside0.mk H
   clear H
   try go_wp2
   have n0_ := Aside0.mk (blk_drew BK211.out)
   have n1_ := Aside0.mk (blk_drew BK212.out)
   have n2_ := Aside0.mk (blk_drew BK213.out)
   have n3_ := Aside0.mk (below_drew1 HB.out)
   clear BK211
   clear BK212
   clear BK213
   clear HB
   have BK211 := n0_
   have BK212 := n1_
   have BK213 := n2_
   have HB := n3_
   clear n0_ n1_ n2_ n3_
   refine start_ (n := 18) (S := fun w' => w'.cell? ⟨gb211, 0, none⟩ = some (.int .i64 a0_0) ∧ w'.cell? ⟨gb211, 1, none⟩ = some (.int .i64 a0_1) ∧ w'.cell? ⟨gb211, 2, none⟩ = some (.int .i64 a0_2) ∧ w'.cell? ⟨gb211, 3, none⟩ = some (.int .i64 a0_3)) (ds := []) #[F, F, F, F, F, F, F, F, F, F, F, F, F, F, F, F, F, F] (by kernel_rfl) rfl rfl ⟨bc BK211 0, bc BK211 1, bc BK211 2, bc BK211 3⟩ (fun hHeld => ?_); refine with_tabW spec_ValMeet.tab1 spec_ValMeet.bits1 (fun HT_ HW_ => ?_)
   generalize w6.drew = w26 at BK211 BK212 BK213 HB hHeld ⊢
   refine take_ (i := 0) (N := some 7) (v := ?_) (a' := ?_) #[T, F, F, F, F, F, F, F, F, F, F, F, F, F, F, F, F, F] rfl rfl (take_ofW HT_.out HW_.out (by kernel_rfl)) (fun _ _ _ h => h) (Or.inl ⟨by rfl, ?_⟩) hHeld ?_ ?_
   rotate_left
   ·rintro w' ⟨s0, s1, s2, s3⟩
    go_simp
    with_reducible rfl
   rotate_left
   ·exact pz
   refine one_ (i := 1) (N := some 8) #[T, T, F, F, F, F, F, F, F, F, F, F, F, F, F, F, F, F] rfl rfl (one_of HT_.out (by kernel_rfl)) (by decide) (fun K hK => ?_)
   refine goes_ Try.func57 (by kernel_rfl) rfl #[.agg #[.int .i64 a0_0, .int .i64 a0_1, .int .i64 a0_2, .int .i64 a0_3]] (by rfl) rfl rfl mz ?_
   with_reducible refine (spec_ValOk.calls k a0_0 a0_1 a0_2 a0_3 false _ A7.out).mono ?_
   rintro e w27 ⟨rfl, hb⟩
   refine ⟨_, rfl, ?_⟩
   have n0_ := Aside0.mk (blk_below (g := gb211) (o := b4 a0_0 a0_1 a0_2 a0_3 25) (bz BK211.out) hb)
   have n1_ := Aside0.mk (blk_below (g := gb212) (o := b4 a1_0 a1_1 a1_2 a1_3 25) (bz BK212.out) hb)
   have n2_ := Aside0.mk (blk_below (g := gb213) (o := b4 0 0 0 0 25) (bz BK213.out) hb)
   have n3_ := Aside0.mk (below_step (hz3 HB.out GE211.out GE212.out GE213.out) hb)
   clear BK211
   clear BK212
   clear BK213
   clear HB
   have BK211 := n0_
   have BK212 := n1_
   have BK213 := n2_
   have HB := n3_
   clear n0_ n1_ n2_ n3_
   (try clear hb)
   (try clear hb2)
   (try clear hk)
   (try clear hi)
   refine hK.out _ _ ⟨bc BK211 0, bc BK211 1, bc BK211 2, bc BK211 3⟩ (fun hHeld => ?_)
   clear hK K
   refine norm_ (a' := ?_) ?_ ?_
   rotate_left
   ·show Act.put _ (some 8) _ = _
    simp only [Act.put, List.setIfInBounds_toArray, List.set_cons_zero, List.set_cons_succ, i64_w, i32_w]
    rfl
   refine pure_ (i := 2) (N := some 9) (v := ?_) (a' := ?_) #[T, T, T, F, F, F, F, F, F, F, F, F, F, F, F, F, F, F] rfl rfl (any_of HT_.out (by kernel_rfl)) (fun _ _ _ h => h) (Or.inl ⟨by rfl, ?_⟩) ?_ ?_
   rotate_left
   ·exact gz
   rotate_left
   ·exact pz
   refine pure_ (i := 3) (N := some 10) (v := ?_) (a' := ?_) #[T, T, T, T, F, F, F, F, F, F, F, F, F, F, F, F, F, F] rfl rfl (any_of HT_.out (by kernel_rfl)) (fun _ _ _ h => h) (Or.inl ⟨by rfl, ?_⟩) ?_ ?_
   rotate_left
   ·exact gz
   rotate_left
   ·exact pz
   refine pure_ (i := 4) (N := some 11) (v := undef) (a' := ?_) #[T, T, T, T, T, F, F, F, F, F, F, F, F, F, F, F, F, F] rfl rfl (any_of HT_.out (by kernel_rfl)) (fun _ _ _ h => h) (Or.inr ⟨by rfl, rfl⟩) ?_ ?_
   rotate_left
   ·exact pz
   refine pure_ (i := 5) (N := some 12) (v := undef) (a' := ?_) #[T, T, T, T, T, T, F, F, F, F, F, F, F, F, F, F, F, F] rfl rfl (any_of HT_.out (by kernel_rfl)) (fun _ _ _ h => h) (Or.inr ⟨by rfl, rfl⟩) ?_ ?_
   rotate_left
   ·exact pz
   refine pure_ (i := 6) (N := some 13) (v := undef) (a' := ?_) #[T, T, T, T, T, T, T, F, F, F, F, F, F, F, F, F, F, F] rfl rfl (any_of HT_.out (by kernel_rfl)) (fun _ _ _ h => h) (Or.inr ⟨by rfl, rfl⟩) ?_ ?_
   rotate_left
   ·exact pz
   refine pure_ (i := 7) (N := some 14) (v := ?_) (a' := ?_) #[T, T, T, T, T, T, T, T, F, F, F, F, F, F, F, F, F, F] rfl rfl (any_of HT_.out (by kernel_rfl)) (fun _ _ _ h => h) (Or.inl ⟨by rfl, ?_⟩) ?_ ?_
   rotate_left
   ·exact gz
   rotate_left
   ·exact pz
   refine pure_ (i := 8) (N := some 15) (v := ?_) (a' := ?_) #[T, T, T, T, T, T, T, T, T, F, F, F, F, F, F, F, F, F] rfl rfl (any_of HT_.out (by kernel_rfl)) (fun _ _ _ h => h) (Or.inl ⟨by rfl, ?_⟩) ?_ ?_
   rotate_left
   ·exact gz
   rotate_left
   ·exact pz
   refine pure_ (i := 9) (N := some 16) (v := undef) (a' := ?_) #[T, T, T, T, T, T, T, T, T, T, F, F, F, F, F, F, F, F] rfl rfl (any_of HT_.out (by kernel_rfl)) (fun _ _ _ h => h) (Or.inr ⟨by rfl, rfl⟩) ?_ ?_
   rotate_left
   ·exact pz
   refine pure_ (i := 10) (N := some 17) (v := undef) (a' := ?_) #[T, T, T, T, T, T, T, T, T, T, T, F, F, F, F, F, F, F] rfl rfl (any_of HT_.out (by kernel_rfl)) (fun _ _ _ h => h) (Or.inr ⟨by rfl, rfl⟩) ?_ ?_
   rotate_left
   ·exact pz
   refine pure_ (i := 11) (N := some 18) (v := undef) (a' := ?_) #[T, T, T, T, T, T, T, T, T, T, T, T, F, F, F, F, F, F] rfl rfl (any_of HT_.out (by kernel_rfl)) (fun _ _ _ h => h) (Or.inr ⟨by rfl, rfl⟩) ?_ ?_
   rotate_left
   ·exact pz
   refine pure_ (i := 12) (N := some 19) (v := ?_) (a' := ?_) #[T, T, T, T, T, T, T, T, T, T, T, T, T, F, F, F, F, F] rfl rfl (any_of HT_.out (by kernel_rfl)) (fun _ _ _ h => h) (Or.inl ⟨by rfl, ?_⟩) ?_ ?_
   rotate_left
   ·exact gz
   rotate_left
   ·exact pz
   refine pure_ (i := 13) (N := some 20) (v := ?_) (a' := ?_) #[T, T, T, T, T, T, T, T, T, T, T, T, T, T, F, F, F, F] rfl rfl (any_of HT_.out (by kernel_rfl)) (fun _ _ _ h => h) (Or.inl ⟨by rfl, ?_⟩) ?_ ?_
   rotate_left
   ·exact gz
   rotate_left
   ·exact pz
   refine pure_ (i := 14) (N := some 21) (v := undef) (a' := ?_) #[T, T, T, T, T, T, T, T, T, T, T, T, T, T, T, F, F, F] rfl rfl (any_of HT_.out (by kernel_rfl)) (fun _ _ _ h => h) (Or.inr ⟨by rfl, rfl⟩) ?_ ?_
   rotate_left
   ·exact pz
   refine pure_ (i := 15) (N := some 22) (v := undef) (a' := ?_) #[T, T, T, T, T, T, T, T, T, T, T, T, T, T, T, T, F, F] rfl rfl (any_of HT_.out (by kernel_rfl)) (fun _ _ _ h => h) (Or.inr ⟨by rfl, rfl⟩) ?_ ?_
   rotate_left
   ·exact pz
   refine pure_ (i := 16) (N := some 23) (v := undef) (a' := ?_) #[T, T, T, T, T, T, T, T, T, T, T, T, T, T, T, T, T, F] rfl rfl (any_of HT_.out (by kernel_rfl)) (fun _ _ _ h => h) (Or.inr ⟨by rfl, rfl⟩) ?_ ?_
   rotate_left
   ·exact pz
   refine pure_ (i := 17) (N := some 24) (v := ?_) (a' := ?_) #[T, T, T, T, T, T, T, T, T, T, T, T, T, T, T, T, T, T] rfl rfl (any_of HT_.out (by kernel_rfl)) (fun _ _ _ h => h) (Or.inl ⟨by rfl, ?_⟩) ?_ ?_
   rotate_left
   ·exact gz
   rotate_left
   ·exact pz
   refine done_ (done_of HT_.out (by kernel_rfl)) ?_
   try go_wp2
   go_meet
   case rel => exact ⟨_, (true), (by first | rfl | (simp; done) | (simp [*]; done)), H', ⟨by first | omega | exact Nat.le_refl _⟩, ⟨bz BK211.out⟩, ⟨bz BK212.out⟩, ⟨bz BK213.out⟩, ⟨hz3 HB.out GE211.out GE212.out GE213.out⟩⟩
 case rest =>
  clear HC3
  try clear c1
  try clear p2
  try clear c5
  try clear c8
  try clear c10
  obtain ⟨kq, x24_2, rfl, HA, HJ2, BK211, BK212, BK213, HB⟩ := hcut
  cases kq with
  | zero => exact absurd HA.out (by simp [spec_ValMeet.j0])
  | succ kj2 =>
   have H := HA.out
   clear HA
   simp only [spec_ValMeet.j0] at H
   by_cases c28 : x24_2 = true
   ·subst c28
    have H1 : ((spec_l10None.f).bind fun bt224 => (some (bt224.1, bt224.2.1, bt224.2.2.1, bt224.2.2.2))) = some (r1, r2, r3, r4) := by rw [if_pos rfl] at H; exact H
    clear H
    have H := H1
    clear H1
    replace H := Option.bind_eq_some_iff.mp H
    obtain ⟨⟨t224, t225, t226, t227⟩, A290, H⟩ := H
    replace H : (some (t224, t225, t226, t227)) = some (r1, r2, r3, r4) := H
    have A29 := Aside0.mk A290
    clear A290
    simp only [Option.some.injEq, Prod.mk.injEq] at H
    obtain ⟨rfl, rfl, rfl, rfl⟩ := H
    go_wp2_with (first | ((with_reducible refine gate_callee (f := 58) rfl ?_); refine goesL_ (some 25) rfl rfl Try.func58 (by kernel_rfl) rfl #[] rfl mz ?_; (with_reducible refine (spec_l10None.calls  t224 t225 t226 t227 _ A29.out).mono ?_); rintro e w30 ⟨rfl, hb⟩; refine ⟨_, rfl, ?_⟩; have n0_ := Aside0.mk (blk_below (g := gb211) (o := b4 a0_0 a0_1 a0_2 a0_3 25) (bz BK211.out) hb); have n1_ := Aside0.mk (blk_below (g := gb212) (o := b4 a1_0 a1_1 a1_2 a1_3 25) (bz BK212.out) hb); have n2_ := Aside0.mk (blk_below (g := gb213) (o := b4 0 0 0 0 25) (bz BK213.out) hb); have n3_ := Aside0.mk (below_step (hz3 HB.out GE211.out GE212.out GE213.out) hb); clear BK211; clear BK212; clear BK213; clear HB; have BK211 := n0_; have BK212 := n1_; have BK213 := n2_; have HB := n3_; clear n0_ n1_ n2_ n3_; (try clear hb); (try clear hb2); (try clear hk); (try clear hi); have hnb31 := NB213_211.out; have hnc31 := NB211_213.out; have hnb32 := NB213_212.out; have hnc32 := NB212_213.out; have hcz33_0 : w30.cell? ⟨gb213, 0, none⟩ = some (.int .i64 0) := bc BK213 0; have hcz33_1 : w30.cell? ⟨gb213, 1, none⟩ = some (.int .i64 0) := bc BK213 1; have hcz33_2 : w30.cell? ⟨gb213, 2, none⟩ = some (.int .i64 0) := bc BK213 2; have hcz33_3 : w30.cell? ⟨gb213, 3, none⟩ = some (.int .i64 0) := bc BK213 3; have hfz33_0 := blk_frozen BK213.out 0; have hfz33_1 := blk_frozen BK213.out 1; have hfz33_2 := blk_frozen BK213.out 2; have hfz33_3 := blk_frozen BK213.out 3))
    refine bodyPost_ret (results_cell_row rfl _ _ gb213 25 #[.int .i64 t224, .int .i64 t225, .int .i64 t226, .int .i64 t227] (0, 0) _ rfl (by (with_reducible repeat (first | refine blk_drewN ?_ _ | refine blk_drew ?_ | refine blk_alloc ?_ _)); refine blk_put (cs := #[.int .i64 t224, .int .i64 t225, .int .i64 t226, .int .i64 0]) ?_ 3 _ rfl; (with_reducible repeat (first | refine blk_drewN ?_ _ | refine blk_drew ?_ | refine blk_alloc ?_ _)); refine blk_put (cs := #[.int .i64 t224, .int .i64 t225, .int .i64 0, .int .i64 0]) ?_ 2 _ rfl; (with_reducible repeat (first | refine blk_drewN ?_ _ | refine blk_drew ?_ | refine blk_alloc ?_ _)); refine blk_put (cs := #[.int .i64 t224, .int .i64 0, .int .i64 0, .int .i64 0]) ?_ 1 _ rfl; (with_reducible repeat (first | refine blk_drewN ?_ _ | refine blk_drew ?_ | refine blk_alloc ?_ _)); refine blk_put (cs := #[.int .i64 0, .int .i64 0, .int .i64 0, .int .i64 0]) ?_ 0 _ rfl; (with_reducible repeat (first | refine blk_drewN ?_ _ | refine blk_drew ?_ | refine blk_alloc ?_ _)); exact BK213.out) Try.underlying25 rfl (by kernel_rfl)) rfl ?_
    exact ⟨by first | rfl | (simp [errW_none, errW_some] <;> rfl) | (simp [*, errW_none, errW_some] <;> rfl), hz3 HB.out GE211.out GE212.out GE213.out⟩
   ·replace c28 := Bool.eq_false_iff.mpr c28
    subst c28
    have H1 : ((spec_l10Rest.f a0_0 a0_1 a0_2 a0_3).bind fun bt228 => ((spec_l10Rest.f a1_0 a1_1 a1_2 a1_3).bind fun bt230 => ((spec_RestMeet.f kj2 bt228.1 bt228.2 bt230.1 bt230.2).bind fun bt232 => (if bt232.2.2 = true then ((spec_l10Range.f a0_0 a0_1 a0_2 a0_3).bind fun bt240 => ((spec_l10Range.f a1_0 a1_1 a1_2 a1_3).bind fun bt242 => ((spec_RangeMeet.f kj2 bt240.1 bt240.2 bt242.1 bt242.2).bind fun bt244 => ((spec_ValMake.f kj2 bt244.1 bt244.2 bt232.1 bt232.2.1).bind fun bt246 => (some (bt246.1, bt246.2.1, bt246.2.2.1, bt246.2.2.2)))))) else ((spec_l10None.f).bind fun bt236 => (some (bt236.1, bt236.2.1, bt236.2.2.1, bt236.2.2.2))))))) = some (r1, r2, r3, r4) := by rw [if_neg (show ¬ (false = true) by decide)] at H; exact H
    clear H
    have H := H1
    clear H1
    replace H := Option.bind_eq_some_iff.mp H
    obtain ⟨⟨t228, t229⟩, A340, H⟩ := H
    replace H : ((spec_l10Rest.f a1_0 a1_1 a1_2 a1_3).bind fun bt230 => ((spec_RestMeet.f kj2 t228 t229 bt230.1 bt230.2).bind fun bt232 => (if bt232.2.2 = true then ((spec_l10Range.f a0_0 a0_1 a0_2 a0_3).bind fun bt240 => ((spec_l10Range.f a1_0 a1_1 a1_2 a1_3).bind fun bt242 => ((spec_RangeMeet.f kj2 bt240.1 bt240.2 bt242.1 bt242.2).bind fun bt244 => ((spec_ValMake.f kj2 bt244.1 bt244.2 bt232.1 bt232.2.1).bind fun bt246 => (some (bt246.1, bt246.2.1, bt246.2.2.1, bt246.2.2.2)))))) else ((spec_l10None.f).bind fun bt236 => (some (bt236.1, bt236.2.1, bt236.2.2.1, bt236.2.2.2)))))) = some (r1, r2, r3, r4) := H
    have A34 := Aside0.mk A340
    clear A340
    replace H := Option.bind_eq_some_iff.mp H
    obtain ⟨⟨t230, t231⟩, A350, H⟩ := H
    replace H : ((spec_RestMeet.f kj2 t228 t229 t230 t231).bind fun bt232 => (if bt232.2.2 = true then ((spec_l10Range.f a0_0 a0_1 a0_2 a0_3).bind fun bt240 => ((spec_l10Range.f a1_0 a1_1 a1_2 a1_3).bind fun bt242 => ((spec_RangeMeet.f kj2 bt240.1 bt240.2 bt242.1 bt242.2).bind fun bt244 => ((spec_ValMake.f kj2 bt244.1 bt244.2 bt232.1 bt232.2.1).bind fun bt246 => (some (bt246.1, bt246.2.1, bt246.2.2.1, bt246.2.2.2)))))) else ((spec_l10None.f).bind fun bt236 => (some (bt236.1, bt236.2.1, bt236.2.2.1, bt236.2.2.2))))) = some (r1, r2, r3, r4) := H
    have A35 := Aside0.mk A350
    clear A350
    replace H := Option.bind_eq_some_iff.mp H
    obtain ⟨⟨t232, t233, t234⟩, A360, H⟩ := H
    replace H : (if t234 = true then ((spec_l10Range.f a0_0 a0_1 a0_2 a0_3).bind fun bt240 => ((spec_l10Range.f a1_0 a1_1 a1_2 a1_3).bind fun bt242 => ((spec_RangeMeet.f kj2 bt240.1 bt240.2 bt242.1 bt242.2).bind fun bt244 => ((spec_ValMake.f kj2 bt244.1 bt244.2 t232 t233).bind fun bt246 => (some (bt246.1, bt246.2.1, bt246.2.2.1, bt246.2.2.2)))))) else ((spec_l10None.f).bind fun bt236 => (some (bt236.1, bt236.2.1, bt236.2.2.1, bt236.2.2.2)))) = some (r1, r2, r3, r4) := H
    have A36 := Aside0.mk A360
    clear A360
    by_cases c37 : t234 = true
    ·subst c37
     have H1 : ((spec_l10Range.f a0_0 a0_1 a0_2 a0_3).bind fun bt240 => ((spec_l10Range.f a1_0 a1_1 a1_2 a1_3).bind fun bt242 => ((spec_RangeMeet.f kj2 bt240.1 bt240.2 bt242.1 bt242.2).bind fun bt244 => ((spec_ValMake.f kj2 bt244.1 bt244.2 t232 t233).bind fun bt246 => (some (bt246.1, bt246.2.1, bt246.2.2.1, bt246.2.2.2)))))) = some (r1, r2, r3, r4) := by rw [if_pos rfl] at H; exact H
     clear H
     have H := H1
     clear H1
     replace H := Option.bind_eq_some_iff.mp H
     obtain ⟨⟨t240, t241⟩, A380, H⟩ := H
     replace H : ((spec_l10Range.f a1_0 a1_1 a1_2 a1_3).bind fun bt242 => ((spec_RangeMeet.f kj2 t240 t241 bt242.1 bt242.2).bind fun bt244 => ((spec_ValMake.f kj2 bt244.1 bt244.2 t232 t233).bind fun bt246 => (some (bt246.1, bt246.2.1, bt246.2.2.1, bt246.2.2.2))))) = some (r1, r2, r3, r4) := H
     have A38 := Aside0.mk A380
     clear A380
     replace H := Option.bind_eq_some_iff.mp H
     obtain ⟨⟨t242, t243⟩, A390, H⟩ := H
     replace H : ((spec_RangeMeet.f kj2 t240 t241 t242 t243).bind fun bt244 => ((spec_ValMake.f kj2 bt244.1 bt244.2 t232 t233).bind fun bt246 => (some (bt246.1, bt246.2.1, bt246.2.2.1, bt246.2.2.2)))) = some (r1, r2, r3, r4) := H
     have A39 := Aside0.mk A390
     clear A390
     replace H := Option.bind_eq_some_iff.mp H
     obtain ⟨⟨t244, t245⟩, A400, H⟩ := H
     replace H : ((spec_ValMake.f kj2 t244 t245 t232 t233).bind fun bt246 => (some (bt246.1, bt246.2.1, bt246.2.2.1, bt246.2.2.2))) = some (r1, r2, r3, r4) := H
     have A40 := Aside0.mk A400
     clear A400
     replace H := Option.bind_eq_some_iff.mp H
     obtain ⟨⟨t246, t247, t248, t249⟩, A410, H⟩ := H
     replace H : (some (t246, t247, t248, t249)) = some (r1, r2, r3, r4) := H
     have A41 := Aside0.mk A410
     clear A410
     simp only [Option.some.injEq, Prod.mk.injEq] at H
     obtain ⟨rfl, rfl, rfl, rfl⟩ := H
     try go_wp2
     have n0_ := Aside0.mk (blk_drew BK211.out)
     have n1_ := Aside0.mk (blk_drew BK212.out)
     have n2_ := Aside0.mk (blk_drew BK213.out)
     have n3_ := Aside0.mk (below_drew1 HB.out)
     clear BK211
     clear BK212
     clear BK213
     clear HB
     have BK211 := n0_
     have BK212 := n1_
     have BK213 := n2_
     have HB := n3_
     clear n0_ n1_ n2_ n3_
     refine start_ (n := 11) (S := fun w' => w'.cell? ⟨gb211, 0, none⟩ = some (.int .i64 a0_0) ∧ w'.cell? ⟨gb211, 1, none⟩ = some (.int .i64 a0_1) ∧ w'.cell? ⟨gb211, 2, none⟩ = some (.int .i64 a0_2) ∧ w'.cell? ⟨gb211, 3, none⟩ = some (.int .i64 a0_3) ∧ w'.cell? ⟨gb212, 0, none⟩ = some (.int .i64 a1_0) ∧ w'.cell? ⟨gb212, 1, none⟩ = some (.int .i64 a1_1) ∧ w'.cell? ⟨gb212, 2, none⟩ = some (.int .i64 a1_2) ∧ w'.cell? ⟨gb212, 3, none⟩ = some (.int .i64 a1_3)) (ds := []) #[F, F, F, F, F, F, F, F, F, F, F] (by kernel_rfl) rfl rfl ⟨bc BK211 0, bc BK211 1, bc BK211 2, bc BK211 3, bc BK212 0, bc BK212 1, bc BK212 2, bc BK212 3⟩ (fun hHeld => ?_); refine with_tabW spec_ValMeet.tab3 spec_ValMeet.bits3 (fun HT_ HW_ => ?_)
     generalize wc.drew = w42 at BK211 BK212 BK213 HB hHeld ⊢
     refine take_ (i := 0) (N := some 27) (v := ?_) (a' := ?_) #[T, F, F, F, F, F, F, F, F, F, F] rfl rfl (take_ofW HT_.out HW_.out (by kernel_rfl)) (fun _ _ _ h => h) (Or.inl ⟨by rfl, ?_⟩) hHeld ?_ ?_
     rotate_left
     ·rintro w' ⟨s0, s1, s2, s3, s4, s5, s6, s7⟩
      go_simp
      with_reducible rfl
     rotate_left
     ·exact pz
     refine take_ (i := 2) (N := some 29) (v := ?_) (a' := ?_) #[T, F, T, F, F, F, F, F, F, F, F] rfl rfl (take_ofW HT_.out HW_.out (by kernel_rfl)) (fun _ _ _ h => h) (Or.inl ⟨by rfl, ?_⟩) hHeld ?_ ?_
     rotate_left
     ·rintro w' ⟨s0, s1, s2, s3, s4, s5, s6, s7⟩
      go_simp
      with_reducible rfl
     rotate_left
     ·exact pz
     refine join_ (σ := Nat) 2 #[T, T, T, T, T, T, T, T, T, F, F] (fun s_ => [(28, .agg #[.int .i64 t228, .int .i64 t229]), (30, .agg #[.int .i64 t230, .int .i64 t231]), (31, .tuple #[.agg #[.int .i64 t232, .int .i64 t233], .bool true]), (5, .pointer (some ⟨s_, 0, none⟩)), (26, .tuple #[.agg #[.int .i64 t232, .int .i64 t233], .bool true]), (32, .agg #[.int .i64 t232, .int .i64 t233]), (33, .bool true)]) (fun s_ w' => (w'.cell? ⟨gb211, 0, none⟩ = some (.int .i64 a0_0) ∧ w'.cell? ⟨gb211, 1, none⟩ = some (.int .i64 a0_1) ∧ w'.cell? ⟨gb211, 2, none⟩ = some (.int .i64 a0_2) ∧ w'.cell? ⟨gb211, 3, none⟩ = some (.int .i64 a0_3) ∧ w'.cell? ⟨gb212, 0, none⟩ = some (.int .i64 a1_0) ∧ w'.cell? ⟨gb212, 1, none⟩ = some (.int .i64 a1_1) ∧ w'.cell? ⟨gb212, 2, none⟩ = some (.int .i64 a1_2) ∧ w'.cell? ⟨gb212, 3, none⟩ = some (.int .i64 a1_3)) ∧ (w'.heap[gb211]? = some (.cells #[.int .i64 a0_0, .int .i64 a0_1, .int .i64 a0_2, .int .i64 a0_3] 25 (0, 0))) ∧ (w'.heap[gb212]? = some (.cells #[.int .i64 a1_0, .int .i64 a1_1, .int .i64 a1_2, .int .i64 a1_3] 25 (0, 0))) ∧ (w'.heap[gb213]? = some (.cells #[.int .i64 0, .int .i64 0, .int .i64 0, .int .i64 0] 25 (0, 0))) ∧ (w'.heap[s_]? = some (.cells #[.int .i64 0, .int .i64 0] 90 (0, 0))) ∧ (w.heap.size ≤ s_) ∧ (w.heap.size ≤ s_) ∧ (gb211 ≠ s_) ∧ (s_ ≠ gb211) ∧ (gb212 ≠ s_) ∧ (s_ ≠ gb212) ∧ (gb213 ≠ s_) ∧ (s_ ≠ gb213) ∧ (Below w.heap.size w w')) ?_ ?_
     rotate_left
     ·intro hCont
      refine two_ (i := 1) (j := 8) (Ni := some 28) (Nj := some 5) #[T, T, T, F, F, F, F, F, F, F, F] #[T, F, T, F, F, F, F, F, T, F, F] rfl rfl rfl rfl (two_of HT_.out (by kernel_rfl)) (by decide) (by decide) (fun K hK => ?_) (fun K hK => ?_)
      ·skip
       refine goes_ Try.func62 (by kernel_rfl) rfl #[.agg #[.int .i64 a0_0, .int .i64 a0_1, .int .i64 a0_2, .int .i64 a0_3]] (by rfl) rfl rfl mz ?_
       with_reducible refine (spec_l10Rest.calls a0_0 a0_1 a0_2 a0_3 t228 t229 _ A34.out).mono ?_
       rintro e w43 ⟨rfl, hb⟩
       refine ⟨_, rfl, ?_⟩
       have n0_ := Aside0.mk (blk_below (g := gb211) (o := b4 a0_0 a0_1 a0_2 a0_3 25) (bz BK211.out) hb)
       have n1_ := Aside0.mk (blk_below (g := gb212) (o := b4 a1_0 a1_1 a1_2 a1_3 25) (bz BK212.out) hb)
       have n2_ := Aside0.mk (blk_below (g := gb213) (o := b4 0 0 0 0 25) (bz BK213.out) hb)
       have n3_ := Aside0.mk (below_step (hz3 HB.out GE211.out GE212.out GE213.out) hb)
       clear BK211
       clear BK212
       clear BK213
       clear HB
       have BK211 := n0_
       have BK212 := n1_
       have BK213 := n2_
       have HB := n3_
       clear n0_ n1_ n2_ n3_
       (try clear hb)
       (try clear hb2)
       (try clear hk)
       (try clear hi)
       refine hK.out _ _ ⟨bc BK211 0, bc BK211 1, bc BK211 2, bc BK211 3, bc BK212 0, bc BK212 1, bc BK212 2, bc BK212 3⟩ (fun hHeld => ?_)
       clear hK K
       refine norm_ (a' := ?_) ?_ ?_
       rotate_left
       ·show Act.put _ (some 28) _ = _
        simp only [Act.put, List.setIfInBounds_toArray, List.set_cons_zero, List.set_cons_succ, i64_w, i32_w]
        rfl
       refine two_ (i := 3) (j := 8) (Ni := some 30) (Nj := some 5) #[T, T, T, T, F, F, F, F, F, F, F] #[T, T, T, F, F, F, F, F, T, F, F] rfl rfl rfl rfl (two_of HT_.out (by kernel_rfl)) (by decide) (by decide) (fun K hK => ?_) (fun K hK => ?_)
       ·skip
        refine goes_ Try.func62 (by kernel_rfl) rfl #[.agg #[.int .i64 a1_0, .int .i64 a1_1, .int .i64 a1_2, .int .i64 a1_3]] (by rfl) rfl rfl mz ?_
        with_reducible refine (spec_l10Rest.calls a1_0 a1_1 a1_2 a1_3 t230 t231 _ A35.out).mono ?_
        rintro e w44 ⟨rfl, hb⟩
        refine ⟨_, rfl, ?_⟩
        have n0_ := Aside0.mk (blk_below (g := gb211) (o := b4 a0_0 a0_1 a0_2 a0_3 25) (bz BK211.out) hb)
        have n1_ := Aside0.mk (blk_below (g := gb212) (o := b4 a1_0 a1_1 a1_2 a1_3 25) (bz BK212.out) hb)
        have n2_ := Aside0.mk (blk_below (g := gb213) (o := b4 0 0 0 0 25) (bz BK213.out) hb)
        have n3_ := Aside0.mk (below_step (hz3 HB.out GE211.out GE212.out GE213.out) hb)
        clear BK211
        clear BK212
        clear BK213
        clear HB
        have BK211 := n0_
        have BK212 := n1_
        have BK213 := n2_
        have HB := n3_
        clear n0_ n1_ n2_ n3_
        (try clear hb)
        (try clear hb2)
        (try clear hk)
        (try clear hi)
        refine hK.out _ _ ⟨bc BK211 0, bc BK211 1, bc BK211 2, bc BK211 3, bc BK212 0, bc BK212 1, bc BK212 2, bc BK212 3⟩ (fun hHeld => ?_)
        clear hK K
        refine norm_ (a' := ?_) ?_ ?_
        rotate_left
        ·show Act.put _ (some 30) _ = _
         simp only [Act.put, List.setIfInBounds_toArray, List.set_cons_zero, List.set_cons_succ, i64_w, i32_w]
         rfl
        refine two_ (i := 4) (j := 8) (Ni := some 31) (Nj := some 5) #[T, T, T, T, T, F, F, F, F, F, F] #[T, T, T, T, F, F, F, F, T, F, F] rfl rfl rfl rfl (two_of HT_.out (by kernel_rfl)) (by decide) (by decide) (fun K hK => ?_) (fun K hK => ?_)
        ·skip
         refine goes_ Try.func80 (by kernel_rfl) rfl #[.agg #[.int .i64 t228, .int .i64 t229], .agg #[.int .i64 t230, .int .i64 t231]] (by rfl) rfl rfl mz ?_
         with_reducible refine (spec_RestMeet.calls kj2 t228 t229 t230 t231 t232 t233 true _ A36.out).mono ?_
         rintro e w45 ⟨rfl, hb⟩
         refine ⟨_, rfl, ?_⟩
         have n0_ := Aside0.mk (blk_below (g := gb211) (o := b4 a0_0 a0_1 a0_2 a0_3 25) (bz BK211.out) hb)
         have n1_ := Aside0.mk (blk_below (g := gb212) (o := b4 a1_0 a1_1 a1_2 a1_3 25) (bz BK212.out) hb)
         have n2_ := Aside0.mk (blk_below (g := gb213) (o := b4 0 0 0 0 25) (bz BK213.out) hb)
         have n3_ := Aside0.mk (below_step (hz3 HB.out GE211.out GE212.out GE213.out) hb)
         clear BK211
         clear BK212
         clear BK213
         clear HB
         have BK211 := n0_
         have BK212 := n1_
         have BK213 := n2_
         have HB := n3_
         clear n0_ n1_ n2_ n3_
         (try clear hb)
         (try clear hb2)
         (try clear hk)
         (try clear hi)
         refine hK.out _ _ ⟨bc BK211 0, bc BK211 1, bc BK211 2, bc BK211 3, bc BK212 0, bc BK212 1, bc BK212 2, bc BK212 3⟩ (fun hHeld => ?_)
         clear hK K
         refine norm_ (a' := ?_) ?_ ?_
         rotate_left
         ·show Act.put _ (some 31) _ = _
          simp only [Act.put, List.setIfInBounds_toArray, List.set_cons_zero, List.set_cons_succ, i64_w, i32_w]
          rfl
         refine pure_ (i := 5) (N := some 26) (v := ?_) (a' := ?_) #[T, T, T, T, T, T, F, F, F, F, F] rfl rfl (any_of HT_.out (by kernel_rfl)) (fun _ _ _ h => h) (Or.inl ⟨by rfl, ?_⟩) ?_ ?_
         rotate_left
         ·exact gz
         rotate_left
         ·exact pz
         refine pure_ (i := 6) (N := some 32) (v := ?_) (a' := ?_) #[T, T, T, T, T, T, T, F, F, F, F] rfl rfl (any_of HT_.out (by kernel_rfl)) (fun _ _ _ h => h) (Or.inl ⟨by rfl, ?_⟩) ?_ ?_
         rotate_left
         ·exact gz
         rotate_left
         ·exact pz
         refine pure_ (i := 7) (N := some 33) (v := ?_) (a' := ?_) #[T, T, T, T, T, T, T, T, F, F, F] rfl rfl (any_of HT_.out (by kernel_rfl)) (fun _ _ _ h => h) (Or.inl ⟨by rfl, ?_⟩) ?_ ?_
         rotate_left
         ·exact gz
         rotate_left
         ·exact pz
         refine one_ (i := 8) (N := some 5) #[T, T, T, T, T, T, T, T, T, F, F] rfl rfl (one_of HT_.out (by kernel_rfl)) (by decide) (fun K hK => ?_)
         refine box_step ?hg (N := 5) ?hd (cs := #[.int .i64 0, .int .i64 0]) (t := 90) ?hr ?_; (case hd => rfl); (case hg => rfl); (case hr => first | (go_simp; done) | (go_simp; rfl))
         intro gb235 hg w46 hbox hb
         have n0_ := Aside0.mk (blk_below (g := gb211) (o := b4 a0_0 a0_1 a0_2 a0_3 25) (bz BK211.out) hb)
         have n1_ := Aside0.mk (blk_below (g := gb212) (o := b4 a1_0 a1_1 a1_2 a1_3 25) (bz BK212.out) hb)
         have n2_ := Aside0.mk (blk_below (g := gb213) (o := b4 0 0 0 0 25) (bz BK213.out) hb)
         have n3_ := Aside0.mk (below_step (hz3 HB.out GE211.out GE212.out GE213.out) hb)
         have n4_ := Aside0.mk (hbox)
         have n5_ := Aside0.mk ((by rw [hg]; exact (below_size (hz3 HB.out GE211.out GE212.out GE213.out)) : w.heap.size ≤ gb235))
         have n6_ := Aside0.mk ((by rw [hg]; exact (below_size (hz3 HB.out GE211.out GE212.out GE213.out)) : w.heap.size ≤ gb235))
         have n7_ := Aside0.mk ((by rw [hg]; exact Nat.ne_of_lt (blk_lt (g := gb211) (o := b4 a0_0 a0_1 a0_2 a0_3 25) (bz BK211.out)) : gb211 ≠ gb235))
         have n8_ := Aside0.mk ((by rw [hg]; exact Nat.ne_of_gt (blk_lt (g := gb211) (o := b4 a0_0 a0_1 a0_2 a0_3 25) (bz BK211.out)) : gb235 ≠ gb211))
         have n9_ := Aside0.mk ((by rw [hg]; exact Nat.ne_of_lt (blk_lt (g := gb212) (o := b4 a1_0 a1_1 a1_2 a1_3 25) (bz BK212.out)) : gb212 ≠ gb235))
         have n10_ := Aside0.mk ((by rw [hg]; exact Nat.ne_of_gt (blk_lt (g := gb212) (o := b4 a1_0 a1_1 a1_2 a1_3 25) (bz BK212.out)) : gb235 ≠ gb212))
         have n11_ := Aside0.mk ((by rw [hg]; exact Nat.ne_of_lt (blk_lt (g := gb213) (o := b4 0 0 0 0 25) (bz BK213.out)) : gb213 ≠ gb235))
         have n12_ := Aside0.mk ((by rw [hg]; exact Nat.ne_of_gt (blk_lt (g := gb213) (o := b4 0 0 0 0 25) (bz BK213.out)) : gb235 ≠ gb213))
         clear BK211
         clear BK212
         clear BK213
         clear HB
         have BK211 := n0_
         have BK212 := n1_
         have BK213 := n2_
         have HB := n3_
         have BK235 := n4_
         have GW235 := n5_
         have GE235 := n6_
         have NB211_235 := n7_
         have NB235_211 := n8_
         have NB212_235 := n9_
         have NB235_212 := n10_
         have NB213_235 := n11_
         have NB235_213 := n12_
         clear n0_ n1_ n2_ n3_ n4_ n5_ n6_ n7_ n8_ n9_ n10_ n11_ n12_
         clear hb hbox hg
         refine hK.out _ _ ⟨bc BK211 0, bc BK211 1, bc BK211 2, bc BK211 3, bc BK212 0, bc BK212 1, bc BK212 2, bc BK212 3⟩ (fun hHeld => ?_)
         clear hK K
         refine norm_ (a' := ?_) ?_ ?_
         rotate_left
         ·show Act.put _ (some 5) _ = _
          simp only [Act.put, List.setIfInBounds_toArray, List.set_cons_zero, List.set_cons_succ, i64_w, i32_w]
          rfl
         exact norm_ (by simp only [putAll, Act.put, List.setIfInBounds_toArray, List.set_cons_zero, List.set_cons_succ]) (hCont (gb235) _ ⟨hHeld, (bz BK211.out), (bz BK212.out), (bz BK213.out), (bz BK235.out), GW235.out, GE235.out, NB211_235.out, NB235_211.out, NB212_235.out, NB235_212.out, NB213_235.out, NB235_213.out, (hz4 HB.out GE211.out GE212.out GE213.out GE235.out)⟩)
        ·skip
         refine box_step ?hg (N := 5) ?hd (cs := #[.int .i64 0, .int .i64 0]) (t := 90) ?hr ?_; (case hd => rfl); (case hg => rfl); (case hr => first | (go_simp; done) | (go_simp; rfl))
         intro gb235 hg w45 hbox hb
         have n0_ := Aside0.mk (blk_below (g := gb211) (o := b4 a0_0 a0_1 a0_2 a0_3 25) (bz BK211.out) hb)
         have n1_ := Aside0.mk (blk_below (g := gb212) (o := b4 a1_0 a1_1 a1_2 a1_3 25) (bz BK212.out) hb)
         have n2_ := Aside0.mk (blk_below (g := gb213) (o := b4 0 0 0 0 25) (bz BK213.out) hb)
         have n3_ := Aside0.mk (below_step (hz3 HB.out GE211.out GE212.out GE213.out) hb)
         have n4_ := Aside0.mk (hbox)
         have n5_ := Aside0.mk ((by rw [hg]; exact (below_size (hz3 HB.out GE211.out GE212.out GE213.out)) : w.heap.size ≤ gb235))
         have n6_ := Aside0.mk ((by rw [hg]; exact (below_size (hz3 HB.out GE211.out GE212.out GE213.out)) : w.heap.size ≤ gb235))
         have n7_ := Aside0.mk ((by rw [hg]; exact Nat.ne_of_lt (blk_lt (g := gb211) (o := b4 a0_0 a0_1 a0_2 a0_3 25) (bz BK211.out)) : gb211 ≠ gb235))
         have n8_ := Aside0.mk ((by rw [hg]; exact Nat.ne_of_gt (blk_lt (g := gb211) (o := b4 a0_0 a0_1 a0_2 a0_3 25) (bz BK211.out)) : gb235 ≠ gb211))
         have n9_ := Aside0.mk ((by rw [hg]; exact Nat.ne_of_lt (blk_lt (g := gb212) (o := b4 a1_0 a1_1 a1_2 a1_3 25) (bz BK212.out)) : gb212 ≠ gb235))
         have n10_ := Aside0.mk ((by rw [hg]; exact Nat.ne_of_gt (blk_lt (g := gb212) (o := b4 a1_0 a1_1 a1_2 a1_3 25) (bz BK212.out)) : gb235 ≠ gb212))
         have n11_ := Aside0.mk ((by rw [hg]; exact Nat.ne_of_lt (blk_lt (g := gb213) (o := b4 0 0 0 0 25) (bz BK213.out)) : gb213 ≠ gb235))
         have n12_ := Aside0.mk ((by rw [hg]; exact Nat.ne_of_gt (blk_lt (g := gb213) (o := b4 0 0 0 0 25) (bz BK213.out)) : gb235 ≠ gb213))
         clear BK211
         clear BK212
         clear BK213
         clear HB
         have BK211 := n0_
         have BK212 := n1_
         have BK213 := n2_
         have HB := n3_
         have BK235 := n4_
         have GW235 := n5_
         have GE235 := n6_
         have NB211_235 := n7_
         have NB235_211 := n8_
         have NB212_235 := n9_
         have NB235_212 := n10_
         have NB213_235 := n11_
         have NB235_213 := n12_
         clear n0_ n1_ n2_ n3_ n4_ n5_ n6_ n7_ n8_ n9_ n10_ n11_ n12_
         clear hb hbox hg
         refine hK.out _ _ ⟨bc BK211 0, bc BK211 1, bc BK211 2, bc BK211 3, bc BK212 0, bc BK212 1, bc BK212 2, bc BK212 3⟩ (fun hHeld => ?_)
         clear hK K
         refine norm_ (a' := ?_) ?_ ?_
         rotate_left
         ·show Act.put _ (some 5) _ = _
          simp only [Act.put, List.setIfInBounds_toArray, List.set_cons_zero, List.set_cons_succ, i64_w, i32_w]
          rfl
         refine one_ (i := 4) (N := some 31) #[T, T, T, T, T, F, F, F, T, F, F] rfl rfl (one_of HT_.out (by kernel_rfl)) (by decide) (fun K hK => ?_)
         refine goes_ Try.func80 (by kernel_rfl) rfl #[.agg #[.int .i64 t228, .int .i64 t229], .agg #[.int .i64 t230, .int .i64 t231]] (by rfl) rfl rfl mz ?_
         with_reducible refine (spec_RestMeet.calls kj2 t228 t229 t230 t231 t232 t233 true _ A36.out).mono ?_
         rintro e w46 ⟨rfl, hb⟩
         refine ⟨_, rfl, ?_⟩
         have n0_ := Aside0.mk (blk_below (g := gb211) (o := b4 a0_0 a0_1 a0_2 a0_3 25) (bz BK211.out) hb)
         have n1_ := Aside0.mk (blk_below (g := gb212) (o := b4 a1_0 a1_1 a1_2 a1_3 25) (bz BK212.out) hb)
         have n2_ := Aside0.mk (blk_below (g := gb213) (o := b4 0 0 0 0 25) (bz BK213.out) hb)
         have n3_ := Aside0.mk (blk_below (g := gb235) (o := b2 0 0 90) (bz BK235.out) hb)
         have n4_ := Aside0.mk (below_step (hz4 HB.out GE211.out GE212.out GE213.out GE235.out) hb)
         clear BK211
         clear BK212
         clear BK213
         clear BK235
         clear HB
         have BK211 := n0_
         have BK212 := n1_
         have BK213 := n2_
         have BK235 := n3_
         have HB := n4_
         clear n0_ n1_ n2_ n3_ n4_
         (try clear hb)
         (try clear hb2)
         (try clear hk)
         (try clear hi)
         refine hK.out _ _ ⟨bc BK211 0, bc BK211 1, bc BK211 2, bc BK211 3, bc BK212 0, bc BK212 1, bc BK212 2, bc BK212 3⟩ (fun hHeld => ?_)
         clear hK K
         refine norm_ (a' := ?_) ?_ ?_
         rotate_left
         ·show Act.put _ (some 31) _ = _
          simp only [Act.put, List.setIfInBounds_toArray, List.set_cons_zero, List.set_cons_succ, i64_w, i32_w]
          rfl
         refine pure_ (i := 5) (N := some 26) (v := ?_) (a' := ?_) #[T, T, T, T, T, T, F, F, T, F, F] rfl rfl (any_of HT_.out (by kernel_rfl)) (fun _ _ _ h => h) (Or.inl ⟨by rfl, ?_⟩) ?_ ?_
         rotate_left
         ·exact gz
         rotate_left
         ·exact pz
         refine pure_ (i := 6) (N := some 32) (v := ?_) (a' := ?_) #[T, T, T, T, T, T, T, F, T, F, F] rfl rfl (any_of HT_.out (by kernel_rfl)) (fun _ _ _ h => h) (Or.inl ⟨by rfl, ?_⟩) ?_ ?_
         rotate_left
         ·exact gz
         rotate_left
         ·exact pz
         refine pure_ (i := 7) (N := some 33) (v := ?_) (a' := ?_) #[T, T, T, T, T, T, T, T, T, F, F] rfl rfl (any_of HT_.out (by kernel_rfl)) (fun _ _ _ h => h) (Or.inl ⟨by rfl, ?_⟩) ?_ ?_
         rotate_left
         ·exact gz
         rotate_left
         ·exact pz
         exact norm_ (by simp only [putAll, Act.put, List.setIfInBounds_toArray, List.set_cons_zero, List.set_cons_succ]) (hCont (gb235) _ ⟨hHeld, (bz BK211.out), (bz BK212.out), (bz BK213.out), (bz BK235.out), GW235.out, GE235.out, NB211_235.out, NB235_211.out, NB212_235.out, NB235_212.out, NB213_235.out, NB235_213.out, (hz4 HB.out GE211.out GE212.out GE213.out GE235.out)⟩)
       ·skip
        refine box_step ?hg (N := 5) ?hd (cs := #[.int .i64 0, .int .i64 0]) (t := 90) ?hr ?_; (case hd => rfl); (case hg => rfl); (case hr => first | (go_simp; done) | (go_simp; rfl))
        intro gb235 hg w44 hbox hb
        have n0_ := Aside0.mk (blk_below (g := gb211) (o := b4 a0_0 a0_1 a0_2 a0_3 25) (bz BK211.out) hb)
        have n1_ := Aside0.mk (blk_below (g := gb212) (o := b4 a1_0 a1_1 a1_2 a1_3 25) (bz BK212.out) hb)
        have n2_ := Aside0.mk (blk_below (g := gb213) (o := b4 0 0 0 0 25) (bz BK213.out) hb)
        have n3_ := Aside0.mk (below_step (hz3 HB.out GE211.out GE212.out GE213.out) hb)
        have n4_ := Aside0.mk (hbox)
        have n5_ := Aside0.mk ((by rw [hg]; exact (below_size (hz3 HB.out GE211.out GE212.out GE213.out)) : w.heap.size ≤ gb235))
        have n6_ := Aside0.mk ((by rw [hg]; exact (below_size (hz3 HB.out GE211.out GE212.out GE213.out)) : w.heap.size ≤ gb235))
        have n7_ := Aside0.mk ((by rw [hg]; exact Nat.ne_of_lt (blk_lt (g := gb211) (o := b4 a0_0 a0_1 a0_2 a0_3 25) (bz BK211.out)) : gb211 ≠ gb235))
        have n8_ := Aside0.mk ((by rw [hg]; exact Nat.ne_of_gt (blk_lt (g := gb211) (o := b4 a0_0 a0_1 a0_2 a0_3 25) (bz BK211.out)) : gb235 ≠ gb211))
        have n9_ := Aside0.mk ((by rw [hg]; exact Nat.ne_of_lt (blk_lt (g := gb212) (o := b4 a1_0 a1_1 a1_2 a1_3 25) (bz BK212.out)) : gb212 ≠ gb235))
        have n10_ := Aside0.mk ((by rw [hg]; exact Nat.ne_of_gt (blk_lt (g := gb212) (o := b4 a1_0 a1_1 a1_2 a1_3 25) (bz BK212.out)) : gb235 ≠ gb212))
        have n11_ := Aside0.mk ((by rw [hg]; exact Nat.ne_of_lt (blk_lt (g := gb213) (o := b4 0 0 0 0 25) (bz BK213.out)) : gb213 ≠ gb235))
        have n12_ := Aside0.mk ((by rw [hg]; exact Nat.ne_of_gt (blk_lt (g := gb213) (o := b4 0 0 0 0 25) (bz BK213.out)) : gb235 ≠ gb213))
        clear BK211
        clear BK212
        clear BK213
        clear HB
        have BK211 := n0_
        have BK212 := n1_
        have BK213 := n2_
        have HB := n3_
        have BK235 := n4_
        have GW235 := n5_
        have GE235 := n6_
        have NB211_235 := n7_
        have NB235_211 := n8_
        have NB212_235 := n9_
        have NB235_212 := n10_
        have NB213_235 := n11_
        have NB235_213 := n12_
        clear n0_ n1_ n2_ n3_ n4_ n5_ n6_ n7_ n8_ n9_ n10_ n11_ n12_
        clear hb hbox hg
        refine hK.out _ _ ⟨bc BK211 0, bc BK211 1, bc BK211 2, bc BK211 3, bc BK212 0, bc BK212 1, bc BK212 2, bc BK212 3⟩ (fun hHeld => ?_)
        clear hK K
        refine norm_ (a' := ?_) ?_ ?_
        rotate_left
        ·show Act.put _ (some 5) _ = _
         simp only [Act.put, List.setIfInBounds_toArray, List.set_cons_zero, List.set_cons_succ, i64_w, i32_w]
         rfl
        refine one_ (i := 3) (N := some 30) #[T, T, T, T, F, F, F, F, T, F, F] rfl rfl (one_of HT_.out (by kernel_rfl)) (by decide) (fun K hK => ?_)
        refine goes_ Try.func62 (by kernel_rfl) rfl #[.agg #[.int .i64 a1_0, .int .i64 a1_1, .int .i64 a1_2, .int .i64 a1_3]] (by rfl) rfl rfl mz ?_
        with_reducible refine (spec_l10Rest.calls a1_0 a1_1 a1_2 a1_3 t230 t231 _ A35.out).mono ?_
        rintro e w45 ⟨rfl, hb⟩
        refine ⟨_, rfl, ?_⟩
        have n0_ := Aside0.mk (blk_below (g := gb211) (o := b4 a0_0 a0_1 a0_2 a0_3 25) (bz BK211.out) hb)
        have n1_ := Aside0.mk (blk_below (g := gb212) (o := b4 a1_0 a1_1 a1_2 a1_3 25) (bz BK212.out) hb)
        have n2_ := Aside0.mk (blk_below (g := gb213) (o := b4 0 0 0 0 25) (bz BK213.out) hb)
        have n3_ := Aside0.mk (blk_below (g := gb235) (o := b2 0 0 90) (bz BK235.out) hb)
        have n4_ := Aside0.mk (below_step (hz4 HB.out GE211.out GE212.out GE213.out GE235.out) hb)
        clear BK211
        clear BK212
        clear BK213
        clear BK235
        clear HB
        have BK211 := n0_
        have BK212 := n1_
        have BK213 := n2_
        have BK235 := n3_
        have HB := n4_
        clear n0_ n1_ n2_ n3_ n4_
        (try clear hb)
        (try clear hb2)
        (try clear hk)
        (try clear hi)
        refine hK.out _ _ ⟨bc BK211 0, bc BK211 1, bc BK211 2, bc BK211 3, bc BK212 0, bc BK212 1, bc BK212 2, bc BK212 3⟩ (fun hHeld => ?_)
        clear hK K
        refine norm_ (a' := ?_) ?_ ?_
        rotate_left
        ·show Act.put _ (some 30) _ = _
         simp only [Act.put, List.setIfInBounds_toArray, List.set_cons_zero, List.set_cons_succ, i64_w, i32_w]
         rfl
        refine one_ (i := 4) (N := some 31) #[T, T, T, T, T, F, F, F, T, F, F] rfl rfl (one_of HT_.out (by kernel_rfl)) (by decide) (fun K hK => ?_)
        refine goes_ Try.func80 (by kernel_rfl) rfl #[.agg #[.int .i64 t228, .int .i64 t229], .agg #[.int .i64 t230, .int .i64 t231]] (by rfl) rfl rfl mz ?_
        with_reducible refine (spec_RestMeet.calls kj2 t228 t229 t230 t231 t232 t233 true _ A36.out).mono ?_
        rintro e w46 ⟨rfl, hb⟩
        refine ⟨_, rfl, ?_⟩
        have n0_ := Aside0.mk (blk_below (g := gb211) (o := b4 a0_0 a0_1 a0_2 a0_3 25) (bz BK211.out) hb)
        have n1_ := Aside0.mk (blk_below (g := gb212) (o := b4 a1_0 a1_1 a1_2 a1_3 25) (bz BK212.out) hb)
        have n2_ := Aside0.mk (blk_below (g := gb213) (o := b4 0 0 0 0 25) (bz BK213.out) hb)
        have n3_ := Aside0.mk (blk_below (g := gb235) (o := b2 0 0 90) (bz BK235.out) hb)
        have n4_ := Aside0.mk (below_step (hz4 HB.out GE211.out GE212.out GE213.out GE235.out) hb)
        clear BK211
        clear BK212
        clear BK213
        clear BK235
        clear HB
        have BK211 := n0_
        have BK212 := n1_
        have BK213 := n2_
        have BK235 := n3_
        have HB := n4_
        clear n0_ n1_ n2_ n3_ n4_
        (try clear hb)
        (try clear hb2)
        (try clear hk)
        (try clear hi)
        refine hK.out _ _ ⟨bc BK211 0, bc BK211 1, bc BK211 2, bc BK211 3, bc BK212 0, bc BK212 1, bc BK212 2, bc BK212 3⟩ (fun hHeld => ?_)
        clear hK K
        refine norm_ (a' := ?_) ?_ ?_
        rotate_left
        ·show Act.put _ (some 31) _ = _
         simp only [Act.put, List.setIfInBounds_toArray, List.set_cons_zero, List.set_cons_succ, i64_w, i32_w]
         rfl
        refine pure_ (i := 5) (N := some 26) (v := ?_) (a' := ?_) #[T, T, T, T, T, T, F, F, T, F, F] rfl rfl (any_of HT_.out (by kernel_rfl)) (fun _ _ _ h => h) (Or.inl ⟨by rfl, ?_⟩) ?_ ?_
        rotate_left
        ·exact gz
        rotate_left
        ·exact pz
        refine pure_ (i := 6) (N := some 32) (v := ?_) (a' := ?_) #[T, T, T, T, T, T, T, F, T, F, F] rfl rfl (any_of HT_.out (by kernel_rfl)) (fun _ _ _ h => h) (Or.inl ⟨by rfl, ?_⟩) ?_ ?_
        rotate_left
        ·exact gz
        rotate_left
        ·exact pz
        refine pure_ (i := 7) (N := some 33) (v := ?_) (a' := ?_) #[T, T, T, T, T, T, T, T, T, F, F] rfl rfl (any_of HT_.out (by kernel_rfl)) (fun _ _ _ h => h) (Or.inl ⟨by rfl, ?_⟩) ?_ ?_
        rotate_left
        ·exact gz
        rotate_left
        ·exact pz
        exact norm_ (by simp only [putAll, Act.put, List.setIfInBounds_toArray, List.set_cons_zero, List.set_cons_succ]) (hCont (gb235) _ ⟨hHeld, (bz BK211.out), (bz BK212.out), (bz BK213.out), (bz BK235.out), GW235.out, GE235.out, NB211_235.out, NB235_211.out, NB212_235.out, NB235_212.out, NB213_235.out, NB235_213.out, (hz4 HB.out GE211.out GE212.out GE213.out GE235.out)⟩)
      ·skip
       refine box_step ?hg (N := 5) ?hd (cs := #[.int .i64 0, .int .i64 0]) (t := 90) ?hr ?_; (case hd => rfl); (case hg => rfl); (case hr => first | (go_simp; done) | (go_simp; rfl))
       intro gb235 hg w43 hbox hb
       have n0_ := Aside0.mk (blk_below (g := gb211) (o := b4 a0_0 a0_1 a0_2 a0_3 25) (bz BK211.out) hb)
       have n1_ := Aside0.mk (blk_below (g := gb212) (o := b4 a1_0 a1_1 a1_2 a1_3 25) (bz BK212.out) hb)
       have n2_ := Aside0.mk (blk_below (g := gb213) (o := b4 0 0 0 0 25) (bz BK213.out) hb)
       have n3_ := Aside0.mk (below_step (hz3 HB.out GE211.out GE212.out GE213.out) hb)
       have n4_ := Aside0.mk (hbox)
       have n5_ := Aside0.mk ((by rw [hg]; exact (below_size (hz3 HB.out GE211.out GE212.out GE213.out)) : w.heap.size ≤ gb235))
       have n6_ := Aside0.mk ((by rw [hg]; exact (below_size (hz3 HB.out GE211.out GE212.out GE213.out)) : w.heap.size ≤ gb235))
       have n7_ := Aside0.mk ((by rw [hg]; exact Nat.ne_of_lt (blk_lt (g := gb211) (o := b4 a0_0 a0_1 a0_2 a0_3 25) (bz BK211.out)) : gb211 ≠ gb235))
       have n8_ := Aside0.mk ((by rw [hg]; exact Nat.ne_of_gt (blk_lt (g := gb211) (o := b4 a0_0 a0_1 a0_2 a0_3 25) (bz BK211.out)) : gb235 ≠ gb211))
       have n9_ := Aside0.mk ((by rw [hg]; exact Nat.ne_of_lt (blk_lt (g := gb212) (o := b4 a1_0 a1_1 a1_2 a1_3 25) (bz BK212.out)) : gb212 ≠ gb235))
       have n10_ := Aside0.mk ((by rw [hg]; exact Nat.ne_of_gt (blk_lt (g := gb212) (o := b4 a1_0 a1_1 a1_2 a1_3 25) (bz BK212.out)) : gb235 ≠ gb212))
       have n11_ := Aside0.mk ((by rw [hg]; exact Nat.ne_of_lt (blk_lt (g := gb213) (o := b4 0 0 0 0 25) (bz BK213.out)) : gb213 ≠ gb235))
       have n12_ := Aside0.mk ((by rw [hg]; exact Nat.ne_of_gt (blk_lt (g := gb213) (o := b4 0 0 0 0 25) (bz BK213.out)) : gb235 ≠ gb213))
       clear BK211
       clear BK212
       clear BK213
       clear HB
       have BK211 := n0_
       have BK212 := n1_
       have BK213 := n2_
       have HB := n3_
       have BK235 := n4_
       have GW235 := n5_
       have GE235 := n6_
       have NB211_235 := n7_
       have NB235_211 := n8_
       have NB212_235 := n9_
       have NB235_212 := n10_
       have NB213_235 := n11_
       have NB235_213 := n12_
       clear n0_ n1_ n2_ n3_ n4_ n5_ n6_ n7_ n8_ n9_ n10_ n11_ n12_
       clear hb hbox hg
       refine hK.out _ _ ⟨bc BK211 0, bc BK211 1, bc BK211 2, bc BK211 3, bc BK212 0, bc BK212 1, bc BK212 2, bc BK212 3⟩ (fun hHeld => ?_)
       clear hK K
       refine norm_ (a' := ?_) ?_ ?_
       rotate_left
       ·show Act.put _ (some 5) _ = _
        simp only [Act.put, List.setIfInBounds_toArray, List.set_cons_zero, List.set_cons_succ, i64_w, i32_w]
        rfl
       refine one_ (i := 1) (N := some 28) #[T, T, T, F, F, F, F, F, T, F, F] rfl rfl (one_of HT_.out (by kernel_rfl)) (by decide) (fun K hK => ?_)
       refine goes_ Try.func62 (by kernel_rfl) rfl #[.agg #[.int .i64 a0_0, .int .i64 a0_1, .int .i64 a0_2, .int .i64 a0_3]] (by rfl) rfl rfl mz ?_
       with_reducible refine (spec_l10Rest.calls a0_0 a0_1 a0_2 a0_3 t228 t229 _ A34.out).mono ?_
       rintro e w44 ⟨rfl, hb⟩
       refine ⟨_, rfl, ?_⟩
       have n0_ := Aside0.mk (blk_below (g := gb211) (o := b4 a0_0 a0_1 a0_2 a0_3 25) (bz BK211.out) hb)
       have n1_ := Aside0.mk (blk_below (g := gb212) (o := b4 a1_0 a1_1 a1_2 a1_3 25) (bz BK212.out) hb)
       have n2_ := Aside0.mk (blk_below (g := gb213) (o := b4 0 0 0 0 25) (bz BK213.out) hb)
       have n3_ := Aside0.mk (blk_below (g := gb235) (o := b2 0 0 90) (bz BK235.out) hb)
       have n4_ := Aside0.mk (below_step (hz4 HB.out GE211.out GE212.out GE213.out GE235.out) hb)
       clear BK211
       clear BK212
       clear BK213
       clear BK235
       clear HB
       have BK211 := n0_
       have BK212 := n1_
       have BK213 := n2_
       have BK235 := n3_
       have HB := n4_
       clear n0_ n1_ n2_ n3_ n4_
       (try clear hb)
       (try clear hb2)
       (try clear hk)
       (try clear hi)
       refine hK.out _ _ ⟨bc BK211 0, bc BK211 1, bc BK211 2, bc BK211 3, bc BK212 0, bc BK212 1, bc BK212 2, bc BK212 3⟩ (fun hHeld => ?_)
       clear hK K
       refine norm_ (a' := ?_) ?_ ?_
       rotate_left
       ·show Act.put _ (some 28) _ = _
        simp only [Act.put, List.setIfInBounds_toArray, List.set_cons_zero, List.set_cons_succ, i64_w, i32_w]
        rfl
       refine one_ (i := 3) (N := some 30) #[T, T, T, T, F, F, F, F, T, F, F] rfl rfl (one_of HT_.out (by kernel_rfl)) (by decide) (fun K hK => ?_)
       refine goes_ Try.func62 (by kernel_rfl) rfl #[.agg #[.int .i64 a1_0, .int .i64 a1_1, .int .i64 a1_2, .int .i64 a1_3]] (by rfl) rfl rfl mz ?_
       with_reducible refine (spec_l10Rest.calls a1_0 a1_1 a1_2 a1_3 t230 t231 _ A35.out).mono ?_
       rintro e w45 ⟨rfl, hb⟩
       refine ⟨_, rfl, ?_⟩
       have n0_ := Aside0.mk (blk_below (g := gb211) (o := b4 a0_0 a0_1 a0_2 a0_3 25) (bz BK211.out) hb)
       have n1_ := Aside0.mk (blk_below (g := gb212) (o := b4 a1_0 a1_1 a1_2 a1_3 25) (bz BK212.out) hb)
       have n2_ := Aside0.mk (blk_below (g := gb213) (o := b4 0 0 0 0 25) (bz BK213.out) hb)
       have n3_ := Aside0.mk (blk_below (g := gb235) (o := b2 0 0 90) (bz BK235.out) hb)
       have n4_ := Aside0.mk (below_step (hz4 HB.out GE211.out GE212.out GE213.out GE235.out) hb)
       clear BK211
       clear BK212
       clear BK213
       clear BK235
       clear HB
       have BK211 := n0_
       have BK212 := n1_
       have BK213 := n2_
       have BK235 := n3_
       have HB := n4_
       clear n0_ n1_ n2_ n3_ n4_
       (try clear hb)
       (try clear hb2)
       (try clear hk)
       (try clear hi)
       refine hK.out _ _ ⟨bc BK211 0, bc BK211 1, bc BK211 2, bc BK211 3, bc BK212 0, bc BK212 1, bc BK212 2, bc BK212 3⟩ (fun hHeld => ?_)
       clear hK K
       refine norm_ (a' := ?_) ?_ ?_
       rotate_left
       ·show Act.put _ (some 30) _ = _
        simp only [Act.put, List.setIfInBounds_toArray, List.set_cons_zero, List.set_cons_succ, i64_w, i32_w]
        rfl
       refine one_ (i := 4) (N := some 31) #[T, T, T, T, T, F, F, F, T, F, F] rfl rfl (one_of HT_.out (by kernel_rfl)) (by decide) (fun K hK => ?_)
       refine goes_ Try.func80 (by kernel_rfl) rfl #[.agg #[.int .i64 t228, .int .i64 t229], .agg #[.int .i64 t230, .int .i64 t231]] (by rfl) rfl rfl mz ?_
       with_reducible refine (spec_RestMeet.calls kj2 t228 t229 t230 t231 t232 t233 true _ A36.out).mono ?_
       rintro e w46 ⟨rfl, hb⟩
       refine ⟨_, rfl, ?_⟩
       have n0_ := Aside0.mk (blk_below (g := gb211) (o := b4 a0_0 a0_1 a0_2 a0_3 25) (bz BK211.out) hb)
       have n1_ := Aside0.mk (blk_below (g := gb212) (o := b4 a1_0 a1_1 a1_2 a1_3 25) (bz BK212.out) hb)
       have n2_ := Aside0.mk (blk_below (g := gb213) (o := b4 0 0 0 0 25) (bz BK213.out) hb)
       have n3_ := Aside0.mk (blk_below (g := gb235) (o := b2 0 0 90) (bz BK235.out) hb)
       have n4_ := Aside0.mk (below_step (hz4 HB.out GE211.out GE212.out GE213.out GE235.out) hb)
       clear BK211
       clear BK212
       clear BK213
       clear BK235
       clear HB
       have BK211 := n0_
       have BK212 := n1_
       have BK213 := n2_
       have BK235 := n3_
       have HB := n4_
       clear n0_ n1_ n2_ n3_ n4_
       (try clear hb)
       (try clear hb2)
       (try clear hk)
       (try clear hi)
       refine hK.out _ _ ⟨bc BK211 0, bc BK211 1, bc BK211 2, bc BK211 3, bc BK212 0, bc BK212 1, bc BK212 2, bc BK212 3⟩ (fun hHeld => ?_)
       clear hK K
       refine norm_ (a' := ?_) ?_ ?_
       rotate_left
       ·show Act.put _ (some 31) _ = _
        simp only [Act.put, List.setIfInBounds_toArray, List.set_cons_zero, List.set_cons_succ, i64_w, i32_w]
        rfl
       refine pure_ (i := 5) (N := some 26) (v := ?_) (a' := ?_) #[T, T, T, T, T, T, F, F, T, F, F] rfl rfl (any_of HT_.out (by kernel_rfl)) (fun _ _ _ h => h) (Or.inl ⟨by rfl, ?_⟩) ?_ ?_
       rotate_left
       ·exact gz
       rotate_left
       ·exact pz
       refine pure_ (i := 6) (N := some 32) (v := ?_) (a' := ?_) #[T, T, T, T, T, T, T, F, T, F, F] rfl rfl (any_of HT_.out (by kernel_rfl)) (fun _ _ _ h => h) (Or.inl ⟨by rfl, ?_⟩) ?_ ?_
       rotate_left
       ·exact gz
       rotate_left
       ·exact pz
       refine pure_ (i := 7) (N := some 33) (v := ?_) (a' := ?_) #[T, T, T, T, T, T, T, T, T, F, F] rfl rfl (any_of HT_.out (by kernel_rfl)) (fun _ _ _ h => h) (Or.inl ⟨by rfl, ?_⟩) ?_ ?_
       rotate_left
       ·exact gz
       rotate_left
       ·exact pz
       exact norm_ (by simp only [putAll, Act.put, List.setIfInBounds_toArray, List.set_cons_zero, List.set_cons_succ]) (hCont (gb235) _ ⟨hHeld, (bz BK211.out), (bz BK212.out), (bz BK213.out), (bz BK235.out), GW235.out, GE235.out, NB211_235.out, NB235_211.out, NB212_235.out, NB235_212.out, NB213_235.out, NB235_213.out, (hz4 HB.out GE211.out GE212.out GE213.out GE235.out)⟩)
     rintro gb235 w47 ⟨hS_, h0_, h1_, h2_, h3_, h4_, h5_, h6_, h7_, h8_, h9_, h10_, h11_, h12_⟩
     have n0_ : Aside0 (w47.heap[gb211]? = some (.cells #[.int .i64 a0_0, .int .i64 a0_1, .int .i64 a0_2, .int .i64 a0_3] 25 (0, 0))) := ⟨h0_⟩
     have n1_ : Aside0 (w47.heap[gb212]? = some (.cells #[.int .i64 a1_0, .int .i64 a1_1, .int .i64 a1_2, .int .i64 a1_3] 25 (0, 0))) := ⟨h1_⟩
     have n2_ : Aside0 (w47.heap[gb213]? = some (.cells #[.int .i64 0, .int .i64 0, .int .i64 0, .int .i64 0] 25 (0, 0))) := ⟨h2_⟩
     have n3_ : Aside0 (w47.heap[gb235]? = some (.cells #[.int .i64 0, .int .i64 0] 90 (0, 0))) := ⟨h3_⟩
     have n4_ : Aside0 (w.heap.size ≤ gb235) := ⟨h4_⟩
     have n5_ : Aside0 (w.heap.size ≤ gb235) := ⟨h5_⟩
     have n6_ : Aside0 (gb211 ≠ gb235) := ⟨h6_⟩
     have n7_ : Aside0 (gb235 ≠ gb211) := ⟨h7_⟩
     have n8_ : Aside0 (gb212 ≠ gb235) := ⟨h8_⟩
     have n9_ : Aside0 (gb235 ≠ gb212) := ⟨h9_⟩
     have n10_ : Aside0 (gb213 ≠ gb235) := ⟨h10_⟩
     have n11_ : Aside0 (gb235 ≠ gb213) := ⟨h11_⟩
     have n12_ : Aside0 (Below w.heap.size w w47) := ⟨h12_⟩
     clear BK211
     clear BK212
     clear BK213
     clear HB
     clear h0_ h1_ h2_ h3_ h4_ h5_ h6_ h7_ h8_ h9_ h10_ h11_ h12_
     have BK211 := n0_
     have BK212 := n1_
     have BK213 := n2_
     have BK235 := n3_
     have GW235 := n4_
     have GE235 := n5_
     have NB211_235 := n6_
     have NB235_211 := n7_
     have NB212_235 := n8_
     have NB235_212 := n9_
     have NB213_235 := n10_
     have NB235_213 := n11_
     have HB := n12_
     clear n0_ n1_ n2_ n3_ n4_ n5_ n6_ n7_ n8_ n9_ n10_ n11_ n12_
     have hHeld : w47.cell? ⟨gb211, 0, none⟩ = some (.int .i64 a0_0) ∧ w47.cell? ⟨gb211, 1, none⟩ = some (.int .i64 a0_1) ∧ w47.cell? ⟨gb211, 2, none⟩ = some (.int .i64 a0_2) ∧ w47.cell? ⟨gb211, 3, none⟩ = some (.int .i64 a0_3) ∧ w47.cell? ⟨gb212, 0, none⟩ = some (.int .i64 a1_0) ∧ w47.cell? ⟨gb212, 1, none⟩ = some (.int .i64 a1_1) ∧ w47.cell? ⟨gb212, 2, none⟩ = some (.int .i64 a1_2) ∧ w47.cell? ⟨gb212, 3, none⟩ = some (.int .i64 a1_3) := hS_
     refine norm_ (a' := ?_) ?_ ?_
     rotate_left
     ·simp only [putAll, Act.put, List.setIfInBounds_toArray, List.set_cons_zero, List.set_cons_succ]
      rfl
     refine one_ (i := 9) (N := none) #[T, T, T, T, T, T, T, T, T, T, F] rfl rfl (one_of HT_.out (by kernel_rfl)) (by decide) (fun K hK => ?_)
     have hs48 : w47.cell? ⟨gb235, 0, none⟩ = some (.int .i64 0) := bc BK235 0
     have hfs48 := blk_frozen BK235.out 0
     have hns48_0 := NB211_235.out
     have hns48_1 := NB212_235.out
     have hns48_2 := NB213_235.out
     have hms48_0 := NB235_211.out
     have hms48_1 := NB235_212.out
     have hms48_2 := NB235_213.out
     have hs49 : w47.cell? ⟨gb235, 1, none⟩ = some (.int .i64 0) := bc BK235 1
     have hfs49 := blk_frozen BK235.out 1
     have hns49_0 := NB211_235.out
     have hns49_1 := NB212_235.out
     have hns49_2 := NB213_235.out
     have hms49_0 := NB235_211.out
     have hms49_1 := NB235_212.out
     have hms49_2 := NB235_213.out
     refine skip_ (w1 := ?_) (by rfl) rfl ?_ ?_
     rotate_left
     ·go_simp
      rfl
     refine hK.out _ _ ⟨((cell_far (p := ⟨gb235, _, none⟩) NB211_235.out _).trans (((cell_far (p := ⟨gb235, _, none⟩) NB211_235.out _).trans (hHeld.1)))), ((cell_far (p := ⟨gb235, _, none⟩) NB211_235.out _).trans (((cell_far (p := ⟨gb235, _, none⟩) NB211_235.out _).trans (hHeld.2.1)))), ((cell_far (p := ⟨gb235, _, none⟩) NB211_235.out _).trans (((cell_far (p := ⟨gb235, _, none⟩) NB211_235.out _).trans (hHeld.2.2.1)))), ((cell_far (p := ⟨gb235, _, none⟩) NB211_235.out _).trans (((cell_far (p := ⟨gb235, _, none⟩) NB211_235.out _).trans (hHeld.2.2.2.1)))), ((cell_far (p := ⟨gb235, _, none⟩) NB212_235.out _).trans (((cell_far (p := ⟨gb235, _, none⟩) NB212_235.out _).trans (hHeld.2.2.2.2.1)))), ((cell_far (p := ⟨gb235, _, none⟩) NB212_235.out _).trans (((cell_far (p := ⟨gb235, _, none⟩) NB212_235.out _).trans (hHeld.2.2.2.2.2.1)))), ((cell_far (p := ⟨gb235, _, none⟩) NB212_235.out _).trans (((cell_far (p := ⟨gb235, _, none⟩) NB212_235.out _).trans (hHeld.2.2.2.2.2.2.1)))), ((cell_far (p := ⟨gb235, _, none⟩) NB212_235.out _).trans (((cell_far (p := ⟨gb235, _, none⟩) NB212_235.out _).trans (hHeld.2.2.2.2.2.2.2))))⟩ (fun hHeld => ?_)
     clear hK K
     refine pure_ (i := 10) (N := some 6) (v := ?_) (a' := ?_) #[T, T, T, T, T, T, T, T, T, T, T] rfl rfl (any_of HT_.out (by kernel_rfl)) (fun _ _ _ h => h) (Or.inl ⟨by rfl, ?_⟩) ?_ ?_
     rotate_left
     ·exact gz
     rotate_left
     ·exact pz
     refine done_ (done_of HT_.out (by kernel_rfl)) ?_
     try go_wp2
     have n0_ : Aside0 (((w47.setCell ⟨gb235, 0, none⟩ (.int .i64 t232)).setCell ⟨gb235, 1, none⟩ (.int .i64 t233)).heap[gb211]? = some (.cells #[.int .i64 a0_0, .int .i64 a0_1, .int .i64 a0_2, .int .i64 a0_3] 25 (0, 0))) := ⟨by (with_reducible repeat (first | refine blk_drewN ?_ _ | refine blk_drew ?_ | refine blk_alloc ?_ _)); refine blk_far ?_ NB211_235.out _; (with_reducible repeat (first | refine blk_drewN ?_ _ | refine blk_drew ?_ | refine blk_alloc ?_ _)); refine blk_far ?_ NB211_235.out _; (with_reducible repeat (first | refine blk_drewN ?_ _ | refine blk_drew ?_ | refine blk_alloc ?_ _)); exact BK211.out⟩
     have n1_ : Aside0 (((w47.setCell ⟨gb235, 0, none⟩ (.int .i64 t232)).setCell ⟨gb235, 1, none⟩ (.int .i64 t233)).heap[gb212]? = some (.cells #[.int .i64 a1_0, .int .i64 a1_1, .int .i64 a1_2, .int .i64 a1_3] 25 (0, 0))) := ⟨by (with_reducible repeat (first | refine blk_drewN ?_ _ | refine blk_drew ?_ | refine blk_alloc ?_ _)); refine blk_far ?_ NB212_235.out _; (with_reducible repeat (first | refine blk_drewN ?_ _ | refine blk_drew ?_ | refine blk_alloc ?_ _)); refine blk_far ?_ NB212_235.out _; (with_reducible repeat (first | refine blk_drewN ?_ _ | refine blk_drew ?_ | refine blk_alloc ?_ _)); exact BK212.out⟩
     have n2_ : Aside0 (((w47.setCell ⟨gb235, 0, none⟩ (.int .i64 t232)).setCell ⟨gb235, 1, none⟩ (.int .i64 t233)).heap[gb213]? = some (.cells #[.int .i64 0, .int .i64 0, .int .i64 0, .int .i64 0] 25 (0, 0))) := ⟨by (with_reducible repeat (first | refine blk_drewN ?_ _ | refine blk_drew ?_ | refine blk_alloc ?_ _)); refine blk_far ?_ NB213_235.out _; (with_reducible repeat (first | refine blk_drewN ?_ _ | refine blk_drew ?_ | refine blk_alloc ?_ _)); refine blk_far ?_ NB213_235.out _; (with_reducible repeat (first | refine blk_drewN ?_ _ | refine blk_drew ?_ | refine blk_alloc ?_ _)); exact BK213.out⟩
     have n3_ : Aside0 (((w47.setCell ⟨gb235, 0, none⟩ (.int .i64 t232)).setCell ⟨gb235, 1, none⟩ (.int .i64 t233)).heap[gb235]? = some (.cells #[.int .i64 t232, .int .i64 t233] 90 (0, 0))) := ⟨by (with_reducible repeat (first | refine blk_drewN ?_ _ | refine blk_drew ?_ | refine blk_alloc ?_ _)); refine blk_put (cs := #[.int .i64 t232, .int .i64 0]) ?_ 1 _ rfl; (with_reducible repeat (first | refine blk_drewN ?_ _ | refine blk_drew ?_ | refine blk_alloc ?_ _)); refine blk_put (cs := #[.int .i64 0, .int .i64 0]) ?_ 0 _ rfl; (with_reducible repeat (first | refine blk_drewN ?_ _ | refine blk_drew ?_ | refine blk_alloc ?_ _)); exact BK235.out⟩
     have n4_ : Aside0 (Below w.heap.size w ((w47.setCell ⟨gb235, 0, none⟩ (.int .i64 t232)).setCell ⟨gb235, 1, none⟩ (.int .i64 t233))) := ⟨hz4 HB.out GE211.out GE212.out GE213.out GE235.out⟩
     (try clear BK211)
     (try clear BK212)
     (try clear BK213)
     (try clear BK235)
     (try clear HB)
     generalize ((w47.setCell ⟨gb235, 0, none⟩ (.int .i64 t232)).setCell ⟨gb235, 1, none⟩ (.int .i64 t233)) = w50 at n0_ n1_ n2_ n3_ n4_ ⊢
     have BK211 := n0_
     have BK212 := n1_
     have BK213 := n2_
     have BK235 := n3_
     have HB := n4_
     clear n0_ n1_ n2_ n3_ n4_
     have n0_ := Aside0.mk (blk_drew BK211.out)
     have n1_ := Aside0.mk (blk_drew BK212.out)
     have n2_ := Aside0.mk (blk_drew BK213.out)
     have n3_ := Aside0.mk (blk_drew BK235.out)
     have n4_ := Aside0.mk (below_drew1 HB.out)
     clear BK211
     clear BK212
     clear BK213
     clear BK235
     clear HB
     have BK211 := n0_
     have BK212 := n1_
     have BK213 := n2_
     have BK235 := n3_
     have HB := n4_
     clear n0_ n1_ n2_ n3_ n4_
     refine start_ (n := 8) (S := fun w' => w'.cell? ⟨gb211, 0, none⟩ = some (.int .i64 a0_0) ∧ w'.cell? ⟨gb211, 1, none⟩ = some (.int .i64 a0_1) ∧ w'.cell? ⟨gb211, 2, none⟩ = some (.int .i64 a0_2) ∧ w'.cell? ⟨gb211, 3, none⟩ = some (.int .i64 a0_3) ∧ w'.cell? ⟨gb212, 0, none⟩ = some (.int .i64 a1_0) ∧ w'.cell? ⟨gb212, 1, none⟩ = some (.int .i64 a1_1) ∧ w'.cell? ⟨gb212, 2, none⟩ = some (.int .i64 a1_2) ∧ w'.cell? ⟨gb212, 3, none⟩ = some (.int .i64 a1_3) ∧ w'.cell? ⟨gb235, 0, none⟩ = some (.int .i64 t232) ∧ w'.cell? ⟨gb235, 1, none⟩ = some (.int .i64 t233)) (ds := []) #[F, F, F, F, F, F, F, F] (by kernel_rfl) rfl rfl ⟨bc BK211 0, bc BK211 1, bc BK211 2, bc BK211 3, bc BK212 0, bc BK212 1, bc BK212 2, bc BK212 3, bc BK235 0, bc BK235 1⟩ (fun hHeld => ?_); refine with_tabW spec_ValMeet.tab6 spec_ValMeet.bits6 (fun HT_ HW_ => ?_)
     generalize w50.drew = w51 at BK211 BK212 BK213 BK235 HB hHeld ⊢
     refine take_ (i := 0) (N := some 37) (v := ?_) (a' := ?_) #[T, F, F, F, F, F, F, F] rfl rfl (take_ofW HT_.out HW_.out (by kernel_rfl)) (fun _ _ _ h => h) (Or.inl ⟨by rfl, ?_⟩) hHeld ?_ ?_
     rotate_left
     ·rintro w' ⟨s0, s1, s2, s3, s4, s5, s6, s7, s8, s9⟩
      go_simp
      with_reducible rfl
     rotate_left
     ·exact pz
     refine take_ (i := 2) (N := some 39) (v := ?_) (a' := ?_) #[T, F, T, F, F, F, F, F] rfl rfl (take_ofW HT_.out HW_.out (by kernel_rfl)) (fun _ _ _ h => h) (Or.inl ⟨by rfl, ?_⟩) hHeld ?_ ?_
     rotate_left
     ·rintro w' ⟨s0, s1, s2, s3, s4, s5, s6, s7, s8, s9⟩
      go_simp
      with_reducible rfl
     rotate_left
     ·exact pz
     refine take_ (i := 5) (N := some 42) (v := ?_) (a' := ?_) #[T, F, T, F, F, T, F, F] rfl rfl (take_ofW HT_.out HW_.out (by kernel_rfl)) (fun _ _ _ h => h) (Or.inl ⟨by rfl, ?_⟩) hHeld ?_ ?_
     rotate_left
     ·rintro w' ⟨s0, s1, s2, s3, s4, s5, s6, s7, s8, s9⟩
      go_simp
      with_reducible rfl
     rotate_left
     ·exact pz
     refine one_ (i := 1) (N := some 38) #[T, T, T, F, F, T, F, F] rfl rfl (one_of HT_.out (by kernel_rfl)) (by decide) (fun K hK => ?_)
     refine goes_ Try.func60 (by kernel_rfl) rfl #[.agg #[.int .i64 a0_0, .int .i64 a0_1, .int .i64 a0_2, .int .i64 a0_3]] (by rfl) rfl rfl mz ?_
     with_reducible refine (spec_l10Range.calls a0_0 a0_1 a0_2 a0_3 t240 t241 _ A38.out).mono ?_
     rintro e w52 ⟨rfl, hb⟩
     refine ⟨_, rfl, ?_⟩
     have n0_ := Aside0.mk (blk_below (g := gb211) (o := b4 a0_0 a0_1 a0_2 a0_3 25) (bz BK211.out) hb)
     have n1_ := Aside0.mk (blk_below (g := gb212) (o := b4 a1_0 a1_1 a1_2 a1_3 25) (bz BK212.out) hb)
     have n2_ := Aside0.mk (blk_below (g := gb213) (o := b4 0 0 0 0 25) (bz BK213.out) hb)
     have n3_ := Aside0.mk (blk_below (g := gb235) (o := b2 t232 t233 90) (bz BK235.out) hb)
     have n4_ := Aside0.mk (below_step (hz4 HB.out GE211.out GE212.out GE213.out GE235.out) hb)
     clear BK211
     clear BK212
     clear BK213
     clear BK235
     clear HB
     have BK211 := n0_
     have BK212 := n1_
     have BK213 := n2_
     have BK235 := n3_
     have HB := n4_
     clear n0_ n1_ n2_ n3_ n4_
     (try clear hb)
     (try clear hb2)
     (try clear hk)
     (try clear hi)
     refine hK.out _ _ ⟨bc BK211 0, bc BK211 1, bc BK211 2, bc BK211 3, bc BK212 0, bc BK212 1, bc BK212 2, bc BK212 3, bc BK235 0, bc BK235 1⟩ (fun hHeld => ?_)
     clear hK K
     refine norm_ (a' := ?_) ?_ ?_
     rotate_left
     ·show Act.put _ (some 38) _ = _
      simp only [Act.put, List.setIfInBounds_toArray, List.set_cons_zero, List.set_cons_succ, i64_w, i32_w]
      rfl
     refine one_ (i := 3) (N := some 40) #[T, T, T, T, F, T, F, F] rfl rfl (one_of HT_.out (by kernel_rfl)) (by decide) (fun K hK => ?_)
     refine goes_ Try.func60 (by kernel_rfl) rfl #[.agg #[.int .i64 a1_0, .int .i64 a1_1, .int .i64 a1_2, .int .i64 a1_3]] (by rfl) rfl rfl mz ?_
     with_reducible refine (spec_l10Range.calls a1_0 a1_1 a1_2 a1_3 t242 t243 _ A39.out).mono ?_
     rintro e w53 ⟨rfl, hb⟩
     refine ⟨_, rfl, ?_⟩
     have n0_ := Aside0.mk (blk_below (g := gb211) (o := b4 a0_0 a0_1 a0_2 a0_3 25) (bz BK211.out) hb)
     have n1_ := Aside0.mk (blk_below (g := gb212) (o := b4 a1_0 a1_1 a1_2 a1_3 25) (bz BK212.out) hb)
     have n2_ := Aside0.mk (blk_below (g := gb213) (o := b4 0 0 0 0 25) (bz BK213.out) hb)
     have n3_ := Aside0.mk (blk_below (g := gb235) (o := b2 t232 t233 90) (bz BK235.out) hb)
     have n4_ := Aside0.mk (below_step (hz4 HB.out GE211.out GE212.out GE213.out GE235.out) hb)
     clear BK211
     clear BK212
     clear BK213
     clear BK235
     clear HB
     have BK211 := n0_
     have BK212 := n1_
     have BK213 := n2_
     have BK235 := n3_
     have HB := n4_
     clear n0_ n1_ n2_ n3_ n4_
     (try clear hb)
     (try clear hb2)
     (try clear hk)
     (try clear hi)
     refine hK.out _ _ ⟨bc BK211 0, bc BK211 1, bc BK211 2, bc BK211 3, bc BK212 0, bc BK212 1, bc BK212 2, bc BK212 3, bc BK235 0, bc BK235 1⟩ (fun hHeld => ?_)
     clear hK K
     refine norm_ (a' := ?_) ?_ ?_
     rotate_left
     ·show Act.put _ (some 40) _ = _
      simp only [Act.put, List.setIfInBounds_toArray, List.set_cons_zero, List.set_cons_succ, i64_w, i32_w]
      rfl
     refine one_ (i := 4) (N := some 41) #[T, T, T, T, T, T, F, F] rfl rfl (one_of HT_.out (by kernel_rfl)) (by decide) (fun K hK => ?_)
     refine goes_ Try.func81 (by kernel_rfl) rfl #[.agg #[.int .i64 t240, .int .i64 t241], .agg #[.int .i64 t242, .int .i64 t243]] (by rfl) rfl rfl mz ?_
     with_reducible refine (spec_RangeMeet.calls kj2 t240 t241 t242 t243 t244 t245 _ A40.out).mono ?_
     rintro e w54 ⟨rfl, hb⟩
     refine ⟨_, rfl, ?_⟩
     have n0_ := Aside0.mk (blk_below (g := gb211) (o := b4 a0_0 a0_1 a0_2 a0_3 25) (bz BK211.out) hb)
     have n1_ := Aside0.mk (blk_below (g := gb212) (o := b4 a1_0 a1_1 a1_2 a1_3 25) (bz BK212.out) hb)
     have n2_ := Aside0.mk (blk_below (g := gb213) (o := b4 0 0 0 0 25) (bz BK213.out) hb)
     have n3_ := Aside0.mk (blk_below (g := gb235) (o := b2 t232 t233 90) (bz BK235.out) hb)
     have n4_ := Aside0.mk (below_step (hz4 HB.out GE211.out GE212.out GE213.out GE235.out) hb)
     clear BK211
     clear BK212
     clear BK213
     clear BK235
     clear HB
     have BK211 := n0_
     have BK212 := n1_
     have BK213 := n2_
     have BK235 := n3_
     have HB := n4_
     clear n0_ n1_ n2_ n3_ n4_
     (try clear hb)
     (try clear hb2)
     (try clear hk)
     (try clear hi)
     refine hK.out _ _ ⟨bc BK211 0, bc BK211 1, bc BK211 2, bc BK211 3, bc BK212 0, bc BK212 1, bc BK212 2, bc BK212 3, bc BK235 0, bc BK235 1⟩ (fun hHeld => ?_)
     clear hK K
     refine norm_ (a' := ?_) ?_ ?_
     rotate_left
     ·show Act.put _ (some 41) _ = _
      simp only [Act.put, List.setIfInBounds_toArray, List.set_cons_zero, List.set_cons_succ, i64_w, i32_w]
      rfl
     refine one_ (i := 6) (N := some 43) #[T, T, T, T, T, T, T, F] rfl rfl (one_of HT_.out (by kernel_rfl)) (by decide) (fun K hK => ?_)
     refine goes_ Try.func73 (by kernel_rfl) rfl #[.agg #[.int .i64 t244, .int .i64 t245], .agg #[.int .i64 t232, .int .i64 t233]] (by rfl) rfl rfl mz ?_
     with_reducible refine (spec_ValMake.calls kj2 t244 t245 t232 t233 t246 t247 t248 t249 _ A41.out).mono ?_
     rintro e w55 ⟨rfl, hb⟩
     refine ⟨_, rfl, ?_⟩
     have n0_ := Aside0.mk (blk_below (g := gb211) (o := b4 a0_0 a0_1 a0_2 a0_3 25) (bz BK211.out) hb)
     have n1_ := Aside0.mk (blk_below (g := gb212) (o := b4 a1_0 a1_1 a1_2 a1_3 25) (bz BK212.out) hb)
     have n2_ := Aside0.mk (blk_below (g := gb213) (o := b4 0 0 0 0 25) (bz BK213.out) hb)
     have n3_ := Aside0.mk (blk_below (g := gb235) (o := b2 t232 t233 90) (bz BK235.out) hb)
     have n4_ := Aside0.mk (below_step (hz4 HB.out GE211.out GE212.out GE213.out GE235.out) hb)
     clear BK211
     clear BK212
     clear BK213
     clear BK235
     clear HB
     have BK211 := n0_
     have BK212 := n1_
     have BK213 := n2_
     have BK235 := n3_
     have HB := n4_
     clear n0_ n1_ n2_ n3_ n4_
     (try clear hb)
     (try clear hb2)
     (try clear hk)
     (try clear hi)
     refine hK.out _ _ ⟨bc BK211 0, bc BK211 1, bc BK211 2, bc BK211 3, bc BK212 0, bc BK212 1, bc BK212 2, bc BK212 3, bc BK235 0, bc BK235 1⟩ (fun hHeld => ?_)
     clear hK K
     refine norm_ (a' := ?_) ?_ ?_
     rotate_left
     ·show Act.put _ (some 43) _ = _
      simp only [Act.put, List.setIfInBounds_toArray, List.set_cons_zero, List.set_cons_succ, i64_w, i32_w]
      rfl
     refine one_ (i := 7) (N := none) #[T, T, T, T, T, T, T, T] rfl rfl (one_of HT_.out (by kernel_rfl)) (by decide) (fun K hK => ?_)
     have hs56 : w55.cell? ⟨gb213, 0, none⟩ = some (.int .i64 0) := bc BK213 0
     have hfs56 := blk_frozen BK213.out 0
     have hns56_0 := NB211_213.out
     have hns56_1 := NB212_213.out
     have hns56_3 := NB235_213.out
     have hms56_0 := NB213_211.out
     have hms56_1 := NB213_212.out
     have hms56_3 := NB213_235.out
     have hs57 : w55.cell? ⟨gb213, 1, none⟩ = some (.int .i64 0) := bc BK213 1
     have hfs57 := blk_frozen BK213.out 1
     have hns57_0 := NB211_213.out
     have hns57_1 := NB212_213.out
     have hns57_3 := NB235_213.out
     have hms57_0 := NB213_211.out
     have hms57_1 := NB213_212.out
     have hms57_3 := NB213_235.out
     have hs58 : w55.cell? ⟨gb213, 2, none⟩ = some (.int .i64 0) := bc BK213 2
     have hfs58 := blk_frozen BK213.out 2
     have hns58_0 := NB211_213.out
     have hns58_1 := NB212_213.out
     have hns58_3 := NB235_213.out
     have hms58_0 := NB213_211.out
     have hms58_1 := NB213_212.out
     have hms58_3 := NB213_235.out
     have hs59 : w55.cell? ⟨gb213, 3, none⟩ = some (.int .i64 0) := bc BK213 3
     have hfs59 := blk_frozen BK213.out 3
     have hns59_0 := NB211_213.out
     have hns59_1 := NB212_213.out
     have hns59_3 := NB235_213.out
     have hms59_0 := NB213_211.out
     have hms59_1 := NB213_212.out
     have hms59_3 := NB213_235.out
     refine skip_ (w1 := ?_) (by rfl) rfl ?_ ?_
     rotate_left
     ·go_simp
      rfl
     refine hK.out _ _ ⟨((cell_far (p := ⟨gb213, _, none⟩) NB211_213.out _).trans (((cell_far (p := ⟨gb213, _, none⟩) NB211_213.out _).trans (((cell_far (p := ⟨gb213, _, none⟩) NB211_213.out _).trans (((cell_far (p := ⟨gb213, _, none⟩) NB211_213.out _).trans (hHeld.1)))))))), ((cell_far (p := ⟨gb213, _, none⟩) NB211_213.out _).trans (((cell_far (p := ⟨gb213, _, none⟩) NB211_213.out _).trans (((cell_far (p := ⟨gb213, _, none⟩) NB211_213.out _).trans (((cell_far (p := ⟨gb213, _, none⟩) NB211_213.out _).trans (hHeld.2.1)))))))), ((cell_far (p := ⟨gb213, _, none⟩) NB211_213.out _).trans (((cell_far (p := ⟨gb213, _, none⟩) NB211_213.out _).trans (((cell_far (p := ⟨gb213, _, none⟩) NB211_213.out _).trans (((cell_far (p := ⟨gb213, _, none⟩) NB211_213.out _).trans (hHeld.2.2.1)))))))), ((cell_far (p := ⟨gb213, _, none⟩) NB211_213.out _).trans (((cell_far (p := ⟨gb213, _, none⟩) NB211_213.out _).trans (((cell_far (p := ⟨gb213, _, none⟩) NB211_213.out _).trans (((cell_far (p := ⟨gb213, _, none⟩) NB211_213.out _).trans (hHeld.2.2.2.1)))))))), ((cell_far (p := ⟨gb213, _, none⟩) NB212_213.out _).trans (((cell_far (p := ⟨gb213, _, none⟩) NB212_213.out _).trans (((cell_far (p := ⟨gb213, _, none⟩) NB212_213.out _).trans (((cell_far (p := ⟨gb213, _, none⟩) NB212_213.out _).trans (hHeld.2.2.2.2.1)))))))), ((cell_far (p := ⟨gb213, _, none⟩) NB212_213.out _).trans (((cell_far (p := ⟨gb213, _, none⟩) NB212_213.out _).trans (((cell_far (p := ⟨gb213, _, none⟩) NB212_213.out _).trans (((cell_far (p := ⟨gb213, _, none⟩) NB212_213.out _).trans (hHeld.2.2.2.2.2.1)))))))), ((cell_far (p := ⟨gb213, _, none⟩) NB212_213.out _).trans (((cell_far (p := ⟨gb213, _, none⟩) NB212_213.out _).trans (((cell_far (p := ⟨gb213, _, none⟩) NB212_213.out _).trans (((cell_far (p := ⟨gb213, _, none⟩) NB212_213.out _).trans (hHeld.2.2.2.2.2.2.1)))))))), ((cell_far (p := ⟨gb213, _, none⟩) NB212_213.out _).trans (((cell_far (p := ⟨gb213, _, none⟩) NB212_213.out _).trans (((cell_far (p := ⟨gb213, _, none⟩) NB212_213.out _).trans (((cell_far (p := ⟨gb213, _, none⟩) NB212_213.out _).trans (hHeld.2.2.2.2.2.2.2.1)))))))), ((cell_far (p := ⟨gb213, _, none⟩) NB235_213.out _).trans (((cell_far (p := ⟨gb213, _, none⟩) NB235_213.out _).trans (((cell_far (p := ⟨gb213, _, none⟩) NB235_213.out _).trans (((cell_far (p := ⟨gb213, _, none⟩) NB235_213.out _).trans (hHeld.2.2.2.2.2.2.2.2.1)))))))), ((cell_far (p := ⟨gb213, _, none⟩) NB235_213.out _).trans (((cell_far (p := ⟨gb213, _, none⟩) NB235_213.out _).trans (((cell_far (p := ⟨gb213, _, none⟩) NB235_213.out _).trans (((cell_far (p := ⟨gb213, _, none⟩) NB235_213.out _).trans (hHeld.2.2.2.2.2.2.2.2.2))))))))⟩ (fun hHeld => ?_)
     clear hK K
     refine done_ (done_of HT_.out (by kernel_rfl)) ?_
     try go_wp2
     refine bodyPost_ret (results_cell_row rfl _ _ gb213 25 #[.int .i64 t246, .int .i64 t247, .int .i64 t248, .int .i64 t249] (0, 0) _ rfl (by (with_reducible repeat (first | refine blk_drewN ?_ _ | refine blk_drew ?_ | refine blk_alloc ?_ _)); refine blk_put (cs := #[.int .i64 t246, .int .i64 t247, .int .i64 t248, .int .i64 0]) ?_ 3 _ rfl; (with_reducible repeat (first | refine blk_drewN ?_ _ | refine blk_drew ?_ | refine blk_alloc ?_ _)); refine blk_put (cs := #[.int .i64 t246, .int .i64 t247, .int .i64 0, .int .i64 0]) ?_ 2 _ rfl; (with_reducible repeat (first | refine blk_drewN ?_ _ | refine blk_drew ?_ | refine blk_alloc ?_ _)); refine blk_put (cs := #[.int .i64 t246, .int .i64 0, .int .i64 0, .int .i64 0]) ?_ 1 _ rfl; (with_reducible repeat (first | refine blk_drewN ?_ _ | refine blk_drew ?_ | refine blk_alloc ?_ _)); refine blk_put (cs := #[.int .i64 0, .int .i64 0, .int .i64 0, .int .i64 0]) ?_ 0 _ rfl; (with_reducible repeat (first | refine blk_drewN ?_ _ | refine blk_drew ?_ | refine blk_alloc ?_ _)); exact BK213.out) Try.underlying25 rfl (by kernel_rfl)) rfl ?_
     exact ⟨by first | rfl | (simp [errW_none, errW_some] <;> rfl) | (simp [*, errW_none, errW_some] <;> rfl), hz4 HB.out GE211.out GE212.out GE213.out GE235.out⟩
    ·replace c37 := Bool.eq_false_iff.mpr c37
     subst c37
     have H1 : ((spec_l10None.f).bind fun bt236 => (some (bt236.1, bt236.2.1, bt236.2.2.1, bt236.2.2.2))) = some (r1, r2, r3, r4) := by rw [if_neg (show ¬ (false = true) by decide)] at H; exact H
     clear H
     have H := H1
     clear H1
     replace H := Option.bind_eq_some_iff.mp H
     obtain ⟨⟨t236, t237, t238, t239⟩, A600, H⟩ := H
     replace H : (some (t236, t237, t238, t239)) = some (r1, r2, r3, r4) := H
     have A60 := Aside0.mk A600
     clear A600
     simp only [Option.some.injEq, Prod.mk.injEq] at H
     obtain ⟨rfl, rfl, rfl, rfl⟩ := H
     try go_wp2
     have n0_ := Aside0.mk (blk_drew BK211.out)
     have n1_ := Aside0.mk (blk_drew BK212.out)
     have n2_ := Aside0.mk (blk_drew BK213.out)
     have n3_ := Aside0.mk (below_drew1 HB.out)
     clear BK211
     clear BK212
     clear BK213
     clear HB
     have BK211 := n0_
     have BK212 := n1_
     have BK213 := n2_
     have HB := n3_
     clear n0_ n1_ n2_ n3_
     refine start_ (n := 11) (S := fun w' => w'.cell? ⟨gb211, 0, none⟩ = some (.int .i64 a0_0) ∧ w'.cell? ⟨gb211, 1, none⟩ = some (.int .i64 a0_1) ∧ w'.cell? ⟨gb211, 2, none⟩ = some (.int .i64 a0_2) ∧ w'.cell? ⟨gb211, 3, none⟩ = some (.int .i64 a0_3) ∧ w'.cell? ⟨gb212, 0, none⟩ = some (.int .i64 a1_0) ∧ w'.cell? ⟨gb212, 1, none⟩ = some (.int .i64 a1_1) ∧ w'.cell? ⟨gb212, 2, none⟩ = some (.int .i64 a1_2) ∧ w'.cell? ⟨gb212, 3, none⟩ = some (.int .i64 a1_3)) (ds := []) #[F, F, F, F, F, F, F, F, F, F, F] (by kernel_rfl) rfl rfl ⟨bc BK211 0, bc BK211 1, bc BK211 2, bc BK211 3, bc BK212 0, bc BK212 1, bc BK212 2, bc BK212 3⟩ (fun hHeld => ?_); refine with_tabW spec_ValMeet.tab3 spec_ValMeet.bits3 (fun HT_ HW_ => ?_)
     generalize wc.drew = w61 at BK211 BK212 BK213 HB hHeld ⊢
     refine take_ (i := 0) (N := some 27) (v := ?_) (a' := ?_) #[T, F, F, F, F, F, F, F, F, F, F] rfl rfl (take_ofW HT_.out HW_.out (by kernel_rfl)) (fun _ _ _ h => h) (Or.inl ⟨by rfl, ?_⟩) hHeld ?_ ?_
     rotate_left
     ·rintro w' ⟨s0, s1, s2, s3, s4, s5, s6, s7⟩
      go_simp
      with_reducible rfl
     rotate_left
     ·exact pz
     refine take_ (i := 2) (N := some 29) (v := ?_) (a' := ?_) #[T, F, T, F, F, F, F, F, F, F, F] rfl rfl (take_ofW HT_.out HW_.out (by kernel_rfl)) (fun _ _ _ h => h) (Or.inl ⟨by rfl, ?_⟩) hHeld ?_ ?_
     rotate_left
     ·rintro w' ⟨s0, s1, s2, s3, s4, s5, s6, s7⟩
      go_simp
      with_reducible rfl
     rotate_left
     ·exact pz
     refine join_ (σ := Nat) 2 #[T, T, T, T, T, T, T, T, T, F, F] (fun s_ => [(28, .agg #[.int .i64 t228, .int .i64 t229]), (30, .agg #[.int .i64 t230, .int .i64 t231]), (31, .tuple #[.agg #[.int .i64 t232, .int .i64 t233], .bool false]), (5, .pointer (some ⟨s_, 0, none⟩)), (26, .tuple #[.agg #[.int .i64 t232, .int .i64 t233], .bool false]), (32, .agg #[.int .i64 t232, .int .i64 t233]), (33, .bool false)]) (fun s_ w' => (w'.cell? ⟨gb211, 0, none⟩ = some (.int .i64 a0_0) ∧ w'.cell? ⟨gb211, 1, none⟩ = some (.int .i64 a0_1) ∧ w'.cell? ⟨gb211, 2, none⟩ = some (.int .i64 a0_2) ∧ w'.cell? ⟨gb211, 3, none⟩ = some (.int .i64 a0_3) ∧ w'.cell? ⟨gb212, 0, none⟩ = some (.int .i64 a1_0) ∧ w'.cell? ⟨gb212, 1, none⟩ = some (.int .i64 a1_1) ∧ w'.cell? ⟨gb212, 2, none⟩ = some (.int .i64 a1_2) ∧ w'.cell? ⟨gb212, 3, none⟩ = some (.int .i64 a1_3)) ∧ (w'.heap[gb211]? = some (.cells #[.int .i64 a0_0, .int .i64 a0_1, .int .i64 a0_2, .int .i64 a0_3] 25 (0, 0))) ∧ (w'.heap[gb212]? = some (.cells #[.int .i64 a1_0, .int .i64 a1_1, .int .i64 a1_2, .int .i64 a1_3] 25 (0, 0))) ∧ (w'.heap[gb213]? = some (.cells #[.int .i64 0, .int .i64 0, .int .i64 0, .int .i64 0] 25 (0, 0))) ∧ (w'.heap[s_]? = some (.cells #[.int .i64 0, .int .i64 0] 90 (0, 0))) ∧ (w.heap.size ≤ s_) ∧ (w.heap.size ≤ s_) ∧ (gb211 ≠ s_) ∧ (s_ ≠ gb211) ∧ (gb212 ≠ s_) ∧ (s_ ≠ gb212) ∧ (gb213 ≠ s_) ∧ (s_ ≠ gb213) ∧ (Below w.heap.size w w')) ?_ ?_
     rotate_left
     ·intro hCont
      refine two_ (i := 1) (j := 8) (Ni := some 28) (Nj := some 5) #[T, T, T, F, F, F, F, F, F, F, F] #[T, F, T, F, F, F, F, F, T, F, F] rfl rfl rfl rfl (two_of HT_.out (by kernel_rfl)) (by decide) (by decide) (fun K hK => ?_) (fun K hK => ?_)
      ·skip
       refine goes_ Try.func62 (by kernel_rfl) rfl #[.agg #[.int .i64 a0_0, .int .i64 a0_1, .int .i64 a0_2, .int .i64 a0_3]] (by rfl) rfl rfl mz ?_
       with_reducible refine (spec_l10Rest.calls a0_0 a0_1 a0_2 a0_3 t228 t229 _ A34.out).mono ?_
       rintro e w62 ⟨rfl, hb⟩
       refine ⟨_, rfl, ?_⟩
       have n0_ := Aside0.mk (blk_below (g := gb211) (o := b4 a0_0 a0_1 a0_2 a0_3 25) (bz BK211.out) hb)
       have n1_ := Aside0.mk (blk_below (g := gb212) (o := b4 a1_0 a1_1 a1_2 a1_3 25) (bz BK212.out) hb)
       have n2_ := Aside0.mk (blk_below (g := gb213) (o := b4 0 0 0 0 25) (bz BK213.out) hb)
       have n3_ := Aside0.mk (below_step (hz3 HB.out GE211.out GE212.out GE213.out) hb)
       clear BK211
       clear BK212
       clear BK213
       clear HB
       have BK211 := n0_
       have BK212 := n1_
       have BK213 := n2_
       have HB := n3_
       clear n0_ n1_ n2_ n3_
       (try clear hb)
       (try clear hb2)
       (try clear hk)
       (try clear hi)
       refine hK.out _ _ ⟨bc BK211 0, bc BK211 1, bc BK211 2, bc BK211 3, bc BK212 0, bc BK212 1, bc BK212 2, bc BK212 3⟩ (fun hHeld => ?_)
       clear hK K
       refine norm_ (a' := ?_) ?_ ?_
       rotate_left
       ·show Act.put _ (some 28) _ = _
        simp only [Act.put, List.setIfInBounds_toArray, List.set_cons_zero, List.set_cons_succ, i64_w, i32_w]
        rfl
       refine two_ (i := 3) (j := 8) (Ni := some 30) (Nj := some 5) #[T, T, T, T, F, F, F, F, F, F, F] #[T, T, T, F, F, F, F, F, T, F, F] rfl rfl rfl rfl (two_of HT_.out (by kernel_rfl)) (by decide) (by decide) (fun K hK => ?_) (fun K hK => ?_)
       ·skip
        refine goes_ Try.func62 (by kernel_rfl) rfl #[.agg #[.int .i64 a1_0, .int .i64 a1_1, .int .i64 a1_2, .int .i64 a1_3]] (by rfl) rfl rfl mz ?_
        with_reducible refine (spec_l10Rest.calls a1_0 a1_1 a1_2 a1_3 t230 t231 _ A35.out).mono ?_
        rintro e w63 ⟨rfl, hb⟩
        refine ⟨_, rfl, ?_⟩
        have n0_ := Aside0.mk (blk_below (g := gb211) (o := b4 a0_0 a0_1 a0_2 a0_3 25) (bz BK211.out) hb)
        have n1_ := Aside0.mk (blk_below (g := gb212) (o := b4 a1_0 a1_1 a1_2 a1_3 25) (bz BK212.out) hb)
        have n2_ := Aside0.mk (blk_below (g := gb213) (o := b4 0 0 0 0 25) (bz BK213.out) hb)
        have n3_ := Aside0.mk (below_step (hz3 HB.out GE211.out GE212.out GE213.out) hb)
        clear BK211
        clear BK212
        clear BK213
        clear HB
        have BK211 := n0_
        have BK212 := n1_
        have BK213 := n2_
        have HB := n3_
        clear n0_ n1_ n2_ n3_
        (try clear hb)
        (try clear hb2)
        (try clear hk)
        (try clear hi)
        refine hK.out _ _ ⟨bc BK211 0, bc BK211 1, bc BK211 2, bc BK211 3, bc BK212 0, bc BK212 1, bc BK212 2, bc BK212 3⟩ (fun hHeld => ?_)
        clear hK K
        refine norm_ (a' := ?_) ?_ ?_
        rotate_left
        ·show Act.put _ (some 30) _ = _
         simp only [Act.put, List.setIfInBounds_toArray, List.set_cons_zero, List.set_cons_succ, i64_w, i32_w]
         rfl
        refine two_ (i := 4) (j := 8) (Ni := some 31) (Nj := some 5) #[T, T, T, T, T, F, F, F, F, F, F] #[T, T, T, T, F, F, F, F, T, F, F] rfl rfl rfl rfl (two_of HT_.out (by kernel_rfl)) (by decide) (by decide) (fun K hK => ?_) (fun K hK => ?_)
        ·skip
         refine goes_ Try.func80 (by kernel_rfl) rfl #[.agg #[.int .i64 t228, .int .i64 t229], .agg #[.int .i64 t230, .int .i64 t231]] (by rfl) rfl rfl mz ?_
         with_reducible refine (spec_RestMeet.calls kj2 t228 t229 t230 t231 t232 t233 false _ A36.out).mono ?_
         rintro e w64 ⟨rfl, hb⟩
         refine ⟨_, rfl, ?_⟩
         have n0_ := Aside0.mk (blk_below (g := gb211) (o := b4 a0_0 a0_1 a0_2 a0_3 25) (bz BK211.out) hb)
         have n1_ := Aside0.mk (blk_below (g := gb212) (o := b4 a1_0 a1_1 a1_2 a1_3 25) (bz BK212.out) hb)
         have n2_ := Aside0.mk (blk_below (g := gb213) (o := b4 0 0 0 0 25) (bz BK213.out) hb)
         have n3_ := Aside0.mk (below_step (hz3 HB.out GE211.out GE212.out GE213.out) hb)
         clear BK211
         clear BK212
         clear BK213
         clear HB
         have BK211 := n0_
         have BK212 := n1_
         have BK213 := n2_
         have HB := n3_
         clear n0_ n1_ n2_ n3_
         (try clear hb)
         (try clear hb2)
         (try clear hk)
         (try clear hi)
         refine hK.out _ _ ⟨bc BK211 0, bc BK211 1, bc BK211 2, bc BK211 3, bc BK212 0, bc BK212 1, bc BK212 2, bc BK212 3⟩ (fun hHeld => ?_)
         clear hK K
         refine norm_ (a' := ?_) ?_ ?_
         rotate_left
         ·show Act.put _ (some 31) _ = _
          simp only [Act.put, List.setIfInBounds_toArray, List.set_cons_zero, List.set_cons_succ, i64_w, i32_w]
          rfl
         refine pure_ (i := 5) (N := some 26) (v := ?_) (a' := ?_) #[T, T, T, T, T, T, F, F, F, F, F] rfl rfl (any_of HT_.out (by kernel_rfl)) (fun _ _ _ h => h) (Or.inl ⟨by rfl, ?_⟩) ?_ ?_
         rotate_left
         ·exact gz
         rotate_left
         ·exact pz
         refine pure_ (i := 6) (N := some 32) (v := ?_) (a' := ?_) #[T, T, T, T, T, T, T, F, F, F, F] rfl rfl (any_of HT_.out (by kernel_rfl)) (fun _ _ _ h => h) (Or.inl ⟨by rfl, ?_⟩) ?_ ?_
         rotate_left
         ·exact gz
         rotate_left
         ·exact pz
         refine pure_ (i := 7) (N := some 33) (v := ?_) (a' := ?_) #[T, T, T, T, T, T, T, T, F, F, F] rfl rfl (any_of HT_.out (by kernel_rfl)) (fun _ _ _ h => h) (Or.inl ⟨by rfl, ?_⟩) ?_ ?_
         rotate_left
         ·exact gz
         rotate_left
         ·exact pz
         refine one_ (i := 8) (N := some 5) #[T, T, T, T, T, T, T, T, T, F, F] rfl rfl (one_of HT_.out (by kernel_rfl)) (by decide) (fun K hK => ?_)
         refine box_step ?hg (N := 5) ?hd (cs := #[.int .i64 0, .int .i64 0]) (t := 90) ?hr ?_; (case hd => rfl); (case hg => rfl); (case hr => first | (go_simp; done) | (go_simp; rfl))
         intro gb235 hg w65 hbox hb
         have n0_ := Aside0.mk (blk_below (g := gb211) (o := b4 a0_0 a0_1 a0_2 a0_3 25) (bz BK211.out) hb)
         have n1_ := Aside0.mk (blk_below (g := gb212) (o := b4 a1_0 a1_1 a1_2 a1_3 25) (bz BK212.out) hb)
         have n2_ := Aside0.mk (blk_below (g := gb213) (o := b4 0 0 0 0 25) (bz BK213.out) hb)
         have n3_ := Aside0.mk (below_step (hz3 HB.out GE211.out GE212.out GE213.out) hb)
         have n4_ := Aside0.mk (hbox)
         have n5_ := Aside0.mk ((by rw [hg]; exact (below_size (hz3 HB.out GE211.out GE212.out GE213.out)) : w.heap.size ≤ gb235))
         have n6_ := Aside0.mk ((by rw [hg]; exact (below_size (hz3 HB.out GE211.out GE212.out GE213.out)) : w.heap.size ≤ gb235))
         have n7_ := Aside0.mk ((by rw [hg]; exact Nat.ne_of_lt (blk_lt (g := gb211) (o := b4 a0_0 a0_1 a0_2 a0_3 25) (bz BK211.out)) : gb211 ≠ gb235))
         have n8_ := Aside0.mk ((by rw [hg]; exact Nat.ne_of_gt (blk_lt (g := gb211) (o := b4 a0_0 a0_1 a0_2 a0_3 25) (bz BK211.out)) : gb235 ≠ gb211))
         have n9_ := Aside0.mk ((by rw [hg]; exact Nat.ne_of_lt (blk_lt (g := gb212) (o := b4 a1_0 a1_1 a1_2 a1_3 25) (bz BK212.out)) : gb212 ≠ gb235))
         have n10_ := Aside0.mk ((by rw [hg]; exact Nat.ne_of_gt (blk_lt (g := gb212) (o := b4 a1_0 a1_1 a1_2 a1_3 25) (bz BK212.out)) : gb235 ≠ gb212))
         have n11_ := Aside0.mk ((by rw [hg]; exact Nat.ne_of_lt (blk_lt (g := gb213) (o := b4 0 0 0 0 25) (bz BK213.out)) : gb213 ≠ gb235))
         have n12_ := Aside0.mk ((by rw [hg]; exact Nat.ne_of_gt (blk_lt (g := gb213) (o := b4 0 0 0 0 25) (bz BK213.out)) : gb235 ≠ gb213))
         clear BK211
         clear BK212
         clear BK213
         clear HB
         have BK211 := n0_
         have BK212 := n1_
         have BK213 := n2_
         have HB := n3_
         have BK235 := n4_
         have GW235 := n5_
         have GE235 := n6_
         have NB211_235 := n7_
         have NB235_211 := n8_
         have NB212_235 := n9_
         have NB235_212 := n10_
         have NB213_235 := n11_
         have NB235_213 := n12_
         clear n0_ n1_ n2_ n3_ n4_ n5_ n6_ n7_ n8_ n9_ n10_ n11_ n12_
         clear hb hbox hg
         refine hK.out _ _ ⟨bc BK211 0, bc BK211 1, bc BK211 2, bc BK211 3, bc BK212 0, bc BK212 1, bc BK212 2, bc BK212 3⟩ (fun hHeld => ?_)
         clear hK K
         refine norm_ (a' := ?_) ?_ ?_
         rotate_left
         ·show Act.put _ (some 5) _ = _
          simp only [Act.put, List.setIfInBounds_toArray, List.set_cons_zero, List.set_cons_succ, i64_w, i32_w]
          rfl
         exact norm_ (by simp only [putAll, Act.put, List.setIfInBounds_toArray, List.set_cons_zero, List.set_cons_succ]) (hCont (gb235) _ ⟨hHeld, (bz BK211.out), (bz BK212.out), (bz BK213.out), (bz BK235.out), GW235.out, GE235.out, NB211_235.out, NB235_211.out, NB212_235.out, NB235_212.out, NB213_235.out, NB235_213.out, (hz4 HB.out GE211.out GE212.out GE213.out GE235.out)⟩)
        ·skip
         refine box_step ?hg (N := 5) ?hd (cs := #[.int .i64 0, .int .i64 0]) (t := 90) ?hr ?_; (case hd => rfl); (case hg => rfl); (case hr => first | (go_simp; done) | (go_simp; rfl))
         intro gb235 hg w64 hbox hb
         have n0_ := Aside0.mk (blk_below (g := gb211) (o := b4 a0_0 a0_1 a0_2 a0_3 25) (bz BK211.out) hb)
         have n1_ := Aside0.mk (blk_below (g := gb212) (o := b4 a1_0 a1_1 a1_2 a1_3 25) (bz BK212.out) hb)
         have n2_ := Aside0.mk (blk_below (g := gb213) (o := b4 0 0 0 0 25) (bz BK213.out) hb)
         have n3_ := Aside0.mk (below_step (hz3 HB.out GE211.out GE212.out GE213.out) hb)
         have n4_ := Aside0.mk (hbox)
         have n5_ := Aside0.mk ((by rw [hg]; exact (below_size (hz3 HB.out GE211.out GE212.out GE213.out)) : w.heap.size ≤ gb235))
         have n6_ := Aside0.mk ((by rw [hg]; exact (below_size (hz3 HB.out GE211.out GE212.out GE213.out)) : w.heap.size ≤ gb235))
         have n7_ := Aside0.mk ((by rw [hg]; exact Nat.ne_of_lt (blk_lt (g := gb211) (o := b4 a0_0 a0_1 a0_2 a0_3 25) (bz BK211.out)) : gb211 ≠ gb235))
         have n8_ := Aside0.mk ((by rw [hg]; exact Nat.ne_of_gt (blk_lt (g := gb211) (o := b4 a0_0 a0_1 a0_2 a0_3 25) (bz BK211.out)) : gb235 ≠ gb211))
         have n9_ := Aside0.mk ((by rw [hg]; exact Nat.ne_of_lt (blk_lt (g := gb212) (o := b4 a1_0 a1_1 a1_2 a1_3 25) (bz BK212.out)) : gb212 ≠ gb235))
         have n10_ := Aside0.mk ((by rw [hg]; exact Nat.ne_of_gt (blk_lt (g := gb212) (o := b4 a1_0 a1_1 a1_2 a1_3 25) (bz BK212.out)) : gb235 ≠ gb212))
         have n11_ := Aside0.mk ((by rw [hg]; exact Nat.ne_of_lt (blk_lt (g := gb213) (o := b4 0 0 0 0 25) (bz BK213.out)) : gb213 ≠ gb235))
         have n12_ := Aside0.mk ((by rw [hg]; exact Nat.ne_of_gt (blk_lt (g := gb213) (o := b4 0 0 0 0 25) (bz BK213.out)) : gb235 ≠ gb213))
         clear BK211
         clear BK212
         clear BK213
         clear HB
         have BK211 := n0_
         have BK212 := n1_
         have BK213 := n2_
         have HB := n3_
         have BK235 := n4_
         have GW235 := n5_
         have GE235 := n6_
         have NB211_235 := n7_
         have NB235_211 := n8_
         have NB212_235 := n9_
         have NB235_212 := n10_
         have NB213_235 := n11_
         have NB235_213 := n12_
         clear n0_ n1_ n2_ n3_ n4_ n5_ n6_ n7_ n8_ n9_ n10_ n11_ n12_
         clear hb hbox hg
         refine hK.out _ _ ⟨bc BK211 0, bc BK211 1, bc BK211 2, bc BK211 3, bc BK212 0, bc BK212 1, bc BK212 2, bc BK212 3⟩ (fun hHeld => ?_)
         clear hK K
         refine norm_ (a' := ?_) ?_ ?_
         rotate_left
         ·show Act.put _ (some 5) _ = _
          simp only [Act.put, List.setIfInBounds_toArray, List.set_cons_zero, List.set_cons_succ, i64_w, i32_w]
          rfl
         refine one_ (i := 4) (N := some 31) #[T, T, T, T, T, F, F, F, T, F, F] rfl rfl (one_of HT_.out (by kernel_rfl)) (by decide) (fun K hK => ?_)
         refine goes_ Try.func80 (by kernel_rfl) rfl #[.agg #[.int .i64 t228, .int .i64 t229], .agg #[.int .i64 t230, .int .i64 t231]] (by rfl) rfl rfl mz ?_
         with_reducible refine (spec_RestMeet.calls kj2 t228 t229 t230 t231 t232 t233 false _ A36.out).mono ?_
         rintro e w65 ⟨rfl, hb⟩
         refine ⟨_, rfl, ?_⟩
         have n0_ := Aside0.mk (blk_below (g := gb211) (o := b4 a0_0 a0_1 a0_2 a0_3 25) (bz BK211.out) hb)
         have n1_ := Aside0.mk (blk_below (g := gb212) (o := b4 a1_0 a1_1 a1_2 a1_3 25) (bz BK212.out) hb)
         have n2_ := Aside0.mk (blk_below (g := gb213) (o := b4 0 0 0 0 25) (bz BK213.out) hb)
         have n3_ := Aside0.mk (blk_below (g := gb235) (o := b2 0 0 90) (bz BK235.out) hb)
         have n4_ := Aside0.mk (below_step (hz4 HB.out GE211.out GE212.out GE213.out GE235.out) hb)
         clear BK211
         clear BK212
         clear BK213
         clear BK235
         clear HB
         have BK211 := n0_
         have BK212 := n1_
         have BK213 := n2_
         have BK235 := n3_
         have HB := n4_
         clear n0_ n1_ n2_ n3_ n4_
         (try clear hb)
         (try clear hb2)
         (try clear hk)
         (try clear hi)
         refine hK.out _ _ ⟨bc BK211 0, bc BK211 1, bc BK211 2, bc BK211 3, bc BK212 0, bc BK212 1, bc BK212 2, bc BK212 3⟩ (fun hHeld => ?_)
         clear hK K
         refine norm_ (a' := ?_) ?_ ?_
         rotate_left
         ·show Act.put _ (some 31) _ = _
          simp only [Act.put, List.setIfInBounds_toArray, List.set_cons_zero, List.set_cons_succ, i64_w, i32_w]
          rfl
         refine pure_ (i := 5) (N := some 26) (v := ?_) (a' := ?_) #[T, T, T, T, T, T, F, F, T, F, F] rfl rfl (any_of HT_.out (by kernel_rfl)) (fun _ _ _ h => h) (Or.inl ⟨by rfl, ?_⟩) ?_ ?_
         rotate_left
         ·exact gz
         rotate_left
         ·exact pz
         refine pure_ (i := 6) (N := some 32) (v := ?_) (a' := ?_) #[T, T, T, T, T, T, T, F, T, F, F] rfl rfl (any_of HT_.out (by kernel_rfl)) (fun _ _ _ h => h) (Or.inl ⟨by rfl, ?_⟩) ?_ ?_
         rotate_left
         ·exact gz
         rotate_left
         ·exact pz
         refine pure_ (i := 7) (N := some 33) (v := ?_) (a' := ?_) #[T, T, T, T, T, T, T, T, T, F, F] rfl rfl (any_of HT_.out (by kernel_rfl)) (fun _ _ _ h => h) (Or.inl ⟨by rfl, ?_⟩) ?_ ?_
         rotate_left
         ·exact gz
         rotate_left
         ·exact pz
         exact norm_ (by simp only [putAll, Act.put, List.setIfInBounds_toArray, List.set_cons_zero, List.set_cons_succ]) (hCont (gb235) _ ⟨hHeld, (bz BK211.out), (bz BK212.out), (bz BK213.out), (bz BK235.out), GW235.out, GE235.out, NB211_235.out, NB235_211.out, NB212_235.out, NB235_212.out, NB213_235.out, NB235_213.out, (hz4 HB.out GE211.out GE212.out GE213.out GE235.out)⟩)
       ·skip
        refine box_step ?hg (N := 5) ?hd (cs := #[.int .i64 0, .int .i64 0]) (t := 90) ?hr ?_; (case hd => rfl); (case hg => rfl); (case hr => first | (go_simp; done) | (go_simp; rfl))
        intro gb235 hg w63 hbox hb
        have n0_ := Aside0.mk (blk_below (g := gb211) (o := b4 a0_0 a0_1 a0_2 a0_3 25) (bz BK211.out) hb)
        have n1_ := Aside0.mk (blk_below (g := gb212) (o := b4 a1_0 a1_1 a1_2 a1_3 25) (bz BK212.out) hb)
        have n2_ := Aside0.mk (blk_below (g := gb213) (o := b4 0 0 0 0 25) (bz BK213.out) hb)
        have n3_ := Aside0.mk (below_step (hz3 HB.out GE211.out GE212.out GE213.out) hb)
        have n4_ := Aside0.mk (hbox)
        have n5_ := Aside0.mk ((by rw [hg]; exact (below_size (hz3 HB.out GE211.out GE212.out GE213.out)) : w.heap.size ≤ gb235))
        have n6_ := Aside0.mk ((by rw [hg]; exact (below_size (hz3 HB.out GE211.out GE212.out GE213.out)) : w.heap.size ≤ gb235))
        have n7_ := Aside0.mk ((by rw [hg]; exact Nat.ne_of_lt (blk_lt (g := gb211) (o := b4 a0_0 a0_1 a0_2 a0_3 25) (bz BK211.out)) : gb211 ≠ gb235))
        have n8_ := Aside0.mk ((by rw [hg]; exact Nat.ne_of_gt (blk_lt (g := gb211) (o := b4 a0_0 a0_1 a0_2 a0_3 25) (bz BK211.out)) : gb235 ≠ gb211))
        have n9_ := Aside0.mk ((by rw [hg]; exact Nat.ne_of_lt (blk_lt (g := gb212) (o := b4 a1_0 a1_1 a1_2 a1_3 25) (bz BK212.out)) : gb212 ≠ gb235))
        have n10_ := Aside0.mk ((by rw [hg]; exact Nat.ne_of_gt (blk_lt (g := gb212) (o := b4 a1_0 a1_1 a1_2 a1_3 25) (bz BK212.out)) : gb235 ≠ gb212))
        have n11_ := Aside0.mk ((by rw [hg]; exact Nat.ne_of_lt (blk_lt (g := gb213) (o := b4 0 0 0 0 25) (bz BK213.out)) : gb213 ≠ gb235))
        have n12_ := Aside0.mk ((by rw [hg]; exact Nat.ne_of_gt (blk_lt (g := gb213) (o := b4 0 0 0 0 25) (bz BK213.out)) : gb235 ≠ gb213))
        clear BK211
        clear BK212
        clear BK213
        clear HB
        have BK211 := n0_
        have BK212 := n1_
        have BK213 := n2_
        have HB := n3_
        have BK235 := n4_
        have GW235 := n5_
        have GE235 := n6_
        have NB211_235 := n7_
        have NB235_211 := n8_
        have NB212_235 := n9_
        have NB235_212 := n10_
        have NB213_235 := n11_
        have NB235_213 := n12_
        clear n0_ n1_ n2_ n3_ n4_ n5_ n6_ n7_ n8_ n9_ n10_ n11_ n12_
        clear hb hbox hg
        refine hK.out _ _ ⟨bc BK211 0, bc BK211 1, bc BK211 2, bc BK211 3, bc BK212 0, bc BK212 1, bc BK212 2, bc BK212 3⟩ (fun hHeld => ?_)
        clear hK K
        refine norm_ (a' := ?_) ?_ ?_
        rotate_left
        ·show Act.put _ (some 5) _ = _
         simp only [Act.put, List.setIfInBounds_toArray, List.set_cons_zero, List.set_cons_succ, i64_w, i32_w]
         rfl
        refine one_ (i := 3) (N := some 30) #[T, T, T, T, F, F, F, F, T, F, F] rfl rfl (one_of HT_.out (by kernel_rfl)) (by decide) (fun K hK => ?_)
        refine goes_ Try.func62 (by kernel_rfl) rfl #[.agg #[.int .i64 a1_0, .int .i64 a1_1, .int .i64 a1_2, .int .i64 a1_3]] (by rfl) rfl rfl mz ?_
        with_reducible refine (spec_l10Rest.calls a1_0 a1_1 a1_2 a1_3 t230 t231 _ A35.out).mono ?_
        rintro e w64 ⟨rfl, hb⟩
        refine ⟨_, rfl, ?_⟩
        have n0_ := Aside0.mk (blk_below (g := gb211) (o := b4 a0_0 a0_1 a0_2 a0_3 25) (bz BK211.out) hb)
        have n1_ := Aside0.mk (blk_below (g := gb212) (o := b4 a1_0 a1_1 a1_2 a1_3 25) (bz BK212.out) hb)
        have n2_ := Aside0.mk (blk_below (g := gb213) (o := b4 0 0 0 0 25) (bz BK213.out) hb)
        have n3_ := Aside0.mk (blk_below (g := gb235) (o := b2 0 0 90) (bz BK235.out) hb)
        have n4_ := Aside0.mk (below_step (hz4 HB.out GE211.out GE212.out GE213.out GE235.out) hb)
        clear BK211
        clear BK212
        clear BK213
        clear BK235
        clear HB
        have BK211 := n0_
        have BK212 := n1_
        have BK213 := n2_
        have BK235 := n3_
        have HB := n4_
        clear n0_ n1_ n2_ n3_ n4_
        (try clear hb)
        (try clear hb2)
        (try clear hk)
        (try clear hi)
        refine hK.out _ _ ⟨bc BK211 0, bc BK211 1, bc BK211 2, bc BK211 3, bc BK212 0, bc BK212 1, bc BK212 2, bc BK212 3⟩ (fun hHeld => ?_)
        clear hK K
        refine norm_ (a' := ?_) ?_ ?_
        rotate_left
        ·show Act.put _ (some 30) _ = _
         simp only [Act.put, List.setIfInBounds_toArray, List.set_cons_zero, List.set_cons_succ, i64_w, i32_w]
         rfl
        refine one_ (i := 4) (N := some 31) #[T, T, T, T, T, F, F, F, T, F, F] rfl rfl (one_of HT_.out (by kernel_rfl)) (by decide) (fun K hK => ?_)
        refine goes_ Try.func80 (by kernel_rfl) rfl #[.agg #[.int .i64 t228, .int .i64 t229], .agg #[.int .i64 t230, .int .i64 t231]] (by rfl) rfl rfl mz ?_
        with_reducible refine (spec_RestMeet.calls kj2 t228 t229 t230 t231 t232 t233 false _ A36.out).mono ?_
        rintro e w65 ⟨rfl, hb⟩
        refine ⟨_, rfl, ?_⟩
        have n0_ := Aside0.mk (blk_below (g := gb211) (o := b4 a0_0 a0_1 a0_2 a0_3 25) (bz BK211.out) hb)
        have n1_ := Aside0.mk (blk_below (g := gb212) (o := b4 a1_0 a1_1 a1_2 a1_3 25) (bz BK212.out) hb)
        have n2_ := Aside0.mk (blk_below (g := gb213) (o := b4 0 0 0 0 25) (bz BK213.out) hb)
        have n3_ := Aside0.mk (blk_below (g := gb235) (o := b2 0 0 90) (bz BK235.out) hb)
        have n4_ := Aside0.mk (below_step (hz4 HB.out GE211.out GE212.out GE213.out GE235.out) hb)
        clear BK211
        clear BK212
        clear BK213
        clear BK235
        clear HB
        have BK211 := n0_
        have BK212 := n1_
        have BK213 := n2_
        have BK235 := n3_
        have HB := n4_
        clear n0_ n1_ n2_ n3_ n4_
        (try clear hb)
        (try clear hb2)
        (try clear hk)
        (try clear hi)
        refine hK.out _ _ ⟨bc BK211 0, bc BK211 1, bc BK211 2, bc BK211 3, bc BK212 0, bc BK212 1, bc BK212 2, bc BK212 3⟩ (fun hHeld => ?_)
        clear hK K
        refine norm_ (a' := ?_) ?_ ?_
        rotate_left
        ·show Act.put _ (some 31) _ = _
         simp only [Act.put, List.setIfInBounds_toArray, List.set_cons_zero, List.set_cons_succ, i64_w, i32_w]
         rfl
        refine pure_ (i := 5) (N := some 26) (v := ?_) (a' := ?_) #[T, T, T, T, T, T, F, F, T, F, F] rfl rfl (any_of HT_.out (by kernel_rfl)) (fun _ _ _ h => h) (Or.inl ⟨by rfl, ?_⟩) ?_ ?_
        rotate_left
        ·exact gz
        rotate_left
        ·exact pz
        refine pure_ (i := 6) (N := some 32) (v := ?_) (a' := ?_) #[T, T, T, T, T, T, T, F, T, F, F] rfl rfl (any_of HT_.out (by kernel_rfl)) (fun _ _ _ h => h) (Or.inl ⟨by rfl, ?_⟩) ?_ ?_
        rotate_left
        ·exact gz
        rotate_left
        ·exact pz
        refine pure_ (i := 7) (N := some 33) (v := ?_) (a' := ?_) #[T, T, T, T, T, T, T, T, T, F, F] rfl rfl (any_of HT_.out (by kernel_rfl)) (fun _ _ _ h => h) (Or.inl ⟨by rfl, ?_⟩) ?_ ?_
        rotate_left
        ·exact gz
        rotate_left
        ·exact pz
        exact norm_ (by simp only [putAll, Act.put, List.setIfInBounds_toArray, List.set_cons_zero, List.set_cons_succ]) (hCont (gb235) _ ⟨hHeld, (bz BK211.out), (bz BK212.out), (bz BK213.out), (bz BK235.out), GW235.out, GE235.out, NB211_235.out, NB235_211.out, NB212_235.out, NB235_212.out, NB213_235.out, NB235_213.out, (hz4 HB.out GE211.out GE212.out GE213.out GE235.out)⟩)
      ·skip
       refine box_step ?hg (N := 5) ?hd (cs := #[.int .i64 0, .int .i64 0]) (t := 90) ?hr ?_; (case hd => rfl); (case hg => rfl); (case hr => first | (go_simp; done) | (go_simp; rfl))
       intro gb235 hg w62 hbox hb
       have n0_ := Aside0.mk (blk_below (g := gb211) (o := b4 a0_0 a0_1 a0_2 a0_3 25) (bz BK211.out) hb)
       have n1_ := Aside0.mk (blk_below (g := gb212) (o := b4 a1_0 a1_1 a1_2 a1_3 25) (bz BK212.out) hb)
       have n2_ := Aside0.mk (blk_below (g := gb213) (o := b4 0 0 0 0 25) (bz BK213.out) hb)
       have n3_ := Aside0.mk (below_step (hz3 HB.out GE211.out GE212.out GE213.out) hb)
       have n4_ := Aside0.mk (hbox)
       have n5_ := Aside0.mk ((by rw [hg]; exact (below_size (hz3 HB.out GE211.out GE212.out GE213.out)) : w.heap.size ≤ gb235))
       have n6_ := Aside0.mk ((by rw [hg]; exact (below_size (hz3 HB.out GE211.out GE212.out GE213.out)) : w.heap.size ≤ gb235))
       have n7_ := Aside0.mk ((by rw [hg]; exact Nat.ne_of_lt (blk_lt (g := gb211) (o := b4 a0_0 a0_1 a0_2 a0_3 25) (bz BK211.out)) : gb211 ≠ gb235))
       have n8_ := Aside0.mk ((by rw [hg]; exact Nat.ne_of_gt (blk_lt (g := gb211) (o := b4 a0_0 a0_1 a0_2 a0_3 25) (bz BK211.out)) : gb235 ≠ gb211))
       have n9_ := Aside0.mk ((by rw [hg]; exact Nat.ne_of_lt (blk_lt (g := gb212) (o := b4 a1_0 a1_1 a1_2 a1_3 25) (bz BK212.out)) : gb212 ≠ gb235))
       have n10_ := Aside0.mk ((by rw [hg]; exact Nat.ne_of_gt (blk_lt (g := gb212) (o := b4 a1_0 a1_1 a1_2 a1_3 25) (bz BK212.out)) : gb235 ≠ gb212))
       have n11_ := Aside0.mk ((by rw [hg]; exact Nat.ne_of_lt (blk_lt (g := gb213) (o := b4 0 0 0 0 25) (bz BK213.out)) : gb213 ≠ gb235))
       have n12_ := Aside0.mk ((by rw [hg]; exact Nat.ne_of_gt (blk_lt (g := gb213) (o := b4 0 0 0 0 25) (bz BK213.out)) : gb235 ≠ gb213))
       clear BK211
       clear BK212
       clear BK213
       clear HB
       have BK211 := n0_
       have BK212 := n1_
       have BK213 := n2_
       have HB := n3_
       have BK235 := n4_
       have GW235 := n5_
       have GE235 := n6_
       have NB211_235 := n7_
       have NB235_211 := n8_
       have NB212_235 := n9_
       have NB235_212 := n10_
       have NB213_235 := n11_
       have NB235_213 := n12_
       clear n0_ n1_ n2_ n3_ n4_ n5_ n6_ n7_ n8_ n9_ n10_ n11_ n12_
       clear hb hbox hg
       refine hK.out _ _ ⟨bc BK211 0, bc BK211 1, bc BK211 2, bc BK211 3, bc BK212 0, bc BK212 1, bc BK212 2, bc BK212 3⟩ (fun hHeld => ?_)
       clear hK K
       refine norm_ (a' := ?_) ?_ ?_
       rotate_left
       ·show Act.put _ (some 5) _ = _
        simp only [Act.put, List.setIfInBounds_toArray, List.set_cons_zero, List.set_cons_succ, i64_w, i32_w]
        rfl
       refine one_ (i := 1) (N := some 28) #[T, T, T, F, F, F, F, F, T, F, F] rfl rfl (one_of HT_.out (by kernel_rfl)) (by decide) (fun K hK => ?_)
       refine goes_ Try.func62 (by kernel_rfl) rfl #[.agg #[.int .i64 a0_0, .int .i64 a0_1, .int .i64 a0_2, .int .i64 a0_3]] (by rfl) rfl rfl mz ?_
       with_reducible refine (spec_l10Rest.calls a0_0 a0_1 a0_2 a0_3 t228 t229 _ A34.out).mono ?_
       rintro e w63 ⟨rfl, hb⟩
       refine ⟨_, rfl, ?_⟩
       have n0_ := Aside0.mk (blk_below (g := gb211) (o := b4 a0_0 a0_1 a0_2 a0_3 25) (bz BK211.out) hb)
       have n1_ := Aside0.mk (blk_below (g := gb212) (o := b4 a1_0 a1_1 a1_2 a1_3 25) (bz BK212.out) hb)
       have n2_ := Aside0.mk (blk_below (g := gb213) (o := b4 0 0 0 0 25) (bz BK213.out) hb)
       have n3_ := Aside0.mk (blk_below (g := gb235) (o := b2 0 0 90) (bz BK235.out) hb)
       have n4_ := Aside0.mk (below_step (hz4 HB.out GE211.out GE212.out GE213.out GE235.out) hb)
       clear BK211
       clear BK212
       clear BK213
       clear BK235
       clear HB
       have BK211 := n0_
       have BK212 := n1_
       have BK213 := n2_
       have BK235 := n3_
       have HB := n4_
       clear n0_ n1_ n2_ n3_ n4_
       (try clear hb)
       (try clear hb2)
       (try clear hk)
       (try clear hi)
       refine hK.out _ _ ⟨bc BK211 0, bc BK211 1, bc BK211 2, bc BK211 3, bc BK212 0, bc BK212 1, bc BK212 2, bc BK212 3⟩ (fun hHeld => ?_)
       clear hK K
       refine norm_ (a' := ?_) ?_ ?_
       rotate_left
       ·show Act.put _ (some 28) _ = _
        simp only [Act.put, List.setIfInBounds_toArray, List.set_cons_zero, List.set_cons_succ, i64_w, i32_w]
        rfl
       refine one_ (i := 3) (N := some 30) #[T, T, T, T, F, F, F, F, T, F, F] rfl rfl (one_of HT_.out (by kernel_rfl)) (by decide) (fun K hK => ?_)
       refine goes_ Try.func62 (by kernel_rfl) rfl #[.agg #[.int .i64 a1_0, .int .i64 a1_1, .int .i64 a1_2, .int .i64 a1_3]] (by rfl) rfl rfl mz ?_
       with_reducible refine (spec_l10Rest.calls a1_0 a1_1 a1_2 a1_3 t230 t231 _ A35.out).mono ?_
       rintro e w64 ⟨rfl, hb⟩
       refine ⟨_, rfl, ?_⟩
       have n0_ := Aside0.mk (blk_below (g := gb211) (o := b4 a0_0 a0_1 a0_2 a0_3 25) (bz BK211.out) hb)
       have n1_ := Aside0.mk (blk_below (g := gb212) (o := b4 a1_0 a1_1 a1_2 a1_3 25) (bz BK212.out) hb)
       have n2_ := Aside0.mk (blk_below (g := gb213) (o := b4 0 0 0 0 25) (bz BK213.out) hb)
       have n3_ := Aside0.mk (blk_below (g := gb235) (o := b2 0 0 90) (bz BK235.out) hb)
       have n4_ := Aside0.mk (below_step (hz4 HB.out GE211.out GE212.out GE213.out GE235.out) hb)
       clear BK211
       clear BK212
       clear BK213
       clear BK235
       clear HB
       have BK211 := n0_
       have BK212 := n1_
       have BK213 := n2_
       have BK235 := n3_
       have HB := n4_
       clear n0_ n1_ n2_ n3_ n4_
       (try clear hb)
       (try clear hb2)
       (try clear hk)
       (try clear hi)
       refine hK.out _ _ ⟨bc BK211 0, bc BK211 1, bc BK211 2, bc BK211 3, bc BK212 0, bc BK212 1, bc BK212 2, bc BK212 3⟩ (fun hHeld => ?_)
       clear hK K
       refine norm_ (a' := ?_) ?_ ?_
       rotate_left
       ·show Act.put _ (some 30) _ = _
        simp only [Act.put, List.setIfInBounds_toArray, List.set_cons_zero, List.set_cons_succ, i64_w, i32_w]
        rfl
       refine one_ (i := 4) (N := some 31) #[T, T, T, T, T, F, F, F, T, F, F] rfl rfl (one_of HT_.out (by kernel_rfl)) (by decide) (fun K hK => ?_)
       refine goes_ Try.func80 (by kernel_rfl) rfl #[.agg #[.int .i64 t228, .int .i64 t229], .agg #[.int .i64 t230, .int .i64 t231]] (by rfl) rfl rfl mz ?_
       with_reducible refine (spec_RestMeet.calls kj2 t228 t229 t230 t231 t232 t233 false _ A36.out).mono ?_
       rintro e w65 ⟨rfl, hb⟩
       refine ⟨_, rfl, ?_⟩
       have n0_ := Aside0.mk (blk_below (g := gb211) (o := b4 a0_0 a0_1 a0_2 a0_3 25) (bz BK211.out) hb)
       have n1_ := Aside0.mk (blk_below (g := gb212) (o := b4 a1_0 a1_1 a1_2 a1_3 25) (bz BK212.out) hb)
       have n2_ := Aside0.mk (blk_below (g := gb213) (o := b4 0 0 0 0 25) (bz BK213.out) hb)
       have n3_ := Aside0.mk (blk_below (g := gb235) (o := b2 0 0 90) (bz BK235.out) hb)
       have n4_ := Aside0.mk (below_step (hz4 HB.out GE211.out GE212.out GE213.out GE235.out) hb)
       clear BK211
       clear BK212
       clear BK213
       clear BK235
       clear HB
       have BK211 := n0_
       have BK212 := n1_
       have BK213 := n2_
       have BK235 := n3_
       have HB := n4_
       clear n0_ n1_ n2_ n3_ n4_
       (try clear hb)
       (try clear hb2)
       (try clear hk)
       (try clear hi)
       refine hK.out _ _ ⟨bc BK211 0, bc BK211 1, bc BK211 2, bc BK211 3, bc BK212 0, bc BK212 1, bc BK212 2, bc BK212 3⟩ (fun hHeld => ?_)
       clear hK K
       refine norm_ (a' := ?_) ?_ ?_
       rotate_left
       ·show Act.put _ (some 31) _ = _
        simp only [Act.put, List.setIfInBounds_toArray, List.set_cons_zero, List.set_cons_succ, i64_w, i32_w]
        rfl
       refine pure_ (i := 5) (N := some 26) (v := ?_) (a' := ?_) #[T, T, T, T, T, T, F, F, T, F, F] rfl rfl (any_of HT_.out (by kernel_rfl)) (fun _ _ _ h => h) (Or.inl ⟨by rfl, ?_⟩) ?_ ?_
       rotate_left
       ·exact gz
       rotate_left
       ·exact pz
       refine pure_ (i := 6) (N := some 32) (v := ?_) (a' := ?_) #[T, T, T, T, T, T, T, F, T, F, F] rfl rfl (any_of HT_.out (by kernel_rfl)) (fun _ _ _ h => h) (Or.inl ⟨by rfl, ?_⟩) ?_ ?_
       rotate_left
       ·exact gz
       rotate_left
       ·exact pz
       refine pure_ (i := 7) (N := some 33) (v := ?_) (a' := ?_) #[T, T, T, T, T, T, T, T, T, F, F] rfl rfl (any_of HT_.out (by kernel_rfl)) (fun _ _ _ h => h) (Or.inl ⟨by rfl, ?_⟩) ?_ ?_
       rotate_left
       ·exact gz
       rotate_left
       ·exact pz
       exact norm_ (by simp only [putAll, Act.put, List.setIfInBounds_toArray, List.set_cons_zero, List.set_cons_succ]) (hCont (gb235) _ ⟨hHeld, (bz BK211.out), (bz BK212.out), (bz BK213.out), (bz BK235.out), GW235.out, GE235.out, NB211_235.out, NB235_211.out, NB212_235.out, NB235_212.out, NB213_235.out, NB235_213.out, (hz4 HB.out GE211.out GE212.out GE213.out GE235.out)⟩)
     rintro gb235 w66 ⟨hS_, h0_, h1_, h2_, h3_, h4_, h5_, h6_, h7_, h8_, h9_, h10_, h11_, h12_⟩
     have n0_ : Aside0 (w66.heap[gb211]? = some (.cells #[.int .i64 a0_0, .int .i64 a0_1, .int .i64 a0_2, .int .i64 a0_3] 25 (0, 0))) := ⟨h0_⟩
     have n1_ : Aside0 (w66.heap[gb212]? = some (.cells #[.int .i64 a1_0, .int .i64 a1_1, .int .i64 a1_2, .int .i64 a1_3] 25 (0, 0))) := ⟨h1_⟩
     have n2_ : Aside0 (w66.heap[gb213]? = some (.cells #[.int .i64 0, .int .i64 0, .int .i64 0, .int .i64 0] 25 (0, 0))) := ⟨h2_⟩
     have n3_ : Aside0 (w66.heap[gb235]? = some (.cells #[.int .i64 0, .int .i64 0] 90 (0, 0))) := ⟨h3_⟩
     have n4_ : Aside0 (w.heap.size ≤ gb235) := ⟨h4_⟩
     have n5_ : Aside0 (w.heap.size ≤ gb235) := ⟨h5_⟩
     have n6_ : Aside0 (gb211 ≠ gb235) := ⟨h6_⟩
     have n7_ : Aside0 (gb235 ≠ gb211) := ⟨h7_⟩
     have n8_ : Aside0 (gb212 ≠ gb235) := ⟨h8_⟩
     have n9_ : Aside0 (gb235 ≠ gb212) := ⟨h9_⟩
     have n10_ : Aside0 (gb213 ≠ gb235) := ⟨h10_⟩
     have n11_ : Aside0 (gb235 ≠ gb213) := ⟨h11_⟩
     have n12_ : Aside0 (Below w.heap.size w w66) := ⟨h12_⟩
     clear BK211
     clear BK212
     clear BK213
     clear HB
     clear h0_ h1_ h2_ h3_ h4_ h5_ h6_ h7_ h8_ h9_ h10_ h11_ h12_
     have BK211 := n0_
     have BK212 := n1_
     have BK213 := n2_
     have BK235 := n3_
     have GW235 := n4_
     have GE235 := n5_
     have NB211_235 := n6_
     have NB235_211 := n7_
     have NB212_235 := n8_
     have NB235_212 := n9_
     have NB213_235 := n10_
     have NB235_213 := n11_
     have HB := n12_
     clear n0_ n1_ n2_ n3_ n4_ n5_ n6_ n7_ n8_ n9_ n10_ n11_ n12_
     have hHeld : w66.cell? ⟨gb211, 0, none⟩ = some (.int .i64 a0_0) ∧ w66.cell? ⟨gb211, 1, none⟩ = some (.int .i64 a0_1) ∧ w66.cell? ⟨gb211, 2, none⟩ = some (.int .i64 a0_2) ∧ w66.cell? ⟨gb211, 3, none⟩ = some (.int .i64 a0_3) ∧ w66.cell? ⟨gb212, 0, none⟩ = some (.int .i64 a1_0) ∧ w66.cell? ⟨gb212, 1, none⟩ = some (.int .i64 a1_1) ∧ w66.cell? ⟨gb212, 2, none⟩ = some (.int .i64 a1_2) ∧ w66.cell? ⟨gb212, 3, none⟩ = some (.int .i64 a1_3) := hS_
     refine norm_ (a' := ?_) ?_ ?_
     rotate_left
     ·simp only [putAll, Act.put, List.setIfInBounds_toArray, List.set_cons_zero, List.set_cons_succ]
      rfl
     refine one_ (i := 9) (N := none) #[T, T, T, T, T, T, T, T, T, T, F] rfl rfl (one_of HT_.out (by kernel_rfl)) (by decide) (fun K hK => ?_)
     have hs67 : w66.cell? ⟨gb235, 0, none⟩ = some (.int .i64 0) := bc BK235 0
     have hfs67 := blk_frozen BK235.out 0
     have hns67_0 := NB211_235.out
     have hns67_1 := NB212_235.out
     have hns67_2 := NB213_235.out
     have hms67_0 := NB235_211.out
     have hms67_1 := NB235_212.out
     have hms67_2 := NB235_213.out
     have hs68 : w66.cell? ⟨gb235, 1, none⟩ = some (.int .i64 0) := bc BK235 1
     have hfs68 := blk_frozen BK235.out 1
     have hns68_0 := NB211_235.out
     have hns68_1 := NB212_235.out
     have hns68_2 := NB213_235.out
     have hms68_0 := NB235_211.out
     have hms68_1 := NB235_212.out
     have hms68_2 := NB235_213.out
     refine skip_ (w1 := ?_) (by rfl) rfl ?_ ?_
     rotate_left
     ·go_simp
      rfl
     refine hK.out _ _ ⟨((cell_far (p := ⟨gb235, _, none⟩) NB211_235.out _).trans (((cell_far (p := ⟨gb235, _, none⟩) NB211_235.out _).trans (hHeld.1)))), ((cell_far (p := ⟨gb235, _, none⟩) NB211_235.out _).trans (((cell_far (p := ⟨gb235, _, none⟩) NB211_235.out _).trans (hHeld.2.1)))), ((cell_far (p := ⟨gb235, _, none⟩) NB211_235.out _).trans (((cell_far (p := ⟨gb235, _, none⟩) NB211_235.out _).trans (hHeld.2.2.1)))), ((cell_far (p := ⟨gb235, _, none⟩) NB211_235.out _).trans (((cell_far (p := ⟨gb235, _, none⟩) NB211_235.out _).trans (hHeld.2.2.2.1)))), ((cell_far (p := ⟨gb235, _, none⟩) NB212_235.out _).trans (((cell_far (p := ⟨gb235, _, none⟩) NB212_235.out _).trans (hHeld.2.2.2.2.1)))), ((cell_far (p := ⟨gb235, _, none⟩) NB212_235.out _).trans (((cell_far (p := ⟨gb235, _, none⟩) NB212_235.out _).trans (hHeld.2.2.2.2.2.1)))), ((cell_far (p := ⟨gb235, _, none⟩) NB212_235.out _).trans (((cell_far (p := ⟨gb235, _, none⟩) NB212_235.out _).trans (hHeld.2.2.2.2.2.2.1)))), ((cell_far (p := ⟨gb235, _, none⟩) NB212_235.out _).trans (((cell_far (p := ⟨gb235, _, none⟩) NB212_235.out _).trans (hHeld.2.2.2.2.2.2.2))))⟩ (fun hHeld => ?_)
     clear hK K
     refine pure_ (i := 10) (N := some 6) (v := ?_) (a' := ?_) #[T, T, T, T, T, T, T, T, T, T, T] rfl rfl (any_of HT_.out (by kernel_rfl)) (fun _ _ _ h => h) (Or.inl ⟨by rfl, ?_⟩) ?_ ?_
     rotate_left
     ·exact gz
     rotate_left
     ·exact pz
     refine done_ (done_of HT_.out (by kernel_rfl)) ?_
     try go_wp2_with (first | ((with_reducible refine gate_callee (f := 58) rfl ?_); refine goesL_ (some 36) rfl rfl Try.func58 (by kernel_rfl) rfl #[] rfl mz ?_; (with_reducible refine (spec_l10None.calls  t236 t237 t238 t239 _ A60.out).mono ?_); rintro e w69 ⟨rfl, hb⟩; refine ⟨_, rfl, ?_⟩; have n0_ := Aside0.mk (blk_below (g := gb211) (o := b4 a0_0 a0_1 a0_2 a0_3 25) (by (with_reducible repeat (first | refine blk_drewN ?_ _ | refine blk_drew ?_ | refine blk_alloc ?_ _)); refine blk_far ?_ NB211_235.out _; (with_reducible repeat (first | refine blk_drewN ?_ _ | refine blk_drew ?_ | refine blk_alloc ?_ _)); refine blk_far ?_ NB211_235.out _; (with_reducible repeat (first | refine blk_drewN ?_ _ | refine blk_drew ?_ | refine blk_alloc ?_ _)); exact BK211.out) hb); have n1_ := Aside0.mk (blk_below (g := gb212) (o := b4 a1_0 a1_1 a1_2 a1_3 25) (by (with_reducible repeat (first | refine blk_drewN ?_ _ | refine blk_drew ?_ | refine blk_alloc ?_ _)); refine blk_far ?_ NB212_235.out _; (with_reducible repeat (first | refine blk_drewN ?_ _ | refine blk_drew ?_ | refine blk_alloc ?_ _)); refine blk_far ?_ NB212_235.out _; (with_reducible repeat (first | refine blk_drewN ?_ _ | refine blk_drew ?_ | refine blk_alloc ?_ _)); exact BK212.out) hb); have n2_ := Aside0.mk (blk_below (g := gb213) (o := b4 0 0 0 0 25) (by (with_reducible repeat (first | refine blk_drewN ?_ _ | refine blk_drew ?_ | refine blk_alloc ?_ _)); refine blk_far ?_ NB213_235.out _; (with_reducible repeat (first | refine blk_drewN ?_ _ | refine blk_drew ?_ | refine blk_alloc ?_ _)); refine blk_far ?_ NB213_235.out _; (with_reducible repeat (first | refine blk_drewN ?_ _ | refine blk_drew ?_ | refine blk_alloc ?_ _)); exact BK213.out) hb); have n3_ := Aside0.mk (blk_below (g := gb235) (o := b2 t232 t233 90) (by (with_reducible repeat (first | refine blk_drewN ?_ _ | refine blk_drew ?_ | refine blk_alloc ?_ _)); refine blk_put (cs := #[.int .i64 t232, .int .i64 0]) ?_ 1 _ rfl; (with_reducible repeat (first | refine blk_drewN ?_ _ | refine blk_drew ?_ | refine blk_alloc ?_ _)); refine blk_put (cs := #[.int .i64 0, .int .i64 0]) ?_ 0 _ rfl; (with_reducible repeat (first | refine blk_drewN ?_ _ | refine blk_drew ?_ | refine blk_alloc ?_ _)); exact BK235.out) hb); have n4_ := Aside0.mk (below_step (hz4 HB.out GE211.out GE212.out GE213.out GE235.out) hb); clear BK211; clear BK212; clear BK213; clear BK235; clear HB; have BK211 := n0_; have BK212 := n1_; have BK213 := n2_; have BK235 := n3_; have HB := n4_; clear n0_ n1_ n2_ n3_ n4_; (try clear hb); (try clear hb2); (try clear hk); (try clear hi); have hnb70 := NB213_211.out; have hnc70 := NB211_213.out; have hnb71 := NB213_212.out; have hnc71 := NB212_213.out; have hnb72 := NB213_235.out; have hnc72 := NB235_213.out; have hcz73_0 : w69.cell? ⟨gb213, 0, none⟩ = some (.int .i64 0) := bc BK213 0; have hcz73_1 : w69.cell? ⟨gb213, 1, none⟩ = some (.int .i64 0) := bc BK213 1; have hcz73_2 : w69.cell? ⟨gb213, 2, none⟩ = some (.int .i64 0) := bc BK213 2; have hcz73_3 : w69.cell? ⟨gb213, 3, none⟩ = some (.int .i64 0) := bc BK213 3; have hfz73_0 := blk_frozen BK213.out 0; have hfz73_1 := blk_frozen BK213.out 1; have hfz73_2 := blk_frozen BK213.out 2; have hfz73_3 := blk_frozen BK213.out 3))
     refine bodyPost_ret (results_cell_row rfl _ _ gb213 25 #[.int .i64 t236, .int .i64 t237, .int .i64 t238, .int .i64 t239] (0, 0) _ rfl (by (with_reducible repeat (first | refine blk_drewN ?_ _ | refine blk_drew ?_ | refine blk_alloc ?_ _)); refine blk_put (cs := #[.int .i64 t236, .int .i64 t237, .int .i64 t238, .int .i64 0]) ?_ 3 _ rfl; (with_reducible repeat (first | refine blk_drewN ?_ _ | refine blk_drew ?_ | refine blk_alloc ?_ _)); refine blk_put (cs := #[.int .i64 t236, .int .i64 t237, .int .i64 0, .int .i64 0]) ?_ 2 _ rfl; (with_reducible repeat (first | refine blk_drewN ?_ _ | refine blk_drew ?_ | refine blk_alloc ?_ _)); refine blk_put (cs := #[.int .i64 t236, .int .i64 0, .int .i64 0, .int .i64 0]) ?_ 1 _ rfl; (with_reducible repeat (first | refine blk_drewN ?_ _ | refine blk_drew ?_ | refine blk_alloc ?_ _)); refine blk_put (cs := #[.int .i64 0, .int .i64 0, .int .i64 0, .int .i64 0]) ?_ 0 _ rfl; (with_reducible repeat (first | refine blk_drewN ?_ _ | refine blk_drew ?_ | refine blk_alloc ?_ _)); exact BK213.out) Try.underlying25 rfl (by kernel_rfl)) rfl ?_
     exact ⟨by first | rfl | (simp [errW_none, errW_some] <;> rfl) | (simp [*, errW_none, errW_some] <;> rfl), hz4 HB.out GE211.out GE212.out GE213.out GE235.out⟩

end Go.Proofs.Ytnmccgjdnceheaa.PFnExactValMeet
