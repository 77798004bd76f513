/- Written by this session's own driver (wip/dprint.py): the functions that the law FnExactValMeet reaches, as Lean functions, each with its contract. -/
import Derived.Test.YtnmccgjdnceheaaPFnExactValMeetx0
import Derived.Test.YtnmccgjdnceheaaPFnExactValMeetx13
import Derived.Test.YtnmccgjdnceheaaPFnExactValMeetx14
import Derived.Test.YtnmccgjdnceheaaSv
namespace Go.Proofs.Ytnmccgjdnceheaa.PFnExactValMeet
open Go.RowKit Go.Proofs.YtnmccgjdnceheaaV.PrintWords Go.Proofs.YtnmccgjdnceheaaV.PrintLast Go.Proofs.YtnmccgjdnceheaaV.PrintMore Go.Proofs.YtnmccgjdnceheaaSv
attribute [local go_sem] max2_int min2_int max_two min_two max_three min_three max_four min_four   -- for this text's walks alone
set_option linter.unusedVariables false
set_option linter.unusedSimpArgs false

/-! ### impl_RestMeet: function 82 -/
mutual
def impl_RestMeet.j0 : Nat → Bool → Int → Int → Int → Int → Option (Int × Int × Bool)
 | 0, _, _, _, _, _ => none
 | k + 1, x16, x316000, x316001, x317000, x317001 => if x16 = true then (some (0, 0, false)) else (if x316000 = 0 then ((impl_RestHas.f k x317000 x317001 x316001).bind fun t320 => (if t320 = true then (some (x316000, x316001, true)) else (some (0, 0, false)))) else (if x317000 = 0 then ((impl_RestHas.f k x316000 x316001 x317001).bind fun t321 => (if t321 = true then (some (x317000, x317001, true)) else (some (0, 0, false)))) else ((impl_restGcd.f k (([x316000, x317000] : List Int))).bind fun t325 => (if t325 = 0 then (none) else (if (Int.tmod (wrap64 (x316001 - x317001)) t325) = 0 then (if x317000 > x316000 then (impl_RestMeet.j1 k t325 x317000 x317001 x316000 x316001) else (impl_RestMeet.j1 k t325 x316000 x316001 x317000 x317001)) else (some (0, 0, false)))))))
def impl_RestMeet.j1 : Nat → Int → Int → Int → Int → Int → Option (Int × Int × Bool)
 | 0, _, _, _, _, _ => none
 | k + 1, x6, x316000, x316001, x317000, x317001 => if x6 = 0 then (none) else (if (wrap64 ((wrap64 (Int.tdiv x316000 x6)) * x317000)) > 65536 then (some (x316000, x316001, true)) else (impl_RestMeet.l0 k (wrap64 ((wrap64 (Int.tdiv x316000 x6)) * x317000)) x316001 x316000 x316001 x317000 x317001))
def impl_RestMeet.l0 : Nat → Int → Int → Int → Int → Int → Int → Option (Int × Int × Bool)
 | 0, _, _, _, _, _, _ => none
 | k + 1, x7, x8, x316000, x316001, x317000, x317001 => (impl_restMod.f x8 x317000).bind fun t326 => (if t326 = x317001 then (some (x7, x8, true)) else (impl_RestMeet.l0 k x7 (wrap64 (x8 + x316000)) x316000 x316001 x317000 x317001))
end
def impl_RestMeet.f (k : Nat) (a0_0 : Int) (a0_1 : Int) (a1_0 : Int) (a1_1 : Int) : Option (Int × Int × Bool) := (impl_RestOk.f a0_0 a0_1).bind fun t318 => (if t318 = true then ((impl_RestOk.f a1_0 a1_1).bind fun t319 => (impl_RestMeet.j0 k (!t319) a0_0 a0_1 a1_0 a1_1)) else (impl_RestMeet.j0 k true a0_0 a0_1 a1_0 a1_1))
theorem impl_RestMeet.mono_l : ∀ k, (∀ y0 y1 y2 y3 y4, LeO (impl_RestMeet.j0 k y0 y1 y2 y3 y4) (impl_RestMeet.j0 (k + 1) y0 y1 y2 y3 y4)) ∧ (∀ y0 y1 y2 y3 y4, LeO (impl_RestMeet.j1 k y0 y1 y2 y3 y4) (impl_RestMeet.j1 (k + 1) y0 y1 y2 y3 y4)) ∧ (∀ y0 y1 y2 y3 y4 y5, LeO (impl_RestMeet.l0 k y0 y1 y2 y3 y4 y5) (impl_RestMeet.l0 (k + 1) y0 y1 y2 y3 y4 y5))
 | 0 => ⟨fun _ _ _ _ _ r h => by simp [impl_RestMeet.j0] at h, fun _ _ _ _ _ r h => by simp [impl_RestMeet.j1] at h, fun _ _ _ _ _ _ r h => by simp [impl_RestMeet.l0] at h⟩
 | k + 1 => by
  obtain ⟨ih0, ih1, ih2⟩ := impl_RestMeet.mono_l k
  refine ⟨?_, ?_, ?_⟩
  ·intro y0 y1 y2 y3 y4
   unfold impl_RestMeet.j0
   repeat' first
   | (with_reducible exact ih0 _ _ _ _ _)
   | (with_reducible exact ih1 _ _ _ _ _)
   | (with_reducible exact ih2 _ _ _ _ _ _)
   | (with_reducible exact impl_RestHas.mono _ _ _ _)
   | (with_reducible exact impl_restGcd.mono _ _)
   | (with_reducible exact LeO.refl _)
   | (with_reducible exact LeO.none _)
   | (with_reducible refine LeO.ite ?_ ?_)
   | (with_reducible refine LeO.bind ?_ (fun _ => ?_))
   | exact ih0 _ _ _ _ _
   | exact ih1 _ _ _ _ _
   | exact ih2 _ _ _ _ _ _
   | exact impl_RestHas.mono _ _ _ _
   | exact impl_restGcd.mono _ _
   | exact LeO.none _
   | refine LeO.ite ?_ ?_
   | refine LeO.bind ?_ (fun _ => ?_)
  ·intro y0 y1 y2 y3 y4
   unfold impl_RestMeet.j1
   repeat' first
   | (with_reducible exact ih0 _ _ _ _ _)
   | (with_reducible exact ih1 _ _ _ _ _)
   | (with_reducible exact ih2 _ _ _ _ _ _)
   | (with_reducible exact impl_RestHas.mono _ _ _ _)
   | (with_reducible exact impl_restGcd.mono _ _)
   | (with_reducible exact LeO.refl _)
   | (with_reducible exact LeO.none _)
   | (with_reducible refine LeO.ite ?_ ?_)
   | (with_reducible refine LeO.bind ?_ (fun _ => ?_))
   | exact ih0 _ _ _ _ _
   | exact ih1 _ _ _ _ _
   | exact ih2 _ _ _ _ _ _
   | exact impl_RestHas.mono _ _ _ _
   | exact impl_restGcd.mono _ _
   | exact LeO.none _
   | refine LeO.ite ?_ ?_
   | refine LeO.bind ?_ (fun _ => ?_)
  ·intro y0 y1 y2 y3 y4 y5
   unfold impl_RestMeet.l0
   repeat' first
   | (with_reducible exact ih0 _ _ _ _ _)
   | (with_reducible exact ih1 _ _ _ _ _)
   | (with_reducible exact ih2 _ _ _ _ _ _)
   | (with_reducible exact impl_RestHas.mono _ _ _ _)
   | (with_reducible exact impl_restGcd.mono _ _)
   | (with_reducible exact LeO.refl _)
   | (with_reducible exact LeO.none _)
   | (with_reducible refine LeO.ite ?_ ?_)
   | (with_reducible refine LeO.bind ?_ (fun _ => ?_))
   | exact ih0 _ _ _ _ _
   | exact ih1 _ _ _ _ _
   | exact ih2 _ _ _ _ _ _
   | exact impl_RestHas.mono _ _ _ _
   | exact impl_restGcd.mono _ _
   | exact LeO.none _
   | refine LeO.ite ?_ ?_
   | refine LeO.bind ?_ (fun _ => ?_)
theorem impl_RestMeet.mono : ∀ a0 a1 a2 a3 k, LeO (impl_RestMeet.f k a0 a1 a2 a3) (impl_RestMeet.f (k + 1) a0 a1 a2 a3) := by
 intro a0 a1 a2 a3 k
 obtain ⟨ih0, ih1, ih2⟩ := impl_RestMeet.mono_l k
 unfold impl_RestMeet.f
 repeat' first
   | (with_reducible exact ih0 _ _ _ _ _)
   | (with_reducible exact ih1 _ _ _ _ _)
   | (with_reducible exact ih2 _ _ _ _ _ _)
   | (with_reducible exact impl_RestHas.mono _ _ _ _)
   | (with_reducible exact impl_restGcd.mono _ _)
   | (with_reducible exact LeO.refl _)
   | (with_reducible exact LeO.none _)
   | (with_reducible refine LeO.ite ?_ ?_)
   | (with_reducible refine LeO.bind ?_ (fun _ => ?_))
   | exact ih0 _ _ _ _ _
   | exact ih1 _ _ _ _ _
   | exact ih2 _ _ _ _ _ _
   | exact impl_RestHas.mono _ _ _ _
   | exact impl_restGcd.mono _ _
   | exact LeO.none _
   | refine LeO.ite ?_ ?_
   | refine LeO.bind ?_ (fun _ => ?_)
set_option maxHeartbeats 8000000 in
set_option maxRecDepth 100000 in
theorem impl_RestMeet.calls (k : Nat) (a0_0 : Int) (a0_1 : Int) (a1_0 : Int) (a1_1 : Int) (r1 : Int) (r2 : Int) (r3 : Bool) (w : World) (h : impl_RestMeet.f k a0_0 a0_1 a1_0 a1_1 = some (r1, r2, r3)) :
  Calls Try.prog 82 #[.agg #[.int .i64 a0_0, .int .i64 a0_1], .agg #[.int .i64 a1_0, .int .i64 a1_1]] w fun e w' => e = .returned (.tuple #[.agg #[.int .i64 r1, .int .i64 r2], .bool r3]) ∧ Below w.heap.size w w' := by
 have hu90 := Try.underlying90
 have HB := Aside0.mk (Below.refl w.heap.size w)
 have H : ((impl_RestOk.f a0_0 a0_1).bind fun t318 => (if t318 = true then ((impl_RestOk.f a1_0 a1_1).bind fun t319 => (impl_RestMeet.j0 k (!t319) a0_0 a0_1 a1_0 a1_1)) else (impl_RestMeet.j0 k true a0_0 a0_1 a1_0 a1_1))) = some (r1, r2, r3) := h
 clear h
 have HC3 := Aside0.mk H
 clear H
 go_enter Try.func82, Try.ntmps82
 go_upto_region 1 with (first | ((with_reducible refine gate_dst (N := 2) rfl ?_); refine box_event ?hg (N := 2) ?hd (cs := #[.int .i64 a0_0, .int .i64 a0_1]) (t := 90) ?hr ?_; (case hd => rfl); (case hg => rfl); (case hr => first | (go_simp; done) | (go_simp; rfl)); intro gb315 hg w4 hbox hb; have n0_ := Aside0.mk (below_step (hz HB.out) hb); have n1_ := Aside0.mk (hbox); have n2_ := Aside0.mk ((by rw [hg]; exact (below_size (hz HB.out)) : w.heap.size ≤ gb315)); have n3_ := Aside0.mk ((by rw [hg]; exact (below_size (hz HB.out)) : w.heap.size ≤ gb315)); clear HB; have HB := n0_; have BK315 := n1_; have GW315 := n2_; have GE315 := n3_; clear n0_ n1_ n2_ n3_; clear hb hbox hg) | ((with_reducible refine gate_dst (N := 3) rfl ?_); refine box_event ?hg (N := 3) ?hd (cs := #[.int .i64 a1_0, .int .i64 a1_1]) (t := 90) ?hr ?_; (case hd => rfl); (case hg => rfl); (case hr => first | (go_simp; done) | (go_simp; rfl)); intro gb316 hg w5 hbox hb; have n0_ := Aside0.mk (blk_below (g := gb315) (o := b2 a0_0 a0_1 90) (bz BK315.out) hb); have n1_ := Aside0.mk (below_step (hz1 HB.out GE315.out) hb); have n2_ := Aside0.mk (hbox); have n3_ := Aside0.mk ((by rw [hg]; exact (below_size (hz1 HB.out GE315.out)) : w.heap.size ≤ gb316)); have n4_ := Aside0.mk ((by rw [hg]; exact (below_size (hz1 HB.out GE315.out)) : w.heap.size ≤ gb316)); have n5_ := Aside0.mk ((by rw [hg]; exact Nat.ne_of_lt (blk_lt (g := gb315) (o := b2 a0_0 a0_1 90) (bz BK315.out)) : gb315 ≠ gb316)); have n6_ := Aside0.mk ((by rw [hg]; exact Nat.ne_of_gt (blk_lt (g := gb315) (o := b2 a0_0 a0_1 90) (bz BK315.out)) : gb316 ≠ gb315)); clear BK315; clear HB; have BK315 := n0_; have HB := n1_; have BK316 := n2_; have GW316 := n3_; have GE316 := n4_; have NB315_316 := n5_; have NB316_315 := n6_; clear n0_ n1_ n2_ n3_ n4_ n5_ n6_; clear hb hbox hg) | ((with_reducible refine gate_dst (N := 4) rfl ?_); refine box_event ?hg (N := 4) ?hd (cs := #[.int .i64 0, .int .i64 0]) (t := 90) ?hr ?_; (case hd => rfl); (case hg => rfl); (case hr => first | (go_simp; done) | (go_simp; rfl)); intro gb317 hg w6 hbox hb; have n0_ := Aside0.mk (blk_below (g := gb315) (o := b2 a0_0 a0_1 90) (bz BK315.out) hb); have n1_ := Aside0.mk (blk_below (g := gb316) (o := b2 a1_0 a1_1 90) (bz BK316.out) hb); have n2_ := Aside0.mk (below_step (hz2 HB.out GE315.out GE316.out) hb); have n3_ := Aside0.mk (hbox); have n4_ := Aside0.mk ((by rw [hg]; exact (below_size (hz2 HB.out GE315.out GE316.out)) : w.heap.size ≤ gb317)); have n5_ := Aside0.mk ((by rw [hg]; exact (below_size (hz2 HB.out GE315.out GE316.out)) : w.heap.size ≤ gb317)); have n6_ := Aside0.mk ((by rw [hg]; exact Nat.ne_of_lt (blk_lt (g := gb315) (o := b2 a0_0 a0_1 90) (bz BK315.out)) : gb315 ≠ gb317)); have n7_ := Aside0.mk ((by rw [hg]; exact Nat.ne_of_gt (blk_lt (g := gb315) (o := b2 a0_0 a0_1 90) (bz BK315.out)) : gb317 ≠ gb315)); have n8_ := Aside0.mk ((by rw [hg]; exact Nat.ne_of_lt (blk_lt (g := gb316) (o := b2 a1_0 a1_1 90) (bz BK316.out)) : gb316 ≠ gb317)); have n9_ := Aside0.mk ((by rw [hg]; exact Nat.ne_of_gt (blk_lt (g := gb316) (o := b2 a1_0 a1_1 90) (bz BK316.out)) : gb317 ≠ gb316)); clear BK315; clear BK316; clear HB; have BK315 := n0_; have BK316 := n1_; have HB := n2_; have BK317 := n3_; have GW317 := n4_; have GE317 := n5_; have NB315_317 := n6_; have NB317_315 := n7_; have NB316_317 := n8_; have NB317_316 := n9_; clear n0_ n1_ n2_ n3_ n4_ n5_ n6_ n7_ n8_ n9_; clear hb hbox hg))
 repeat (go_quiet (first | ((with_reducible refine gate_dst (N := 2) rfl ?_); refine box_event ?hg (N := 2) ?hd (cs := #[.int .i64 a0_0, .int .i64 a0_1]) (t := 90) ?hr ?_; (case hd => rfl); (case hg => rfl); (case hr => first | (go_simp; done) | (go_simp; rfl)); intro gb315 hg w4 hbox hb; have n0_ := Aside0.mk (below_step (hz HB.out) hb); have n1_ := Aside0.mk (hbox); have n2_ := Aside0.mk ((by rw [hg]; exact (below_size (hz HB.out)) : w.heap.size ≤ gb315)); have n3_ := Aside0.mk ((by rw [hg]; exact (below_size (hz HB.out)) : w.heap.size ≤ gb315)); clear HB; have HB := n0_; have BK315 := n1_; have GW315 := n2_; have GE315 := n3_; clear n0_ n1_ n2_ n3_; clear hb hbox hg) | ((with_reducible refine gate_dst (N := 3) rfl ?_); refine box_event ?hg (N := 3) ?hd (cs := #[.int .i64 a1_0, .int .i64 a1_1]) (t := 90) ?hr ?_; (case hd => rfl); (case hg => rfl); (case hr => first | (go_simp; done) | (go_simp; rfl)); intro gb316 hg w5 hbox hb; have n0_ := Aside0.mk (blk_below (g := gb315) (o := b2 a0_0 a0_1 90) (bz BK315.out) hb); have n1_ := Aside0.mk (below_step (hz1 HB.out GE315.out) hb); have n2_ := Aside0.mk (hbox); have n3_ := Aside0.mk ((by rw [hg]; exact (below_size (hz1 HB.out GE315.out)) : w.heap.size ≤ gb316)); have n4_ := Aside0.mk ((by rw [hg]; exact (below_size (hz1 HB.out GE315.out)) : w.heap.size ≤ gb316)); have n5_ := Aside0.mk ((by rw [hg]; exact Nat.ne_of_lt (blk_lt (g := gb315) (o := b2 a0_0 a0_1 90) (bz BK315.out)) : gb315 ≠ gb316)); have n6_ := Aside0.mk ((by rw [hg]; exact Nat.ne_of_gt (blk_lt (g := gb315) (o := b2 a0_0 a0_1 90) (bz BK315.out)) : gb316 ≠ gb315)); clear BK315; clear HB; have BK315 := n0_; have HB := n1_; have BK316 := n2_; have GW316 := n3_; have GE316 := n4_; have NB315_316 := n5_; have NB316_315 := n6_; clear n0_ n1_ n2_ n3_ n4_ n5_ n6_; clear hb hbox hg) | ((with_reducible refine gate_dst (N := 4) rfl ?_); refine box_event ?hg (N := 4) ?hd (cs := #[.int .i64 0, .int .i64 0]) (t := 90) ?hr ?_; (case hd => rfl); (case hg => rfl); (case hr => first | (go_simp; done) | (go_simp; rfl)); intro gb317 hg w6 hbox hb; have n0_ := Aside0.mk (blk_below (g := gb315) (o := b2 a0_0 a0_1 90) (bz BK315.out) hb); have n1_ := Aside0.mk (blk_below (g := gb316) (o := b2 a1_0 a1_1 90) (bz BK316.out) hb); have n2_ := Aside0.mk (below_step (hz2 HB.out GE315.out GE316.out) hb); have n3_ := Aside0.mk (hbox); have n4_ := Aside0.mk ((by rw [hg]; exact (below_size (hz2 HB.out GE315.out GE316.out)) : w.heap.size ≤ gb317)); have n5_ := Aside0.mk ((by rw [hg]; exact (below_size (hz2 HB.out GE315.out GE316.out)) : w.heap.size ≤ gb317)); have n6_ := Aside0.mk ((by rw [hg]; exact Nat.ne_of_lt (blk_lt (g := gb315) (o := b2 a0_0 a0_1 90) (bz BK315.out)) : gb315 ≠ gb317)); have n7_ := Aside0.mk ((by rw [hg]; exact Nat.ne_of_gt (blk_lt (g := gb315) (o := b2 a0_0 a0_1 90) (bz BK315.out)) : gb317 ≠ gb315)); have n8_ := Aside0.mk ((by rw [hg]; exact Nat.ne_of_lt (blk_lt (g := gb316) (o := b2 a1_0 a1_1 90) (bz BK316.out)) : gb316 ≠ gb317)); have n9_ := Aside0.mk ((by rw [hg]; exact Nat.ne_of_gt (blk_lt (g := gb316) (o := b2 a1_0 a1_1 90) (bz BK316.out)) : gb317 ≠ gb316)); clear BK315; clear BK316; clear HB; have BK315 := n0_; have BK316 := n1_; have HB := n2_; have BK317 := n3_; have GW317 := n4_; have GE317 := n5_; have NB315_317 := n6_; have NB317_315 := n7_; have NB316_317 := n8_; have NB317_316 := n9_; clear n0_ n1_ n2_ n3_ n4_ n5_ n6_ n7_ n8_ n9_; clear hb hbox hg)); go_upto_region 1 with (first | ((with_reducible refine gate_dst (N := 2) rfl ?_); refine box_event ?hg (N := 2) ?hd (cs := #[.int .i64 a0_0, .int .i64 a0_1]) (t := 90) ?hr ?_; (case hd => rfl); (case hg => rfl); (case hr => first | (go_simp; done) | (go_simp; rfl)); intro gb315 hg w4 hbox hb; have n0_ := Aside0.mk (below_step (hz HB.out) hb); have n1_ := Aside0.mk (hbox); have n2_ := Aside0.mk ((by rw [hg]; exact (below_size (hz HB.out)) : w.heap.size ≤ gb315)); have n3_ := Aside0.mk ((by rw [hg]; exact (below_size (hz HB.out)) : w.heap.size ≤ gb315)); clear HB; have HB := n0_; have BK315 := n1_; have GW315 := n2_; have GE315 := n3_; clear n0_ n1_ n2_ n3_; clear hb hbox hg) | ((with_reducible refine gate_dst (N := 3) rfl ?_); refine box_event ?hg (N := 3) ?hd (cs := #[.int .i64 a1_0, .int .i64 a1_1]) (t := 90) ?hr ?_; (case hd => rfl); (case hg => rfl); (case hr => first | (go_simp; done) | (go_simp; rfl)); intro gb316 hg w5 hbox hb; have n0_ := Aside0.mk (blk_below (g := gb315) (o := b2 a0_0 a0_1 90) (bz BK315.out) hb); have n1_ := Aside0.mk (below_step (hz1 HB.out GE315.out) hb); have n2_ := Aside0.mk (hbox); have n3_ := Aside0.mk ((by rw [hg]; exact (below_size (hz1 HB.out GE315.out)) : w.heap.size ≤ gb316)); have n4_ := Aside0.mk ((by rw [hg]; exact (below_size (hz1 HB.out GE315.out)) : w.heap.size ≤ gb316)); have n5_ := Aside0.mk ((by rw [hg]; exact Nat.ne_of_lt (blk_lt (g := gb315) (o := b2 a0_0 a0_1 90) (bz BK315.out)) : gb315 ≠ gb316)); have n6_ := Aside0.mk ((by rw [hg]; exact Nat.ne_of_gt (blk_lt (g := gb315) (o := b2 a0_0 a0_1 90) (bz BK315.out)) : gb316 ≠ gb315)); clear BK315; clear HB; have BK315 := n0_; have HB := n1_; have BK316 := n2_; have GW316 := n3_; have GE316 := n4_; have NB315_316 := n5_; have NB316_315 := n6_; clear n0_ n1_ n2_ n3_ n4_ n5_ n6_; clear hb hbox hg) | ((with_reducible refine gate_dst (N := 4) rfl ?_); refine box_event ?hg (N := 4) ?hd (cs := #[.int .i64 0, .int .i64 0]) (t := 90) ?hr ?_; (case hd => rfl); (case hg => rfl); (case hr => first | (go_simp; done) | (go_simp; rfl)); intro gb317 hg w6 hbox hb; have n0_ := Aside0.mk (blk_below (g := gb315) (o := b2 a0_0 a0_1 90) (bz BK315.out) hb); have n1_ := Aside0.mk (blk_below (g := gb316) (o := b2 a1_0 a1_1 90) (bz BK316.out) hb); have n2_ := Aside0.mk (below_step (hz2 HB.out GE315.out GE316.out) hb); have n3_ := Aside0.mk (hbox); have n4_ := Aside0.mk ((by rw [hg]; exact (below_size (hz2 HB.out GE315.out GE316.out)) : w.heap.size ≤ gb317)); have n5_ := Aside0.mk ((by rw [hg]; exact (below_size (hz2 HB.out GE315.out GE316.out)) : w.heap.size ≤ gb317)); have n6_ := Aside0.mk ((by rw [hg]; exact Nat.ne_of_lt (blk_lt (g := gb315) (o := b2 a0_0 a0_1 90) (bz BK315.out)) : gb315 ≠ gb317)); have n7_ := Aside0.mk ((by rw [hg]; exact Nat.ne_of_gt (blk_lt (g := gb315) (o := b2 a0_0 a0_1 90) (bz BK315.out)) : gb317 ≠ gb315)); have n8_ := Aside0.mk ((by rw [hg]; exact Nat.ne_of_lt (blk_lt (g := gb316) (o := b2 a1_0 a1_1 90) (bz BK316.out)) : gb316 ≠ gb317)); have n9_ := Aside0.mk ((by rw [hg]; exact Nat.ne_of_gt (blk_lt (g := gb316) (o := b2 a1_0 a1_1 90) (bz BK316.out)) : gb317 ≠ gb316)); clear BK315; clear BK316; clear HB; have BK315 := n0_; have BK316 := n1_; have HB := n2_; have BK317 := n3_; have GW317 := n4_; have GE317 := n5_; have NB315_317 := n6_; have NB317_315 := n7_; have NB316_317 := n8_; have NB317_316 := n9_; clear n0_ n1_ n2_ n3_ n4_ n5_ n6_ n7_ n8_ n9_; clear hb hbox hg)))
 (try simp only [Act.put, List.setIfInBounds_toArray, List.set_cons_zero, List.set_cons_succ])
 go_cut [16] (fun v16 wc => ∃ (kq : Nat) (x16_2 : Bool), v16 = .bool x16_2 ∧ Aside0 (impl_RestMeet.j0 kq x16_2 a0_0 a0_1 a1_0 a1_1 = some (r1, r2, r3)) ∧ Aside0 (kq ≤ k) ∧ Aside0 (wc.heap[gb315]? = some (.cells #[.int .i64 a0_0, .int .i64 a0_1] 90 (0, 0))) ∧ Aside0 (wc.heap[gb316]? = some (.cells #[.int .i64 a1_0, .int .i64 a1_1] 90 (0, 0))) ∧ Aside0 (wc.heap[gb317]? = some (.cells #[.int .i64 0, .int .i64 0] 90 (0, 0))) ∧ Aside0 (Below w.heap.size w wc))
 case first =>
  have H := HC3.out
  clear HC3
  replace H := Option.bind_eq_some_iff.mp H
  obtain ⟨t318, A70, H⟩ := H
  replace H : (if t318 = true then ((impl_RestOk.f a1_0 a1_1).bind fun t319 => (impl_RestMeet.j0 k (!t319) a0_0 a0_1 a1_0 a1_1)) else (impl_RestMeet.j0 k true a0_0 a0_1 a1_0 a1_1)) = some (r1, r2, r3) := H
  have A7 := Aside0.mk A70
  clear A70
  by_cases c8 : t318 = true
  ·subst c8
   have H1 : ((impl_RestOk.f a1_0 a1_1).bind fun t319 => (impl_RestMeet.j0 k (!t319) a0_0 a0_1 a1_0 a1_1)) = some (r1, r2, r3) := by rw [if_pos rfl] at H; exact H
   clear H
   have H := H1
   clear H1
   replace H := Option.bind_eq_some_iff.mp H
   obtain ⟨t319, A90, H⟩ := H
   replace H : (impl_RestMeet.j0 k (!t319) a0_0 a0_1 a1_0 a1_1) = some (r1, r2, r3) := H
   have A9 := Aside0.mk A90
   clear A90
   have H' := Aside0.mk H
   clear H
   have hnb10 := NB315_316.out
   have hnc10 := NB316_315.out
   have hnb11 := NB315_317.out
   have hnc11 := NB317_315.out
   have hcz12_0 : w6.cell? ⟨gb315, 0, none⟩ = some (.int .i64 a0_0) := bc BK315 0
   have hcz12_1 : w6.cell? ⟨gb315, 1, none⟩ = some (.int .i64 a0_1) := bc BK315 1
   have hfz12_0 := blk_frozen BK315.out 0
   have hfz12_1 := blk_frozen BK315.out 1
   go_wp2_with (first | (go_at_call 121; (with_reducible refine (impl_RestOk.calls a0_0 a0_1 true _ A7.out).mono ?_); rintro e w13 ⟨rfl, hb⟩; have n0_ := Aside0.mk (blk_below (g := gb315) (o := b2 a0_0 a0_1 90) (bz BK315.out) hb); have n1_ := Aside0.mk (blk_below (g := gb316) (o := b2 a1_0 a1_1 90) (bz BK316.out) hb); have n2_ := Aside0.mk (blk_below (g := gb317) (o := b2 0 0 90) (bz BK317.out) hb); have n3_ := Aside0.mk (below_step (hz3 HB.out GE315.out GE316.out GE317.out) hb); clear BK315; clear BK316; clear BK317; clear HB; have BK315 := n0_; have BK316 := n1_; have BK317 := n2_; have HB := n3_; clear n0_ n1_ n2_ n3_; (try clear hb); (try clear hb2); (try clear hk); (try clear hi); have hnb14 := NB316_317.out; have hnc14 := NB317_316.out; have hcz15_0 : w13.cell? ⟨gb316, 0, none⟩ = some (.int .i64 a1_0) := bc BK316 0; have hcz15_1 : w13.cell? ⟨gb316, 1, none⟩ = some (.int .i64 a1_1) := bc BK316 1; have hfz15_0 := blk_frozen BK316.out 0; have hfz15_1 := blk_frozen BK316.out 1) | (go_at_call 121; (with_reducible refine (impl_RestOk.calls a1_0 a1_1 t319 _ A9.out).mono ?_); rintro e w16 ⟨rfl, hb⟩; have n0_ := Aside0.mk (blk_below (g := gb315) (o := b2 a0_0 a0_1 90) (bz BK315.out) hb); have n1_ := Aside0.mk (blk_below (g := gb316) (o := b2 a1_0 a1_1 90) (bz BK316.out) hb); have n2_ := Aside0.mk (blk_below (g := gb317) (o := b2 0 0 90) (bz BK317.out) hb); have n3_ := Aside0.mk (below_step (hz3 HB.out GE315.out GE316.out GE317.out) hb); clear BK315; clear BK316; clear BK317; clear HB; have BK315 := n0_; have BK316 := n1_; have BK317 := n2_; have HB := n3_; clear n0_ n1_ n2_ n3_; (try clear hb); (try clear hb2); (try clear hk); (try clear hi)))
   try have hnb14 := NB316_317.out
   try have hnc14 := NB317_316.out
   try have hcz15_0 : w13.cell? ⟨gb316, 0, none⟩ = some (.int .i64 a1_0) := bc BK316 0
   try have hcz15_1 : w13.cell? ⟨gb316, 1, none⟩ = some (.int .i64 a1_1) := bc BK316 1
   try have hfz15_0 := blk_frozen BK316.out 0
   try have hfz15_1 := blk_frozen BK316.out 1
   repeat (go_quiet (first | (go_at_call 121; (with_reducible refine (impl_RestOk.calls a0_0 a0_1 true _ A7.out).mono ?_); rintro e w13 ⟨rfl, hb⟩; have n0_ := Aside0.mk (blk_below (g := gb315) (o := b2 a0_0 a0_1 90) (bz BK315.out) hb); have n1_ := Aside0.mk (blk_below (g := gb316) (o := b2 a1_0 a1_1 90) (bz BK316.out) hb); have n2_ := Aside0.mk (blk_below (g := gb317) (o := b2 0 0 90) (bz BK317.out) hb); have n3_ := Aside0.mk (below_step (hz3 HB.out GE315.out GE316.out GE317.out) hb); clear BK315; clear BK316; clear BK317; clear HB; have BK315 := n0_; have BK316 := n1_; have BK317 := n2_; have HB := n3_; clear n0_ n1_ n2_ n3_; (try clear hb); (try clear hb2); (try clear hk); (try clear hi); (try (have hnb14 := NB316_317.out; have hnc14 := NB317_316.out; have hcz15_0 : w13.cell? ⟨gb316, 0, none⟩ = some (.int .i64 a1_0) := bc BK316 0; have hcz15_1 : w13.cell? ⟨gb316, 1, none⟩ = some (.int .i64 a1_1) := bc BK316 1; have hfz15_0 := blk_frozen BK316.out 0; have hfz15_1 := blk_frozen BK316.out 1))) | (go_at_call 121; (with_reducible refine (impl_RestOk.calls a1_0 a1_1 t319 _ A9.out).mono ?_); rintro e w16 ⟨rfl, hb⟩; have n0_ := Aside0.mk (blk_below (g := gb315) (o := b2 a0_0 a0_1 90) (bz BK315.out) hb); have n1_ := Aside0.mk (blk_below (g := gb316) (o := b2 a1_0 a1_1 90) (bz BK316.out) hb); have n2_ := Aside0.mk (blk_below (g := gb317) (o := b2 0 0 90) (bz BK317.out) hb); have n3_ := Aside0.mk (below_step (hz3 HB.out GE315.out GE316.out GE317.out) hb); clear BK315; clear BK316; clear BK317; clear HB; have BK315 := n0_; have BK316 := n1_; have BK317 := n2_; have HB := n3_; clear n0_ n1_ n2_ n3_; (try clear hb); (try clear hb2); (try clear hk); (try clear hi))); try go_wp2_with (first | (go_at_call 121; (with_reducible refine (impl_RestOk.calls a0_0 a0_1 true _ A7.out).mono ?_); rintro e w13 ⟨rfl, hb⟩; have n0_ := Aside0.mk (blk_below (g := gb315) (o := b2 a0_0 a0_1 90) (bz BK315.out) hb); have n1_ := Aside0.mk (blk_below (g := gb316) (o := b2 a1_0 a1_1 90) (bz BK316.out) hb); have n2_ := Aside0.mk (blk_below (g := gb317) (o := b2 0 0 90) (bz BK317.out) hb); have n3_ := Aside0.mk (below_step (hz3 HB.out GE315.out GE316.out GE317.out) hb); clear BK315; clear BK316; clear BK317; clear HB; have BK315 := n0_; have BK316 := n1_; have BK317 := n2_; have HB := n3_; clear n0_ n1_ n2_ n3_; (try clear hb); (try clear hb2); (try clear hk); (try clear hi); (try (have hnb14 := NB316_317.out; have hnc14 := NB317_316.out; have hcz15_0 : w13.cell? ⟨gb316, 0, none⟩ = some (.int .i64 a1_0) := bc BK316 0; have hcz15_1 : w13.cell? ⟨gb316, 1, none⟩ = some (.int .i64 a1_1) := bc BK316 1; have hfz15_0 := blk_frozen BK316.out 0; have hfz15_1 := blk_frozen BK316.out 1))) | (go_at_call 121; (with_reducible refine (impl_RestOk.calls a1_0 a1_1 t319 _ A9.out).mono ?_); rintro e w16 ⟨rfl, hb⟩; have n0_ := Aside0.mk (blk_below (g := gb315) (o := b2 a0_0 a0_1 90) (bz BK315.out) hb); have n1_ := Aside0.mk (blk_below (g := gb316) (o := b2 a1_0 a1_1 90) (bz BK316.out) hb); have n2_ := Aside0.mk (blk_below (g := gb317) (o := b2 0 0 90) (bz BK317.out) hb); have n3_ := Aside0.mk (below_step (hz3 HB.out GE315.out GE316.out GE317.out) hb); clear BK315; clear BK316; clear BK317; clear HB; have BK315 := n0_; have BK316 := n1_; have BK317 := n2_; have HB := n3_; clear n0_ n1_ n2_ n3_; (try clear hb); (try clear hb2); (try clear hk); (try clear hi))))
   go_meet
   case rel => exact ⟨_, (!t319), (by first | rfl | (simp; done) | (simp [*]; done)), H', ⟨by first | omega | exact Nat.le_refl _⟩, ⟨bz BK315.out⟩, ⟨bz BK316.out⟩, ⟨bz BK317.out⟩, ⟨hz3 HB.out GE315.out GE316.out GE317.out⟩⟩
  ·replace c8 := Bool.eq_false_iff.mpr c8
   subst c8
   have H1 : (impl_RestMeet.j0 k true a0_0 a0_1 a1_0 a1_1) = some (r1, r2, r3) := by rw [if_neg (show ¬ (false = true) by decide)] at H; exact H
   clear H
   have H := H1
   clear H1
   have H' := Aside0.mk H
   clear H
   have hnb17 := NB315_316.out
   have hnc17 := NB316_315.out
   have hnb18 := NB315_317.out
   have hnc18 := NB317_315.out
   have hcz19_0 : w6.cell? ⟨gb315, 0, none⟩ = some (.int .i64 a0_0) := bc BK315 0
   have hcz19_1 : w6.cell? ⟨gb315, 1, none⟩ = some (.int .i64 a0_1) := bc BK315 1
   have hfz19_0 := blk_frozen BK315.out 0
   have hfz19_1 := blk_frozen BK315.out 1
   go_wp2_with (first | (go_at_call 121; (with_reducible refine (impl_RestOk.calls a0_0 a0_1 false _ A7.out).mono ?_); rintro e w20 ⟨rfl, hb⟩; have n0_ := Aside0.mk (blk_below (g := gb315) (o := b2 a0_0 a0_1 90) (bz BK315.out) hb); have n1_ := Aside0.mk (blk_below (g := gb316) (o := b2 a1_0 a1_1 90) (bz BK316.out) hb); have n2_ := Aside0.mk (blk_below (g := gb317) (o := b2 0 0 90) (bz BK317.out) hb); have n3_ := Aside0.mk (below_step (hz3 HB.out GE315.out GE316.out GE317.out) hb); clear BK315; clear BK316; clear BK317; clear HB; have BK315 := n0_; have BK316 := n1_; have BK317 := n2_; have HB := n3_; clear n0_ n1_ n2_ n3_; (try clear hb); (try clear hb2); (try clear hk); (try clear hi)))
   repeat (go_quiet (first | (go_at_call 121; (with_reducible refine (impl_RestOk.calls a0_0 a0_1 false _ A7.out).mono ?_); rintro e w20 ⟨rfl, hb⟩; have n0_ := Aside0.mk (blk_below (g := gb315) (o := b2 a0_0 a0_1 90) (bz BK315.out) hb); have n1_ := Aside0.mk (blk_below (g := gb316) (o := b2 a1_0 a1_1 90) (bz BK316.out) hb); have n2_ := Aside0.mk (blk_below (g := gb317) (o := b2 0 0 90) (bz BK317.out) hb); have n3_ := Aside0.mk (below_step (hz3 HB.out GE315.out GE316.out GE317.out) hb); clear BK315; clear BK316; clear BK317; clear HB; have BK315 := n0_; have BK316 := n1_; have BK317 := n2_; have HB := n3_; clear n0_ n1_ n2_ n3_; (try clear hb); (try clear hb2); (try clear hk); (try clear hi))); try go_wp2_with (first | (go_at_call 121; (with_reducible refine (impl_RestOk.calls a0_0 a0_1 false _ A7.out).mono ?_); rintro e w20 ⟨rfl, hb⟩; have n0_ := Aside0.mk (blk_below (g := gb315) (o := b2 a0_0 a0_1 90) (bz BK315.out) hb); have n1_ := Aside0.mk (blk_below (g := gb316) (o := b2 a1_0 a1_1 90) (bz BK316.out) hb); have n2_ := Aside0.mk (blk_below (g := gb317) (o := b2 0 0 90) (bz BK317.out) hb); have n3_ := Aside0.mk (below_step (hz3 HB.out GE315.out GE316.out GE317.out) hb); clear BK315; clear BK316; clear BK317; clear HB; have BK315 := n0_; have BK316 := n1_; have BK317 := n2_; have HB := n3_; clear n0_ n1_ n2_ n3_; (try clear hb); (try clear hb2); (try clear hk); (try clear hi))))
   go_meet
   case rel => exact ⟨_, (true), (by first | rfl | (simp; done) | (simp [*]; done)), H', ⟨by first | omega | exact Nat.le_refl _⟩, ⟨bz BK315.out⟩, ⟨bz BK316.out⟩, ⟨bz BK317.out⟩, ⟨hz3 HB.out GE315.out GE316.out GE317.out⟩⟩
 case rest =>
  clear HC3
  try clear c1
  try clear p2
  try clear c8
  try clear c10
  try clear c11
  try clear c14
  try clear c17
  try clear c18
  try clear hcz12_0
  try clear hcz12_1
  try clear hcz15_0
  try clear hcz15_1
  try clear hcz19_0
  try clear hcz19_1
  try clear hfz12_0
  try clear hfz12_1
  try clear hfz15_0
  try clear hfz15_1
  try clear hfz19_0
  try clear hfz19_1
  obtain ⟨kq, x16_2, rfl, HA, HJ2, BK315, BK316, BK317, HB⟩ := hcut
  cases kq with
  | zero => exact absurd HA.out (by simp [impl_RestMeet.j0])
  | succ kj2 =>
   have H := HA.out
   clear HA
   simp only [impl_RestMeet.j0] at H
   by_cases c21 : x16_2 = true
   ·subst c21
    have H1 : (some (0, 0, false)) = some (r1, r2, r3) := by rw [if_pos rfl] at H; exact H
    clear H
    have H := H1
    clear H1
    simp only [Option.some.injEq, Prod.mk.injEq] at H
    obtain ⟨rfl, rfl, rfl⟩ := H
    have hnb22 := NB317_315.out
    have hnc22 := NB315_317.out
    have hnb23 := NB317_316.out
    have hnc23 := NB316_317.out
    have hcz24_0 : wc.cell? ⟨gb317, 0, none⟩ = some (.int .i64 0) := bc BK317 0
    have hcz24_1 : wc.cell? ⟨gb317, 1, none⟩ = some (.int .i64 0) := bc BK317 1
    have hfz24_0 := blk_frozen BK317.out 0
    have hfz24_1 := blk_frozen BK317.out 1
    go_wp2
    repeat (go_quiet (fail); try go_wp2)
    refine bodyPost_ret (results_ct rfl _ _ gb317 90 #[.int .i64 0, .int .i64 0] (0, 0) _ rfl (by (with_reducible repeat (first | refine blk_drewN ?_ _ | refine blk_drew ?_ | refine blk_alloc ?_ _)); refine blk_put (cs := #[.int .i64 0, .int .i64 0]) ?_ 1 _ rfl; (with_reducible repeat (first | refine blk_drewN ?_ _ | refine blk_drew ?_ | refine blk_alloc ?_ _)); refine blk_put (cs := #[.int .i64 0, .int .i64 0]) ?_ 0 _ rfl; (with_reducible repeat (first | refine blk_drewN ?_ _ | refine blk_drew ?_ | refine blk_alloc ?_ _)); exact BK317.out) Try.underlying90 rfl (by kernel_rfl)) rfl ?_
    exact ⟨by first | rfl | (simp [errW_none, errW_some] <;> rfl) | (simp [*, errW_none, errW_some] <;> rfl), hz3 HB.out GE315.out GE316.out GE317.out⟩
   ·replace c21 := Bool.eq_false_iff.mpr c21
    subst c21
    have H1 : (if a0_0 = 0 then ((impl_RestHas.f kj2 a1_0 a1_1 a0_1).bind fun t320 => (if t320 = true then (some (a0_0, a0_1, true)) else (some (0, 0, false)))) else (if a1_0 = 0 then ((impl_RestHas.f kj2 a0_0 a0_1 a1_1).bind fun t321 => (if t321 = true then (some (a1_0, a1_1, true)) else (some (0, 0, false)))) else ((impl_restGcd.f kj2 (([a0_0, a1_0] : List Int))).bind fun t325 => (if t325 = 0 then (none) else (if (Int.tmod (wrap64 (a0_1 - a1_1)) t325) = 0 then (if a1_0 > a0_0 then (impl_RestMeet.j1 kj2 t325 a1_0 a1_1 a0_0 a0_1) else (impl_RestMeet.j1 kj2 t325 a0_0 a0_1 a1_0 a1_1)) else (some (0, 0, false))))))) = some (r1, r2, r3) := by rw [if_neg (show ¬ (false = true) by decide)] at H; exact H
    clear H
    have H := H1
    clear H1
    by_cases c25 : a0_0 = 0
    ·rw [if_pos c25] at H
     have c25b0 : (a0_0 == 0) = true := beq_iff_eq.mpr c25
     have c25b1 : (a0_0 != 0) = false := bne_eq_false_iff_eq.mpr c25
     clear c25
     replace H := Option.bind_eq_some_iff.mp H
     obtain ⟨t320, A260, H⟩ := H
     replace H : (if t320 = true then (some (a0_0, a0_1, true)) else (some (0, 0, false))) = some (r1, r2, r3) := H
     have A26 := Aside0.mk A260
     clear A260
     by_cases c27 : t320 = true
     ·subst c27
      have H1 : (some (a0_0, a0_1, true)) = some (r1, r2, r3) := by rw [if_pos rfl] at H; exact H
      clear H
      have H := H1
      clear H1
      simp only [Option.some.injEq, Prod.mk.injEq] at H
      obtain ⟨rfl, rfl, rfl⟩ := H
      have hnb28 := NB315_316.out
      have hnc28 := NB316_315.out
      have hnb29 := NB315_317.out
      have hnc29 := NB317_315.out
      have hcz30_0 : wc.cell? ⟨gb315, 0, none⟩ = some (.int .i64 a0_0) := bc BK315 0
      have hcz30_1 : wc.cell? ⟨gb315, 1, none⟩ = some (.int .i64 a0_1) := bc BK315 1
      have hfz30_0 := blk_frozen BK315.out 0
      have hfz30_1 := blk_frozen BK315.out 1
      have hnb31 := NB316_317.out
      have hnc31 := NB317_316.out
      have hcz32_0 : wc.cell? ⟨gb316, 0, none⟩ = some (.int .i64 a1_0) := bc BK316 0
      have hcz32_1 : wc.cell? ⟨gb316, 1, none⟩ = some (.int .i64 a1_1) := bc BK316 1
      have hfz32_0 := blk_frozen BK316.out 0
      have hfz32_1 := blk_frozen BK316.out 1
      go_wp2_with (first | (go_at_call 66; (with_reducible refine (impl_RestHas.calls kj2 a1_0 a1_1 a0_1 true _ A26.out).mono ?_); rintro e w33 ⟨rfl, hb⟩; have n0_ := Aside0.mk (blk_below (g := gb315) (o := b2 a0_0 a0_1 90) (bz BK315.out) hb); have n1_ := Aside0.mk (blk_below (g := gb316) (o := b2 a1_0 a1_1 90) (bz BK316.out) hb); have n2_ := Aside0.mk (blk_below (g := gb317) (o := b2 0 0 90) (bz BK317.out) hb); have n3_ := Aside0.mk (below_step (hz3 HB.out GE315.out GE316.out GE317.out) hb); clear BK315; clear BK316; clear BK317; clear HB; have BK315 := n0_; have BK316 := n1_; have BK317 := n2_; have HB := n3_; clear n0_ n1_ n2_ n3_; (try clear hb); (try clear hb2); (try clear hk); (try clear hi); have hcz34_0 : w33.cell? ⟨gb315, 0, none⟩ = some (.int .i64 a0_0) := bc BK315 0; have hcz34_1 : w33.cell? ⟨gb315, 1, none⟩ = some (.int .i64 a0_1) := bc BK315 1; have hfz34_0 := blk_frozen BK315.out 0; have hfz34_1 := blk_frozen BK315.out 1; have hcz35_0 : w33.cell? ⟨gb317, 0, none⟩ = some (.int .i64 0) := bc BK317 0; have hcz35_1 : w33.cell? ⟨gb317, 1, none⟩ = some (.int .i64 0) := bc BK317 1; have hfz35_0 := blk_frozen BK317.out 0; have hfz35_1 := blk_frozen BK317.out 1))
      try have hcz34_0 : w33.cell? ⟨gb315, 0, none⟩ = some (.int .i64 a0_0) := bc BK315 0
      try have hcz34_1 : w33.cell? ⟨gb315, 1, none⟩ = some (.int .i64 a0_1) := bc BK315 1
      try have hfz34_0 := blk_frozen BK315.out 0
      try have hfz34_1 := blk_frozen BK315.out 1
      try have hcz35_0 : w33.cell? ⟨gb317, 0, none⟩ = some (.int .i64 0) := bc BK317 0
      try have hcz35_1 : w33.cell? ⟨gb317, 1, none⟩ = some (.int .i64 0) := bc BK317 1
      try have hfz35_0 := blk_frozen BK317.out 0
      try have hfz35_1 := blk_frozen BK317.out 1
      repeat (go_quiet (first | (go_at_call 66; (with_reducible refine (impl_RestHas.calls kj2 a1_0 a1_1 a0_1 true _ A26.out).mono ?_); rintro e w33 ⟨rfl, hb⟩; have n0_ := Aside0.mk (blk_below (g := gb315) (o := b2 a0_0 a0_1 90) (bz BK315.out) hb); have n1_ := Aside0.mk (blk_below (g := gb316) (o := b2 a1_0 a1_1 90) (bz BK316.out) hb); have n2_ := Aside0.mk (blk_below (g := gb317) (o := b2 0 0 90) (bz BK317.out) hb); have n3_ := Aside0.mk (below_step (hz3 HB.out GE315.out GE316.out GE317.out) hb); clear BK315; clear BK316; clear BK317; clear HB; have BK315 := n0_; have BK316 := n1_; have BK317 := n2_; have HB := n3_; clear n0_ n1_ n2_ n3_; (try clear hb); (try clear hb2); (try clear hk); (try clear hi); (try (have hcz34_0 : w33.cell? ⟨gb315, 0, none⟩ = some (.int .i64 a0_0) := bc BK315 0; have hcz34_1 : w33.cell? ⟨gb315, 1, none⟩ = some (.int .i64 a0_1) := bc BK315 1; have hfz34_0 := blk_frozen BK315.out 0; have hfz34_1 := blk_frozen BK315.out 1; have hcz35_0 : w33.cell? ⟨gb317, 0, none⟩ = some (.int .i64 0) := bc BK317 0; have hcz35_1 : w33.cell? ⟨gb317, 1, none⟩ = some (.int .i64 0) := bc BK317 1; have hfz35_0 := blk_frozen BK317.out 0; have hfz35_1 := blk_frozen BK317.out 1)))); try go_wp2_with (first | (go_at_call 66; (with_reducible refine (impl_RestHas.calls kj2 a1_0 a1_1 a0_1 true _ A26.out).mono ?_); rintro e w33 ⟨rfl, hb⟩; have n0_ := Aside0.mk (blk_below (g := gb315) (o := b2 a0_0 a0_1 90) (bz BK315.out) hb); have n1_ := Aside0.mk (blk_below (g := gb316) (o := b2 a1_0 a1_1 90) (bz BK316.out) hb); have n2_ := Aside0.mk (blk_below (g := gb317) (o := b2 0 0 90) (bz BK317.out) hb); have n3_ := Aside0.mk (below_step (hz3 HB.out GE315.out GE316.out GE317.out) hb); clear BK315; clear BK316; clear BK317; clear HB; have BK315 := n0_; have BK316 := n1_; have BK317 := n2_; have HB := n3_; clear n0_ n1_ n2_ n3_; (try clear hb); (try clear hb2); (try clear hk); (try clear hi); (try (have hcz34_0 : w33.cell? ⟨gb315, 0, none⟩ = some (.int .i64 a0_0) := bc BK315 0; have hcz34_1 : w33.cell? ⟨gb315, 1, none⟩ = some (.int .i64 a0_1) := bc BK315 1; have hfz34_0 := blk_frozen BK315.out 0; have hfz34_1 := blk_frozen BK315.out 1; have hcz35_0 : w33.cell? ⟨gb317, 0, none⟩ = some (.int .i64 0) := bc BK317 0; have hcz35_1 : w33.cell? ⟨gb317, 1, none⟩ = some (.int .i64 0) := bc BK317 1; have hfz35_0 := blk_frozen BK317.out 0; have hfz35_1 := blk_frozen BK317.out 1)))))
      refine bodyPost_ret (results_ct rfl _ _ gb317 90 #[.int .i64 a0_0, .int .i64 a0_1] (0, 0) _ rfl (by (with_reducible repeat (first | refine blk_drewN ?_ _ | refine blk_drew ?_ | refine blk_alloc ?_ _)); refine blk_put (cs := #[.int .i64 a0_0, .int .i64 0]) ?_ 1 _ rfl; (with_reducible repeat (first | refine blk_drewN ?_ _ | refine blk_drew ?_ | refine blk_alloc ?_ _)); refine blk_put (cs := #[.int .i64 0, .int .i64 0]) ?_ 0 _ rfl; (with_reducible repeat (first | refine blk_drewN ?_ _ | refine blk_drew ?_ | refine blk_alloc ?_ _)); exact BK317.out) Try.underlying90 rfl (by kernel_rfl)) rfl ?_
      exact ⟨by first | rfl | (simp [errW_none, errW_some] <;> rfl) | (simp [*, errW_none, errW_some] <;> rfl), hz3 HB.out GE315.out GE316.out GE317.out⟩
     ·replace c27 := Bool.eq_false_iff.mpr c27
      subst c27
      have H1 : (some (0, 0, false)) = some (r1, r2, r3) := by rw [if_neg (show ¬ (false = true) by decide)] at H; exact H
      clear H
      have H := H1
      clear H1
      simp only [Option.some.injEq, Prod.mk.injEq] at H
      obtain ⟨rfl, rfl, rfl⟩ := H
      have hnb36 := NB315_316.out
      have hnc36 := NB316_315.out
      have hnb37 := NB315_317.out
      have hnc37 := NB317_315.out
      have hcz38_0 : wc.cell? ⟨gb315, 0, none⟩ = some (.int .i64 a0_0) := bc BK315 0
      have hcz38_1 : wc.cell? ⟨gb315, 1, none⟩ = some (.int .i64 a0_1) := bc BK315 1
      have hfz38_0 := blk_frozen BK315.out 0
      have hfz38_1 := blk_frozen BK315.out 1
      have hnb39 := NB316_317.out
      have hnc39 := NB317_316.out
      have hcz40_0 : wc.cell? ⟨gb316, 0, none⟩ = some (.int .i64 a1_0) := bc BK316 0
      have hcz40_1 : wc.cell? ⟨gb316, 1, none⟩ = some (.int .i64 a1_1) := bc BK316 1
      have hfz40_0 := blk_frozen BK316.out 0
      have hfz40_1 := blk_frozen BK316.out 1
      go_wp2_with (first | (go_at_call 66; (with_reducible refine (impl_RestHas.calls kj2 a1_0 a1_1 a0_1 false _ A26.out).mono ?_); rintro e w41 ⟨rfl, hb⟩; have n0_ := Aside0.mk (blk_below (g := gb315) (o := b2 a0_0 a0_1 90) (bz BK315.out) hb); have n1_ := Aside0.mk (blk_below (g := gb316) (o := b2 a1_0 a1_1 90) (bz BK316.out) hb); have n2_ := Aside0.mk (blk_below (g := gb317) (o := b2 0 0 90) (bz BK317.out) hb); have n3_ := Aside0.mk (below_step (hz3 HB.out GE315.out GE316.out GE317.out) hb); clear BK315; clear BK316; clear BK317; clear HB; have BK315 := n0_; have BK316 := n1_; have BK317 := n2_; have HB := n3_; clear n0_ n1_ n2_ n3_; (try clear hb); (try clear hb2); (try clear hk); (try clear hi); have hcz42_0 : w41.cell? ⟨gb317, 0, none⟩ = some (.int .i64 0) := bc BK317 0; have hcz42_1 : w41.cell? ⟨gb317, 1, none⟩ = some (.int .i64 0) := bc BK317 1; have hfz42_0 := blk_frozen BK317.out 0; have hfz42_1 := blk_frozen BK317.out 1))
      try have hcz42_0 : w41.cell? ⟨gb317, 0, none⟩ = some (.int .i64 0) := bc BK317 0
      try have hcz42_1 : w41.cell? ⟨gb317, 1, none⟩ = some (.int .i64 0) := bc BK317 1
      try have hfz42_0 := blk_frozen BK317.out 0
      try have hfz42_1 := blk_frozen BK317.out 1
      repeat (go_quiet (first | (go_at_call 66; (with_reducible refine (impl_RestHas.calls kj2 a1_0 a1_1 a0_1 false _ A26.out).mono ?_); rintro e w41 ⟨rfl, hb⟩; have n0_ := Aside0.mk (blk_below (g := gb315) (o := b2 a0_0 a0_1 90) (bz BK315.out) hb); have n1_ := Aside0.mk (blk_below (g := gb316) (o := b2 a1_0 a1_1 90) (bz BK316.out) hb); have n2_ := Aside0.mk (blk_below (g := gb317) (o := b2 0 0 90) (bz BK317.out) hb); have n3_ := Aside0.mk (below_step (hz3 HB.out GE315.out GE316.out GE317.out) hb); clear BK315; clear BK316; clear BK317; clear HB; have BK315 := n0_; have BK316 := n1_; have BK317 := n2_; have HB := n3_; clear n0_ n1_ n2_ n3_; (try clear hb); (try clear hb2); (try clear hk); (try clear hi); (try (have hcz42_0 : w41.cell? ⟨gb317, 0, none⟩ = some (.int .i64 0) := bc BK317 0; have hcz42_1 : w41.cell? ⟨gb317, 1, none⟩ = some (.int .i64 0) := bc BK317 1; have hfz42_0 := blk_frozen BK317.out 0; have hfz42_1 := blk_frozen BK317.out 1)))); try go_wp2_with (first | (go_at_call 66; (with_reducible refine (impl_RestHas.calls kj2 a1_0 a1_1 a0_1 false _ A26.out).mono ?_); rintro e w41 ⟨rfl, hb⟩; have n0_ := Aside0.mk (blk_below (g := gb315) (o := b2 a0_0 a0_1 90) (bz BK315.out) hb); have n1_ := Aside0.mk (blk_below (g := gb316) (o := b2 a1_0 a1_1 90) (bz BK316.out) hb); have n2_ := Aside0.mk (blk_below (g := gb317) (o := b2 0 0 90) (bz BK317.out) hb); have n3_ := Aside0.mk (below_step (hz3 HB.out GE315.out GE316.out GE317.out) hb); clear BK315; clear BK316; clear BK317; clear HB; have BK315 := n0_; have BK316 := n1_; have BK317 := n2_; have HB := n3_; clear n0_ n1_ n2_ n3_; (try clear hb); (try clear hb2); (try clear hk); (try clear hi); (try (have hcz42_0 : w41.cell? ⟨gb317, 0, none⟩ = some (.int .i64 0) := bc BK317 0; have hcz42_1 : w41.cell? ⟨gb317, 1, none⟩ = some (.int .i64 0) := bc BK317 1; have hfz42_0 := blk_frozen BK317.out 0; have hfz42_1 := blk_frozen BK317.out 1)))))
      refine bodyPost_ret (results_ct rfl _ _ gb317 90 #[.int .i64 0, .int .i64 0] (0, 0) _ rfl (by (with_reducible repeat (first | refine blk_drewN ?_ _ | refine blk_drew ?_ | refine blk_alloc ?_ _)); refine blk_put (cs := #[.int .i64 0, .int .i64 0]) ?_ 1 _ rfl; (with_reducible repeat (first | refine blk_drewN ?_ _ | refine blk_drew ?_ | refine blk_alloc ?_ _)); refine blk_put (cs := #[.int .i64 0, .int .i64 0]) ?_ 0 _ rfl; (with_reducible repeat (first | refine blk_drewN ?_ _ | refine blk_drew ?_ | refine blk_alloc ?_ _)); exact BK317.out) Try.underlying90 rfl (by kernel_rfl)) rfl ?_
      exact ⟨by first | rfl | (simp [errW_none, errW_some] <;> rfl) | (simp [*, errW_none, errW_some] <;> rfl), hz3 HB.out GE315.out GE316.out GE317.out⟩
    ·rw [if_neg c25] at H
     have c25b0 : (a0_0 == 0) = false := beq_eq_false_iff_ne.mpr c25
     have c25b1 : (a0_0 != 0) = true := bne_iff_ne.mpr c25
     by_cases c43 : a1_0 = 0
     ·rw [if_pos c43] at H
      have c43b0 : (a1_0 == 0) = true := beq_iff_eq.mpr c43
      have c43b1 : (a1_0 != 0) = false := bne_eq_false_iff_eq.mpr c43
      clear c43
      replace H := Option.bind_eq_some_iff.mp H
      obtain ⟨t321, A440, H⟩ := H
      replace H : (if t321 = true then (some (a1_0, a1_1, true)) else (some (0, 0, false))) = some (r1, r2, r3) := H
      have A44 := Aside0.mk A440
      clear A440
      by_cases c45 : t321 = true
      ·subst c45
       have H1 : (some (a1_0, a1_1, true)) = some (r1, r2, r3) := by rw [if_pos rfl] at H; exact H
       clear H
       have H := H1
       clear H1
       simp only [Option.some.injEq, Prod.mk.injEq] at H
       obtain ⟨rfl, rfl, rfl⟩ := H
       have hnb46 := NB315_316.out
       have hnc46 := NB316_315.out
       have hnb47 := NB315_317.out
       have hnc47 := NB317_315.out
       have hcz48_0 : wc.cell? ⟨gb315, 0, none⟩ = some (.int .i64 a0_0) := bc BK315 0
       have hcz48_1 : wc.cell? ⟨gb315, 1, none⟩ = some (.int .i64 a0_1) := bc BK315 1
       have hfz48_0 := blk_frozen BK315.out 0
       have hfz48_1 := blk_frozen BK315.out 1
       have hnb49 := NB316_317.out
       have hnc49 := NB317_316.out
       have hcz50_0 : wc.cell? ⟨gb316, 0, none⟩ = some (.int .i64 a1_0) := bc BK316 0
       have hcz50_1 : wc.cell? ⟨gb316, 1, none⟩ = some (.int .i64 a1_1) := bc BK316 1
       have hfz50_0 := blk_frozen BK316.out 0
       have hfz50_1 := blk_frozen BK316.out 1
       go_wp2_with (first | (go_at_call 66; (with_reducible refine (impl_RestHas.calls kj2 a0_0 a0_1 a1_1 true _ A44.out).mono ?_); rintro e w51 ⟨rfl, hb⟩; have n0_ := Aside0.mk (blk_below (g := gb315) (o := b2 a0_0 a0_1 90) (bz BK315.out) hb); have n1_ := Aside0.mk (blk_below (g := gb316) (o := b2 a1_0 a1_1 90) (bz BK316.out) hb); have n2_ := Aside0.mk (blk_below (g := gb317) (o := b2 0 0 90) (bz BK317.out) hb); have n3_ := Aside0.mk (below_step (hz3 HB.out GE315.out GE316.out GE317.out) hb); clear BK315; clear BK316; clear BK317; clear HB; have BK315 := n0_; have BK316 := n1_; have BK317 := n2_; have HB := n3_; clear n0_ n1_ n2_ n3_; (try clear hb); (try clear hb2); (try clear hk); (try clear hi); have hcz52_0 : w51.cell? ⟨gb316, 0, none⟩ = some (.int .i64 a1_0) := bc BK316 0; have hcz52_1 : w51.cell? ⟨gb316, 1, none⟩ = some (.int .i64 a1_1) := bc BK316 1; have hfz52_0 := blk_frozen BK316.out 0; have hfz52_1 := blk_frozen BK316.out 1; have hcz53_0 : w51.cell? ⟨gb317, 0, none⟩ = some (.int .i64 0) := bc BK317 0; have hcz53_1 : w51.cell? ⟨gb317, 1, none⟩ = some (.int .i64 0) := bc BK317 1; have hfz53_0 := blk_frozen BK317.out 0; have hfz53_1 := blk_frozen BK317.out 1))
       try have hcz52_0 : w51.cell? ⟨gb316, 0, none⟩ = some (.int .i64 a1_0) := bc BK316 0
       try have hcz52_1 : w51.cell? ⟨gb316, 1, none⟩ = some (.int .i64 a1_1) := bc BK316 1
       try have hfz52_0 := blk_frozen BK316.out 0
       try have hfz52_1 := blk_frozen BK316.out 1
       try have hcz53_0 : w51.cell? ⟨gb317, 0, none⟩ = some (.int .i64 0) := bc BK317 0
       try have hcz53_1 : w51.cell? ⟨gb317, 1, none⟩ = some (.int .i64 0) := bc BK317 1
       try have hfz53_0 := blk_frozen BK317.out 0
       try have hfz53_1 := blk_frozen BK317.out 1
       repeat (go_quiet (first | (go_at_call 66; (with_reducible refine (impl_RestHas.calls kj2 a0_0 a0_1 a1_1 true _ A44.out).mono ?_); rintro e w51 ⟨rfl, hb⟩; have n0_ := Aside0.mk (blk_below (g := gb315) (o := b2 a0_0 a0_1 90) (bz BK315.out) hb); have n1_ := Aside0.mk (blk_below (g := gb316) (o := b2 a1_0 a1_1 90) (bz BK316.out) hb); have n2_ := Aside0.mk (blk_below (g := gb317) (o := b2 0 0 90) (bz BK317.out) hb); have n3_ := Aside0.mk (below_step (hz3 HB.out GE315.out GE316.out GE317.out) hb); clear BK315; clear BK316; clear BK317; clear HB; have BK315 := n0_; have BK316 := n1_; have BK317 := n2_; have HB := n3_; clear n0_ n1_ n2_ n3_; (try clear hb); (try clear hb2); (try clear hk); (try clear hi); (try (have hcz52_0 : w51.cell? ⟨gb316, 0, none⟩ = some (.int .i64 a1_0) := bc BK316 0; have hcz52_1 : w51.cell? ⟨gb316, 1, none⟩ = some (.int .i64 a1_1) := bc BK316 1; have hfz52_0 := blk_frozen BK316.out 0; have hfz52_1 := blk_frozen BK316.out 1; have hcz53_0 : w51.cell? ⟨gb317, 0, none⟩ = some (.int .i64 0) := bc BK317 0; have hcz53_1 : w51.cell? ⟨gb317, 1, none⟩ = some (.int .i64 0) := bc BK317 1; have hfz53_0 := blk_frozen BK317.out 0; have hfz53_1 := blk_frozen BK317.out 1)))); try go_wp2_with (first | (go_at_call 66; (with_reducible refine (impl_RestHas.calls kj2 a0_0 a0_1 a1_1 true _ A44.out).mono ?_); rintro e w51 ⟨rfl, hb⟩; have n0_ := Aside0.mk (blk_below (g := gb315) (o := b2 a0_0 a0_1 90) (bz BK315.out) hb); have n1_ := Aside0.mk (blk_below (g := gb316) (o := b2 a1_0 a1_1 90) (bz BK316.out) hb); have n2_ := Aside0.mk (blk_below (g := gb317) (o := b2 0 0 90) (bz BK317.out) hb); have n3_ := Aside0.mk (below_step (hz3 HB.out GE315.out GE316.out GE317.out) hb); clear BK315; clear BK316; clear BK317; clear HB; have BK315 := n0_; have BK316 := n1_; have BK317 := n2_; have HB := n3_; clear n0_ n1_ n2_ n3_; (try clear hb); (try clear hb2); (try clear hk); (try clear hi); (try (have hcz52_0 : w51.cell? ⟨gb316, 0, none⟩ = some (.int .i64 a1_0) := bc BK316 0; have hcz52_1 : w51.cell? ⟨gb316, 1, none⟩ = some (.int .i64 a1_1) := bc BK316 1; have hfz52_0 := blk_frozen BK316.out 0; have hfz52_1 := blk_frozen BK316.out 1; have hcz53_0 : w51.cell? ⟨gb317, 0, none⟩ = some (.int .i64 0) := bc BK317 0; have hcz53_1 : w51.cell? ⟨gb317, 1, none⟩ = some (.int .i64 0) := bc BK317 1; have hfz53_0 := blk_frozen BK317.out 0; have hfz53_1 := blk_frozen BK317.out 1)))))
       refine bodyPost_ret (results_ct rfl _ _ gb317 90 #[.int .i64 a1_0, .int .i64 a1_1] (0, 0) _ rfl (by (with_reducible repeat (first | refine blk_drewN ?_ _ | refine blk_drew ?_ | refine blk_alloc ?_ _)); refine blk_put (cs := #[.int .i64 a1_0, .int .i64 0]) ?_ 1 _ rfl; (with_reducible repeat (first | refine blk_drewN ?_ _ | refine blk_drew ?_ | refine blk_alloc ?_ _)); refine blk_put (cs := #[.int .i64 0, .int .i64 0]) ?_ 0 _ rfl; (with_reducible repeat (first | refine blk_drewN ?_ _ | refine blk_drew ?_ | refine blk_alloc ?_ _)); exact BK317.out) Try.underlying90 rfl (by kernel_rfl)) rfl ?_
       exact ⟨by first | rfl | (simp [errW_none, errW_some] <;> rfl) | (simp [*, errW_none, errW_some] <;> rfl), hz3 HB.out GE315.out GE316.out GE317.out⟩
      ·replace c45 := Bool.eq_false_iff.mpr c45
       subst c45
       have H1 : (some (0, 0, false)) = some (r1, r2, r3) := by rw [if_neg (show ¬ (false = true) by decide)] at H; exact H
       clear H
       have H := H1
       clear H1
       simp only [Option.some.injEq, Prod.mk.injEq] at H
       obtain ⟨rfl, rfl, rfl⟩ := H
       have hnb54 := NB315_316.out
       have hnc54 := NB316_315.out
       have hnb55 := NB315_317.out
       have hnc55 := NB317_315.out
       have hcz56_0 : wc.cell? ⟨gb315, 0, none⟩ = some (.int .i64 a0_0) := bc BK315 0
       have hcz56_1 : wc.cell? ⟨gb315, 1, none⟩ = some (.int .i64 a0_1) := bc BK315 1
       have hfz56_0 := blk_frozen BK315.out 0
       have hfz56_1 := blk_frozen BK315.out 1
       have hnb57 := NB316_317.out
       have hnc57 := NB317_316.out
       have hcz58_0 : wc.cell? ⟨gb316, 0, none⟩ = some (.int .i64 a1_0) := bc BK316 0
       have hcz58_1 : wc.cell? ⟨gb316, 1, none⟩ = some (.int .i64 a1_1) := bc BK316 1
       have hfz58_0 := blk_frozen BK316.out 0
       have hfz58_1 := blk_frozen BK316.out 1
       go_wp2_with (first | (go_at_call 66; (with_reducible refine (impl_RestHas.calls kj2 a0_0 a0_1 a1_1 false _ A44.out).mono ?_); rintro e w59 ⟨rfl, hb⟩; have n0_ := Aside0.mk (blk_below (g := gb315) (o := b2 a0_0 a0_1 90) (bz BK315.out) hb); have n1_ := Aside0.mk (blk_below (g := gb316) (o := b2 a1_0 a1_1 90) (bz BK316.out) hb); have n2_ := Aside0.mk (blk_below (g := gb317) (o := b2 0 0 90) (bz BK317.out) hb); have n3_ := Aside0.mk (below_step (hz3 HB.out GE315.out GE316.out GE317.out) hb); clear BK315; clear BK316; clear BK317; clear HB; have BK315 := n0_; have BK316 := n1_; have BK317 := n2_; have HB := n3_; clear n0_ n1_ n2_ n3_; (try clear hb); (try clear hb2); (try clear hk); (try clear hi); have hcz60_0 : w59.cell? ⟨gb317, 0, none⟩ = some (.int .i64 0) := bc BK317 0; have hcz60_1 : w59.cell? ⟨gb317, 1, none⟩ = some (.int .i64 0) := bc BK317 1; have hfz60_0 := blk_frozen BK317.out 0; have hfz60_1 := blk_frozen BK317.out 1))
       try have hcz60_0 : w59.cell? ⟨gb317, 0, none⟩ = some (.int .i64 0) := bc BK317 0
       try have hcz60_1 : w59.cell? ⟨gb317, 1, none⟩ = some (.int .i64 0) := bc BK317 1
       try have hfz60_0 := blk_frozen BK317.out 0
       try have hfz60_1 := blk_frozen BK317.out 1
       repeat (go_quiet (first | (go_at_call 66; (with_reducible refine (impl_RestHas.calls kj2 a0_0 a0_1 a1_1 false _ A44.out).mono ?_); rintro e w59 ⟨rfl, hb⟩; have n0_ := Aside0.mk (blk_below (g := gb315) (o := b2 a0_0 a0_1 90) (bz BK315.out) hb); have n1_ := Aside0.mk (blk_below (g := gb316) (o := b2 a1_0 a1_1 90) (bz BK316.out) hb); have n2_ := Aside0.mk (blk_below (g := gb317) (o := b2 0 0 90) (bz BK317.out) hb); have n3_ := Aside0.mk (below_step (hz3 HB.out GE315.out GE316.out GE317.out) hb); clear BK315; clear BK316; clear BK317; clear HB; have BK315 := n0_; have BK316 := n1_; have BK317 := n2_; have HB := n3_; clear n0_ n1_ n2_ n3_; (try clear hb); (try clear hb2); (try clear hk); (try clear hi); (try (have hcz60_0 : w59.cell? ⟨gb317, 0, none⟩ = some (.int .i64 0) := bc BK317 0; have hcz60_1 : w59.cell? ⟨gb317, 1, none⟩ = some (.int .i64 0) := bc BK317 1; have hfz60_0 := blk_frozen BK317.out 0; have hfz60_1 := blk_frozen BK317.out 1)))); try go_wp2_with (first | (go_at_call 66; (with_reducible refine (impl_RestHas.calls kj2 a0_0 a0_1 a1_1 false _ A44.out).mono ?_); rintro e w59 ⟨rfl, hb⟩; have n0_ := Aside0.mk (blk_below (g := gb315) (o := b2 a0_0 a0_1 90) (bz BK315.out) hb); have n1_ := Aside0.mk (blk_below (g := gb316) (o := b2 a1_0 a1_1 90) (bz BK316.out) hb); have n2_ := Aside0.mk (blk_below (g := gb317) (o := b2 0 0 90) (bz BK317.out) hb); have n3_ := Aside0.mk (below_step (hz3 HB.out GE315.out GE316.out GE317.out) hb); clear BK315; clear BK316; clear BK317; clear HB; have BK315 := n0_; have BK316 := n1_; have BK317 := n2_; have HB := n3_; clear n0_ n1_ n2_ n3_; (try clear hb); (try clear hb2); (try clear hk); (try clear hi); (try (have hcz60_0 : w59.cell? ⟨gb317, 0, none⟩ = some (.int .i64 0) := bc BK317 0; have hcz60_1 : w59.cell? ⟨gb317, 1, none⟩ = some (.int .i64 0) := bc BK317 1; have hfz60_0 := blk_frozen BK317.out 0; have hfz60_1 := blk_frozen BK317.out 1)))))
       refine bodyPost_ret (results_ct rfl _ _ gb317 90 #[.int .i64 0, .int .i64 0] (0, 0) _ rfl (by (with_reducible repeat (first | refine blk_drewN ?_ _ | refine blk_drew ?_ | refine blk_alloc ?_ _)); refine blk_put (cs := #[.int .i64 0, .int .i64 0]) ?_ 1 _ rfl; (with_reducible repeat (first | refine blk_drewN ?_ _ | refine blk_drew ?_ | refine blk_alloc ?_ _)); refine blk_put (cs := #[.int .i64 0, .int .i64 0]) ?_ 0 _ rfl; (with_reducible repeat (first | refine blk_drewN ?_ _ | refine blk_drew ?_ | refine blk_alloc ?_ _)); exact BK317.out) Try.underlying90 rfl (by kernel_rfl)) rfl ?_
       exact ⟨by first | rfl | (simp [errW_none, errW_some] <;> rfl) | (simp [*, errW_none, errW_some] <;> rfl), hz3 HB.out GE315.out GE316.out GE317.out⟩
     ·rw [if_neg c43] at H
      have c43b0 : (a1_0 == 0) = false := beq_eq_false_iff_ne.mpr c43
      have c43b1 : (a1_0 != 0) = true := bne_iff_ne.mpr c43
      obtain ⟨y322, hy322⟩ : ∃ y_ : List Int, y_ = (([a0_0, a1_0] : List Int)) := ⟨_, rfl⟩
      replace H : ((impl_restGcd.f kj2 y322).bind fun t325 => (if t325 = 0 then (none) else (if (Int.tmod (wrap64 (a0_1 - a1_1)) t325) = 0 then (if a1_0 > a0_0 then (impl_RestMeet.j1 kj2 t325 a1_0 a1_1 a0_0 a0_1) else (impl_RestMeet.j1 kj2 t325 a0_0 a0_1 a1_0 a1_1)) else (some (0, 0, false))))) = some (r1, r2, r3) := by first | (rw [hy322]; with_reducible exact H) | (have H2_ := (Option.bind_some _ _).symm.trans H; rw [hy322]; with_reducible exact H2_) | (have H2_ := (Option.bind_some _ _).symm.trans H; with_reducible exact H2_) | with_reducible exact H | (rw [hy322]; exact H) | exact H
      have Ny322 := Aside0.mk hy322
      clear hy322
      replace H := Option.bind_eq_some_iff.mp H
      obtain ⟨t325, A610, H⟩ := H
      replace H : (if t325 = 0 then (none) else (if (Int.tmod (wrap64 (a0_1 - a1_1)) t325) = 0 then (if a1_0 > a0_0 then (impl_RestMeet.j1 kj2 t325 a1_0 a1_1 a0_0 a0_1) else (impl_RestMeet.j1 kj2 t325 a0_0 a0_1 a1_0 a1_1)) else (some (0, 0, false)))) = some (r1, r2, r3) := H
      have A61 := Aside0.mk A610
      clear A610
      by_cases c62 : t325 = 0
      ·rw [if_pos c62] at H
       exact absurd H (by simp)
      ·rw [if_neg c62] at H
       have c62b0 : (t325 == 0) = false := beq_eq_false_iff_ne.mpr c62
       have c62b1 : (t325 != 0) = true := bne_iff_ne.mpr c62
       by_cases c63 : (Int.tmod (wrap64 (a0_1 - a1_1)) t325) = 0
       ·rw [if_pos c63] at H
        have c63b0 : ((Int.tmod (wrap64 (a0_1 - a1_1)) t325) == 0) = true := beq_iff_eq.mpr c63
        have c63b1 : ((Int.tmod (wrap64 (a0_1 - a1_1)) t325) != 0) = false := bne_eq_false_iff_eq.mpr c63
        clear c63
        have HC64 := Aside0.mk H
        clear H
        have hnb65 := NB315_316.out
        have hnc65 := NB316_315.out
        have hnb66 := NB315_317.out
        have hnc66 := NB317_315.out
        have hcz67_0 : wc.cell? ⟨gb315, 0, none⟩ = some (.int .i64 a0_0) := bc BK315 0
        have hcz67_1 : wc.cell? ⟨gb315, 1, none⟩ = some (.int .i64 a0_1) := bc BK315 1
        have hfz67_0 := blk_frozen BK315.out 0
        have hfz67_1 := blk_frozen BK315.out 1
        have hnb68 := NB316_317.out
        have hnc68 := NB317_316.out
        have hcz69_0 : wc.cell? ⟨gb316, 0, none⟩ = some (.int .i64 a1_0) := bc BK316 0
        have hcz69_1 : wc.cell? ⟨gb316, 1, none⟩ = some (.int .i64 a1_1) := bc BK316 1
        have hfz69_0 := blk_frozen BK316.out 0
        have hfz69_1 := blk_frozen BK316.out 1
        go_upto_if 55 with (first | ((with_reducible refine gate_dst (N := 40) rfl ?_); refine Kd.R_lit (Kd.int .i64) _ 3 ?hg (N := 40) ?hd (xs := ([a0_0, a1_0] : List Int)) (inner := [.int .i64 a0_0, .int .i64 a1_0]) (ok := fun _ => True) (okp := fun _ => True) ?hr ?hp (fun _ hk => hk) trivial (Below.refl _ _) (Nat.le_refl _) (by simp) ?_; (case hd => rfl); (case hg => rfl); (case hr => first | (go_simp; done) | (go_simp; rfl)); (case hp => exact (Reps.one (show Kd.M (Kd.int .i64) _ _ _ a0_0 [.int .i64 a0_0] from rfl) (Reps.one (show Kd.M (Kd.int .i64) _ _ _ a1_0 [.int .i64 a1_0] from rfl) (Reps.none _ _)))); intro v323 w70 ho71 hb hg_ hnew_; clear hg_ hnew_; (first | rw [← Ny322.out] at ho71 | (simp only [Int.reduceToNat] at ho71; rw [← Ny322.out] at ho71)); have n0_ := Aside0.mk (Kd.R_lower ho71 (below_size (hz3 HB.out GE315.out GE316.out GE317.out))); have n1_ := Aside0.mk (blk_below (g := gb315) (o := b2 a0_0 a0_1 90) (bz BK315.out) hb); have n2_ := Aside0.mk (blk_below (g := gb316) (o := b2 a1_0 a1_1 90) (bz BK316.out) hb); have n3_ := Aside0.mk (blk_below (g := gb317) (o := b2 0 0 90) (bz BK317.out) hb); have n4_ := Aside0.mk (below_step (hz3 HB.out GE315.out GE316.out GE317.out) hb); clear BK315; clear BK316; clear BK317; clear HB; have HO324 := n0_; have BK315 := n1_; have BK316 := n2_; have BK317 := n3_; have HB := n4_; clear n0_ n1_ n2_ n3_ n4_; clear hb ho71; obtain ⟨Ao72, co72, eo72⟩ := Kd.R_slice HO324.out; subst eo72) | (go_at_call 135; (with_reducible refine (impl_restGcd.calls kj2 _ _ y322 t325 _ ?side1 ?side2 A61.out).mono ?_); (case side1 => repeat (first | exact (Kd.R_reads' HO324.out).2.2 | (with_reducible refine Kd.C_alloc ?_ _) | (with_reducible refine Kd.C_drewN ?_ _) | (with_reducible refine Kd.C_drew ?_))); (case side2 => exact (Kd.R_reads' HO324.out).2.1); rintro e w' ⟨rfl, ⟨nd, rfl⟩⟩; (try first | exact ⟨rfl, _, World.drewN_drewN _ _ _⟩ | exact ⟨rfl, _, Eq.trans (World.drewN_drewN _ _ _) (congrArg (World.drewN _) (Nat.add_assoc _ _ _))⟩); have hcz73_0 : w70.cell? ⟨gb315, 0, none⟩ = some (.int .i64 a0_0) := bc BK315 0; have hcz73_1 : w70.cell? ⟨gb315, 1, none⟩ = some (.int .i64 a0_1) := bc BK315 1; have hfz73_0 := blk_frozen BK315.out 0; have hfz73_1 := blk_frozen BK315.out 1; have hcz74_0 : w70.cell? ⟨gb316, 0, none⟩ = some (.int .i64 a1_0) := bc BK316 0; have hcz74_1 : w70.cell? ⟨gb316, 1, none⟩ = some (.int .i64 a1_1) := bc BK316 1; have hfz74_0 := blk_frozen BK316.out 0; have hfz74_1 := blk_frozen BK316.out 1))
        try have hcz73_0 : w70.cell? ⟨gb315, 0, none⟩ = some (.int .i64 a0_0) := bc BK315 0
        try have hcz73_1 : w70.cell? ⟨gb315, 1, none⟩ = some (.int .i64 a0_1) := bc BK315 1
        try have hfz73_0 := blk_frozen BK315.out 0
        try have hfz73_1 := blk_frozen BK315.out 1
        try have hcz74_0 : w70.cell? ⟨gb316, 0, none⟩ = some (.int .i64 a1_0) := bc BK316 0
        try have hcz74_1 : w70.cell? ⟨gb316, 1, none⟩ = some (.int .i64 a1_1) := bc BK316 1
        try have hfz74_0 := blk_frozen BK316.out 0
        try have hfz74_1 := blk_frozen BK316.out 1
        repeat (go_quiet (first | ((with_reducible refine gate_dst (N := 40) rfl ?_); refine Kd.R_lit (Kd.int .i64) _ 3 ?hg (N := 40) ?hd (xs := ([a0_0, a1_0] : List Int)) (inner := [.int .i64 a0_0, .int .i64 a1_0]) (ok := fun _ => True) (okp := fun _ => True) ?hr ?hp (fun _ hk => hk) trivial (Below.refl _ _) (Nat.le_refl _) (by simp) ?_; (case hd => rfl); (case hg => rfl); (case hr => first | (go_simp; done) | (go_simp; rfl)); (case hp => exact (Reps.one (show Kd.M (Kd.int .i64) _ _ _ a0_0 [.int .i64 a0_0] from rfl) (Reps.one (show Kd.M (Kd.int .i64) _ _ _ a1_0 [.int .i64 a1_0] from rfl) (Reps.none _ _)))); intro v323 w70 ho71 hb hg_ hnew_; clear hg_ hnew_; (first | rw [← Ny322.out] at ho71 | (simp only [Int.reduceToNat] at ho71; rw [← Ny322.out] at ho71)); have n0_ := Aside0.mk (Kd.R_lower ho71 (below_size (hz3 HB.out GE315.out GE316.out GE317.out))); have n1_ := Aside0.mk (blk_below (g := gb315) (o := b2 a0_0 a0_1 90) (bz BK315.out) hb); have n2_ := Aside0.mk (blk_below (g := gb316) (o := b2 a1_0 a1_1 90) (bz BK316.out) hb); have n3_ := Aside0.mk (blk_below (g := gb317) (o := b2 0 0 90) (bz BK317.out) hb); have n4_ := Aside0.mk (below_step (hz3 HB.out GE315.out GE316.out GE317.out) hb); clear BK315; clear BK316; clear BK317; clear HB; have HO324 := n0_; have BK315 := n1_; have BK316 := n2_; have BK317 := n3_; have HB := n4_; clear n0_ n1_ n2_ n3_ n4_; clear hb ho71; obtain ⟨Ao72, co72, eo72⟩ := Kd.R_slice HO324.out; subst eo72) | (go_at_call 135; (with_reducible refine (impl_restGcd.calls kj2 _ _ y322 t325 _ ?side1 ?side2 A61.out).mono ?_); (case side1 => repeat (first | exact (Kd.R_reads' HO324.out).2.2 | (with_reducible refine Kd.C_alloc ?_ _) | (with_reducible refine Kd.C_drewN ?_ _) | (with_reducible refine Kd.C_drew ?_))); (case side2 => exact (Kd.R_reads' HO324.out).2.1); rintro e w' ⟨rfl, ⟨nd, rfl⟩⟩; (try first | exact ⟨rfl, _, World.drewN_drewN _ _ _⟩ | exact ⟨rfl, _, Eq.trans (World.drewN_drewN _ _ _) (congrArg (World.drewN _) (Nat.add_assoc _ _ _))⟩); (try (have hcz73_0 : w70.cell? ⟨gb315, 0, none⟩ = some (.int .i64 a0_0) := bc BK315 0; have hcz73_1 : w70.cell? ⟨gb315, 1, none⟩ = some (.int .i64 a0_1) := bc BK315 1; have hfz73_0 := blk_frozen BK315.out 0; have hfz73_1 := blk_frozen BK315.out 1; have hcz74_0 : w70.cell? ⟨gb316, 0, none⟩ = some (.int .i64 a1_0) := bc BK316 0; have hcz74_1 : w70.cell? ⟨gb316, 1, none⟩ = some (.int .i64 a1_1) := bc BK316 1; have hfz74_0 := blk_frozen BK316.out 0; have hfz74_1 := blk_frozen BK316.out 1)))); go_upto_if 55 with (first | ((with_reducible refine gate_dst (N := 40) rfl ?_); refine Kd.R_lit (Kd.int .i64) _ 3 ?hg (N := 40) ?hd (xs := ([a0_0, a1_0] : List Int)) (inner := [.int .i64 a0_0, .int .i64 a1_0]) (ok := fun _ => True) (okp := fun _ => True) ?hr ?hp (fun _ hk => hk) trivial (Below.refl _ _) (Nat.le_refl _) (by simp) ?_; (case hd => rfl); (case hg => rfl); (case hr => first | (go_simp; done) | (go_simp; rfl)); (case hp => exact (Reps.one (show Kd.M (Kd.int .i64) _ _ _ a0_0 [.int .i64 a0_0] from rfl) (Reps.one (show Kd.M (Kd.int .i64) _ _ _ a1_0 [.int .i64 a1_0] from rfl) (Reps.none _ _)))); intro v323 w70 ho71 hb hg_ hnew_; clear hg_ hnew_; (first | rw [← Ny322.out] at ho71 | (simp only [Int.reduceToNat] at ho71; rw [← Ny322.out] at ho71)); have n0_ := Aside0.mk (Kd.R_lower ho71 (below_size (hz3 HB.out GE315.out GE316.out GE317.out))); have n1_ := Aside0.mk (blk_below (g := gb315) (o := b2 a0_0 a0_1 90) (bz BK315.out) hb); have n2_ := Aside0.mk (blk_below (g := gb316) (o := b2 a1_0 a1_1 90) (bz BK316.out) hb); have n3_ := Aside0.mk (blk_below (g := gb317) (o := b2 0 0 90) (bz BK317.out) hb); have n4_ := Aside0.mk (below_step (hz3 HB.out GE315.out GE316.out GE317.out) hb); clear BK315; clear BK316; clear BK317; clear HB; have HO324 := n0_; have BK315 := n1_; have BK316 := n2_; have BK317 := n3_; have HB := n4_; clear n0_ n1_ n2_ n3_ n4_; clear hb ho71; obtain ⟨Ao72, co72, eo72⟩ := Kd.R_slice HO324.out; subst eo72) | (go_at_call 135; (with_reducible refine (impl_restGcd.calls kj2 _ _ y322 t325 _ ?side1 ?side2 A61.out).mono ?_); (case side1 => repeat (first | exact (Kd.R_reads' HO324.out).2.2 | (with_reducible refine Kd.C_alloc ?_ _) | (with_reducible refine Kd.C_drewN ?_ _) | (with_reducible refine Kd.C_drew ?_))); (case side2 => exact (Kd.R_reads' HO324.out).2.1); rintro e w' ⟨rfl, ⟨nd, rfl⟩⟩; (try first | exact ⟨rfl, _, World.drewN_drewN _ _ _⟩ | exact ⟨rfl, _, Eq.trans (World.drewN_drewN _ _ _) (congrArg (World.drewN _) (Nat.add_assoc _ _ _))⟩); (try (have hcz73_0 : w70.cell? ⟨gb315, 0, none⟩ = some (.int .i64 a0_0) := bc BK315 0; have hcz73_1 : w70.cell? ⟨gb315, 1, none⟩ = some (.int .i64 a0_1) := bc BK315 1; have hfz73_0 := blk_frozen BK315.out 0; have hfz73_1 := blk_frozen BK315.out 1; have hcz74_0 : w70.cell? ⟨gb316, 0, none⟩ = some (.int .i64 a1_0) := bc BK316 0; have hcz74_1 : w70.cell? ⟨gb316, 1, none⟩ = some (.int .i64 a1_1) := bc BK316 1; have hfz74_0 := blk_frozen BK316.out 0; have hfz74_1 := blk_frozen BK316.out 1)))))
        (try simp only [Act.put, List.setIfInBounds_toArray, List.set_cons_zero, List.set_cons_succ])
        go_cut [] (fun wc => ∃ (kq : Nat) (x316000_63 : Int) (x316001_63 : Int) (x317000_63 : Int) (x317001_63 : Int), Aside0 (impl_RestMeet.j1 kq t325 x316000_63 x316001_63 x317000_63 x317001_63 = some (r1, r2, r3)) ∧ Aside0 (kq ≤ kj2) ∧ Aside0 (wc.heap[gb315]? = some (.cells #[.int .i64 x316000_63, .int .i64 x316001_63] 90 (0, 0))) ∧ Aside0 (wc.heap[gb316]? = some (.cells #[.int .i64 x317000_63, .int .i64 x317001_63] 90 (0, 0))) ∧ Aside0 (wc.heap[gb317]? = some (.cells #[.int .i64 0, .int .i64 0] 90 (0, 0))) ∧ Aside0 (Below w.heap.size w wc))
        case first =>
         have H := HC64.out
         clear HC64
         by_cases c75 : a1_0 > a0_0
         ·rw [if_pos c75] at H
          have c75b0 : decide (a0_0 < a1_0) = true := decide_eq_true c75
          clear c75
          (first | rw [c75b0] | (simp only [i64_w, i32_w]; rw [c75b0]) | skip)
          have H' := Aside0.mk H
          clear H
          have hnb76 := NB316_315.out
          have hnc76 := NB315_316.out
          have hnb77 := NB316_317.out
          have hnc77 := NB317_316.out
          have hcz78_0 : w70.cell? ⟨gb316, 0, none⟩ = some (.int .i64 a1_0) := bc BK316 0
          have hcz78_1 : w70.cell? ⟨gb316, 1, none⟩ = some (.int .i64 a1_1) := bc BK316 1
          have hfz78_0 := blk_frozen BK316.out 0
          have hfz78_1 := blk_frozen BK316.out 1
          have hnb79 := NB315_317.out
          have hnc79 := NB317_315.out
          have hcz80_0 : w70.cell? ⟨gb315, 0, none⟩ = some (.int .i64 a0_0) := bc BK315 0
          have hcz80_1 : w70.cell? ⟨gb315, 1, none⟩ = some (.int .i64 a0_1) := bc BK315 1
          have hfz80_0 := blk_frozen BK315.out 0
          have hfz80_1 := blk_frozen BK315.out 1
          go_wp2
          repeat (go_quiet (fail); try go_wp2)
          go_meet
          case rel => exact ⟨_, (a1_0), (a1_1), (a0_0), (a0_1), H', ⟨by have := HJ2.out; first | omega | exact Nat.le_refl _⟩, ⟨by (with_reducible repeat (first | refine blk_drewN ?_ _ | refine blk_drew ?_ | refine blk_alloc ?_ _)); refine blk_far ?_ NB315_316.out _; (with_reducible repeat (first | refine blk_drewN ?_ _ | refine blk_drew ?_ | refine blk_alloc ?_ _)); refine blk_far ?_ NB315_316.out _; (with_reducible repeat (first | refine blk_drewN ?_ _ | refine blk_drew ?_ | refine blk_alloc ?_ _)); refine blk_put (cs := #[.int .i64 a1_0, .int .i64 a0_1]) ?_ 1 _ rfl; (with_reducible repeat (first | refine blk_drewN ?_ _ | refine blk_drew ?_ | refine blk_alloc ?_ _)); refine blk_put (cs := #[.int .i64 a0_0, .int .i64 a0_1]) ?_ 0 _ rfl; (with_reducible repeat (first | refine blk_drewN ?_ _ | refine blk_drew ?_ | refine blk_alloc ?_ _)); exact BK315.out⟩, ⟨by (with_reducible repeat (first | refine blk_drewN ?_ _ | refine blk_drew ?_ | refine blk_alloc ?_ _)); refine blk_put (cs := #[.int .i64 a0_0, .int .i64 a1_1]) ?_ 1 _ rfl; (with_reducible repeat (first | refine blk_drewN ?_ _ | refine blk_drew ?_ | refine blk_alloc ?_ _)); refine blk_put (cs := #[.int .i64 a1_0, .int .i64 a1_1]) ?_ 0 _ rfl; (with_reducible repeat (first | refine blk_drewN ?_ _ | refine blk_drew ?_ | refine blk_alloc ?_ _)); refine blk_far ?_ NB316_315.out _; (with_reducible repeat (first | refine blk_drewN ?_ _ | refine blk_drew ?_ | refine blk_alloc ?_ _)); refine blk_far ?_ NB316_315.out _; (with_reducible repeat (first | refine blk_drewN ?_ _ | refine blk_drew ?_ | refine blk_alloc ?_ _)); exact BK316.out⟩, ⟨by (with_reducible repeat (first | refine blk_drewN ?_ _ | refine blk_drew ?_ | refine blk_alloc ?_ _)); refine blk_far ?_ NB317_316.out _; (with_reducible repeat (first | refine blk_drewN ?_ _ | refine blk_drew ?_ | refine blk_alloc ?_ _)); refine blk_far ?_ NB317_316.out _; (with_reducible repeat (first | refine blk_drewN ?_ _ | refine blk_drew ?_ | refine blk_alloc ?_ _)); refine blk_far ?_ NB317_315.out _; (with_reducible repeat (first | refine blk_drewN ?_ _ | refine blk_drew ?_ | refine blk_alloc ?_ _)); refine blk_far ?_ NB317_315.out _; (with_reducible repeat (first | refine blk_drewN ?_ _ | refine blk_drew ?_ | refine blk_alloc ?_ _)); exact BK317.out⟩, ⟨hz3 HB.out GE315.out GE316.out GE317.out⟩⟩
         ·rw [if_neg c75] at H
          have c75b0 : decide (a0_0 < a1_0) = false := decide_eq_false c75
          clear c75
          (first | rw [c75b0] | (simp only [i64_w, i32_w]; rw [c75b0]) | skip)
          have H' := Aside0.mk H
          clear H
          go_wp2
          repeat (go_quiet (fail); try go_wp2)
          go_meet
          case rel => exact ⟨_, (a0_0), (a0_1), (a1_0), (a1_1), H', ⟨by have := HJ2.out; first | omega | exact Nat.le_refl _⟩, ⟨bz BK315.out⟩, ⟨bz BK316.out⟩, ⟨bz BK317.out⟩, ⟨hz3 HB.out GE315.out GE316.out GE317.out⟩⟩
        case rest =>
         clear HC64
         try clear c1
         try clear c2
         try clear p2
         try clear c3
         try clear c4
         try clear c5
         try clear c6
         try clear p6
         try clear c7
         try clear c8
         try clear c10
         try clear c11
         try clear c14
         try clear c17
         try clear c18
         try clear c21
         try clear c22
         try clear c23
         try clear c25
         try clear c25b0
         try clear c25b1
         try clear c27
         try clear c28
         try clear c29
         try clear c31
         try clear c36
         try clear c37
         try clear c39
         try clear c43
         try clear c43b0
         try clear c43b1
         try clear c45
         try clear c46
         try clear c47
         try clear c49
         try clear c54
         try clear c55
         try clear c57
         try clear c62
         try clear c62b0
         try clear c62b1
         try clear c63
         try clear c63b0
         try clear c63b1
         try clear p64
         try clear c65
         try clear c66
         try clear c68
         try clear c75
         try clear c75b0
         try clear c76
         try clear c77
         try clear c79
         try clear hcz12_0
         try clear hcz12_1
         try clear hcz15_0
         try clear hcz15_1
         try clear hcz19_0
         try clear hcz19_1
         try clear hcz24_0
         try clear hcz24_1
         try clear hcz30_0
         try clear hcz30_1
         try clear hcz32_0
         try clear hcz32_1
         try clear hcz34_0
         try clear hcz34_1
         try clear hcz35_0
         try clear hcz35_1
         try clear hcz38_0
         try clear hcz38_1
         try clear hcz40_0
         try clear hcz40_1
         try clear hcz42_0
         try clear hcz42_1
         try clear hcz48_0
         try clear hcz48_1
         try clear hcz50_0
         try clear hcz50_1
         try clear hcz52_0
         try clear hcz52_1
         try clear hcz53_0
         try clear hcz53_1
         try clear hcz56_0
         try clear hcz56_1
         try clear hcz58_0
         try clear hcz58_1
         try clear hcz60_0
         try clear hcz60_1
         try clear hcz67_0
         try clear hcz67_1
         try clear hcz69_0
         try clear hcz69_1
         try clear hcz73_0
         try clear hcz73_1
         try clear hcz74_0
         try clear hcz74_1
         try clear hcz78_0
         try clear hcz78_1
         try clear hcz80_0
         try clear hcz80_1
         try clear hfz12_0
         try clear hfz12_1
         try clear hfz15_0
         try clear hfz15_1
         try clear hfz19_0
         try clear hfz19_1
         try clear hfz24_0
         try clear hfz24_1
         try clear hfz30_0
         try clear hfz30_1
         try clear hfz32_0
         try clear hfz32_1
         try clear hfz34_0
         try clear hfz34_1
         try clear hfz35_0
         try clear hfz35_1
         try clear hfz38_0
         try clear hfz38_1
         try clear hfz40_0
         try clear hfz40_1
         try clear hfz42_0
         try clear hfz42_1
         try clear hfz48_0
         try clear hfz48_1
         try clear hfz50_0
         try clear hfz50_1
         try clear hfz52_0
         try clear hfz52_1
         try clear hfz53_0
         try clear hfz53_1
         try clear hfz56_0
         try clear hfz56_1
         try clear hfz58_0
         try clear hfz58_1
         try clear hfz60_0
         try clear hfz60_1
         try clear hfz67_0
         try clear hfz67_1
         try clear hfz69_0
         try clear hfz69_1
         try clear hfz73_0
         try clear hfz73_1
         try clear hfz74_0
         try clear hfz74_1
         try clear hfz78_0
         try clear hfz78_1
         try clear hfz80_0
         try clear hfz80_1
         try clear p2
         obtain ⟨kq, x316000_63, x316001_63, x317000_63, x317001_63, HA, HJ63, BK315, BK316, BK317, HB⟩ := hcut
         cases kq with
         | zero => exact absurd HA.out (by simp [impl_RestMeet.j1])
         | succ kj63 =>
          have H := HA.out
          clear HA
          simp only [impl_RestMeet.j1] at H
          by_cases c81 : t325 = 0
          ·rw [if_pos c81] at H
           exact absurd H (by simp)
          ·rw [if_neg c81] at H
           have c81b0 : (t325 == 0) = false := beq_eq_false_iff_ne.mpr c81
           have c81b1 : (t325 != 0) = true := bne_iff_ne.mpr c81
           by_cases c82 : (wrap64 ((wrap64 (Int.tdiv x316000_63 t325)) * x317000_63)) > 65536
           ·rw [if_pos c82] at H
            have c82b0 : decide (65536 < (wrap64 ((wrap64 (Int.tdiv x316000_63 t325)) * x317000_63))) = true := decide_eq_true c82
            clear c82
            simp only [Option.some.injEq, Prod.mk.injEq] at H
            obtain ⟨rfl, rfl, rfl⟩ := H
            have hnb83 := NB315_316.out
            have hnc83 := NB316_315.out
            have hnb84 := NB315_317.out
            have hnc84 := NB317_315.out
            have hcz85_0 : wc.cell? ⟨gb315, 0, none⟩ = some (.int .i64 x316000_63) := bc BK315 0
            have hcz85_1 : wc.cell? ⟨gb315, 1, none⟩ = some (.int .i64 x316001_63) := bc BK315 1
            have hfz85_0 := blk_frozen BK315.out 0
            have hfz85_1 := blk_frozen BK315.out 1
            have hnb86 := NB316_317.out
            have hnc86 := NB317_316.out
            have hcz87_0 : wc.cell? ⟨gb316, 0, none⟩ = some (.int .i64 x317000_63) := bc BK316 0
            have hcz87_1 : wc.cell? ⟨gb316, 1, none⟩ = some (.int .i64 x317001_63) := bc BK316 1
            have hfz87_0 := blk_frozen BK316.out 0
            have hfz87_1 := blk_frozen BK316.out 1
            have hcz88_0 : wc.cell? ⟨gb317, 0, none⟩ = some (.int .i64 0) := bc BK317 0
            have hcz88_1 : wc.cell? ⟨gb317, 1, none⟩ = some (.int .i64 0) := bc BK317 1
            have hfz88_0 := blk_frozen BK317.out 0
            have hfz88_1 := blk_frozen BK317.out 1
            go_wp2
            repeat (go_quiet (fail); try go_wp2)
            refine bodyPost_ret (results_ct rfl _ _ gb317 90 #[.int .i64 x316000_63, .int .i64 x316001_63] (0, 0) _ rfl (by (with_reducible repeat (first | refine blk_drewN ?_ _ | refine blk_drew ?_ | refine blk_alloc ?_ _)); refine blk_put (cs := #[.int .i64 x316000_63, .int .i64 0]) ?_ 1 _ rfl; (with_reducible repeat (first | refine blk_drewN ?_ _ | refine blk_drew ?_ | refine blk_alloc ?_ _)); refine blk_put (cs := #[.int .i64 0, .int .i64 0]) ?_ 0 _ rfl; (with_reducible repeat (first | refine blk_drewN ?_ _ | refine blk_drew ?_ | refine blk_alloc ?_ _)); exact BK317.out) Try.underlying90 rfl (by kernel_rfl)) rfl ?_
            exact ⟨by first | rfl | (simp [errW_none, errW_some] <;> rfl) | (simp [*, errW_none, errW_some] <;> rfl), hz3 HB.out GE315.out GE316.out GE317.out⟩
           ·rw [if_neg c82] at H
            have c82b0 : decide (65536 < (wrap64 ((wrap64 (Int.tdiv x316000_63 t325)) * x317000_63))) = false := decide_eq_false c82
            clear c82
            have H' := Aside0.mk H
            clear H
            have hnb89 := NB315_316.out
            have hnc89 := NB316_315.out
            have hnb90 := NB315_317.out
            have hnc90 := NB317_315.out
            have hcz91_0 : wc.cell? ⟨gb315, 0, none⟩ = some (.int .i64 x316000_63) := bc BK315 0
            have hcz91_1 : wc.cell? ⟨gb315, 1, none⟩ = some (.int .i64 x316001_63) := bc BK315 1
            have hfz91_0 := blk_frozen BK315.out 0
            have hfz91_1 := blk_frozen BK315.out 1
            have hnb92 := NB316_317.out
            have hnc92 := NB317_316.out
            have hcz93_0 : wc.cell? ⟨gb316, 0, none⟩ = some (.int .i64 x317000_63) := bc BK316 0
            have hcz93_1 : wc.cell? ⟨gb316, 1, none⟩ = some (.int .i64 x317001_63) := bc BK316 1
            have hfz93_0 := blk_frozen BK316.out 0
            have hfz93_1 := blk_frozen BK316.out 1
            go_wp2
            repeat (go_quiet (fail); try go_wp2)
            go_loopg [8] kj63 (fun kq v8 w' => ∃ (x8_3 : Int), v8 = .int .i64 x8_3 ∧ Aside0 (impl_RestMeet.l0 kq (wrap64 ((wrap64 (Int.tdiv x316000_63 t325)) * x317000_63)) x8_3 x316000_63 x316001_63 x317000_63 x317001_63 = some (r1, r2, r3)) ∧ Aside0 (kq ≤ kj63) ∧ Aside0 (w'.heap[gb315]? = some (.cells #[.int .i64 x316000_63, .int .i64 x316001_63] 90 (0, 0))) ∧ Aside0 (w'.heap[gb316]? = some (.cells #[.int .i64 x317000_63, .int .i64 x317001_63] 90 (0, 0))) ∧ Aside0 (w'.heap[gb317]? = some (.cells #[.int .i64 0, .int .i64 0] 90 (0, 0))) ∧ Aside0 (Below w.heap.size w w'))
            case atStart => exact ⟨(x316001_63), (by first | rfl | (simp; done) | (simp [*]; done)), H', ⟨Nat.le_refl _⟩, ⟨bz BK315.out⟩, ⟨bz BK316.out⟩, ⟨bz BK317.out⟩, ⟨hz3 HB.out GE315.out GE316.out GE317.out⟩⟩
            case round =>
             clear H'
             try clear c1
             try clear c2
             try clear p2
             try clear c3
             try clear c4
             try clear c5
             try clear c6
             try clear p6
             try clear c7
             try clear c8
             try clear c9
             try clear c10
             try clear c11
             try clear c14
             try clear c17
             try clear c18
             try clear c21
             try clear c22
             try clear c23
             try clear c25
             try clear c25b0
             try clear c25b1
             try clear c27
             try clear c28
             try clear c29
             try clear c31
             try clear c36
             try clear c37
             try clear c39
             try clear c43
             try clear c43b0
             try clear c43b1
             try clear c45
             try clear c46
             try clear c47
             try clear c49
             try clear c54
             try clear c55
             try clear c57
             try clear c62
             try clear c62b0
             try clear c62b1
             try clear c63
             try clear c63b0
             try clear c63b1
             try clear p64
             try clear c65
             try clear c66
             try clear c68
             try clear c75
             try clear c75b0
             try clear c76
             try clear c77
             try clear c79
             try clear c81
             try clear c81b0
             try clear c81b1
             try clear c82
             try clear c82b0
             try clear c83
             try clear c84
             try clear c86
             try clear c89
             try clear c90
             try clear c92
             try clear hcz12_0
             try clear hcz12_1
             try clear hcz15_0
             try clear hcz15_1
             try clear hcz19_0
             try clear hcz19_1
             try clear hcz24_0
             try clear hcz24_1
             try clear hcz30_0
             try clear hcz30_1
             try clear hcz32_0
             try clear hcz32_1
             try clear hcz34_0
             try clear hcz34_1
             try clear hcz35_0
             try clear hcz35_1
             try clear hcz38_0
             try clear hcz38_1
             try clear hcz40_0
             try clear hcz40_1
             try clear hcz42_0
             try clear hcz42_1
             try clear hcz48_0
             try clear hcz48_1
             try clear hcz50_0
             try clear hcz50_1
             try clear hcz52_0
             try clear hcz52_1
             try clear hcz53_0
             try clear hcz53_1
             try clear hcz56_0
             try clear hcz56_1
             try clear hcz58_0
             try clear hcz58_1
             try clear hcz60_0
             try clear hcz60_1
             try clear hcz67_0
             try clear hcz67_1
             try clear hcz69_0
             try clear hcz69_1
             try clear hcz73_0
             try clear hcz73_1
             try clear hcz74_0
             try clear hcz74_1
             try clear hcz78_0
             try clear hcz78_1
             try clear hcz80_0
             try clear hcz80_1
             try clear hcz85_0
             try clear hcz85_1
             try clear hcz87_0
             try clear hcz87_1
             try clear hcz88_0
             try clear hcz88_1
             try clear hcz91_0
             try clear hcz91_1
             try clear hcz93_0
             try clear hcz93_1
             try clear hfz12_0
             try clear hfz12_1
             try clear hfz15_0
             try clear hfz15_1
             try clear hfz19_0
             try clear hfz19_1
             try clear hfz24_0
             try clear hfz24_1
             try clear hfz30_0
             try clear hfz30_1
             try clear hfz32_0
             try clear hfz32_1
             try clear hfz34_0
             try clear hfz34_1
             try clear hfz35_0
             try clear hfz35_1
             try clear hfz38_0
             try clear hfz38_1
             try clear hfz40_0
             try clear hfz40_1
             try clear hfz42_0
             try clear hfz42_1
             try clear hfz48_0
             try clear hfz48_1
             try clear hfz50_0
             try clear hfz50_1
             try clear hfz52_0
             try clear hfz52_1
             try clear hfz53_0
             try clear hfz53_1
             try clear hfz56_0
             try clear hfz56_1
             try clear hfz58_0
             try clear hfz58_1
             try clear hfz60_0
             try clear hfz60_1
             try clear hfz67_0
             try clear hfz67_1
             try clear hfz69_0
             try clear hfz69_1
             try clear hfz73_0
             try clear hfz73_1
             try clear hfz74_0
             try clear hfz74_1
             try clear hfz78_0
             try clear hfz78_1
             try clear hfz80_0
             try clear hfz80_1
             try clear hfz85_0
             try clear hfz85_1
             try clear hfz87_0
             try clear hfz87_1
             try clear hfz88_0
             try clear hfz88_1
             try clear hfz91_0
             try clear hfz91_1
             try clear hfz93_0
             try clear hfz93_1
             try clear p2
             try clear p6
             try clear p64
             obtain ⟨x8_3, rfl, HA, HK3, BK315, BK316, BK317, HB⟩ := hrel
             cases gk with
             | zero => exact absurd HA.out (by simp [impl_RestMeet.l0])
             | succ k3 =>
              have H := HA.out
              clear HA
              simp only [impl_RestMeet.l0] at H
              replace H := Option.bind_eq_some_iff.mp H
              obtain ⟨t326, A940, H⟩ := H
              replace H : (if t326 = x317001_63 then (some ((wrap64 ((wrap64 (Int.tdiv x316000_63 t325)) * x317000_63)), x8_3, true)) else (impl_RestMeet.l0 k3 (wrap64 ((wrap64 (Int.tdiv x316000_63 t325)) * x317000_63)) (wrap64 (x8_3 + x316000_63)) x316000_63 x316001_63 x317000_63 x317001_63)) = some (r1, r2, r3) := H
              have A94 := Aside0.mk A940
              clear A940
              by_cases c95 : t326 = x317001_63
              ·rw [if_pos c95] at H
               have c95b0 : (t326 == x317001_63) = true := beq_iff_eq.mpr c95
               have c95b1 : (t326 != x317001_63) = false := bne_eq_false_iff_eq.mpr c95
               clear c95
               simp only [Option.some.injEq, Prod.mk.injEq] at H
               obtain ⟨rfl, rfl, rfl⟩ := H
               have hnb96 := NB316_315.out
               have hnc96 := NB315_316.out
               have hnb97 := NB316_317.out
               have hnc97 := NB317_316.out
               have hcz98_0 : wr.cell? ⟨gb316, 0, none⟩ = some (.int .i64 x317000_63) := bc BK316 0
               have hcz98_1 : wr.cell? ⟨gb316, 1, none⟩ = some (.int .i64 x317001_63) := bc BK316 1
               have hfz98_0 := blk_frozen BK316.out 0
               have hfz98_1 := blk_frozen BK316.out 1
               go_wp2_with (first | (go_at_call 122; (with_reducible refine (impl_restMod.calls x8_3 x317000_63 t326 _ A94.out).mono ?_); rintro e w' ⟨rfl, ⟨nd, rfl⟩⟩; (try first | exact ⟨rfl, _, World.drewN_drewN _ _ _⟩ | exact ⟨rfl, _, Eq.trans (World.drewN_drewN _ _ _) (congrArg (World.drewN _) (Nat.add_assoc _ _ _))⟩); have hnb99 := NB317_315.out; have hnc99 := NB315_317.out; have hcz100_0 : wr.cell? ⟨gb317, 0, none⟩ = some (.int .i64 0) := bc BK317 0; have hcz100_1 : wr.cell? ⟨gb317, 1, none⟩ = some (.int .i64 0) := bc BK317 1; have hfz100_0 := blk_frozen BK317.out 0; have hfz100_1 := blk_frozen BK317.out 1))
               try have hnb99 := NB317_315.out
               try have hnc99 := NB315_317.out
               try have hcz100_0 : wr.cell? ⟨gb317, 0, none⟩ = some (.int .i64 0) := bc BK317 0
               try have hcz100_1 : wr.cell? ⟨gb317, 1, none⟩ = some (.int .i64 0) := bc BK317 1
               try have hfz100_0 := blk_frozen BK317.out 0
               try have hfz100_1 := blk_frozen BK317.out 1
               repeat (go_quiet (first | (go_at_call 122; (with_reducible refine (impl_restMod.calls x8_3 x317000_63 t326 _ A94.out).mono ?_); rintro e w' ⟨rfl, ⟨nd, rfl⟩⟩; (try first | exact ⟨rfl, _, World.drewN_drewN _ _ _⟩ | exact ⟨rfl, _, Eq.trans (World.drewN_drewN _ _ _) (congrArg (World.drewN _) (Nat.add_assoc _ _ _))⟩); (try (have hnb99 := NB317_315.out; have hnc99 := NB315_317.out; have hcz100_0 : wr.cell? ⟨gb317, 0, none⟩ = some (.int .i64 0) := bc BK317 0; have hcz100_1 : wr.cell? ⟨gb317, 1, none⟩ = some (.int .i64 0) := bc BK317 1; have hfz100_0 := blk_frozen BK317.out 0; have hfz100_1 := blk_frozen BK317.out 1)))); try go_wp2_with (first | (go_at_call 122; (with_reducible refine (impl_restMod.calls x8_3 x317000_63 t326 _ A94.out).mono ?_); rintro e w' ⟨rfl, ⟨nd, rfl⟩⟩; (try first | exact ⟨rfl, _, World.drewN_drewN _ _ _⟩ | exact ⟨rfl, _, Eq.trans (World.drewN_drewN _ _ _) (congrArg (World.drewN _) (Nat.add_assoc _ _ _))⟩); (try (have hnb99 := NB317_315.out; have hnc99 := NB315_317.out; have hcz100_0 : wr.cell? ⟨gb317, 0, none⟩ = some (.int .i64 0) := bc BK317 0; have hcz100_1 : wr.cell? ⟨gb317, 1, none⟩ = some (.int .i64 0) := bc BK317 1; have hfz100_0 := blk_frozen BK317.out 0; have hfz100_1 := blk_frozen BK317.out 1)))))
               refine bodyPost_ret (results_ct rfl _ _ gb317 90 #[.int .i64 (wrap64 ((wrap64 (Int.tdiv x316000_63 t325)) * x317000_63)), .int .i64 x8_3] (0, 0) _ rfl (by (with_reducible repeat (first | refine blk_drewN ?_ _ | refine blk_drew ?_ | refine blk_alloc ?_ _)); refine blk_put (cs := #[.int .i64 (wrap64 ((wrap64 (Int.tdiv x316000_63 t325)) * x317000_63)), .int .i64 0]) ?_ 1 _ rfl; (with_reducible repeat (first | refine blk_drewN ?_ _ | refine blk_drew ?_ | refine blk_alloc ?_ _)); refine blk_put (cs := #[.int .i64 0, .int .i64 0]) ?_ 0 _ rfl; (with_reducible repeat (first | refine blk_drewN ?_ _ | refine blk_drew ?_ | refine blk_alloc ?_ _)); exact BK317.out) Try.underlying90 rfl (by kernel_rfl)) rfl ?_
               exact ⟨by first | rfl | (simp [errW_none, errW_some] <;> rfl) | (simp [*, errW_none, errW_some] <;> rfl), hz3 HB.out GE315.out GE316.out GE317.out⟩
              ·rw [if_neg c95] at H
               have c95b0 : (t326 == x317001_63) = false := beq_eq_false_iff_ne.mpr c95
               have c95b1 : (t326 != x317001_63) = true := bne_iff_ne.mpr c95
               have H' := Aside0.mk H
               clear H
               have hnb101 := NB316_315.out
               have hnc101 := NB315_316.out
               have hnb102 := NB316_317.out
               have hnc102 := NB317_316.out
               have hcz103_0 : wr.cell? ⟨gb316, 0, none⟩ = some (.int .i64 x317000_63) := bc BK316 0
               have hcz103_1 : wr.cell? ⟨gb316, 1, none⟩ = some (.int .i64 x317001_63) := bc BK316 1
               have hfz103_0 := blk_frozen BK316.out 0
               have hfz103_1 := blk_frozen BK316.out 1
               go_wp2_with (first | (go_at_call 122; (with_reducible refine (impl_restMod.calls x8_3 x317000_63 t326 _ A94.out).mono ?_); rintro e w' ⟨rfl, ⟨nd, rfl⟩⟩; (try first | exact ⟨rfl, _, World.drewN_drewN _ _ _⟩ | exact ⟨rfl, _, Eq.trans (World.drewN_drewN _ _ _) (congrArg (World.drewN _) (Nat.add_assoc _ _ _))⟩); have hnb104 := NB315_317.out; have hnc104 := NB317_315.out; have hcz105_0 : wr.cell? ⟨gb315, 0, none⟩ = some (.int .i64 x316000_63) := bc BK315 0; have hcz105_1 : wr.cell? ⟨gb315, 1, none⟩ = some (.int .i64 x316001_63) := bc BK315 1; have hfz105_0 := blk_frozen BK315.out 0; have hfz105_1 := blk_frozen BK315.out 1))
               try have hnb104 := NB315_317.out
               try have hnc104 := NB317_315.out
               try have hcz105_0 : wr.cell? ⟨gb315, 0, none⟩ = some (.int .i64 x316000_63) := bc BK315 0
               try have hcz105_1 : wr.cell? ⟨gb315, 1, none⟩ = some (.int .i64 x316001_63) := bc BK315 1
               try have hfz105_0 := blk_frozen BK315.out 0
               try have hfz105_1 := blk_frozen BK315.out 1
               repeat (go_quiet (first | (go_at_call 122; (with_reducible refine (impl_restMod.calls x8_3 x317000_63 t326 _ A94.out).mono ?_); rintro e w' ⟨rfl, ⟨nd, rfl⟩⟩; (try first | exact ⟨rfl, _, World.drewN_drewN _ _ _⟩ | exact ⟨rfl, _, Eq.trans (World.drewN_drewN _ _ _) (congrArg (World.drewN _) (Nat.add_assoc _ _ _))⟩); (try (have hnb104 := NB315_317.out; have hnc104 := NB317_315.out; have hcz105_0 : wr.cell? ⟨gb315, 0, none⟩ = some (.int .i64 x316000_63) := bc BK315 0; have hcz105_1 : wr.cell? ⟨gb315, 1, none⟩ = some (.int .i64 x316001_63) := bc BK315 1; have hfz105_0 := blk_frozen BK315.out 0; have hfz105_1 := blk_frozen BK315.out 1)))); try go_wp2_with (first | (go_at_call 122; (with_reducible refine (impl_restMod.calls x8_3 x317000_63 t326 _ A94.out).mono ?_); rintro e w' ⟨rfl, ⟨nd, rfl⟩⟩; (try first | exact ⟨rfl, _, World.drewN_drewN _ _ _⟩ | exact ⟨rfl, _, Eq.trans (World.drewN_drewN _ _ _) (congrArg (World.drewN _) (Nat.add_assoc _ _ _))⟩); (try (have hnb104 := NB315_317.out; have hnc104 := NB317_315.out; have hcz105_0 : wr.cell? ⟨gb315, 0, none⟩ = some (.int .i64 x316000_63) := bc BK315 0; have hcz105_1 : wr.cell? ⟨gb315, 1, none⟩ = some (.int .i64 x316001_63) := bc BK315 1; have hfz105_0 := blk_frozen BK315.out 0; have hfz105_1 := blk_frozen BK315.out 1)))))
               go_roundg k3
               case measure => have := HJ2.out; have := HJ63.out; have := HK3.out; omega
               case rel => exact ⟨(wrap64 (x8_3 + x316000_63)), (by first | rfl | (simp; done) | (simp [*]; done)), H', ⟨by have := HJ2.out; have := HJ63.out; have := HK3.out; omega⟩, ⟨bz BK315.out⟩, ⟨bz BK316.out⟩, ⟨bz BK317.out⟩, ⟨hz3 HB.out GE315.out GE316.out GE317.out⟩⟩
       ·rw [if_neg c63] at H
        have c63b0 : ((Int.tmod (wrap64 (a0_1 - a1_1)) t325) == 0) = false := beq_eq_false_iff_ne.mpr c63
        have c63b1 : ((Int.tmod (wrap64 (a0_1 - a1_1)) t325) != 0) = true := bne_iff_ne.mpr c63
        simp only [Option.some.injEq, Prod.mk.injEq] at H
        obtain ⟨rfl, rfl, rfl⟩ := H
        have hnb106 := NB315_316.out
        have hnc106 := NB316_315.out
        have hnb107 := NB315_317.out
        have hnc107 := NB317_315.out
        have hcz108_0 : wc.cell? ⟨gb315, 0, none⟩ = some (.int .i64 a0_0) := bc BK315 0
        have hcz108_1 : wc.cell? ⟨gb315, 1, none⟩ = some (.int .i64 a0_1) := bc BK315 1
        have hfz108_0 := blk_frozen BK315.out 0
        have hfz108_1 := blk_frozen BK315.out 1
        have hnb109 := NB316_317.out
        have hnc109 := NB317_316.out
        have hcz110_0 : wc.cell? ⟨gb316, 0, none⟩ = some (.int .i64 a1_0) := bc BK316 0
        have hcz110_1 : wc.cell? ⟨gb316, 1, none⟩ = some (.int .i64 a1_1) := bc BK316 1
        have hfz110_0 := blk_frozen BK316.out 0
        have hfz110_1 := blk_frozen BK316.out 1
        go_wp2_with (first | ((with_reducible refine gate_dst (N := 40) rfl ?_); refine Kd.R_lit (Kd.int .i64) _ 3 ?hg (N := 40) ?hd (xs := ([a0_0, a1_0] : List Int)) (inner := [.int .i64 a0_0, .int .i64 a1_0]) (ok := fun _ => True) (okp := fun _ => True) ?hr ?hp (fun _ hk => hk) trivial (Below.refl _ _) (Nat.le_refl _) (by simp) ?_; (case hd => rfl); (case hg => rfl); (case hr => first | (go_simp; done) | (go_simp; rfl)); (case hp => exact (Reps.one (show Kd.M (Kd.int .i64) _ _ _ a0_0 [.int .i64 a0_0] from rfl) (Reps.one (show Kd.M (Kd.int .i64) _ _ _ a1_0 [.int .i64 a1_0] from rfl) (Reps.none _ _)))); intro v323 w111 ho112 hb hg_ hnew_; clear hg_ hnew_; (first | rw [← Ny322.out] at ho112 | (simp only [Int.reduceToNat] at ho112; rw [← Ny322.out] at ho112)); have n0_ := Aside0.mk (Kd.R_lower ho112 (below_size (hz3 HB.out GE315.out GE316.out GE317.out))); have n1_ := Aside0.mk (blk_below (g := gb315) (o := b2 a0_0 a0_1 90) (bz BK315.out) hb); have n2_ := Aside0.mk (blk_below (g := gb316) (o := b2 a1_0 a1_1 90) (bz BK316.out) hb); have n3_ := Aside0.mk (blk_below (g := gb317) (o := b2 0 0 90) (bz BK317.out) hb); have n4_ := Aside0.mk (below_step (hz3 HB.out GE315.out GE316.out GE317.out) hb); clear BK315; clear BK316; clear BK317; clear HB; have HO324 := n0_; have BK315 := n1_; have BK316 := n2_; have BK317 := n3_; have HB := n4_; clear n0_ n1_ n2_ n3_ n4_; clear hb ho112; obtain ⟨Ao113, co113, eo113⟩ := Kd.R_slice HO324.out; subst eo113) | (go_at_call 135; (with_reducible refine (impl_restGcd.calls kj2 _ _ y322 t325 _ ?side1 ?side2 A61.out).mono ?_); (case side1 => repeat (first | exact (Kd.R_reads' HO324.out).2.2 | (with_reducible refine Kd.C_alloc ?_ _) | (with_reducible refine Kd.C_drewN ?_ _) | (with_reducible refine Kd.C_drew ?_))); (case side2 => exact (Kd.R_reads' HO324.out).2.1); rintro e w' ⟨rfl, ⟨nd, rfl⟩⟩; (try first | exact ⟨rfl, _, World.drewN_drewN _ _ _⟩ | exact ⟨rfl, _, Eq.trans (World.drewN_drewN _ _ _) (congrArg (World.drewN _) (Nat.add_assoc _ _ _))⟩); have hcz114_0 : w111.cell? ⟨gb315, 0, none⟩ = some (.int .i64 a0_0) := bc BK315 0; have hcz114_1 : w111.cell? ⟨gb315, 1, none⟩ = some (.int .i64 a0_1) := bc BK315 1; have hfz114_0 := blk_frozen BK315.out 0; have hfz114_1 := blk_frozen BK315.out 1; have hcz115_0 : w111.cell? ⟨gb316, 0, none⟩ = some (.int .i64 a1_0) := bc BK316 0; have hcz115_1 : w111.cell? ⟨gb316, 1, none⟩ = some (.int .i64 a1_1) := bc BK316 1; have hfz115_0 := blk_frozen BK316.out 0; have hfz115_1 := blk_frozen BK316.out 1; have hcz116_0 : w111.cell? ⟨gb317, 0, none⟩ = some (.int .i64 0) := bc BK317 0; have hcz116_1 : w111.cell? ⟨gb317, 1, none⟩ = some (.int .i64 0) := bc BK317 1; have hfz116_0 := blk_frozen BK317.out 0; have hfz116_1 := blk_frozen BK317.out 1))
        try have hcz114_0 : w111.cell? ⟨gb315, 0, none⟩ = some (.int .i64 a0_0) := bc BK315 0
        try have hcz114_1 : w111.cell? ⟨gb315, 1, none⟩ = some (.int .i64 a0_1) := bc BK315 1
        try have hfz114_0 := blk_frozen BK315.out 0
        try have hfz114_1 := blk_frozen BK315.out 1
        try have hcz115_0 : w111.cell? ⟨gb316, 0, none⟩ = some (.int .i64 a1_0) := bc BK316 0
        try have hcz115_1 : w111.cell? ⟨gb316, 1, none⟩ = some (.int .i64 a1_1) := bc BK316 1
        try have hfz115_0 := blk_frozen BK316.out 0
        try have hfz115_1 := blk_frozen BK316.out 1
        try have hcz116_0 : w111.cell? ⟨gb317, 0, none⟩ = some (.int .i64 0) := bc BK317 0
        try have hcz116_1 : w111.cell? ⟨gb317, 1, none⟩ = some (.int .i64 0) := bc BK317 1
        try have hfz116_0 := blk_frozen BK317.out 0
        try have hfz116_1 := blk_frozen BK317.out 1
        repeat (go_quiet (first | ((with_reducible refine gate_dst (N := 40) rfl ?_); refine Kd.R_lit (Kd.int .i64) _ 3 ?hg (N := 40) ?hd (xs := ([a0_0, a1_0] : List Int)) (inner := [.int .i64 a0_0, .int .i64 a1_0]) (ok := fun _ => True) (okp := fun _ => True) ?hr ?hp (fun _ hk => hk) trivial (Below.refl _ _) (Nat.le_refl _) (by simp) ?_; (case hd => rfl); (case hg => rfl); (case hr => first | (go_simp; done) | (go_simp; rfl)); (case hp => exact (Reps.one (show Kd.M (Kd.int .i64) _ _ _ a0_0 [.int .i64 a0_0] from rfl) (Reps.one (show Kd.M (Kd.int .i64) _ _ _ a1_0 [.int .i64 a1_0] from rfl) (Reps.none _ _)))); intro v323 w111 ho112 hb hg_ hnew_; clear hg_ hnew_; (first | rw [← Ny322.out] at ho112 | (simp only [Int.reduceToNat] at ho112; rw [← Ny322.out] at ho112)); have n0_ := Aside0.mk (Kd.R_lower ho112 (below_size (hz3 HB.out GE315.out GE316.out GE317.out))); have n1_ := Aside0.mk (blk_below (g := gb315) (o := b2 a0_0 a0_1 90) (bz BK315.out) hb); have n2_ := Aside0.mk (blk_below (g := gb316) (o := b2 a1_0 a1_1 90) (bz BK316.out) hb); have n3_ := Aside0.mk (blk_below (g := gb317) (o := b2 0 0 90) (bz BK317.out) hb); have n4_ := Aside0.mk (below_step (hz3 HB.out GE315.out GE316.out GE317.out) hb); clear BK315; clear BK316; clear BK317; clear HB; have HO324 := n0_; have BK315 := n1_; have BK316 := n2_; have BK317 := n3_; have HB := n4_; clear n0_ n1_ n2_ n3_ n4_; clear hb ho112; obtain ⟨Ao113, co113, eo113⟩ := Kd.R_slice HO324.out; subst eo113) | (go_at_call 135; (with_reducible refine (impl_restGcd.calls kj2 _ _ y322 t325 _ ?side1 ?side2 A61.out).mono ?_); (case side1 => repeat (first | exact (Kd.R_reads' HO324.out).2.2 | (with_reducible refine Kd.C_alloc ?_ _) | (with_reducible refine Kd.C_drewN ?_ _) | (with_reducible refine Kd.C_drew ?_))); (case side2 => exact (Kd.R_reads' HO324.out).2.1); rintro e w' ⟨rfl, ⟨nd, rfl⟩⟩; (try first | exact ⟨rfl, _, World.drewN_drewN _ _ _⟩ | exact ⟨rfl, _, Eq.trans (World.drewN_drewN _ _ _) (congrArg (World.drewN _) (Nat.add_assoc _ _ _))⟩); (try (have hcz114_0 : w111.cell? ⟨gb315, 0, none⟩ = some (.int .i64 a0_0) := bc BK315 0; have hcz114_1 : w111.cell? ⟨gb315, 1, none⟩ = some (.int .i64 a0_1) := bc BK315 1; have hfz114_0 := blk_frozen BK315.out 0; have hfz114_1 := blk_frozen BK315.out 1; have hcz115_0 : w111.cell? ⟨gb316, 0, none⟩ = some (.int .i64 a1_0) := bc BK316 0; have hcz115_1 : w111.cell? ⟨gb316, 1, none⟩ = some (.int .i64 a1_1) := bc BK316 1; have hfz115_0 := blk_frozen BK316.out 0; have hfz115_1 := blk_frozen BK316.out 1; have hcz116_0 : w111.cell? ⟨gb317, 0, none⟩ = some (.int .i64 0) := bc BK317 0; have hcz116_1 : w111.cell? ⟨gb317, 1, none⟩ = some (.int .i64 0) := bc BK317 1; have hfz116_0 := blk_frozen BK317.out 0; have hfz116_1 := blk_frozen BK317.out 1)))); try go_wp2_with (first | ((with_reducible refine gate_dst (N := 40) rfl ?_); refine Kd.R_lit (Kd.int .i64) _ 3 ?hg (N := 40) ?hd (xs := ([a0_0, a1_0] : List Int)) (inner := [.int .i64 a0_0, .int .i64 a1_0]) (ok := fun _ => True) (okp := fun _ => True) ?hr ?hp (fun _ hk => hk) trivial (Below.refl _ _) (Nat.le_refl _) (by simp) ?_; (case hd => rfl); (case hg => rfl); (case hr => first | (go_simp; done) | (go_simp; rfl)); (case hp => exact (Reps.one (show Kd.M (Kd.int .i64) _ _ _ a0_0 [.int .i64 a0_0] from rfl) (Reps.one (show Kd.M (Kd.int .i64) _ _ _ a1_0 [.int .i64 a1_0] from rfl) (Reps.none _ _)))); intro v323 w111 ho112 hb hg_ hnew_; clear hg_ hnew_; (first | rw [← Ny322.out] at ho112 | (simp only [Int.reduceToNat] at ho112; rw [← Ny322.out] at ho112)); have n0_ := Aside0.mk (Kd.R_lower ho112 (below_size (hz3 HB.out GE315.out GE316.out GE317.out))); have n1_ := Aside0.mk (blk_below (g := gb315) (o := b2 a0_0 a0_1 90) (bz BK315.out) hb); have n2_ := Aside0.mk (blk_below (g := gb316) (o := b2 a1_0 a1_1 90) (bz BK316.out) hb); have n3_ := Aside0.mk (blk_below (g := gb317) (o := b2 0 0 90) (bz BK317.out) hb); have n4_ := Aside0.mk (below_step (hz3 HB.out GE315.out GE316.out GE317.out) hb); clear BK315; clear BK316; clear BK317; clear HB; have HO324 := n0_; have BK315 := n1_; have BK316 := n2_; have BK317 := n3_; have HB := n4_; clear n0_ n1_ n2_ n3_ n4_; clear hb ho112; obtain ⟨Ao113, co113, eo113⟩ := Kd.R_slice HO324.out; subst eo113) | (go_at_call 135; (with_reducible refine (impl_restGcd.calls kj2 _ _ y322 t325 _ ?side1 ?side2 A61.out).mono ?_); (case side1 => repeat (first | exact (Kd.R_reads' HO324.out).2.2 | (with_reducible refine Kd.C_alloc ?_ _) | (with_reducible refine Kd.C_drewN ?_ _) | (with_reducible refine Kd.C_drew ?_))); (case side2 => exact (Kd.R_reads' HO324.out).2.1); rintro e w' ⟨rfl, ⟨nd, rfl⟩⟩; (try first | exact ⟨rfl, _, World.drewN_drewN _ _ _⟩ | exact ⟨rfl, _, Eq.trans (World.drewN_drewN _ _ _) (congrArg (World.drewN _) (Nat.add_assoc _ _ _))⟩); (try (have hcz114_0 : w111.cell? ⟨gb315, 0, none⟩ = some (.int .i64 a0_0) := bc BK315 0; have hcz114_1 : w111.cell? ⟨gb315, 1, none⟩ = some (.int .i64 a0_1) := bc BK315 1; have hfz114_0 := blk_frozen BK315.out 0; have hfz114_1 := blk_frozen BK315.out 1; have hcz115_0 : w111.cell? ⟨gb316, 0, none⟩ = some (.int .i64 a1_0) := bc BK316 0; have hcz115_1 : w111.cell? ⟨gb316, 1, none⟩ = some (.int .i64 a1_1) := bc BK316 1; have hfz115_0 := blk_frozen BK316.out 0; have hfz115_1 := blk_frozen BK316.out 1; have hcz116_0 : w111.cell? ⟨gb317, 0, none⟩ = some (.int .i64 0) := bc BK317 0; have hcz116_1 : w111.cell? ⟨gb317, 1, none⟩ = some (.int .i64 0) := bc BK317 1; have hfz116_0 := blk_frozen BK317.out 0; have hfz116_1 := blk_frozen BK317.out 1)))))
        refine bodyPost_ret (results_ct rfl _ _ gb317 90 #[.int .i64 0, .int .i64 0] (0, 0) _ rfl (by (with_reducible repeat (first | refine blk_drewN ?_ _ | refine blk_drew ?_ | refine blk_alloc ?_ _)); refine blk_put (cs := #[.int .i64 0, .int .i64 0]) ?_ 1 _ rfl; (with_reducible repeat (first | refine blk_drewN ?_ _ | refine blk_drew ?_ | refine blk_alloc ?_ _)); refine blk_put (cs := #[.int .i64 0, .int .i64 0]) ?_ 0 _ rfl; (with_reducible repeat (first | refine blk_drewN ?_ _ | refine blk_drew ?_ | refine blk_alloc ?_ _)); exact BK317.out) Try.underlying90 rfl (by kernel_rfl)) rfl ?_
        exact ⟨by first | rfl | (simp [errW_none, errW_some] <;> rfl) | (simp [*, errW_none, errW_some] <;> rfl), hz3 HB.out GE315.out GE316.out GE317.out⟩

end Go.Proofs.Ytnmccgjdnceheaa.PFnExactValMeet
