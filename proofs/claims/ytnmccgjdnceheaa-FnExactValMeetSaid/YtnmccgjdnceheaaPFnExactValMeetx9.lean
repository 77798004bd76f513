/- Written by this session's own driver (wip/dprint.py): the functions that the law FnExactValMeet reaches, as Lean functions, each with its contract. -/
import Derived.Test.YtnmccgjdnceheaaPFnExactValMeetx0
import Derived.Test.YtnmccgjdnceheaaPFnExactValMeetx3
import Derived.Test.YtnmccgjdnceheaaPFnExactValMeetx4
import Derived.Test.YtnmccgjdnceheaaPFnExactValMeetx5
import Derived.Test.YtnmccgjdnceheaaPFnExactValMeetx8
import Derived.Test.YtnmccgjdnceheaaSv
namespace Go.Proofs.Ytnmccgjdnceheaa.PFnExactValMeet
open Go.RowKit Go.Proofs.YtnmccgjdnceheaaV.PrintWords Go.Proofs.YtnmccgjdnceheaaV.PrintLast Go.Proofs.YtnmccgjdnceheaaV.PrintMore Go.Proofs.YtnmccgjdnceheaaSv
attribute [local go_sem] max2_int min2_int max_two min_two max_three min_three max_four min_four   -- for this text's walks alone
set_option linter.unusedVariables false
set_option linter.unusedSimpArgs false

/-! ### spec_RestMeet: function 80 -/
mutual
def spec_RestMeet.j0 : Nat → Bool → Int → Int → Int → Int → Option (Int × Int × Bool)
 | 0, _, _, _, _, _ => none
 | k + 1, x16, x180000, x180001, x181000, x181001 => if x16 = true then (some (0, 0, false)) else (if x180000 = 0 then ((spec_RestHas.f k x181000 x181001 x180001).bind fun t184 => (if t184 = true then (some (x180000, x180001, true)) else (some (0, 0, false)))) else (if x181000 = 0 then ((spec_RestMeet.f k x181000 x181001 x180000 x180001).bind fun bt185 => (some (bt185.1, bt185.2.1, bt185.2.2))) else ((spec_l9Gcd.f k x180000 x181000).bind fun t188 => ((spec_l1Mod.f (wrap64 (x180001 - x181001)) t188).bind fun t189 => (if t189 = 0 then (if t188 = 0 then (none) else (if (wrap64 ((wrap64 (Int.tdiv x180000 t188)) * x181000)) > 65536 then (if x181000 > x180000 then (some (x181000, x181001, true)) else (some (x180000, x180001, true))) else (spec_RestMeet.l0 k (wrap64 ((wrap64 (Int.tdiv x180000 t188)) * x181000)) x180001 x180000 x180001 x181000 x181001))) else (some (0, 0, false)))))))
def spec_RestMeet.l0 : Nat → Int → Int → Int → Int → Int → Int → Option (Int × Int × Bool)
 | 0, _, _, _, _, _, _ => none
 | k + 1, x7, x8, x180000, x180001, x181000, x181001 => (spec_l1Mod.f x8 x181000).bind fun t190 => (if t190 = x181001 then (some (x7, x8, true)) else (spec_RestMeet.l0 k x7 (wrap64 (x8 + x180000)) x180000 x180001 x181000 x181001))
def spec_RestMeet.f : Nat → Int → Int → Int → Int → Option (Int × Int × Bool)
 | 0, _, _, _, _ => none
 | k + 1, a0_0, a0_1, a1_0, a1_1 => (spec_RestOk.f a0_0 a0_1).bind fun t182 => (if t182 = true then ((spec_RestOk.f a1_0 a1_1).bind fun t183 => (spec_RestMeet.j0 k (!t183) a0_0 a0_1 a1_0 a1_1)) else (spec_RestMeet.j0 k true a0_0 a0_1 a1_0 a1_1))
end
theorem spec_RestMeet.mono_l : ∀ k, (∀ y0 y1 y2 y3, LeO (spec_RestMeet.f k y0 y1 y2 y3) (spec_RestMeet.f (k + 1) y0 y1 y2 y3)) ∧ (∀ y0 y1 y2 y3 y4, LeO (spec_RestMeet.j0 k y0 y1 y2 y3 y4) (spec_RestMeet.j0 (k + 1) y0 y1 y2 y3 y4)) ∧ (∀ y0 y1 y2 y3 y4 y5, LeO (spec_RestMeet.l0 k y0 y1 y2 y3 y4 y5) (spec_RestMeet.l0 (k + 1) y0 y1 y2 y3 y4 y5))
 | 0 => ⟨fun _ _ _ _ r h => by simp [spec_RestMeet.f] at h, fun _ _ _ _ _ r h => by simp [spec_RestMeet.j0] at h, fun _ _ _ _ _ _ r h => by simp [spec_RestMeet.l0] at h⟩
 | k + 1 => by
  obtain ⟨ih0, ih1, ih2⟩ := spec_RestMeet.mono_l k
  refine ⟨?_, ?_, ?_⟩
  ·intro y0 y1 y2 y3
   unfold spec_RestMeet.f
   repeat' first
   | (with_reducible exact ih0 _ _ _ _)
   | (with_reducible exact ih1 _ _ _ _ _)
   | (with_reducible exact ih2 _ _ _ _ _ _)
   | (with_reducible exact spec_RestHas.mono _ _ _ _)
   | (with_reducible exact spec_l9Gcd.mono _ _ _)
   | (with_reducible exact LeO.refl _)
   | (with_reducible exact LeO.none _)
   | (with_reducible refine LeO.ite ?_ ?_)
   | (with_reducible refine LeO.bind ?_ (fun _ => ?_))
   | exact ih0 _ _ _ _
   | exact ih1 _ _ _ _ _
   | exact ih2 _ _ _ _ _ _
   | exact spec_RestHas.mono _ _ _ _
   | exact spec_l9Gcd.mono _ _ _
   | exact LeO.none _
   | refine LeO.ite ?_ ?_
   | refine LeO.bind ?_ (fun _ => ?_)
  ·intro y0 y1 y2 y3 y4
   unfold spec_RestMeet.j0
   repeat' first
   | (with_reducible exact ih0 _ _ _ _)
   | (with_reducible exact ih1 _ _ _ _ _)
   | (with_reducible exact ih2 _ _ _ _ _ _)
   | (with_reducible exact spec_RestHas.mono _ _ _ _)
   | (with_reducible exact spec_l9Gcd.mono _ _ _)
   | (with_reducible exact LeO.refl _)
   | (with_reducible exact LeO.none _)
   | (with_reducible refine LeO.ite ?_ ?_)
   | (with_reducible refine LeO.bind ?_ (fun _ => ?_))
   | exact ih0 _ _ _ _
   | exact ih1 _ _ _ _ _
   | exact ih2 _ _ _ _ _ _
   | exact spec_RestHas.mono _ _ _ _
   | exact spec_l9Gcd.mono _ _ _
   | exact LeO.none _
   | refine LeO.ite ?_ ?_
   | refine LeO.bind ?_ (fun _ => ?_)
  ·intro y0 y1 y2 y3 y4 y5
   unfold spec_RestMeet.l0
   repeat' first
   | (with_reducible exact ih0 _ _ _ _)
   | (with_reducible exact ih1 _ _ _ _ _)
   | (with_reducible exact ih2 _ _ _ _ _ _)
   | (with_reducible exact spec_RestHas.mono _ _ _ _)
   | (with_reducible exact spec_l9Gcd.mono _ _ _)
   | (with_reducible exact LeO.refl _)
   | (with_reducible exact LeO.none _)
   | (with_reducible refine LeO.ite ?_ ?_)
   | (with_reducible refine LeO.bind ?_ (fun _ => ?_))
   | exact ih0 _ _ _ _
   | exact ih1 _ _ _ _ _
   | exact ih2 _ _ _ _ _ _
   | exact spec_RestHas.mono _ _ _ _
   | exact spec_l9Gcd.mono _ _ _
   | exact LeO.none _
   | refine LeO.ite ?_ ?_
   | refine LeO.bind ?_ (fun _ => ?_)
theorem spec_RestMeet.mono : ∀ a0 a1 a2 a3 k, LeO (spec_RestMeet.f k a0 a1 a2 a3) (spec_RestMeet.f (k + 1) a0 a1 a2 a3) := by
 intro a0 a1 a2 a3 k
 obtain ⟨ih0, ih1, ih2⟩ := spec_RestMeet.mono_l k
 exact ih0 a0 a1 a2 a3
set_option maxHeartbeats 8000000 in
set_option maxRecDepth 100000 in
theorem spec_RestMeet.calls (k : Nat) : ∀ (a0_0 : Int) (a0_1 : Int) (a1_0 : Int) (a1_1 : Int) (r1 : Int) (r2 : Int) (r3 : Bool) (w : World) (h : spec_RestMeet.f k a0_0 a0_1 a1_0 a1_1 = some (r1, r2, r3)),
  Calls Try.prog 80 #[.agg #[.int .i64 a0_0, .int .i64 a0_1], .agg #[.int .i64 a1_0, .int .i64 a1_1]] w fun e w' => e = .returned (.tuple #[.agg #[.int .i64 r1, .int .i64 r2], .bool r3]) ∧ Below w.heap.size w w' := by
 induction k using Nat.strongRecOn with
 | _ k ih =>
 intro a0_0 a0_1 a1_0 a1_1 r1 r2 r3 w h
 cases k with
 | zero => exact absurd h (by simp [spec_RestMeet.f])
 | succ k =>
 simp only [spec_RestMeet.f] at h
 have hu90 := Try.underlying90
 have HB := Aside0.mk (Below.refl w.heap.size w)
 have H : ((spec_RestOk.f a0_0 a0_1).bind fun t182 => (if t182 = true then ((spec_RestOk.f a1_0 a1_1).bind fun t183 => (spec_RestMeet.j0 k (!t183) a0_0 a0_1 a1_0 a1_1)) else (spec_RestMeet.j0 k true a0_0 a0_1 a1_0 a1_1))) = some (r1, r2, r3) := h
 clear h
 have HC3 := Aside0.mk H
 clear H
 go_enter Try.func80, Try.ntmps80
 go_upto_region 1 with (first | ((with_reducible refine gate_dst (N := 2) rfl ?_); refine box_event ?hg (N := 2) ?hd (cs := #[.int .i64 a0_0, .int .i64 a0_1]) (t := 90) ?hr ?_; (case hd => rfl); (case hg => rfl); (case hr => first | (go_simp; done) | (go_simp; rfl)); intro gb179 hg w4 hbox hb; have n0_ := Aside0.mk (below_step (hz HB.out) hb); have n1_ := Aside0.mk (hbox); have n2_ := Aside0.mk ((by rw [hg]; exact (below_size (hz HB.out)) : w.heap.size ≤ gb179)); have n3_ := Aside0.mk ((by rw [hg]; exact (below_size (hz HB.out)) : w.heap.size ≤ gb179)); clear HB; have HB := n0_; have BK179 := n1_; have GW179 := n2_; have GE179 := n3_; clear n0_ n1_ n2_ n3_; clear hb hbox hg) | ((with_reducible refine gate_dst (N := 3) rfl ?_); refine box_event ?hg (N := 3) ?hd (cs := #[.int .i64 a1_0, .int .i64 a1_1]) (t := 90) ?hr ?_; (case hd => rfl); (case hg => rfl); (case hr => first | (go_simp; done) | (go_simp; rfl)); intro gb180 hg w5 hbox hb; have n0_ := Aside0.mk (blk_below (g := gb179) (o := b2 a0_0 a0_1 90) (bz BK179.out) hb); have n1_ := Aside0.mk (below_step (hz1 HB.out GE179.out) hb); have n2_ := Aside0.mk (hbox); have n3_ := Aside0.mk ((by rw [hg]; exact (below_size (hz1 HB.out GE179.out)) : w.heap.size ≤ gb180)); have n4_ := Aside0.mk ((by rw [hg]; exact (below_size (hz1 HB.out GE179.out)) : w.heap.size ≤ gb180)); have n5_ := Aside0.mk ((by rw [hg]; exact Nat.ne_of_lt (blk_lt (g := gb179) (o := b2 a0_0 a0_1 90) (bz BK179.out)) : gb179 ≠ gb180)); have n6_ := Aside0.mk ((by rw [hg]; exact Nat.ne_of_gt (blk_lt (g := gb179) (o := b2 a0_0 a0_1 90) (bz BK179.out)) : gb180 ≠ gb179)); clear BK179; clear HB; have BK179 := n0_; have HB := n1_; have BK180 := n2_; have GW180 := n3_; have GE180 := n4_; have NB179_180 := n5_; have NB180_179 := n6_; clear n0_ n1_ n2_ n3_ n4_ n5_ n6_; clear hb hbox hg) | ((with_reducible refine gate_dst (N := 4) rfl ?_); refine box_event ?hg (N := 4) ?hd (cs := #[.int .i64 0, .int .i64 0]) (t := 90) ?hr ?_; (case hd => rfl); (case hg => rfl); (case hr => first | (go_simp; done) | (go_simp; rfl)); intro gb181 hg w6 hbox hb; have n0_ := Aside0.mk (blk_below (g := gb179) (o := b2 a0_0 a0_1 90) (bz BK179.out) hb); have n1_ := Aside0.mk (blk_below (g := gb180) (o := b2 a1_0 a1_1 90) (bz BK180.out) hb); have n2_ := Aside0.mk (below_step (hz2 HB.out GE179.out GE180.out) hb); have n3_ := Aside0.mk (hbox); have n4_ := Aside0.mk ((by rw [hg]; exact (below_size (hz2 HB.out GE179.out GE180.out)) : w.heap.size ≤ gb181)); have n5_ := Aside0.mk ((by rw [hg]; exact (below_size (hz2 HB.out GE179.out GE180.out)) : w.heap.size ≤ gb181)); have n6_ := Aside0.mk ((by rw [hg]; exact Nat.ne_of_lt (blk_lt (g := gb179) (o := b2 a0_0 a0_1 90) (bz BK179.out)) : gb179 ≠ gb181)); have n7_ := Aside0.mk ((by rw [hg]; exact Nat.ne_of_gt (blk_lt (g := gb179) (o := b2 a0_0 a0_1 90) (bz BK179.out)) : gb181 ≠ gb179)); have n8_ := Aside0.mk ((by rw [hg]; exact Nat.ne_of_lt (blk_lt (g := gb180) (o := b2 a1_0 a1_1 90) (bz BK180.out)) : gb180 ≠ gb181)); have n9_ := Aside0.mk ((by rw [hg]; exact Nat.ne_of_gt (blk_lt (g := gb180) (o := b2 a1_0 a1_1 90) (bz BK180.out)) : gb181 ≠ gb180)); clear BK179; clear BK180; clear HB; have BK179 := n0_; have BK180 := n1_; have HB := n2_; have BK181 := n3_; have GW181 := n4_; have GE181 := n5_; have NB179_181 := n6_; have NB181_179 := n7_; have NB180_181 := n8_; have NB181_180 := n9_; clear n0_ n1_ n2_ n3_ n4_ n5_ n6_ n7_ n8_ n9_; clear hb hbox hg))
 repeat (go_quiet (first | ((with_reducible refine gate_dst (N := 2) rfl ?_); refine box_event ?hg (N := 2) ?hd (cs := #[.int .i64 a0_0, .int .i64 a0_1]) (t := 90) ?hr ?_; (case hd => rfl); (case hg => rfl); (case hr => first | (go_simp; done) | (go_simp; rfl)); intro gb179 hg w4 hbox hb; have n0_ := Aside0.mk (below_step (hz HB.out) hb); have n1_ := Aside0.mk (hbox); have n2_ := Aside0.mk ((by rw [hg]; exact (below_size (hz HB.out)) : w.heap.size ≤ gb179)); have n3_ := Aside0.mk ((by rw [hg]; exact (below_size (hz HB.out)) : w.heap.size ≤ gb179)); clear HB; have HB := n0_; have BK179 := n1_; have GW179 := n2_; have GE179 := n3_; clear n0_ n1_ n2_ n3_; clear hb hbox hg) | ((with_reducible refine gate_dst (N := 3) rfl ?_); refine box_event ?hg (N := 3) ?hd (cs := #[.int .i64 a1_0, .int .i64 a1_1]) (t := 90) ?hr ?_; (case hd => rfl); (case hg => rfl); (case hr => first | (go_simp; done) | (go_simp; rfl)); intro gb180 hg w5 hbox hb; have n0_ := Aside0.mk (blk_below (g := gb179) (o := b2 a0_0 a0_1 90) (bz BK179.out) hb); have n1_ := Aside0.mk (below_step (hz1 HB.out GE179.out) hb); have n2_ := Aside0.mk (hbox); have n3_ := Aside0.mk ((by rw [hg]; exact (below_size (hz1 HB.out GE179.out)) : w.heap.size ≤ gb180)); have n4_ := Aside0.mk ((by rw [hg]; exact (below_size (hz1 HB.out GE179.out)) : w.heap.size ≤ gb180)); have n5_ := Aside0.mk ((by rw [hg]; exact Nat.ne_of_lt (blk_lt (g := gb179) (o := b2 a0_0 a0_1 90) (bz BK179.out)) : gb179 ≠ gb180)); have n6_ := Aside0.mk ((by rw [hg]; exact Nat.ne_of_gt (blk_lt (g := gb179) (o := b2 a0_0 a0_1 90) (bz BK179.out)) : gb180 ≠ gb179)); clear BK179; clear HB; have BK179 := n0_; have HB := n1_; have BK180 := n2_; have GW180 := n3_; have GE180 := n4_; have NB179_180 := n5_; have NB180_179 := n6_; clear n0_ n1_ n2_ n3_ n4_ n5_ n6_; clear hb hbox hg) | ((with_reducible refine gate_dst (N := 4) rfl ?_); refine box_event ?hg (N := 4) ?hd (cs := #[.int .i64 0, .int .i64 0]) (t := 90) ?hr ?_; (case hd => rfl); (case hg => rfl); (case hr => first | (go_simp; done) | (go_simp; rfl)); intro gb181 hg w6 hbox hb; have n0_ := Aside0.mk (blk_below (g := gb179) (o := b2 a0_0 a0_1 90) (bz BK179.out) hb); have n1_ := Aside0.mk (blk_below (g := gb180) (o := b2 a1_0 a1_1 90) (bz BK180.out) hb); have n2_ := Aside0.mk (below_step (hz2 HB.out GE179.out GE180.out) hb); have n3_ := Aside0.mk (hbox); have n4_ := Aside0.mk ((by rw [hg]; exact (below_size (hz2 HB.out GE179.out GE180.out)) : w.heap.size ≤ gb181)); have n5_ := Aside0.mk ((by rw [hg]; exact (below_size (hz2 HB.out GE179.out GE180.out)) : w.heap.size ≤ gb181)); have n6_ := Aside0.mk ((by rw [hg]; exact Nat.ne_of_lt (blk_lt (g := gb179) (o := b2 a0_0 a0_1 90) (bz BK179.out)) : gb179 ≠ gb181)); have n7_ := Aside0.mk ((by rw [hg]; exact Nat.ne_of_gt (blk_lt (g := gb179) (o := b2 a0_0 a0_1 90) (bz BK179.out)) : gb181 ≠ gb179)); have n8_ := Aside0.mk ((by rw [hg]; exact Nat.ne_of_lt (blk_lt (g := gb180) (o := b2 a1_0 a1_1 90) (bz BK180.out)) : gb180 ≠ gb181)); have n9_ := Aside0.mk ((by rw [hg]; exact Nat.ne_of_gt (blk_lt (g := gb180) (o := b2 a1_0 a1_1 90) (bz BK180.out)) : gb181 ≠ gb180)); clear BK179; clear BK180; clear HB; have BK179 := n0_; have BK180 := n1_; have HB := n2_; have BK181 := n3_; have GW181 := n4_; have GE181 := n5_; have NB179_181 := n6_; have NB181_179 := n7_; have NB180_181 := n8_; have NB181_180 := n9_; clear n0_ n1_ n2_ n3_ n4_ n5_ n6_ n7_ n8_ n9_; clear hb hbox hg)); go_upto_region 1 with (first | ((with_reducible refine gate_dst (N := 2) rfl ?_); refine box_event ?hg (N := 2) ?hd (cs := #[.int .i64 a0_0, .int .i64 a0_1]) (t := 90) ?hr ?_; (case hd => rfl); (case hg => rfl); (case hr => first | (go_simp; done) | (go_simp; rfl)); intro gb179 hg w4 hbox hb; have n0_ := Aside0.mk (below_step (hz HB.out) hb); have n1_ := Aside0.mk (hbox); have n2_ := Aside0.mk ((by rw [hg]; exact (below_size (hz HB.out)) : w.heap.size ≤ gb179)); have n3_ := Aside0.mk ((by rw [hg]; exact (below_size (hz HB.out)) : w.heap.size ≤ gb179)); clear HB; have HB := n0_; have BK179 := n1_; have GW179 := n2_; have GE179 := n3_; clear n0_ n1_ n2_ n3_; clear hb hbox hg) | ((with_reducible refine gate_dst (N := 3) rfl ?_); refine box_event ?hg (N := 3) ?hd (cs := #[.int .i64 a1_0, .int .i64 a1_1]) (t := 90) ?hr ?_; (case hd => rfl); (case hg => rfl); (case hr => first | (go_simp; done) | (go_simp; rfl)); intro gb180 hg w5 hbox hb; have n0_ := Aside0.mk (blk_below (g := gb179) (o := b2 a0_0 a0_1 90) (bz BK179.out) hb); have n1_ := Aside0.mk (below_step (hz1 HB.out GE179.out) hb); have n2_ := Aside0.mk (hbox); have n3_ := Aside0.mk ((by rw [hg]; exact (below_size (hz1 HB.out GE179.out)) : w.heap.size ≤ gb180)); have n4_ := Aside0.mk ((by rw [hg]; exact (below_size (hz1 HB.out GE179.out)) : w.heap.size ≤ gb180)); have n5_ := Aside0.mk ((by rw [hg]; exact Nat.ne_of_lt (blk_lt (g := gb179) (o := b2 a0_0 a0_1 90) (bz BK179.out)) : gb179 ≠ gb180)); have n6_ := Aside0.mk ((by rw [hg]; exact Nat.ne_of_gt (blk_lt (g := gb179) (o := b2 a0_0 a0_1 90) (bz BK179.out)) : gb180 ≠ gb179)); clear BK179; clear HB; have BK179 := n0_; have HB := n1_; have BK180 := n2_; have GW180 := n3_; have GE180 := n4_; have NB179_180 := n5_; have NB180_179 := n6_; clear n0_ n1_ n2_ n3_ n4_ n5_ n6_; clear hb hbox hg) | ((with_reducible refine gate_dst (N := 4) rfl ?_); refine box_event ?hg (N := 4) ?hd (cs := #[.int .i64 0, .int .i64 0]) (t := 90) ?hr ?_; (case hd => rfl); (case hg => rfl); (case hr => first | (go_simp; done) | (go_simp; rfl)); intro gb181 hg w6 hbox hb; have n0_ := Aside0.mk (blk_below (g := gb179) (o := b2 a0_0 a0_1 90) (bz BK179.out) hb); have n1_ := Aside0.mk (blk_below (g := gb180) (o := b2 a1_0 a1_1 90) (bz BK180.out) hb); have n2_ := Aside0.mk (below_step (hz2 HB.out GE179.out GE180.out) hb); have n3_ := Aside0.mk (hbox); have n4_ := Aside0.mk ((by rw [hg]; exact (below_size (hz2 HB.out GE179.out GE180.out)) : w.heap.size ≤ gb181)); have n5_ := Aside0.mk ((by rw [hg]; exact (below_size (hz2 HB.out GE179.out GE180.out)) : w.heap.size ≤ gb181)); have n6_ := Aside0.mk ((by rw [hg]; exact Nat.ne_of_lt (blk_lt (g := gb179) (o := b2 a0_0 a0_1 90) (bz BK179.out)) : gb179 ≠ gb181)); have n7_ := Aside0.mk ((by rw [hg]; exact Nat.ne_of_gt (blk_lt (g := gb179) (o := b2 a0_0 a0_1 90) (bz BK179.out)) : gb181 ≠ gb179)); have n8_ := Aside0.mk ((by rw [hg]; exact Nat.ne_of_lt (blk_lt (g := gb180) (o := b2 a1_0 a1_1 90) (bz BK180.out)) : gb180 ≠ gb181)); have n9_ := Aside0.mk ((by rw [hg]; exact Nat.ne_of_gt (blk_lt (g := gb180) (o := b2 a1_0 a1_1 90) (bz BK180.out)) : gb181 ≠ gb180)); clear BK179; clear BK180; clear HB; have BK179 := n0_; have BK180 := n1_; have HB := n2_; have BK181 := n3_; have GW181 := n4_; have GE181 := n5_; have NB179_181 := n6_; have NB181_179 := n7_; have NB180_181 := n8_; have NB181_180 := n9_; clear n0_ n1_ n2_ n3_ n4_ n5_ n6_ n7_ n8_ n9_; clear hb hbox hg)))
 (try simp only [Act.put, List.setIfInBounds_toArray, List.set_cons_zero, List.set_cons_succ])
 go_cut [16] (fun v16 wc => ∃ (kq : Nat) (x16_2 : Bool), v16 = .bool x16_2 ∧ Aside0 (spec_RestMeet.j0 kq x16_2 a0_0 a0_1 a1_0 a1_1 = some (r1, r2, r3)) ∧ Aside0 (kq ≤ k) ∧ Aside0 (wc.heap[gb179]? = some (.cells #[.int .i64 a0_0, .int .i64 a0_1] 90 (0, 0))) ∧ Aside0 (wc.heap[gb180]? = some (.cells #[.int .i64 a1_0, .int .i64 a1_1] 90 (0, 0))) ∧ Aside0 (wc.heap[gb181]? = some (.cells #[.int .i64 0, .int .i64 0] 90 (0, 0))) ∧ Aside0 (Below w.heap.size w wc))
 case first =>
  have H := HC3.out
  clear HC3
  replace H := Option.bind_eq_some_iff.mp H
  obtain ⟨t182, A70, H⟩ := H
  replace H : (if t182 = true then ((spec_RestOk.f a1_0 a1_1).bind fun t183 => (spec_RestMeet.j0 k (!t183) a0_0 a0_1 a1_0 a1_1)) else (spec_RestMeet.j0 k true a0_0 a0_1 a1_0 a1_1)) = some (r1, r2, r3) := H
  have A7 := Aside0.mk A70
  clear A70
  by_cases c8 : t182 = true
  ·subst c8
   have H1 : ((spec_RestOk.f a1_0 a1_1).bind fun t183 => (spec_RestMeet.j0 k (!t183) a0_0 a0_1 a1_0 a1_1)) = some (r1, r2, r3) := by rw [if_pos rfl] at H; exact H
   clear H
   have H := H1
   clear H1
   replace H := Option.bind_eq_some_iff.mp H
   obtain ⟨t183, A90, H⟩ := H
   replace H : (spec_RestMeet.j0 k (!t183) a0_0 a0_1 a1_0 a1_1) = some (r1, r2, r3) := H
   have A9 := Aside0.mk A90
   clear A90
   have H' := Aside0.mk H
   clear H
   have hnb10 := NB179_180.out
   have hnc10 := NB180_179.out
   have hnb11 := NB179_181.out
   have hnc11 := NB181_179.out
   have hcz12_0 : w6.cell? ⟨gb179, 0, none⟩ = some (.int .i64 a0_0) := bc BK179 0
   have hcz12_1 : w6.cell? ⟨gb179, 1, none⟩ = some (.int .i64 a0_1) := bc BK179 1
   have hfz12_0 := blk_frozen BK179.out 0
   have hfz12_1 := blk_frozen BK179.out 1
   go_wp2_with (first | (go_at_call 118; (with_reducible refine (spec_RestOk.calls a0_0 a0_1 true _ A7.out).mono ?_); rintro e w13 ⟨rfl, hb⟩; have n0_ := Aside0.mk (blk_below (g := gb179) (o := b2 a0_0 a0_1 90) (bz BK179.out) hb); have n1_ := Aside0.mk (blk_below (g := gb180) (o := b2 a1_0 a1_1 90) (bz BK180.out) hb); have n2_ := Aside0.mk (blk_below (g := gb181) (o := b2 0 0 90) (bz BK181.out) hb); have n3_ := Aside0.mk (below_step (hz3 HB.out GE179.out GE180.out GE181.out) hb); clear BK179; clear BK180; clear BK181; clear HB; have BK179 := n0_; have BK180 := n1_; have BK181 := n2_; have HB := n3_; clear n0_ n1_ n2_ n3_; (try clear hb); (try clear hb2); (try clear hk); (try clear hi); have hnb14 := NB180_181.out; have hnc14 := NB181_180.out; have hcz15_0 : w13.cell? ⟨gb180, 0, none⟩ = some (.int .i64 a1_0) := bc BK180 0; have hcz15_1 : w13.cell? ⟨gb180, 1, none⟩ = some (.int .i64 a1_1) := bc BK180 1; have hfz15_0 := blk_frozen BK180.out 0; have hfz15_1 := blk_frozen BK180.out 1) | (go_at_call 118; (with_reducible refine (spec_RestOk.calls a1_0 a1_1 t183 _ A9.out).mono ?_); rintro e w16 ⟨rfl, hb⟩; have n0_ := Aside0.mk (blk_below (g := gb179) (o := b2 a0_0 a0_1 90) (bz BK179.out) hb); have n1_ := Aside0.mk (blk_below (g := gb180) (o := b2 a1_0 a1_1 90) (bz BK180.out) hb); have n2_ := Aside0.mk (blk_below (g := gb181) (o := b2 0 0 90) (bz BK181.out) hb); have n3_ := Aside0.mk (below_step (hz3 HB.out GE179.out GE180.out GE181.out) hb); clear BK179; clear BK180; clear BK181; clear HB; have BK179 := n0_; have BK180 := n1_; have BK181 := n2_; have HB := n3_; clear n0_ n1_ n2_ n3_; (try clear hb); (try clear hb2); (try clear hk); (try clear hi)))
   try have hnb14 := NB180_181.out
   try have hnc14 := NB181_180.out
   try have hcz15_0 : w13.cell? ⟨gb180, 0, none⟩ = some (.int .i64 a1_0) := bc BK180 0
   try have hcz15_1 : w13.cell? ⟨gb180, 1, none⟩ = some (.int .i64 a1_1) := bc BK180 1
   try have hfz15_0 := blk_frozen BK180.out 0
   try have hfz15_1 := blk_frozen BK180.out 1
   repeat (go_quiet (first | (go_at_call 118; (with_reducible refine (spec_RestOk.calls a0_0 a0_1 true _ A7.out).mono ?_); rintro e w13 ⟨rfl, hb⟩; have n0_ := Aside0.mk (blk_below (g := gb179) (o := b2 a0_0 a0_1 90) (bz BK179.out) hb); have n1_ := Aside0.mk (blk_below (g := gb180) (o := b2 a1_0 a1_1 90) (bz BK180.out) hb); have n2_ := Aside0.mk (blk_below (g := gb181) (o := b2 0 0 90) (bz BK181.out) hb); have n3_ := Aside0.mk (below_step (hz3 HB.out GE179.out GE180.out GE181.out) hb); clear BK179; clear BK180; clear BK181; clear HB; have BK179 := n0_; have BK180 := n1_; have BK181 := n2_; have HB := n3_; clear n0_ n1_ n2_ n3_; (try clear hb); (try clear hb2); (try clear hk); (try clear hi); (try (have hnb14 := NB180_181.out; have hnc14 := NB181_180.out; have hcz15_0 : w13.cell? ⟨gb180, 0, none⟩ = some (.int .i64 a1_0) := bc BK180 0; have hcz15_1 : w13.cell? ⟨gb180, 1, none⟩ = some (.int .i64 a1_1) := bc BK180 1; have hfz15_0 := blk_frozen BK180.out 0; have hfz15_1 := blk_frozen BK180.out 1))) | (go_at_call 118; (with_reducible refine (spec_RestOk.calls a1_0 a1_1 t183 _ A9.out).mono ?_); rintro e w16 ⟨rfl, hb⟩; have n0_ := Aside0.mk (blk_below (g := gb179) (o := b2 a0_0 a0_1 90) (bz BK179.out) hb); have n1_ := Aside0.mk (blk_below (g := gb180) (o := b2 a1_0 a1_1 90) (bz BK180.out) hb); have n2_ := Aside0.mk (blk_below (g := gb181) (o := b2 0 0 90) (bz BK181.out) hb); have n3_ := Aside0.mk (below_step (hz3 HB.out GE179.out GE180.out GE181.out) hb); clear BK179; clear BK180; clear BK181; clear HB; have BK179 := n0_; have BK180 := n1_; have BK181 := n2_; have HB := n3_; clear n0_ n1_ n2_ n3_; (try clear hb); (try clear hb2); (try clear hk); (try clear hi))); try go_wp2_with (first | (go_at_call 118; (with_reducible refine (spec_RestOk.calls a0_0 a0_1 true _ A7.out).mono ?_); rintro e w13 ⟨rfl, hb⟩; have n0_ := Aside0.mk (blk_below (g := gb179) (o := b2 a0_0 a0_1 90) (bz BK179.out) hb); have n1_ := Aside0.mk (blk_below (g := gb180) (o := b2 a1_0 a1_1 90) (bz BK180.out) hb); have n2_ := Aside0.mk (blk_below (g := gb181) (o := b2 0 0 90) (bz BK181.out) hb); have n3_ := Aside0.mk (below_step (hz3 HB.out GE179.out GE180.out GE181.out) hb); clear BK179; clear BK180; clear BK181; clear HB; have BK179 := n0_; have BK180 := n1_; have BK181 := n2_; have HB := n3_; clear n0_ n1_ n2_ n3_; (try clear hb); (try clear hb2); (try clear hk); (try clear hi); (try (have hnb14 := NB180_181.out; have hnc14 := NB181_180.out; have hcz15_0 : w13.cell? ⟨gb180, 0, none⟩ = some (.int .i64 a1_0) := bc BK180 0; have hcz15_1 : w13.cell? ⟨gb180, 1, none⟩ = some (.int .i64 a1_1) := bc BK180 1; have hfz15_0 := blk_frozen BK180.out 0; have hfz15_1 := blk_frozen BK180.out 1))) | (go_at_call 118; (with_reducible refine (spec_RestOk.calls a1_0 a1_1 t183 _ A9.out).mono ?_); rintro e w16 ⟨rfl, hb⟩; have n0_ := Aside0.mk (blk_below (g := gb179) (o := b2 a0_0 a0_1 90) (bz BK179.out) hb); have n1_ := Aside0.mk (blk_below (g := gb180) (o := b2 a1_0 a1_1 90) (bz BK180.out) hb); have n2_ := Aside0.mk (blk_below (g := gb181) (o := b2 0 0 90) (bz BK181.out) hb); have n3_ := Aside0.mk (below_step (hz3 HB.out GE179.out GE180.out GE181.out) hb); clear BK179; clear BK180; clear BK181; clear HB; have BK179 := n0_; have BK180 := n1_; have BK181 := n2_; have HB := n3_; clear n0_ n1_ n2_ n3_; (try clear hb); (try clear hb2); (try clear hk); (try clear hi))))
   go_meet
   case rel => exact ⟨_, (!t183), (by first | rfl | (simp; done) | (simp [*]; done)), H', ⟨by first | omega | exact Nat.le_refl _⟩, ⟨bz BK179.out⟩, ⟨bz BK180.out⟩, ⟨bz BK181.out⟩, ⟨hz3 HB.out GE179.out GE180.out GE181.out⟩⟩
  ·replace c8 := Bool.eq_false_iff.mpr c8
   subst c8
   have H1 : (spec_RestMeet.j0 k true a0_0 a0_1 a1_0 a1_1) = some (r1, r2, r3) := by rw [if_neg (show ¬ (false = true) by decide)] at H; exact H
   clear H
   have H := H1
   clear H1
   have H' := Aside0.mk H
   clear H
   have hnb17 := NB179_180.out
   have hnc17 := NB180_179.out
   have hnb18 := NB179_181.out
   have hnc18 := NB181_179.out
   have hcz19_0 : w6.cell? ⟨gb179, 0, none⟩ = some (.int .i64 a0_0) := bc BK179 0
   have hcz19_1 : w6.cell? ⟨gb179, 1, none⟩ = some (.int .i64 a0_1) := bc BK179 1
   have hfz19_0 := blk_frozen BK179.out 0
   have hfz19_1 := blk_frozen BK179.out 1
   go_wp2_with (first | (go_at_call 118; (with_reducible refine (spec_RestOk.calls a0_0 a0_1 false _ A7.out).mono ?_); rintro e w20 ⟨rfl, hb⟩; have n0_ := Aside0.mk (blk_below (g := gb179) (o := b2 a0_0 a0_1 90) (bz BK179.out) hb); have n1_ := Aside0.mk (blk_below (g := gb180) (o := b2 a1_0 a1_1 90) (bz BK180.out) hb); have n2_ := Aside0.mk (blk_below (g := gb181) (o := b2 0 0 90) (bz BK181.out) hb); have n3_ := Aside0.mk (below_step (hz3 HB.out GE179.out GE180.out GE181.out) hb); clear BK179; clear BK180; clear BK181; clear HB; have BK179 := n0_; have BK180 := n1_; have BK181 := n2_; have HB := n3_; clear n0_ n1_ n2_ n3_; (try clear hb); (try clear hb2); (try clear hk); (try clear hi)))
   repeat (go_quiet (first | (go_at_call 118; (with_reducible refine (spec_RestOk.calls a0_0 a0_1 false _ A7.out).mono ?_); rintro e w20 ⟨rfl, hb⟩; have n0_ := Aside0.mk (blk_below (g := gb179) (o := b2 a0_0 a0_1 90) (bz BK179.out) hb); have n1_ := Aside0.mk (blk_below (g := gb180) (o := b2 a1_0 a1_1 90) (bz BK180.out) hb); have n2_ := Aside0.mk (blk_below (g := gb181) (o := b2 0 0 90) (bz BK181.out) hb); have n3_ := Aside0.mk (below_step (hz3 HB.out GE179.out GE180.out GE181.out) hb); clear BK179; clear BK180; clear BK181; clear HB; have BK179 := n0_; have BK180 := n1_; have BK181 := n2_; have HB := n3_; clear n0_ n1_ n2_ n3_; (try clear hb); (try clear hb2); (try clear hk); (try clear hi))); try go_wp2_with (first | (go_at_call 118; (with_reducible refine (spec_RestOk.calls a0_0 a0_1 false _ A7.out).mono ?_); rintro e w20 ⟨rfl, hb⟩; have n0_ := Aside0.mk (blk_below (g := gb179) (o := b2 a0_0 a0_1 90) (bz BK179.out) hb); have n1_ := Aside0.mk (blk_below (g := gb180) (o := b2 a1_0 a1_1 90) (bz BK180.out) hb); have n2_ := Aside0.mk (blk_below (g := gb181) (o := b2 0 0 90) (bz BK181.out) hb); have n3_ := Aside0.mk (below_step (hz3 HB.out GE179.out GE180.out GE181.out) hb); clear BK179; clear BK180; clear BK181; clear HB; have BK179 := n0_; have BK180 := n1_; have BK181 := n2_; have HB := n3_; clear n0_ n1_ n2_ n3_; (try clear hb); (try clear hb2); (try clear hk); (try clear hi))))
   go_meet
   case rel => exact ⟨_, (true), (by first | rfl | (simp; done) | (simp [*]; done)), H', ⟨by first | omega | exact Nat.le_refl _⟩, ⟨bz BK179.out⟩, ⟨bz BK180.out⟩, ⟨bz BK181.out⟩, ⟨hz3 HB.out GE179.out GE180.out GE181.out⟩⟩
 case rest =>
  clear HC3
  try clear c1
  try clear p2
  try clear c8
  try clear c10
  try clear c11
  try clear c14
  try clear c17
  try clear c18
  try clear hcz12_0
  try clear hcz12_1
  try clear hcz15_0
  try clear hcz15_1
  try clear hcz19_0
  try clear hcz19_1
  try clear hfz12_0
  try clear hfz12_1
  try clear hfz15_0
  try clear hfz15_1
  try clear hfz19_0
  try clear hfz19_1
  obtain ⟨kq, x16_2, rfl, HA, HJ2, BK179, BK180, BK181, HB⟩ := hcut
  cases kq with
  | zero => exact absurd HA.out (by simp [spec_RestMeet.j0])
  | succ kj2 =>
   have H := HA.out
   clear HA
   simp only [spec_RestMeet.j0] at H
   by_cases c21 : x16_2 = true
   ·subst c21
    have H1 : (some (0, 0, false)) = some (r1, r2, r3) := by rw [if_pos rfl] at H; exact H
    clear H
    have H := H1
    clear H1
    simp only [Option.some.injEq, Prod.mk.injEq] at H
    obtain ⟨rfl, rfl, rfl⟩ := H
    have hnb22 := NB181_179.out
    have hnc22 := NB179_181.out
    have hnb23 := NB181_180.out
    have hnc23 := NB180_181.out
    have hcz24_0 : wc.cell? ⟨gb181, 0, none⟩ = some (.int .i64 0) := bc BK181 0
    have hcz24_1 : wc.cell? ⟨gb181, 1, none⟩ = some (.int .i64 0) := bc BK181 1
    have hfz24_0 := blk_frozen BK181.out 0
    have hfz24_1 := blk_frozen BK181.out 1
    go_wp2
    repeat (go_quiet (fail); try go_wp2)
    refine bodyPost_ret (results_ct rfl _ _ gb181 90 #[.int .i64 0, .int .i64 0] (0, 0) _ rfl (by (with_reducible repeat (first | refine blk_drewN ?_ _ | refine blk_drew ?_ | refine blk_alloc ?_ _)); refine blk_put (cs := #[.int .i64 0, .int .i64 0]) ?_ 1 _ rfl; (with_reducible repeat (first | refine blk_drewN ?_ _ | refine blk_drew ?_ | refine blk_alloc ?_ _)); refine blk_put (cs := #[.int .i64 0, .int .i64 0]) ?_ 0 _ rfl; (with_reducible repeat (first | refine blk_drewN ?_ _ | refine blk_drew ?_ | refine blk_alloc ?_ _)); exact BK181.out) Try.underlying90 rfl (by kernel_rfl)) rfl ?_
    exact ⟨by first | rfl | (simp [errW_none, errW_some] <;> rfl) | (simp [*, errW_none, errW_some] <;> rfl), hz3 HB.out GE179.out GE180.out GE181.out⟩
   ·replace c21 := Bool.eq_false_iff.mpr c21
    subst c21
    have H1 : (if a0_0 = 0 then ((spec_RestHas.f kj2 a1_0 a1_1 a0_1).bind fun t184 => (if t184 = true then (some (a0_0, a0_1, true)) else (some (0, 0, false)))) else (if a1_0 = 0 then ((spec_RestMeet.f kj2 a1_0 a1_1 a0_0 a0_1).bind fun bt185 => (some (bt185.1, bt185.2.1, bt185.2.2))) else ((spec_l9Gcd.f kj2 a0_0 a1_0).bind fun t188 => ((spec_l1Mod.f (wrap64 (a0_1 - a1_1)) t188).bind fun t189 => (if t189 = 0 then (if t188 = 0 then (none) else (if (wrap64 ((wrap64 (Int.tdiv a0_0 t188)) * a1_0)) > 65536 then (if a1_0 > a0_0 then (some (a1_0, a1_1, true)) else (some (a0_0, a0_1, true))) else (spec_RestMeet.l0 kj2 (wrap64 ((wrap64 (Int.tdiv a0_0 t188)) * a1_0)) a0_1 a0_0 a0_1 a1_0 a1_1))) else (some (0, 0, false))))))) = some (r1, r2, r3) := by rw [if_neg (show ¬ (false = true) by decide)] at H; exact H
    clear H
    have H := H1
    clear H1
    by_cases c25 : a0_0 = 0
    ·rw [if_pos c25] at H
     have c25b0 : (a0_0 == 0) = true := beq_iff_eq.mpr c25
     have c25b1 : (a0_0 != 0) = false := bne_eq_false_iff_eq.mpr c25
     clear c25
     replace H := Option.bind_eq_some_iff.mp H
     obtain ⟨t184, A260, H⟩ := H
     replace H : (if t184 = true then (some (a0_0, a0_1, true)) else (some (0, 0, false))) = some (r1, r2, r3) := H
     have A26 := Aside0.mk A260
     clear A260
     by_cases c27 : t184 = true
     ·subst c27
      have H1 : (some (a0_0, a0_1, true)) = some (r1, r2, r3) := by rw [if_pos rfl] at H; exact H
      clear H
      have H := H1
      clear H1
      simp only [Option.some.injEq, Prod.mk.injEq] at H
      obtain ⟨rfl, rfl, rfl⟩ := H
      have hnb28 := NB179_180.out
      have hnc28 := NB180_179.out
      have hnb29 := NB179_181.out
      have hnc29 := NB181_179.out
      have hcz30_0 : wc.cell? ⟨gb179, 0, none⟩ = some (.int .i64 a0_0) := bc BK179 0
      have hcz30_1 : wc.cell? ⟨gb179, 1, none⟩ = some (.int .i64 a0_1) := bc BK179 1
      have hfz30_0 := blk_frozen BK179.out 0
      have hfz30_1 := blk_frozen BK179.out 1
      have hnb31 := NB180_181.out
      have hnc31 := NB181_180.out
      have hcz32_0 : wc.cell? ⟨gb180, 0, none⟩ = some (.int .i64 a1_0) := bc BK180 0
      have hcz32_1 : wc.cell? ⟨gb180, 1, none⟩ = some (.int .i64 a1_1) := bc BK180 1
      have hfz32_0 := blk_frozen BK180.out 0
      have hfz32_1 := blk_frozen BK180.out 1
      go_wp2_with (first | (go_at_call 61; (with_reducible refine (spec_RestHas.calls kj2 a1_0 a1_1 a0_1 true _ A26.out).mono ?_); rintro e w33 ⟨rfl, hb⟩; have n0_ := Aside0.mk (blk_below (g := gb179) (o := b2 a0_0 a0_1 90) (bz BK179.out) hb); have n1_ := Aside0.mk (blk_below (g := gb180) (o := b2 a1_0 a1_1 90) (bz BK180.out) hb); have n2_ := Aside0.mk (blk_below (g := gb181) (o := b2 0 0 90) (bz BK181.out) hb); have n3_ := Aside0.mk (below_step (hz3 HB.out GE179.out GE180.out GE181.out) hb); clear BK179; clear BK180; clear BK181; clear HB; have BK179 := n0_; have BK180 := n1_; have BK181 := n2_; have HB := n3_; clear n0_ n1_ n2_ n3_; (try clear hb); (try clear hb2); (try clear hk); (try clear hi); have hcz34_0 : w33.cell? ⟨gb179, 0, none⟩ = some (.int .i64 a0_0) := bc BK179 0; have hcz34_1 : w33.cell? ⟨gb179, 1, none⟩ = some (.int .i64 a0_1) := bc BK179 1; have hfz34_0 := blk_frozen BK179.out 0; have hfz34_1 := blk_frozen BK179.out 1; have hcz35_0 : w33.cell? ⟨gb181, 0, none⟩ = some (.int .i64 0) := bc BK181 0; have hcz35_1 : w33.cell? ⟨gb181, 1, none⟩ = some (.int .i64 0) := bc BK181 1; have hfz35_0 := blk_frozen BK181.out 0; have hfz35_1 := blk_frozen BK181.out 1))
      try have hcz34_0 : w33.cell? ⟨gb179, 0, none⟩ = some (.int .i64 a0_0) := bc BK179 0
      try have hcz34_1 : w33.cell? ⟨gb179, 1, none⟩ = some (.int .i64 a0_1) := bc BK179 1
      try have hfz34_0 := blk_frozen BK179.out 0
      try have hfz34_1 := blk_frozen BK179.out 1
      try have hcz35_0 : w33.cell? ⟨gb181, 0, none⟩ = some (.int .i64 0) := bc BK181 0
      try have hcz35_1 : w33.cell? ⟨gb181, 1, none⟩ = some (.int .i64 0) := bc BK181 1
      try have hfz35_0 := blk_frozen BK181.out 0
      try have hfz35_1 := blk_frozen BK181.out 1
      repeat (go_quiet (first | (go_at_call 61; (with_reducible refine (spec_RestHas.calls kj2 a1_0 a1_1 a0_1 true _ A26.out).mono ?_); rintro e w33 ⟨rfl, hb⟩; have n0_ := Aside0.mk (blk_below (g := gb179) (o := b2 a0_0 a0_1 90) (bz BK179.out) hb); have n1_ := Aside0.mk (blk_below (g := gb180) (o := b2 a1_0 a1_1 90) (bz BK180.out) hb); have n2_ := Aside0.mk (blk_below (g := gb181) (o := b2 0 0 90) (bz BK181.out) hb); have n3_ := Aside0.mk (below_step (hz3 HB.out GE179.out GE180.out GE181.out) hb); clear BK179; clear BK180; clear BK181; clear HB; have BK179 := n0_; have BK180 := n1_; have BK181 := n2_; have HB := n3_; clear n0_ n1_ n2_ n3_; (try clear hb); (try clear hb2); (try clear hk); (try clear hi); (try (have hcz34_0 : w33.cell? ⟨gb179, 0, none⟩ = some (.int .i64 a0_0) := bc BK179 0; have hcz34_1 : w33.cell? ⟨gb179, 1, none⟩ = some (.int .i64 a0_1) := bc BK179 1; have hfz34_0 := blk_frozen BK179.out 0; have hfz34_1 := blk_frozen BK179.out 1; have hcz35_0 : w33.cell? ⟨gb181, 0, none⟩ = some (.int .i64 0) := bc BK181 0; have hcz35_1 : w33.cell? ⟨gb181, 1, none⟩ = some (.int .i64 0) := bc BK181 1; have hfz35_0 := blk_frozen BK181.out 0; have hfz35_1 := blk_frozen BK181.out 1)))); try go_wp2_with (first | (go_at_call 61; (with_reducible refine (spec_RestHas.calls kj2 a1_0 a1_1 a0_1 true _ A26.out).mono ?_); rintro e w33 ⟨rfl, hb⟩; have n0_ := Aside0.mk (blk_below (g := gb179) (o := b2 a0_0 a0_1 90) (bz BK179.out) hb); have n1_ := Aside0.mk (blk_below (g := gb180) (o := b2 a1_0 a1_1 90) (bz BK180.out) hb); have n2_ := Aside0.mk (blk_below (g := gb181) (o := b2 0 0 90) (bz BK181.out) hb); have n3_ := Aside0.mk (below_step (hz3 HB.out GE179.out GE180.out GE181.out) hb); clear BK179; clear BK180; clear BK181; clear HB; have BK179 := n0_; have BK180 := n1_; have BK181 := n2_; have HB := n3_; clear n0_ n1_ n2_ n3_; (try clear hb); (try clear hb2); (try clear hk); (try clear hi); (try (have hcz34_0 : w33.cell? ⟨gb179, 0, none⟩ = some (.int .i64 a0_0) := bc BK179 0; have hcz34_1 : w33.cell? ⟨gb179, 1, none⟩ = some (.int .i64 a0_1) := bc BK179 1; have hfz34_0 := blk_frozen BK179.out 0; have hfz34_1 := blk_frozen BK179.out 1; have hcz35_0 : w33.cell? ⟨gb181, 0, none⟩ = some (.int .i64 0) := bc BK181 0; have hcz35_1 : w33.cell? ⟨gb181, 1, none⟩ = some (.int .i64 0) := bc BK181 1; have hfz35_0 := blk_frozen BK181.out 0; have hfz35_1 := blk_frozen BK181.out 1)))))
      refine bodyPost_ret (results_ct rfl _ _ gb181 90 #[.int .i64 a0_0, .int .i64 a0_1] (0, 0) _ rfl (by (with_reducible repeat (first | refine blk_drewN ?_ _ | refine blk_drew ?_ | refine blk_alloc ?_ _)); refine blk_put (cs := #[.int .i64 a0_0, .int .i64 0]) ?_ 1 _ rfl; (with_reducible repeat (first | refine blk_drewN ?_ _ | refine blk_drew ?_ | refine blk_alloc ?_ _)); refine blk_put (cs := #[.int .i64 0, .int .i64 0]) ?_ 0 _ rfl; (with_reducible repeat (first | refine blk_drewN ?_ _ | refine blk_drew ?_ | refine blk_alloc ?_ _)); exact BK181.out) Try.underlying90 rfl (by kernel_rfl)) rfl ?_
      exact ⟨by first | rfl | (simp [errW_none, errW_some] <;> rfl) | (simp [*, errW_none, errW_some] <;> rfl), hz3 HB.out GE179.out GE180.out GE181.out⟩
     ·replace c27 := Bool.eq_false_iff.mpr c27
      subst c27
      have H1 : (some (0, 0, false)) = some (r1, r2, r3) := by rw [if_neg (show ¬ (false = true) by decide)] at H; exact H
      clear H
      have H := H1
      clear H1
      simp only [Option.some.injEq, Prod.mk.injEq] at H
      obtain ⟨rfl, rfl, rfl⟩ := H
      have hnb36 := NB179_180.out
      have hnc36 := NB180_179.out
      have hnb37 := NB179_181.out
      have hnc37 := NB181_179.out
      have hcz38_0 : wc.cell? ⟨gb179, 0, none⟩ = some (.int .i64 a0_0) := bc BK179 0
      have hcz38_1 : wc.cell? ⟨gb179, 1, none⟩ = some (.int .i64 a0_1) := bc BK179 1
      have hfz38_0 := blk_frozen BK179.out 0
      have hfz38_1 := blk_frozen BK179.out 1
      have hnb39 := NB180_181.out
      have hnc39 := NB181_180.out
      have hcz40_0 : wc.cell? ⟨gb180, 0, none⟩ = some (.int .i64 a1_0) := bc BK180 0
      have hcz40_1 : wc.cell? ⟨gb180, 1, none⟩ = some (.int .i64 a1_1) := bc BK180 1
      have hfz40_0 := blk_frozen BK180.out 0
      have hfz40_1 := blk_frozen BK180.out 1
      go_wp2_with (first | (go_at_call 61; (with_reducible refine (spec_RestHas.calls kj2 a1_0 a1_1 a0_1 false _ A26.out).mono ?_); rintro e w41 ⟨rfl, hb⟩; have n0_ := Aside0.mk (blk_below (g := gb179) (o := b2 a0_0 a0_1 90) (bz BK179.out) hb); have n1_ := Aside0.mk (blk_below (g := gb180) (o := b2 a1_0 a1_1 90) (bz BK180.out) hb); have n2_ := Aside0.mk (blk_below (g := gb181) (o := b2 0 0 90) (bz BK181.out) hb); have n3_ := Aside0.mk (below_step (hz3 HB.out GE179.out GE180.out GE181.out) hb); clear BK179; clear BK180; clear BK181; clear HB; have BK179 := n0_; have BK180 := n1_; have BK181 := n2_; have HB := n3_; clear n0_ n1_ n2_ n3_; (try clear hb); (try clear hb2); (try clear hk); (try clear hi); have hcz42_0 : w41.cell? ⟨gb181, 0, none⟩ = some (.int .i64 0) := bc BK181 0; have hcz42_1 : w41.cell? ⟨gb181, 1, none⟩ = some (.int .i64 0) := bc BK181 1; have hfz42_0 := blk_frozen BK181.out 0; have hfz42_1 := blk_frozen BK181.out 1))
      try have hcz42_0 : w41.cell? ⟨gb181, 0, none⟩ = some (.int .i64 0) := bc BK181 0
      try have hcz42_1 : w41.cell? ⟨gb181, 1, none⟩ = some (.int .i64 0) := bc BK181 1
      try have hfz42_0 := blk_frozen BK181.out 0
      try have hfz42_1 := blk_frozen BK181.out 1
      repeat (go_quiet (first | (go_at_call 61; (with_reducible refine (spec_RestHas.calls kj2 a1_0 a1_1 a0_1 false _ A26.out).mono ?_); rintro e w41 ⟨rfl, hb⟩; have n0_ := Aside0.mk (blk_below (g := gb179) (o := b2 a0_0 a0_1 90) (bz BK179.out) hb); have n1_ := Aside0.mk (blk_below (g := gb180) (o := b2 a1_0 a1_1 90) (bz BK180.out) hb); have n2_ := Aside0.mk (blk_below (g := gb181) (o := b2 0 0 90) (bz BK181.out) hb); have n3_ := Aside0.mk (below_step (hz3 HB.out GE179.out GE180.out GE181.out) hb); clear BK179; clear BK180; clear BK181; clear HB; have BK179 := n0_; have BK180 := n1_; have BK181 := n2_; have HB := n3_; clear n0_ n1_ n2_ n3_; (try clear hb); (try clear hb2); (try clear hk); (try clear hi); (try (have hcz42_0 : w41.cell? ⟨gb181, 0, none⟩ = some (.int .i64 0) := bc BK181 0; have hcz42_1 : w41.cell? ⟨gb181, 1, none⟩ = some (.int .i64 0) := bc BK181 1; have hfz42_0 := blk_frozen BK181.out 0; have hfz42_1 := blk_frozen BK181.out 1)))); try go_wp2_with (first | (go_at_call 61; (with_reducible refine (spec_RestHas.calls kj2 a1_0 a1_1 a0_1 false _ A26.out).mono ?_); rintro e w41 ⟨rfl, hb⟩; have n0_ := Aside0.mk (blk_below (g := gb179) (o := b2 a0_0 a0_1 90) (bz BK179.out) hb); have n1_ := Aside0.mk (blk_below (g := gb180) (o := b2 a1_0 a1_1 90) (bz BK180.out) hb); have n2_ := Aside0.mk (blk_below (g := gb181) (o := b2 0 0 90) (bz BK181.out) hb); have n3_ := Aside0.mk (below_step (hz3 HB.out GE179.out GE180.out GE181.out) hb); clear BK179; clear BK180; clear BK181; clear HB; have BK179 := n0_; have BK180 := n1_; have BK181 := n2_; have HB := n3_; clear n0_ n1_ n2_ n3_; (try clear hb); (try clear hb2); (try clear hk); (try clear hi); (try (have hcz42_0 : w41.cell? ⟨gb181, 0, none⟩ = some (.int .i64 0) := bc BK181 0; have hcz42_1 : w41.cell? ⟨gb181, 1, none⟩ = some (.int .i64 0) := bc BK181 1; have hfz42_0 := blk_frozen BK181.out 0; have hfz42_1 := blk_frozen BK181.out 1)))))
      refine bodyPost_ret (results_ct rfl _ _ gb181 90 #[.int .i64 0, .int .i64 0] (0, 0) _ rfl (by (with_reducible repeat (first | refine blk_drewN ?_ _ | refine blk_drew ?_ | refine blk_alloc ?_ _)); refine blk_put (cs := #[.int .i64 0, .int .i64 0]) ?_ 1 _ rfl; (with_reducible repeat (first | refine blk_drewN ?_ _ | refine blk_drew ?_ | refine blk_alloc ?_ _)); refine blk_put (cs := #[.int .i64 0, .int .i64 0]) ?_ 0 _ rfl; (with_reducible repeat (first | refine blk_drewN ?_ _ | refine blk_drew ?_ | refine blk_alloc ?_ _)); exact BK181.out) Try.underlying90 rfl (by kernel_rfl)) rfl ?_
      exact ⟨by first | rfl | (simp [errW_none, errW_some] <;> rfl) | (simp [*, errW_none, errW_some] <;> rfl), hz3 HB.out GE179.out GE180.out GE181.out⟩
    ·rw [if_neg c25] at H
     have c25b0 : (a0_0 == 0) = false := beq_eq_false_iff_ne.mpr c25
     have c25b1 : (a0_0 != 0) = true := bne_iff_ne.mpr c25
     by_cases c43 : a1_0 = 0
     ·rw [if_pos c43] at H
      have c43b0 : (a1_0 == 0) = true := beq_iff_eq.mpr c43
      have c43b1 : (a1_0 != 0) = false := bne_eq_false_iff_eq.mpr c43
      clear c43
      replace H := Option.bind_eq_some_iff.mp H
      obtain ⟨⟨t185, t186, t187⟩, A440, H⟩ := H
      replace H : (some (t185, t186, t187)) = some (r1, r2, r3) := H
      have A44 := Aside0.mk A440
      clear A440
      simp only [Option.some.injEq, Prod.mk.injEq] at H
      obtain ⟨rfl, rfl, rfl⟩ := H
      have hnb45 := NB179_180.out
      have hnc45 := NB180_179.out
      have hnb46 := NB179_181.out
      have hnc46 := NB181_179.out
      have hcz47_0 : wc.cell? ⟨gb179, 0, none⟩ = some (.int .i64 a0_0) := bc BK179 0
      have hcz47_1 : wc.cell? ⟨gb179, 1, none⟩ = some (.int .i64 a0_1) := bc BK179 1
      have hfz47_0 := blk_frozen BK179.out 0
      have hfz47_1 := blk_frozen BK179.out 1
      have hnb48 := NB180_181.out
      have hnc48 := NB181_180.out
      have hcz49_0 : wc.cell? ⟨gb180, 0, none⟩ = some (.int .i64 a1_0) := bc BK180 0
      have hcz49_1 : wc.cell? ⟨gb180, 1, none⟩ = some (.int .i64 a1_1) := bc BK180 1
      have hfz49_0 := blk_frozen BK180.out 0
      have hfz49_1 := blk_frozen BK180.out 1
      go_wp2_with (first | (go_at_call 80; (with_reducible refine (ih kj2 (by have := HJ2.out; omega) a1_0 a1_1 a0_0 a0_1 t185 t186 t187 _ A44.out).mono ?_); rintro e w50 ⟨rfl, hb⟩; have n0_ := Aside0.mk (blk_below (g := gb179) (o := b2 a0_0 a0_1 90) (bz BK179.out) hb); have n1_ := Aside0.mk (blk_below (g := gb180) (o := b2 a1_0 a1_1 90) (bz BK180.out) hb); have n2_ := Aside0.mk (blk_below (g := gb181) (o := b2 0 0 90) (bz BK181.out) hb); have n3_ := Aside0.mk (below_step (hz3 HB.out GE179.out GE180.out GE181.out) hb); clear BK179; clear BK180; clear BK181; clear HB; have BK179 := n0_; have BK180 := n1_; have BK181 := n2_; have HB := n3_; clear n0_ n1_ n2_ n3_; (try clear hb); (try clear hb2); (try clear hk); (try clear hi); have hcz51_0 : w50.cell? ⟨gb181, 0, none⟩ = some (.int .i64 0) := bc BK181 0; have hcz51_1 : w50.cell? ⟨gb181, 1, none⟩ = some (.int .i64 0) := bc BK181 1; have hfz51_0 := blk_frozen BK181.out 0; have hfz51_1 := blk_frozen BK181.out 1))
      try have hcz51_0 : w50.cell? ⟨gb181, 0, none⟩ = some (.int .i64 0) := bc BK181 0
      try have hcz51_1 : w50.cell? ⟨gb181, 1, none⟩ = some (.int .i64 0) := bc BK181 1
      try have hfz51_0 := blk_frozen BK181.out 0
      try have hfz51_1 := blk_frozen BK181.out 1
      repeat (go_quiet (first | (go_at_call 80; (with_reducible refine (ih kj2 (by have := HJ2.out; omega) a1_0 a1_1 a0_0 a0_1 t185 t186 t187 _ A44.out).mono ?_); rintro e w50 ⟨rfl, hb⟩; have n0_ := Aside0.mk (blk_below (g := gb179) (o := b2 a0_0 a0_1 90) (bz BK179.out) hb); have n1_ := Aside0.mk (blk_below (g := gb180) (o := b2 a1_0 a1_1 90) (bz BK180.out) hb); have n2_ := Aside0.mk (blk_below (g := gb181) (o := b2 0 0 90) (bz BK181.out) hb); have n3_ := Aside0.mk (below_step (hz3 HB.out GE179.out GE180.out GE181.out) hb); clear BK179; clear BK180; clear BK181; clear HB; have BK179 := n0_; have BK180 := n1_; have BK181 := n2_; have HB := n3_; clear n0_ n1_ n2_ n3_; (try clear hb); (try clear hb2); (try clear hk); (try clear hi); (try (have hcz51_0 : w50.cell? ⟨gb181, 0, none⟩ = some (.int .i64 0) := bc BK181 0; have hcz51_1 : w50.cell? ⟨gb181, 1, none⟩ = some (.int .i64 0) := bc BK181 1; have hfz51_0 := blk_frozen BK181.out 0; have hfz51_1 := blk_frozen BK181.out 1)))); try go_wp2_with (first | (go_at_call 80; (with_reducible refine (ih kj2 (by have := HJ2.out; omega) a1_0 a1_1 a0_0 a0_1 t185 t186 t187 _ A44.out).mono ?_); rintro e w50 ⟨rfl, hb⟩; have n0_ := Aside0.mk (blk_below (g := gb179) (o := b2 a0_0 a0_1 90) (bz BK179.out) hb); have n1_ := Aside0.mk (blk_below (g := gb180) (o := b2 a1_0 a1_1 90) (bz BK180.out) hb); have n2_ := Aside0.mk (blk_below (g := gb181) (o := b2 0 0 90) (bz BK181.out) hb); have n3_ := Aside0.mk (below_step (hz3 HB.out GE179.out GE180.out GE181.out) hb); clear BK179; clear BK180; clear BK181; clear HB; have BK179 := n0_; have BK180 := n1_; have BK181 := n2_; have HB := n3_; clear n0_ n1_ n2_ n3_; (try clear hb); (try clear hb2); (try clear hk); (try clear hi); (try (have hcz51_0 : w50.cell? ⟨gb181, 0, none⟩ = some (.int .i64 0) := bc BK181 0; have hcz51_1 : w50.cell? ⟨gb181, 1, none⟩ = some (.int .i64 0) := bc BK181 1; have hfz51_0 := blk_frozen BK181.out 0; have hfz51_1 := blk_frozen BK181.out 1)))))
      refine bodyPost_ret (results_ct rfl _ _ gb181 90 #[.int .i64 t185, .int .i64 t186] (0, 0) _ rfl (by (with_reducible repeat (first | refine blk_drewN ?_ _ | refine blk_drew ?_ | refine blk_alloc ?_ _)); refine blk_put (cs := #[.int .i64 t185, .int .i64 0]) ?_ 1 _ rfl; (with_reducible repeat (first | refine blk_drewN ?_ _ | refine blk_drew ?_ | refine blk_alloc ?_ _)); refine blk_put (cs := #[.int .i64 0, .int .i64 0]) ?_ 0 _ rfl; (with_reducible repeat (first | refine blk_drewN ?_ _ | refine blk_drew ?_ | refine blk_alloc ?_ _)); exact BK181.out) Try.underlying90 rfl (by kernel_rfl)) rfl ?_
      exact ⟨by first | rfl | (simp [errW_none, errW_some] <;> rfl) | (simp [*, errW_none, errW_some] <;> rfl), hz3 HB.out GE179.out GE180.out GE181.out⟩
     ·rw [if_neg c43] at H
      have c43b0 : (a1_0 == 0) = false := beq_eq_false_iff_ne.mpr c43
      have c43b1 : (a1_0 != 0) = true := bne_iff_ne.mpr c43
      replace H := Option.bind_eq_some_iff.mp H
      obtain ⟨t188, A520, H⟩ := H
      replace H : ((spec_l1Mod.f (wrap64 (a0_1 - a1_1)) t188).bind fun t189 => (if t189 = 0 then (if t188 = 0 then (none) else (if (wrap64 ((wrap64 (Int.tdiv a0_0 t188)) * a1_0)) > 65536 then (if a1_0 > a0_0 then (some (a1_0, a1_1, true)) else (some (a0_0, a0_1, true))) else (spec_RestMeet.l0 kj2 (wrap64 ((wrap64 (Int.tdiv a0_0 t188)) * a1_0)) a0_1 a0_0 a0_1 a1_0 a1_1))) else (some (0, 0, false)))) = some (r1, r2, r3) := H
      have A52 := Aside0.mk A520
      clear A520
      replace H := Option.bind_eq_some_iff.mp H
      obtain ⟨t189, A530, H⟩ := H
      replace H : (if t189 = 0 then (if t188 = 0 then (none) else (if (wrap64 ((wrap64 (Int.tdiv a0_0 t188)) * a1_0)) > 65536 then (if a1_0 > a0_0 then (some (a1_0, a1_1, true)) else (some (a0_0, a0_1, true))) else (spec_RestMeet.l0 kj2 (wrap64 ((wrap64 (Int.tdiv a0_0 t188)) * a1_0)) a0_1 a0_0 a0_1 a1_0 a1_1))) else (some (0, 0, false))) = some (r1, r2, r3) := H
      have A53 := Aside0.mk A530
      clear A530
      by_cases c54 : t189 = 0
      ·rw [if_pos c54] at H
       have c54b0 : (t189 == 0) = true := beq_iff_eq.mpr c54
       have c54b1 : (t189 != 0) = false := bne_eq_false_iff_eq.mpr c54
       clear c54
       by_cases c55 : t188 = 0
       ·rw [if_pos c55] at H
        exact absurd H (by simp)
       ·rw [if_neg c55] at H
        have c55b0 : (t188 == 0) = false := beq_eq_false_iff_ne.mpr c55
        have c55b1 : (t188 != 0) = true := bne_iff_ne.mpr c55
        by_cases c56 : (wrap64 ((wrap64 (Int.tdiv a0_0 t188)) * a1_0)) > 65536
        ·rw [if_pos c56] at H
         have c56b0 : decide (65536 < (wrap64 ((wrap64 (Int.tdiv a0_0 t188)) * a1_0))) = true := decide_eq_true c56
         clear c56
         by_cases c57 : a1_0 > a0_0
         ·rw [if_pos c57] at H
          have c57b0 : decide (a0_0 < a1_0) = true := decide_eq_true c57
          clear c57
          simp only [Option.some.injEq, Prod.mk.injEq] at H
          obtain ⟨rfl, rfl, rfl⟩ := H
          have hnb58 := NB179_180.out
          have hnc58 := NB180_179.out
          have hnb59 := NB179_181.out
          have hnc59 := NB181_179.out
          have hcz60_0 : wc.cell? ⟨gb179, 0, none⟩ = some (.int .i64 a0_0) := bc BK179 0
          have hcz60_1 : wc.cell? ⟨gb179, 1, none⟩ = some (.int .i64 a0_1) := bc BK179 1
          have hfz60_0 := blk_frozen BK179.out 0
          have hfz60_1 := blk_frozen BK179.out 1
          have hnb61 := NB180_181.out
          have hnc61 := NB181_180.out
          have hcz62_0 : wc.cell? ⟨gb180, 0, none⟩ = some (.int .i64 a1_0) := bc BK180 0
          have hcz62_1 : wc.cell? ⟨gb180, 1, none⟩ = some (.int .i64 a1_1) := bc BK180 1
          have hfz62_0 := blk_frozen BK180.out 0
          have hfz62_1 := blk_frozen BK180.out 1
          go_wp2_with (first | (go_at_call 130; (with_reducible refine (spec_l9Gcd.calls kj2 a0_0 a1_0 t188 _ A52.out).mono ?_); rintro e w' ⟨rfl, ⟨nd, rfl⟩⟩; (try first | exact ⟨rfl, _, World.drewN_drewN _ _ _⟩ | exact ⟨rfl, _, Eq.trans (World.drewN_drewN _ _ _) (congrArg (World.drewN _) (Nat.add_assoc _ _ _))⟩)) | (go_at_call 119; (with_reducible refine (spec_l1Mod.calls (wrap64 (a0_1 - a1_1)) t188 t189 _ A53.out).mono ?_); rintro e w' ⟨rfl, ⟨nd, rfl⟩⟩; (try first | exact ⟨rfl, _, World.drewN_drewN _ _ _⟩ | exact ⟨rfl, _, Eq.trans (World.drewN_drewN _ _ _) (congrArg (World.drewN _) (Nat.add_assoc _ _ _))⟩); have hcz63_0 : wc.cell? ⟨gb181, 0, none⟩ = some (.int .i64 0) := bc BK181 0; have hcz63_1 : wc.cell? ⟨gb181, 1, none⟩ = some (.int .i64 0) := bc BK181 1; have hfz63_0 := blk_frozen BK181.out 0; have hfz63_1 := blk_frozen BK181.out 1))
          try have hcz63_0 : wc.cell? ⟨gb181, 0, none⟩ = some (.int .i64 0) := bc BK181 0
          try have hcz63_1 : wc.cell? ⟨gb181, 1, none⟩ = some (.int .i64 0) := bc BK181 1
          try have hfz63_0 := blk_frozen BK181.out 0
          try have hfz63_1 := blk_frozen BK181.out 1
          repeat (go_quiet (first | (go_at_call 130; (with_reducible refine (spec_l9Gcd.calls kj2 a0_0 a1_0 t188 _ A52.out).mono ?_); rintro e w' ⟨rfl, ⟨nd, rfl⟩⟩; (try first | exact ⟨rfl, _, World.drewN_drewN _ _ _⟩ | exact ⟨rfl, _, Eq.trans (World.drewN_drewN _ _ _) (congrArg (World.drewN _) (Nat.add_assoc _ _ _))⟩)) | (go_at_call 119; (with_reducible refine (spec_l1Mod.calls (wrap64 (a0_1 - a1_1)) t188 t189 _ A53.out).mono ?_); rintro e w' ⟨rfl, ⟨nd, rfl⟩⟩; (try first | exact ⟨rfl, _, World.drewN_drewN _ _ _⟩ | exact ⟨rfl, _, Eq.trans (World.drewN_drewN _ _ _) (congrArg (World.drewN _) (Nat.add_assoc _ _ _))⟩); (try (have hcz63_0 : wc.cell? ⟨gb181, 0, none⟩ = some (.int .i64 0) := bc BK181 0; have hcz63_1 : wc.cell? ⟨gb181, 1, none⟩ = some (.int .i64 0) := bc BK181 1; have hfz63_0 := blk_frozen BK181.out 0; have hfz63_1 := blk_frozen BK181.out 1)))); try go_wp2_with (first | (go_at_call 130; (with_reducible refine (spec_l9Gcd.calls kj2 a0_0 a1_0 t188 _ A52.out).mono ?_); rintro e w' ⟨rfl, ⟨nd, rfl⟩⟩; (try first | exact ⟨rfl, _, World.drewN_drewN _ _ _⟩ | exact ⟨rfl, _, Eq.trans (World.drewN_drewN _ _ _) (congrArg (World.drewN _) (Nat.add_assoc _ _ _))⟩)) | (go_at_call 119; (with_reducible refine (spec_l1Mod.calls (wrap64 (a0_1 - a1_1)) t188 t189 _ A53.out).mono ?_); rintro e w' ⟨rfl, ⟨nd, rfl⟩⟩; (try first | exact ⟨rfl, _, World.drewN_drewN _ _ _⟩ | exact ⟨rfl, _, Eq.trans (World.drewN_drewN _ _ _) (congrArg (World.drewN _) (Nat.add_assoc _ _ _))⟩); (try (have hcz63_0 : wc.cell? ⟨gb181, 0, none⟩ = some (.int .i64 0) := bc BK181 0; have hcz63_1 : wc.cell? ⟨gb181, 1, none⟩ = some (.int .i64 0) := bc BK181 1; have hfz63_0 := blk_frozen BK181.out 0; have hfz63_1 := blk_frozen BK181.out 1)))))
          refine bodyPost_ret (results_ct rfl _ _ gb181 90 #[.int .i64 a1_0, .int .i64 a1_1] (0, 0) _ rfl (by (with_reducible repeat (first | refine blk_drewN ?_ _ | refine blk_drew ?_ | refine blk_alloc ?_ _)); refine blk_put (cs := #[.int .i64 a1_0, .int .i64 0]) ?_ 1 _ rfl; (with_reducible repeat (first | refine blk_drewN ?_ _ | refine blk_drew ?_ | refine blk_alloc ?_ _)); refine blk_put (cs := #[.int .i64 0, .int .i64 0]) ?_ 0 _ rfl; (with_reducible repeat (first | refine blk_drewN ?_ _ | refine blk_drew ?_ | refine blk_alloc ?_ _)); exact BK181.out) Try.underlying90 rfl (by kernel_rfl)) rfl ?_
          exact ⟨by first | rfl | (simp [errW_none, errW_some] <;> rfl) | (simp [*, errW_none, errW_some] <;> rfl), hz3 HB.out GE179.out GE180.out GE181.out⟩
         ·rw [if_neg c57] at H
          have c57b0 : decide (a0_0 < a1_0) = false := decide_eq_false c57
          clear c57
          simp only [Option.some.injEq, Prod.mk.injEq] at H
          obtain ⟨rfl, rfl, rfl⟩ := H
          have hnb64 := NB179_180.out
          have hnc64 := NB180_179.out
          have hnb65 := NB179_181.out
          have hnc65 := NB181_179.out
          have hcz66_0 : wc.cell? ⟨gb179, 0, none⟩ = some (.int .i64 a0_0) := bc BK179 0
          have hcz66_1 : wc.cell? ⟨gb179, 1, none⟩ = some (.int .i64 a0_1) := bc BK179 1
          have hfz66_0 := blk_frozen BK179.out 0
          have hfz66_1 := blk_frozen BK179.out 1
          have hnb67 := NB180_181.out
          have hnc67 := NB181_180.out
          have hcz68_0 : wc.cell? ⟨gb180, 0, none⟩ = some (.int .i64 a1_0) := bc BK180 0
          have hcz68_1 : wc.cell? ⟨gb180, 1, none⟩ = some (.int .i64 a1_1) := bc BK180 1
          have hfz68_0 := blk_frozen BK180.out 0
          have hfz68_1 := blk_frozen BK180.out 1
          go_wp2_with (first | (go_at_call 130; (with_reducible refine (spec_l9Gcd.calls kj2 a0_0 a1_0 t188 _ A52.out).mono ?_); rintro e w' ⟨rfl, ⟨nd, rfl⟩⟩; (try first | exact ⟨rfl, _, World.drewN_drewN _ _ _⟩ | exact ⟨rfl, _, Eq.trans (World.drewN_drewN _ _ _) (congrArg (World.drewN _) (Nat.add_assoc _ _ _))⟩)) | (go_at_call 119; (with_reducible refine (spec_l1Mod.calls (wrap64 (a0_1 - a1_1)) t188 t189 _ A53.out).mono ?_); rintro e w' ⟨rfl, ⟨nd, rfl⟩⟩; (try first | exact ⟨rfl, _, World.drewN_drewN _ _ _⟩ | exact ⟨rfl, _, Eq.trans (World.drewN_drewN _ _ _) (congrArg (World.drewN _) (Nat.add_assoc _ _ _))⟩); have hcz69_0 : wc.cell? ⟨gb181, 0, none⟩ = some (.int .i64 0) := bc BK181 0; have hcz69_1 : wc.cell? ⟨gb181, 1, none⟩ = some (.int .i64 0) := bc BK181 1; have hfz69_0 := blk_frozen BK181.out 0; have hfz69_1 := blk_frozen BK181.out 1))
          try have hcz69_0 : wc.cell? ⟨gb181, 0, none⟩ = some (.int .i64 0) := bc BK181 0
          try have hcz69_1 : wc.cell? ⟨gb181, 1, none⟩ = some (.int .i64 0) := bc BK181 1
          try have hfz69_0 := blk_frozen BK181.out 0
          try have hfz69_1 := blk_frozen BK181.out 1
          repeat (go_quiet (first | (go_at_call 130; (with_reducible refine (spec_l9Gcd.calls kj2 a0_0 a1_0 t188 _ A52.out).mono ?_); rintro e w' ⟨rfl, ⟨nd, rfl⟩⟩; (try first | exact ⟨rfl, _, World.drewN_drewN _ _ _⟩ | exact ⟨rfl, _, Eq.trans (World.drewN_drewN _ _ _) (congrArg (World.drewN _) (Nat.add_assoc _ _ _))⟩)) | (go_at_call 119; (with_reducible refine (spec_l1Mod.calls (wrap64 (a0_1 - a1_1)) t188 t189 _ A53.out).mono ?_); rintro e w' ⟨rfl, ⟨nd, rfl⟩⟩; (try first | exact ⟨rfl, _, World.drewN_drewN _ _ _⟩ | exact ⟨rfl, _, Eq.trans (World.drewN_drewN _ _ _) (congrArg (World.drewN _) (Nat.add_assoc _ _ _))⟩); (try (have hcz69_0 : wc.cell? ⟨gb181, 0, none⟩ = some (.int .i64 0) := bc BK181 0; have hcz69_1 : wc.cell? ⟨gb181, 1, none⟩ = some (.int .i64 0) := bc BK181 1; have hfz69_0 := blk_frozen BK181.out 0; have hfz69_1 := blk_frozen BK181.out 1)))); try go_wp2_with (first | (go_at_call 130; (with_reducible refine (spec_l9Gcd.calls kj2 a0_0 a1_0 t188 _ A52.out).mono ?_); rintro e w' ⟨rfl, ⟨nd, rfl⟩⟩; (try first | exact ⟨rfl, _, World.drewN_drewN _ _ _⟩ | exact ⟨rfl, _, Eq.trans (World.drewN_drewN _ _ _) (congrArg (World.drewN _) (Nat.add_assoc _ _ _))⟩)) | (go_at_call 119; (with_reducible refine (spec_l1Mod.calls (wrap64 (a0_1 - a1_1)) t188 t189 _ A53.out).mono ?_); rintro e w' ⟨rfl, ⟨nd, rfl⟩⟩; (try first | exact ⟨rfl, _, World.drewN_drewN _ _ _⟩ | exact ⟨rfl, _, Eq.trans (World.drewN_drewN _ _ _) (congrArg (World.drewN _) (Nat.add_assoc _ _ _))⟩); (try (have hcz69_0 : wc.cell? ⟨gb181, 0, none⟩ = some (.int .i64 0) := bc BK181 0; have hcz69_1 : wc.cell? ⟨gb181, 1, none⟩ = some (.int .i64 0) := bc BK181 1; have hfz69_0 := blk_frozen BK181.out 0; have hfz69_1 := blk_frozen BK181.out 1)))))
          refine bodyPost_ret (results_ct rfl _ _ gb181 90 #[.int .i64 a0_0, .int .i64 a0_1] (0, 0) _ rfl (by (with_reducible repeat (first | refine blk_drewN ?_ _ | refine blk_drew ?_ | refine blk_alloc ?_ _)); refine blk_put (cs := #[.int .i64 a0_0, .int .i64 0]) ?_ 1 _ rfl; (with_reducible repeat (first | refine blk_drewN ?_ _ | refine blk_drew ?_ | refine blk_alloc ?_ _)); refine blk_put (cs := #[.int .i64 0, .int .i64 0]) ?_ 0 _ rfl; (with_reducible repeat (first | refine blk_drewN ?_ _ | refine blk_drew ?_ | refine blk_alloc ?_ _)); exact BK181.out) Try.underlying90 rfl (by kernel_rfl)) rfl ?_
          exact ⟨by first | rfl | (simp [errW_none, errW_some] <;> rfl) | (simp [*, errW_none, errW_some] <;> rfl), hz3 HB.out GE179.out GE180.out GE181.out⟩
        ·rw [if_neg c56] at H
         have c56b0 : decide (65536 < (wrap64 ((wrap64 (Int.tdiv a0_0 t188)) * a1_0))) = false := decide_eq_false c56
         clear c56
         have H' := Aside0.mk H
         clear H
         have hnb70 := NB179_180.out
         have hnc70 := NB180_179.out
         have hnb71 := NB179_181.out
         have hnc71 := NB181_179.out
         have hcz72_0 : wc.cell? ⟨gb179, 0, none⟩ = some (.int .i64 a0_0) := bc BK179 0
         have hcz72_1 : wc.cell? ⟨gb179, 1, none⟩ = some (.int .i64 a0_1) := bc BK179 1
         have hfz72_0 := blk_frozen BK179.out 0
         have hfz72_1 := blk_frozen BK179.out 1
         have hnb73 := NB180_181.out
         have hnc73 := NB181_180.out
         have hcz74_0 : wc.cell? ⟨gb180, 0, none⟩ = some (.int .i64 a1_0) := bc BK180 0
         have hcz74_1 : wc.cell? ⟨gb180, 1, none⟩ = some (.int .i64 a1_1) := bc BK180 1
         have hfz74_0 := blk_frozen BK180.out 0
         have hfz74_1 := blk_frozen BK180.out 1
         go_wp2_with (first | (go_at_call 130; (with_reducible refine (spec_l9Gcd.calls kj2 a0_0 a1_0 t188 _ A52.out).mono ?_); rintro e w' ⟨rfl, ⟨nd, rfl⟩⟩; (try first | exact ⟨rfl, _, World.drewN_drewN _ _ _⟩ | exact ⟨rfl, _, Eq.trans (World.drewN_drewN _ _ _) (congrArg (World.drewN _) (Nat.add_assoc _ _ _))⟩)) | (go_at_call 119; (with_reducible refine (spec_l1Mod.calls (wrap64 (a0_1 - a1_1)) t188 t189 _ A53.out).mono ?_); rintro e w' ⟨rfl, ⟨nd, rfl⟩⟩; (try first | exact ⟨rfl, _, World.drewN_drewN _ _ _⟩ | exact ⟨rfl, _, Eq.trans (World.drewN_drewN _ _ _) (congrArg (World.drewN _) (Nat.add_assoc _ _ _))⟩)))
         repeat (go_quiet (first | (go_at_call 130; (with_reducible refine (spec_l9Gcd.calls kj2 a0_0 a1_0 t188 _ A52.out).mono ?_); rintro e w' ⟨rfl, ⟨nd, rfl⟩⟩; (try first | exact ⟨rfl, _, World.drewN_drewN _ _ _⟩ | exact ⟨rfl, _, Eq.trans (World.drewN_drewN _ _ _) (congrArg (World.drewN _) (Nat.add_assoc _ _ _))⟩)) | (go_at_call 119; (with_reducible refine (spec_l1Mod.calls (wrap64 (a0_1 - a1_1)) t188 t189 _ A53.out).mono ?_); rintro e w' ⟨rfl, ⟨nd, rfl⟩⟩; (try first | exact ⟨rfl, _, World.drewN_drewN _ _ _⟩ | exact ⟨rfl, _, Eq.trans (World.drewN_drewN _ _ _) (congrArg (World.drewN _) (Nat.add_assoc _ _ _))⟩))); try go_wp2_with (first | (go_at_call 130; (with_reducible refine (spec_l9Gcd.calls kj2 a0_0 a1_0 t188 _ A52.out).mono ?_); rintro e w' ⟨rfl, ⟨nd, rfl⟩⟩; (try first | exact ⟨rfl, _, World.drewN_drewN _ _ _⟩ | exact ⟨rfl, _, Eq.trans (World.drewN_drewN _ _ _) (congrArg (World.drewN _) (Nat.add_assoc _ _ _))⟩)) | (go_at_call 119; (with_reducible refine (spec_l1Mod.calls (wrap64 (a0_1 - a1_1)) t188 t189 _ A53.out).mono ?_); rintro e w' ⟨rfl, ⟨nd, rfl⟩⟩; (try first | exact ⟨rfl, _, World.drewN_drewN _ _ _⟩ | exact ⟨rfl, _, Eq.trans (World.drewN_drewN _ _ _) (congrArg (World.drewN _) (Nat.add_assoc _ _ _))⟩))))
         go_loopg [8] kj2 (fun kq v8 w' => ∃ (x8_2 : Int), v8 = .int .i64 x8_2 ∧ Aside0 (spec_RestMeet.l0 kq (wrap64 ((wrap64 (Int.tdiv a0_0 t188)) * a1_0)) x8_2 a0_0 a0_1 a1_0 a1_1 = some (r1, r2, r3)) ∧ Aside0 (kq ≤ kj2) ∧ Aside0 (w'.heap[gb179]? = some (.cells #[.int .i64 a0_0, .int .i64 a0_1] 90 (0, 0))) ∧ Aside0 (w'.heap[gb180]? = some (.cells #[.int .i64 a1_0, .int .i64 a1_1] 90 (0, 0))) ∧ Aside0 (w'.heap[gb181]? = some (.cells #[.int .i64 0, .int .i64 0] 90 (0, 0))) ∧ Aside0 (Below w.heap.size w w'))
         case atStart => exact ⟨(a0_1), (by first | rfl | (simp; done) | (simp [*]; done)), H', ⟨Nat.le_refl _⟩, ⟨bz BK179.out⟩, ⟨bz BK180.out⟩, ⟨bz BK181.out⟩, ⟨hz3 HB.out GE179.out GE180.out GE181.out⟩⟩
         case round =>
          clear H'
          try clear c1
          try clear c2
          try clear p2
          try clear c3
          try clear c4
          try clear c5
          try clear c6
          try clear p6
          try clear c7
          try clear c8
          try clear c10
          try clear c11
          try clear c14
          try clear c17
          try clear c18
          try clear c21
          try clear c22
          try clear c23
          try clear c25
          try clear c25b0
          try clear c25b1
          try clear c27
          try clear c28
          try clear c29
          try clear c31
          try clear c36
          try clear c37
          try clear c39
          try clear c43
          try clear c43b0
          try clear c43b1
          try clear c45
          try clear c46
          try clear c48
          try clear c54
          try clear c54b0
          try clear c54b1
          try clear c55
          try clear c55b0
          try clear c55b1
          try clear c56
          try clear c56b0
          try clear c57
          try clear c57b0
          try clear c58
          try clear c59
          try clear c61
          try clear c64
          try clear p64
          try clear c65
          try clear c67
          try clear c70
          try clear c71
          try clear c73
          try clear hcz12_0
          try clear hcz12_1
          try clear hcz15_0
          try clear hcz15_1
          try clear hcz19_0
          try clear hcz19_1
          try clear hcz24_0
          try clear hcz24_1
          try clear hcz30_0
          try clear hcz30_1
          try clear hcz32_0
          try clear hcz32_1
          try clear hcz34_0
          try clear hcz34_1
          try clear hcz35_0
          try clear hcz35_1
          try clear hcz38_0
          try clear hcz38_1
          try clear hcz40_0
          try clear hcz40_1
          try clear hcz42_0
          try clear hcz42_1
          try clear hcz47_0
          try clear hcz47_1
          try clear hcz49_0
          try clear hcz49_1
          try clear hcz51_0
          try clear hcz51_1
          try clear hcz60_0
          try clear hcz60_1
          try clear hcz62_0
          try clear hcz62_1
          try clear hcz63_0
          try clear hcz63_1
          try clear hcz66_0
          try clear hcz66_1
          try clear hcz68_0
          try clear hcz68_1
          try clear hcz69_0
          try clear hcz69_1
          try clear hcz72_0
          try clear hcz72_1
          try clear hcz74_0
          try clear hcz74_1
          try clear hfz12_0
          try clear hfz12_1
          try clear hfz15_0
          try clear hfz15_1
          try clear hfz19_0
          try clear hfz19_1
          try clear hfz24_0
          try clear hfz24_1
          try clear hfz30_0
          try clear hfz30_1
          try clear hfz32_0
          try clear hfz32_1
          try clear hfz34_0
          try clear hfz34_1
          try clear hfz35_0
          try clear hfz35_1
          try clear hfz38_0
          try clear hfz38_1
          try clear hfz40_0
          try clear hfz40_1
          try clear hfz42_0
          try clear hfz42_1
          try clear hfz47_0
          try clear hfz47_1
          try clear hfz49_0
          try clear hfz49_1
          try clear hfz51_0
          try clear hfz51_1
          try clear hfz60_0
          try clear hfz60_1
          try clear hfz62_0
          try clear hfz62_1
          try clear hfz63_0
          try clear hfz63_1
          try clear hfz66_0
          try clear hfz66_1
          try clear hfz68_0
          try clear hfz68_1
          try clear hfz69_0
          try clear hfz69_1
          try clear hfz72_0
          try clear hfz72_1
          try clear hfz74_0
          try clear hfz74_1
          try clear p2
          obtain ⟨x8_2, rfl, HA, HK2, BK179, BK180, BK181, HB⟩ := hrel
          cases gk with
          | zero => exact absurd HA.out (by simp [spec_RestMeet.l0])
          | succ k2 =>
           have H := HA.out
           clear HA
           simp only [spec_RestMeet.l0] at H
           replace H := Option.bind_eq_some_iff.mp H
           obtain ⟨t190, A750, H⟩ := H
           replace H : (if t190 = a1_1 then (some ((wrap64 ((wrap64 (Int.tdiv a0_0 t188)) * a1_0)), x8_2, true)) else (spec_RestMeet.l0 k2 (wrap64 ((wrap64 (Int.tdiv a0_0 t188)) * a1_0)) (wrap64 (x8_2 + a0_0)) a0_0 a0_1 a1_0 a1_1)) = some (r1, r2, r3) := H
           have A75 := Aside0.mk A750
           clear A750
           by_cases c76 : t190 = a1_1
           ·rw [if_pos c76] at H
            have c76b0 : (t190 == a1_1) = true := beq_iff_eq.mpr c76
            have c76b1 : (t190 != a1_1) = false := bne_eq_false_iff_eq.mpr c76
            clear c76
            simp only [Option.some.injEq, Prod.mk.injEq] at H
            obtain ⟨rfl, rfl, rfl⟩ := H
            have hnb77 := NB180_179.out
            have hnc77 := NB179_180.out
            have hnb78 := NB180_181.out
            have hnc78 := NB181_180.out
            have hcz79_0 : wr.cell? ⟨gb180, 0, none⟩ = some (.int .i64 a1_0) := bc BK180 0
            have hcz79_1 : wr.cell? ⟨gb180, 1, none⟩ = some (.int .i64 a1_1) := bc BK180 1
            have hfz79_0 := blk_frozen BK180.out 0
            have hfz79_1 := blk_frozen BK180.out 1
            go_wp2_with (first | (go_at_call 119; (with_reducible refine (spec_l1Mod.calls x8_2 a1_0 t190 _ A75.out).mono ?_); rintro e w' ⟨rfl, ⟨nd, rfl⟩⟩; (try first | exact ⟨rfl, _, World.drewN_drewN _ _ _⟩ | exact ⟨rfl, _, Eq.trans (World.drewN_drewN _ _ _) (congrArg (World.drewN _) (Nat.add_assoc _ _ _))⟩); have hnb80 := NB181_179.out; have hnc80 := NB179_181.out; have hcz81_0 : wr.cell? ⟨gb181, 0, none⟩ = some (.int .i64 0) := bc BK181 0; have hcz81_1 : wr.cell? ⟨gb181, 1, none⟩ = some (.int .i64 0) := bc BK181 1; have hfz81_0 := blk_frozen BK181.out 0; have hfz81_1 := blk_frozen BK181.out 1))
            try have hnb80 := NB181_179.out
            try have hnc80 := NB179_181.out
            try have hcz81_0 : wr.cell? ⟨gb181, 0, none⟩ = some (.int .i64 0) := bc BK181 0
            try have hcz81_1 : wr.cell? ⟨gb181, 1, none⟩ = some (.int .i64 0) := bc BK181 1
            try have hfz81_0 := blk_frozen BK181.out 0
            try have hfz81_1 := blk_frozen BK181.out 1
            repeat (go_quiet (first | (go_at_call 119; (with_reducible refine (spec_l1Mod.calls x8_2 a1_0 t190 _ A75.out).mono ?_); rintro e w' ⟨rfl, ⟨nd, rfl⟩⟩; (try first | exact ⟨rfl, _, World.drewN_drewN _ _ _⟩ | exact ⟨rfl, _, Eq.trans (World.drewN_drewN _ _ _) (congrArg (World.drewN _) (Nat.add_assoc _ _ _))⟩); (try (have hnb80 := NB181_179.out; have hnc80 := NB179_181.out; have hcz81_0 : wr.cell? ⟨gb181, 0, none⟩ = some (.int .i64 0) := bc BK181 0; have hcz81_1 : wr.cell? ⟨gb181, 1, none⟩ = some (.int .i64 0) := bc BK181 1; have hfz81_0 := blk_frozen BK181.out 0; have hfz81_1 := blk_frozen BK181.out 1)))); try go_wp2_with (first | (go_at_call 119; (with_reducible refine (spec_l1Mod.calls x8_2 a1_0 t190 _ A75.out).mono ?_); rintro e w' ⟨rfl, ⟨nd, rfl⟩⟩; (try first | exact ⟨rfl, _, World.drewN_drewN _ _ _⟩ | exact ⟨rfl, _, Eq.trans (World.drewN_drewN _ _ _) (congrArg (World.drewN _) (Nat.add_assoc _ _ _))⟩); (try (have hnb80 := NB181_179.out; have hnc80 := NB179_181.out; have hcz81_0 : wr.cell? ⟨gb181, 0, none⟩ = some (.int .i64 0) := bc BK181 0; have hcz81_1 : wr.cell? ⟨gb181, 1, none⟩ = some (.int .i64 0) := bc BK181 1; have hfz81_0 := blk_frozen BK181.out 0; have hfz81_1 := blk_frozen BK181.out 1)))))
            refine bodyPost_ret (results_ct rfl _ _ gb181 90 #[.int .i64 (wrap64 ((wrap64 (Int.tdiv a0_0 t188)) * a1_0)), .int .i64 x8_2] (0, 0) _ rfl (by (with_reducible repeat (first | refine blk_drewN ?_ _ | refine blk_drew ?_ | refine blk_alloc ?_ _)); refine blk_put (cs := #[.int .i64 (wrap64 ((wrap64 (Int.tdiv a0_0 t188)) * a1_0)), .int .i64 0]) ?_ 1 _ rfl; (with_reducible repeat (first | refine blk_drewN ?_ _ | refine blk_drew ?_ | refine blk_alloc ?_ _)); refine blk_put (cs := #[.int .i64 0, .int .i64 0]) ?_ 0 _ rfl; (with_reducible repeat (first | refine blk_drewN ?_ _ | refine blk_drew ?_ | refine blk_alloc ?_ _)); exact BK181.out) Try.underlying90 rfl (by kernel_rfl)) rfl ?_
            exact ⟨by first | rfl | (simp [errW_none, errW_some] <;> rfl) | (simp [*, errW_none, errW_some] <;> rfl), hz3 HB.out GE179.out GE180.out GE181.out⟩
           ·rw [if_neg c76] at H
            have c76b0 : (t190 == a1_1) = false := beq_eq_false_iff_ne.mpr c76
            have c76b1 : (t190 != a1_1) = true := bne_iff_ne.mpr c76
            have H' := Aside0.mk H
            clear H
            have hnb82 := NB180_179.out
            have hnc82 := NB179_180.out
            have hnb83 := NB180_181.out
            have hnc83 := NB181_180.out
            have hcz84_0 : wr.cell? ⟨gb180, 0, none⟩ = some (.int .i64 a1_0) := bc BK180 0
            have hcz84_1 : wr.cell? ⟨gb180, 1, none⟩ = some (.int .i64 a1_1) := bc BK180 1
            have hfz84_0 := blk_frozen BK180.out 0
            have hfz84_1 := blk_frozen BK180.out 1
            go_wp2_with (first | (go_at_call 119; (with_reducible refine (spec_l1Mod.calls x8_2 a1_0 t190 _ A75.out).mono ?_); rintro e w' ⟨rfl, ⟨nd, rfl⟩⟩; (try first | exact ⟨rfl, _, World.drewN_drewN _ _ _⟩ | exact ⟨rfl, _, Eq.trans (World.drewN_drewN _ _ _) (congrArg (World.drewN _) (Nat.add_assoc _ _ _))⟩); have hnb85 := NB179_181.out; have hnc85 := NB181_179.out; have hcz86_0 : wr.cell? ⟨gb179, 0, none⟩ = some (.int .i64 a0_0) := bc BK179 0; have hcz86_1 : wr.cell? ⟨gb179, 1, none⟩ = some (.int .i64 a0_1) := bc BK179 1; have hfz86_0 := blk_frozen BK179.out 0; have hfz86_1 := blk_frozen BK179.out 1))
            try have hnb85 := NB179_181.out
            try have hnc85 := NB181_179.out
            try have hcz86_0 : wr.cell? ⟨gb179, 0, none⟩ = some (.int .i64 a0_0) := bc BK179 0
            try have hcz86_1 : wr.cell? ⟨gb179, 1, none⟩ = some (.int .i64 a0_1) := bc BK179 1
            try have hfz86_0 := blk_frozen BK179.out 0
            try have hfz86_1 := blk_frozen BK179.out 1
            repeat (go_quiet (first | (go_at_call 119; (with_reducible refine (spec_l1Mod.calls x8_2 a1_0 t190 _ A75.out).mono ?_); rintro e w' ⟨rfl, ⟨nd, rfl⟩⟩; (try first | exact ⟨rfl, _, World.drewN_drewN _ _ _⟩ | exact ⟨rfl, _, Eq.trans (World.drewN_drewN _ _ _) (congrArg (World.drewN _) (Nat.add_assoc _ _ _))⟩); (try (have hnb85 := NB179_181.out; have hnc85 := NB181_179.out; have hcz86_0 : wr.cell? ⟨gb179, 0, none⟩ = some (.int .i64 a0_0) := bc BK179 0; have hcz86_1 : wr.cell? ⟨gb179, 1, none⟩ = some (.int .i64 a0_1) := bc BK179 1; have hfz86_0 := blk_frozen BK179.out 0; have hfz86_1 := blk_frozen BK179.out 1)))); try go_wp2_with (first | (go_at_call 119; (with_reducible refine (spec_l1Mod.calls x8_2 a1_0 t190 _ A75.out).mono ?_); rintro e w' ⟨rfl, ⟨nd, rfl⟩⟩; (try first | exact ⟨rfl, _, World.drewN_drewN _ _ _⟩ | exact ⟨rfl, _, Eq.trans (World.drewN_drewN _ _ _) (congrArg (World.drewN _) (Nat.add_assoc _ _ _))⟩); (try (have hnb85 := NB179_181.out; have hnc85 := NB181_179.out; have hcz86_0 : wr.cell? ⟨gb179, 0, none⟩ = some (.int .i64 a0_0) := bc BK179 0; have hcz86_1 : wr.cell? ⟨gb179, 1, none⟩ = some (.int .i64 a0_1) := bc BK179 1; have hfz86_0 := blk_frozen BK179.out 0; have hfz86_1 := blk_frozen BK179.out 1)))))
            go_roundg k2
            case measure => have := HJ2.out; have := HK2.out; omega
            case rel => exact ⟨(wrap64 (x8_2 + a0_0)), (by first | rfl | (simp; done) | (simp [*]; done)), H', ⟨by have := HJ2.out; have := HK2.out; omega⟩, ⟨bz BK179.out⟩, ⟨bz BK180.out⟩, ⟨bz BK181.out⟩, ⟨hz3 HB.out GE179.out GE180.out GE181.out⟩⟩
      ·rw [if_neg c54] at H
       have c54b0 : (t189 == 0) = false := beq_eq_false_iff_ne.mpr c54
       have c54b1 : (t189 != 0) = true := bne_iff_ne.mpr c54
       simp only [Option.some.injEq, Prod.mk.injEq] at H
       obtain ⟨rfl, rfl, rfl⟩ := H
       have hnb87 := NB179_180.out
       have hnc87 := NB180_179.out
       have hnb88 := NB179_181.out
       have hnc88 := NB181_179.out
       have hcz89_0 : wc.cell? ⟨gb179, 0, none⟩ = some (.int .i64 a0_0) := bc BK179 0
       have hcz89_1 : wc.cell? ⟨gb179, 1, none⟩ = some (.int .i64 a0_1) := bc BK179 1
       have hfz89_0 := blk_frozen BK179.out 0
       have hfz89_1 := blk_frozen BK179.out 1
       have hnb90 := NB180_181.out
       have hnc90 := NB181_180.out
       have hcz91_0 : wc.cell? ⟨gb180, 0, none⟩ = some (.int .i64 a1_0) := bc BK180 0
       have hcz91_1 : wc.cell? ⟨gb180, 1, none⟩ = some (.int .i64 a1_1) := bc BK180 1
       have hfz91_0 := blk_frozen BK180.out 0
       have hfz91_1 := blk_frozen BK180.out 1
       go_wp2_with (first | (go_at_call 130; (with_reducible refine (spec_l9Gcd.calls kj2 a0_0 a1_0 t188 _ A52.out).mono ?_); rintro e w' ⟨rfl, ⟨nd, rfl⟩⟩; (try first | exact ⟨rfl, _, World.drewN_drewN _ _ _⟩ | exact ⟨rfl, _, Eq.trans (World.drewN_drewN _ _ _) (congrArg (World.drewN _) (Nat.add_assoc _ _ _))⟩)) | (go_at_call 119; (with_reducible refine (spec_l1Mod.calls (wrap64 (a0_1 - a1_1)) t188 t189 _ A53.out).mono ?_); rintro e w' ⟨rfl, ⟨nd, rfl⟩⟩; (try first | exact ⟨rfl, _, World.drewN_drewN _ _ _⟩ | exact ⟨rfl, _, Eq.trans (World.drewN_drewN _ _ _) (congrArg (World.drewN _) (Nat.add_assoc _ _ _))⟩); have hcz92_0 : wc.cell? ⟨gb181, 0, none⟩ = some (.int .i64 0) := bc BK181 0; have hcz92_1 : wc.cell? ⟨gb181, 1, none⟩ = some (.int .i64 0) := bc BK181 1; have hfz92_0 := blk_frozen BK181.out 0; have hfz92_1 := blk_frozen BK181.out 1))
       try have hcz92_0 : wc.cell? ⟨gb181, 0, none⟩ = some (.int .i64 0) := bc BK181 0
       try have hcz92_1 : wc.cell? ⟨gb181, 1, none⟩ = some (.int .i64 0) := bc BK181 1
       try have hfz92_0 := blk_frozen BK181.out 0
       try have hfz92_1 := blk_frozen BK181.out 1
       repeat (go_quiet (first | (go_at_call 130; (with_reducible refine (spec_l9Gcd.calls kj2 a0_0 a1_0 t188 _ A52.out).mono ?_); rintro e w' ⟨rfl, ⟨nd, rfl⟩⟩; (try first | exact ⟨rfl, _, World.drewN_drewN _ _ _⟩ | exact ⟨rfl, _, Eq.trans (World.drewN_drewN _ _ _) (congrArg (World.drewN _) (Nat.add_assoc _ _ _))⟩)) | (go_at_call 119; (with_reducible refine (spec_l1Mod.calls (wrap64 (a0_1 - a1_1)) t188 t189 _ A53.out).mono ?_); rintro e w' ⟨rfl, ⟨nd, rfl⟩⟩; (try first | exact ⟨rfl, _, World.drewN_drewN _ _ _⟩ | exact ⟨rfl, _, Eq.trans (World.drewN_drewN _ _ _) (congrArg (World.drewN _) (Nat.add_assoc _ _ _))⟩); (try (have hcz92_0 : wc.cell? ⟨gb181, 0, none⟩ = some (.int .i64 0) := bc BK181 0; have hcz92_1 : wc.cell? ⟨gb181, 1, none⟩ = some (.int .i64 0) := bc BK181 1; have hfz92_0 := blk_frozen BK181.out 0; have hfz92_1 := blk_frozen BK181.out 1)))); try go_wp2_with (first | (go_at_call 130; (with_reducible refine (spec_l9Gcd.calls kj2 a0_0 a1_0 t188 _ A52.out).mono ?_); rintro e w' ⟨rfl, ⟨nd, rfl⟩⟩; (try first | exact ⟨rfl, _, World.drewN_drewN _ _ _⟩ | exact ⟨rfl, _, Eq.trans (World.drewN_drewN _ _ _) (congrArg (World.drewN _) (Nat.add_assoc _ _ _))⟩)) | (go_at_call 119; (with_reducible refine (spec_l1Mod.calls (wrap64 (a0_1 - a1_1)) t188 t189 _ A53.out).mono ?_); rintro e w' ⟨rfl, ⟨nd, rfl⟩⟩; (try first | exact ⟨rfl, _, World.drewN_drewN _ _ _⟩ | exact ⟨rfl, _, Eq.trans (World.drewN_drewN _ _ _) (congrArg (World.drewN _) (Nat.add_assoc _ _ _))⟩); (try (have hcz92_0 : wc.cell? ⟨gb181, 0, none⟩ = some (.int .i64 0) := bc BK181 0; have hcz92_1 : wc.cell? ⟨gb181, 1, none⟩ = some (.int .i64 0) := bc BK181 1; have hfz92_0 := blk_frozen BK181.out 0; have hfz92_1 := blk_frozen BK181.out 1)))))
       refine bodyPost_ret (results_ct rfl _ _ gb181 90 #[.int .i64 0, .int .i64 0] (0, 0) _ rfl (by (with_reducible repeat (first | refine blk_drewN ?_ _ | refine blk_drew ?_ | refine blk_alloc ?_ _)); refine blk_put (cs := #[.int .i64 0, .int .i64 0]) ?_ 1 _ rfl; (with_reducible repeat (first | refine blk_drewN ?_ _ | refine blk_drew ?_ | refine blk_alloc ?_ _)); refine blk_put (cs := #[.int .i64 0, .int .i64 0]) ?_ 0 _ rfl; (with_reducible repeat (first | refine blk_drewN ?_ _ | refine blk_drew ?_ | refine blk_alloc ?_ _)); exact BK181.out) Try.underlying90 rfl (by kernel_rfl)) rfl ?_
       exact ⟨by first | rfl | (simp [errW_none, errW_some] <;> rfl) | (simp [*, errW_none, errW_some] <;> rfl), hz3 HB.out GE179.out GE180.out GE181.out⟩

/-! ### spec_l8Min: function 126 -/
def spec_l8Min.f (a0 : Int) (a1 : Int) : Option (Int) := if a0 < a1 then (some a0) else (some a1)
set_option maxHeartbeats 8000000 in
set_option maxRecDepth 100000 in
theorem spec_l8Min.calls (a0 : Int) (a1 : Int) (r : Int) (w : World) (h : spec_l8Min.f a0 a1 = some r) :
  Calls Try.prog 126 #[.int .i64 a0, .int .i64 a1] w fun e w' => e = .returned (.int .i64 r) ∧ Drawn0 w w' := by
 have H : (if a0 < a1 then (some a0) else (some a1)) = some r := h
 clear h
 by_cases c3 : a0 < a1
 ·rw [if_pos c3] at H
  have c3b0 : decide (a0 < a1) = true := decide_eq_true c3
  clear c3
  obtain rfl := Option.some.inj H
  go_enter Try.func126, Try.ntmps126
  go_wp2
  go_ret
  exact ⟨by first | rfl | (simp; done) | (simp [*]; done), by repeat (first | exact Drawn0.refl _ | apply Drawn0.step)⟩
 ·rw [if_neg c3] at H
  have c3b0 : decide (a0 < a1) = false := decide_eq_false c3
  clear c3
  obtain rfl := Option.some.inj H
  go_enter Try.func126, Try.ntmps126
  go_wp2
  go_ret
  exact ⟨by first | rfl | (simp; done) | (simp [*]; done), by repeat (first | exact Drawn0.refl _ | apply Drawn0.step)⟩

/-! ### spec_l8Max: function 127 -/
def spec_l8Max.f (a0 : Int) (a1 : Int) : Option (Int) := if a0 > a1 then (some a0) else (some a1)
set_option maxHeartbeats 8000000 in
set_option maxRecDepth 100000 in
theorem spec_l8Max.calls (a0 : Int) (a1 : Int) (r : Int) (w : World) (h : spec_l8Max.f a0 a1 = some r) :
  Calls Try.prog 127 #[.int .i64 a0, .int .i64 a1] w fun e w' => e = .returned (.int .i64 r) ∧ Drawn0 w w' := by
 have H : (if a0 > a1 then (some a0) else (some a1)) = some r := h
 clear h
 by_cases c3 : a0 > a1
 ·rw [if_pos c3] at H
  have c3b0 : decide (a1 < a0) = true := decide_eq_true c3
  clear c3
  obtain rfl := Option.some.inj H
  go_enter Try.func127, Try.ntmps127
  go_wp2
  go_ret
  exact ⟨by first | rfl | (simp; done) | (simp [*]; done), by repeat (first | exact Drawn0.refl _ | apply Drawn0.step)⟩
 ·rw [if_neg c3] at H
  have c3b0 : decide (a1 < a0) = false := decide_eq_false c3
  clear c3
  obtain rfl := Option.some.inj H
  go_enter Try.func127, Try.ntmps127
  go_wp2
  go_ret
  exact ⟨by first | rfl | (simp; done) | (simp [*]; done), by repeat (first | exact Drawn0.refl _ | apply Drawn0.step)⟩

/-! ### spec_l8Cut: function 136 -/
def spec_l8Cut.f (a0 : Int) (a1 : Int) : Option (Int × Int) := (spec_l8Max.f a0 (-2147483648)).bind fun t192 => ((spec_l8Min.f a1 2147483647).bind fun t193 => (if t192 > t193 then ((spec_l8None.f).bind fun bt194 => (some (bt194.1, bt194.2))) else (some (t192, t193))))
set_option maxHeartbeats 8000000 in
set_option maxRecDepth 100000 in
theorem spec_l8Cut.calls (a0 : Int) (a1 : Int) (r1 : Int) (r2 : Int) (w : World) (h : spec_l8Cut.f a0 a1 = some (r1, r2)) :
  Calls Try.prog 136 #[.int .i64 a0, .int .i64 a1] w fun e w' => e = .returned (.agg #[.int .i64 r1, .int .i64 r2]) ∧ Below w.heap.size w w' := by
 have hu86 := Try.underlying86
 have HB := Aside0.mk (Below.refl w.heap.size w)
 have H : ((spec_l8Max.f a0 (-2147483648)).bind fun t192 => ((spec_l8Min.f a1 2147483647).bind fun t193 => (if t192 > t193 then ((spec_l8None.f).bind fun bt194 => (some (bt194.1, bt194.2))) else (some (t192, t193))))) = some (r1, r2) := h
 clear h
 replace H := Option.bind_eq_some_iff.mp H
 obtain ⟨t192, A30, H⟩ := H
 replace H : ((spec_l8Min.f a1 2147483647).bind fun t193 => (if t192 > t193 then ((spec_l8None.f).bind fun bt194 => (some (bt194.1, bt194.2))) else (some (t192, t193)))) = some (r1, r2) := H
 have A3 := Aside0.mk A30
 clear A30
 replace H := Option.bind_eq_some_iff.mp H
 obtain ⟨t193, A40, H⟩ := H
 replace H : (if t192 > t193 then ((spec_l8None.f).bind fun bt194 => (some (bt194.1, bt194.2))) else (some (t192, t193))) = some (r1, r2) := H
 have A4 := Aside0.mk A40
 clear A40
 by_cases c5 : t192 > t193
 ·rw [if_pos c5] at H
  have c5b0 : decide (t193 < t192) = true := decide_eq_true c5
  clear c5
  replace H := Option.bind_eq_some_iff.mp H
  obtain ⟨⟨t194, t195⟩, A60, H⟩ := H
  replace H : (some (t194, t195)) = some (r1, r2) := H
  have A6 := Aside0.mk A60
  clear A60
  simp only [Option.some.injEq, Prod.mk.injEq] at H
  obtain ⟨rfl, rfl⟩ := H
  go_enter Try.func136, Try.ntmps136
  go_wp2_with (first | ((with_reducible refine gate_dst (N := 4) rfl ?_); refine box_event ?hg (N := 4) ?hd (cs := #[.int .i64 0, .int .i64 0]) (t := 86) ?hr ?_; (case hd => rfl); (case hg => rfl); (case hr => first | (go_simp; done) | (go_simp; rfl)); intro gb191 hg w7 hbox hb; have n0_ := Aside0.mk (below_step (hz HB.out) hb); have n1_ := Aside0.mk (hbox); have n2_ := Aside0.mk ((by rw [hg]; exact (below_size (hz HB.out)) : w.heap.size ≤ gb191)); have n3_ := Aside0.mk ((by rw [hg]; exact (below_size (hz HB.out)) : w.heap.size ≤ gb191)); clear HB; have HB := n0_; have BK191 := n1_; have GW191 := n2_; have GE191 := n3_; clear n0_ n1_ n2_ n3_; clear hb hbox hg) | ((with_reducible refine gate_callee (f := 127) rfl ?_); refine goesL_ (some 8) rfl rfl Try.func127 (by kernel_rfl) rfl #[.int .i64 a0, .int .i64 (-2147483648)] rfl mz ?_; (with_reducible refine (spec_l8Max.calls a0 (-2147483648) t192 _ A3.out).mono ?_); rintro e w' ⟨rfl, ⟨nd, rfl⟩⟩; refine ⟨_, rfl, ?_⟩; (try (rw [drewN_self w7]; generalize hq_ : World.drewN w7 _ = w7; have n0_ : Aside0 (w7.heap[gb191]? = some (.cells #[.int .i64 0, .int .i64 0] 86 (0, 0))) := ⟨by rw [← hq_]; exact (bz BK191.out)⟩; have n1_ : Aside0 (Below w.heap.size w w7) := ⟨by rw [← hq_]; exact (hz1 HB.out GE191.out)⟩; clear BK191 HB hq_; have BK191 := n0_; have HB := n1_; clear n0_ n1_))) | ((with_reducible refine gate_callee (f := 126) rfl ?_); refine goesL_ (some 10) rfl rfl Try.func126 (by kernel_rfl) rfl #[.int .i64 a1, .int .i64 2147483647] rfl mz ?_; (with_reducible refine (spec_l8Min.calls a1 2147483647 t193 _ A4.out).mono ?_); rintro e w' ⟨rfl, ⟨nd, rfl⟩⟩; refine ⟨_, rfl, ?_⟩; (try (rw [drewN_self w7]; generalize hq_ : World.drewN w7 _ = w7; have n0_ : Aside0 (w7.heap[gb191]? = some (.cells #[.int .i64 0, .int .i64 0] 86 (0, 0))) := ⟨by rw [← hq_]; exact (bz BK191.out)⟩; have n1_ : Aside0 (Below w.heap.size w w7) := ⟨by rw [← hq_]; exact (hz1 HB.out GE191.out)⟩; clear BK191 HB hq_; have BK191 := n0_; have HB := n1_; clear n0_ n1_))) | ((with_reducible refine gate_callee (f := 123) rfl ?_); refine goesL_ (some 14) rfl rfl Try.func123 (by kernel_rfl) rfl #[] rfl mz ?_; (with_reducible refine (spec_l8None.calls  t194 t195 _ A6.out).mono ?_); rintro e w8 ⟨rfl, hb⟩; refine ⟨_, rfl, ?_⟩; have n0_ := Aside0.mk (blk_below (g := gb191) (o := b2 0 0 86) (bz BK191.out) hb); have n1_ := Aside0.mk (below_step (hz1 HB.out GE191.out) hb); clear BK191; clear HB; have BK191 := n0_; have HB := n1_; clear n0_ n1_; (try clear hb); (try clear hb2); (try clear hk); (try clear hi); have hcz9_0 : w8.cell? ⟨gb191, 0, none⟩ = some (.int .i64 0) := bc BK191 0; have hcz9_1 : w8.cell? ⟨gb191, 1, none⟩ = some (.int .i64 0) := bc BK191 1; have hfz9_0 := blk_frozen BK191.out 0; have hfz9_1 := blk_frozen BK191.out 1))
  refine bodyPost_ret (results_cell_row rfl _ _ gb191 86 #[.int .i64 t194, .int .i64 t195] (0, 0) _ rfl (by (with_reducible repeat (first | refine blk_drewN ?_ _ | refine blk_drew ?_ | refine blk_alloc ?_ _)); refine blk_put (cs := #[.int .i64 t194, .int .i64 0]) ?_ 1 _ rfl; (with_reducible repeat (first | refine blk_drewN ?_ _ | refine blk_drew ?_ | refine blk_alloc ?_ _)); refine blk_put (cs := #[.int .i64 0, .int .i64 0]) ?_ 0 _ rfl; (with_reducible repeat (first | refine blk_drewN ?_ _ | refine blk_drew ?_ | refine blk_alloc ?_ _)); exact BK191.out) Try.underlying86 rfl (by kernel_rfl)) rfl ?_
  exact ⟨by first | rfl | (simp [errW_none, errW_some] <;> rfl) | (simp [*, errW_none, errW_some] <;> rfl), hz1 HB.out GE191.out⟩
 ·rw [if_neg c5] at H
  have c5b0 : decide (t193 < t192) = false := decide_eq_false c5
  clear c5
  simp only [Option.some.injEq, Prod.mk.injEq] at H
  obtain ⟨rfl, rfl⟩ := H
  go_enter Try.func136, Try.ntmps136
  go_wp2_with (first | ((with_reducible refine gate_dst (N := 4) rfl ?_); refine box_event ?hg (N := 4) ?hd (cs := #[.int .i64 0, .int .i64 0]) (t := 86) ?hr ?_; (case hd => rfl); (case hg => rfl); (case hr => first | (go_simp; done) | (go_simp; rfl)); intro gb191 hg w10 hbox hb; have n0_ := Aside0.mk (below_step (hz HB.out) hb); have n1_ := Aside0.mk (hbox); have n2_ := Aside0.mk ((by rw [hg]; exact (below_size (hz HB.out)) : w.heap.size ≤ gb191)); have n3_ := Aside0.mk ((by rw [hg]; exact (below_size (hz HB.out)) : w.heap.size ≤ gb191)); clear HB; have HB := n0_; have BK191 := n1_; have GW191 := n2_; have GE191 := n3_; clear n0_ n1_ n2_ n3_; clear hb hbox hg) | ((with_reducible refine gate_callee (f := 127) rfl ?_); refine goesL_ (some 8) rfl rfl Try.func127 (by kernel_rfl) rfl #[.int .i64 a0, .int .i64 (-2147483648)] rfl mz ?_; (with_reducible refine (spec_l8Max.calls a0 (-2147483648) t192 _ A3.out).mono ?_); rintro e w' ⟨rfl, ⟨nd, rfl⟩⟩; refine ⟨_, rfl, ?_⟩; (try (rw [drewN_self w10]; generalize hq_ : World.drewN w10 _ = w10; have n0_ : Aside0 (w10.heap[gb191]? = some (.cells #[.int .i64 0, .int .i64 0] 86 (0, 0))) := ⟨by rw [← hq_]; exact (bz BK191.out)⟩; have n1_ : Aside0 (Below w.heap.size w w10) := ⟨by rw [← hq_]; exact (hz1 HB.out GE191.out)⟩; clear BK191 HB hq_; have BK191 := n0_; have HB := n1_; clear n0_ n1_))) | ((with_reducible refine gate_callee (f := 126) rfl ?_); refine goesL_ (some 10) rfl rfl Try.func126 (by kernel_rfl) rfl #[.int .i64 a1, .int .i64 2147483647] rfl mz ?_; (with_reducible refine (spec_l8Min.calls a1 2147483647 t193 _ A4.out).mono ?_); rintro e w' ⟨rfl, ⟨nd, rfl⟩⟩; refine ⟨_, rfl, ?_⟩; (try (rw [drewN_self w10]; generalize hq_ : World.drewN w10 _ = w10; have n0_ : Aside0 (w10.heap[gb191]? = some (.cells #[.int .i64 0, .int .i64 0] 86 (0, 0))) := ⟨by rw [← hq_]; exact (bz BK191.out)⟩; have n1_ : Aside0 (Below w.heap.size w w10) := ⟨by rw [← hq_]; exact (hz1 HB.out GE191.out)⟩; clear BK191 HB hq_; have BK191 := n0_; have HB := n1_; clear n0_ n1_)); have hcz11_0 : w10.cell? ⟨gb191, 0, none⟩ = some (.int .i64 0) := bc BK191 0; have hcz11_1 : w10.cell? ⟨gb191, 1, none⟩ = some (.int .i64 0) := bc BK191 1; have hfz11_0 := blk_frozen BK191.out 0; have hfz11_1 := blk_frozen BK191.out 1))
  refine bodyPost_ret (results_cell_row rfl _ _ gb191 86 #[.int .i64 t192, .int .i64 t193] (0, 0) _ rfl (by (with_reducible repeat (first | refine blk_drewN ?_ _ | refine blk_drew ?_ | refine blk_alloc ?_ _)); refine blk_put (cs := #[.int .i64 t192, .int .i64 0]) ?_ 1 _ rfl; (with_reducible repeat (first | refine blk_drewN ?_ _ | refine blk_drew ?_ | refine blk_alloc ?_ _)); refine blk_put (cs := #[.int .i64 0, .int .i64 0]) ?_ 0 _ rfl; (with_reducible repeat (first | refine blk_drewN ?_ _ | refine blk_drew ?_ | refine blk_alloc ?_ _)); exact BK191.out) Try.underlying86 rfl (by kernel_rfl)) rfl ?_
  exact ⟨by first | rfl | (simp [errW_none, errW_some] <;> rfl) | (simp [*, errW_none, errW_some] <;> rfl), hz1 HB.out GE191.out⟩

end Go.Proofs.Ytnmccgjdnceheaa.PFnExactValMeet
