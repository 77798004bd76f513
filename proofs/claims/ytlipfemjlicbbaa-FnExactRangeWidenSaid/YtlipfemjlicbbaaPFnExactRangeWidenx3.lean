/- Written by this session's own driver (wip/dprint.py): the functions that the law FnExactRangeWiden reaches, as Lean functions, each with its contract. -/
import Derived.Test.YtlipfemjlicbbaaPFnExactRangeWidenx0
import Derived.Test.YtlipfemjlicbbaaPFnExactRangeWidenx1
import Derived.Test.YtlipfemjlicbbaaPFnExactRangeWidenx2
import Derived.Test.YtlipfemjlicbbaaSq
namespace Go.Proofs.Ytlipfemjlicbbaa.PFnExactRangeWiden
open Go.RowKit Go.Proofs.YtlipfemjlicbbaaW.PrintWords Go.Proofs.YtlipfemjlicbbaaW.PrintLast Go.Proofs.YtlipfemjlicbbaaW.PrintMore Go.Proofs.YtlipfemjlicbbaaSq
attribute [local go_sem] max2_int min2_int max_two min_two max_three min_three max_four min_four   -- for this text's walks alone
set_option linter.unusedVariables false
set_option linter.unusedSimpArgs false

attribute [local go_sem high] eqA24
/-! ### spec_l8Min: function 49 -/
def spec_l8Min.f (a0 : Int) (a1 : Int) : Option (Int) := if a0 < a1 then (some a0) else (some a1)
set_option maxHeartbeats 8000000 in
set_option maxRecDepth 100000 in
theorem spec_l8Min.calls (a0 : Int) (a1 : Int) (r : Int) (w : World) (h : spec_l8Min.f a0 a1 = some r) :
  Calls Try.prog 49 #[.int .i64 a0, .int .i64 a1] w fun e w' => e = .returned (.int .i64 r) ∧ Drawn0 w w' := by
 have H : (if a0 < a1 then (some a0) else (some a1)) = some r := h
 clear h
 by_cases c3 : a0 < a1
 ·rw [if_pos c3] at H
  have c3b0 : decide (a0 < a1) = true := decide_eq_true c3
  clear c3
  obtain rfl := Option.some.inj H
  go_enter Try.func49, Try.ntmps49
  go_wp2
  go_ret
  exact ⟨by first | rfl | (simp; done) | (simp [*]; done), by repeat (first | exact Drawn0.refl _ | apply Drawn0.step)⟩
 ·rw [if_neg c3] at H
  have c3b0 : decide (a0 < a1) = false := decide_eq_false c3
  clear c3
  obtain rfl := Option.some.inj H
  go_enter Try.func49, Try.ntmps49
  go_wp2
  go_ret
  exact ⟨by first | rfl | (simp; done) | (simp [*]; done), by repeat (first | exact Drawn0.refl _ | apply Drawn0.step)⟩

/-! ### spec_l8Max: function 50 -/
def spec_l8Max.f (a0 : Int) (a1 : Int) : Option (Int) := if a0 > a1 then (some a0) else (some a1)
set_option maxHeartbeats 8000000 in
set_option maxRecDepth 100000 in
theorem spec_l8Max.calls (a0 : Int) (a1 : Int) (r : Int) (w : World) (h : spec_l8Max.f a0 a1 = some r) :
  Calls Try.prog 50 #[.int .i64 a0, .int .i64 a1] w fun e w' => e = .returned (.int .i64 r) ∧ Drawn0 w w' := by
 have H : (if a0 > a1 then (some a0) else (some a1)) = some r := h
 clear h
 by_cases c3 : a0 > a1
 ·rw [if_pos c3] at H
  have c3b0 : decide (a1 < a0) = true := decide_eq_true c3
  clear c3
  obtain rfl := Option.some.inj H
  go_enter Try.func50, Try.ntmps50
  go_wp2
  go_ret
  exact ⟨by first | rfl | (simp; done) | (simp [*]; done), by repeat (first | exact Drawn0.refl _ | apply Drawn0.step)⟩
 ·rw [if_neg c3] at H
  have c3b0 : decide (a1 < a0) = false := decide_eq_false c3
  clear c3
  obtain rfl := Option.some.inj H
  go_enter Try.func50, Try.ntmps50
  go_wp2
  go_ret
  exact ⟨by first | rfl | (simp; done) | (simp [*]; done), by repeat (first | exact Drawn0.refl _ | apply Drawn0.step)⟩

/-! ### spec_RangeJoin: function 15 -/
def spec_RangeJoin.j0 : Nat → Bool → Int → Int → Int → Int → Option (Int × Int)
 | 0, _, _, _, _, _ => none
 | k + 1, x12, x114000, x114001, x115000, x115001 => if x12 = true then ((spec_l8None.f).bind fun bt118 => (some (bt118.1, bt118.2))) else ((spec_l8None.f).bind fun bt120 => (if (x114000 == bt120.1 && (x114001 == bt120.2)) = true then (some (x115000, x115001)) else ((spec_l8None.f).bind fun bt122 => (if (x115000 == bt122.1 && (x115001 == bt122.2)) = true then (some (x114000, x114001)) else ((spec_l8Min.f x114000 x115000).bind fun t124 => ((spec_l8Max.f x114001 x115001).bind fun t125 => (some (t124, t125))))))))
def spec_RangeJoin.f (k : Nat) (a0_0 : Int) (a0_1 : Int) (a1_0 : Int) (a1_1 : Int) : Option (Int × Int) := (spec_RangeOk.f a0_0 a0_1).bind fun t116 => (if t116 = true then ((spec_RangeOk.f a1_0 a1_1).bind fun t117 => (spec_RangeJoin.j0 k (!t117) a0_0 a0_1 a1_0 a1_1)) else (spec_RangeJoin.j0 k true a0_0 a0_1 a1_0 a1_1))
theorem spec_RangeJoin.mono_l : ∀ k, (∀ y0 y1 y2 y3 y4, LeO (spec_RangeJoin.j0 k y0 y1 y2 y3 y4) (spec_RangeJoin.j0 (k + 1) y0 y1 y2 y3 y4))
 | 0 => fun _ _ _ _ _ r h => by simp [spec_RangeJoin.j0] at h
 | k + 1 => by
  have ih0 := spec_RangeJoin.mono_l k
  ·intro y0 y1 y2 y3 y4
   unfold spec_RangeJoin.j0
   repeat' first
   | (with_reducible exact ih0 _ _ _ _ _)
   | (with_reducible exact LeO.refl _)
   | (with_reducible exact LeO.none _)
   | (with_reducible refine LeO.ite ?_ ?_)
   | (with_reducible refine LeO.bind ?_ (fun _ => ?_))
   | exact ih0 _ _ _ _ _
   | exact LeO.none _
   | refine LeO.ite ?_ ?_
   | refine LeO.bind ?_ (fun _ => ?_)
theorem spec_RangeJoin.mono : ∀ a0 a1 a2 a3 k, LeO (spec_RangeJoin.f k a0 a1 a2 a3) (spec_RangeJoin.f (k + 1) a0 a1 a2 a3) := by
 intro a0 a1 a2 a3 k
 have ih0 := spec_RangeJoin.mono_l k
 unfold spec_RangeJoin.f
 repeat' first
   | (with_reducible exact ih0 _ _ _ _ _)
   | (with_reducible exact LeO.refl _)
   | (with_reducible exact LeO.none _)
   | (with_reducible refine LeO.ite ?_ ?_)
   | (with_reducible refine LeO.bind ?_ (fun _ => ?_))
   | exact ih0 _ _ _ _ _
   | exact LeO.none _
   | refine LeO.ite ?_ ?_
   | refine LeO.bind ?_ (fun _ => ?_)
def spec_RangeJoin.T7 : Bool × List (List Nat × List Nat) := (true, [([], []), ([0], [0]), ([], []), ([2], [2]), ([1, 3], [1, 3]), ([], []), ([5], [5]), ([], []), ([7], [7]), ([6, 8, 4], [6, 8]), ([4, 9], [4, 9]), ([10, 9, 0, 1, 2, 3, 4, 5, 6, 7, 8, 9, 10], [10])])
def spec_RangeJoin.B7 : List Nat := [0, 1, 0, 4, 15, 0, 32, 0, 128, 511, 1023, 2047]
theorem spec_RangeJoin.tab7 : rtab .any (opsOf Try.f15 7) = spec_RangeJoin.T7 := by kernel_rfl
theorem spec_RangeJoin.bits7 : waitsOk spec_RangeJoin.T7.2 spec_RangeJoin.B7 = true := by kernel_rfl
set_option maxHeartbeats 8000000 in
set_option maxRecDepth 100000 in
theorem spec_RangeJoin.calls (k : Nat) (a0_0 : Int) (a0_1 : Int) (a1_0 : Int) (a1_1 : Int) (r1 : Int) (r2 : Int) (w : World) (h : spec_RangeJoin.f k a0_0 a0_1 a1_0 a1_1 = some (r1, r2)) :
  Calls Try.prog 15 #[.agg #[.int .i64 a0_0, .int .i64 a0_1], .agg #[.int .i64 a1_0, .int .i64 a1_1]] w fun e w' => e = .returned (.agg #[.int .i64 r1, .int .i64 r2]) ∧ Below w.heap.size w w' := by
 have hu24 := Try.underlying24
 have HB := Aside0.mk (Below.refl w.heap.size w)
 have H : ((spec_RangeOk.f a0_0 a0_1).bind fun t116 => (if t116 = true then ((spec_RangeOk.f a1_0 a1_1).bind fun t117 => (spec_RangeJoin.j0 k (!t117) a0_0 a0_1 a1_0 a1_1)) else (spec_RangeJoin.j0 k true a0_0 a0_1 a1_0 a1_1))) = some (r1, r2) := h
 clear h
 have HC3 := Aside0.mk H
 clear H
 go_enter Try.func15, Try.ntmps15
 go_upto_region 1 with (first | ((with_reducible refine gate_dst (N := 2) rfl ?_); refine box_event ?hg (N := 2) ?hd (cs := #[.int .i64 a0_0, .int .i64 a0_1]) (t := 24) ?hr ?_; (case hd => rfl); (case hg => rfl); (case hr => first | (go_simp; done) | (go_simp; rfl)); intro gb113 hg w4 hbox hb; have n0_ := Aside0.mk (below_step (hz HB.out) hb); have n1_ := Aside0.mk (hbox); have n2_ := Aside0.mk ((by rw [hg]; exact (below_size (hz HB.out)) : w.heap.size ≤ gb113)); have n3_ := Aside0.mk ((by rw [hg]; exact (below_size (hz HB.out)) : w.heap.size ≤ gb113)); clear HB; have HB := n0_; have BK113 := n1_; have GW113 := n2_; have GE113 := n3_; clear n0_ n1_ n2_ n3_; clear hb hbox hg) | ((with_reducible refine gate_dst (N := 3) rfl ?_); refine box_event ?hg (N := 3) ?hd (cs := #[.int .i64 a1_0, .int .i64 a1_1]) (t := 24) ?hr ?_; (case hd => rfl); (case hg => rfl); (case hr => first | (go_simp; done) | (go_simp; rfl)); intro gb114 hg w5 hbox hb; have n0_ := Aside0.mk (blk_below (g := gb113) (o := .cells #[.int .i64 a0_0, .int .i64 a0_1] 24 (0, 0)) (bz BK113.out) hb); have n1_ := Aside0.mk (below_step (hz1 HB.out GE113.out) hb); have n2_ := Aside0.mk (hbox); have n3_ := Aside0.mk ((by rw [hg]; exact (below_size (hz1 HB.out GE113.out)) : w.heap.size ≤ gb114)); have n4_ := Aside0.mk ((by rw [hg]; exact (below_size (hz1 HB.out GE113.out)) : w.heap.size ≤ gb114)); have n5_ := Aside0.mk ((by rw [hg]; exact Nat.ne_of_lt (blk_lt (g := gb113) (o := .cells #[.int .i64 a0_0, .int .i64 a0_1] 24 (0, 0)) (bz BK113.out)) : gb113 ≠ gb114)); have n6_ := Aside0.mk ((by rw [hg]; exact Nat.ne_of_gt (blk_lt (g := gb113) (o := .cells #[.int .i64 a0_0, .int .i64 a0_1] 24 (0, 0)) (bz BK113.out)) : gb114 ≠ gb113)); clear BK113; clear HB; have BK113 := n0_; have HB := n1_; have BK114 := n2_; have GW114 := n3_; have GE114 := n4_; have NB113_114 := n5_; have NB114_113 := n6_; clear n0_ n1_ n2_ n3_ n4_ n5_ n6_; clear hb hbox hg) | ((with_reducible refine gate_dst (N := 4) rfl ?_); refine box_event ?hg (N := 4) ?hd (cs := #[.int .i64 0, .int .i64 0]) (t := 24) ?hr ?_; (case hd => rfl); (case hg => rfl); (case hr => first | (go_simp; done) | (go_simp; rfl)); intro gb115 hg w6 hbox hb; have n0_ := Aside0.mk (blk_below (g := gb113) (o := .cells #[.int .i64 a0_0, .int .i64 a0_1] 24 (0, 0)) (bz BK113.out) hb); have n1_ := Aside0.mk (blk_below (g := gb114) (o := .cells #[.int .i64 a1_0, .int .i64 a1_1] 24 (0, 0)) (bz BK114.out) hb); have n2_ := Aside0.mk (below_step (hz2 HB.out GE113.out GE114.out) hb); have n3_ := Aside0.mk (hbox); have n4_ := Aside0.mk ((by rw [hg]; exact (below_size (hz2 HB.out GE113.out GE114.out)) : w.heap.size ≤ gb115)); have n5_ := Aside0.mk ((by rw [hg]; exact (below_size (hz2 HB.out GE113.out GE114.out)) : w.heap.size ≤ gb115)); have n6_ := Aside0.mk ((by rw [hg]; exact Nat.ne_of_lt (blk_lt (g := gb113) (o := .cells #[.int .i64 a0_0, .int .i64 a0_1] 24 (0, 0)) (bz BK113.out)) : gb113 ≠ gb115)); have n7_ := Aside0.mk ((by rw [hg]; exact Nat.ne_of_gt (blk_lt (g := gb113) (o := .cells #[.int .i64 a0_0, .int .i64 a0_1] 24 (0, 0)) (bz BK113.out)) : gb115 ≠ gb113)); have n8_ := Aside0.mk ((by rw [hg]; exact Nat.ne_of_lt (blk_lt (g := gb114) (o := .cells #[.int .i64 a1_0, .int .i64 a1_1] 24 (0, 0)) (bz BK114.out)) : gb114 ≠ gb115)); have n9_ := Aside0.mk ((by rw [hg]; exact Nat.ne_of_gt (blk_lt (g := gb114) (o := .cells #[.int .i64 a1_0, .int .i64 a1_1] 24 (0, 0)) (bz BK114.out)) : gb115 ≠ gb114)); clear BK113; clear BK114; clear HB; have BK113 := n0_; have BK114 := n1_; have HB := n2_; have BK115 := n3_; have GW115 := n4_; have GE115 := n5_; have NB113_115 := n6_; have NB115_113 := n7_; have NB114_115 := n8_; have NB115_114 := n9_; clear n0_ n1_ n2_ n3_ n4_ n5_ n6_ n7_ n8_ n9_; clear hb hbox hg))
 (try simp only [Act.put, List.setIfInBounds_toArray, List.set_cons_zero, List.set_cons_succ])
 go_cut [12] (fun v12 wc => ∃ (kq : Nat) (x12_2 : Bool), v12 = .bool x12_2 ∧ Aside0 (spec_RangeJoin.j0 kq x12_2 a0_0 a0_1 a1_0 a1_1 = some (r1, r2)) ∧ Aside0 (kq ≤ k) ∧ Aside0 (wc.heap[gb113]? = some (.cells #[.int .i64 a0_0, .int .i64 a0_1] 24 (0, 0))) ∧ Aside0 (wc.heap[gb114]? = some (.cells #[.int .i64 a1_0, .int .i64 a1_1] 24 (0, 0))) ∧ Aside0 (wc.heap[gb115]? = some (.cells #[.int .i64 0, .int .i64 0] 24 (0, 0))) ∧ Aside0 (Below w.heap.size w wc))
 case first =>
  have H := HC3.out
  clear HC3
  replace H := Option.bind_eq_some_iff.mp H
  obtain ⟨t116, A70, H⟩ := H
  replace H : (if t116 = true then ((spec_RangeOk.f a1_0 a1_1).bind fun t117 => (spec_RangeJoin.j0 k (!t117) a0_0 a0_1 a1_0 a1_1)) else (spec_RangeJoin.j0 k true a0_0 a0_1 a1_0 a1_1)) = some (r1, r2) := H
  have A7 := Aside0.mk A70
  clear A70
  by_cases c8 : t116 = true
  ·subst c8
   have H1 : ((spec_RangeOk.f a1_0 a1_1).bind fun t117 => (spec_RangeJoin.j0 k (!t117) a0_0 a0_1 a1_0 a1_1)) = some (r1, r2) := by rw [if_pos rfl] at H; exact H
   clear H
   have H := H1
   clear H1
   replace H := Option.bind_eq_some_iff.mp H
   obtain ⟨t117, A90, H⟩ := H
   replace H : (spec_RangeJoin.j0 k (!t117) a0_0 a0_1 a1_0 a1_1) = some (r1, r2) := H
   have A9 := Aside0.mk A90
   clear A90
   have H' := Aside0.mk H
   clear H
   have hnb10 := NB113_114.out
   have hnc10 := NB114_113.out
   have hnb11 := NB113_115.out
   have hnc11 := NB115_113.out
   have hcz12_0 : w6.cell? ⟨gb113, 0, none⟩ = some (.int .i64 a0_0) := (blk_cell BK113.out 0).trans rfl
   have hcz12_1 : w6.cell? ⟨gb113, 1, none⟩ = some (.int .i64 a0_1) := (blk_cell BK113.out 1).trans rfl
   have hfz12_0 := blk_frozen BK113.out 0
   have hfz12_1 := blk_frozen BK113.out 1
   go_wp2_with (first | ((with_reducible refine gate_callee (f := 47) rfl ?_); refine goesL_ (some 6) rfl rfl Try.func47 (by kernel_rfl) rfl #[.agg #[.int .i64 a0_0, .int .i64 a0_1]] rfl mz ?_; (with_reducible refine (spec_RangeOk.calls a0_0 a0_1 true _ A7.out).mono ?_); rintro e w13 ⟨rfl, hb⟩; refine ⟨_, rfl, ?_⟩; have n0_ := Aside0.mk (blk_below (g := gb113) (o := .cells #[.int .i64 a0_0, .int .i64 a0_1] 24 (0, 0)) (bz BK113.out) hb); have n1_ := Aside0.mk (blk_below (g := gb114) (o := .cells #[.int .i64 a1_0, .int .i64 a1_1] 24 (0, 0)) (bz BK114.out) hb); have n2_ := Aside0.mk (blk_below (g := gb115) (o := .cells #[.int .i64 0, .int .i64 0] 24 (0, 0)) (bz BK115.out) hb); have n3_ := Aside0.mk (below_step (hz3 HB.out GE113.out GE114.out GE115.out) hb); clear BK113; clear BK114; clear BK115; clear HB; have BK113 := n0_; have BK114 := n1_; have BK115 := n2_; have HB := n3_; clear n0_ n1_ n2_ n3_; (try clear hb); (try clear hb2); (try clear hk); (try clear hi); have hnb14 := NB114_115.out; have hnc14 := NB115_114.out; have hcz15_0 : w13.cell? ⟨gb114, 0, none⟩ = some (.int .i64 a1_0) := (blk_cell BK114.out 0).trans rfl; have hcz15_1 : w13.cell? ⟨gb114, 1, none⟩ = some (.int .i64 a1_1) := (blk_cell BK114.out 1).trans rfl; have hfz15_0 := blk_frozen BK114.out 0; have hfz15_1 := blk_frozen BK114.out 1) | (go_at_call 47; (with_reducible refine (spec_RangeOk.calls a1_0 a1_1 t117 _ A9.out).mono ?_); rintro e w16 ⟨rfl, hb⟩; have n0_ := Aside0.mk (blk_below (g := gb113) (o := .cells #[.int .i64 a0_0, .int .i64 a0_1] 24 (0, 0)) (bz BK113.out) hb); have n1_ := Aside0.mk (blk_below (g := gb114) (o := .cells #[.int .i64 a1_0, .int .i64 a1_1] 24 (0, 0)) (bz BK114.out) hb); have n2_ := Aside0.mk (blk_below (g := gb115) (o := .cells #[.int .i64 0, .int .i64 0] 24 (0, 0)) (bz BK115.out) hb); have n3_ := Aside0.mk (below_step (hz3 HB.out GE113.out GE114.out GE115.out) hb); clear BK113; clear BK114; clear BK115; clear HB; have BK113 := n0_; have BK114 := n1_; have BK115 := n2_; have HB := n3_; clear n0_ n1_ n2_ n3_; (try clear hb); (try clear hb2); (try clear hk); (try clear hi)))
   go_meet
   case rel => exact ⟨_, (!t117), (by first | rfl | (simp; done) | (simp [*]; done)), H', ⟨by first | omega | exact Nat.le_refl _⟩, ⟨bz BK113.out⟩, ⟨bz BK114.out⟩, ⟨bz BK115.out⟩, ⟨hz3 HB.out GE113.out GE114.out GE115.out⟩⟩
  ·replace c8 := Bool.eq_false_iff.mpr c8
   subst c8
   have H1 : (spec_RangeJoin.j0 k true a0_0 a0_1 a1_0 a1_1) = some (r1, r2) := by rw [if_neg (show ¬ (false = true) by decide)] at H; exact H
   clear H
   have H := H1
   clear H1
   have H' := Aside0.mk H
   clear H
   have hnb17 := NB113_114.out
   have hnc17 := NB114_113.out
   have hnb18 := NB113_115.out
   have hnc18 := NB115_113.out
   have hcz19_0 : w6.cell? ⟨gb113, 0, none⟩ = some (.int .i64 a0_0) := (blk_cell BK113.out 0).trans rfl
   have hcz19_1 : w6.cell? ⟨gb113, 1, none⟩ = some (.int .i64 a0_1) := (blk_cell BK113.out 1).trans rfl
   have hfz19_0 := blk_frozen BK113.out 0
   have hfz19_1 := blk_frozen BK113.out 1
   go_wp2_with (first | ((with_reducible refine gate_callee (f := 47) rfl ?_); refine goesL_ (some 6) rfl rfl Try.func47 (by kernel_rfl) rfl #[.agg #[.int .i64 a0_0, .int .i64 a0_1]] rfl mz ?_; (with_reducible refine (spec_RangeOk.calls a0_0 a0_1 false _ A7.out).mono ?_); rintro e w20 ⟨rfl, hb⟩; refine ⟨_, rfl, ?_⟩; have n0_ := Aside0.mk (blk_below (g := gb113) (o := .cells #[.int .i64 a0_0, .int .i64 a0_1] 24 (0, 0)) (bz BK113.out) hb); have n1_ := Aside0.mk (blk_below (g := gb114) (o := .cells #[.int .i64 a1_0, .int .i64 a1_1] 24 (0, 0)) (bz BK114.out) hb); have n2_ := Aside0.mk (blk_below (g := gb115) (o := .cells #[.int .i64 0, .int .i64 0] 24 (0, 0)) (bz BK115.out) hb); have n3_ := Aside0.mk (below_step (hz3 HB.out GE113.out GE114.out GE115.out) hb); clear BK113; clear BK114; clear BK115; clear HB; have BK113 := n0_; have BK114 := n1_; have BK115 := n2_; have HB := n3_; clear n0_ n1_ n2_ n3_; (try clear hb); (try clear hb2); (try clear hk); (try clear hi)))
   go_meet
   case rel => exact ⟨_, (true), (by first | rfl | (simp; done) | (simp [*]; done)), H', ⟨by first | omega | exact Nat.le_refl _⟩, ⟨bz BK113.out⟩, ⟨bz BK114.out⟩, ⟨bz BK115.out⟩, ⟨hz3 HB.out GE113.out GE114.out GE115.out⟩⟩
 case rest =>
  clear HC3
  try clear c1
  try clear p2
  try clear c4
  try clear c8
  try clear c10
  try clear c11
  try clear c14
  try clear c15
  try clear c17
  try clear c18
  try clear hcz12_0
  try clear hcz12_1
  try clear hcz15_0
  try clear hcz15_1
  try clear hcz19_0
  try clear hcz19_1
  try clear hfz12_0
  try clear hfz12_1
  try clear hfz15_0
  try clear hfz15_1
  try clear hfz19_0
  try clear hfz19_1
  obtain ⟨kq, x12_2, rfl, HA, HJ2, BK113, BK114, BK115, HB⟩ := hcut
  cases kq with
  | zero => exact absurd HA.out (by simp [spec_RangeJoin.j0])
  | succ kj2 =>
   have H := HA.out
   clear HA
   simp only [spec_RangeJoin.j0] at H
   by_cases c21 : x12_2 = true
   ·subst c21
    have H1 : ((spec_l8None.f).bind fun bt118 => (some (bt118.1, bt118.2))) = some (r1, r2) := by rw [if_pos rfl] at H; exact H
    clear H
    have H := H1
    clear H1
    replace H := Option.bind_eq_some_iff.mp H
    obtain ⟨⟨t118, t119⟩, A220, H⟩ := H
    replace H : (some (t118, t119)) = some (r1, r2) := H
    have A22 := Aside0.mk A220
    clear A220
    simp only [Option.some.injEq, Prod.mk.injEq] at H
    obtain ⟨rfl, rfl⟩ := H
    go_wp2_with (first | ((with_reducible refine gate_callee (f := 48) rfl ?_); refine goesL_ (some 13) rfl rfl Try.func48 (by kernel_rfl) rfl #[] rfl mz ?_; (with_reducible refine (spec_l8None.calls  t118 t119 _ A22.out).mono ?_); rintro e w23 ⟨rfl, hb⟩; refine ⟨_, rfl, ?_⟩; have n0_ := Aside0.mk (blk_below (g := gb113) (o := .cells #[.int .i64 a0_0, .int .i64 a0_1] 24 (0, 0)) (bz BK113.out) hb); have n1_ := Aside0.mk (blk_below (g := gb114) (o := .cells #[.int .i64 a1_0, .int .i64 a1_1] 24 (0, 0)) (bz BK114.out) hb); have n2_ := Aside0.mk (blk_below (g := gb115) (o := .cells #[.int .i64 0, .int .i64 0] 24 (0, 0)) (bz BK115.out) hb); have n3_ := Aside0.mk (below_step (hz3 HB.out GE113.out GE114.out GE115.out) hb); clear BK113; clear BK114; clear BK115; clear HB; have BK113 := n0_; have BK114 := n1_; have BK115 := n2_; have HB := n3_; clear n0_ n1_ n2_ n3_; (try clear hb); (try clear hb2); (try clear hk); (try clear hi); have hnb24 := NB115_113.out; have hnc24 := NB113_115.out; have hnb25 := NB115_114.out; have hnc25 := NB114_115.out; have hcz26_0 : w23.cell? ⟨gb115, 0, none⟩ = some (.int .i64 0) := (blk_cell BK115.out 0).trans rfl; have hcz26_1 : w23.cell? ⟨gb115, 1, none⟩ = some (.int .i64 0) := (blk_cell BK115.out 1).trans rfl; have hfz26_0 := blk_frozen BK115.out 0; have hfz26_1 := blk_frozen BK115.out 1))
    refine bodyPost_ret (results_cell_row rfl _ _ gb115 24 #[.int .i64 t118, .int .i64 t119] (0, 0) _ rfl (by (with_reducible repeat (first | refine blk_drewN ?_ _ | refine blk_drew ?_ | refine blk_alloc ?_ _)); refine blk_put (cs := #[.int .i64 t118, .int .i64 0]) ?_ 1 _ rfl; (with_reducible repeat (first | refine blk_drewN ?_ _ | refine blk_drew ?_ | refine blk_alloc ?_ _)); refine blk_put (cs := #[.int .i64 0, .int .i64 0]) ?_ 0 _ rfl; (with_reducible repeat (first | refine blk_drewN ?_ _ | refine blk_drew ?_ | refine blk_alloc ?_ _)); exact BK115.out) Try.underlying24 rfl (by kernel_rfl)) rfl ?_
    exact ⟨by first | rfl | (simp [errW_none, errW_some] <;> rfl) | (simp [*, errW_none, errW_some] <;> rfl), hz3 HB.out GE113.out GE114.out GE115.out⟩
   ·replace c21 := Bool.eq_false_iff.mpr c21
    subst c21
    have H1 : ((spec_l8None.f).bind fun bt120 => (if (a0_0 == bt120.1 && (a0_1 == bt120.2)) = true then (some (a1_0, a1_1)) else ((spec_l8None.f).bind fun bt122 => (if (a1_0 == bt122.1 && (a1_1 == bt122.2)) = true then (some (a0_0, a0_1)) else ((spec_l8Min.f a0_0 a1_0).bind fun t124 => ((spec_l8Max.f a0_1 a1_1).bind fun t125 => (some (t124, t125)))))))) = some (r1, r2) := by rw [if_neg (show ¬ (false = true) by decide)] at H; exact H
    clear H
    have H := H1
    clear H1
    replace H := Option.bind_eq_some_iff.mp H
    obtain ⟨⟨t120, t121⟩, A270, H⟩ := H
    replace H : (if (a0_0 == t120 && (a0_1 == t121)) = true then (some (a1_0, a1_1)) else ((spec_l8None.f).bind fun bt122 => (if (a1_0 == bt122.1 && (a1_1 == bt122.2)) = true then (some (a0_0, a0_1)) else ((spec_l8Min.f a0_0 a1_0).bind fun t124 => ((spec_l8Max.f a0_1 a1_1).bind fun t125 => (some (t124, t125))))))) = some (r1, r2) := H
    have A27 := Aside0.mk A270
    clear A270
    by_cases c28 : (a0_0 == t120 && (a0_1 == t121)) = true
    ·rw [if_pos c28] at H
     have c28b0 : (a0_0 == t120 && (a0_1 == t121)) = true := c28
     (try (have c28b1 : decide (a0_0 = t120 && (a0_1 == t121)) = true := by simpa using c28))
     (try (have c28b2 : (a0_0 == t120 && (a0_1 == t121)) = true := by simpa using c28))
     clear c28
     simp only [Option.some.injEq, Prod.mk.injEq] at H
     obtain ⟨rfl, rfl⟩ := H
     try go_wp2
     have n0_ := Aside0.mk (blk_drew BK113.out)
     have n1_ := Aside0.mk (blk_drew BK114.out)
     have n2_ := Aside0.mk (blk_drew BK115.out)
     have n3_ := Aside0.mk (below_drew1 HB.out)
     clear BK113
     clear BK114
     clear BK115
     clear HB
     have BK113 := n0_
     have BK114 := n1_
     have BK115 := n2_
     have HB := n3_
     clear n0_ n1_ n2_ n3_
     refine start_ (n := 3) (S := fun w' => w'.cell? ⟨gb113, 0, none⟩ = some (.int .i64 a0_0) ∧ w'.cell? ⟨gb113, 1, none⟩ = some (.int .i64 a0_1)) (ds := []) #[false, false, false] (by kernel_rfl) rfl rfl ⟨(blk_cell BK113.out 0).trans rfl, (blk_cell BK113.out 1).trans rfl⟩ (fun hHeld => ?_)
     generalize wc.drew = w29 at BK113 BK114 BK115 HB hHeld ⊢
     refine take_ (i := 0) (N := some 14) (v := ?_) (a' := ?_) #[true, false, false] rfl rfl (by kernel_rfl) (fun _ _ _ h => h) (Or.inl ⟨by rfl, ?_⟩) hHeld ?_ ?_
     rotate_left
     ·rintro w' ⟨s0, s1⟩
      go_simp
      with_reducible rfl
     rotate_left
     ·exact pz
     refine one_ (i := 1) (N := some 15) #[true, true, false] rfl rfl (by kernel_rfl) (by decide) (fun K hK => ?_)
     refine goes_ Try.func48 (by kernel_rfl) rfl #[] (by rfl) rfl rfl mz ?_
     with_reducible refine (spec_l8None.calls  t120 t121 _ A27.out).mono ?_
     rintro e w30 ⟨rfl, hb⟩
     refine ⟨_, rfl, ?_⟩
     have n0_ := Aside0.mk (blk_below (g := gb113) (o := .cells #[.int .i64 a0_0, .int .i64 a0_1] 24 (0, 0)) (bz BK113.out) hb)
     have n1_ := Aside0.mk (blk_below (g := gb114) (o := .cells #[.int .i64 a1_0, .int .i64 a1_1] 24 (0, 0)) (bz BK114.out) hb)
     have n2_ := Aside0.mk (blk_below (g := gb115) (o := .cells #[.int .i64 0, .int .i64 0] 24 (0, 0)) (bz BK115.out) hb)
     have n3_ := Aside0.mk (below_step (hz3 HB.out GE113.out GE114.out GE115.out) hb)
     clear BK113
     clear BK114
     clear BK115
     clear HB
     have BK113 := n0_
     have BK114 := n1_
     have BK115 := n2_
     have HB := n3_
     clear n0_ n1_ n2_ n3_
     (try clear hb)
     (try clear hb2)
     (try clear hk)
     (try clear hi)
     refine hK.out _ _ ⟨(blk_cell BK113.out 0).trans rfl, (blk_cell BK113.out 1).trans rfl⟩ (fun hHeld => ?_)
     clear hK K
     refine norm_ (a' := ?_) ?_ ?_
     rotate_left
     ·show Act.put _ (some 15) _ = _
      simp only [Act.put, List.setIfInBounds_toArray, List.set_cons_zero, List.set_cons_succ, i64_w, i32_w]
      rfl
     refine pure_ (i := 2) (N := some 16) (v := ?_) (a' := ?_) #[true, true, true] rfl rfl (by kernel_rfl) (fun _ _ _ h => h) (Or.inl ⟨by rfl, ?_⟩) ?_ ?_
     rotate_left
     ·intro w'
      go_simp
      with_reducible rfl
     rotate_left
     ·exact pz
     refine done_ (by kernel_rfl) ?_
     have hnb31 := NB114_113.out
     have hnc31 := NB113_114.out
     have hnb32 := NB114_115.out
     have hnc32 := NB115_114.out
     have hcz33_0 : w30.cell? ⟨gb114, 0, none⟩ = some (.int .i64 a1_0) := (blk_cell BK114.out 0).trans rfl
     have hcz33_1 : w30.cell? ⟨gb114, 1, none⟩ = some (.int .i64 a1_1) := (blk_cell BK114.out 1).trans rfl
     have hfz33_0 := blk_frozen BK114.out 0
     have hfz33_1 := blk_frozen BK114.out 1
     have hnb34 := NB115_113.out
     have hnc34 := NB113_115.out
     have hcz35_0 : w30.cell? ⟨gb115, 0, none⟩ = some (.int .i64 0) := (blk_cell BK115.out 0).trans rfl
     have hcz35_1 : w30.cell? ⟨gb115, 1, none⟩ = some (.int .i64 0) := (blk_cell BK115.out 1).trans rfl
     have hfz35_0 := blk_frozen BK115.out 0
     have hfz35_1 := blk_frozen BK115.out 1
     try go_wp2
     refine bodyPost_ret (results_cell_row rfl _ _ gb115 24 #[.int .i64 a1_0, .int .i64 a1_1] (0, 0) _ rfl (by (with_reducible repeat (first | refine blk_drewN ?_ _ | refine blk_drew ?_ | refine blk_alloc ?_ _)); refine blk_put (cs := #[.int .i64 a1_0, .int .i64 0]) ?_ 1 _ rfl; (with_reducible repeat (first | refine blk_drewN ?_ _ | refine blk_drew ?_ | refine blk_alloc ?_ _)); refine blk_put (cs := #[.int .i64 0, .int .i64 0]) ?_ 0 _ rfl; (with_reducible repeat (first | refine blk_drewN ?_ _ | refine blk_drew ?_ | refine blk_alloc ?_ _)); exact BK115.out) Try.underlying24 rfl (by kernel_rfl)) rfl ?_
     exact ⟨by first | rfl | (simp [errW_none, errW_some] <;> rfl) | (simp [*, errW_none, errW_some] <;> rfl), hz3 HB.out GE113.out GE114.out GE115.out⟩
    ·rw [if_neg c28] at H
     have c28b0 : (a0_0 == t120 && (a0_1 == t121)) = false := by simpa using c28
     (try (have c28b1 : decide (a0_0 = t120 && (a0_1 == t121)) = false := by simpa using c28))
     (try (have c28b2 : (a0_0 == t120 && (a0_1 == t121)) = false := by simpa using c28))
     (try (have c28b3 : ¬ (a0_0 = t120 && (a0_1 == t121)) := by simpa using c28))
     clear c28
     replace H := Option.bind_eq_some_iff.mp H
     obtain ⟨⟨t122, t123⟩, A360, H⟩ := H
     replace H : (if (a1_0 == t122 && (a1_1 == t123)) = true then (some (a0_0, a0_1)) else ((spec_l8Min.f a0_0 a1_0).bind fun t124 => ((spec_l8Max.f a0_1 a1_1).bind fun t125 => (some (t124, t125))))) = some (r1, r2) := H
     have A36 := Aside0.mk A360
     clear A360
     by_cases c37 : (a1_0 == t122 && (a1_1 == t123)) = true
     ·rw [if_pos c37] at H
      have c37b0 : (a1_0 == t122 && (a1_1 == t123)) = true := c37
      (try (have c37b1 : decide (a1_0 = t122 && (a1_1 == t123)) = true := by simpa using c37))
      (try (have c37b2 : (a1_0 == t122 && (a1_1 == t123)) = true := by simpa using c37))
      clear c37
      simp only [Option.some.injEq, Prod.mk.injEq] at H
      obtain ⟨rfl, rfl⟩ := H
      try go_wp2
      have n0_ := Aside0.mk (blk_drew BK113.out)
      have n1_ := Aside0.mk (blk_drew BK114.out)
      have n2_ := Aside0.mk (blk_drew BK115.out)
      have n3_ := Aside0.mk (below_drew1 HB.out)
      clear BK113
      clear BK114
      clear BK115
      clear HB
      have BK113 := n0_
      have BK114 := n1_
      have BK115 := n2_
      have HB := n3_
      clear n0_ n1_ n2_ n3_
      refine start_ (n := 3) (S := fun w' => w'.cell? ⟨gb113, 0, none⟩ = some (.int .i64 a0_0) ∧ w'.cell? ⟨gb113, 1, none⟩ = some (.int .i64 a0_1)) (ds := []) #[false, false, false] (by kernel_rfl) rfl rfl ⟨(blk_cell BK113.out 0).trans rfl, (blk_cell BK113.out 1).trans rfl⟩ (fun hHeld => ?_)
      generalize wc.drew = w38 at BK113 BK114 BK115 HB hHeld ⊢
      refine take_ (i := 0) (N := some 14) (v := ?_) (a' := ?_) #[true, false, false] rfl rfl (by kernel_rfl) (fun _ _ _ h => h) (Or.inl ⟨by rfl, ?_⟩) hHeld ?_ ?_
      rotate_left
      ·rintro w' ⟨s0, s1⟩
       go_simp
       with_reducible rfl
      rotate_left
      ·exact pz
      refine one_ (i := 1) (N := some 15) #[true, true, false] rfl rfl (by kernel_rfl) (by decide) (fun K hK => ?_)
      refine goes_ Try.func48 (by kernel_rfl) rfl #[] (by rfl) rfl rfl mz ?_
      with_reducible refine (spec_l8None.calls  t120 t121 _ A27.out).mono ?_
      rintro e w39 ⟨rfl, hb⟩
      refine ⟨_, rfl, ?_⟩
      have n0_ := Aside0.mk (blk_below (g := gb113) (o := .cells #[.int .i64 a0_0, .int .i64 a0_1] 24 (0, 0)) (bz BK113.out) hb)
      have n1_ := Aside0.mk (blk_below (g := gb114) (o := .cells #[.int .i64 a1_0, .int .i64 a1_1] 24 (0, 0)) (bz BK114.out) hb)
      have n2_ := Aside0.mk (blk_below (g := gb115) (o := .cells #[.int .i64 0, .int .i64 0] 24 (0, 0)) (bz BK115.out) hb)
      have n3_ := Aside0.mk (below_step (hz3 HB.out GE113.out GE114.out GE115.out) hb)
      clear BK113
      clear BK114
      clear BK115
      clear HB
      have BK113 := n0_
      have BK114 := n1_
      have BK115 := n2_
      have HB := n3_
      clear n0_ n1_ n2_ n3_
      (try clear hb)
      (try clear hb2)
      (try clear hk)
      (try clear hi)
      refine hK.out _ _ ⟨(blk_cell BK113.out 0).trans rfl, (blk_cell BK113.out 1).trans rfl⟩ (fun hHeld => ?_)
      clear hK K
      refine norm_ (a' := ?_) ?_ ?_
      rotate_left
      ·show Act.put _ (some 15) _ = _
       simp only [Act.put, List.setIfInBounds_toArray, List.set_cons_zero, List.set_cons_succ, i64_w, i32_w]
       rfl
      refine pure_ (i := 2) (N := some 16) (v := ?_) (a' := ?_) #[true, true, true] rfl rfl (by kernel_rfl) (fun _ _ _ h => h) (Or.inl ⟨by rfl, ?_⟩) ?_ ?_
      rotate_left
      ·intro w'
       go_simp
       with_reducible rfl
      rotate_left
      ·exact pz
      refine done_ (by kernel_rfl) ?_
      try go_wp2
      have n0_ := Aside0.mk (blk_drew BK113.out)
      have n1_ := Aside0.mk (blk_drew BK114.out)
      have n2_ := Aside0.mk (blk_drew BK115.out)
      have n3_ := Aside0.mk (below_drew1 HB.out)
      clear BK113
      clear BK114
      clear BK115
      clear HB
      have BK113 := n0_
      have BK114 := n1_
      have BK115 := n2_
      have HB := n3_
      clear n0_ n1_ n2_ n3_
      refine start_ (n := 3) (S := fun w' => w'.cell? ⟨gb114, 0, none⟩ = some (.int .i64 a1_0) ∧ w'.cell? ⟨gb114, 1, none⟩ = some (.int .i64 a1_1)) (ds := []) #[false, false, false] (by kernel_rfl) rfl rfl ⟨(blk_cell BK114.out 0).trans rfl, (blk_cell BK114.out 1).trans rfl⟩ (fun hHeld => ?_)
      generalize w39.drew = w40 at BK113 BK114 BK115 HB hHeld ⊢
      refine take_ (i := 0) (N := some 18) (v := ?_) (a' := ?_) #[true, false, false] rfl rfl (by kernel_rfl) (fun _ _ _ h => h) (Or.inl ⟨by rfl, ?_⟩) hHeld ?_ ?_
      rotate_left
      ·rintro w' ⟨s0, s1⟩
       go_simp
       with_reducible rfl
      rotate_left
      ·exact pz
      refine one_ (i := 1) (N := some 19) #[true, true, false] rfl rfl (by kernel_rfl) (by decide) (fun K hK => ?_)
      refine goes_ Try.func48 (by kernel_rfl) rfl #[] (by rfl) rfl rfl mz ?_
      with_reducible refine (spec_l8None.calls  t122 t123 _ A36.out).mono ?_
      rintro e w41 ⟨rfl, hb⟩
      refine ⟨_, rfl, ?_⟩
      have n0_ := Aside0.mk (blk_below (g := gb113) (o := .cells #[.int .i64 a0_0, .int .i64 a0_1] 24 (0, 0)) (bz BK113.out) hb)
      have n1_ := Aside0.mk (blk_below (g := gb114) (o := .cells #[.int .i64 a1_0, .int .i64 a1_1] 24 (0, 0)) (bz BK114.out) hb)
      have n2_ := Aside0.mk (blk_below (g := gb115) (o := .cells #[.int .i64 0, .int .i64 0] 24 (0, 0)) (bz BK115.out) hb)
      have n3_ := Aside0.mk (below_step (hz3 HB.out GE113.out GE114.out GE115.out) hb)
      clear BK113
      clear BK114
      clear BK115
      clear HB
      have BK113 := n0_
      have BK114 := n1_
      have BK115 := n2_
      have HB := n3_
      clear n0_ n1_ n2_ n3_
      (try clear hb)
      (try clear hb2)
      (try clear hk)
      (try clear hi)
      refine hK.out _ _ ⟨(blk_cell BK114.out 0).trans rfl, (blk_cell BK114.out 1).trans rfl⟩ (fun hHeld => ?_)
      clear hK K
      refine norm_ (a' := ?_) ?_ ?_
      rotate_left
      ·show Act.put _ (some 19) _ = _
       simp only [Act.put, List.setIfInBounds_toArray, List.set_cons_zero, List.set_cons_succ, i64_w, i32_w]
       rfl
      refine pure_ (i := 2) (N := some 20) (v := ?_) (a' := ?_) #[true, true, true] rfl rfl (by kernel_rfl) (fun _ _ _ h => h) (Or.inl ⟨by rfl, ?_⟩) ?_ ?_
      rotate_left
      ·intro w'
       go_simp
       with_reducible rfl
      rotate_left
      ·exact pz
      refine done_ (by kernel_rfl) ?_
      have hnb42 := NB113_114.out
      have hnc42 := NB114_113.out
      have hnb43 := NB113_115.out
      have hnc43 := NB115_113.out
      have hcz44_0 : w41.cell? ⟨gb113, 0, none⟩ = some (.int .i64 a0_0) := (blk_cell BK113.out 0).trans rfl
      have hcz44_1 : w41.cell? ⟨gb113, 1, none⟩ = some (.int .i64 a0_1) := (blk_cell BK113.out 1).trans rfl
      have hfz44_0 := blk_frozen BK113.out 0
      have hfz44_1 := blk_frozen BK113.out 1
      have hnb45 := NB115_114.out
      have hnc45 := NB114_115.out
      have hcz46_0 : w41.cell? ⟨gb115, 0, none⟩ = some (.int .i64 0) := (blk_cell BK115.out 0).trans rfl
      have hcz46_1 : w41.cell? ⟨gb115, 1, none⟩ = some (.int .i64 0) := (blk_cell BK115.out 1).trans rfl
      have hfz46_0 := blk_frozen BK115.out 0
      have hfz46_1 := blk_frozen BK115.out 1
      try go_wp2
      refine bodyPost_ret (results_cell_row rfl _ _ gb115 24 #[.int .i64 a0_0, .int .i64 a0_1] (0, 0) _ rfl (by (with_reducible repeat (first | refine blk_drewN ?_ _ | refine blk_drew ?_ | refine blk_alloc ?_ _)); refine blk_put (cs := #[.int .i64 a0_0, .int .i64 0]) ?_ 1 _ rfl; (with_reducible repeat (first | refine blk_drewN ?_ _ | refine blk_drew ?_ | refine blk_alloc ?_ _)); refine blk_put (cs := #[.int .i64 0, .int .i64 0]) ?_ 0 _ rfl; (with_reducible repeat (first | refine blk_drewN ?_ _ | refine blk_drew ?_ | refine blk_alloc ?_ _)); exact BK115.out) Try.underlying24 rfl (by kernel_rfl)) rfl ?_
      exact ⟨by first | rfl | (simp [errW_none, errW_some] <;> rfl) | (simp [*, errW_none, errW_some] <;> rfl), hz3 HB.out GE113.out GE114.out GE115.out⟩
     ·rw [if_neg c37] at H
      have c37b0 : (a1_0 == t122 && (a1_1 == t123)) = false := by simpa using c37
      (try (have c37b1 : decide (a1_0 = t122 && (a1_1 == t123)) = false := by simpa using c37))
      (try (have c37b2 : (a1_0 == t122 && (a1_1 == t123)) = false := by simpa using c37))
      (try (have c37b3 : ¬ (a1_0 = t122 && (a1_1 == t123)) := by simpa using c37))
      clear c37
      replace H := Option.bind_eq_some_iff.mp H
      obtain ⟨t124, A470, H⟩ := H
      replace H : ((spec_l8Max.f a0_1 a1_1).bind fun t125 => (some (t124, t125))) = some (r1, r2) := H
      have A47 := Aside0.mk A470
      clear A470
      replace H := Option.bind_eq_some_iff.mp H
      obtain ⟨t125, A480, H⟩ := H
      replace H : (some (t124, t125)) = some (r1, r2) := H
      have A48 := Aside0.mk A480
      clear A480
      simp only [Option.some.injEq, Prod.mk.injEq] at H
      obtain ⟨rfl, rfl⟩ := H
      try go_wp2
      have n0_ := Aside0.mk (blk_drew BK113.out)
      have n1_ := Aside0.mk (blk_drew BK114.out)
      have n2_ := Aside0.mk (blk_drew BK115.out)
      have n3_ := Aside0.mk (below_drew1 HB.out)
      clear BK113
      clear BK114
      clear BK115
      clear HB
      have BK113 := n0_
      have BK114 := n1_
      have BK115 := n2_
      have HB := n3_
      clear n0_ n1_ n2_ n3_
      refine start_ (n := 3) (S := fun w' => w'.cell? ⟨gb113, 0, none⟩ = some (.int .i64 a0_0) ∧ w'.cell? ⟨gb113, 1, none⟩ = some (.int .i64 a0_1)) (ds := []) #[false, false, false] (by kernel_rfl) rfl rfl ⟨(blk_cell BK113.out 0).trans rfl, (blk_cell BK113.out 1).trans rfl⟩ (fun hHeld => ?_)
      generalize wc.drew = w49 at BK113 BK114 BK115 HB hHeld ⊢
      refine take_ (i := 0) (N := some 14) (v := ?_) (a' := ?_) #[true, false, false] rfl rfl (by kernel_rfl) (fun _ _ _ h => h) (Or.inl ⟨by rfl, ?_⟩) hHeld ?_ ?_
      rotate_left
      ·rintro w' ⟨s0, s1⟩
       go_simp
       with_reducible rfl
      rotate_left
      ·exact pz
      refine one_ (i := 1) (N := some 15) #[true, true, false] rfl rfl (by kernel_rfl) (by decide) (fun K hK => ?_)
      refine goes_ Try.func48 (by kernel_rfl) rfl #[] (by rfl) rfl rfl mz ?_
      with_reducible refine (spec_l8None.calls  t120 t121 _ A27.out).mono ?_
      rintro e w50 ⟨rfl, hb⟩
      refine ⟨_, rfl, ?_⟩
      have n0_ := Aside0.mk (blk_below (g := gb113) (o := .cells #[.int .i64 a0_0, .int .i64 a0_1] 24 (0, 0)) (bz BK113.out) hb)
      have n1_ := Aside0.mk (blk_below (g := gb114) (o := .cells #[.int .i64 a1_0, .int .i64 a1_1] 24 (0, 0)) (bz BK114.out) hb)
      have n2_ := Aside0.mk (blk_below (g := gb115) (o := .cells #[.int .i64 0, .int .i64 0] 24 (0, 0)) (bz BK115.out) hb)
      have n3_ := Aside0.mk (below_step (hz3 HB.out GE113.out GE114.out GE115.out) hb)
      clear BK113
      clear BK114
      clear BK115
      clear HB
      have BK113 := n0_
      have BK114 := n1_
      have BK115 := n2_
      have HB := n3_
      clear n0_ n1_ n2_ n3_
      (try clear hb)
      (try clear hb2)
      (try clear hk)
      (try clear hi)
      refine hK.out _ _ ⟨(blk_cell BK113.out 0).trans rfl, (blk_cell BK113.out 1).trans rfl⟩ (fun hHeld => ?_)
      clear hK K
      refine norm_ (a' := ?_) ?_ ?_
      rotate_left
      ·show Act.put _ (some 15) _ = _
       simp only [Act.put, List.setIfInBounds_toArray, List.set_cons_zero, List.set_cons_succ, i64_w, i32_w]
       rfl
      refine pure_ (i := 2) (N := some 16) (v := ?_) (a' := ?_) #[true, true, true] rfl rfl (by kernel_rfl) (fun _ _ _ h => h) (Or.inl ⟨by rfl, ?_⟩) ?_ ?_
      rotate_left
      ·intro w'
       go_simp
       with_reducible rfl
      rotate_left
      ·exact pz
      refine done_ (by kernel_rfl) ?_
      try go_wp2
      have n0_ := Aside0.mk (blk_drew BK113.out)
      have n1_ := Aside0.mk (blk_drew BK114.out)
      have n2_ := Aside0.mk (blk_drew BK115.out)
      have n3_ := Aside0.mk (below_drew1 HB.out)
      clear BK113
      clear BK114
      clear BK115
      clear HB
      have BK113 := n0_
      have BK114 := n1_
      have BK115 := n2_
      have HB := n3_
      clear n0_ n1_ n2_ n3_
      refine start_ (n := 3) (S := fun w' => w'.cell? ⟨gb114, 0, none⟩ = some (.int .i64 a1_0) ∧ w'.cell? ⟨gb114, 1, none⟩ = some (.int .i64 a1_1)) (ds := []) #[false, false, false] (by kernel_rfl) rfl rfl ⟨(blk_cell BK114.out 0).trans rfl, (blk_cell BK114.out 1).trans rfl⟩ (fun hHeld => ?_)
      generalize w50.drew = w51 at BK113 BK114 BK115 HB hHeld ⊢
      refine take_ (i := 0) (N := some 18) (v := ?_) (a' := ?_) #[true, false, false] rfl rfl (by kernel_rfl) (fun _ _ _ h => h) (Or.inl ⟨by rfl, ?_⟩) hHeld ?_ ?_
      rotate_left
      ·rintro w' ⟨s0, s1⟩
       go_simp
       with_reducible rfl
      rotate_left
      ·exact pz
      refine one_ (i := 1) (N := some 19) #[true, true, false] rfl rfl (by kernel_rfl) (by decide) (fun K hK => ?_)
      refine goes_ Try.func48 (by kernel_rfl) rfl #[] (by rfl) rfl rfl mz ?_
      with_reducible refine (spec_l8None.calls  t122 t123 _ A36.out).mono ?_
      rintro e w52 ⟨rfl, hb⟩
      refine ⟨_, rfl, ?_⟩
      have n0_ := Aside0.mk (blk_below (g := gb113) (o := .cells #[.int .i64 a0_0, .int .i64 a0_1] 24 (0, 0)) (bz BK113.out) hb)
      have n1_ := Aside0.mk (blk_below (g := gb114) (o := .cells #[.int .i64 a1_0, .int .i64 a1_1] 24 (0, 0)) (bz BK114.out) hb)
      have n2_ := Aside0.mk (blk_below (g := gb115) (o := .cells #[.int .i64 0, .int .i64 0] 24 (0, 0)) (bz BK115.out) hb)
      have n3_ := Aside0.mk (below_step (hz3 HB.out GE113.out GE114.out GE115.out) hb)
      clear BK113
      clear BK114
      clear BK115
      clear HB
      have BK113 := n0_
      have BK114 := n1_
      have BK115 := n2_
      have HB := n3_
      clear n0_ n1_ n2_ n3_
      (try clear hb)
      (try clear hb2)
      (try clear hk)
      (try clear hi)
      refine hK.out _ _ ⟨(blk_cell BK114.out 0).trans rfl, (blk_cell BK114.out 1).trans rfl⟩ (fun hHeld => ?_)
      clear hK K
      refine norm_ (a' := ?_) ?_ ?_
      rotate_left
      ·show Act.put _ (some 19) _ = _
       simp only [Act.put, List.setIfInBounds_toArray, List.set_cons_zero, List.set_cons_succ, i64_w, i32_w]
       rfl
      refine pure_ (i := 2) (N := some 20) (v := ?_) (a' := ?_) #[true, true, true] rfl rfl (by kernel_rfl) (fun _ _ _ h => h) (Or.inl ⟨by rfl, ?_⟩) ?_ ?_
      rotate_left
      ·intro w'
       go_simp
       with_reducible rfl
      rotate_left
      ·exact pz
      refine done_ (by kernel_rfl) ?_
      try go_wp2
      have n0_ := Aside0.mk (blk_drew BK113.out)
      have n1_ := Aside0.mk (blk_drew BK114.out)
      have n2_ := Aside0.mk (blk_drew BK115.out)
      have n3_ := Aside0.mk (below_drew1 HB.out)
      clear BK113
      clear BK114
      clear BK115
      clear HB
      have BK113 := n0_
      have BK114 := n1_
      have BK115 := n2_
      have HB := n3_
      clear n0_ n1_ n2_ n3_
      refine start_ (n := 12) (S := fun w' => w'.cell? ⟨gb113, 0, none⟩ = some (.int .i64 a0_0) ∧ w'.cell? ⟨gb113, 1, none⟩ = some (.int .i64 a0_1) ∧ w'.cell? ⟨gb114, 0, none⟩ = some (.int .i64 a1_0) ∧ w'.cell? ⟨gb114, 1, none⟩ = some (.int .i64 a1_1)) (ds := []) #[false, false, false, false, false, false, false, false, false, false, false, false] (by kernel_rfl) rfl rfl ⟨(blk_cell BK113.out 0).trans rfl, (blk_cell BK113.out 1).trans rfl, (blk_cell BK114.out 0).trans rfl, (blk_cell BK114.out 1).trans rfl⟩ (fun hHeld => ?_); refine with_tabW spec_RangeJoin.tab7 spec_RangeJoin.bits7 (fun HT_ HW_ => ?_)
      generalize w52.drew = w53 at BK113 BK114 BK115 HB hHeld ⊢
      refine pure_ (i := 0) (N := some 22) (v := ?_) (a' := ?_) #[true, false, false, false, false, false, false, false, false, false, false, false] rfl rfl (any_of HT_.out (by kernel_rfl)) (fun _ _ _ h => h) (Or.inl ⟨by rfl, ?_⟩) ?_ ?_
      rotate_left
      ·intro w'
       go_simp
       with_reducible rfl
      rotate_left
      ·exact pz
      refine pure_ (i := 2) (N := some 24) (v := ?_) (a' := ?_) #[true, false, true, false, false, false, false, false, false, false, false, false] rfl rfl (any_of HT_.out (by kernel_rfl)) (fun _ _ _ h => h) (Or.inl ⟨by rfl, ?_⟩) ?_ ?_
      rotate_left
      ·intro w'
       go_simp
       with_reducible rfl
      rotate_left
      ·exact pz
      refine pure_ (i := 5) (N := some 27) (v := ?_) (a' := ?_) #[true, false, true, false, false, true, false, false, false, false, false, false] rfl rfl (any_of HT_.out (by kernel_rfl)) (fun _ _ _ h => h) (Or.inl ⟨by rfl, ?_⟩) ?_ ?_
      rotate_left
      ·intro w'
       go_simp
       with_reducible rfl
      rotate_left
      ·exact pz
      refine pure_ (i := 7) (N := some 29) (v := ?_) (a' := ?_) #[true, false, true, false, false, true, false, true, false, false, false, false] rfl rfl (any_of HT_.out (by kernel_rfl)) (fun _ _ _ h => h) (Or.inl ⟨by rfl, ?_⟩) ?_ ?_
      rotate_left
      ·intro w'
       go_simp
       with_reducible rfl
      rotate_left
      ·exact pz
      refine take_ (i := 1) (N := some 23) (v := ?_) (a' := ?_) #[true, true, true, false, false, true, false, true, false, false, false, false] rfl rfl (take_ofW HT_.out HW_.out (by kernel_rfl)) (fun _ _ _ h => h) (Or.inl ⟨by rfl, ?_⟩) hHeld ?_ ?_
      rotate_left
      ·rintro w' ⟨s0, s1, s2, s3⟩
       go_simp
       with_reducible rfl
      rotate_left
      ·exact pz
      refine take_ (i := 3) (N := some 25) (v := ?_) (a' := ?_) #[true, true, true, true, false, true, false, true, false, false, false, false] rfl rfl (take_ofW HT_.out HW_.out (by kernel_rfl)) (fun _ _ _ h => h) (Or.inl ⟨by rfl, ?_⟩) hHeld ?_ ?_
      rotate_left
      ·rintro w' ⟨s0, s1, s2, s3⟩
       go_simp
       with_reducible rfl
      rotate_left
      ·exact pz
      refine take_ (i := 6) (N := some 28) (v := ?_) (a' := ?_) #[true, true, true, true, false, true, true, true, false, false, false, false] rfl rfl (take_ofW HT_.out HW_.out (by kernel_rfl)) (fun _ _ _ h => h) (Or.inl ⟨by rfl, ?_⟩) hHeld ?_ ?_
      rotate_left
      ·rintro w' ⟨s0, s1, s2, s3⟩
       go_simp
       with_reducible rfl
      rotate_left
      ·exact pz
      refine take_ (i := 8) (N := some 30) (v := ?_) (a' := ?_) #[true, true, true, true, false, true, true, true, true, false, false, false] rfl rfl (take_ofW HT_.out HW_.out (by kernel_rfl)) (fun _ _ _ h => h) (Or.inl ⟨by rfl, ?_⟩) hHeld ?_ ?_
      rotate_left
      ·rintro w' ⟨s0, s1, s2, s3⟩
       go_simp
       with_reducible rfl
      rotate_left
      ·exact pz
      refine one_ (i := 4) (N := some 26) #[true, true, true, true, true, true, true, true, true, false, false, false] rfl rfl (one_of HT_.out (by kernel_rfl)) (by decide) (fun K hK => ?_)
      refine goes_ Try.func49 (by kernel_rfl) rfl #[.int .i64 a0_0, .int .i64 a1_0] (by rfl) rfl rfl mz ?_
      with_reducible refine (spec_l8Min.calls a0_0 a1_0 t124 _ A47.out).mono ?_
      rintro e w' ⟨rfl, ⟨nd, rfl⟩⟩
      refine ⟨_, rfl, ?_⟩
      refine hK.out _ _ ⟨(blk_cell BK113.out 0).trans rfl, (blk_cell BK113.out 1).trans rfl, (blk_cell BK114.out 0).trans rfl, (blk_cell BK114.out 1).trans rfl⟩ (fun hHeld => ?_)
      clear hK K
      refine norm_ (a' := ?_) ?_ ?_
      rotate_left
      ·show Act.put _ (some 26) _ = _
       simp only [Act.put, List.setIfInBounds_toArray, List.set_cons_zero, List.set_cons_succ, i64_w, i32_w]
       rfl
      refine one_ (i := 9) (N := some 31) #[true, true, true, true, true, true, true, true, true, true, false, false] rfl rfl (one_of HT_.out (by kernel_rfl)) (by decide) (fun K hK => ?_)
      refine goes_ Try.func50 (by kernel_rfl) rfl #[.int .i64 a0_1, .int .i64 a1_1] (by rfl) rfl rfl mz ?_
      with_reducible refine (spec_l8Max.calls a0_1 a1_1 t125 _ A48.out).mono ?_
      rintro e w' ⟨rfl, ⟨nd, rfl⟩⟩
      refine ⟨_, rfl, ?_⟩
      refine hK.out _ _ ⟨(blk_cell BK113.out 0).trans rfl, (blk_cell BK113.out 1).trans rfl, (blk_cell BK114.out 0).trans rfl, (blk_cell BK114.out 1).trans rfl⟩ (fun hHeld => ?_)
      clear hK K
      refine norm_ (a' := ?_) ?_ ?_
      rotate_left
      ·show Act.put _ (some 31) _ = _
       simp only [Act.put, List.setIfInBounds_toArray, List.set_cons_zero, List.set_cons_succ, i64_w, i32_w]
       rfl
      refine pure_ (i := 10) (N := some 32) (v := ?_) (a' := ?_) #[true, true, true, true, true, true, true, true, true, true, true, false] rfl rfl (any_of HT_.out (by kernel_rfl)) (fun _ _ _ h => h) (Or.inl ⟨by rfl, ?_⟩) ?_ ?_
      rotate_left
      ·intro w'
       go_simp
       with_reducible rfl
      rotate_left
      ·exact pz
      refine one_ (i := 11) (N := none) #[true, true, true, true, true, true, true, true, true, true, true, true] rfl rfl (one_of HT_.out (by kernel_rfl)) (by decide) (fun K hK => ?_)
      have hs54 : w53.cell? ⟨gb115, 0, none⟩ = some (.int .i64 0) := (blk_cell BK115.out 0).trans rfl
      have hfs54 := blk_frozen BK115.out 0
      have hns54_0 := NB113_115.out
      have hns54_1 := NB114_115.out
      have hms54_0 := NB115_113.out
      have hms54_1 := NB115_114.out
      have hs55 : w53.cell? ⟨gb115, 1, none⟩ = some (.int .i64 0) := (blk_cell BK115.out 1).trans rfl
      have hfs55 := blk_frozen BK115.out 1
      have hns55_0 := NB113_115.out
      have hns55_1 := NB114_115.out
      have hms55_0 := NB115_113.out
      have hms55_1 := NB115_114.out
      refine skip_ (w1 := ?_) (by rfl) rfl ?_ ?_
      rotate_left
      ·go_simp
       rfl
      refine hK.out _ _ ⟨((cell_far (p := ⟨gb115, _, none⟩) NB113_115.out _).trans (((cell_far (p := ⟨gb115, _, none⟩) NB113_115.out _).trans (hHeld.1)))), ((cell_far (p := ⟨gb115, _, none⟩) NB113_115.out _).trans (((cell_far (p := ⟨gb115, _, none⟩) NB113_115.out _).trans (hHeld.2.1)))), ((cell_far (p := ⟨gb115, _, none⟩) NB114_115.out _).trans (((cell_far (p := ⟨gb115, _, none⟩) NB114_115.out _).trans (hHeld.2.2.1)))), ((cell_far (p := ⟨gb115, _, none⟩) NB114_115.out _).trans (((cell_far (p := ⟨gb115, _, none⟩) NB114_115.out _).trans (hHeld.2.2.2))))⟩ (fun hHeld => ?_)
      clear hK K
      refine done_ (done_of HT_.out (by kernel_rfl)) ?_
      try go_wp2
      refine bodyPost_ret (results_cell_row rfl _ _ gb115 24 #[.int .i64 t124, .int .i64 t125] (0, 0) _ rfl (by (with_reducible repeat (first | refine blk_drewN ?_ _ | refine blk_drew ?_ | refine blk_alloc ?_ _)); refine blk_put (cs := #[.int .i64 t124, .int .i64 0]) ?_ 1 _ rfl; (with_reducible repeat (first | refine blk_drewN ?_ _ | refine blk_drew ?_ | refine blk_alloc ?_ _)); refine blk_put (cs := #[.int .i64 0, .int .i64 0]) ?_ 0 _ rfl; (with_reducible repeat (first | refine blk_drewN ?_ _ | refine blk_drew ?_ | refine blk_alloc ?_ _)); exact BK115.out) Try.underlying24 rfl (by kernel_rfl)) rfl ?_
      exact ⟨by first | rfl | (simp [errW_none, errW_some] <;> rfl) | (simp [*, errW_none, errW_some] <;> rfl), hz3 HB.out GE113.out GE114.out GE115.out⟩

/-! ### spec_l8Down: function 56 -/
def spec_l8Down.l0 : Nat → List Int → Int → Int → Int → Option (Int)
 | 0, _, _, _, _ => none
 | k + 1, x0, x1, x5, x6 => if x6 < (x0.length : Int) then (if 0 ≤ x6 then (if (rd x0 x6) ≤ x1 then (if (rd x0 x6) > x5 then (spec_l8Down.l0 k x0 x1 (rd x0 x6) (wrap64 (x6 + 1))) else (spec_l8Down.l0 k x0 x1 x5 (wrap64 (x6 + 1)))) else (spec_l8Down.l0 k x0 x1 x5 (wrap64 (x6 + 1)))) else (none)) else (some x5)
def spec_l8Down.f (k : Nat) (l0 : List Int) (a1 : Int) : Option (Int) := spec_l8Down.l0 k l0 a1 (-2147483648) 0
theorem spec_l8Down.mono_l : ∀ k, (∀ y0 y1 y2 y3, LeO (spec_l8Down.l0 k y0 y1 y2 y3) (spec_l8Down.l0 (k + 1) y0 y1 y2 y3))
 | 0 => fun _ _ _ _ r h => by simp [spec_l8Down.l0] at h
 | k + 1 => by
  have ih0 := spec_l8Down.mono_l k
  ·intro y0 y1 y2 y3
   unfold spec_l8Down.l0
   repeat' first
   | (with_reducible exact ih0 _ _ _ _)
   | (with_reducible exact LeO.refl _)
   | (with_reducible exact LeO.none _)
   | (with_reducible refine LeO.ite ?_ ?_)
   | (with_reducible refine LeO.bind ?_ (fun _ => ?_))
   | exact ih0 _ _ _ _
   | exact LeO.none _
   | refine LeO.ite ?_ ?_
   | refine LeO.bind ?_ (fun _ => ?_)
theorem spec_l8Down.mono : ∀ a0 a1 k, LeO (spec_l8Down.f k a0 a1) (spec_l8Down.f (k + 1) a0 a1) := by
 intro a0 a1 k
 have ih0 := spec_l8Down.mono_l k
 unfold spec_l8Down.f
 repeat' first
   | (with_reducible exact ih0 _ _ _ _)
   | (with_reducible exact LeO.refl _)
   | (with_reducible exact LeO.none _)
   | (with_reducible refine LeO.ite ?_ ?_)
   | (with_reducible refine LeO.bind ?_ (fun _ => ?_))
   | exact ih0 _ _ _ _
   | exact LeO.none _
   | refine LeO.ite ?_ ?_
   | refine LeO.bind ?_ (fun _ => ?_)
set_option maxHeartbeats 8000000 in
set_option maxRecDepth 100000 in
theorem spec_l8Down.calls (k : Nat) (A0 : Option Addr) (c0 : Nat) (l0 : List Int) (a1 : Int) (r : Int) (w : World) (hr0 : Kd.C (Kd.int .i64) w A0 l0.length l0) (hc0 : l0.length ≤ c0) (h : spec_l8Down.f k l0 a1 = some r) :
  Calls Try.prog 56 #[.slice A0 l0.length c0, .int .i64 a1] w fun e w' => e = .returned (.int .i64 r) ∧ Drawn0 w w' := by
 have HR0 := Aside0.mk hr0
 have HC0 := Aside0.mk hc0
 clear hr0 hc0
 have H : (spec_l8Down.l0 k l0 a1 (-2147483648) 0) = some r := h
 clear h
 have H' := Aside0.mk H
 clear H
 go_enter Try.func56, Try.ntmps56
 go_wp2
 go_loopg [5, 6] k (fun kq v5 v6 w' => ∃ (x5_1 : Int) (x6_1 : Int), v5 = .int .i64 x5_1 ∧ v6 = .int .i64 x6_1 ∧ Aside0 (spec_l8Down.l0 kq l0 a1 x5_1 x6_1 = some r) ∧ Aside0 (kq ≤ k) ∧ Drawn0 w w')
 case atStart => exact ⟨((-2147483648)), (0), (by first | rfl | (simp; done) | (simp [*]; done)), (by first | rfl | (simp; done) | (simp [*]; done)), H', ⟨Nat.le_refl _⟩, by repeat (first | exact Drawn0.refl _ | apply Drawn0.step)⟩
 case round =>
  clear H'
  try clear p2
  obtain ⟨x5_1, x6_1, rfl, rfl, HA, HK1, ⟨m1, rfl⟩⟩ := hrel
  cases gk with
  | zero => exact absurd HA.out (by simp [spec_l8Down.l0])
  | succ k1 =>
   have H := HA.out
   clear HA
   simp only [spec_l8Down.l0] at H
   by_cases c3 : x6_1 < (l0.length : Int)
   ·rw [if_pos c3] at H
    have c3b0 : decide (x6_1 < (l0.length : Int)) = true := decide_eq_true c3
    clear c3
    by_cases c4 : 0 ≤ x6_1
    ·rw [if_pos c4] at H
     have c4b0 : decide (0 ≤ x6_1) = true := decide_eq_true c4
     clear c4
     by_cases c5 : (rd l0 x6_1) ≤ a1
     ·rw [if_pos c5] at H
      have c5b0 : decide ((rd l0 x6_1) ≤ a1) = true := decide_eq_true c5
      clear c5
      by_cases c6 : (rd l0 x6_1) > x5_1
      ·rw [if_pos c6] at H
       have c6b0 : decide (x5_1 < (rd l0 x6_1)) = true := decide_eq_true c6
       clear c6
       have H' := Aside0.mk H
       clear H
       have p126 : 0 ≤ (x6_1 : Int) := oz
       have q126 : x6_1 < (l0.length : Int) := oz
       obtain ⟨ad126, e126, hx126_0⟩ := Kd.at_int HR0.out x6_1 p126 q126
       cases e126
       replace p126 := eq_true p126
       replace q126 := eq_true q126
       have p127 : 0 ≤ (x6_1 : Int) := oz
       have q127 : x6_1 < (l0.length : Int) := oz
       obtain ⟨ad127, e127, hx127_0⟩ := Kd.at_int HR0.out x6_1 p127 q127
       obtain rfl : ad126 = ad127 := (by injection e127)
       replace p127 := eq_true p127
       replace q127 := eq_true q127
       have p128 : 0 ≤ (x6_1 : Int) := oz
       have q128 : x6_1 < (l0.length : Int) := oz
       obtain ⟨ad128, e128, hx128_0⟩ := Kd.at_int HR0.out x6_1 p128 q128
       obtain rfl : ad126 = ad128 := (by injection e128)
       replace p128 := eq_true p128
       replace q128 := eq_true q128
       go_wp2
       go_roundg k1
       case measure => have := HK1.out; omega
       case rel => exact ⟨(rd l0 x6_1), (wrap64 (x6_1 + 1)), (by first | rfl | (simp; done) | (simp [*]; done)), (by first | rfl | (simp; done) | (simp [*]; done)), H', ⟨by have := HK1.out; omega⟩, by repeat (first | exact Drawn0.refl _ | apply Drawn0.step)⟩
      ·rw [if_neg c6] at H
       have c6b0 : decide (x5_1 < (rd l0 x6_1)) = false := decide_eq_false c6
       clear c6
       have H' := Aside0.mk H
       clear H
       have p126 : 0 ≤ (x6_1 : Int) := oz
       have q126 : x6_1 < (l0.length : Int) := oz
       obtain ⟨ad126, e126, hx126_0⟩ := Kd.at_int HR0.out x6_1 p126 q126
       cases e126
       replace p126 := eq_true p126
       replace q126 := eq_true q126
       have p127 : 0 ≤ (x6_1 : Int) := oz
       have q127 : x6_1 < (l0.length : Int) := oz
       obtain ⟨ad127, e127, hx127_0⟩ := Kd.at_int HR0.out x6_1 p127 q127
       obtain rfl : ad126 = ad127 := (by injection e127)
       replace p127 := eq_true p127
       replace q127 := eq_true q127
       go_wp2
       go_roundg k1
       case measure => have := HK1.out; omega
       case rel => exact ⟨(x5_1), (wrap64 (x6_1 + 1)), (by first | rfl | (simp; done) | (simp [*]; done)), (by first | rfl | (simp; done) | (simp [*]; done)), H', ⟨by have := HK1.out; omega⟩, by repeat (first | exact Drawn0.refl _ | apply Drawn0.step)⟩
     ·rw [if_neg c5] at H
      have c5b0 : decide ((rd l0 x6_1) ≤ a1) = false := decide_eq_false c5
      clear c5
      have H' := Aside0.mk H
      clear H
      have p126 : 0 ≤ (x6_1 : Int) := oz
      have q126 : x6_1 < (l0.length : Int) := oz
      obtain ⟨ad126, e126, hx126_0⟩ := Kd.at_int HR0.out x6_1 p126 q126
      cases e126
      replace p126 := eq_true p126
      replace q126 := eq_true q126
      go_wp2
      go_roundg k1
      case measure => have := HK1.out; omega
      case rel => exact ⟨(x5_1), (wrap64 (x6_1 + 1)), (by first | rfl | (simp; done) | (simp [*]; done)), (by first | rfl | (simp; done) | (simp [*]; done)), H', ⟨by have := HK1.out; omega⟩, by repeat (first | exact Drawn0.refl _ | apply Drawn0.step)⟩
    ·rw [if_neg c4] at H
     exact absurd H (by simp)
   ·rw [if_neg c3] at H
    have c3b0 : decide (x6_1 < (l0.length : Int)) = false := decide_eq_false c3
    clear c3
    obtain rfl := Option.some.inj H
    go_wp2
    go_ret
    exact ⟨by first | rfl | (simp; done) | (simp [*]; done), by repeat (first | exact Drawn0.refl _ | apply Drawn0.step)⟩

end Go.Proofs.Ytlipfemjlicbbaa.PFnExactRangeWiden
