/- Written by this session's own driver (wip/dprint.py): the functions that the law FnExactValMeet reaches, as Lean functions, each with its contract. -/
import Derived.Test.YtnmccgjdnceheaaPFnExactValMeetx0
import Derived.Test.YtnmccgjdnceheaaPFnExactValMeetx12
import Derived.Test.YtnmccgjdnceheaaPFnExactValMeetx13
import Derived.Test.YtnmccgjdnceheaaSv
namespace Go.Proofs.Ytnmccgjdnceheaa.PFnExactValMeet
open Go.RowKit Go.Proofs.YtnmccgjdnceheaaV.PrintWords Go.Proofs.YtnmccgjdnceheaaV.PrintLast Go.Proofs.YtnmccgjdnceheaaV.PrintMore Go.Proofs.YtnmccgjdnceheaaSv
attribute [local go_sem] max2_int min2_int max_two min_two max_three min_three max_four min_four   -- for this text's walks alone
set_option linter.unusedVariables false
set_option linter.unusedSimpArgs false

/-! ### impl_rangeFrom: function 137 -/
def impl_rangeFrom.f (a0 : Int) (a1 : Int) : Option (Int × Int) := if (mx a0 (-2147483648)) > (mn a1 2147483647) then ((impl_rangeNone.f).bind fun bt329 => (some (bt329.1, bt329.2))) else (some (mx a0 (-2147483648), mn a1 2147483647))
set_option maxHeartbeats 8000000 in
set_option maxRecDepth 100000 in
theorem impl_rangeFrom.calls (a0 : Int) (a1 : Int) (r1 : Int) (r2 : Int) (w : World) (h : impl_rangeFrom.f a0 a1 = some (r1, r2)) :
  Calls Try.prog 137 #[.int .i64 a0, .int .i64 a1] w fun e w' => e = .returned (.agg #[.int .i64 r1, .int .i64 r2]) ∧ Below w.heap.size w w' := by
 have hu86 := Try.underlying86
 have HB := Aside0.mk (Below.refl w.heap.size w)
 have H : (if (mx a0 (-2147483648)) > (mn a1 2147483647) then ((impl_rangeNone.f).bind fun bt329 => (some (bt329.1, bt329.2))) else (some (mx a0 (-2147483648), mn a1 2147483647))) = some (r1, r2) := h
 clear h
 obtain ⟨ji3, hji3⟩ : ∃ j_ : Int, (mx a0 (-2147483648)) = j_ := ⟨_, rfl⟩
 replace H : (if (ji3) > (mn a1 2147483647) then ((impl_rangeNone.f).bind fun bt329 => (some (bt329.1, bt329.2))) else (some (ji3, mn a1 2147483647))) = some (r1, r2) := by first | (rw [hji3] at H; exact H) | (simp only [hji3] at H ⊢; exact H)
 have hji3_ : (if a0 < (-2147483648) then (-2147483648) else a0) = ji3 := hji3
 obtain ⟨ji4, hji4⟩ : ∃ j_ : Int, (mn a1 2147483647) = j_ := ⟨_, rfl⟩
 replace H : (if (ji3) > (ji4) then ((impl_rangeNone.f).bind fun bt329 => (some (bt329.1, bt329.2))) else (some (ji3, ji4))) = some (r1, r2) := by first | (rw [hji4] at H; exact H) | (simp only [hji4] at H ⊢; exact H)
 (try (have hji4h : ji4 ≤ 2147483647 := by (rw [← hji4]; unfold mn; (repeat' split) <;> omega)))
 (try (have hji4g : ji4 ≤ 64 := by omega))
 have hji4_ : (if 2147483647 < a1 then 2147483647 else a1) = ji4 := hji4
 by_cases c5 : (ji3) > (ji4)
 ·rw [if_pos c5] at H
  have c5b0 : decide ((ji4) < (ji3)) = true := decide_eq_true c5
  clear c5
  replace H := Option.bind_eq_some_iff.mp H
  obtain ⟨⟨t329, t330⟩, A60, H⟩ := H
  replace H : (some (t329, t330)) = some (r1, r2) := H
  have A6 := Aside0.mk A60
  clear A60
  simp only [Option.some.injEq, Prod.mk.injEq] at H
  obtain ⟨rfl, rfl⟩ := H
  go_enter Try.func137, Try.ntmps137
  go_wp2_with (first | ((with_reducible refine gate_dst (N := 4) rfl ?_); refine box_event ?hg (N := 4) ?hd (cs := #[.int .i64 0, .int .i64 0]) (t := 86) ?hr ?_; (case hd => rfl); (case hg => rfl); (case hr => first | (go_simp; done) | (go_simp; rfl)); intro gb327 hg w7 hbox hb; have n0_ := Aside0.mk (below_step (hz HB.out) hb); have n1_ := Aside0.mk (hbox); have n2_ := Aside0.mk ((by rw [hg]; exact (below_size (hz HB.out)) : w.heap.size ≤ gb327)); have n3_ := Aside0.mk ((by rw [hg]; exact (below_size (hz HB.out)) : w.heap.size ≤ gb327)); clear HB; have HB := n0_; have BK327 := n1_; have GW327 := n2_; have GE327 := n3_; clear n0_ n1_ n2_ n3_; clear hb hbox hg) | ((with_reducible refine gate_dst (N := 5) rfl ?_); refine box_event ?hg (N := 5) ?hd (cs := #[.int .i64 0, .int .i64 0]) (t := 86) ?hr ?_; (case hd => rfl); (case hg => rfl); (case hr => first | (go_simp; done) | (go_simp; rfl)); intro gb328 hg w8 hbox hb; have n0_ := Aside0.mk (blk_below (g := gb327) (o := b2 0 0 86) (bz BK327.out) hb); have n1_ := Aside0.mk (below_step (hz1 HB.out GE327.out) hb); have n2_ := Aside0.mk (hbox); have n3_ := Aside0.mk ((by rw [hg]; exact (below_size (hz1 HB.out GE327.out)) : w.heap.size ≤ gb328)); have n4_ := Aside0.mk ((by rw [hg]; exact (below_size (hz1 HB.out GE327.out)) : w.heap.size ≤ gb328)); have n5_ := Aside0.mk ((by rw [hg]; exact Nat.ne_of_lt (blk_lt (g := gb327) (o := b2 0 0 86) (bz BK327.out)) : gb327 ≠ gb328)); have n6_ := Aside0.mk ((by rw [hg]; exact Nat.ne_of_gt (blk_lt (g := gb327) (o := b2 0 0 86) (bz BK327.out)) : gb328 ≠ gb327)); clear BK327; clear HB; have BK327 := n0_; have HB := n1_; have BK328 := n2_; have GW328 := n3_; have GE328 := n4_; have NB327_328 := n5_; have NB328_327 := n6_; clear n0_ n1_ n2_ n3_ n4_ n5_ n6_; clear hb hbox hg; have hnb9 := NB328_327.out; have hnc9 := NB327_328.out; have hcz10_0 : w8.cell? ⟨gb328, 0, none⟩ = some (.int .i64 0) := bc BK328 0; have hcz10_1 : w8.cell? ⟨gb328, 1, none⟩ = some (.int .i64 0) := bc BK328 1; have hfz10_0 := blk_frozen BK328.out 0; have hfz10_1 := blk_frozen BK328.out 1) | ((with_reducible refine gate_callee (f := 132) rfl ?_); refine goesL_ (some 16) rfl rfl Try.func132 (by kernel_rfl) rfl #[] rfl mz ?_; (with_reducible refine (impl_rangeNone.calls  t329 t330 _ A6.out).mono ?_); rintro e w11 ⟨rfl, hb⟩; refine ⟨_, rfl, ?_⟩; have n0_ := Aside0.mk (blk_below (g := gb327) (o := b2 0 0 86) (by (with_reducible repeat (first | refine blk_drewN ?_ _ | refine blk_drew ?_ | refine blk_alloc ?_ _)); refine blk_far ?_ NB327_328.out _; (with_reducible repeat (first | refine blk_drewN ?_ _ | refine blk_drew ?_ | refine blk_alloc ?_ _)); refine blk_far ?_ NB327_328.out _; (with_reducible repeat (first | refine blk_drewN ?_ _ | refine blk_drew ?_ | refine blk_alloc ?_ _)); exact BK327.out) hb); have n1_ := Aside0.mk (blk_below (g := gb328) (o := b2 ji3 ji4 86) (by (with_reducible repeat (first | refine blk_drewN ?_ _ | refine blk_drew ?_ | refine blk_alloc ?_ _)); refine blk_put (cs := #[.int .i64 ji3, .int .i64 0]) ?_ 1 _ rfl; (with_reducible repeat (first | refine blk_drewN ?_ _ | refine blk_drew ?_ | refine blk_alloc ?_ _)); refine blk_put (cs := #[.int .i64 0, .int .i64 0]) ?_ 0 _ rfl; (with_reducible repeat (first | refine blk_drewN ?_ _ | refine blk_drew ?_ | refine blk_alloc ?_ _)); exact BK328.out) hb); have n2_ := Aside0.mk (below_step (hz2 HB.out GE327.out GE328.out) hb); clear BK327; clear BK328; clear HB; have BK327 := n0_; have BK328 := n1_; have HB := n2_; clear n0_ n1_ n2_; (try clear hb); (try clear hb2); (try clear hk); (try clear hi); have hcz12_0 : w11.cell? ⟨gb327, 0, none⟩ = some (.int .i64 0) := bc BK327 0; have hcz12_1 : w11.cell? ⟨gb327, 1, none⟩ = some (.int .i64 0) := bc BK327 1; have hfz12_0 := blk_frozen BK327.out 0; have hfz12_1 := blk_frozen BK327.out 1))
  refine bodyPost_ret (results_cell_row rfl _ _ gb327 86 #[.int .i64 t329, .int .i64 t330] (0, 0) _ rfl (by (with_reducible repeat (first | refine blk_drewN ?_ _ | refine blk_drew ?_ | refine blk_alloc ?_ _)); refine blk_put (cs := #[.int .i64 t329, .int .i64 0]) ?_ 1 _ rfl; (with_reducible repeat (first | refine blk_drewN ?_ _ | refine blk_drew ?_ | refine blk_alloc ?_ _)); refine blk_put (cs := #[.int .i64 0, .int .i64 0]) ?_ 0 _ rfl; (with_reducible repeat (first | refine blk_drewN ?_ _ | refine blk_drew ?_ | refine blk_alloc ?_ _)); exact BK327.out) Try.underlying86 rfl (by kernel_rfl)) rfl ?_
  exact ⟨by first | rfl | (simp [errW_none, errW_some] <;> rfl) | (simp only [← hji3, ← hji4]; first | rfl | (simp [errW_none, errW_some] <;> rfl)) | (simp [*, errW_none, errW_some] <;> rfl), hz2 HB.out GE327.out GE328.out⟩
 ·rw [if_neg c5] at H
  have c5b0 : decide ((ji4) < (ji3)) = false := decide_eq_false c5
  clear c5
  simp only [Option.some.injEq, Prod.mk.injEq] at H
  obtain ⟨rfl, rfl⟩ := H
  go_enter Try.func137, Try.ntmps137
  go_wp2_with (first | ((with_reducible refine gate_dst (N := 4) rfl ?_); refine box_event ?hg (N := 4) ?hd (cs := #[.int .i64 0, .int .i64 0]) (t := 86) ?hr ?_; (case hd => rfl); (case hg => rfl); (case hr => first | (go_simp; done) | (go_simp; rfl)); intro gb327 hg w13 hbox hb; have n0_ := Aside0.mk (below_step (hz HB.out) hb); have n1_ := Aside0.mk (hbox); have n2_ := Aside0.mk ((by rw [hg]; exact (below_size (hz HB.out)) : w.heap.size ≤ gb327)); have n3_ := Aside0.mk ((by rw [hg]; exact (below_size (hz HB.out)) : w.heap.size ≤ gb327)); clear HB; have HB := n0_; have BK327 := n1_; have GW327 := n2_; have GE327 := n3_; clear n0_ n1_ n2_ n3_; clear hb hbox hg) | ((with_reducible refine gate_dst (N := 5) rfl ?_); refine box_event ?hg (N := 5) ?hd (cs := #[.int .i64 0, .int .i64 0]) (t := 86) ?hr ?_; (case hd => rfl); (case hg => rfl); (case hr => first | (go_simp; done) | (go_simp; rfl)); intro gb328 hg w14 hbox hb; have n0_ := Aside0.mk (blk_below (g := gb327) (o := b2 0 0 86) (bz BK327.out) hb); have n1_ := Aside0.mk (below_step (hz1 HB.out GE327.out) hb); have n2_ := Aside0.mk (hbox); have n3_ := Aside0.mk ((by rw [hg]; exact (below_size (hz1 HB.out GE327.out)) : w.heap.size ≤ gb328)); have n4_ := Aside0.mk ((by rw [hg]; exact (below_size (hz1 HB.out GE327.out)) : w.heap.size ≤ gb328)); have n5_ := Aside0.mk ((by rw [hg]; exact Nat.ne_of_lt (blk_lt (g := gb327) (o := b2 0 0 86) (bz BK327.out)) : gb327 ≠ gb328)); have n6_ := Aside0.mk ((by rw [hg]; exact Nat.ne_of_gt (blk_lt (g := gb327) (o := b2 0 0 86) (bz BK327.out)) : gb328 ≠ gb327)); clear BK327; clear HB; have BK327 := n0_; have HB := n1_; have BK328 := n2_; have GW328 := n3_; have GE328 := n4_; have NB327_328 := n5_; have NB328_327 := n6_; clear n0_ n1_ n2_ n3_ n4_ n5_ n6_; clear hb hbox hg; have hnb15 := NB328_327.out; have hnc15 := NB327_328.out; have hcz16_0 : w14.cell? ⟨gb328, 0, none⟩ = some (.int .i64 0) := bc BK328 0; have hcz16_1 : w14.cell? ⟨gb328, 1, none⟩ = some (.int .i64 0) := bc BK328 1; have hfz16_0 := blk_frozen BK328.out 0; have hfz16_1 := blk_frozen BK328.out 1; have hcz17_0 : w14.cell? ⟨gb327, 0, none⟩ = some (.int .i64 0) := bc BK327 0; have hcz17_1 : w14.cell? ⟨gb327, 1, none⟩ = some (.int .i64 0) := bc BK327 1; have hfz17_0 := blk_frozen BK327.out 0; have hfz17_1 := blk_frozen BK327.out 1))
  refine bodyPost_ret (results_cell_row rfl _ _ gb327 86 #[.int .i64 ji3, .int .i64 ji4] (0, 0) _ rfl (by (with_reducible repeat (first | refine blk_drewN ?_ _ | refine blk_drew ?_ | refine blk_alloc ?_ _)); refine blk_put (cs := #[.int .i64 ji3, .int .i64 0]) ?_ 1 _ rfl; (with_reducible repeat (first | refine blk_drewN ?_ _ | refine blk_drew ?_ | refine blk_alloc ?_ _)); refine blk_put (cs := #[.int .i64 0, .int .i64 0]) ?_ 0 _ rfl; (with_reducible repeat (first | refine blk_drewN ?_ _ | refine blk_drew ?_ | refine blk_alloc ?_ _)); refine blk_far ?_ NB327_328.out _; (with_reducible repeat (first | refine blk_drewN ?_ _ | refine blk_drew ?_ | refine blk_alloc ?_ _)); refine blk_far ?_ NB327_328.out _; (with_reducible repeat (first | refine blk_drewN ?_ _ | refine blk_drew ?_ | refine blk_alloc ?_ _)); exact BK327.out) Try.underlying86 rfl (by kernel_rfl)) rfl ?_
  exact ⟨by first | rfl | (simp [errW_none, errW_some] <;> rfl) | (simp only [← hji3, ← hji4]; first | rfl | (simp [errW_none, errW_some] <;> rfl)) | (simp [*, errW_none, errW_some] <;> rfl), hz2 HB.out GE327.out GE328.out⟩

/-! ### impl_RangeMeet: function 83 -/
def impl_RangeMeet.j0 : Nat → Bool → Int → Int → Int → Int → Option (Int × Int)
 | 0, _, _, _, _, _ => none
 | k + 1, x20, x332000, x332001, x333000, x333001 => if x20 = true then ((impl_rangeNone.f).bind fun bt338 => (some (bt338.1, bt338.2))) else ((impl_rangeFrom.f (mx x332000 x333000) (mn x332001 x333001)).bind fun bt340 => (some (bt340.1, bt340.2)))
def impl_RangeMeet.f (k : Nat) (a0_0 : Int) (a0_1 : Int) (a1_0 : Int) (a1_1 : Int) : Option (Int × Int) := (impl_RangeOk.f a0_0 a0_1).bind fun t334 => (if t334 = true then ((impl_RangeOk.f a1_0 a1_1).bind fun t335 => (if t335 = true then ((impl_Range_empty.f a0_0 a0_1).bind fun t336 => (if t336 = true then (impl_RangeMeet.j0 k true a0_0 a0_1 a1_0 a1_1) else ((impl_Range_empty.f a1_0 a1_1).bind fun t337 => (impl_RangeMeet.j0 k t337 a0_0 a0_1 a1_0 a1_1)))) else (impl_RangeMeet.j0 k true a0_0 a0_1 a1_0 a1_1))) else (impl_RangeMeet.j0 k true a0_0 a0_1 a1_0 a1_1))
theorem impl_RangeMeet.mono_l : ∀ k, (∀ y0 y1 y2 y3 y4, LeO (impl_RangeMeet.j0 k y0 y1 y2 y3 y4) (impl_RangeMeet.j0 (k + 1) y0 y1 y2 y3 y4))
 | 0 => fun _ _ _ _ _ r h => by simp [impl_RangeMeet.j0] at h
 | k + 1 => by
  have ih0 := impl_RangeMeet.mono_l k
  ·intro y0 y1 y2 y3 y4
   unfold impl_RangeMeet.j0
   repeat' first
   | (with_reducible exact ih0 _ _ _ _ _)
   | (with_reducible exact LeO.refl _)
   | (with_reducible exact LeO.none _)
   | (with_reducible refine LeO.ite ?_ ?_)
   | (with_reducible refine LeO.bind ?_ (fun _ => ?_))
   | exact ih0 _ _ _ _ _
   | exact LeO.none _
   | refine LeO.ite ?_ ?_
   | refine LeO.bind ?_ (fun _ => ?_)
theorem impl_RangeMeet.mono : ∀ a0 a1 a2 a3 k, LeO (impl_RangeMeet.f k a0 a1 a2 a3) (impl_RangeMeet.f (k + 1) a0 a1 a2 a3) := by
 intro a0 a1 a2 a3 k
 have ih0 := impl_RangeMeet.mono_l k
 unfold impl_RangeMeet.f
 repeat' first
   | (with_reducible exact ih0 _ _ _ _ _)
   | (with_reducible exact LeO.refl _)
   | (with_reducible exact LeO.none _)
   | (with_reducible refine LeO.ite ?_ ?_)
   | (with_reducible refine LeO.bind ?_ (fun _ => ?_))
   | exact ih0 _ _ _ _ _
   | exact LeO.none _
   | refine LeO.ite ?_ ?_
   | refine LeO.bind ?_ (fun _ => ?_)
set_option maxHeartbeats 8000000 in
set_option maxRecDepth 100000 in
theorem impl_RangeMeet.calls (k : Nat) (a0_0 : Int) (a0_1 : Int) (a1_0 : Int) (a1_1 : Int) (r1 : Int) (r2 : Int) (w : World) (h : impl_RangeMeet.f k a0_0 a0_1 a1_0 a1_1 = some (r1, r2)) :
  Calls Try.prog 83 #[.agg #[.int .i64 a0_0, .int .i64 a0_1], .agg #[.int .i64 a1_0, .int .i64 a1_1]] w fun e w' => e = .returned (.agg #[.int .i64 r1, .int .i64 r2]) ∧ Below w.heap.size w w' := by
 have hu86 := Try.underlying86
 have HB := Aside0.mk (Below.refl w.heap.size w)
 have H : ((impl_RangeOk.f a0_0 a0_1).bind fun t334 => (if t334 = true then ((impl_RangeOk.f a1_0 a1_1).bind fun t335 => (if t335 = true then ((impl_Range_empty.f a0_0 a0_1).bind fun t336 => (if t336 = true then (impl_RangeMeet.j0 k true a0_0 a0_1 a1_0 a1_1) else ((impl_Range_empty.f a1_0 a1_1).bind fun t337 => (impl_RangeMeet.j0 k t337 a0_0 a0_1 a1_0 a1_1)))) else (impl_RangeMeet.j0 k true a0_0 a0_1 a1_0 a1_1))) else (impl_RangeMeet.j0 k true a0_0 a0_1 a1_0 a1_1))) = some (r1, r2) := h
 clear h
 have HC3 := Aside0.mk H
 clear H
 go_enter Try.func83, Try.ntmps83
 go_upto_region 1 with (first | ((with_reducible refine gate_dst (N := 2) rfl ?_); refine box_event ?hg (N := 2) ?hd (cs := #[.int .i64 a0_0, .int .i64 a0_1]) (t := 86) ?hr ?_; (case hd => rfl); (case hg => rfl); (case hr => first | (go_simp; done) | (go_simp; rfl)); intro gb331 hg w4 hbox hb; have n0_ := Aside0.mk (below_step (hz HB.out) hb); have n1_ := Aside0.mk (hbox); have n2_ := Aside0.mk ((by rw [hg]; exact (below_size (hz HB.out)) : w.heap.size ≤ gb331)); have n3_ := Aside0.mk ((by rw [hg]; exact (below_size (hz HB.out)) : w.heap.size ≤ gb331)); clear HB; have HB := n0_; have BK331 := n1_; have GW331 := n2_; have GE331 := n3_; clear n0_ n1_ n2_ n3_; clear hb hbox hg) | ((with_reducible refine gate_dst (N := 3) rfl ?_); refine box_event ?hg (N := 3) ?hd (cs := #[.int .i64 a1_0, .int .i64 a1_1]) (t := 86) ?hr ?_; (case hd => rfl); (case hg => rfl); (case hr => first | (go_simp; done) | (go_simp; rfl)); intro gb332 hg w5 hbox hb; have n0_ := Aside0.mk (blk_below (g := gb331) (o := b2 a0_0 a0_1 86) (bz BK331.out) hb); have n1_ := Aside0.mk (below_step (hz1 HB.out GE331.out) hb); have n2_ := Aside0.mk (hbox); have n3_ := Aside0.mk ((by rw [hg]; exact (below_size (hz1 HB.out GE331.out)) : w.heap.size ≤ gb332)); have n4_ := Aside0.mk ((by rw [hg]; exact (below_size (hz1 HB.out GE331.out)) : w.heap.size ≤ gb332)); have n5_ := Aside0.mk ((by rw [hg]; exact Nat.ne_of_lt (blk_lt (g := gb331) (o := b2 a0_0 a0_1 86) (bz BK331.out)) : gb331 ≠ gb332)); have n6_ := Aside0.mk ((by rw [hg]; exact Nat.ne_of_gt (blk_lt (g := gb331) (o := b2 a0_0 a0_1 86) (bz BK331.out)) : gb332 ≠ gb331)); clear BK331; clear HB; have BK331 := n0_; have HB := n1_; have BK332 := n2_; have GW332 := n3_; have GE332 := n4_; have NB331_332 := n5_; have NB332_331 := n6_; clear n0_ n1_ n2_ n3_ n4_ n5_ n6_; clear hb hbox hg) | ((with_reducible refine gate_dst (N := 4) rfl ?_); refine box_event ?hg (N := 4) ?hd (cs := #[.int .i64 0, .int .i64 0]) (t := 86) ?hr ?_; (case hd => rfl); (case hg => rfl); (case hr => first | (go_simp; done) | (go_simp; rfl)); intro gb333 hg w6 hbox hb; have n0_ := Aside0.mk (blk_below (g := gb331) (o := b2 a0_0 a0_1 86) (bz BK331.out) hb); have n1_ := Aside0.mk (blk_below (g := gb332) (o := b2 a1_0 a1_1 86) (bz BK332.out) hb); have n2_ := Aside0.mk (below_step (hz2 HB.out GE331.out GE332.out) hb); have n3_ := Aside0.mk (hbox); have n4_ := Aside0.mk ((by rw [hg]; exact (below_size (hz2 HB.out GE331.out GE332.out)) : w.heap.size ≤ gb333)); have n5_ := Aside0.mk ((by rw [hg]; exact (below_size (hz2 HB.out GE331.out GE332.out)) : w.heap.size ≤ gb333)); have n6_ := Aside0.mk ((by rw [hg]; exact Nat.ne_of_lt (blk_lt (g := gb331) (o := b2 a0_0 a0_1 86) (bz BK331.out)) : gb331 ≠ gb333)); have n7_ := Aside0.mk ((by rw [hg]; exact Nat.ne_of_gt (blk_lt (g := gb331) (o := b2 a0_0 a0_1 86) (bz BK331.out)) : gb333 ≠ gb331)); have n8_ := Aside0.mk ((by rw [hg]; exact Nat.ne_of_lt (blk_lt (g := gb332) (o := b2 a1_0 a1_1 86) (bz BK332.out)) : gb332 ≠ gb333)); have n9_ := Aside0.mk ((by rw [hg]; exact Nat.ne_of_gt (blk_lt (g := gb332) (o := b2 a1_0 a1_1 86) (bz BK332.out)) : gb333 ≠ gb332)); clear BK331; clear BK332; clear HB; have BK331 := n0_; have BK332 := n1_; have HB := n2_; have BK333 := n3_; have GW333 := n4_; have GE333 := n5_; have NB331_333 := n6_; have NB333_331 := n7_; have NB332_333 := n8_; have NB333_332 := n9_; clear n0_ n1_ n2_ n3_ n4_ n5_ n6_ n7_ n8_ n9_; clear hb hbox hg))
 (try simp only [Act.put, List.setIfInBounds_toArray, List.set_cons_zero, List.set_cons_succ])
 go_cut [20] (fun v20 wc => ∃ (kq : Nat) (x20_2 : Bool), v20 = .bool x20_2 ∧ Aside0 (impl_RangeMeet.j0 kq x20_2 a0_0 a0_1 a1_0 a1_1 = some (r1, r2)) ∧ Aside0 (kq ≤ k) ∧ Aside0 (wc.heap[gb331]? = some (.cells #[.int .i64 a0_0, .int .i64 a0_1] 86 (0, 0))) ∧ Aside0 (wc.heap[gb332]? = some (.cells #[.int .i64 a1_0, .int .i64 a1_1] 86 (0, 0))) ∧ Aside0 (wc.heap[gb333]? = some (.cells #[.int .i64 0, .int .i64 0] 86 (0, 0))) ∧ Aside0 (Below w.heap.size w wc))
 case first =>
  have H := HC3.out
  clear HC3
  replace H := Option.bind_eq_some_iff.mp H
  obtain ⟨t334, A70, H⟩ := H
  replace H : (if t334 = true then ((impl_RangeOk.f a1_0 a1_1).bind fun t335 => (if t335 = true then ((impl_Range_empty.f a0_0 a0_1).bind fun t336 => (if t336 = true then (impl_RangeMeet.j0 k true a0_0 a0_1 a1_0 a1_1) else ((impl_Range_empty.f a1_0 a1_1).bind fun t337 => (impl_RangeMeet.j0 k t337 a0_0 a0_1 a1_0 a1_1)))) else (impl_RangeMeet.j0 k true a0_0 a0_1 a1_0 a1_1))) else (impl_RangeMeet.j0 k true a0_0 a0_1 a1_0 a1_1)) = some (r1, r2) := H
  have A7 := Aside0.mk A70
  clear A70
  by_cases c8 : t334 = true
  ·subst c8
   have H1 : ((impl_RangeOk.f a1_0 a1_1).bind fun t335 => (if t335 = true then ((impl_Range_empty.f a0_0 a0_1).bind fun t336 => (if t336 = true then (impl_RangeMeet.j0 k true a0_0 a0_1 a1_0 a1_1) else ((impl_Range_empty.f a1_0 a1_1).bind fun t337 => (impl_RangeMeet.j0 k t337 a0_0 a0_1 a1_0 a1_1)))) else (impl_RangeMeet.j0 k true a0_0 a0_1 a1_0 a1_1))) = some (r1, r2) := by rw [if_pos rfl] at H; exact H
   clear H
   have H := H1
   clear H1
   replace H := Option.bind_eq_some_iff.mp H
   obtain ⟨t335, A90, H⟩ := H
   replace H : (if t335 = true then ((impl_Range_empty.f a0_0 a0_1).bind fun t336 => (if t336 = true then (impl_RangeMeet.j0 k true a0_0 a0_1 a1_0 a1_1) else ((impl_Range_empty.f a1_0 a1_1).bind fun t337 => (impl_RangeMeet.j0 k t337 a0_0 a0_1 a1_0 a1_1)))) else (impl_RangeMeet.j0 k true a0_0 a0_1 a1_0 a1_1)) = some (r1, r2) := H
   have A9 := Aside0.mk A90
   clear A90
   by_cases c10 : t335 = true
   ·subst c10
    have H1 : ((impl_Range_empty.f a0_0 a0_1).bind fun t336 => (if t336 = true then (impl_RangeMeet.j0 k true a0_0 a0_1 a1_0 a1_1) else ((impl_Range_empty.f a1_0 a1_1).bind fun t337 => (impl_RangeMeet.j0 k t337 a0_0 a0_1 a1_0 a1_1)))) = some (r1, r2) := by rw [if_pos rfl] at H; exact H
    clear H
    have H := H1
    clear H1
    replace H := Option.bind_eq_some_iff.mp H
    obtain ⟨t336, A110, H⟩ := H
    replace H : (if t336 = true then (impl_RangeMeet.j0 k true a0_0 a0_1 a1_0 a1_1) else ((impl_Range_empty.f a1_0 a1_1).bind fun t337 => (impl_RangeMeet.j0 k t337 a0_0 a0_1 a1_0 a1_1))) = some (r1, r2) := H
    have A11 := Aside0.mk A110
    clear A110
    by_cases c12 : t336 = true
    ·subst c12
     have H1 : (impl_RangeMeet.j0 k true a0_0 a0_1 a1_0 a1_1) = some (r1, r2) := by rw [if_pos rfl] at H; exact H
     clear H
     have H := H1
     clear H1
     have H' := Aside0.mk H
     clear H
     have hnb13 := NB331_332.out
     have hnc13 := NB332_331.out
     have hnb14 := NB331_333.out
     have hnc14 := NB333_331.out
     have hcz15_0 : w6.cell? ⟨gb331, 0, none⟩ = some (.int .i64 a0_0) := bc BK331 0
     have hcz15_1 : w6.cell? ⟨gb331, 1, none⟩ = some (.int .i64 a0_1) := bc BK331 1
     have hfz15_0 := blk_frozen BK331.out 0
     have hfz15_1 := blk_frozen BK331.out 1
     go_wp2_with (first | ((with_reducible refine gate_callee (f := 120) rfl ?_); refine goesL_ (some 6) rfl rfl Try.func120 (by kernel_rfl) rfl #[.agg #[.int .i64 a0_0, .int .i64 a0_1]] rfl mz ?_; (with_reducible refine (impl_RangeOk.calls a0_0 a0_1 true _ A7.out).mono ?_); rintro e w16 ⟨rfl, hb⟩; refine ⟨_, rfl, ?_⟩; have n0_ := Aside0.mk (blk_below (g := gb331) (o := b2 a0_0 a0_1 86) (bz BK331.out) hb); have n1_ := Aside0.mk (blk_below (g := gb332) (o := b2 a1_0 a1_1 86) (bz BK332.out) hb); have n2_ := Aside0.mk (blk_below (g := gb333) (o := b2 0 0 86) (bz BK333.out) hb); have n3_ := Aside0.mk (below_step (hz3 HB.out GE331.out GE332.out GE333.out) hb); clear BK331; clear BK332; clear BK333; clear HB; have BK331 := n0_; have BK332 := n1_; have BK333 := n2_; have HB := n3_; clear n0_ n1_ n2_ n3_; (try clear hb); (try clear hb2); (try clear hk); (try clear hi); have hnb17 := NB332_333.out; have hnc17 := NB333_332.out; have hcz18_0 : w16.cell? ⟨gb332, 0, none⟩ = some (.int .i64 a1_0) := bc BK332 0; have hcz18_1 : w16.cell? ⟨gb332, 1, none⟩ = some (.int .i64 a1_1) := bc BK332 1; have hfz18_0 := blk_frozen BK332.out 0; have hfz18_1 := blk_frozen BK332.out 1) | (go_at_call 120; (with_reducible refine (impl_RangeOk.calls a1_0 a1_1 true _ A9.out).mono ?_); rintro e w19 ⟨rfl, hb⟩; have n0_ := Aside0.mk (blk_below (g := gb331) (o := b2 a0_0 a0_1 86) (bz BK331.out) hb); have n1_ := Aside0.mk (blk_below (g := gb332) (o := b2 a1_0 a1_1 86) (bz BK332.out) hb); have n2_ := Aside0.mk (blk_below (g := gb333) (o := b2 0 0 86) (bz BK333.out) hb); have n3_ := Aside0.mk (below_step (hz3 HB.out GE331.out GE332.out GE333.out) hb); clear BK331; clear BK332; clear BK333; clear HB; have BK331 := n0_; have BK332 := n1_; have BK333 := n2_; have HB := n3_; clear n0_ n1_ n2_ n3_; (try clear hb); (try clear hb2); (try clear hk); (try clear hi); have hcz20_0 : w19.cell? ⟨gb331, 0, none⟩ = some (.int .i64 a0_0) := bc BK331 0; have hcz20_1 : w19.cell? ⟨gb331, 1, none⟩ = some (.int .i64 a0_1) := bc BK331 1; have hfz20_0 := blk_frozen BK331.out 0; have hfz20_1 := blk_frozen BK331.out 1) | (go_at_call 124; (with_reducible refine (impl_Range_empty.calls a0_0 a0_1 true _ A11.out).mono ?_); rintro e w21 ⟨rfl, hb⟩; have n0_ := Aside0.mk (blk_below (g := gb331) (o := b2 a0_0 a0_1 86) (bz BK331.out) hb); have n1_ := Aside0.mk (blk_below (g := gb332) (o := b2 a1_0 a1_1 86) (bz BK332.out) hb); have n2_ := Aside0.mk (blk_below (g := gb333) (o := b2 0 0 86) (bz BK333.out) hb); have n3_ := Aside0.mk (below_step (hz3 HB.out GE331.out GE332.out GE333.out) hb); clear BK331; clear BK332; clear BK333; clear HB; have BK331 := n0_; have BK332 := n1_; have BK333 := n2_; have HB := n3_; clear n0_ n1_ n2_ n3_; (try clear hb); (try clear hb2); (try clear hk); (try clear hi)))
     go_meet
     case rel => exact ⟨_, (true), (by first | rfl | (simp; done) | (simp [*]; done)), H', ⟨by first | omega | exact Nat.le_refl _⟩, ⟨bz BK331.out⟩, ⟨bz BK332.out⟩, ⟨bz BK333.out⟩, ⟨hz3 HB.out GE331.out GE332.out GE333.out⟩⟩
    ·replace c12 := Bool.eq_false_iff.mpr c12
     subst c12
     have H1 : ((impl_Range_empty.f a1_0 a1_1).bind fun t337 => (impl_RangeMeet.j0 k t337 a0_0 a0_1 a1_0 a1_1)) = some (r1, r2) := by rw [if_neg (show ¬ (false = true) by decide)] at H; exact H
     clear H
     have H := H1
     clear H1
     replace H := Option.bind_eq_some_iff.mp H
     obtain ⟨t337, A220, H⟩ := H
     replace H : (impl_RangeMeet.j0 k t337 a0_0 a0_1 a1_0 a1_1) = some (r1, r2) := H
     have A22 := Aside0.mk A220
     clear A220
     have H' := Aside0.mk H
     clear H
     have hnb23 := NB331_332.out
     have hnc23 := NB332_331.out
     have hnb24 := NB331_333.out
     have hnc24 := NB333_331.out
     have hcz25_0 : w6.cell? ⟨gb331, 0, none⟩ = some (.int .i64 a0_0) := bc BK331 0
     have hcz25_1 : w6.cell? ⟨gb331, 1, none⟩ = some (.int .i64 a0_1) := bc BK331 1
     have hfz25_0 := blk_frozen BK331.out 0
     have hfz25_1 := blk_frozen BK331.out 1
     go_wp2_with (first | ((with_reducible refine gate_callee (f := 120) rfl ?_); refine goesL_ (some 6) rfl rfl Try.func120 (by kernel_rfl) rfl #[.agg #[.int .i64 a0_0, .int .i64 a0_1]] rfl mz ?_; (with_reducible refine (impl_RangeOk.calls a0_0 a0_1 true _ A7.out).mono ?_); rintro e w26 ⟨rfl, hb⟩; refine ⟨_, rfl, ?_⟩; have n0_ := Aside0.mk (blk_below (g := gb331) (o := b2 a0_0 a0_1 86) (bz BK331.out) hb); have n1_ := Aside0.mk (blk_below (g := gb332) (o := b2 a1_0 a1_1 86) (bz BK332.out) hb); have n2_ := Aside0.mk (blk_below (g := gb333) (o := b2 0 0 86) (bz BK333.out) hb); have n3_ := Aside0.mk (below_step (hz3 HB.out GE331.out GE332.out GE333.out) hb); clear BK331; clear BK332; clear BK333; clear HB; have BK331 := n0_; have BK332 := n1_; have BK333 := n2_; have HB := n3_; clear n0_ n1_ n2_ n3_; (try clear hb); (try clear hb2); (try clear hk); (try clear hi); have hnb27 := NB332_333.out; have hnc27 := NB333_332.out; have hcz28_0 : w26.cell? ⟨gb332, 0, none⟩ = some (.int .i64 a1_0) := bc BK332 0; have hcz28_1 : w26.cell? ⟨gb332, 1, none⟩ = some (.int .i64 a1_1) := bc BK332 1; have hfz28_0 := blk_frozen BK332.out 0; have hfz28_1 := blk_frozen BK332.out 1) | (go_at_call 120; (with_reducible refine (impl_RangeOk.calls a1_0 a1_1 true _ A9.out).mono ?_); rintro e w29 ⟨rfl, hb⟩; have n0_ := Aside0.mk (blk_below (g := gb331) (o := b2 a0_0 a0_1 86) (bz BK331.out) hb); have n1_ := Aside0.mk (blk_below (g := gb332) (o := b2 a1_0 a1_1 86) (bz BK332.out) hb); have n2_ := Aside0.mk (blk_below (g := gb333) (o := b2 0 0 86) (bz BK333.out) hb); have n3_ := Aside0.mk (below_step (hz3 HB.out GE331.out GE332.out GE333.out) hb); clear BK331; clear BK332; clear BK333; clear HB; have BK331 := n0_; have BK332 := n1_; have BK333 := n2_; have HB := n3_; clear n0_ n1_ n2_ n3_; (try clear hb); (try clear hb2); (try clear hk); (try clear hi); have hcz30_0 : w29.cell? ⟨gb331, 0, none⟩ = some (.int .i64 a0_0) := bc BK331 0; have hcz30_1 : w29.cell? ⟨gb331, 1, none⟩ = some (.int .i64 a0_1) := bc BK331 1; have hfz30_0 := blk_frozen BK331.out 0; have hfz30_1 := blk_frozen BK331.out 1) | (go_at_call 124; (with_reducible refine (impl_Range_empty.calls a0_0 a0_1 false _ A11.out).mono ?_); rintro e w31 ⟨rfl, hb⟩; have n0_ := Aside0.mk (blk_below (g := gb331) (o := b2 a0_0 a0_1 86) (bz BK331.out) hb); have n1_ := Aside0.mk (blk_below (g := gb332) (o := b2 a1_0 a1_1 86) (bz BK332.out) hb); have n2_ := Aside0.mk (blk_below (g := gb333) (o := b2 0 0 86) (bz BK333.out) hb); have n3_ := Aside0.mk (below_step (hz3 HB.out GE331.out GE332.out GE333.out) hb); clear BK331; clear BK332; clear BK333; clear HB; have BK331 := n0_; have BK332 := n1_; have BK333 := n2_; have HB := n3_; clear n0_ n1_ n2_ n3_; (try clear hb); (try clear hb2); (try clear hk); (try clear hi); have hcz32_0 : w31.cell? ⟨gb332, 0, none⟩ = some (.int .i64 a1_0) := bc BK332 0; have hcz32_1 : w31.cell? ⟨gb332, 1, none⟩ = some (.int .i64 a1_1) := bc BK332 1; have hfz32_0 := blk_frozen BK332.out 0; have hfz32_1 := blk_frozen BK332.out 1) | (go_at_call 124; (with_reducible refine (impl_Range_empty.calls a1_0 a1_1 t337 _ A22.out).mono ?_); rintro e w33 ⟨rfl, hb⟩; have n0_ := Aside0.mk (blk_below (g := gb331) (o := b2 a0_0 a0_1 86) (bz BK331.out) hb); have n1_ := Aside0.mk (blk_below (g := gb332) (o := b2 a1_0 a1_1 86) (bz BK332.out) hb); have n2_ := Aside0.mk (blk_below (g := gb333) (o := b2 0 0 86) (bz BK333.out) hb); have n3_ := Aside0.mk (below_step (hz3 HB.out GE331.out GE332.out GE333.out) hb); clear BK331; clear BK332; clear BK333; clear HB; have BK331 := n0_; have BK332 := n1_; have BK333 := n2_; have HB := n3_; clear n0_ n1_ n2_ n3_; (try clear hb); (try clear hb2); (try clear hk); (try clear hi)))
     go_meet
     case rel => exact ⟨_, (t337), (by first | rfl | (simp; done) | (simp [*]; done)), H', ⟨by first | omega | exact Nat.le_refl _⟩, ⟨bz BK331.out⟩, ⟨bz BK332.out⟩, ⟨bz BK333.out⟩, ⟨hz3 HB.out GE331.out GE332.out GE333.out⟩⟩
   ·replace c10 := Bool.eq_false_iff.mpr c10
    subst c10
    have H1 : (impl_RangeMeet.j0 k true a0_0 a0_1 a1_0 a1_1) = some (r1, r2) := by rw [if_neg (show ¬ (false = true) by decide)] at H; exact H
    clear H
    have H := H1
    clear H1
    have H' := Aside0.mk H
    clear H
    have hnb34 := NB331_332.out
    have hnc34 := NB332_331.out
    have hnb35 := NB331_333.out
    have hnc35 := NB333_331.out
    have hcz36_0 : w6.cell? ⟨gb331, 0, none⟩ = some (.int .i64 a0_0) := bc BK331 0
    have hcz36_1 : w6.cell? ⟨gb331, 1, none⟩ = some (.int .i64 a0_1) := bc BK331 1
    have hfz36_0 := blk_frozen BK331.out 0
    have hfz36_1 := blk_frozen BK331.out 1
    go_wp2_with (first | ((with_reducible refine gate_callee (f := 120) rfl ?_); refine goesL_ (some 6) rfl rfl Try.func120 (by kernel_rfl) rfl #[.agg #[.int .i64 a0_0, .int .i64 a0_1]] rfl mz ?_; (with_reducible refine (impl_RangeOk.calls a0_0 a0_1 true _ A7.out).mono ?_); rintro e w37 ⟨rfl, hb⟩; refine ⟨_, rfl, ?_⟩; have n0_ := Aside0.mk (blk_below (g := gb331) (o := b2 a0_0 a0_1 86) (bz BK331.out) hb); have n1_ := Aside0.mk (blk_below (g := gb332) (o := b2 a1_0 a1_1 86) (bz BK332.out) hb); have n2_ := Aside0.mk (blk_below (g := gb333) (o := b2 0 0 86) (bz BK333.out) hb); have n3_ := Aside0.mk (below_step (hz3 HB.out GE331.out GE332.out GE333.out) hb); clear BK331; clear BK332; clear BK333; clear HB; have BK331 := n0_; have BK332 := n1_; have BK333 := n2_; have HB := n3_; clear n0_ n1_ n2_ n3_; (try clear hb); (try clear hb2); (try clear hk); (try clear hi); have hnb38 := NB332_333.out; have hnc38 := NB333_332.out; have hcz39_0 : w37.cell? ⟨gb332, 0, none⟩ = some (.int .i64 a1_0) := bc BK332 0; have hcz39_1 : w37.cell? ⟨gb332, 1, none⟩ = some (.int .i64 a1_1) := bc BK332 1; have hfz39_0 := blk_frozen BK332.out 0; have hfz39_1 := blk_frozen BK332.out 1) | (go_at_call 120; (with_reducible refine (impl_RangeOk.calls a1_0 a1_1 false _ A9.out).mono ?_); rintro e w40 ⟨rfl, hb⟩; have n0_ := Aside0.mk (blk_below (g := gb331) (o := b2 a0_0 a0_1 86) (bz BK331.out) hb); have n1_ := Aside0.mk (blk_below (g := gb332) (o := b2 a1_0 a1_1 86) (bz BK332.out) hb); have n2_ := Aside0.mk (blk_below (g := gb333) (o := b2 0 0 86) (bz BK333.out) hb); have n3_ := Aside0.mk (below_step (hz3 HB.out GE331.out GE332.out GE333.out) hb); clear BK331; clear BK332; clear BK333; clear HB; have BK331 := n0_; have BK332 := n1_; have BK333 := n2_; have HB := n3_; clear n0_ n1_ n2_ n3_; (try clear hb); (try clear hb2); (try clear hk); (try clear hi)))
    go_meet
    case rel => exact ⟨_, (true), (by first | rfl | (simp; done) | (simp [*]; done)), H', ⟨by first | omega | exact Nat.le_refl _⟩, ⟨bz BK331.out⟩, ⟨bz BK332.out⟩, ⟨bz BK333.out⟩, ⟨hz3 HB.out GE331.out GE332.out GE333.out⟩⟩
  ·replace c8 := Bool.eq_false_iff.mpr c8
   subst c8
   have H1 : (impl_RangeMeet.j0 k true a0_0 a0_1 a1_0 a1_1) = some (r1, r2) := by rw [if_neg (show ¬ (false = true) by decide)] at H; exact H
   clear H
   have H := H1
   clear H1
   have H' := Aside0.mk H
   clear H
   have hnb41 := NB331_332.out
   have hnc41 := NB332_331.out
   have hnb42 := NB331_333.out
   have hnc42 := NB333_331.out
   have hcz43_0 : w6.cell? ⟨gb331, 0, none⟩ = some (.int .i64 a0_0) := bc BK331 0
   have hcz43_1 : w6.cell? ⟨gb331, 1, none⟩ = some (.int .i64 a0_1) := bc BK331 1
   have hfz43_0 := blk_frozen BK331.out 0
   have hfz43_1 := blk_frozen BK331.out 1
   go_wp2_with (first | ((with_reducible refine gate_callee (f := 120) rfl ?_); refine goesL_ (some 6) rfl rfl Try.func120 (by kernel_rfl) rfl #[.agg #[.int .i64 a0_0, .int .i64 a0_1]] rfl mz ?_; (with_reducible refine (impl_RangeOk.calls a0_0 a0_1 false _ A7.out).mono ?_); rintro e w44 ⟨rfl, hb⟩; refine ⟨_, rfl, ?_⟩; have n0_ := Aside0.mk (blk_below (g := gb331) (o := b2 a0_0 a0_1 86) (bz BK331.out) hb); have n1_ := Aside0.mk (blk_below (g := gb332) (o := b2 a1_0 a1_1 86) (bz BK332.out) hb); have n2_ := Aside0.mk (blk_below (g := gb333) (o := b2 0 0 86) (bz BK333.out) hb); have n3_ := Aside0.mk (below_step (hz3 HB.out GE331.out GE332.out GE333.out) hb); clear BK331; clear BK332; clear BK333; clear HB; have BK331 := n0_; have BK332 := n1_; have BK333 := n2_; have HB := n3_; clear n0_ n1_ n2_ n3_; (try clear hb); (try clear hb2); (try clear hk); (try clear hi)))
   go_meet
   case rel => exact ⟨_, (true), (by first | rfl | (simp; done) | (simp [*]; done)), H', ⟨by first | omega | exact Nat.le_refl _⟩, ⟨bz BK331.out⟩, ⟨bz BK332.out⟩, ⟨bz BK333.out⟩, ⟨hz3 HB.out GE331.out GE332.out GE333.out⟩⟩
 case rest =>
  clear HC3
  try clear c1
  try clear c2
  try clear p2
  try clear c3
  try clear c4
  try clear c8
  try clear c10
  try clear c12
  try clear c13
  try clear c14
  try clear c17
  try clear c23
  try clear c24
  try clear c27
  try clear c34
  try clear c35
  try clear c38
  try clear c41
  try clear c42
  try clear hcz15_0
  try clear hcz15_1
  try clear hcz18_0
  try clear hcz18_1
  try clear hcz20_0
  try clear hcz20_1
  try clear hcz25_0
  try clear hcz25_1
  try clear hcz28_0
  try clear hcz28_1
  try clear hcz30_0
  try clear hcz30_1
  try clear hcz32_0
  try clear hcz32_1
  try clear hcz36_0
  try clear hcz36_1
  try clear hcz39_0
  try clear hcz39_1
  try clear hcz43_0
  try clear hcz43_1
  try clear hfz15_0
  try clear hfz15_1
  try clear hfz18_0
  try clear hfz18_1
  try clear hfz20_0
  try clear hfz20_1
  try clear hfz25_0
  try clear hfz25_1
  try clear hfz28_0
  try clear hfz28_1
  try clear hfz30_0
  try clear hfz30_1
  try clear hfz32_0
  try clear hfz32_1
  try clear hfz36_0
  try clear hfz36_1
  try clear hfz39_0
  try clear hfz39_1
  try clear hfz43_0
  try clear hfz43_1
  obtain ⟨kq, x20_2, rfl, HA, HJ2, BK331, BK332, BK333, HB⟩ := hcut
  cases kq with
  | zero => exact absurd HA.out (by simp [impl_RangeMeet.j0])
  | succ kj2 =>
   have H := HA.out
   clear HA
   simp only [impl_RangeMeet.j0] at H
   by_cases c45 : x20_2 = true
   ·subst c45
    have H1 : ((impl_rangeNone.f).bind fun bt338 => (some (bt338.1, bt338.2))) = some (r1, r2) := by rw [if_pos rfl] at H; exact H
    clear H
    have H := H1
    clear H1
    replace H := Option.bind_eq_some_iff.mp H
    obtain ⟨⟨t338, t339⟩, A460, H⟩ := H
    replace H : (some (t338, t339)) = some (r1, r2) := H
    have A46 := Aside0.mk A460
    clear A460
    simp only [Option.some.injEq, Prod.mk.injEq] at H
    obtain ⟨rfl, rfl⟩ := H
    go_wp2_with (first | ((with_reducible refine gate_callee (f := 132) rfl ?_); refine goesL_ (some 21) rfl rfl Try.func132 (by kernel_rfl) rfl #[] rfl mz ?_; (with_reducible refine (impl_rangeNone.calls  t338 t339 _ A46.out).mono ?_); rintro e w47 ⟨rfl, hb⟩; refine ⟨_, rfl, ?_⟩; have n0_ := Aside0.mk (blk_below (g := gb331) (o := b2 a0_0 a0_1 86) (bz BK331.out) hb); have n1_ := Aside0.mk (blk_below (g := gb332) (o := b2 a1_0 a1_1 86) (bz BK332.out) hb); have n2_ := Aside0.mk (blk_below (g := gb333) (o := b2 0 0 86) (bz BK333.out) hb); have n3_ := Aside0.mk (below_step (hz3 HB.out GE331.out GE332.out GE333.out) hb); clear BK331; clear BK332; clear BK333; clear HB; have BK331 := n0_; have BK332 := n1_; have BK333 := n2_; have HB := n3_; clear n0_ n1_ n2_ n3_; (try clear hb); (try clear hb2); (try clear hk); (try clear hi); have hnb48 := NB333_331.out; have hnc48 := NB331_333.out; have hnb49 := NB333_332.out; have hnc49 := NB332_333.out; have hcz50_0 : w47.cell? ⟨gb333, 0, none⟩ = some (.int .i64 0) := bc BK333 0; have hcz50_1 : w47.cell? ⟨gb333, 1, none⟩ = some (.int .i64 0) := bc BK333 1; have hfz50_0 := blk_frozen BK333.out 0; have hfz50_1 := blk_frozen BK333.out 1))
    refine bodyPost_ret (results_cell_row rfl _ _ gb333 86 #[.int .i64 t338, .int .i64 t339] (0, 0) _ rfl (by (with_reducible repeat (first | refine blk_drewN ?_ _ | refine blk_drew ?_ | refine blk_alloc ?_ _)); refine blk_put (cs := #[.int .i64 t338, .int .i64 0]) ?_ 1 _ rfl; (with_reducible repeat (first | refine blk_drewN ?_ _ | refine blk_drew ?_ | refine blk_alloc ?_ _)); refine blk_put (cs := #[.int .i64 0, .int .i64 0]) ?_ 0 _ rfl; (with_reducible repeat (first | refine blk_drewN ?_ _ | refine blk_drew ?_ | refine blk_alloc ?_ _)); exact BK333.out) Try.underlying86 rfl (by kernel_rfl)) rfl ?_
    exact ⟨by first | rfl | (simp [errW_none, errW_some] <;> rfl) | (simp [*, errW_none, errW_some] <;> rfl), hz3 HB.out GE331.out GE332.out GE333.out⟩
   ·replace c45 := Bool.eq_false_iff.mpr c45
    subst c45
    have H1 : ((impl_rangeFrom.f (mx a0_0 a1_0) (mn a0_1 a1_1)).bind fun bt340 => (some (bt340.1, bt340.2))) = some (r1, r2) := by rw [if_neg (show ¬ (false = true) by decide)] at H; exact H
    clear H
    have H := H1
    clear H1
    obtain ⟨ji51, hji51⟩ : ∃ j_ : Int, (mx a0_0 a1_0) = j_ := ⟨_, rfl⟩
    replace H : ((impl_rangeFrom.f (ji51) (mn a0_1 a1_1)).bind fun bt340 => (some (bt340.1, bt340.2))) = some (r1, r2) := by first | (rw [hji51] at H; exact H) | (simp only [hji51] at H ⊢; exact H)
    have hji51_ : (if a0_0 < a1_0 then a1_0 else a0_0) = ji51 := hji51
    obtain ⟨ji52, hji52⟩ : ∃ j_ : Int, (mn a0_1 a1_1) = j_ := ⟨_, rfl⟩
    replace H : ((impl_rangeFrom.f (ji51) (ji52)).bind fun bt340 => (some (bt340.1, bt340.2))) = some (r1, r2) := by first | (rw [hji52] at H; exact H) | (simp only [hji52] at H ⊢; exact H)
    have hji52_ : (if a1_1 < a0_1 then a1_1 else a0_1) = ji52 := hji52
    replace H := Option.bind_eq_some_iff.mp H
    obtain ⟨⟨t340, t341⟩, A530, H⟩ := H
    replace H : (some (t340, t341)) = some (r1, r2) := H
    have A53 := Aside0.mk A530
    clear A530
    simp only [Option.some.injEq, Prod.mk.injEq] at H
    obtain ⟨rfl, rfl⟩ := H
    have hnb54 := NB331_332.out
    have hnc54 := NB332_331.out
    have hnb55 := NB331_333.out
    have hnc55 := NB333_331.out
    have hcz56_0 : wc.cell? ⟨gb331, 0, none⟩ = some (.int .i64 a0_0) := bc BK331 0
    have hcz56_1 : wc.cell? ⟨gb331, 1, none⟩ = some (.int .i64 a0_1) := bc BK331 1
    have hfz56_0 := blk_frozen BK331.out 0
    have hfz56_1 := blk_frozen BK331.out 1
    have hnb57 := NB332_333.out
    have hnc57 := NB333_332.out
    have hcz58_0 : wc.cell? ⟨gb332, 0, none⟩ = some (.int .i64 a1_0) := bc BK332 0
    have hcz58_1 : wc.cell? ⟨gb332, 1, none⟩ = some (.int .i64 a1_1) := bc BK332 1
    have hfz58_0 := blk_frozen BK332.out 0
    have hfz58_1 := blk_frozen BK332.out 1
    go_wp2_with (first | ((with_reducible refine gate_callee (f := 137) rfl ?_); refine goesL_ (some 32) rfl rfl Try.func137 (by kernel_rfl) rfl #[.int .i64 ji51, .int .i64 ji52] rfl (by (try simp only [List.map_toArray, List.map_cons, List.map_nil]); first | done | (simp only [hji51, hji52]; rfl) | rfl | (simp only [List.length_drop, List.length_take]; rfl)) ?_; (with_reducible refine (impl_rangeFrom.calls ji51 ji52 t340 t341 _ A53.out).mono ?_); rintro e w59 ⟨rfl, hb⟩; refine ⟨_, rfl, ?_⟩; have n0_ := Aside0.mk (blk_below (g := gb331) (o := b2 a0_0 a0_1 86) (bz BK331.out) hb); have n1_ := Aside0.mk (blk_below (g := gb332) (o := b2 a1_0 a1_1 86) (bz BK332.out) hb); have n2_ := Aside0.mk (blk_below (g := gb333) (o := b2 0 0 86) (bz BK333.out) hb); have n3_ := Aside0.mk (below_step (hz3 HB.out GE331.out GE332.out GE333.out) hb); clear BK331; clear BK332; clear BK333; clear HB; have BK331 := n0_; have BK332 := n1_; have BK333 := n2_; have HB := n3_; clear n0_ n1_ n2_ n3_; (try clear hb); (try clear hb2); (try clear hk); (try clear hi); have hcz60_0 : w59.cell? ⟨gb333, 0, none⟩ = some (.int .i64 0) := bc BK333 0; have hcz60_1 : w59.cell? ⟨gb333, 1, none⟩ = some (.int .i64 0) := bc BK333 1; have hfz60_0 := blk_frozen BK333.out 0; have hfz60_1 := blk_frozen BK333.out 1))
    refine bodyPost_ret (results_cell_row rfl _ _ gb333 86 #[.int .i64 t340, .int .i64 t341] (0, 0) _ rfl (by (with_reducible repeat (first | refine blk_drewN ?_ _ | refine blk_drew ?_ | refine blk_alloc ?_ _)); refine blk_put (cs := #[.int .i64 t340, .int .i64 0]) ?_ 1 _ rfl; (with_reducible repeat (first | refine blk_drewN ?_ _ | refine blk_drew ?_ | refine blk_alloc ?_ _)); refine blk_put (cs := #[.int .i64 0, .int .i64 0]) ?_ 0 _ rfl; (with_reducible repeat (first | refine blk_drewN ?_ _ | refine blk_drew ?_ | refine blk_alloc ?_ _)); exact BK333.out) Try.underlying86 rfl (by kernel_rfl)) rfl ?_
    exact ⟨by first | rfl | (simp [errW_none, errW_some] <;> rfl) | (simp only [← hji51, ← hji52]; first | rfl | (simp [errW_none, errW_some] <;> rfl)) | (simp [*, errW_none, errW_some] <;> rfl), hz3 HB.out GE331.out GE332.out GE333.out⟩

end Go.Proofs.Ytnmccgjdnceheaa.PFnExactValMeet
