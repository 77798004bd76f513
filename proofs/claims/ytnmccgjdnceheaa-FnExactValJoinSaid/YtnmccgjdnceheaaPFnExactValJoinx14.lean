/- Written by this session's own driver (wip/dprint.py): the functions that the law FnExactValJoin reaches, as Lean functions, each with its contract. -/
import Derived.Test.YtnmccgjdnceheaaPFnExactValJoinx0
import Derived.Test.YtnmccgjdnceheaaPFnExactValJoinx10
import Derived.Test.YtnmccgjdnceheaaPFnExactValJoinx11
import Derived.Test.YtnmccgjdnceheaaPFnExactValJoinx12
import Derived.Test.YtnmccgjdnceheaaPFnExactValJoinx13
import Derived.Test.YtnmccgjdnceheaaSv
namespace Go.Proofs.Ytnmccgjdnceheaa.PFnExactValJoin
open Go.RowKit Go.Proofs.YtnmccgjdnceheaaV.PrintWords Go.Proofs.YtnmccgjdnceheaaV.PrintLast Go.Proofs.YtnmccgjdnceheaaV.PrintMore Go.Proofs.YtnmccgjdnceheaaSv
attribute [local go_sem] max2_int min2_int max_two min_two max_three min_three max_four min_four   -- for this text's walks alone
set_option linter.unusedVariables false
set_option linter.unusedSimpArgs false

/-! ### impl_ValJoin: function 21 -/
def impl_ValJoin.j0 : Nat → Bool → Int → Int → Int → Int → Int → Int → Int → Int → Option (Int × Int × Int × Int)
 | 0, _, _, _, _, _, _, _, _, _ => none
 | k + 1, x5, x327000, x327001, x327002, x327003, x328000, x328001, x328002, x328003 => if x5 = true then ((impl_valNone.f).bind fun bt331 => (some (bt331.1, bt331.2.1, bt331.2.2.1, bt331.2.2.2))) else ((impl_Val_none.f x327000 x327001 x327002 x327003).bind fun t335 => (if t335 = true then (some (x328000, x328001, x328002, x328003)) else ((impl_Val_none.f x328000 x328001 x328002 x328003).bind fun t336 => (if t336 = true then (some (x327000, x327001, x327002, x327003)) else ((impl_Val_span.f x327000 x327001 x327002 x327003).bind fun bt337 => ((impl_Val_span.f x328000 x328001 x328002 x328003).bind fun bt339 => ((impl_RangeJoin.f k bt337.1 bt337.2 bt339.1 bt339.2).bind fun bt341 => ((impl_Val_rest.f x327000 x327001 x327002 x327003).bind fun bt343 => ((impl_Val_rest.f x328000 x328001 x328002 x328003).bind fun bt345 => ((impl_RestJoin.f k bt343.1 bt343.2 bt345.1 bt345.2).bind fun bt347 => ((impl_ValMake.f k bt341.1 bt341.2 bt347.1 bt347.2).bind fun bt349 => (some (bt349.1, bt349.2.1, bt349.2.2.1, bt349.2.2.2)))))))))))))
def impl_ValJoin.f (k : Nat) (a0_0 : Int) (a0_1 : Int) (a0_2 : Int) (a0_3 : Int) (a1_0 : Int) (a1_1 : Int) (a1_2 : Int) (a1_3 : Int) : Option (Int × Int × Int × Int) := (impl_ValOk.f k a0_0 a0_1 a0_2 a0_3).bind fun t329 => (if t329 = true then ((impl_ValOk.f k a1_0 a1_1 a1_2 a1_3).bind fun t330 => (impl_ValJoin.j0 k (!t330) a0_0 a0_1 a0_2 a0_3 a1_0 a1_1 a1_2 a1_3)) else (impl_ValJoin.j0 k true a0_0 a0_1 a0_2 a0_3 a1_0 a1_1 a1_2 a1_3))
theorem impl_ValJoin.mono_l : ∀ k, (∀ y0 y1 y2 y3 y4 y5 y6 y7 y8, LeO (impl_ValJoin.j0 k y0 y1 y2 y3 y4 y5 y6 y7 y8) (impl_ValJoin.j0 (k + 1) y0 y1 y2 y3 y4 y5 y6 y7 y8))
 | 0 => fun _ _ _ _ _ _ _ _ _ r h => by simp [impl_ValJoin.j0] at h
 | k + 1 => by
  have ih0 := impl_ValJoin.mono_l k
  ·intro y0 y1 y2 y3 y4 y5 y6 y7 y8
   unfold impl_ValJoin.j0
   repeat' first
   | (with_reducible exact ih0 _ _ _ _ _ _ _ _ _)
   | (with_reducible exact impl_RangeJoin.mono _ _ _ _ _)
   | (with_reducible exact impl_RestJoin.mono _ _ _ _ _)
   | (with_reducible exact impl_ValMake.mono _ _ _ _ _)
   | (with_reducible exact impl_ValOk.mono _ _ _ _ _)
   | (with_reducible exact LeO.refl _)
   | (with_reducible exact LeO.none _)
   | (with_reducible refine LeO.ite ?_ ?_)
   | (with_reducible refine LeO.bind ?_ (fun _ => ?_))
   | exact ih0 _ _ _ _ _ _ _ _ _
   | exact impl_RangeJoin.mono _ _ _ _ _
   | exact impl_RestJoin.mono _ _ _ _ _
   | exact impl_ValMake.mono _ _ _ _ _
   | exact impl_ValOk.mono _ _ _ _ _
   | exact LeO.none _
   | refine LeO.ite ?_ ?_
   | refine LeO.bind ?_ (fun _ => ?_)
theorem impl_ValJoin.mono : ∀ a0 a1 a2 a3 a4 a5 a6 a7 k, LeO (impl_ValJoin.f k a0 a1 a2 a3 a4 a5 a6 a7) (impl_ValJoin.f (k + 1) a0 a1 a2 a3 a4 a5 a6 a7) := by
 intro a0 a1 a2 a3 a4 a5 a6 a7 k
 have ih0 := impl_ValJoin.mono_l k
 unfold impl_ValJoin.f
 repeat' first
   | (with_reducible exact ih0 _ _ _ _ _ _ _ _ _)
   | (with_reducible exact impl_RangeJoin.mono _ _ _ _ _)
   | (with_reducible exact impl_RestJoin.mono _ _ _ _ _)
   | (with_reducible exact impl_ValMake.mono _ _ _ _ _)
   | (with_reducible exact impl_ValOk.mono _ _ _ _ _)
   | (with_reducible exact LeO.refl _)
   | (with_reducible exact LeO.none _)
   | (with_reducible refine LeO.ite ?_ ?_)
   | (with_reducible refine LeO.bind ?_ (fun _ => ?_))
   | exact ih0 _ _ _ _ _ _ _ _ _
   | exact impl_RangeJoin.mono _ _ _ _ _
   | exact impl_RestJoin.mono _ _ _ _ _
   | exact impl_ValMake.mono _ _ _ _ _
   | exact impl_ValOk.mono _ _ _ _ _
   | exact LeO.none _
   | refine LeO.ite ?_ ?_
   | refine LeO.bind ?_ (fun _ => ?_)
def impl_ValJoin.T7 : Bool × List (List Nat × List Nat) := (true, [([], []), ([0], [0]), ([], []), ([2, 1], [2]), ([1, 3, 3], [1, 3]), ([], []), ([5, 4], [5]), ([], []), ([7, 6], [7]), ([6, 8, 8], [6, 8]), ([4, 9, 9], [4, 9]), ([10, 10, 0, 1, 2, 3, 4, 5, 6, 7, 8, 9, 10], [10])])
def impl_ValJoin.B7 : List Nat := [0, 1, 0, 7, 15, 0, 63, 0, 255, 511, 1023, 2047]
theorem impl_ValJoin.tab7 : rtab .any (opsOf Try.f21 7) = impl_ValJoin.T7 := by kernel_rfl
theorem impl_ValJoin.bits7 : waitsOk impl_ValJoin.T7.2 impl_ValJoin.B7 = true := by kernel_rfl
set_option maxHeartbeats 8000000 in
set_option maxRecDepth 100000 in
theorem impl_ValJoin.calls (k : Nat) (a0_0 : Int) (a0_1 : Int) (a0_2 : Int) (a0_3 : Int) (a1_0 : Int) (a1_1 : Int) (a1_2 : Int) (a1_3 : Int) (r1 : Int) (r2 : Int) (r3 : Int) (r4 : Int) (w : World) (h : impl_ValJoin.f k a0_0 a0_1 a0_2 a0_3 a1_0 a1_1 a1_2 a1_3 = some (r1, r2, r3, r4)) :
  Calls Try.prog 21 #[.agg #[.int .i64 a0_0, .int .i64 a0_1, .int .i64 a0_2, .int .i64 a0_3], .agg #[.int .i64 a1_0, .int .i64 a1_1, .int .i64 a1_2, .int .i64 a1_3]] w fun e w' => e = .returned (.agg #[.int .i64 r1, .int .i64 r2, .int .i64 r3, .int .i64 r4]) ∧ Below w.heap.size w w' := by
 have hu25 := Try.underlying25
 have HB := Aside0.mk (Below.refl w.heap.size w)
 have H : ((impl_ValOk.f k a0_0 a0_1 a0_2 a0_3).bind fun t329 => (if t329 = true then ((impl_ValOk.f k a1_0 a1_1 a1_2 a1_3).bind fun t330 => (impl_ValJoin.j0 k (!t330) a0_0 a0_1 a0_2 a0_3 a1_0 a1_1 a1_2 a1_3)) else (impl_ValJoin.j0 k true a0_0 a0_1 a0_2 a0_3 a1_0 a1_1 a1_2 a1_3))) = some (r1, r2, r3, r4) := h
 clear h
 have HC3 := Aside0.mk H
 clear H
 go_enter Try.func21, Try.ntmps21
 go_upto_region 1 with (first | ((with_reducible refine gate_dst (N := 2) rfl ?_); refine box_event ?hg (N := 2) ?hd (cs := #[.int .i64 a0_0, .int .i64 a0_1, .int .i64 a0_2, .int .i64 a0_3]) (t := 25) ?hr ?_; (case hd => rfl); (case hg => rfl); (case hr => first | (go_simp; done) | (go_simp; rfl)); intro gb326 hg w4 hbox hb; have n0_ := Aside0.mk (below_step (hz HB.out) hb); have n1_ := Aside0.mk (hbox); have n2_ := Aside0.mk ((by rw [hg]; exact (below_size (hz HB.out)) : w.heap.size ≤ gb326)); have n3_ := Aside0.mk ((by rw [hg]; exact (below_size (hz HB.out)) : w.heap.size ≤ gb326)); clear HB; have HB := n0_; have BK326 := n1_; have GW326 := n2_; have GE326 := n3_; clear n0_ n1_ n2_ n3_; clear hb hbox hg) | ((with_reducible refine gate_dst (N := 3) rfl ?_); refine box_event ?hg (N := 3) ?hd (cs := #[.int .i64 a1_0, .int .i64 a1_1, .int .i64 a1_2, .int .i64 a1_3]) (t := 25) ?hr ?_; (case hd => rfl); (case hg => rfl); (case hr => first | (go_simp; done) | (go_simp; rfl)); intro gb327 hg w5 hbox hb; have n0_ := Aside0.mk (blk_below (g := gb326) (o := b4 a0_0 a0_1 a0_2 a0_3 25) (bz BK326.out) hb); have n1_ := Aside0.mk (below_step (hz1 HB.out GE326.out) hb); have n2_ := Aside0.mk (hbox); have n3_ := Aside0.mk ((by rw [hg]; exact (below_size (hz1 HB.out GE326.out)) : w.heap.size ≤ gb327)); have n4_ := Aside0.mk ((by rw [hg]; exact (below_size (hz1 HB.out GE326.out)) : w.heap.size ≤ gb327)); have n5_ := Aside0.mk ((by rw [hg]; exact Nat.ne_of_lt (blk_lt (g := gb326) (o := b4 a0_0 a0_1 a0_2 a0_3 25) (bz BK326.out)) : gb326 ≠ gb327)); have n6_ := Aside0.mk ((by rw [hg]; exact Nat.ne_of_gt (blk_lt (g := gb326) (o := b4 a0_0 a0_1 a0_2 a0_3 25) (bz BK326.out)) : gb327 ≠ gb326)); clear BK326; clear HB; have BK326 := n0_; have HB := n1_; have BK327 := n2_; have GW327 := n3_; have GE327 := n4_; have NB326_327 := n5_; have NB327_326 := n6_; clear n0_ n1_ n2_ n3_ n4_ n5_ n6_; clear hb hbox hg) | ((with_reducible refine gate_dst (N := 4) rfl ?_); refine box_event ?hg (N := 4) ?hd (cs := #[.int .i64 0, .int .i64 0, .int .i64 0, .int .i64 0]) (t := 25) ?hr ?_; (case hd => rfl); (case hg => rfl); (case hr => first | (go_simp; done) | (go_simp; rfl)); intro gb328 hg w6 hbox hb; have n0_ := Aside0.mk (blk_below (g := gb326) (o := b4 a0_0 a0_1 a0_2 a0_3 25) (bz BK326.out) hb); have n1_ := Aside0.mk (blk_below (g := gb327) (o := b4 a1_0 a1_1 a1_2 a1_3 25) (bz BK327.out) hb); have n2_ := Aside0.mk (below_step (hz2 HB.out GE326.out GE327.out) hb); have n3_ := Aside0.mk (hbox); have n4_ := Aside0.mk ((by rw [hg]; exact (below_size (hz2 HB.out GE326.out GE327.out)) : w.heap.size ≤ gb328)); have n5_ := Aside0.mk ((by rw [hg]; exact (below_size (hz2 HB.out GE326.out GE327.out)) : w.heap.size ≤ gb328)); have n6_ := Aside0.mk ((by rw [hg]; exact Nat.ne_of_lt (blk_lt (g := gb326) (o := b4 a0_0 a0_1 a0_2 a0_3 25) (bz BK326.out)) : gb326 ≠ gb328)); have n7_ := Aside0.mk ((by rw [hg]; exact Nat.ne_of_gt (blk_lt (g := gb326) (o := b4 a0_0 a0_1 a0_2 a0_3 25) (bz BK326.out)) : gb328 ≠ gb326)); have n8_ := Aside0.mk ((by rw [hg]; exact Nat.ne_of_lt (blk_lt (g := gb327) (o := b4 a1_0 a1_1 a1_2 a1_3 25) (bz BK327.out)) : gb327 ≠ gb328)); have n9_ := Aside0.mk ((by rw [hg]; exact Nat.ne_of_gt (blk_lt (g := gb327) (o := b4 a1_0 a1_1 a1_2 a1_3 25) (bz BK327.out)) : gb328 ≠ gb327)); clear BK326; clear BK327; clear HB; have BK326 := n0_; have BK327 := n1_; have HB := n2_; have BK328 := n3_; have GW328 := n4_; have GE328 := n5_; have NB326_328 := n6_; have NB328_326 := n7_; have NB327_328 := n8_; have NB328_327 := n9_; clear n0_ n1_ n2_ n3_ n4_ n5_ n6_ n7_ n8_ n9_; clear hb hbox hg))
 (try simp only [Act.put, List.setIfInBounds_toArray, List.set_cons_zero, List.set_cons_succ])
 go_cut [5] (fun v5 wc => ∃ (kq : Nat) (x5_2 : Bool), v5 = .bool x5_2 ∧ Aside0 (impl_ValJoin.j0 kq x5_2 a0_0 a0_1 a0_2 a0_3 a1_0 a1_1 a1_2 a1_3 = some (r1, r2, r3, r4)) ∧ Aside0 (kq ≤ k) ∧ Aside0 (wc.heap[gb326]? = some (.cells #[.int .i64 a0_0, .int .i64 a0_1, .int .i64 a0_2, .int .i64 a0_3] 25 (0, 0))) ∧ Aside0 (wc.heap[gb327]? = some (.cells #[.int .i64 a1_0, .int .i64 a1_1, .int .i64 a1_2, .int .i64 a1_3] 25 (0, 0))) ∧ Aside0 (wc.heap[gb328]? = some (.cells #[.int .i64 0, .int .i64 0, .int .i64 0, .int .i64 0] 25 (0, 0))) ∧ Aside0 (Below w.heap.size w wc))
 case first =>
  have H := HC3.out
  clear HC3
  replace H := Option.bind_eq_some_iff.mp H
  obtain ⟨t329, A70, H⟩ := H
  replace H : (if t329 = true then ((impl_ValOk.f k a1_0 a1_1 a1_2 a1_3).bind fun t330 => (impl_ValJoin.j0 k (!t330) a0_0 a0_1 a0_2 a0_3 a1_0 a1_1 a1_2 a1_3)) else (impl_ValJoin.j0 k true a0_0 a0_1 a0_2 a0_3 a1_0 a1_1 a1_2 a1_3)) = some (r1, r2, r3, r4) := H
  have A7 := Aside0.mk A70
  clear A70
  by_cases c8 : t329 = true
  ·subst c8
   have H1 : ((impl_ValOk.f k a1_0 a1_1 a1_2 a1_3).bind fun t330 => (impl_ValJoin.j0 k (!t330) a0_0 a0_1 a0_2 a0_3 a1_0 a1_1 a1_2 a1_3)) = some (r1, r2, r3, r4) := by rw [if_pos rfl] at H; exact H
   clear H
   have H := H1
   clear H1
   replace H := Option.bind_eq_some_iff.mp H
   obtain ⟨t330, A90, H⟩ := H
   replace H : (impl_ValJoin.j0 k (!t330) a0_0 a0_1 a0_2 a0_3 a1_0 a1_1 a1_2 a1_3) = some (r1, r2, r3, r4) := H
   have A9 := Aside0.mk A90
   clear A90
   have H' := Aside0.mk H
   clear H
   have hnb10 := NB326_327.out
   have hnc10 := NB327_326.out
   have hnb11 := NB326_328.out
   have hnc11 := NB328_326.out
   have hcz12_0 : w6.cell? ⟨gb326, 0, none⟩ = some (.int .i64 a0_0) := bc BK326 0
   have hcz12_1 : w6.cell? ⟨gb326, 1, none⟩ = some (.int .i64 a0_1) := bc BK326 1
   have hcz12_2 : w6.cell? ⟨gb326, 2, none⟩ = some (.int .i64 a0_2) := bc BK326 2
   have hcz12_3 : w6.cell? ⟨gb326, 3, none⟩ = some (.int .i64 a0_3) := bc BK326 3
   have hfz12_0 := blk_frozen BK326.out 0
   have hfz12_1 := blk_frozen BK326.out 1
   have hfz12_2 := blk_frozen BK326.out 2
   have hfz12_3 := blk_frozen BK326.out 3
   go_wp2_with (first | ((with_reducible refine gate_callee (f := 63) rfl ?_); refine goesL_ (some 7) rfl rfl Try.func63 (by kernel_rfl) rfl #[.agg #[.int .i64 a0_0, .int .i64 a0_1, .int .i64 a0_2, .int .i64 a0_3]] rfl mz ?_; (with_reducible refine (impl_ValOk.calls k a0_0 a0_1 a0_2 a0_3 true _ A7.out).mono ?_); rintro e w13 ⟨rfl, hb⟩; refine ⟨_, rfl, ?_⟩; have n0_ := Aside0.mk (blk_below (g := gb326) (o := b4 a0_0 a0_1 a0_2 a0_3 25) (bz BK326.out) hb); have n1_ := Aside0.mk (blk_below (g := gb327) (o := b4 a1_0 a1_1 a1_2 a1_3 25) (bz BK327.out) hb); have n2_ := Aside0.mk (blk_below (g := gb328) (o := b4 0 0 0 0 25) (bz BK328.out) hb); have n3_ := Aside0.mk (below_step (hz3 HB.out GE326.out GE327.out GE328.out) hb); clear BK326; clear BK327; clear BK328; clear HB; have BK326 := n0_; have BK327 := n1_; have BK328 := n2_; have HB := n3_; clear n0_ n1_ n2_ n3_; (try clear hb); (try clear hb2); (try clear hk); (try clear hi); have hnb14 := NB327_328.out; have hnc14 := NB328_327.out; have hcz15_0 : w13.cell? ⟨gb327, 0, none⟩ = some (.int .i64 a1_0) := bc BK327 0; have hcz15_1 : w13.cell? ⟨gb327, 1, none⟩ = some (.int .i64 a1_1) := bc BK327 1; have hcz15_2 : w13.cell? ⟨gb327, 2, none⟩ = some (.int .i64 a1_2) := bc BK327 2; have hcz15_3 : w13.cell? ⟨gb327, 3, none⟩ = some (.int .i64 a1_3) := bc BK327 3; have hfz15_0 := blk_frozen BK327.out 0; have hfz15_1 := blk_frozen BK327.out 1; have hfz15_2 := blk_frozen BK327.out 2; have hfz15_3 := blk_frozen BK327.out 3) | (go_at_call 63; (with_reducible refine (impl_ValOk.calls k a1_0 a1_1 a1_2 a1_3 t330 _ A9.out).mono ?_); rintro e w16 ⟨rfl, hb⟩; have n0_ := Aside0.mk (blk_below (g := gb326) (o := b4 a0_0 a0_1 a0_2 a0_3 25) (bz BK326.out) hb); have n1_ := Aside0.mk (blk_below (g := gb327) (o := b4 a1_0 a1_1 a1_2 a1_3 25) (bz BK327.out) hb); have n2_ := Aside0.mk (blk_below (g := gb328) (o := b4 0 0 0 0 25) (bz BK328.out) hb); have n3_ := Aside0.mk (below_step (hz3 HB.out GE326.out GE327.out GE328.out) hb); clear BK326; clear BK327; clear BK328; clear HB; have BK326 := n0_; have BK327 := n1_; have BK328 := n2_; have HB := n3_; clear n0_ n1_ n2_ n3_; (try clear hb); (try clear hb2); (try clear hk); (try clear hi)))
   go_meet
   case rel => exact ⟨_, (!t330), (by first | rfl | (simp; done) | (simp [*]; done)), H', ⟨by first | omega | exact Nat.le_refl _⟩, ⟨bz BK326.out⟩, ⟨bz BK327.out⟩, ⟨bz BK328.out⟩, ⟨hz3 HB.out GE326.out GE327.out GE328.out⟩⟩
  ·replace c8 := Bool.eq_false_iff.mpr c8
   subst c8
   have H1 : (impl_ValJoin.j0 k true a0_0 a0_1 a0_2 a0_3 a1_0 a1_1 a1_2 a1_3) = some (r1, r2, r3, r4) := by rw [if_neg (show ¬ (false = true) by decide)] at H; exact H
   clear H
   have H := H1
   clear H1
   have H' := Aside0.mk H
   clear H
   have hnb17 := NB326_327.out
   have hnc17 := NB327_326.out
   have hnb18 := NB326_328.out
   have hnc18 := NB328_326.out
   have hcz19_0 : w6.cell? ⟨gb326, 0, none⟩ = some (.int .i64 a0_0) := bc BK326 0
   have hcz19_1 : w6.cell? ⟨gb326, 1, none⟩ = some (.int .i64 a0_1) := bc BK326 1
   have hcz19_2 : w6.cell? ⟨gb326, 2, none⟩ = some (.int .i64 a0_2) := bc BK326 2
   have hcz19_3 : w6.cell? ⟨gb326, 3, none⟩ = some (.int .i64 a0_3) := bc BK326 3
   have hfz19_0 := blk_frozen BK326.out 0
   have hfz19_1 := blk_frozen BK326.out 1
   have hfz19_2 := blk_frozen BK326.out 2
   have hfz19_3 := blk_frozen BK326.out 3
   go_wp2_with (first | ((with_reducible refine gate_callee (f := 63) rfl ?_); refine goesL_ (some 7) rfl rfl Try.func63 (by kernel_rfl) rfl #[.agg #[.int .i64 a0_0, .int .i64 a0_1, .int .i64 a0_2, .int .i64 a0_3]] rfl mz ?_; (with_reducible refine (impl_ValOk.calls k a0_0 a0_1 a0_2 a0_3 false _ A7.out).mono ?_); rintro e w20 ⟨rfl, hb⟩; refine ⟨_, rfl, ?_⟩; have n0_ := Aside0.mk (blk_below (g := gb326) (o := b4 a0_0 a0_1 a0_2 a0_3 25) (bz BK326.out) hb); have n1_ := Aside0.mk (blk_below (g := gb327) (o := b4 a1_0 a1_1 a1_2 a1_3 25) (bz BK327.out) hb); have n2_ := Aside0.mk (blk_below (g := gb328) (o := b4 0 0 0 0 25) (bz BK328.out) hb); have n3_ := Aside0.mk (below_step (hz3 HB.out GE326.out GE327.out GE328.out) hb); clear BK326; clear BK327; clear BK328; clear HB; have BK326 := n0_; have BK327 := n1_; have BK328 := n2_; have HB := n3_; clear n0_ n1_ n2_ n3_; (try clear hb); (try clear hb2); (try clear hk); (try clear hi)))
   go_meet
   case rel => exact ⟨_, (true), (by first | rfl | (simp; done) | (simp [*]; done)), H', ⟨by first | omega | exact Nat.le_refl _⟩, ⟨bz BK326.out⟩, ⟨bz BK327.out⟩, ⟨bz BK328.out⟩, ⟨hz3 HB.out GE326.out GE327.out GE328.out⟩⟩
 case rest =>
  clear HC3
  try clear c1
  try clear c2
  try clear p2
  try clear c6
  try clear c8
  try clear c10
  try clear c11
  try clear c14
  try clear c17
  try clear c18
  try clear hcz12_0
  try clear hcz12_1
  try clear hcz12_2
  try clear hcz12_3
  try clear hcz15_0
  try clear hcz15_1
  try clear hcz15_2
  try clear hcz15_3
  try clear hcz19_0
  try clear hcz19_1
  try clear hcz19_2
  try clear hcz19_3
  try clear hfz12_0
  try clear hfz12_1
  try clear hfz12_2
  try clear hfz12_3
  try clear hfz15_0
  try clear hfz15_1
  try clear hfz15_2
  try clear hfz15_3
  try clear hfz19_0
  try clear hfz19_1
  try clear hfz19_2
  try clear hfz19_3
  obtain ⟨kq, x5_2, rfl, HA, HJ2, BK326, BK327, BK328, HB⟩ := hcut
  cases kq with
  | zero => exact absurd HA.out (by simp [impl_ValJoin.j0])
  | succ kj2 =>
   have H := HA.out
   clear HA
   simp only [impl_ValJoin.j0] at H
   by_cases c21 : x5_2 = true
   ·subst c21
    have H1 : ((impl_valNone.f).bind fun bt331 => (some (bt331.1, bt331.2.1, bt331.2.2.1, bt331.2.2.2))) = some (r1, r2, r3, r4) := by rw [if_pos rfl] at H; exact H
    clear H
    have H := H1
    clear H1
    replace H := Option.bind_eq_some_iff.mp H
    obtain ⟨⟨t331, t332, t333, t334⟩, A220, H⟩ := H
    replace H : (some (t331, t332, t333, t334)) = some (r1, r2, r3, r4) := H
    have A22 := Aside0.mk A220
    clear A220
    simp only [Option.some.injEq, Prod.mk.injEq] at H
    obtain ⟨rfl, rfl, rfl, rfl⟩ := H
    go_wp2_with (first | ((with_reducible refine gate_callee (f := 76) rfl ?_); refine goesL_ (some 14) rfl rfl Try.func76 (by kernel_rfl) rfl #[] rfl mz ?_; (with_reducible refine (impl_valNone.calls  t331 t332 t333 t334 _ A22.out).mono ?_); rintro e w23 ⟨rfl, hb⟩; refine ⟨_, rfl, ?_⟩; have n0_ := Aside0.mk (blk_below (g := gb326) (o := b4 a0_0 a0_1 a0_2 a0_3 25) (bz BK326.out) hb); have n1_ := Aside0.mk (blk_below (g := gb327) (o := b4 a1_0 a1_1 a1_2 a1_3 25) (bz BK327.out) hb); have n2_ := Aside0.mk (blk_below (g := gb328) (o := b4 0 0 0 0 25) (bz BK328.out) hb); have n3_ := Aside0.mk (below_step (hz3 HB.out GE326.out GE327.out GE328.out) hb); clear BK326; clear BK327; clear BK328; clear HB; have BK326 := n0_; have BK327 := n1_; have BK328 := n2_; have HB := n3_; clear n0_ n1_ n2_ n3_; (try clear hb); (try clear hb2); (try clear hk); (try clear hi); have hnb24 := NB328_326.out; have hnc24 := NB326_328.out; have hnb25 := NB328_327.out; have hnc25 := NB327_328.out; have hcz26_0 : w23.cell? ⟨gb328, 0, none⟩ = some (.int .i64 0) := bc BK328 0; have hcz26_1 : w23.cell? ⟨gb328, 1, none⟩ = some (.int .i64 0) := bc BK328 1; have hcz26_2 : w23.cell? ⟨gb328, 2, none⟩ = some (.int .i64 0) := bc BK328 2; have hcz26_3 : w23.cell? ⟨gb328, 3, none⟩ = some (.int .i64 0) := bc BK328 3; have hfz26_0 := blk_frozen BK328.out 0; have hfz26_1 := blk_frozen BK328.out 1; have hfz26_2 := blk_frozen BK328.out 2; have hfz26_3 := blk_frozen BK328.out 3))
    refine bodyPost_ret (results_cell_row rfl _ _ gb328 25 #[.int .i64 t331, .int .i64 t332, .int .i64 t333, .int .i64 t334] (0, 0) _ rfl (by (with_reducible repeat (first | refine blk_drewN ?_ _ | refine blk_drew ?_ | refine blk_alloc ?_ _)); refine blk_put (cs := #[.int .i64 t331, .int .i64 t332, .int .i64 t333, .int .i64 0]) ?_ 3 _ rfl; (with_reducible repeat (first | refine blk_drewN ?_ _ | refine blk_drew ?_ | refine blk_alloc ?_ _)); refine blk_put (cs := #[.int .i64 t331, .int .i64 t332, .int .i64 0, .int .i64 0]) ?_ 2 _ rfl; (with_reducible repeat (first | refine blk_drewN ?_ _ | refine blk_drew ?_ | refine blk_alloc ?_ _)); refine blk_put (cs := #[.int .i64 t331, .int .i64 0, .int .i64 0, .int .i64 0]) ?_ 1 _ rfl; (with_reducible repeat (first | refine blk_drewN ?_ _ | refine blk_drew ?_ | refine blk_alloc ?_ _)); refine blk_put (cs := #[.int .i64 0, .int .i64 0, .int .i64 0, .int .i64 0]) ?_ 0 _ rfl; (with_reducible repeat (first | refine blk_drewN ?_ _ | refine blk_drew ?_ | refine blk_alloc ?_ _)); exact BK328.out) Try.underlying25 rfl (by kernel_rfl)) rfl ?_
    exact ⟨by first | rfl | (simp [errW_none, errW_some] <;> rfl) | (simp [*, errW_none, errW_some] <;> rfl), hz3 HB.out GE326.out GE327.out GE328.out⟩
   ·replace c21 := Bool.eq_false_iff.mpr c21
    subst c21
    have H1 : ((impl_Val_none.f a0_0 a0_1 a0_2 a0_3).bind fun t335 => (if t335 = true then (some (a1_0, a1_1, a1_2, a1_3)) else ((impl_Val_none.f a1_0 a1_1 a1_2 a1_3).bind fun t336 => (if t336 = true then (some (a0_0, a0_1, a0_2, a0_3)) else ((impl_Val_span.f a0_0 a0_1 a0_2 a0_3).bind fun bt337 => ((impl_Val_span.f a1_0 a1_1 a1_2 a1_3).bind fun bt339 => ((impl_RangeJoin.f kj2 bt337.1 bt337.2 bt339.1 bt339.2).bind fun bt341 => ((impl_Val_rest.f a0_0 a0_1 a0_2 a0_3).bind fun bt343 => ((impl_Val_rest.f a1_0 a1_1 a1_2 a1_3).bind fun bt345 => ((impl_RestJoin.f kj2 bt343.1 bt343.2 bt345.1 bt345.2).bind fun bt347 => ((impl_ValMake.f kj2 bt341.1 bt341.2 bt347.1 bt347.2).bind fun bt349 => (some (bt349.1, bt349.2.1, bt349.2.2.1, bt349.2.2.2))))))))))))) = some (r1, r2, r3, r4) := by rw [if_neg (show ¬ (false = true) by decide)] at H; exact H
    clear H
    have H := H1
    clear H1
    replace H := Option.bind_eq_some_iff.mp H
    obtain ⟨t335, A270, H⟩ := H
    replace H : (if t335 = true then (some (a1_0, a1_1, a1_2, a1_3)) else ((impl_Val_none.f a1_0 a1_1 a1_2 a1_3).bind fun t336 => (if t336 = true then (some (a0_0, a0_1, a0_2, a0_3)) else ((impl_Val_span.f a0_0 a0_1 a0_2 a0_3).bind fun bt337 => ((impl_Val_span.f a1_0 a1_1 a1_2 a1_3).bind fun bt339 => ((impl_RangeJoin.f kj2 bt337.1 bt337.2 bt339.1 bt339.2).bind fun bt341 => ((impl_Val_rest.f a0_0 a0_1 a0_2 a0_3).bind fun bt343 => ((impl_Val_rest.f a1_0 a1_1 a1_2 a1_3).bind fun bt345 => ((impl_RestJoin.f kj2 bt343.1 bt343.2 bt345.1 bt345.2).bind fun bt347 => ((impl_ValMake.f kj2 bt341.1 bt341.2 bt347.1 bt347.2).bind fun bt349 => (some (bt349.1, bt349.2.1, bt349.2.2.1, bt349.2.2.2)))))))))))) = some (r1, r2, r3, r4) := H
    have A27 := Aside0.mk A270
    clear A270
    by_cases c28 : t335 = true
    ·subst c28
     have H1 : (some (a1_0, a1_1, a1_2, a1_3)) = some (r1, r2, r3, r4) := by rw [if_pos rfl] at H; exact H
     clear H
     have H := H1
     clear H1
     simp only [Option.some.injEq, Prod.mk.injEq] at H
     obtain ⟨rfl, rfl, rfl, rfl⟩ := H
     have hnb29 := NB326_327.out
     have hnc29 := NB327_326.out
     have hnb30 := NB326_328.out
     have hnc30 := NB328_326.out
     have hcz31_0 : wc.cell? ⟨gb326, 0, none⟩ = some (.int .i64 a0_0) := bc BK326 0
     have hcz31_1 : wc.cell? ⟨gb326, 1, none⟩ = some (.int .i64 a0_1) := bc BK326 1
     have hcz31_2 : wc.cell? ⟨gb326, 2, none⟩ = some (.int .i64 a0_2) := bc BK326 2
     have hcz31_3 : wc.cell? ⟨gb326, 3, none⟩ = some (.int .i64 a0_3) := bc BK326 3
     have hfz31_0 := blk_frozen BK326.out 0
     have hfz31_1 := blk_frozen BK326.out 1
     have hfz31_2 := blk_frozen BK326.out 2
     have hfz31_3 := blk_frozen BK326.out 3
     go_wp2_with (first | ((with_reducible refine gate_callee (f := 70) rfl ?_); refine goesL_ (some 17) rfl rfl Try.func70 (by kernel_rfl) rfl #[.agg #[.int .i64 a0_0, .int .i64 a0_1, .int .i64 a0_2, .int .i64 a0_3]] rfl mz ?_; (with_reducible refine (impl_Val_none.calls a0_0 a0_1 a0_2 a0_3 true _ A27.out).mono ?_); rintro e w32 ⟨rfl, hb⟩; refine ⟨_, rfl, ?_⟩; have n0_ := Aside0.mk (blk_below (g := gb326) (o := b4 a0_0 a0_1 a0_2 a0_3 25) (bz BK326.out) hb); have n1_ := Aside0.mk (blk_below (g := gb327) (o := b4 a1_0 a1_1 a1_2 a1_3 25) (bz BK327.out) hb); have n2_ := Aside0.mk (blk_below (g := gb328) (o := b4 0 0 0 0 25) (bz BK328.out) hb); have n3_ := Aside0.mk (below_step (hz3 HB.out GE326.out GE327.out GE328.out) hb); clear BK326; clear BK327; clear BK328; clear HB; have BK326 := n0_; have BK327 := n1_; have BK328 := n2_; have HB := n3_; clear n0_ n1_ n2_ n3_; (try clear hb); (try clear hb2); (try clear hk); (try clear hi); have hnb33 := NB327_328.out; have hnc33 := NB328_327.out; have hcz34_0 : w32.cell? ⟨gb327, 0, none⟩ = some (.int .i64 a1_0) := bc BK327 0; have hcz34_1 : w32.cell? ⟨gb327, 1, none⟩ = some (.int .i64 a1_1) := bc BK327 1; have hcz34_2 : w32.cell? ⟨gb327, 2, none⟩ = some (.int .i64 a1_2) := bc BK327 2; have hcz34_3 : w32.cell? ⟨gb327, 3, none⟩ = some (.int .i64 a1_3) := bc BK327 3; have hfz34_0 := blk_frozen BK327.out 0; have hfz34_1 := blk_frozen BK327.out 1; have hfz34_2 := blk_frozen BK327.out 2; have hfz34_3 := blk_frozen BK327.out 3; have hcz35_0 : w32.cell? ⟨gb328, 0, none⟩ = some (.int .i64 0) := bc BK328 0; have hcz35_1 : w32.cell? ⟨gb328, 1, none⟩ = some (.int .i64 0) := bc BK328 1; have hcz35_2 : w32.cell? ⟨gb328, 2, none⟩ = some (.int .i64 0) := bc BK328 2; have hcz35_3 : w32.cell? ⟨gb328, 3, none⟩ = some (.int .i64 0) := bc BK328 3; have hfz35_0 := blk_frozen BK328.out 0; have hfz35_1 := blk_frozen BK328.out 1; have hfz35_2 := blk_frozen BK328.out 2; have hfz35_3 := blk_frozen BK328.out 3))
     refine bodyPost_ret (results_cell_row rfl _ _ gb328 25 #[.int .i64 a1_0, .int .i64 a1_1, .int .i64 a1_2, .int .i64 a1_3] (0, 0) _ rfl (by (with_reducible repeat (first | refine blk_drewN ?_ _ | refine blk_drew ?_ | refine blk_alloc ?_ _)); refine blk_put (cs := #[.int .i64 a1_0, .int .i64 a1_1, .int .i64 a1_2, .int .i64 0]) ?_ 3 _ rfl; (with_reducible repeat (first | refine blk_drewN ?_ _ | refine blk_drew ?_ | refine blk_alloc ?_ _)); refine blk_put (cs := #[.int .i64 a1_0, .int .i64 a1_1, .int .i64 0, .int .i64 0]) ?_ 2 _ rfl; (with_reducible repeat (first | refine blk_drewN ?_ _ | refine blk_drew ?_ | refine blk_alloc ?_ _)); refine blk_put (cs := #[.int .i64 a1_0, .int .i64 0, .int .i64 0, .int .i64 0]) ?_ 1 _ rfl; (with_reducible repeat (first | refine blk_drewN ?_ _ | refine blk_drew ?_ | refine blk_alloc ?_ _)); refine blk_put (cs := #[.int .i64 0, .int .i64 0, .int .i64 0, .int .i64 0]) ?_ 0 _ rfl; (with_reducible repeat (first | refine blk_drewN ?_ _ | refine blk_drew ?_ | refine blk_alloc ?_ _)); exact BK328.out) Try.underlying25 rfl (by kernel_rfl)) rfl ?_
     exact ⟨by first | rfl | (simp [errW_none, errW_some] <;> rfl) | (simp [*, errW_none, errW_some] <;> rfl), hz3 HB.out GE326.out GE327.out GE328.out⟩
    ·replace c28 := Bool.eq_false_iff.mpr c28
     subst c28
     have H1 : ((impl_Val_none.f a1_0 a1_1 a1_2 a1_3).bind fun t336 => (if t336 = true then (some (a0_0, a0_1, a0_2, a0_3)) else ((impl_Val_span.f a0_0 a0_1 a0_2 a0_3).bind fun bt337 => ((impl_Val_span.f a1_0 a1_1 a1_2 a1_3).bind fun bt339 => ((impl_RangeJoin.f kj2 bt337.1 bt337.2 bt339.1 bt339.2).bind fun bt341 => ((impl_Val_rest.f a0_0 a0_1 a0_2 a0_3).bind fun bt343 => ((impl_Val_rest.f a1_0 a1_1 a1_2 a1_3).bind fun bt345 => ((impl_RestJoin.f kj2 bt343.1 bt343.2 bt345.1 bt345.2).bind fun bt347 => ((impl_ValMake.f kj2 bt341.1 bt341.2 bt347.1 bt347.2).bind fun bt349 => (some (bt349.1, bt349.2.1, bt349.2.2.1, bt349.2.2.2))))))))))) = some (r1, r2, r3, r4) := by rw [if_neg (show ¬ (false = true) by decide)] at H; exact H
     clear H
     have H := H1
     clear H1
     replace H := Option.bind_eq_some_iff.mp H
     obtain ⟨t336, A360, H⟩ := H
     replace H : (if t336 = true then (some (a0_0, a0_1, a0_2, a0_3)) else ((impl_Val_span.f a0_0 a0_1 a0_2 a0_3).bind fun bt337 => ((impl_Val_span.f a1_0 a1_1 a1_2 a1_3).bind fun bt339 => ((impl_RangeJoin.f kj2 bt337.1 bt337.2 bt339.1 bt339.2).bind fun bt341 => ((impl_Val_rest.f a0_0 a0_1 a0_2 a0_3).bind fun bt343 => ((impl_Val_rest.f a1_0 a1_1 a1_2 a1_3).bind fun bt345 => ((impl_RestJoin.f kj2 bt343.1 bt343.2 bt345.1 bt345.2).bind fun bt347 => ((impl_ValMake.f kj2 bt341.1 bt341.2 bt347.1 bt347.2).bind fun bt349 => (some (bt349.1, bt349.2.1, bt349.2.2.1, bt349.2.2.2)))))))))) = some (r1, r2, r3, r4) := H
     have A36 := Aside0.mk A360
     clear A360
     by_cases c37 : t336 = true
     ·subst c37
      have H1 : (some (a0_0, a0_1, a0_2, a0_3)) = some (r1, r2, r3, r4) := by rw [if_pos rfl] at H; exact H
      clear H
      have H := H1
      clear H1
      simp only [Option.some.injEq, Prod.mk.injEq] at H
      obtain ⟨rfl, rfl, rfl, rfl⟩ := H
      have hnb38 := NB326_327.out
      have hnc38 := NB327_326.out
      have hnb39 := NB326_328.out
      have hnc39 := NB328_326.out
      have hcz40_0 : wc.cell? ⟨gb326, 0, none⟩ = some (.int .i64 a0_0) := bc BK326 0
      have hcz40_1 : wc.cell? ⟨gb326, 1, none⟩ = some (.int .i64 a0_1) := bc BK326 1
      have hcz40_2 : wc.cell? ⟨gb326, 2, none⟩ = some (.int .i64 a0_2) := bc BK326 2
      have hcz40_3 : wc.cell? ⟨gb326, 3, none⟩ = some (.int .i64 a0_3) := bc BK326 3
      have hfz40_0 := blk_frozen BK326.out 0
      have hfz40_1 := blk_frozen BK326.out 1
      have hfz40_2 := blk_frozen BK326.out 2
      have hfz40_3 := blk_frozen BK326.out 3
      go_wp2_with (first | ((with_reducible refine gate_callee (f := 70) rfl ?_); refine goesL_ (some 17) rfl rfl Try.func70 (by kernel_rfl) rfl #[.agg #[.int .i64 a0_0, .int .i64 a0_1, .int .i64 a0_2, .int .i64 a0_3]] rfl mz ?_; (with_reducible refine (impl_Val_none.calls a0_0 a0_1 a0_2 a0_3 false _ A27.out).mono ?_); rintro e w41 ⟨rfl, hb⟩; refine ⟨_, rfl, ?_⟩; have n0_ := Aside0.mk (blk_below (g := gb326) (o := b4 a0_0 a0_1 a0_2 a0_3 25) (bz BK326.out) hb); have n1_ := Aside0.mk (blk_below (g := gb327) (o := b4 a1_0 a1_1 a1_2 a1_3 25) (bz BK327.out) hb); have n2_ := Aside0.mk (blk_below (g := gb328) (o := b4 0 0 0 0 25) (bz BK328.out) hb); have n3_ := Aside0.mk (below_step (hz3 HB.out GE326.out GE327.out GE328.out) hb); clear BK326; clear BK327; clear BK328; clear HB; have BK326 := n0_; have BK327 := n1_; have BK328 := n2_; have HB := n3_; clear n0_ n1_ n2_ n3_; (try clear hb); (try clear hb2); (try clear hk); (try clear hi); have hnb42 := NB327_328.out; have hnc42 := NB328_327.out; have hcz43_0 : w41.cell? ⟨gb327, 0, none⟩ = some (.int .i64 a1_0) := bc BK327 0; have hcz43_1 : w41.cell? ⟨gb327, 1, none⟩ = some (.int .i64 a1_1) := bc BK327 1; have hcz43_2 : w41.cell? ⟨gb327, 2, none⟩ = some (.int .i64 a1_2) := bc BK327 2; have hcz43_3 : w41.cell? ⟨gb327, 3, none⟩ = some (.int .i64 a1_3) := bc BK327 3; have hfz43_0 := blk_frozen BK327.out 0; have hfz43_1 := blk_frozen BK327.out 1; have hfz43_2 := blk_frozen BK327.out 2; have hfz43_3 := blk_frozen BK327.out 3) | ((with_reducible refine gate_callee (f := 70) rfl ?_); refine goesL_ (some 21) rfl rfl Try.func70 (by kernel_rfl) rfl #[.agg #[.int .i64 a1_0, .int .i64 a1_1, .int .i64 a1_2, .int .i64 a1_3]] rfl mz ?_; (with_reducible refine (impl_Val_none.calls a1_0 a1_1 a1_2 a1_3 true _ A36.out).mono ?_); rintro e w44 ⟨rfl, hb⟩; refine ⟨_, rfl, ?_⟩; have n0_ := Aside0.mk (blk_below (g := gb326) (o := b4 a0_0 a0_1 a0_2 a0_3 25) (bz BK326.out) hb); have n1_ := Aside0.mk (blk_below (g := gb327) (o := b4 a1_0 a1_1 a1_2 a1_3 25) (bz BK327.out) hb); have n2_ := Aside0.mk (blk_below (g := gb328) (o := b4 0 0 0 0 25) (bz BK328.out) hb); have n3_ := Aside0.mk (below_step (hz3 HB.out GE326.out GE327.out GE328.out) hb); clear BK326; clear BK327; clear BK328; clear HB; have BK326 := n0_; have BK327 := n1_; have BK328 := n2_; have HB := n3_; clear n0_ n1_ n2_ n3_; (try clear hb); (try clear hb2); (try clear hk); (try clear hi); have hcz45_0 : w44.cell? ⟨gb326, 0, none⟩ = some (.int .i64 a0_0) := bc BK326 0; have hcz45_1 : w44.cell? ⟨gb326, 1, none⟩ = some (.int .i64 a0_1) := bc BK326 1; have hcz45_2 : w44.cell? ⟨gb326, 2, none⟩ = some (.int .i64 a0_2) := bc BK326 2; have hcz45_3 : w44.cell? ⟨gb326, 3, none⟩ = some (.int .i64 a0_3) := bc BK326 3; have hfz45_0 := blk_frozen BK326.out 0; have hfz45_1 := blk_frozen BK326.out 1; have hfz45_2 := blk_frozen BK326.out 2; have hfz45_3 := blk_frozen BK326.out 3; have hcz46_0 : w44.cell? ⟨gb328, 0, none⟩ = some (.int .i64 0) := bc BK328 0; have hcz46_1 : w44.cell? ⟨gb328, 1, none⟩ = some (.int .i64 0) := bc BK328 1; have hcz46_2 : w44.cell? ⟨gb328, 2, none⟩ = some (.int .i64 0) := bc BK328 2; have hcz46_3 : w44.cell? ⟨gb328, 3, none⟩ = some (.int .i64 0) := bc BK328 3; have hfz46_0 := blk_frozen BK328.out 0; have hfz46_1 := blk_frozen BK328.out 1; have hfz46_2 := blk_frozen BK328.out 2; have hfz46_3 := blk_frozen BK328.out 3))
      refine bodyPost_ret (results_cell_row rfl _ _ gb328 25 #[.int .i64 a0_0, .int .i64 a0_1, .int .i64 a0_2, .int .i64 a0_3] (0, 0) _ rfl (by (with_reducible repeat (first | refine blk_drewN ?_ _ | refine blk_drew ?_ | refine blk_alloc ?_ _)); refine blk_put (cs := #[.int .i64 a0_0, .int .i64 a0_1, .int .i64 a0_2, .int .i64 0]) ?_ 3 _ rfl; (with_reducible repeat (first | refine blk_drewN ?_ _ | refine blk_drew ?_ | refine blk_alloc ?_ _)); refine blk_put (cs := #[.int .i64 a0_0, .int .i64 a0_1, .int .i64 0, .int .i64 0]) ?_ 2 _ rfl; (with_reducible repeat (first | refine blk_drewN ?_ _ | refine blk_drew ?_ | refine blk_alloc ?_ _)); refine blk_put (cs := #[.int .i64 a0_0, .int .i64 0, .int .i64 0, .int .i64 0]) ?_ 1 _ rfl; (with_reducible repeat (first | refine blk_drewN ?_ _ | refine blk_drew ?_ | refine blk_alloc ?_ _)); refine blk_put (cs := #[.int .i64 0, .int .i64 0, .int .i64 0, .int .i64 0]) ?_ 0 _ rfl; (with_reducible repeat (first | refine blk_drewN ?_ _ | refine blk_drew ?_ | refine blk_alloc ?_ _)); exact BK328.out) Try.underlying25 rfl (by kernel_rfl)) rfl ?_
      exact ⟨by first | rfl | (simp [errW_none, errW_some] <;> rfl) | (simp [*, errW_none, errW_some] <;> rfl), hz3 HB.out GE326.out GE327.out GE328.out⟩
     ·replace c37 := Bool.eq_false_iff.mpr c37
      subst c37
      have H1 : ((impl_Val_span.f a0_0 a0_1 a0_2 a0_3).bind fun bt337 => ((impl_Val_span.f a1_0 a1_1 a1_2 a1_3).bind fun bt339 => ((impl_RangeJoin.f kj2 bt337.1 bt337.2 bt339.1 bt339.2).bind fun bt341 => ((impl_Val_rest.f a0_0 a0_1 a0_2 a0_3).bind fun bt343 => ((impl_Val_rest.f a1_0 a1_1 a1_2 a1_3).bind fun bt345 => ((impl_RestJoin.f kj2 bt343.1 bt343.2 bt345.1 bt345.2).bind fun bt347 => ((impl_ValMake.f kj2 bt341.1 bt341.2 bt347.1 bt347.2).bind fun bt349 => (some (bt349.1, bt349.2.1, bt349.2.2.1, bt349.2.2.2))))))))) = some (r1, r2, r3, r4) := by rw [if_neg (show ¬ (false = true) by decide)] at H; exact H
      clear H
      have H := H1
      clear H1
      replace H := Option.bind_eq_some_iff.mp H
      obtain ⟨⟨t337, t338⟩, A470, H⟩ := H
      replace H : ((impl_Val_span.f a1_0 a1_1 a1_2 a1_3).bind fun bt339 => ((impl_RangeJoin.f kj2 t337 t338 bt339.1 bt339.2).bind fun bt341 => ((impl_Val_rest.f a0_0 a0_1 a0_2 a0_3).bind fun bt343 => ((impl_Val_rest.f a1_0 a1_1 a1_2 a1_3).bind fun bt345 => ((impl_RestJoin.f kj2 bt343.1 bt343.2 bt345.1 bt345.2).bind fun bt347 => ((impl_ValMake.f kj2 bt341.1 bt341.2 bt347.1 bt347.2).bind fun bt349 => (some (bt349.1, bt349.2.1, bt349.2.2.1, bt349.2.2.2)))))))) = some (r1, r2, r3, r4) := H
      have A47 := Aside0.mk A470
      clear A470
      replace H := Option.bind_eq_some_iff.mp H
      obtain ⟨⟨t339, t340⟩, A480, H⟩ := H
      replace H : ((impl_RangeJoin.f kj2 t337 t338 t339 t340).bind fun bt341 => ((impl_Val_rest.f a0_0 a0_1 a0_2 a0_3).bind fun bt343 => ((impl_Val_rest.f a1_0 a1_1 a1_2 a1_3).bind fun bt345 => ((impl_RestJoin.f kj2 bt343.1 bt343.2 bt345.1 bt345.2).bind fun bt347 => ((impl_ValMake.f kj2 bt341.1 bt341.2 bt347.1 bt347.2).bind fun bt349 => (some (bt349.1, bt349.2.1, bt349.2.2.1, bt349.2.2.2))))))) = some (r1, r2, r3, r4) := H
      have A48 := Aside0.mk A480
      clear A480
      replace H := Option.bind_eq_some_iff.mp H
      obtain ⟨⟨t341, t342⟩, A490, H⟩ := H
      replace H : ((impl_Val_rest.f a0_0 a0_1 a0_2 a0_3).bind fun bt343 => ((impl_Val_rest.f a1_0 a1_1 a1_2 a1_3).bind fun bt345 => ((impl_RestJoin.f kj2 bt343.1 bt343.2 bt345.1 bt345.2).bind fun bt347 => ((impl_ValMake.f kj2 t341 t342 bt347.1 bt347.2).bind fun bt349 => (some (bt349.1, bt349.2.1, bt349.2.2.1, bt349.2.2.2)))))) = some (r1, r2, r3, r4) := H
      have A49 := Aside0.mk A490
      clear A490
      replace H := Option.bind_eq_some_iff.mp H
      obtain ⟨⟨t343, t344⟩, A500, H⟩ := H
      replace H : ((impl_Val_rest.f a1_0 a1_1 a1_2 a1_3).bind fun bt345 => ((impl_RestJoin.f kj2 t343 t344 bt345.1 bt345.2).bind fun bt347 => ((impl_ValMake.f kj2 t341 t342 bt347.1 bt347.2).bind fun bt349 => (some (bt349.1, bt349.2.1, bt349.2.2.1, bt349.2.2.2))))) = some (r1, r2, r3, r4) := H
      have A50 := Aside0.mk A500
      clear A500
      replace H := Option.bind_eq_some_iff.mp H
      obtain ⟨⟨t345, t346⟩, A510, H⟩ := H
      replace H : ((impl_RestJoin.f kj2 t343 t344 t345 t346).bind fun bt347 => ((impl_ValMake.f kj2 t341 t342 bt347.1 bt347.2).bind fun bt349 => (some (bt349.1, bt349.2.1, bt349.2.2.1, bt349.2.2.2)))) = some (r1, r2, r3, r4) := H
      have A51 := Aside0.mk A510
      clear A510
      replace H := Option.bind_eq_some_iff.mp H
      obtain ⟨⟨t347, t348⟩, A520, H⟩ := H
      replace H : ((impl_ValMake.f kj2 t341 t342 t347 t348).bind fun bt349 => (some (bt349.1, bt349.2.1, bt349.2.2.1, bt349.2.2.2))) = some (r1, r2, r3, r4) := H
      have A52 := Aside0.mk A520
      clear A520
      replace H := Option.bind_eq_some_iff.mp H
      obtain ⟨⟨t349, t350, t351, t352⟩, A530, H⟩ := H
      replace H : (some (t349, t350, t351, t352)) = some (r1, r2, r3, r4) := H
      have A53 := Aside0.mk A530
      clear A530
      simp only [Option.some.injEq, Prod.mk.injEq] at H
      obtain ⟨rfl, rfl, rfl, rfl⟩ := H
      have hnb54 := NB326_327.out
      have hnc54 := NB327_326.out
      have hnb55 := NB326_328.out
      have hnc55 := NB328_326.out
      have hcz56_0 : wc.cell? ⟨gb326, 0, none⟩ = some (.int .i64 a0_0) := bc BK326 0
      have hcz56_1 : wc.cell? ⟨gb326, 1, none⟩ = some (.int .i64 a0_1) := bc BK326 1
      have hcz56_2 : wc.cell? ⟨gb326, 2, none⟩ = some (.int .i64 a0_2) := bc BK326 2
      have hcz56_3 : wc.cell? ⟨gb326, 3, none⟩ = some (.int .i64 a0_3) := bc BK326 3
      have hfz56_0 := blk_frozen BK326.out 0
      have hfz56_1 := blk_frozen BK326.out 1
      have hfz56_2 := blk_frozen BK326.out 2
      have hfz56_3 := blk_frozen BK326.out 3
      try go_wp2_with (first | ((with_reducible refine gate_callee (f := 70) rfl ?_); refine goesL_ (some 17) rfl rfl Try.func70 (by kernel_rfl) rfl #[.agg #[.int .i64 a0_0, .int .i64 a0_1, .int .i64 a0_2, .int .i64 a0_3]] rfl mz ?_; (with_reducible refine (impl_Val_none.calls a0_0 a0_1 a0_2 a0_3 false _ A27.out).mono ?_); rintro e w57 ⟨rfl, hb⟩; refine ⟨_, rfl, ?_⟩; have n0_ := Aside0.mk (blk_below (g := gb326) (o := b4 a0_0 a0_1 a0_2 a0_3 25) (bz BK326.out) hb); have n1_ := Aside0.mk (blk_below (g := gb327) (o := b4 a1_0 a1_1 a1_2 a1_3 25) (bz BK327.out) hb); have n2_ := Aside0.mk (blk_below (g := gb328) (o := b4 0 0 0 0 25) (bz BK328.out) hb); have n3_ := Aside0.mk (below_step (hz3 HB.out GE326.out GE327.out GE328.out) hb); clear BK326; clear BK327; clear BK328; clear HB; have BK326 := n0_; have BK327 := n1_; have BK328 := n2_; have HB := n3_; clear n0_ n1_ n2_ n3_; (try clear hb); (try clear hb2); (try clear hk); (try clear hi); have hnb58 := NB327_328.out; have hnc58 := NB328_327.out; have hcz59_0 : w57.cell? ⟨gb327, 0, none⟩ = some (.int .i64 a1_0) := bc BK327 0; have hcz59_1 : w57.cell? ⟨gb327, 1, none⟩ = some (.int .i64 a1_1) := bc BK327 1; have hcz59_2 : w57.cell? ⟨gb327, 2, none⟩ = some (.int .i64 a1_2) := bc BK327 2; have hcz59_3 : w57.cell? ⟨gb327, 3, none⟩ = some (.int .i64 a1_3) := bc BK327 3; have hfz59_0 := blk_frozen BK327.out 0; have hfz59_1 := blk_frozen BK327.out 1; have hfz59_2 := blk_frozen BK327.out 2; have hfz59_3 := blk_frozen BK327.out 3) | ((with_reducible refine gate_callee (f := 70) rfl ?_); refine goesL_ (some 21) rfl rfl Try.func70 (by kernel_rfl) rfl #[.agg #[.int .i64 a1_0, .int .i64 a1_1, .int .i64 a1_2, .int .i64 a1_3]] rfl mz ?_; (with_reducible refine (impl_Val_none.calls a1_0 a1_1 a1_2 a1_3 false _ A36.out).mono ?_); rintro e w60 ⟨rfl, hb⟩; refine ⟨_, rfl, ?_⟩; have n0_ := Aside0.mk (blk_below (g := gb326) (o := b4 a0_0 a0_1 a0_2 a0_3 25) (bz BK326.out) hb); have n1_ := Aside0.mk (blk_below (g := gb327) (o := b4 a1_0 a1_1 a1_2 a1_3 25) (bz BK327.out) hb); have n2_ := Aside0.mk (blk_below (g := gb328) (o := b4 0 0 0 0 25) (bz BK328.out) hb); have n3_ := Aside0.mk (below_step (hz3 HB.out GE326.out GE327.out GE328.out) hb); clear BK326; clear BK327; clear BK328; clear HB; have BK326 := n0_; have BK327 := n1_; have BK328 := n2_; have HB := n3_; clear n0_ n1_ n2_ n3_; (try clear hb); (try clear hb2); (try clear hk); (try clear hi)))
      have n0_ := Aside0.mk (blk_drew BK326.out)
      have n1_ := Aside0.mk (blk_drew BK327.out)
      have n2_ := Aside0.mk (blk_drew BK328.out)
      have n3_ := Aside0.mk (below_drew1 HB.out)
      clear BK326
      clear BK327
      clear BK328
      clear HB
      have BK326 := n0_
      have BK327 := n1_
      have BK328 := n2_
      have HB := n3_
      clear n0_ n1_ n2_ n3_
      refine start_ (n := 12) (S := fun w' => w'.cell? ⟨gb326, 0, none⟩ = some (.int .i64 a0_0) ∧ w'.cell? ⟨gb326, 1, none⟩ = some (.int .i64 a0_1) ∧ w'.cell? ⟨gb326, 2, none⟩ = some (.int .i64 a0_2) ∧ w'.cell? ⟨gb326, 3, none⟩ = some (.int .i64 a0_3) ∧ w'.cell? ⟨gb327, 0, none⟩ = some (.int .i64 a1_0) ∧ w'.cell? ⟨gb327, 1, none⟩ = some (.int .i64 a1_1) ∧ w'.cell? ⟨gb327, 2, none⟩ = some (.int .i64 a1_2) ∧ w'.cell? ⟨gb327, 3, none⟩ = some (.int .i64 a1_3)) (ds := []) #[F, F, F, F, F, F, F, F, F, F, F, F] (by kernel_rfl) rfl rfl ⟨bc BK326 0, bc BK326 1, bc BK326 2, bc BK326 3, bc BK327 0, bc BK327 1, bc BK327 2, bc BK327 3⟩ (fun hHeld => ?_); refine with_tabW impl_ValJoin.tab7 impl_ValJoin.bits7 (fun HT_ HW_ => ?_)
      generalize w60.drew = w61 at BK326 BK327 BK328 HB hHeld ⊢
      refine take_ (i := 0) (N := some 23) (v := ?_) (a' := ?_) #[T, F, F, F, F, F, F, F, F, F, F, F] rfl rfl (take_ofW HT_.out HW_.out (by kernel_rfl)) (fun _ _ _ h => h) (Or.inl ⟨by rfl, ?_⟩) hHeld ?_ ?_
      rotate_left
      ·rintro w' ⟨s0, s1, s2, s3, s4, s5, s6, s7⟩
       go_simp
       with_reducible rfl
      rotate_left
      ·exact pz
      refine take_ (i := 2) (N := some 25) (v := ?_) (a' := ?_) #[T, F, T, F, F, F, F, F, F, F, F, F] rfl rfl (take_ofW HT_.out HW_.out (by kernel_rfl)) (fun _ _ _ h => h) (Or.inl ⟨by rfl, ?_⟩) hHeld ?_ ?_
      rotate_left
      ·rintro w' ⟨s0, s1, s2, s3, s4, s5, s6, s7⟩
       go_simp
       with_reducible rfl
      rotate_left
      ·exact pz
      refine take_ (i := 5) (N := some 28) (v := ?_) (a' := ?_) #[T, F, T, F, F, T, F, F, F, F, F, F] rfl rfl (take_ofW HT_.out HW_.out (by kernel_rfl)) (fun _ _ _ h => h) (Or.inl ⟨by rfl, ?_⟩) hHeld ?_ ?_
      rotate_left
      ·rintro w' ⟨s0, s1, s2, s3, s4, s5, s6, s7⟩
       go_simp
       with_reducible rfl
      rotate_left
      ·exact pz
      refine take_ (i := 7) (N := some 30) (v := ?_) (a' := ?_) #[T, F, T, F, F, T, F, T, F, F, F, F] rfl rfl (take_ofW HT_.out HW_.out (by kernel_rfl)) (fun _ _ _ h => h) (Or.inl ⟨by rfl, ?_⟩) hHeld ?_ ?_
      rotate_left
      ·rintro w' ⟨s0, s1, s2, s3, s4, s5, s6, s7⟩
       go_simp
       with_reducible rfl
      rotate_left
      ·exact pz
      refine one_ (i := 1) (N := some 24) #[T, T, T, F, F, T, F, T, F, F, F, F] rfl rfl (one_of HT_.out (by kernel_rfl)) (by decide) (fun K hK => ?_)
      refine goes_ Try.func65 (by kernel_rfl) rfl #[.agg #[.int .i64 a0_0, .int .i64 a0_1, .int .i64 a0_2, .int .i64 a0_3]] (by rfl) rfl rfl mz ?_
      with_reducible refine (impl_Val_span.calls a0_0 a0_1 a0_2 a0_3 t337 t338 _ A47.out).mono ?_
      rintro e w62 ⟨rfl, hb⟩
      refine ⟨_, rfl, ?_⟩
      have n0_ := Aside0.mk (blk_below (g := gb326) (o := b4 a0_0 a0_1 a0_2 a0_3 25) (bz BK326.out) hb)
      have n1_ := Aside0.mk (blk_below (g := gb327) (o := b4 a1_0 a1_1 a1_2 a1_3 25) (bz BK327.out) hb)
      have n2_ := Aside0.mk (blk_below (g := gb328) (o := b4 0 0 0 0 25) (bz BK328.out) hb)
      have n3_ := Aside0.mk (below_step (hz3 HB.out GE326.out GE327.out GE328.out) hb)
      clear BK326
      clear BK327
      clear BK328
      clear HB
      have BK326 := n0_
      have BK327 := n1_
      have BK328 := n2_
      have HB := n3_
      clear n0_ n1_ n2_ n3_
      (try clear hb)
      (try clear hb2)
      (try clear hk)
      (try clear hi)
      refine hK.out _ _ ⟨bc BK326 0, bc BK326 1, bc BK326 2, bc BK326 3, bc BK327 0, bc BK327 1, bc BK327 2, bc BK327 3⟩ (fun hHeld => ?_)
      clear hK K
      refine norm_ (a' := ?_) ?_ ?_
      rotate_left
      ·show Act.put _ (some 24) _ = _
       simp only [Act.put, List.setIfInBounds_toArray, List.set_cons_zero, List.set_cons_succ, i64_w, i32_w]
       rfl
      refine one_ (i := 3) (N := some 26) #[T, T, T, T, F, T, F, T, F, F, F, F] rfl rfl (one_of HT_.out (by kernel_rfl)) (by decide) (fun K hK => ?_)
      refine goes_ Try.func65 (by kernel_rfl) rfl #[.agg #[.int .i64 a1_0, .int .i64 a1_1, .int .i64 a1_2, .int .i64 a1_3]] (by rfl) rfl rfl mz ?_
      with_reducible refine (impl_Val_span.calls a1_0 a1_1 a1_2 a1_3 t339 t340 _ A48.out).mono ?_
      rintro e w63 ⟨rfl, hb⟩
      refine ⟨_, rfl, ?_⟩
      have n0_ := Aside0.mk (blk_below (g := gb326) (o := b4 a0_0 a0_1 a0_2 a0_3 25) (bz BK326.out) hb)
      have n1_ := Aside0.mk (blk_below (g := gb327) (o := b4 a1_0 a1_1 a1_2 a1_3 25) (bz BK327.out) hb)
      have n2_ := Aside0.mk (blk_below (g := gb328) (o := b4 0 0 0 0 25) (bz BK328.out) hb)
      have n3_ := Aside0.mk (below_step (hz3 HB.out GE326.out GE327.out GE328.out) hb)
      clear BK326
      clear BK327
      clear BK328
      clear HB
      have BK326 := n0_
      have BK327 := n1_
      have BK328 := n2_
      have HB := n3_
      clear n0_ n1_ n2_ n3_
      (try clear hb)
      (try clear hb2)
      (try clear hk)
      (try clear hi)
      refine hK.out _ _ ⟨bc BK326 0, bc BK326 1, bc BK326 2, bc BK326 3, bc BK327 0, bc BK327 1, bc BK327 2, bc BK327 3⟩ (fun hHeld => ?_)
      clear hK K
      refine norm_ (a' := ?_) ?_ ?_
      rotate_left
      ·show Act.put _ (some 26) _ = _
       simp only [Act.put, List.setIfInBounds_toArray, List.set_cons_zero, List.set_cons_succ, i64_w, i32_w]
       rfl
      refine one_ (i := 4) (N := some 27) #[T, T, T, T, T, T, F, T, F, F, F, F] rfl rfl (one_of HT_.out (by kernel_rfl)) (by decide) (fun K hK => ?_)
      refine goes_ Try.func78 (by kernel_rfl) rfl #[.agg #[.int .i64 t337, .int .i64 t338], .agg #[.int .i64 t339, .int .i64 t340]] (by rfl) rfl rfl mz ?_
      with_reducible refine (impl_RangeJoin.calls kj2 t337 t338 t339 t340 t341 t342 _ A49.out).mono ?_
      rintro e w64 ⟨rfl, hb⟩
      refine ⟨_, rfl, ?_⟩
      have n0_ := Aside0.mk (blk_below (g := gb326) (o := b4 a0_0 a0_1 a0_2 a0_3 25) (bz BK326.out) hb)
      have n1_ := Aside0.mk (blk_below (g := gb327) (o := b4 a1_0 a1_1 a1_2 a1_3 25) (bz BK327.out) hb)
      have n2_ := Aside0.mk (blk_below (g := gb328) (o := b4 0 0 0 0 25) (bz BK328.out) hb)
      have n3_ := Aside0.mk (below_step (hz3 HB.out GE326.out GE327.out GE328.out) hb)
      clear BK326
      clear BK327
      clear BK328
      clear HB
      have BK326 := n0_
      have BK327 := n1_
      have BK328 := n2_
      have HB := n3_
      clear n0_ n1_ n2_ n3_
      (try clear hb)
      (try clear hb2)
      (try clear hk)
      (try clear hi)
      refine hK.out _ _ ⟨bc BK326 0, bc BK326 1, bc BK326 2, bc BK326 3, bc BK327 0, bc BK327 1, bc BK327 2, bc BK327 3⟩ (fun hHeld => ?_)
      clear hK K
      refine norm_ (a' := ?_) ?_ ?_
      rotate_left
      ·show Act.put _ (some 27) _ = _
       simp only [Act.put, List.setIfInBounds_toArray, List.set_cons_zero, List.set_cons_succ, i64_w, i32_w]
       rfl
      refine one_ (i := 6) (N := some 29) #[T, T, T, T, T, T, T, T, F, F, F, F] rfl rfl (one_of HT_.out (by kernel_rfl)) (by decide) (fun K hK => ?_)
      refine goes_ Try.func67 (by kernel_rfl) rfl #[.agg #[.int .i64 a0_0, .int .i64 a0_1, .int .i64 a0_2, .int .i64 a0_3]] (by rfl) rfl rfl mz ?_
      with_reducible refine (impl_Val_rest.calls a0_0 a0_1 a0_2 a0_3 t343 t344 _ A50.out).mono ?_
      rintro e w65 ⟨rfl, hb⟩
      refine ⟨_, rfl, ?_⟩
      have n0_ := Aside0.mk (blk_below (g := gb326) (o := b4 a0_0 a0_1 a0_2 a0_3 25) (bz BK326.out) hb)
      have n1_ := Aside0.mk (blk_below (g := gb327) (o := b4 a1_0 a1_1 a1_2 a1_3 25) (bz BK327.out) hb)
      have n2_ := Aside0.mk (blk_below (g := gb328) (o := b4 0 0 0 0 25) (bz BK328.out) hb)
      have n3_ := Aside0.mk (below_step (hz3 HB.out GE326.out GE327.out GE328.out) hb)
      clear BK326
      clear BK327
      clear BK328
      clear HB
      have BK326 := n0_
      have BK327 := n1_
      have BK328 := n2_
      have HB := n3_
      clear n0_ n1_ n2_ n3_
      (try clear hb)
      (try clear hb2)
      (try clear hk)
      (try clear hi)
      refine hK.out _ _ ⟨bc BK326 0, bc BK326 1, bc BK326 2, bc BK326 3, bc BK327 0, bc BK327 1, bc BK327 2, bc BK327 3⟩ (fun hHeld => ?_)
      clear hK K
      refine norm_ (a' := ?_) ?_ ?_
      rotate_left
      ·show Act.put _ (some 29) _ = _
       simp only [Act.put, List.setIfInBounds_toArray, List.set_cons_zero, List.set_cons_succ, i64_w, i32_w]
       rfl
      refine one_ (i := 8) (N := some 31) #[T, T, T, T, T, T, T, T, T, F, F, F] rfl rfl (one_of HT_.out (by kernel_rfl)) (by decide) (fun K hK => ?_)
      refine goes_ Try.func67 (by kernel_rfl) rfl #[.agg #[.int .i64 a1_0, .int .i64 a1_1, .int .i64 a1_2, .int .i64 a1_3]] (by rfl) rfl rfl mz ?_
      with_reducible refine (impl_Val_rest.calls a1_0 a1_1 a1_2 a1_3 t345 t346 _ A51.out).mono ?_
      rintro e w66 ⟨rfl, hb⟩
      refine ⟨_, rfl, ?_⟩
      have n0_ := Aside0.mk (blk_below (g := gb326) (o := b4 a0_0 a0_1 a0_2 a0_3 25) (bz BK326.out) hb)
      have n1_ := Aside0.mk (blk_below (g := gb327) (o := b4 a1_0 a1_1 a1_2 a1_3 25) (bz BK327.out) hb)
      have n2_ := Aside0.mk (blk_below (g := gb328) (o := b4 0 0 0 0 25) (bz BK328.out) hb)
      have n3_ := Aside0.mk (below_step (hz3 HB.out GE326.out GE327.out GE328.out) hb)
      clear BK326
      clear BK327
      clear BK328
      clear HB
      have BK326 := n0_
      have BK327 := n1_
      have BK328 := n2_
      have HB := n3_
      clear n0_ n1_ n2_ n3_
      (try clear hb)
      (try clear hb2)
      (try clear hk)
      (try clear hi)
      refine hK.out _ _ ⟨bc BK326 0, bc BK326 1, bc BK326 2, bc BK326 3, bc BK327 0, bc BK327 1, bc BK327 2, bc BK327 3⟩ (fun hHeld => ?_)
      clear hK K
      refine norm_ (a' := ?_) ?_ ?_
      rotate_left
      ·show Act.put _ (some 31) _ = _
       simp only [Act.put, List.setIfInBounds_toArray, List.set_cons_zero, List.set_cons_succ, i64_w, i32_w]
       rfl
      refine one_ (i := 9) (N := some 32) #[T, T, T, T, T, T, T, T, T, T, F, F] rfl rfl (one_of HT_.out (by kernel_rfl)) (by decide) (fun K hK => ?_)
      refine goes_ Try.func79 (by kernel_rfl) rfl #[.agg #[.int .i64 t343, .int .i64 t344], .agg #[.int .i64 t345, .int .i64 t346]] (by rfl) rfl rfl mz ?_
      with_reducible refine (impl_RestJoin.calls kj2 t343 t344 t345 t346 t347 t348 _ A52.out).mono ?_
      rintro e w67 ⟨rfl, hb⟩
      refine ⟨_, rfl, ?_⟩
      have n0_ := Aside0.mk (blk_below (g := gb326) (o := b4 a0_0 a0_1 a0_2 a0_3 25) (bz BK326.out) hb)
      have n1_ := Aside0.mk (blk_below (g := gb327) (o := b4 a1_0 a1_1 a1_2 a1_3 25) (bz BK327.out) hb)
      have n2_ := Aside0.mk (blk_below (g := gb328) (o := b4 0 0 0 0 25) (bz BK328.out) hb)
      have n3_ := Aside0.mk (below_step (hz3 HB.out GE326.out GE327.out GE328.out) hb)
      clear BK326
      clear BK327
      clear BK328
      clear HB
      have BK326 := n0_
      have BK327 := n1_
      have BK328 := n2_
      have HB := n3_
      clear n0_ n1_ n2_ n3_
      (try clear hb)
      (try clear hb2)
      (try clear hk)
      (try clear hi)
      refine hK.out _ _ ⟨bc BK326 0, bc BK326 1, bc BK326 2, bc BK326 3, bc BK327 0, bc BK327 1, bc BK327 2, bc BK327 3⟩ (fun hHeld => ?_)
      clear hK K
      refine norm_ (a' := ?_) ?_ ?_
      rotate_left
      ·show Act.put _ (some 32) _ = _
       simp only [Act.put, List.setIfInBounds_toArray, List.set_cons_zero, List.set_cons_succ, i64_w, i32_w]
       rfl
      refine one_ (i := 10) (N := some 33) #[T, T, T, T, T, T, T, T, T, T, T, F] rfl rfl (one_of HT_.out (by kernel_rfl)) (by decide) (fun K hK => ?_)
      refine goes_ Try.func77 (by kernel_rfl) rfl #[.agg #[.int .i64 t341, .int .i64 t342], .agg #[.int .i64 t347, .int .i64 t348]] (by rfl) rfl rfl mz ?_
      with_reducible refine (impl_ValMake.calls kj2 t341 t342 t347 t348 t349 t350 t351 t352 _ A53.out).mono ?_
      rintro e w68 ⟨rfl, hb⟩
      refine ⟨_, rfl, ?_⟩
      have n0_ := Aside0.mk (blk_below (g := gb326) (o := b4 a0_0 a0_1 a0_2 a0_3 25) (bz BK326.out) hb)
      have n1_ := Aside0.mk (blk_below (g := gb327) (o := b4 a1_0 a1_1 a1_2 a1_3 25) (bz BK327.out) hb)
      have n2_ := Aside0.mk (blk_below (g := gb328) (o := b4 0 0 0 0 25) (bz BK328.out) hb)
      have n3_ := Aside0.mk (below_step (hz3 HB.out GE326.out GE327.out GE328.out) hb)
      clear BK326
      clear BK327
      clear BK328
      clear HB
      have BK326 := n0_
      have BK327 := n1_
      have BK328 := n2_
      have HB := n3_
      clear n0_ n1_ n2_ n3_
      (try clear hb)
      (try clear hb2)
      (try clear hk)
      (try clear hi)
      refine hK.out _ _ ⟨bc BK326 0, bc BK326 1, bc BK326 2, bc BK326 3, bc BK327 0, bc BK327 1, bc BK327 2, bc BK327 3⟩ (fun hHeld => ?_)
      clear hK K
      refine norm_ (a' := ?_) ?_ ?_
      rotate_left
      ·show Act.put _ (some 33) _ = _
       simp only [Act.put, List.setIfInBounds_toArray, List.set_cons_zero, List.set_cons_succ, i64_w, i32_w]
       rfl
      refine one_ (i := 11) (N := none) #[T, T, T, T, T, T, T, T, T, T, T, T] rfl rfl (one_of HT_.out (by kernel_rfl)) (by decide) (fun K hK => ?_)
      have hs69 : w68.cell? ⟨gb328, 0, none⟩ = some (.int .i64 0) := bc BK328 0
      have hfs69 := blk_frozen BK328.out 0
      have hns69_0 := NB326_328.out
      have hns69_1 := NB327_328.out
      have hms69_0 := NB328_326.out
      have hms69_1 := NB328_327.out
      have hs70 : w68.cell? ⟨gb328, 1, none⟩ = some (.int .i64 0) := bc BK328 1
      have hfs70 := blk_frozen BK328.out 1
      have hns70_0 := NB326_328.out
      have hns70_1 := NB327_328.out
      have hms70_0 := NB328_326.out
      have hms70_1 := NB328_327.out
      have hs71 : w68.cell? ⟨gb328, 2, none⟩ = some (.int .i64 0) := bc BK328 2
      have hfs71 := blk_frozen BK328.out 2
      have hns71_0 := NB326_328.out
      have hns71_1 := NB327_328.out
      have hms71_0 := NB328_326.out
      have hms71_1 := NB328_327.out
      have hs72 : w68.cell? ⟨gb328, 3, none⟩ = some (.int .i64 0) := bc BK328 3
      have hfs72 := blk_frozen BK328.out 3
      have hns72_0 := NB326_328.out
      have hns72_1 := NB327_328.out
      have hms72_0 := NB328_326.out
      have hms72_1 := NB328_327.out
      refine skip_ (w1 := ?_) (by rfl) rfl ?_ ?_
      rotate_left
      ·go_simp
       rfl
      refine hK.out _ _ ⟨((cell_far (p := ⟨gb328, _, none⟩) NB326_328.out _).trans (((cell_far (p := ⟨gb328, _, none⟩) NB326_328.out _).trans (((cell_far (p := ⟨gb328, _, none⟩) NB326_328.out _).trans (((cell_far (p := ⟨gb328, _, none⟩) NB326_328.out _).trans (hHeld.1)))))))), ((cell_far (p := ⟨gb328, _, none⟩) NB326_328.out _).trans (((cell_far (p := ⟨gb328, _, none⟩) NB326_328.out _).trans (((cell_far (p := ⟨gb328, _, none⟩) NB326_328.out _).trans (((cell_far (p := ⟨gb328, _, none⟩) NB326_328.out _).trans (hHeld.2.1)))))))), ((cell_far (p := ⟨gb328, _, none⟩) NB326_328.out _).trans (((cell_far (p := ⟨gb328, _, none⟩) NB326_328.out _).trans (((cell_far (p := ⟨gb328, _, none⟩) NB326_328.out _).trans (((cell_far (p := ⟨gb328, _, none⟩) NB326_328.out _).trans (hHeld.2.2.1)))))))), ((cell_far (p := ⟨gb328, _, none⟩) NB326_328.out _).trans (((cell_far (p := ⟨gb328, _, none⟩) NB326_328.out _).trans (((cell_far (p := ⟨gb328, _, none⟩) NB326_328.out _).trans (((cell_far (p := ⟨gb328, _, none⟩) NB326_328.out _).trans (hHeld.2.2.2.1)))))))), ((cell_far (p := ⟨gb328, _, none⟩) NB327_328.out _).trans (((cell_far (p := ⟨gb328, _, none⟩) NB327_328.out _).trans (((cell_far (p := ⟨gb328, _, none⟩) NB327_328.out _).trans (((cell_far (p := ⟨gb328, _, none⟩) NB327_328.out _).trans (hHeld.2.2.2.2.1)))))))), ((cell_far (p := ⟨gb328, _, none⟩) NB327_328.out _).trans (((cell_far (p := ⟨gb328, _, none⟩) NB327_328.out _).trans (((cell_far (p := ⟨gb328, _, none⟩) NB327_328.out _).trans (((cell_far (p := ⟨gb328, _, none⟩) NB327_328.out _).trans (hHeld.2.2.2.2.2.1)))))))), ((cell_far (p := ⟨gb328, _, none⟩) NB327_328.out _).trans (((cell_far (p := ⟨gb328, _, none⟩) NB327_328.out _).trans (((cell_far (p := ⟨gb328, _, none⟩) NB327_328.out _).trans (((cell_far (p := ⟨gb328, _, none⟩) NB327_328.out _).trans (hHeld.2.2.2.2.2.2.1)))))))), ((cell_far (p := ⟨gb328, _, none⟩) NB327_328.out _).trans (((cell_far (p := ⟨gb328, _, none⟩) NB327_328.out _).trans (((cell_far (p := ⟨gb328, _, none⟩) NB327_328.out _).trans (((cell_far (p := ⟨gb328, _, none⟩) NB327_328.out _).trans (hHeld.2.2.2.2.2.2.2))))))))⟩ (fun hHeld => ?_)
      clear hK K
      refine done_ (done_of HT_.out (by kernel_rfl)) ?_
      try go_wp2
      refine bodyPost_ret (results_cell_row rfl _ _ gb328 25 #[.int .i64 t349, .int .i64 t350, .int .i64 t351, .int .i64 t352] (0, 0) _ rfl (by (with_reducible repeat (first | refine blk_drewN ?_ _ | refine blk_drew ?_ | refine blk_alloc ?_ _)); refine blk_put (cs := #[.int .i64 t349, .int .i64 t350, .int .i64 t351, .int .i64 0]) ?_ 3 _ rfl; (with_reducible repeat (first | refine blk_drewN ?_ _ | refine blk_drew ?_ | refine blk_alloc ?_ _)); refine blk_put (cs := #[.int .i64 t349, .int .i64 t350, .int .i64 0, .int .i64 0]) ?_ 2 _ rfl; (with_reducible repeat (first | refine blk_drewN ?_ _ | refine blk_drew ?_ | refine blk_alloc ?_ _)); refine blk_put (cs := #[.int .i64 t349, .int .i64 0, .int .i64 0, .int .i64 0]) ?_ 1 _ rfl; (with_reducible repeat (first | refine blk_drewN ?_ _ | refine blk_drew ?_ | refine blk_alloc ?_ _)); refine blk_put (cs := #[.int .i64 0, .int .i64 0, .int .i64 0, .int .i64 0]) ?_ 0 _ rfl; (with_reducible repeat (first | refine blk_drewN ?_ _ | refine blk_drew ?_ | refine blk_alloc ?_ _)); exact BK328.out) Try.underlying25 rfl (by kernel_rfl)) rfl ?_
      exact ⟨by first | rfl | (simp [errW_none, errW_some] <;> rfl) | (simp [*, errW_none, errW_some] <;> rfl), hz3 HB.out GE326.out GE327.out GE328.out⟩

/-! ### laws_eqVal: function 22 -/
def laws_eqVal.f (a0_0 : Int) (a0_1 : Int) (a0_2 : Int) (a0_3 : Int) (a1_0 : Int) (a1_1 : Int) (a1_2 : Int) (a1_3 : Int) : Option (Bool) := if a0_0 = a1_0 then (if a0_1 = a1_1 then (if a0_2 = a1_2 then (if a0_3 = a1_3 then (some true) else (some false)) else (some false)) else (some false)) else (some false)
set_option maxHeartbeats 8000000 in
set_option maxRecDepth 100000 in
theorem laws_eqVal.calls (a0_0 : Int) (a0_1 : Int) (a0_2 : Int) (a0_3 : Int) (a1_0 : Int) (a1_1 : Int) (a1_2 : Int) (a1_3 : Int) (r : Bool) (w : World) (h : laws_eqVal.f a0_0 a0_1 a0_2 a0_3 a1_0 a1_1 a1_2 a1_3 = some r) :
  Calls Try.prog 22 #[.agg #[.int .i64 a0_0, .int .i64 a0_1, .int .i64 a0_2, .int .i64 a0_3], .agg #[.int .i64 a1_0, .int .i64 a1_1, .int .i64 a1_2, .int .i64 a1_3]] w fun e w' => e = .returned (.bool r) ∧ Below w.heap.size w w' := by
 have hu25 := Try.underlying25
 have HB := Aside0.mk (Below.refl w.heap.size w)
 have H : (if a0_0 = a1_0 then (if a0_1 = a1_1 then (if a0_2 = a1_2 then (if a0_3 = a1_3 then (some true) else (some false)) else (some false)) else (some false)) else (some false)) = some r := h
 clear h
 by_cases c3 : a0_0 = a1_0
 ·rw [if_pos c3] at H
  have c3b0 : (a0_0 == a1_0) = true := beq_iff_eq.mpr c3
  have c3b1 : (a0_0 != a1_0) = false := bne_eq_false_iff_eq.mpr c3
  clear c3
  by_cases c4 : a0_1 = a1_1
  ·rw [if_pos c4] at H
   have c4b0 : (a0_1 == a1_1) = true := beq_iff_eq.mpr c4
   have c4b1 : (a0_1 != a1_1) = false := bne_eq_false_iff_eq.mpr c4
   clear c4
   by_cases c5 : a0_2 = a1_2
   ·rw [if_pos c5] at H
    have c5b0 : (a0_2 == a1_2) = true := beq_iff_eq.mpr c5
    have c5b1 : (a0_2 != a1_2) = false := bne_eq_false_iff_eq.mpr c5
    clear c5
    by_cases c6 : a0_3 = a1_3
    ·rw [if_pos c6] at H
     have c6b0 : (a0_3 == a1_3) = true := beq_iff_eq.mpr c6
     have c6b1 : (a0_3 != a1_3) = false := bne_eq_false_iff_eq.mpr c6
     clear c6
     obtain rfl := Option.some.inj H
     go_enter Try.func22, Try.ntmps22
     go_wp2_with (first | ((with_reducible refine gate_dst (N := 2) rfl ?_); refine box_event ?hg (N := 2) ?hd (cs := #[.int .i64 a0_0, .int .i64 a0_1, .int .i64 a0_2, .int .i64 a0_3]) (t := 25) ?hr ?_; (case hd => rfl); (case hg => rfl); (case hr => first | (go_simp; done) | (go_simp; rfl)); intro gb353 hg w7 hbox hb; have n0_ := Aside0.mk (below_step (hz HB.out) hb); have n1_ := Aside0.mk (hbox); have n2_ := Aside0.mk ((by rw [hg]; exact (below_size (hz HB.out)) : w.heap.size ≤ gb353)); have n3_ := Aside0.mk ((by rw [hg]; exact (below_size (hz HB.out)) : w.heap.size ≤ gb353)); clear HB; have HB := n0_; have BK353 := n1_; have GW353 := n2_; have GE353 := n3_; clear n0_ n1_ n2_ n3_; clear hb hbox hg) | ((with_reducible refine gate_dst (N := 3) rfl ?_); refine box_event ?hg (N := 3) ?hd (cs := #[.int .i64 a1_0, .int .i64 a1_1, .int .i64 a1_2, .int .i64 a1_3]) (t := 25) ?hr ?_; (case hd => rfl); (case hg => rfl); (case hr => first | (go_simp; done) | (go_simp; rfl)); intro gb354 hg w8 hbox hb; have n0_ := Aside0.mk (blk_below (g := gb353) (o := b4 a0_0 a0_1 a0_2 a0_3 25) (bz BK353.out) hb); have n1_ := Aside0.mk (below_step (hz1 HB.out GE353.out) hb); have n2_ := Aside0.mk (hbox); have n3_ := Aside0.mk ((by rw [hg]; exact (below_size (hz1 HB.out GE353.out)) : w.heap.size ≤ gb354)); have n4_ := Aside0.mk ((by rw [hg]; exact (below_size (hz1 HB.out GE353.out)) : w.heap.size ≤ gb354)); have n5_ := Aside0.mk ((by rw [hg]; exact Nat.ne_of_lt (blk_lt (g := gb353) (o := b4 a0_0 a0_1 a0_2 a0_3 25) (bz BK353.out)) : gb353 ≠ gb354)); have n6_ := Aside0.mk ((by rw [hg]; exact Nat.ne_of_gt (blk_lt (g := gb353) (o := b4 a0_0 a0_1 a0_2 a0_3 25) (bz BK353.out)) : gb354 ≠ gb353)); clear BK353; clear HB; have BK353 := n0_; have HB := n1_; have BK354 := n2_; have GW354 := n3_; have GE354 := n4_; have NB353_354 := n5_; have NB354_353 := n6_; clear n0_ n1_ n2_ n3_ n4_ n5_ n6_; clear hb hbox hg; have hnb9 := NB353_354.out; have hnc9 := NB354_353.out; have hcz10_0 : w8.cell? ⟨gb353, 0, none⟩ = some (.int .i64 a0_0) := bc BK353 0; have hcz10_1 : w8.cell? ⟨gb353, 1, none⟩ = some (.int .i64 a0_1) := bc BK353 1; have hcz10_2 : w8.cell? ⟨gb353, 2, none⟩ = some (.int .i64 a0_2) := bc BK353 2; have hcz10_3 : w8.cell? ⟨gb353, 3, none⟩ = some (.int .i64 a0_3) := bc BK353 3; have hfz10_0 := blk_frozen BK353.out 0; have hfz10_1 := blk_frozen BK353.out 1; have hfz10_2 := blk_frozen BK353.out 2; have hfz10_3 := blk_frozen BK353.out 3; have hcz11_0 : w8.cell? ⟨gb354, 0, none⟩ = some (.int .i64 a1_0) := bc BK354 0; have hcz11_1 : w8.cell? ⟨gb354, 1, none⟩ = some (.int .i64 a1_1) := bc BK354 1; have hcz11_2 : w8.cell? ⟨gb354, 2, none⟩ = some (.int .i64 a1_2) := bc BK354 2; have hcz11_3 : w8.cell? ⟨gb354, 3, none⟩ = some (.int .i64 a1_3) := bc BK354 3; have hfz11_0 := blk_frozen BK354.out 0; have hfz11_1 := blk_frozen BK354.out 1; have hfz11_2 := blk_frozen BK354.out 2; have hfz11_3 := blk_frozen BK354.out 3))
     go_ret
     exact ⟨by first | rfl | (simp [errW_none, errW_some] <;> rfl) | (simp [*, errW_none, errW_some] <;> rfl), hz2 HB.out GE353.out GE354.out⟩
    ·rw [if_neg c6] at H
     have c6b0 : (a0_3 == a1_3) = false := beq_eq_false_iff_ne.mpr c6
     have c6b1 : (a0_3 != a1_3) = true := bne_iff_ne.mpr c6
     obtain rfl := Option.some.inj H
     go_enter Try.func22, Try.ntmps22
     go_wp2_with (first | ((with_reducible refine gate_dst (N := 2) rfl ?_); refine box_event ?hg (N := 2) ?hd (cs := #[.int .i64 a0_0, .int .i64 a0_1, .int .i64 a0_2, .int .i64 a0_3]) (t := 25) ?hr ?_; (case hd => rfl); (case hg => rfl); (case hr => first | (go_simp; done) | (go_simp; rfl)); intro gb353 hg w12 hbox hb; have n0_ := Aside0.mk (below_step (hz HB.out) hb); have n1_ := Aside0.mk (hbox); have n2_ := Aside0.mk ((by rw [hg]; exact (below_size (hz HB.out)) : w.heap.size ≤ gb353)); have n3_ := Aside0.mk ((by rw [hg]; exact (below_size (hz HB.out)) : w.heap.size ≤ gb353)); clear HB; have HB := n0_; have BK353 := n1_; have GW353 := n2_; have GE353 := n3_; clear n0_ n1_ n2_ n3_; clear hb hbox hg) | ((with_reducible refine gate_dst (N := 3) rfl ?_); refine box_event ?hg (N := 3) ?hd (cs := #[.int .i64 a1_0, .int .i64 a1_1, .int .i64 a1_2, .int .i64 a1_3]) (t := 25) ?hr ?_; (case hd => rfl); (case hg => rfl); (case hr => first | (go_simp; done) | (go_simp; rfl)); intro gb354 hg w13 hbox hb; have n0_ := Aside0.mk (blk_below (g := gb353) (o := b4 a0_0 a0_1 a0_2 a0_3 25) (bz BK353.out) hb); have n1_ := Aside0.mk (below_step (hz1 HB.out GE353.out) hb); have n2_ := Aside0.mk (hbox); have n3_ := Aside0.mk ((by rw [hg]; exact (below_size (hz1 HB.out GE353.out)) : w.heap.size ≤ gb354)); have n4_ := Aside0.mk ((by rw [hg]; exact (below_size (hz1 HB.out GE353.out)) : w.heap.size ≤ gb354)); have n5_ := Aside0.mk ((by rw [hg]; exact Nat.ne_of_lt (blk_lt (g := gb353) (o := b4 a0_0 a0_1 a0_2 a0_3 25) (bz BK353.out)) : gb353 ≠ gb354)); have n6_ := Aside0.mk ((by rw [hg]; exact Nat.ne_of_gt (blk_lt (g := gb353) (o := b4 a0_0 a0_1 a0_2 a0_3 25) (bz BK353.out)) : gb354 ≠ gb353)); clear BK353; clear HB; have BK353 := n0_; have HB := n1_; have BK354 := n2_; have GW354 := n3_; have GE354 := n4_; have NB353_354 := n5_; have NB354_353 := n6_; clear n0_ n1_ n2_ n3_ n4_ n5_ n6_; clear hb hbox hg; have hnb14 := NB353_354.out; have hnc14 := NB354_353.out; have hcz15_0 : w13.cell? ⟨gb353, 0, none⟩ = some (.int .i64 a0_0) := bc BK353 0; have hcz15_1 : w13.cell? ⟨gb353, 1, none⟩ = some (.int .i64 a0_1) := bc BK353 1; have hcz15_2 : w13.cell? ⟨gb353, 2, none⟩ = some (.int .i64 a0_2) := bc BK353 2; have hcz15_3 : w13.cell? ⟨gb353, 3, none⟩ = some (.int .i64 a0_3) := bc BK353 3; have hfz15_0 := blk_frozen BK353.out 0; have hfz15_1 := blk_frozen BK353.out 1; have hfz15_2 := blk_frozen BK353.out 2; have hfz15_3 := blk_frozen BK353.out 3; have hcz16_0 : w13.cell? ⟨gb354, 0, none⟩ = some (.int .i64 a1_0) := bc BK354 0; have hcz16_1 : w13.cell? ⟨gb354, 1, none⟩ = some (.int .i64 a1_1) := bc BK354 1; have hcz16_2 : w13.cell? ⟨gb354, 2, none⟩ = some (.int .i64 a1_2) := bc BK354 2; have hcz16_3 : w13.cell? ⟨gb354, 3, none⟩ = some (.int .i64 a1_3) := bc BK354 3; have hfz16_0 := blk_frozen BK354.out 0; have hfz16_1 := blk_frozen BK354.out 1; have hfz16_2 := blk_frozen BK354.out 2; have hfz16_3 := blk_frozen BK354.out 3))
     go_ret
     exact ⟨by first | rfl | (simp [errW_none, errW_some] <;> rfl) | (simp [*, errW_none, errW_some] <;> rfl), hz2 HB.out GE353.out GE354.out⟩
   ·rw [if_neg c5] at H
    have c5b0 : (a0_2 == a1_2) = false := beq_eq_false_iff_ne.mpr c5
    have c5b1 : (a0_2 != a1_2) = true := bne_iff_ne.mpr c5
    obtain rfl := Option.some.inj H
    go_enter Try.func22, Try.ntmps22
    go_wp2_with (first | ((with_reducible refine gate_dst (N := 2) rfl ?_); refine box_event ?hg (N := 2) ?hd (cs := #[.int .i64 a0_0, .int .i64 a0_1, .int .i64 a0_2, .int .i64 a0_3]) (t := 25) ?hr ?_; (case hd => rfl); (case hg => rfl); (case hr => first | (go_simp; done) | (go_simp; rfl)); intro gb353 hg w17 hbox hb; have n0_ := Aside0.mk (below_step (hz HB.out) hb); have n1_ := Aside0.mk (hbox); have n2_ := Aside0.mk ((by rw [hg]; exact (below_size (hz HB.out)) : w.heap.size ≤ gb353)); have n3_ := Aside0.mk ((by rw [hg]; exact (below_size (hz HB.out)) : w.heap.size ≤ gb353)); clear HB; have HB := n0_; have BK353 := n1_; have GW353 := n2_; have GE353 := n3_; clear n0_ n1_ n2_ n3_; clear hb hbox hg) | ((with_reducible refine gate_dst (N := 3) rfl ?_); refine box_event ?hg (N := 3) ?hd (cs := #[.int .i64 a1_0, .int .i64 a1_1, .int .i64 a1_2, .int .i64 a1_3]) (t := 25) ?hr ?_; (case hd => rfl); (case hg => rfl); (case hr => first | (go_simp; done) | (go_simp; rfl)); intro gb354 hg w18 hbox hb; have n0_ := Aside0.mk (blk_below (g := gb353) (o := b4 a0_0 a0_1 a0_2 a0_3 25) (bz BK353.out) hb); have n1_ := Aside0.mk (below_step (hz1 HB.out GE353.out) hb); have n2_ := Aside0.mk (hbox); have n3_ := Aside0.mk ((by rw [hg]; exact (below_size (hz1 HB.out GE353.out)) : w.heap.size ≤ gb354)); have n4_ := Aside0.mk ((by rw [hg]; exact (below_size (hz1 HB.out GE353.out)) : w.heap.size ≤ gb354)); have n5_ := Aside0.mk ((by rw [hg]; exact Nat.ne_of_lt (blk_lt (g := gb353) (o := b4 a0_0 a0_1 a0_2 a0_3 25) (bz BK353.out)) : gb353 ≠ gb354)); have n6_ := Aside0.mk ((by rw [hg]; exact Nat.ne_of_gt (blk_lt (g := gb353) (o := b4 a0_0 a0_1 a0_2 a0_3 25) (bz BK353.out)) : gb354 ≠ gb353)); clear BK353; clear HB; have BK353 := n0_; have HB := n1_; have BK354 := n2_; have GW354 := n3_; have GE354 := n4_; have NB353_354 := n5_; have NB354_353 := n6_; clear n0_ n1_ n2_ n3_ n4_ n5_ n6_; clear hb hbox hg; have hnb19 := NB353_354.out; have hnc19 := NB354_353.out; have hcz20_0 : w18.cell? ⟨gb353, 0, none⟩ = some (.int .i64 a0_0) := bc BK353 0; have hcz20_1 : w18.cell? ⟨gb353, 1, none⟩ = some (.int .i64 a0_1) := bc BK353 1; have hcz20_2 : w18.cell? ⟨gb353, 2, none⟩ = some (.int .i64 a0_2) := bc BK353 2; have hcz20_3 : w18.cell? ⟨gb353, 3, none⟩ = some (.int .i64 a0_3) := bc BK353 3; have hfz20_0 := blk_frozen BK353.out 0; have hfz20_1 := blk_frozen BK353.out 1; have hfz20_2 := blk_frozen BK353.out 2; have hfz20_3 := blk_frozen BK353.out 3; have hcz21_0 : w18.cell? ⟨gb354, 0, none⟩ = some (.int .i64 a1_0) := bc BK354 0; have hcz21_1 : w18.cell? ⟨gb354, 1, none⟩ = some (.int .i64 a1_1) := bc BK354 1; have hcz21_2 : w18.cell? ⟨gb354, 2, none⟩ = some (.int .i64 a1_2) := bc BK354 2; have hcz21_3 : w18.cell? ⟨gb354, 3, none⟩ = some (.int .i64 a1_3) := bc BK354 3; have hfz21_0 := blk_frozen BK354.out 0; have hfz21_1 := blk_frozen BK354.out 1; have hfz21_2 := blk_frozen BK354.out 2; have hfz21_3 := blk_frozen BK354.out 3))
    go_ret
    exact ⟨by first | rfl | (simp [errW_none, errW_some] <;> rfl) | (simp [*, errW_none, errW_some] <;> rfl), hz2 HB.out GE353.out GE354.out⟩
  ·rw [if_neg c4] at H
   have c4b0 : (a0_1 == a1_1) = false := beq_eq_false_iff_ne.mpr c4
   have c4b1 : (a0_1 != a1_1) = true := bne_iff_ne.mpr c4
   obtain rfl := Option.some.inj H
   go_enter Try.func22, Try.ntmps22
   go_wp2_with (first | ((with_reducible refine gate_dst (N := 2) rfl ?_); refine box_event ?hg (N := 2) ?hd (cs := #[.int .i64 a0_0, .int .i64 a0_1, .int .i64 a0_2, .int .i64 a0_3]) (t := 25) ?hr ?_; (case hd => rfl); (case hg => rfl); (case hr => first | (go_simp; done) | (go_simp; rfl)); intro gb353 hg w22 hbox hb; have n0_ := Aside0.mk (below_step (hz HB.out) hb); have n1_ := Aside0.mk (hbox); have n2_ := Aside0.mk ((by rw [hg]; exact (below_size (hz HB.out)) : w.heap.size ≤ gb353)); have n3_ := Aside0.mk ((by rw [hg]; exact (below_size (hz HB.out)) : w.heap.size ≤ gb353)); clear HB; have HB := n0_; have BK353 := n1_; have GW353 := n2_; have GE353 := n3_; clear n0_ n1_ n2_ n3_; clear hb hbox hg) | ((with_reducible refine gate_dst (N := 3) rfl ?_); refine box_event ?hg (N := 3) ?hd (cs := #[.int .i64 a1_0, .int .i64 a1_1, .int .i64 a1_2, .int .i64 a1_3]) (t := 25) ?hr ?_; (case hd => rfl); (case hg => rfl); (case hr => first | (go_simp; done) | (go_simp; rfl)); intro gb354 hg w23 hbox hb; have n0_ := Aside0.mk (blk_below (g := gb353) (o := b4 a0_0 a0_1 a0_2 a0_3 25) (bz BK353.out) hb); have n1_ := Aside0.mk (below_step (hz1 HB.out GE353.out) hb); have n2_ := Aside0.mk (hbox); have n3_ := Aside0.mk ((by rw [hg]; exact (below_size (hz1 HB.out GE353.out)) : w.heap.size ≤ gb354)); have n4_ := Aside0.mk ((by rw [hg]; exact (below_size (hz1 HB.out GE353.out)) : w.heap.size ≤ gb354)); have n5_ := Aside0.mk ((by rw [hg]; exact Nat.ne_of_lt (blk_lt (g := gb353) (o := b4 a0_0 a0_1 a0_2 a0_3 25) (bz BK353.out)) : gb353 ≠ gb354)); have n6_ := Aside0.mk ((by rw [hg]; exact Nat.ne_of_gt (blk_lt (g := gb353) (o := b4 a0_0 a0_1 a0_2 a0_3 25) (bz BK353.out)) : gb354 ≠ gb353)); clear BK353; clear HB; have BK353 := n0_; have HB := n1_; have BK354 := n2_; have GW354 := n3_; have GE354 := n4_; have NB353_354 := n5_; have NB354_353 := n6_; clear n0_ n1_ n2_ n3_ n4_ n5_ n6_; clear hb hbox hg; have hnb24 := NB353_354.out; have hnc24 := NB354_353.out; have hcz25_0 : w23.cell? ⟨gb353, 0, none⟩ = some (.int .i64 a0_0) := bc BK353 0; have hcz25_1 : w23.cell? ⟨gb353, 1, none⟩ = some (.int .i64 a0_1) := bc BK353 1; have hcz25_2 : w23.cell? ⟨gb353, 2, none⟩ = some (.int .i64 a0_2) := bc BK353 2; have hcz25_3 : w23.cell? ⟨gb353, 3, none⟩ = some (.int .i64 a0_3) := bc BK353 3; have hfz25_0 := blk_frozen BK353.out 0; have hfz25_1 := blk_frozen BK353.out 1; have hfz25_2 := blk_frozen BK353.out 2; have hfz25_3 := blk_frozen BK353.out 3; have hcz26_0 : w23.cell? ⟨gb354, 0, none⟩ = some (.int .i64 a1_0) := bc BK354 0; have hcz26_1 : w23.cell? ⟨gb354, 1, none⟩ = some (.int .i64 a1_1) := bc BK354 1; have hcz26_2 : w23.cell? ⟨gb354, 2, none⟩ = some (.int .i64 a1_2) := bc BK354 2; have hcz26_3 : w23.cell? ⟨gb354, 3, none⟩ = some (.int .i64 a1_3) := bc BK354 3; have hfz26_0 := blk_frozen BK354.out 0; have hfz26_1 := blk_frozen BK354.out 1; have hfz26_2 := blk_frozen BK354.out 2; have hfz26_3 := blk_frozen BK354.out 3))
   go_ret
   exact ⟨by first | rfl | (simp [errW_none, errW_some] <;> rfl) | (simp [*, errW_none, errW_some] <;> rfl), hz2 HB.out GE353.out GE354.out⟩
 ·rw [if_neg c3] at H
  have c3b0 : (a0_0 == a1_0) = false := beq_eq_false_iff_ne.mpr c3
  have c3b1 : (a0_0 != a1_0) = true := bne_iff_ne.mpr c3
  obtain rfl := Option.some.inj H
  go_enter Try.func22, Try.ntmps22
  go_wp2_with (first | ((with_reducible refine gate_dst (N := 2) rfl ?_); refine box_event ?hg (N := 2) ?hd (cs := #[.int .i64 a0_0, .int .i64 a0_1, .int .i64 a0_2, .int .i64 a0_3]) (t := 25) ?hr ?_; (case hd => rfl); (case hg => rfl); (case hr => first | (go_simp; done) | (go_simp; rfl)); intro gb353 hg w27 hbox hb; have n0_ := Aside0.mk (below_step (hz HB.out) hb); have n1_ := Aside0.mk (hbox); have n2_ := Aside0.mk ((by rw [hg]; exact (below_size (hz HB.out)) : w.heap.size ≤ gb353)); have n3_ := Aside0.mk ((by rw [hg]; exact (below_size (hz HB.out)) : w.heap.size ≤ gb353)); clear HB; have HB := n0_; have BK353 := n1_; have GW353 := n2_; have GE353 := n3_; clear n0_ n1_ n2_ n3_; clear hb hbox hg) | ((with_reducible refine gate_dst (N := 3) rfl ?_); refine box_event ?hg (N := 3) ?hd (cs := #[.int .i64 a1_0, .int .i64 a1_1, .int .i64 a1_2, .int .i64 a1_3]) (t := 25) ?hr ?_; (case hd => rfl); (case hg => rfl); (case hr => first | (go_simp; done) | (go_simp; rfl)); intro gb354 hg w28 hbox hb; have n0_ := Aside0.mk (blk_below (g := gb353) (o := b4 a0_0 a0_1 a0_2 a0_3 25) (bz BK353.out) hb); have n1_ := Aside0.mk (below_step (hz1 HB.out GE353.out) hb); have n2_ := Aside0.mk (hbox); have n3_ := Aside0.mk ((by rw [hg]; exact (below_size (hz1 HB.out GE353.out)) : w.heap.size ≤ gb354)); have n4_ := Aside0.mk ((by rw [hg]; exact (below_size (hz1 HB.out GE353.out)) : w.heap.size ≤ gb354)); have n5_ := Aside0.mk ((by rw [hg]; exact Nat.ne_of_lt (blk_lt (g := gb353) (o := b4 a0_0 a0_1 a0_2 a0_3 25) (bz BK353.out)) : gb353 ≠ gb354)); have n6_ := Aside0.mk ((by rw [hg]; exact Nat.ne_of_gt (blk_lt (g := gb353) (o := b4 a0_0 a0_1 a0_2 a0_3 25) (bz BK353.out)) : gb354 ≠ gb353)); clear BK353; clear HB; have BK353 := n0_; have HB := n1_; have BK354 := n2_; have GW354 := n3_; have GE354 := n4_; have NB353_354 := n5_; have NB354_353 := n6_; clear n0_ n1_ n2_ n3_ n4_ n5_ n6_; clear hb hbox hg; have hnb29 := NB353_354.out; have hnc29 := NB354_353.out; have hcz30_0 : w28.cell? ⟨gb353, 0, none⟩ = some (.int .i64 a0_0) := bc BK353 0; have hcz30_1 : w28.cell? ⟨gb353, 1, none⟩ = some (.int .i64 a0_1) := bc BK353 1; have hcz30_2 : w28.cell? ⟨gb353, 2, none⟩ = some (.int .i64 a0_2) := bc BK353 2; have hcz30_3 : w28.cell? ⟨gb353, 3, none⟩ = some (.int .i64 a0_3) := bc BK353 3; have hfz30_0 := blk_frozen BK353.out 0; have hfz30_1 := blk_frozen BK353.out 1; have hfz30_2 := blk_frozen BK353.out 2; have hfz30_3 := blk_frozen BK353.out 3; have hcz31_0 : w28.cell? ⟨gb354, 0, none⟩ = some (.int .i64 a1_0) := bc BK354 0; have hcz31_1 : w28.cell? ⟨gb354, 1, none⟩ = some (.int .i64 a1_1) := bc BK354 1; have hcz31_2 : w28.cell? ⟨gb354, 2, none⟩ = some (.int .i64 a1_2) := bc BK354 2; have hcz31_3 : w28.cell? ⟨gb354, 3, none⟩ = some (.int .i64 a1_3) := bc BK354 3; have hfz31_0 := blk_frozen BK354.out 0; have hfz31_1 := blk_frozen BK354.out 1; have hfz31_2 := blk_frozen BK354.out 2; have hfz31_3 := blk_frozen BK354.out 3))
  go_ret
  exact ⟨by first | rfl | (simp [errW_none, errW_some] <;> rfl) | (simp [*, errW_none, errW_some] <;> rfl), hz2 HB.out GE353.out GE354.out⟩

end Go.Proofs.Ytnmccgjdnceheaa.PFnExactValJoin
