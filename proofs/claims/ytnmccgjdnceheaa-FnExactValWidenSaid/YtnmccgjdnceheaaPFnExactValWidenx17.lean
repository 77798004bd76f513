/- Written by this session's own driver (wip/dprint.py): the functions that the law FnExactValWiden reaches, as Lean functions, each with its contract. -/
import Derived.Test.YtnmccgjdnceheaaPFnExactValWidenx0
import Derived.Test.YtnmccgjdnceheaaPFnExactValWidenx14
import Derived.Test.YtnmccgjdnceheaaPFnExactValWidenx15
import Derived.Test.YtnmccgjdnceheaaPFnExactValWidenx16
import Derived.Test.YtnmccgjdnceheaaSv
namespace Go.Proofs.Ytnmccgjdnceheaa.PFnExactValWiden
open Go.RowKit Go.Proofs.YtnmccgjdnceheaaV.PrintWords Go.Proofs.YtnmccgjdnceheaaV.PrintLast Go.Proofs.YtnmccgjdnceheaaV.PrintMore Go.Proofs.YtnmccgjdnceheaaSv
attribute [local go_sem] max2_int min2_int max_two min_two max_three min_three max_four min_four   -- for this text's walks alone
set_option linter.unusedVariables false
set_option linter.unusedSimpArgs false

/-! ### impl_RangeJoin: function 78 -/
def impl_RangeJoin.j0 : Nat → Bool → Int → Int → Int → Int → Option (Int × Int)
 | 0, _, _, _, _, _ => none
 | k + 1, x5, x358000, x358001, x359000, x359001 => if x5 = true then ((impl_rangeNone.f).bind fun bt362 => (some (bt362.1, bt362.2))) else ((impl_Range_empty.f x358000 x358001).bind fun t364 => (if t364 = true then (some (x359000, x359001)) else ((impl_Range_empty.f x359000 x359001).bind fun t365 => (if t365 = true then (some (x358000, x358001)) else (some (mn x358000 x359000, mx x358001 x359001))))))
def impl_RangeJoin.f (k : Nat) (a0_0 : Int) (a0_1 : Int) (a1_0 : Int) (a1_1 : Int) : Option (Int × Int) := (impl_RangeOk.f a0_0 a0_1).bind fun t360 => (if t360 = true then ((impl_RangeOk.f a1_0 a1_1).bind fun t361 => (impl_RangeJoin.j0 k (!t361) a0_0 a0_1 a1_0 a1_1)) else (impl_RangeJoin.j0 k true a0_0 a0_1 a1_0 a1_1))
theorem impl_RangeJoin.mono_l : ∀ k, (∀ y0 y1 y2 y3 y4, LeO (impl_RangeJoin.j0 k y0 y1 y2 y3 y4) (impl_RangeJoin.j0 (k + 1) y0 y1 y2 y3 y4))
 | 0 => fun _ _ _ _ _ r h => by simp [impl_RangeJoin.j0] at h
 | k + 1 => by
  have ih0 := impl_RangeJoin.mono_l k
  ·intro y0 y1 y2 y3 y4
   unfold impl_RangeJoin.j0
   repeat' first
   | (with_reducible exact ih0 _ _ _ _ _)
   | (with_reducible exact LeO.refl _)
   | (with_reducible exact LeO.none _)
   | (with_reducible refine LeO.ite ?_ ?_)
   | (with_reducible refine LeO.bind ?_ (fun _ => ?_))
   | exact ih0 _ _ _ _ _
   | exact LeO.none _
   | refine LeO.ite ?_ ?_
   | refine LeO.bind ?_ (fun _ => ?_)
theorem impl_RangeJoin.mono : ∀ a0 a1 a2 a3 k, LeO (impl_RangeJoin.f k a0 a1 a2 a3) (impl_RangeJoin.f (k + 1) a0 a1 a2 a3) := by
 intro a0 a1 a2 a3 k
 have ih0 := impl_RangeJoin.mono_l k
 unfold impl_RangeJoin.f
 repeat' first
   | (with_reducible exact ih0 _ _ _ _ _)
   | (with_reducible exact LeO.refl _)
   | (with_reducible exact LeO.none _)
   | (with_reducible refine LeO.ite ?_ ?_)
   | (with_reducible refine LeO.bind ?_ (fun _ => ?_))
   | exact ih0 _ _ _ _ _
   | exact LeO.none _
   | refine LeO.ite ?_ ?_
   | refine LeO.bind ?_ (fun _ => ?_)
set_option maxHeartbeats 8000000 in
set_option maxRecDepth 100000 in
theorem impl_RangeJoin.calls (k : Nat) (a0_0 : Int) (a0_1 : Int) (a1_0 : Int) (a1_1 : Int) (r1 : Int) (r2 : Int) (w : World) (h : impl_RangeJoin.f k a0_0 a0_1 a1_0 a1_1 = some (r1, r2)) :
  Calls Try.prog 78 #[.agg #[.int .i64 a0_0, .int .i64 a0_1], .agg #[.int .i64 a1_0, .int .i64 a1_1]] w fun e w' => e = .returned (.agg #[.int .i64 r1, .int .i64 r2]) ∧ Below w.heap.size w w' := by
 have hu86 := Try.underlying86
 have HB := am (Below.refl w.heap.size w)
 have H : ((impl_RangeOk.f a0_0 a0_1).bind fun t360 => (if t360 = true then ((impl_RangeOk.f a1_0 a1_1).bind fun t361 => (impl_RangeJoin.j0 k (!t361) a0_0 a0_1 a1_0 a1_1)) else (impl_RangeJoin.j0 k true a0_0 a0_1 a1_0 a1_1))) = some (r1, r2) := h
 clear h
 have HC3 := am H
 clear H
 go_enter Try.func78, Try.ntmps78
 go_upto_region 1 with (first | ((with_reducible refine gate_dst (N := 2) rfl ?_); refine box_event ?hg (N := 2) ?hd (cs := #[.int .i64 a0_0, .int .i64 a0_1]) (t := 86) ?hr ?_; (case hd => rfl); (case hg => rfl); (case hr => first | (go_simp; done) | (go_simp; rfl)); intro gb357 hg w4 hbox hb; have n0_ := am (below_step (Y0 HB) hb); have n1_ := am (hbox); have n2_ := am ((by rw [hg]; exact (below_size (Y0 HB)) : w.heap.size ≤ gb357)); have n3_ := am ((by rw [hg]; exact (below_size (Y0 HB)) : w.heap.size ≤ gb357)); clear HB; have HB := n0_; have BK357 := n1_; have GW357 := n2_; have GE357 := n3_; clear n0_ n1_ n2_ n3_; clear hb hbox hg) | ((with_reducible refine gate_dst (N := 3) rfl ?_); refine box_event ?hg (N := 3) ?hd (cs := #[.int .i64 a1_0, .int .i64 a1_1]) (t := 86) ?hr ?_; (case hd => rfl); (case hg => rfl); (case hr => first | (go_simp; done) | (go_simp; rfl)); intro gb358 hg w5 hbox hb; have n0_ := am (blk_below (g := gb357) (o := b2 a0_0 a0_1 86) (Z BK357) hb); have n1_ := am (below_step (Y1 HB GE357) hb); have n2_ := am (hbox); have n3_ := am ((by rw [hg]; exact (below_size (Y1 HB GE357)) : w.heap.size ≤ gb358)); have n4_ := am ((by rw [hg]; exact (below_size (Y1 HB GE357)) : w.heap.size ≤ gb358)); have n5_ := am ((nl (o := b2 a0_0 a0_1 86) hg (Z BK357) : gb357 ≠ gb358)); have n6_ := am ((ng (o := b2 a0_0 a0_1 86) hg (Z BK357) : gb358 ≠ gb357)); clear BK357; clear HB; have BK357 := n0_; have HB := n1_; have BK358 := n2_; have GW358 := n3_; have GE358 := n4_; have NB357_358 := n5_; have NB358_357 := n6_; clear n0_ n1_ n2_ n3_ n4_ n5_ n6_; clear hb hbox hg) | ((with_reducible refine gate_dst (N := 4) rfl ?_); refine box_event ?hg (N := 4) ?hd (cs := #[.int .i64 0, .int .i64 0]) (t := 86) ?hr ?_; (case hd => rfl); (case hg => rfl); (case hr => first | (go_simp; done) | (go_simp; rfl)); intro gb359 hg w6 hbox hb; have n0_ := am (blk_below (g := gb357) (o := b2 a0_0 a0_1 86) (Z BK357) hb); have n1_ := am (blk_below (g := gb358) (o := b2 a1_0 a1_1 86) (Z BK358) hb); have n2_ := am (below_step (Y2 HB GE357 GE358) hb); have n3_ := am (hbox); have n4_ := am ((by rw [hg]; exact (below_size (Y2 HB GE357 GE358)) : w.heap.size ≤ gb359)); have n5_ := am ((by rw [hg]; exact (below_size (Y2 HB GE357 GE358)) : w.heap.size ≤ gb359)); have n6_ := am ((nl (o := b2 a0_0 a0_1 86) hg (Z BK357) : gb357 ≠ gb359)); have n7_ := am ((ng (o := b2 a0_0 a0_1 86) hg (Z BK357) : gb359 ≠ gb357)); have n8_ := am ((nl (o := b2 a1_0 a1_1 86) hg (Z BK358) : gb358 ≠ gb359)); have n9_ := am ((ng (o := b2 a1_0 a1_1 86) hg (Z BK358) : gb359 ≠ gb358)); clear BK357; clear BK358; clear HB; have BK357 := n0_; have BK358 := n1_; have HB := n2_; have BK359 := n3_; have GW359 := n4_; have GE359 := n5_; have NB357_359 := n6_; have NB359_357 := n7_; have NB358_359 := n8_; have NB359_358 := n9_; clear n0_ n1_ n2_ n3_ n4_ n5_ n6_ n7_ n8_ n9_; clear hb hbox hg))
 (try simp only [Act.put, List.setIfInBounds_toArray, List.set_cons_zero, List.set_cons_succ])
 go_cut [5] (fun v5 wc => ∃ (kq : Nat) (x5_2 : Bool), v5 = .bool x5_2 ∧ Aside0 (impl_RangeJoin.j0 kq x5_2 a0_0 a0_1 a1_0 a1_1 = some (r1, r2)) ∧ Aside0 (kq ≤ k) ∧ Aside0 (wc.heap[gb357]? = some (.cells #[.int .i64 a0_0, .int .i64 a0_1] 86 (0, 0))) ∧ Aside0 (wc.heap[gb358]? = some (.cells #[.int .i64 a1_0, .int .i64 a1_1] 86 (0, 0))) ∧ Aside0 (wc.heap[gb359]? = some (.cells #[.int .i64 0, .int .i64 0] 86 (0, 0))) ∧ Aside0 (Below w.heap.size w wc))
 case first =>
  have H := HC3.out
  clear HC3
  replace H := Option.bind_eq_some_iff.mp H
  obtain ⟨t360, A70, H⟩ := H
  replace H : (if t360 = true then ((impl_RangeOk.f a1_0 a1_1).bind fun t361 => (impl_RangeJoin.j0 k (!t361) a0_0 a0_1 a1_0 a1_1)) else (impl_RangeJoin.j0 k true a0_0 a0_1 a1_0 a1_1)) = some (r1, r2) := H
  have A7 := am A70
  clear A70
  by_cases c8 : t360 = true
  ·subst c8
   have H1 : ((impl_RangeOk.f a1_0 a1_1).bind fun t361 => (impl_RangeJoin.j0 k (!t361) a0_0 a0_1 a1_0 a1_1)) = some (r1, r2) := by rw [if_pos rfl] at H; exact H
   clear H
   have H := H1
   clear H1
   replace H := Option.bind_eq_some_iff.mp H
   obtain ⟨t361, A90, H⟩ := H
   replace H : (impl_RangeJoin.j0 k (!t361) a0_0 a0_1 a1_0 a1_1) = some (r1, r2) := H
   have A9 := am A90
   clear A90
   have H' := am H
   clear H
   have hnb10 := NB357_358.out
   have hnc10 := NB358_357.out
   have hnb11 := NB357_359.out
   have hnc11 := NB359_357.out
   have hcz12_0 : w6.cell? ⟨gb357, 0, none⟩ = some (.int .i64 a0_0) := bc BK357 0
   have hcz12_1 : w6.cell? ⟨gb357, 1, none⟩ = some (.int .i64 a0_1) := bc BK357 1
   have hfz12_0 := blk_frozen BK357.out 0
   have hfz12_1 := blk_frozen BK357.out 1
   go_wp2_with (first | ((with_reducible refine gate_callee (f := 120) rfl ?_); refine goesL_ (some 7) rfl rfl Try.func120 (by kernel_rfl) rfl #[.agg #[.int .i64 a0_0, .int .i64 a0_1]] rfl mz ?_; (with_reducible refine (impl_RangeOk.calls a0_0 a0_1 true _ A7.out).mono ?_); rintro e w13 ⟨rfl, hb⟩; refine ⟨_, rfl, ?_⟩; have n0_ := am (blk_below (g := gb357) (o := b2 a0_0 a0_1 86) (Z BK357) hb); have n1_ := am (blk_below (g := gb358) (o := b2 a1_0 a1_1 86) (Z BK358) hb); have n2_ := am (blk_below (g := gb359) (o := b2 0 0 86) (Z BK359) hb); have n3_ := am (below_step (Y3 HB GE357 GE358 GE359) hb); clear BK357; clear BK358; clear BK359; clear HB; have BK357 := n0_; have BK358 := n1_; have BK359 := n2_; have HB := n3_; clear n0_ n1_ n2_ n3_; (try clear hb); (try clear hb2); (try clear hk); (try clear hi); have hnb14 := NB358_359.out; have hnc14 := NB359_358.out; have hcz15_0 : w13.cell? ⟨gb358, 0, none⟩ = some (.int .i64 a1_0) := bc BK358 0; have hcz15_1 : w13.cell? ⟨gb358, 1, none⟩ = some (.int .i64 a1_1) := bc BK358 1; have hfz15_0 := blk_frozen BK358.out 0; have hfz15_1 := blk_frozen BK358.out 1) | (go_at_call 120; (with_reducible refine (impl_RangeOk.calls a1_0 a1_1 t361 _ A9.out).mono ?_); rintro e w16 ⟨rfl, hb⟩; have n0_ := am (blk_below (g := gb357) (o := b2 a0_0 a0_1 86) (Z BK357) hb); have n1_ := am (blk_below (g := gb358) (o := b2 a1_0 a1_1 86) (Z BK358) hb); have n2_ := am (blk_below (g := gb359) (o := b2 0 0 86) (Z BK359) hb); have n3_ := am (below_step (Y3 HB GE357 GE358 GE359) hb); clear BK357; clear BK358; clear BK359; clear HB; have BK357 := n0_; have BK358 := n1_; have BK359 := n2_; have HB := n3_; clear n0_ n1_ n2_ n3_; (try clear hb); (try clear hb2); (try clear hk); (try clear hi)))
   go_meet
   case rel => exact ⟨_, (!t361), (by first | rfl | (simp; done) | (simp [*]; done)), H', ⟨by first | omega | exact Nat.le_refl _⟩, ⟨Z BK357⟩, ⟨Z BK358⟩, ⟨Z BK359⟩, ⟨Y3 HB GE357 GE358 GE359⟩⟩
  ·replace c8 := Bool.eq_false_iff.mpr c8
   subst c8
   have H1 : (impl_RangeJoin.j0 k true a0_0 a0_1 a1_0 a1_1) = some (r1, r2) := by rw [if_neg (show ¬ (false = true) by decide)] at H; exact H
   clear H
   have H := H1
   clear H1
   have H' := am H
   clear H
   have hnb17 := NB357_358.out
   have hnc17 := NB358_357.out
   have hnb18 := NB357_359.out
   have hnc18 := NB359_357.out
   have hcz19_0 : w6.cell? ⟨gb357, 0, none⟩ = some (.int .i64 a0_0) := bc BK357 0
   have hcz19_1 : w6.cell? ⟨gb357, 1, none⟩ = some (.int .i64 a0_1) := bc BK357 1
   have hfz19_0 := blk_frozen BK357.out 0
   have hfz19_1 := blk_frozen BK357.out 1
   go_wp2_with (first | ((with_reducible refine gate_callee (f := 120) rfl ?_); refine goesL_ (some 7) rfl rfl Try.func120 (by kernel_rfl) rfl #[.agg #[.int .i64 a0_0, .int .i64 a0_1]] rfl mz ?_; (with_reducible refine (impl_RangeOk.calls a0_0 a0_1 false _ A7.out).mono ?_); rintro e w20 ⟨rfl, hb⟩; refine ⟨_, rfl, ?_⟩; have n0_ := am (blk_below (g := gb357) (o := b2 a0_0 a0_1 86) (Z BK357) hb); have n1_ := am (blk_below (g := gb358) (o := b2 a1_0 a1_1 86) (Z BK358) hb); have n2_ := am (blk_below (g := gb359) (o := b2 0 0 86) (Z BK359) hb); have n3_ := am (below_step (Y3 HB GE357 GE358 GE359) hb); clear BK357; clear BK358; clear BK359; clear HB; have BK357 := n0_; have BK358 := n1_; have BK359 := n2_; have HB := n3_; clear n0_ n1_ n2_ n3_; (try clear hb); (try clear hb2); (try clear hk); (try clear hi)))
   go_meet
   case rel => exact ⟨_, (true), (by first | rfl | (simp; done) | (simp [*]; done)), H', ⟨by first | omega | exact Nat.le_refl _⟩, ⟨Z BK357⟩, ⟨Z BK358⟩, ⟨Z BK359⟩, ⟨Y3 HB GE357 GE358 GE359⟩⟩
 case rest =>
  clear HC3
  try clear c1
  try clear p2
  try clear c7
  try clear c8
  try clear c10
  try clear c11
  try clear c12
  try clear c14
  try clear c17
  try clear c18
  try clear hcz12_0
  try clear hcz12_1
  try clear hcz15_0
  try clear hcz15_1
  try clear hcz19_0
  try clear hcz19_1
  try clear hfz12_0
  try clear hfz12_1
  try clear hfz15_0
  try clear hfz15_1
  try clear hfz19_0
  try clear hfz19_1
  obtain ⟨kq, x5_2, rfl, HA, HJ2, BK357, BK358, BK359, HB⟩ := hcut
  cases kq with
  | zero => exact absurd HA.out (by simp [impl_RangeJoin.j0])
  | succ kj2 =>
   have H := HA.out
   clear HA
   simp only [impl_RangeJoin.j0] at H
   by_cases c21 : x5_2 = true
   ·subst c21
    have H1 : ((impl_rangeNone.f).bind fun bt362 => (some (bt362.1, bt362.2))) = some (r1, r2) := by rw [if_pos rfl] at H; exact H
    clear H
    have H := H1
    clear H1
    replace H := Option.bind_eq_some_iff.mp H
    obtain ⟨⟨t362, t363⟩, A220, H⟩ := H
    replace H : (some (t362, t363)) = some (r1, r2) := H
    have A22 := am A220
    clear A220
    simp only [Option.some.injEq, Prod.mk.injEq] at H
    obtain ⟨rfl, rfl⟩ := H
    go_wp2_with (first | ((with_reducible refine gate_callee (f := 132) rfl ?_); refine goesL_ (some 14) rfl rfl Try.func132 (by kernel_rfl) rfl #[] rfl mz ?_; (with_reducible refine (impl_rangeNone.calls  t362 t363 _ A22.out).mono ?_); rintro e w23 ⟨rfl, hb⟩; refine ⟨_, rfl, ?_⟩; have n0_ := am (blk_below (g := gb357) (o := b2 a0_0 a0_1 86) (Z BK357) hb); have n1_ := am (blk_below (g := gb358) (o := b2 a1_0 a1_1 86) (Z BK358) hb); have n2_ := am (blk_below (g := gb359) (o := b2 0 0 86) (Z BK359) hb); have n3_ := am (below_step (Y3 HB GE357 GE358 GE359) hb); clear BK357; clear BK358; clear BK359; clear HB; have BK357 := n0_; have BK358 := n1_; have BK359 := n2_; have HB := n3_; clear n0_ n1_ n2_ n3_; (try clear hb); (try clear hb2); (try clear hk); (try clear hi); have hnb24 := NB359_357.out; have hnc24 := NB357_359.out; have hnb25 := NB359_358.out; have hnc25 := NB358_359.out; have hcz26_0 : w23.cell? ⟨gb359, 0, none⟩ = some (.int .i64 0) := bc BK359 0; have hcz26_1 : w23.cell? ⟨gb359, 1, none⟩ = some (.int .i64 0) := bc BK359 1; have hfz26_0 := blk_frozen BK359.out 0; have hfz26_1 := blk_frozen BK359.out 1))
    refine bodyPost_ret (results_cell_row rfl _ _ gb359 86 #[.int .i64 t362, .int .i64 t363] (0, 0) _ rfl (by (with_reducible repeat (first | refine blk_drewN ?_ _ | refine blk_drew ?_ | refine blk_alloc ?_ _)); refine blk_put (cs := #[.int .i64 t362, .int .i64 0]) ?_ 1 _ rfl; (with_reducible repeat (first | refine blk_drewN ?_ _ | refine blk_drew ?_ | refine blk_alloc ?_ _)); refine blk_put (cs := #[.int .i64 0, .int .i64 0]) ?_ 0 _ rfl; (with_reducible repeat (first | refine blk_drewN ?_ _ | refine blk_drew ?_ | refine blk_alloc ?_ _)); exact BK359.out) Try.underlying86 rfl (by kernel_rfl)) rfl ?_
    exact ⟨by first | rfl | (simp [errW_none, errW_some] <;> rfl) | (simp [*, errW_none, errW_some] <;> rfl), Y3 HB GE357 GE358 GE359⟩
   ·replace c21 := Bool.eq_false_iff.mpr c21
    subst c21
    have H1 : ((impl_Range_empty.f a0_0 a0_1).bind fun t364 => (if t364 = true then (some (a1_0, a1_1)) else ((impl_Range_empty.f a1_0 a1_1).bind fun t365 => (if t365 = true then (some (a0_0, a0_1)) else (some (mn a0_0 a1_0, mx a0_1 a1_1)))))) = some (r1, r2) := by rw [if_neg (show ¬ (false = true) by decide)] at H; exact H
    clear H
    have H := H1
    clear H1
    replace H := Option.bind_eq_some_iff.mp H
    obtain ⟨t364, A270, H⟩ := H
    replace H : (if t364 = true then (some (a1_0, a1_1)) else ((impl_Range_empty.f a1_0 a1_1).bind fun t365 => (if t365 = true then (some (a0_0, a0_1)) else (some (mn a0_0 a1_0, mx a0_1 a1_1))))) = some (r1, r2) := H
    have A27 := am A270
    clear A270
    by_cases c28 : t364 = true
    ·subst c28
     have H1 : (some (a1_0, a1_1)) = some (r1, r2) := by rw [if_pos rfl] at H; exact H
     clear H
     have H := H1
     clear H1
     simp only [Option.some.injEq, Prod.mk.injEq] at H
     obtain ⟨rfl, rfl⟩ := H
     have hnb29 := NB357_358.out
     have hnc29 := NB358_357.out
     have hnb30 := NB357_359.out
     have hnc30 := NB359_357.out
     have hcz31_0 : wc.cell? ⟨gb357, 0, none⟩ = some (.int .i64 a0_0) := bc BK357 0
     have hcz31_1 : wc.cell? ⟨gb357, 1, none⟩ = some (.int .i64 a0_1) := bc BK357 1
     have hfz31_0 := blk_frozen BK357.out 0
     have hfz31_1 := blk_frozen BK357.out 1
     go_wp2_with (first | ((with_reducible refine gate_callee (f := 124) rfl ?_); refine goesL_ (some 17) rfl rfl Try.func124 (by kernel_rfl) rfl #[.agg #[.int .i64 a0_0, .int .i64 a0_1]] rfl mz ?_; (with_reducible refine (impl_Range_empty.calls a0_0 a0_1 true _ A27.out).mono ?_); rintro e w32 ⟨rfl, hb⟩; refine ⟨_, rfl, ?_⟩; have n0_ := am (blk_below (g := gb357) (o := b2 a0_0 a0_1 86) (Z BK357) hb); have n1_ := am (blk_below (g := gb358) (o := b2 a1_0 a1_1 86) (Z BK358) hb); have n2_ := am (blk_below (g := gb359) (o := b2 0 0 86) (Z BK359) hb); have n3_ := am (below_step (Y3 HB GE357 GE358 GE359) hb); clear BK357; clear BK358; clear BK359; clear HB; have BK357 := n0_; have BK358 := n1_; have BK359 := n2_; have HB := n3_; clear n0_ n1_ n2_ n3_; (try clear hb); (try clear hb2); (try clear hk); (try clear hi); have hnb33 := NB358_359.out; have hnc33 := NB359_358.out; have hcz34_0 : w32.cell? ⟨gb358, 0, none⟩ = some (.int .i64 a1_0) := bc BK358 0; have hcz34_1 : w32.cell? ⟨gb358, 1, none⟩ = some (.int .i64 a1_1) := bc BK358 1; have hfz34_0 := blk_frozen BK358.out 0; have hfz34_1 := blk_frozen BK358.out 1; have hcz35_0 : w32.cell? ⟨gb359, 0, none⟩ = some (.int .i64 0) := bc BK359 0; have hcz35_1 : w32.cell? ⟨gb359, 1, none⟩ = some (.int .i64 0) := bc BK359 1; have hfz35_0 := blk_frozen BK359.out 0; have hfz35_1 := blk_frozen BK359.out 1))
     refine bodyPost_ret (results_cell_row rfl _ _ gb359 86 #[.int .i64 a1_0, .int .i64 a1_1] (0, 0) _ rfl (by (with_reducible repeat (first | refine blk_drewN ?_ _ | refine blk_drew ?_ | refine blk_alloc ?_ _)); refine blk_put (cs := #[.int .i64 a1_0, .int .i64 0]) ?_ 1 _ rfl; (with_reducible repeat (first | refine blk_drewN ?_ _ | refine blk_drew ?_ | refine blk_alloc ?_ _)); refine blk_put (cs := #[.int .i64 0, .int .i64 0]) ?_ 0 _ rfl; (with_reducible repeat (first | refine blk_drewN ?_ _ | refine blk_drew ?_ | refine blk_alloc ?_ _)); exact BK359.out) Try.underlying86 rfl (by kernel_rfl)) rfl ?_
     exact ⟨by first | rfl | (simp [errW_none, errW_some] <;> rfl) | (simp [*, errW_none, errW_some] <;> rfl), Y3 HB GE357 GE358 GE359⟩
    ·replace c28 := Bool.eq_false_iff.mpr c28
     subst c28
     have H1 : ((impl_Range_empty.f a1_0 a1_1).bind fun t365 => (if t365 = true then (some (a0_0, a0_1)) else (some (mn a0_0 a1_0, mx a0_1 a1_1)))) = some (r1, r2) := by rw [if_neg (show ¬ (false = true) by decide)] at H; exact H
     clear H
     have H := H1
     clear H1
     replace H := Option.bind_eq_some_iff.mp H
     obtain ⟨t365, A360, H⟩ := H
     replace H : (if t365 = true then (some (a0_0, a0_1)) else (some (mn a0_0 a1_0, mx a0_1 a1_1))) = some (r1, r2) := H
     have A36 := am A360
     clear A360
     by_cases c37 : t365 = true
     ·subst c37
      have H1 : (some (a0_0, a0_1)) = some (r1, r2) := by rw [if_pos rfl] at H; exact H
      clear H
      have H := H1
      clear H1
      simp only [Option.some.injEq, Prod.mk.injEq] at H
      obtain ⟨rfl, rfl⟩ := H
      have hnb38 := NB357_358.out
      have hnc38 := NB358_357.out
      have hnb39 := NB357_359.out
      have hnc39 := NB359_357.out
      have hcz40_0 : wc.cell? ⟨gb357, 0, none⟩ = some (.int .i64 a0_0) := bc BK357 0
      have hcz40_1 : wc.cell? ⟨gb357, 1, none⟩ = some (.int .i64 a0_1) := bc BK357 1
      have hfz40_0 := blk_frozen BK357.out 0
      have hfz40_1 := blk_frozen BK357.out 1
      go_wp2_with (first | ((with_reducible refine gate_callee (f := 124) rfl ?_); refine goesL_ (some 17) rfl rfl Try.func124 (by kernel_rfl) rfl #[.agg #[.int .i64 a0_0, .int .i64 a0_1]] rfl mz ?_; (with_reducible refine (impl_Range_empty.calls a0_0 a0_1 false _ A27.out).mono ?_); rintro e w41 ⟨rfl, hb⟩; refine ⟨_, rfl, ?_⟩; have n0_ := am (blk_below (g := gb357) (o := b2 a0_0 a0_1 86) (Z BK357) hb); have n1_ := am (blk_below (g := gb358) (o := b2 a1_0 a1_1 86) (Z BK358) hb); have n2_ := am (blk_below (g := gb359) (o := b2 0 0 86) (Z BK359) hb); have n3_ := am (below_step (Y3 HB GE357 GE358 GE359) hb); clear BK357; clear BK358; clear BK359; clear HB; have BK357 := n0_; have BK358 := n1_; have BK359 := n2_; have HB := n3_; clear n0_ n1_ n2_ n3_; (try clear hb); (try clear hb2); (try clear hk); (try clear hi); have hnb42 := NB358_359.out; have hnc42 := NB359_358.out; have hcz43_0 : w41.cell? ⟨gb358, 0, none⟩ = some (.int .i64 a1_0) := bc BK358 0; have hcz43_1 : w41.cell? ⟨gb358, 1, none⟩ = some (.int .i64 a1_1) := bc BK358 1; have hfz43_0 := blk_frozen BK358.out 0; have hfz43_1 := blk_frozen BK358.out 1) | ((with_reducible refine gate_callee (f := 124) rfl ?_); refine goesL_ (some 21) rfl rfl Try.func124 (by kernel_rfl) rfl #[.agg #[.int .i64 a1_0, .int .i64 a1_1]] rfl mz ?_; (with_reducible refine (impl_Range_empty.calls a1_0 a1_1 true _ A36.out).mono ?_); rintro e w44 ⟨rfl, hb⟩; refine ⟨_, rfl, ?_⟩; have n0_ := am (blk_below (g := gb357) (o := b2 a0_0 a0_1 86) (Z BK357) hb); have n1_ := am (blk_below (g := gb358) (o := b2 a1_0 a1_1 86) (Z BK358) hb); have n2_ := am (blk_below (g := gb359) (o := b2 0 0 86) (Z BK359) hb); have n3_ := am (below_step (Y3 HB GE357 GE358 GE359) hb); clear BK357; clear BK358; clear BK359; clear HB; have BK357 := n0_; have BK358 := n1_; have BK359 := n2_; have HB := n3_; clear n0_ n1_ n2_ n3_; (try clear hb); (try clear hb2); (try clear hk); (try clear hi); have hcz45_0 : w44.cell? ⟨gb357, 0, none⟩ = some (.int .i64 a0_0) := bc BK357 0; have hcz45_1 : w44.cell? ⟨gb357, 1, none⟩ = some (.int .i64 a0_1) := bc BK357 1; have hfz45_0 := blk_frozen BK357.out 0; have hfz45_1 := blk_frozen BK357.out 1; have hcz46_0 : w44.cell? ⟨gb359, 0, none⟩ = some (.int .i64 0) := bc BK359 0; have hcz46_1 : w44.cell? ⟨gb359, 1, none⟩ = some (.int .i64 0) := bc BK359 1; have hfz46_0 := blk_frozen BK359.out 0; have hfz46_1 := blk_frozen BK359.out 1))
      refine bodyPost_ret (results_cell_row rfl _ _ gb359 86 #[.int .i64 a0_0, .int .i64 a0_1] (0, 0) _ rfl (by (with_reducible repeat (first | refine blk_drewN ?_ _ | refine blk_drew ?_ | refine blk_alloc ?_ _)); refine blk_put (cs := #[.int .i64 a0_0, .int .i64 0]) ?_ 1 _ rfl; (with_reducible repeat (first | refine blk_drewN ?_ _ | refine blk_drew ?_ | refine blk_alloc ?_ _)); refine blk_put (cs := #[.int .i64 0, .int .i64 0]) ?_ 0 _ rfl; (with_reducible repeat (first | refine blk_drewN ?_ _ | refine blk_drew ?_ | refine blk_alloc ?_ _)); exact BK359.out) Try.underlying86 rfl (by kernel_rfl)) rfl ?_
      exact ⟨by first | rfl | (simp [errW_none, errW_some] <;> rfl) | (simp [*, errW_none, errW_some] <;> rfl), Y3 HB GE357 GE358 GE359⟩
     ·replace c37 := Bool.eq_false_iff.mpr c37
      subst c37
      have H1 : (some (mn a0_0 a1_0, mx a0_1 a1_1)) = some (r1, r2) := by rw [if_neg (show ¬ (false = true) by decide)] at H; exact H
      clear H
      have H := H1
      clear H1
      obtain ⟨ji47, hji47⟩ : ∃ j_ : Int, (mn a0_0 a1_0) = j_ := ⟨_, rfl⟩
      replace H : (some (ji47, mx a0_1 a1_1)) = some (r1, r2) := by first | (rw [hji47] at H; exact H) | (simp only [hji47] at H ⊢; exact H)
      (try rw [hji47] at A27)
      (try rw [hji47] at A36)
      have hji47_ : (if a1_0 < a0_0 then a1_0 else a0_0) = ji47 := hji47
      obtain ⟨ji48, hji48⟩ : ∃ j_ : Int, (mx a0_1 a1_1) = j_ := ⟨_, rfl⟩
      replace H : (some (ji47, ji48)) = some (r1, r2) := by first | (rw [hji48] at H; exact H) | (simp only [hji48] at H ⊢; exact H)
      (try rw [hji48] at A27)
      (try rw [hji48] at A36)
      have hji48_ : (if a0_1 < a1_1 then a1_1 else a0_1) = ji48 := hji48
      simp only [Option.some.injEq, Prod.mk.injEq] at H
      obtain ⟨rfl, rfl⟩ := H
      have hnb49 := NB357_358.out
      have hnc49 := NB358_357.out
      have hnb50 := NB357_359.out
      have hnc50 := NB359_357.out
      have hcz51_0 : wc.cell? ⟨gb357, 0, none⟩ = some (.int .i64 a0_0) := bc BK357 0
      have hcz51_1 : wc.cell? ⟨gb357, 1, none⟩ = some (.int .i64 a0_1) := bc BK357 1
      have hfz51_0 := blk_frozen BK357.out 0
      have hfz51_1 := blk_frozen BK357.out 1
      go_wp2_with (first | ((with_reducible refine gate_callee (f := 124) rfl ?_); refine goesL_ (some 17) rfl rfl Try.func124 (by kernel_rfl) rfl #[.agg #[.int .i64 a0_0, .int .i64 a0_1]] rfl mz ?_; (with_reducible refine (impl_Range_empty.calls a0_0 a0_1 false _ A27.out).mono ?_); rintro e w52 ⟨rfl, hb⟩; refine ⟨_, rfl, ?_⟩; have n0_ := am (blk_below (g := gb357) (o := b2 a0_0 a0_1 86) (Z BK357) hb); have n1_ := am (blk_below (g := gb358) (o := b2 a1_0 a1_1 86) (Z BK358) hb); have n2_ := am (blk_below (g := gb359) (o := b2 0 0 86) (Z BK359) hb); have n3_ := am (below_step (Y3 HB GE357 GE358 GE359) hb); clear BK357; clear BK358; clear BK359; clear HB; have BK357 := n0_; have BK358 := n1_; have BK359 := n2_; have HB := n3_; clear n0_ n1_ n2_ n3_; (try clear hb); (try clear hb2); (try clear hk); (try clear hi); have hnb53 := NB358_359.out; have hnc53 := NB359_358.out; have hcz54_0 : w52.cell? ⟨gb358, 0, none⟩ = some (.int .i64 a1_0) := bc BK358 0; have hcz54_1 : w52.cell? ⟨gb358, 1, none⟩ = some (.int .i64 a1_1) := bc BK358 1; have hfz54_0 := blk_frozen BK358.out 0; have hfz54_1 := blk_frozen BK358.out 1) | ((with_reducible refine gate_callee (f := 124) rfl ?_); refine goesL_ (some 21) rfl rfl Try.func124 (by kernel_rfl) rfl #[.agg #[.int .i64 a1_0, .int .i64 a1_1]] rfl mz ?_; (with_reducible refine (impl_Range_empty.calls a1_0 a1_1 false _ A36.out).mono ?_); rintro e w55 ⟨rfl, hb⟩; refine ⟨_, rfl, ?_⟩; have n0_ := am (blk_below (g := gb357) (o := b2 a0_0 a0_1 86) (Z BK357) hb); have n1_ := am (blk_below (g := gb358) (o := b2 a1_0 a1_1 86) (Z BK358) hb); have n2_ := am (blk_below (g := gb359) (o := b2 0 0 86) (Z BK359) hb); have n3_ := am (below_step (Y3 HB GE357 GE358 GE359) hb); clear BK357; clear BK358; clear BK359; clear HB; have BK357 := n0_; have BK358 := n1_; have BK359 := n2_; have HB := n3_; clear n0_ n1_ n2_ n3_; (try clear hb); (try clear hb2); (try clear hk); (try clear hi); have hcz56_0 : w55.cell? ⟨gb357, 0, none⟩ = some (.int .i64 a0_0) := bc BK357 0; have hcz56_1 : w55.cell? ⟨gb357, 1, none⟩ = some (.int .i64 a0_1) := bc BK357 1; have hfz56_0 := blk_frozen BK357.out 0; have hfz56_1 := blk_frozen BK357.out 1; have hcz57_0 : w55.cell? ⟨gb358, 0, none⟩ = some (.int .i64 a1_0) := bc BK358 0; have hcz57_1 : w55.cell? ⟨gb358, 1, none⟩ = some (.int .i64 a1_1) := bc BK358 1; have hfz57_0 := blk_frozen BK358.out 0; have hfz57_1 := blk_frozen BK358.out 1; have hcz58_0 : w55.cell? ⟨gb359, 0, none⟩ = some (.int .i64 0) := bc BK359 0; have hcz58_1 : w55.cell? ⟨gb359, 1, none⟩ = some (.int .i64 0) := bc BK359 1; have hfz58_0 := blk_frozen BK359.out 0; have hfz58_1 := blk_frozen BK359.out 1))
      refine bodyPost_ret (results_cell_row rfl _ _ gb359 86 #[.int .i64 ji47, .int .i64 ji48] (0, 0) _ rfl (by (with_reducible repeat (first | refine blk_drewN ?_ _ | refine blk_drew ?_ | refine blk_alloc ?_ _)); refine blk_put (cs := #[.int .i64 ji47, .int .i64 0]) ?_ 1 _ rfl; (with_reducible repeat (first | refine blk_drewN ?_ _ | refine blk_drew ?_ | refine blk_alloc ?_ _)); refine blk_put (cs := #[.int .i64 0, .int .i64 0]) ?_ 0 _ rfl; (with_reducible repeat (first | refine blk_drewN ?_ _ | refine blk_drew ?_ | refine blk_alloc ?_ _)); exact BK359.out) Try.underlying86 rfl (by kernel_rfl)) rfl ?_
      exact ⟨by first | rfl | (simp [errW_none, errW_some] <;> rfl) | (simp only [← hji47, ← hji48]; first | rfl | (simp [errW_none, errW_some] <;> rfl)) | (simp [*, errW_none, errW_some] <;> rfl), Y3 HB GE357 GE358 GE359⟩

/-! ### impl_restAll: function 133 -/
def impl_restAll.f  : Option (Int × Int) := some (1, 0)
set_option maxHeartbeats 8000000 in
set_option maxRecDepth 100000 in
theorem impl_restAll.calls  (r1 : Int) (r2 : Int) (w : World) (h : impl_restAll.f  = some (r1, r2)) :
  Calls Try.prog 133 #[] w fun e w' => e = .returned (.agg #[.int .i64 r1, .int .i64 r2]) ∧ Below w.heap.size w w' := by
 have hu90 := Try.underlying90
 have HB := am (Below.refl w.heap.size w)
 have H : (some (1, 0)) = some (r1, r2) := h
 clear h
 simp only [Option.some.injEq, Prod.mk.injEq] at H
 obtain ⟨rfl, rfl⟩ := H
 go_enter Try.func133, Try.ntmps133
 go_wp2_with (first | ((with_reducible refine gate_dst (N := 0) rfl ?_); refine box_event ?hg (N := 0) ?hd (cs := #[.int .i64 0, .int .i64 0]) (t := 90) ?hr ?_; (case hd => rfl); (case hg => rfl); (case hr => first | (go_simp; done) | (go_simp; rfl)); intro gb366 hg w1 hbox hb; have n0_ := am (below_step (Y0 HB) hb); have n1_ := am (hbox); have n2_ := am ((by rw [hg]; exact (below_size (Y0 HB)) : w.heap.size ≤ gb366)); have n3_ := am ((by rw [hg]; exact (below_size (Y0 HB)) : w.heap.size ≤ gb366)); clear HB; have HB := n0_; have BK366 := n1_; have GW366 := n2_; have GE366 := n3_; clear n0_ n1_ n2_ n3_; clear hb hbox hg; have hcz2_0 : w1.cell? ⟨gb366, 0, none⟩ = some (.int .i64 0) := bc BK366 0; have hcz2_1 : w1.cell? ⟨gb366, 1, none⟩ = some (.int .i64 0) := bc BK366 1; have hfz2_0 := blk_frozen BK366.out 0; have hfz2_1 := blk_frozen BK366.out 1))
 refine bodyPost_ret (results_cell_row rfl _ _ gb366 90 #[.int .i64 1, .int .i64 0] (0, 0) _ rfl (by (with_reducible repeat (first | refine blk_drewN ?_ _ | refine blk_drew ?_ | refine blk_alloc ?_ _)); refine blk_put (cs := #[.int .i64 1, .int .i64 0]) ?_ 1 _ rfl; (with_reducible repeat (first | refine blk_drewN ?_ _ | refine blk_drew ?_ | refine blk_alloc ?_ _)); refine blk_put (cs := #[.int .i64 0, .int .i64 0]) ?_ 0 _ rfl; (with_reducible repeat (first | refine blk_drewN ?_ _ | refine blk_drew ?_ | refine blk_alloc ?_ _)); exact BK366.out) Try.underlying90 rfl (by kernel_rfl)) rfl ?_
 exact ⟨by first | rfl | (simp [errW_none, errW_some] <;> rfl) | (simp [*, errW_none, errW_some] <;> rfl), Y1 HB GE366⟩

/-! ### impl_restGcd: function 135 -/
mutual
def impl_restGcd.l0 : Nat → Int → List Int → Int → Int → Option (Int)
 | 0, _, _, _, _ => none
 | k + 1, x3, x6, x7, x8 => if x8 < x7 then (if 0 ≤ x8 then (if x8 < (x6.length : Int) then (impl_restGcd.l1 k x3 (rd x6 x8) x6 x7 x8) else (none)) else (none)) else (if x3 < 0 then (some (wrap64 (-x3))) else (some x3))
def impl_restGcd.l1 : Nat → Int → Int → List Int → Int → Int → Option (Int)
 | 0, _, _, _, _, _ => none
 | k + 1, x3, x5, x6, x7, x8 => if x5 = 0 then (impl_restGcd.l0 k x3 x6 x7 (wrap64 (x8 + 1))) else (impl_restGcd.l1 k x5 (Int.tmod x3 x5) x6 x7 x8)
end
def impl_restGcd.f (k : Nat) (l0 : List Int) : Option (Int) := impl_restGcd.l0 k 0 l0 (l0.length : Int) 0
theorem impl_restGcd.mono_l : ∀ k, (∀ y0 y1 y2 y3, LeO (impl_restGcd.l0 k y0 y1 y2 y3) (impl_restGcd.l0 (k + 1) y0 y1 y2 y3)) ∧ (∀ y0 y1 y2 y3 y4, LeO (impl_restGcd.l1 k y0 y1 y2 y3 y4) (impl_restGcd.l1 (k + 1) y0 y1 y2 y3 y4))
 | 0 => ⟨fun _ _ _ _ r h => by simp [impl_restGcd.l0] at h, fun _ _ _ _ _ r h => by simp [impl_restGcd.l1] at h⟩
 | k + 1 => by
  obtain ⟨ih0, ih1⟩ := impl_restGcd.mono_l k
  refine ⟨?_, ?_⟩
  ·intro y0 y1 y2 y3
   unfold impl_restGcd.l0
   repeat' first
   | (with_reducible exact ih0 _ _ _ _)
   | (with_reducible exact ih1 _ _ _ _ _)
   | (with_reducible exact LeO.refl _)
   | (with_reducible exact LeO.none _)
   | (with_reducible refine LeO.ite ?_ ?_)
   | (with_reducible refine LeO.bind ?_ (fun _ => ?_))
   | exact ih0 _ _ _ _
   | exact ih1 _ _ _ _ _
   | exact LeO.none _
   | refine LeO.ite ?_ ?_
   | refine LeO.bind ?_ (fun _ => ?_)
  ·intro y0 y1 y2 y3 y4
   unfold impl_restGcd.l1
   repeat' first
   | (with_reducible exact ih0 _ _ _ _)
   | (with_reducible exact ih1 _ _ _ _ _)
   | (with_reducible exact LeO.refl _)
   | (with_reducible exact LeO.none _)
   | (with_reducible refine LeO.ite ?_ ?_)
   | (with_reducible refine LeO.bind ?_ (fun _ => ?_))
   | exact ih0 _ _ _ _
   | exact ih1 _ _ _ _ _
   | exact LeO.none _
   | refine LeO.ite ?_ ?_
   | refine LeO.bind ?_ (fun _ => ?_)
theorem impl_restGcd.mono : ∀ a0 k, LeO (impl_restGcd.f k a0) (impl_restGcd.f (k + 1) a0) := by
 intro a0 k
 obtain ⟨ih0, ih1⟩ := impl_restGcd.mono_l k
 unfold impl_restGcd.f
 repeat' first
   | (with_reducible exact ih0 _ _ _ _)
   | (with_reducible exact ih1 _ _ _ _ _)
   | (with_reducible exact LeO.refl _)
   | (with_reducible exact LeO.none _)
   | (with_reducible refine LeO.ite ?_ ?_)
   | (with_reducible refine LeO.bind ?_ (fun _ => ?_))
   | exact ih0 _ _ _ _
   | exact ih1 _ _ _ _ _
   | exact LeO.none _
   | refine LeO.ite ?_ ?_
   | refine LeO.bind ?_ (fun _ => ?_)
set_option maxHeartbeats 8000000 in
set_option maxRecDepth 100000 in
theorem impl_restGcd.calls (k : Nat) (A0 : Option Addr) (c0 : Nat) (l0 : List Int) (r : Int) (w : World) (hr0 : Kd.C (Kd.int .i64) w A0 l0.length l0) (hc0 : l0.length ≤ c0) (h : impl_restGcd.f k l0 = some r) :
  Calls Try.prog 135 #[.slice A0 l0.length c0] w fun e w' => e = .returned (.int .i64 r) ∧ Drawn0 w w' := by
 have HR0 := am hr0
 have HC0 := am hc0
 clear hr0 hc0
 have H : (impl_restGcd.l0 k 0 l0 (l0.length : Int) 0) = some r := h
 clear h
 have H' := am H
 clear H
 go_enter Try.func135, Try.ntmps135
 go_wp2
 repeat (go_quiet (fail); try go_wp2)
 go_loopg [3, 8] k (fun kq v3 v8 w' => ∃ (x3_1 : Int) (x8_1 : Int), v3 = .int .i64 x3_1 ∧ v8 = .int .i64 x8_1 ∧ Aside0 (impl_restGcd.l0 kq x3_1 l0 (l0.length : Int) x8_1 = some r) ∧ Aside0 (kq ≤ k) ∧ Drawn0 w w')
 case atStart => exact ⟨(0), (0), (by first | rfl | (simp; done) | (simp [*]; done)), (by first | rfl | (simp; done) | (simp [*]; done)), H', ⟨Nat.le_refl _⟩, by repeat (first | exact Drawn0.refl _ | apply Drawn0.step)⟩
 case round =>
  clear H'
  try clear c1
  obtain ⟨x3_1, x8_1, rfl, rfl, HA, HK1, ⟨m1, rfl⟩⟩ := hrel
  cases gk with
  | zero => exact absurd HA.out (by simp [impl_restGcd.l0])
  | succ k1 =>
   have H := HA.out
   clear HA
   simp only [impl_restGcd.l0] at H
   by_cases c2 : x8_1 < (l0.length : Int)
   ·rw [if_pos c2] at H
    have c2b0 : decide (x8_1 < (l0.length : Int)) = true := decide_eq_true c2
    clear c2
    by_cases c3 : 0 ≤ x8_1
    ·rw [if_pos c3] at H
     have c3b0 : decide (0 ≤ x8_1) = true := decide_eq_true c3
     clear c3
     by_cases c4 : x8_1 < (l0.length : Int)
     ·rw [if_pos c4] at H
      have c4b0 : decide (x8_1 < (l0.length : Int)) = true := decide_eq_true c4
      clear c4
      have H' := am H
      clear H
      have p367 : 0 ≤ (x8_1 : Int) := oz
      have q367 : x8_1 < (l0.length : Int) := oz
      obtain ⟨ad367, e367, hx367_0⟩ := Kd.at_int HR0.out x8_1 p367 q367
      cases e367
      replace p367 := eq_true p367
      replace q367 := eq_true q367
      go_wp2
      repeat (go_quiet (fail); try go_wp2)
      go_loopg [3, 5] k1 (fun kq v3 v5 w' => ∃ (x3_2 : Int) (x5_2 : Int), v3 = .int .i64 x3_2 ∧ v5 = .int .i64 x5_2 ∧ Aside0 (impl_restGcd.l1 kq x3_2 x5_2 l0 (l0.length : Int) x8_1 = some r) ∧ Aside0 (kq ≤ k1) ∧ Drawn0 w w')
      case atStart => exact ⟨(x3_1), (rd l0 x8_1), (by first | rfl | (simp; done) | (simp [*]; done)), (by first | rfl | (simp; done) | (simp [*]; done)), H', ⟨Nat.le_refl _⟩, by repeat (first | exact Drawn0.refl _ | apply Drawn0.step)⟩
      case round =>
       clear H'
       try clear c1
       try clear c2
       try clear c2b0
       try clear p2
       try clear c3
       try clear c3b0
       try clear p3
       try clear q3
       try clear hx3
       try clear c4
       try clear c4b0
       try clear hx367_0
       try clear p367
       try clear q367
       obtain ⟨x3_2, x5_2, rfl, rfl, HA, HK2, ⟨m2, rfl⟩⟩ := hrel
       cases gk with
       | zero => exact absurd HA.out (by simp [impl_restGcd.l1])
       | succ k2 =>
        have H := HA.out
        clear HA
        simp only [impl_restGcd.l1] at H
        by_cases c5 : x5_2 = 0
        ·rw [if_pos c5] at H
         have c5b0 : (x5_2 == 0) = true := beq_iff_eq.mpr c5
         have c5b1 : (x5_2 != 0) = false := bne_eq_false_iff_eq.mpr c5
         clear c5
         have H' := am H
         clear H
         go_wp2
         repeat (go_quiet (fail); try go_wp2)
         go_roundg k2
         case measure => have := HK1.out; have := HK2.out; omega
         case rel => exact ⟨(x3_2), (wrap64 (x8_1 + 1)), (by first | rfl | (simp; done) | (simp [*]; done)), (by first | rfl | (simp; done) | (simp [*]; done)), H', ⟨by have := HK1.out; have := HK2.out; omega⟩, by repeat (first | exact Drawn0.refl _ | apply Drawn0.step)⟩
        ·rw [if_neg c5] at H
         have c5b0 : (x5_2 == 0) = false := beq_eq_false_iff_ne.mpr c5
         have c5b1 : (x5_2 != 0) = true := bne_iff_ne.mpr c5
         have H' := am H
         clear H
         go_wp2
         repeat (go_quiet (fail); try go_wp2)
         go_roundg k2
         case measure => have := HK1.out; have := HK2.out; omega
         case rel => exact ⟨(x5_2), (Int.tmod x3_2 x5_2), (by first | rfl | (simp; done) | (simp [*]; done)), (by first | rfl | (simp; done) | (simp [*]; done)), H', ⟨by have := HK1.out; have := HK2.out; omega⟩, by repeat (first | exact Drawn0.refl _ | apply Drawn0.step)⟩
     ·rw [if_neg c4] at H
      exact absurd H (by simp)
    ·rw [if_neg c3] at H
     exact absurd H (by simp)
   ·rw [if_neg c2] at H
    have c2b0 : decide (x8_1 < (l0.length : Int)) = false := decide_eq_false c2
    clear c2
    by_cases c6 : x3_1 < 0
    ·rw [if_pos c6] at H
     have c6b0 : decide (x3_1 < 0) = true := decide_eq_true c6
     clear c6
     obtain rfl := Option.some.inj H
     go_wp2
     repeat (go_quiet (fail); try go_wp2)
     go_ret
     exact ⟨by first | rfl | (simp; done) | (simp [*]; done), by repeat (first | exact Drawn0.refl _ | apply Drawn0.step)⟩
    ·rw [if_neg c6] at H
     have c6b0 : decide (x3_1 < 0) = false := decide_eq_false c6
     clear c6
     obtain rfl := Option.some.inj H
     go_wp2
     repeat (go_quiet (fail); try go_wp2)
     go_ret
     exact ⟨by first | rfl | (simp; done) | (simp [*]; done), by repeat (first | exact Drawn0.refl _ | apply Drawn0.step)⟩

/-! ### impl_restOf: function 134 -/
def impl_restOf.f (k : Nat) (a0 : Int) (a1 : Int) : Option (Int × Int) := if a1 > 65536 then ((impl_restGcd.f k (([a1, 65536] : List Int))).bind fun t372 => (if t372 = 0 then (some (0, a0)) else ((impl_restMod.f a0 t372).bind fun t373 => (some (t372, t373))))) else (if a1 = 0 then (some (0, a0)) else ((impl_restMod.f a0 a1).bind fun t374 => (some (a1, t374))))
theorem impl_restOf.mono : ∀ a0 a1 k, LeO (impl_restOf.f k a0 a1) (impl_restOf.f (k + 1) a0 a1) := by
 intro a0 a1 k
 unfold impl_restOf.f
 repeat' first
   | (with_reducible exact impl_restGcd.mono _ _)
   | (with_reducible exact LeO.refl _)
   | (with_reducible exact LeO.none _)
   | (with_reducible refine LeO.ite ?_ ?_)
   | (with_reducible refine LeO.bind ?_ (fun _ => ?_))
   | exact impl_restGcd.mono _ _
   | exact LeO.none _
   | refine LeO.ite ?_ ?_
   | refine LeO.bind ?_ (fun _ => ?_)
set_option maxHeartbeats 8000000 in
set_option maxRecDepth 100000 in
theorem impl_restOf.calls (k : Nat) (a0 : Int) (a1 : Int) (r1 : Int) (r2 : Int) (w : World) (h : impl_restOf.f k a0 a1 = some (r1, r2)) :
  Calls Try.prog 134 #[.int .i64 a0, .int .i64 a1] w fun e w' => e = .returned (.agg #[.int .i64 r1, .int .i64 r2]) ∧ Below w.heap.size w w' := by
 have hu90 := Try.underlying90
 have HB := am (Below.refl w.heap.size w)
 have H : (if a1 > 65536 then ((impl_restGcd.f k (([a1, 65536] : List Int))).bind fun t372 => (if t372 = 0 then (some (0, a0)) else ((impl_restMod.f a0 t372).bind fun t373 => (some (t372, t373))))) else (if a1 = 0 then (some (0, a0)) else ((impl_restMod.f a0 a1).bind fun t374 => (some (a1, t374))))) = some (r1, r2) := h
 clear h
 by_cases c3 : a1 > 65536
 ·rw [if_pos c3] at H
  have c3b0 : decide (65536 < a1) = true := decide_eq_true c3
  clear c3
  obtain ⟨y369, hy369⟩ : ∃ y_ : List Int, y_ = (([a1, 65536] : List Int)) := ⟨_, rfl⟩
  replace H : ((impl_restGcd.f k y369).bind fun t372 => (if t372 = 0 then (some (0, a0)) else ((impl_restMod.f a0 t372).bind fun t373 => (some (t372, t373))))) = some (r1, r2) := by first | (rw [hy369]; with_reducible exact H) | (have H2_ := (Option.bind_some _ _).symm.trans H; rw [hy369]; with_reducible exact H2_) | (have H2_ := (Option.bind_some _ _).symm.trans H; with_reducible exact H2_) | with_reducible exact H | (rw [hy369]; exact H) | exact H
  have Ny369 := am hy369
  clear hy369
  replace H := Option.bind_eq_some_iff.mp H
  obtain ⟨t372, A40, H⟩ := H
  replace H : (if t372 = 0 then (some (0, a0)) else ((impl_restMod.f a0 t372).bind fun t373 => (some (t372, t373)))) = some (r1, r2) := H
  have A4 := am A40
  clear A40
  by_cases c5 : t372 = 0
  ·rw [if_pos c5] at H
   have c5b0 : (t372 == 0) = true := beq_iff_eq.mpr c5
   have c5b1 : (t372 != 0) = false := bne_eq_false_iff_eq.mpr c5
   clear c5
   simp only [Option.some.injEq, Prod.mk.injEq] at H
   obtain ⟨rfl, rfl⟩ := H
   go_enter Try.func134, Try.ntmps134
   go_wp2_with (first | ((with_reducible refine gate_dst (N := 4) rfl ?_); refine box_event ?hg (N := 4) ?hd (cs := #[.int .i64 0, .int .i64 0]) (t := 90) ?hr ?_; (case hd => rfl); (case hg => rfl); (case hr => first | (go_simp; done) | (go_simp; rfl)); intro gb368 hg w6 hbox hb; have n0_ := am (below_step (Y0 HB) hb); have n1_ := am (hbox); have n2_ := am ((by rw [hg]; exact (below_size (Y0 HB)) : w.heap.size ≤ gb368)); have n3_ := am ((by rw [hg]; exact (below_size (Y0 HB)) : w.heap.size ≤ gb368)); clear HB; have HB := n0_; have BK368 := n1_; have GW368 := n2_; have GE368 := n3_; clear n0_ n1_ n2_ n3_; clear hb hbox hg) | ((with_reducible refine gate_dst (N := 8) rfl ?_); refine Kd.R_lit (Kd.int .i64) _ 3 ?hg (N := 8) ?hd (xs := ([a1, 65536] : List Int)) (inner := [.int .i64 a1, .int .i64 65536]) (ok := fun _ => True) (okp := fun _ => True) ?hr ?hp (fun _ hk => hk) trivial (Below.refl _ _) (Nat.le_refl _) (by simp) ?_; (case hd => rfl); (case hg => rfl); (case hr => first | (go_simp; done) | (go_simp; rfl)); (case hp => exact (Reps.one (show Kd.M (Kd.int .i64) _ _ _ a1 [.int .i64 a1] from rfl) (Reps.one (show Kd.M (Kd.int .i64) _ _ _ 65536 [.int .i64 65536] from rfl) (Reps.none _ _)))); intro v370 w7 ho8 hb hg_ hnew_; clear hg_ hnew_; (first | rw [← Ny369.out] at ho8 | (simp only [Int.reduceToNat] at ho8; rw [← Ny369.out] at ho8)); have n0_ := am (Kd.R_lower ho8 (below_size (Y1 HB GE368))); have n1_ := am (blk_below (g := gb368) (o := b2 0 0 90) (Z BK368) hb); have n2_ := am (below_step (Y1 HB GE368) hb); clear BK368; clear HB; have HO371 := n0_; have BK368 := n1_; have HB := n2_; clear n0_ n1_ n2_; clear hb ho8; obtain ⟨Ao9, co9, eo9⟩ := Kd.R_slice HO371.out; subst eo9) | ((with_reducible refine gate_callee (f := 135) rfl ?_); refine goesL_ (some 9) rfl rfl Try.func135 (by kernel_rfl) rfl #[.slice Ao9 y369.length co9] rfl mz ?_; (with_reducible refine (impl_restGcd.calls k _ _ y369 t372 _ ?side1 ?side2 A4.out).mono ?_); (case side1 => repeat (first | exact (Kd.R_reads' HO371.out).2.2 | (with_reducible refine Kd.C_alloc ?_ _) | (with_reducible refine Kd.C_drewN ?_ _) | (with_reducible refine Kd.C_drew ?_))); (case side2 => exact (Kd.R_reads' HO371.out).2.1); rintro e w' ⟨rfl, ⟨nd, rfl⟩⟩; refine ⟨_, rfl, ?_⟩; (try (rw [drewN_self w7]; generalize hq_ : World.drewN w7 _ = w7; have n0_ : Aside0 (Kd.R (Kd.int .i64) 3 w7 w.heap.size (fun _ => True) (.slice Ao9 y369.length co9) y369) := ⟨by rw [← hq_]; exact (by (with_reducible repeat (first | apply Kd.R_alloc | apply Kd.R_drewN | apply Kd.R_drew)); exact HO371.out)⟩; have n1_ : Aside0 (w7.heap[gb368]? = some (.cells #[.int .i64 0, .int .i64 0] 90 (0, 0))) := ⟨by rw [← hq_]; exact (Z BK368)⟩; have n2_ : Aside0 (Below w.heap.size w w7) := ⟨by rw [← hq_]; exact (Y1 HB GE368)⟩; clear HO371 BK368 HB hq_; have HO371 := n0_; have BK368 := n1_; have HB := n2_; clear n0_ n1_ n2_)); have hcz10_0 : w7.cell? ⟨gb368, 0, none⟩ = some (.int .i64 0) := bc BK368 0; have hcz10_1 : w7.cell? ⟨gb368, 1, none⟩ = some (.int .i64 0) := bc BK368 1; have hfz10_0 := blk_frozen BK368.out 0; have hfz10_1 := blk_frozen BK368.out 1))
   refine bodyPost_ret (results_cell_row rfl _ _ gb368 90 #[.int .i64 0, .int .i64 a0] (0, 0) _ rfl (by (with_reducible repeat (first | refine blk_drewN ?_ _ | refine blk_drew ?_ | refine blk_alloc ?_ _)); refine blk_put (cs := #[.int .i64 0, .int .i64 0]) ?_ 1 _ rfl; (with_reducible repeat (first | refine blk_drewN ?_ _ | refine blk_drew ?_ | refine blk_alloc ?_ _)); refine blk_put (cs := #[.int .i64 0, .int .i64 0]) ?_ 0 _ rfl; (with_reducible repeat (first | refine blk_drewN ?_ _ | refine blk_drew ?_ | refine blk_alloc ?_ _)); exact BK368.out) Try.underlying90 rfl (by kernel_rfl)) rfl ?_
   exact ⟨by first | rfl | (simp [errW_none, errW_some] <;> rfl) | (simp [*, errW_none, errW_some] <;> rfl), Y1 HB GE368⟩
  ·rw [if_neg c5] at H
   have c5b0 : (t372 == 0) = false := beq_eq_false_iff_ne.mpr c5
   have c5b1 : (t372 != 0) = true := bne_iff_ne.mpr c5
   replace H := Option.bind_eq_some_iff.mp H
   obtain ⟨t373, A110, H⟩ := H
   replace H : (some (t372, t373)) = some (r1, r2) := H
   have A11 := am A110
   clear A110
   simp only [Option.some.injEq, Prod.mk.injEq] at H
   obtain ⟨rfl, rfl⟩ := H
   go_enter Try.func134, Try.ntmps134
   go_wp2_with (first | ((with_reducible refine gate_dst (N := 4) rfl ?_); refine box_event ?hg (N := 4) ?hd (cs := #[.int .i64 0, .int .i64 0]) (t := 90) ?hr ?_; (case hd => rfl); (case hg => rfl); (case hr => first | (go_simp; done) | (go_simp; rfl)); intro gb368 hg w12 hbox hb; have n0_ := am (below_step (Y0 HB) hb); have n1_ := am (hbox); have n2_ := am ((by rw [hg]; exact (below_size (Y0 HB)) : w.heap.size ≤ gb368)); have n3_ := am ((by rw [hg]; exact (below_size (Y0 HB)) : w.heap.size ≤ gb368)); clear HB; have HB := n0_; have BK368 := n1_; have GW368 := n2_; have GE368 := n3_; clear n0_ n1_ n2_ n3_; clear hb hbox hg) | ((with_reducible refine gate_dst (N := 8) rfl ?_); refine Kd.R_lit (Kd.int .i64) _ 3 ?hg (N := 8) ?hd (xs := ([a1, 65536] : List Int)) (inner := [.int .i64 a1, .int .i64 65536]) (ok := fun _ => True) (okp := fun _ => True) ?hr ?hp (fun _ hk => hk) trivial (Below.refl _ _) (Nat.le_refl _) (by simp) ?_; (case hd => rfl); (case hg => rfl); (case hr => first | (go_simp; done) | (go_simp; rfl)); (case hp => exact (Reps.one (show Kd.M (Kd.int .i64) _ _ _ a1 [.int .i64 a1] from rfl) (Reps.one (show Kd.M (Kd.int .i64) _ _ _ 65536 [.int .i64 65536] from rfl) (Reps.none _ _)))); intro v370 w13 ho14 hb hg_ hnew_; clear hg_ hnew_; (first | rw [← Ny369.out] at ho14 | (simp only [Int.reduceToNat] at ho14; rw [← Ny369.out] at ho14)); have n0_ := am (Kd.R_lower ho14 (below_size (Y1 HB GE368))); have n1_ := am (blk_below (g := gb368) (o := b2 0 0 90) (Z BK368) hb); have n2_ := am (below_step (Y1 HB GE368) hb); clear BK368; clear HB; have HO371 := n0_; have BK368 := n1_; have HB := n2_; clear n0_ n1_ n2_; clear hb ho14; obtain ⟨Ao15, co15, eo15⟩ := Kd.R_slice HO371.out; subst eo15) | ((with_reducible refine gate_callee (f := 135) rfl ?_); refine goesL_ (some 9) rfl rfl Try.func135 (by kernel_rfl) rfl #[.slice Ao15 y369.length co15] rfl mz ?_; (with_reducible refine (impl_restGcd.calls k _ _ y369 t372 _ ?side1 ?side2 A4.out).mono ?_); (case side1 => repeat (first | exact (Kd.R_reads' HO371.out).2.2 | (with_reducible refine Kd.C_alloc ?_ _) | (with_reducible refine Kd.C_drewN ?_ _) | (with_reducible refine Kd.C_drew ?_))); (case side2 => exact (Kd.R_reads' HO371.out).2.1); rintro e w' ⟨rfl, ⟨nd, rfl⟩⟩; refine ⟨_, rfl, ?_⟩; (try (rw [drewN_self w13]; generalize hq_ : World.drewN w13 _ = w13; have n0_ : Aside0 (Kd.R (Kd.int .i64) 3 w13 w.heap.size (fun _ => True) (.slice Ao15 y369.length co15) y369) := ⟨by rw [← hq_]; exact (by (with_reducible repeat (first | apply Kd.R_alloc | apply Kd.R_drewN | apply Kd.R_drew)); exact HO371.out)⟩; have n1_ : Aside0 (w13.heap[gb368]? = some (.cells #[.int .i64 0, .int .i64 0] 90 (0, 0))) := ⟨by rw [← hq_]; exact (Z BK368)⟩; have n2_ : Aside0 (Below w.heap.size w w13) := ⟨by rw [← hq_]; exact (Y1 HB GE368)⟩; clear HO371 BK368 HB hq_; have HO371 := n0_; have BK368 := n1_; have HB := n2_; clear n0_ n1_ n2_))) | ((with_reducible refine gate_callee (f := 122) rfl ?_); refine goesL_ (some 17) rfl rfl Try.func122 (by kernel_rfl) rfl #[.int .i64 a0, .int .i64 t372] rfl mz ?_; (with_reducible refine (impl_restMod.calls a0 t372 t373 _ A11.out).mono ?_); rintro e w' ⟨rfl, ⟨nd, rfl⟩⟩; refine ⟨_, rfl, ?_⟩; (try (rw [drewN_self w13]; generalize hq_ : World.drewN w13 _ = w13; have n0_ : Aside0 (Kd.R (Kd.int .i64) 3 w13 w.heap.size (fun _ => True) (.slice Ao15 y369.length co15) y369) := ⟨by rw [← hq_]; exact (by (with_reducible repeat (first | apply Kd.R_alloc | apply Kd.R_drewN | apply Kd.R_drew)); exact HO371.out)⟩; have n1_ : Aside0 (w13.heap[gb368]? = some (.cells #[.int .i64 0, .int .i64 0] 90 (0, 0))) := ⟨by rw [← hq_]; exact (Z BK368)⟩; have n2_ : Aside0 (Below w.heap.size w w13) := ⟨by rw [← hq_]; exact (Y1 HB GE368)⟩; clear HO371 BK368 HB hq_; have HO371 := n0_; have BK368 := n1_; have HB := n2_; clear n0_ n1_ n2_)); have hcz16_0 : w13.cell? ⟨gb368, 0, none⟩ = some (.int .i64 0) := bc BK368 0; have hcz16_1 : w13.cell? ⟨gb368, 1, none⟩ = some (.int .i64 0) := bc BK368 1; have hfz16_0 := blk_frozen BK368.out 0; have hfz16_1 := blk_frozen BK368.out 1))
   refine bodyPost_ret (results_cell_row rfl _ _ gb368 90 #[.int .i64 t372, .int .i64 t373] (0, 0) _ rfl (by (with_reducible repeat (first | refine blk_drewN ?_ _ | refine blk_drew ?_ | refine blk_alloc ?_ _)); refine blk_put (cs := #[.int .i64 t372, .int .i64 0]) ?_ 1 _ rfl; (with_reducible repeat (first | refine blk_drewN ?_ _ | refine blk_drew ?_ | refine blk_alloc ?_ _)); refine blk_put (cs := #[.int .i64 0, .int .i64 0]) ?_ 0 _ rfl; (with_reducible repeat (first | refine blk_drewN ?_ _ | refine blk_drew ?_ | refine blk_alloc ?_ _)); exact BK368.out) Try.underlying90 rfl (by kernel_rfl)) rfl ?_
   exact ⟨by first | rfl | (simp [errW_none, errW_some] <;> rfl) | (simp [*, errW_none, errW_some] <;> rfl), Y1 HB GE368⟩
 ·rw [if_neg c3] at H
  have c3b0 : decide (65536 < a1) = false := decide_eq_false c3
  clear c3
  by_cases c17 : a1 = 0
  ·rw [if_pos c17] at H
   have c17b0 : (a1 == 0) = true := beq_iff_eq.mpr c17
   have c17b1 : (a1 != 0) = false := bne_eq_false_iff_eq.mpr c17
   clear c17
   simp only [Option.some.injEq, Prod.mk.injEq] at H
   obtain ⟨rfl, rfl⟩ := H
   go_enter Try.func134, Try.ntmps134
   go_wp2_with (first | ((with_reducible refine gate_dst (N := 4) rfl ?_); refine box_event ?hg (N := 4) ?hd (cs := #[.int .i64 0, .int .i64 0]) (t := 90) ?hr ?_; (case hd => rfl); (case hg => rfl); (case hr => first | (go_simp; done) | (go_simp; rfl)); intro gb368 hg w18 hbox hb; have n0_ := am (below_step (Y0 HB) hb); have n1_ := am (hbox); have n2_ := am ((by rw [hg]; exact (below_size (Y0 HB)) : w.heap.size ≤ gb368)); have n3_ := am ((by rw [hg]; exact (below_size (Y0 HB)) : w.heap.size ≤ gb368)); clear HB; have HB := n0_; have BK368 := n1_; have GW368 := n2_; have GE368 := n3_; clear n0_ n1_ n2_ n3_; clear hb hbox hg; have hcz19_0 : w18.cell? ⟨gb368, 0, none⟩ = some (.int .i64 0) := bc BK368 0; have hcz19_1 : w18.cell? ⟨gb368, 1, none⟩ = some (.int .i64 0) := bc BK368 1; have hfz19_0 := blk_frozen BK368.out 0; have hfz19_1 := blk_frozen BK368.out 1))
   refine bodyPost_ret (results_cell_row rfl _ _ gb368 90 #[.int .i64 0, .int .i64 a0] (0, 0) _ rfl (by (with_reducible repeat (first | refine blk_drewN ?_ _ | refine blk_drew ?_ | refine blk_alloc ?_ _)); refine blk_put (cs := #[.int .i64 0, .int .i64 0]) ?_ 1 _ rfl; (with_reducible repeat (first | refine blk_drewN ?_ _ | refine blk_drew ?_ | refine blk_alloc ?_ _)); refine blk_put (cs := #[.int .i64 0, .int .i64 0]) ?_ 0 _ rfl; (with_reducible repeat (first | refine blk_drewN ?_ _ | refine blk_drew ?_ | refine blk_alloc ?_ _)); exact BK368.out) Try.underlying90 rfl (by kernel_rfl)) rfl ?_
   exact ⟨by first | rfl | (simp [errW_none, errW_some] <;> rfl) | (simp [*, errW_none, errW_some] <;> rfl), Y1 HB GE368⟩
  ·rw [if_neg c17] at H
   have c17b0 : (a1 == 0) = false := beq_eq_false_iff_ne.mpr c17
   have c17b1 : (a1 != 0) = true := bne_iff_ne.mpr c17
   replace H := Option.bind_eq_some_iff.mp H
   obtain ⟨t374, A200, H⟩ := H
   replace H : (some (a1, t374)) = some (r1, r2) := H
   have A20 := am A200
   clear A200
   simp only [Option.some.injEq, Prod.mk.injEq] at H
   obtain ⟨rfl, rfl⟩ := H
   go_enter Try.func134, Try.ntmps134
   go_wp2_with (first | ((with_reducible refine gate_dst (N := 4) rfl ?_); refine box_event ?hg (N := 4) ?hd (cs := #[.int .i64 0, .int .i64 0]) (t := 90) ?hr ?_; (case hd => rfl); (case hg => rfl); (case hr => first | (go_simp; done) | (go_simp; rfl)); intro gb368 hg w21 hbox hb; have n0_ := am (below_step (Y0 HB) hb); have n1_ := am (hbox); have n2_ := am ((by rw [hg]; exact (below_size (Y0 HB)) : w.heap.size ≤ gb368)); have n3_ := am ((by rw [hg]; exact (below_size (Y0 HB)) : w.heap.size ≤ gb368)); clear HB; have HB := n0_; have BK368 := n1_; have GW368 := n2_; have GE368 := n3_; clear n0_ n1_ n2_ n3_; clear hb hbox hg) | ((with_reducible refine gate_callee (f := 122) rfl ?_); refine goesL_ (some 17) rfl rfl Try.func122 (by kernel_rfl) rfl #[.int .i64 a0, .int .i64 a1] rfl mz ?_; (with_reducible refine (impl_restMod.calls a0 a1 t374 _ A20.out).mono ?_); rintro e w' ⟨rfl, ⟨nd, rfl⟩⟩; refine ⟨_, rfl, ?_⟩; (try (rw [drewN_self w21]; generalize hq_ : World.drewN w21 _ = w21; have n0_ : Aside0 (w21.heap[gb368]? = some (.cells #[.int .i64 0, .int .i64 0] 90 (0, 0))) := ⟨by rw [← hq_]; exact (Z BK368)⟩; have n1_ : Aside0 (Below w.heap.size w w21) := ⟨by rw [← hq_]; exact (Y1 HB GE368)⟩; clear BK368 HB hq_; have BK368 := n0_; have HB := n1_; clear n0_ n1_)); have hcz22_0 : w21.cell? ⟨gb368, 0, none⟩ = some (.int .i64 0) := bc BK368 0; have hcz22_1 : w21.cell? ⟨gb368, 1, none⟩ = some (.int .i64 0) := bc BK368 1; have hfz22_0 := blk_frozen BK368.out 0; have hfz22_1 := blk_frozen BK368.out 1))
   refine bodyPost_ret (results_cell_row rfl _ _ gb368 90 #[.int .i64 a1, .int .i64 t374] (0, 0) _ rfl (by (with_reducible repeat (first | refine blk_drewN ?_ _ | refine blk_drew ?_ | refine blk_alloc ?_ _)); refine blk_put (cs := #[.int .i64 a1, .int .i64 0]) ?_ 1 _ rfl; (with_reducible repeat (first | refine blk_drewN ?_ _ | refine blk_drew ?_ | refine blk_alloc ?_ _)); refine blk_put (cs := #[.int .i64 0, .int .i64 0]) ?_ 0 _ rfl; (with_reducible repeat (first | refine blk_drewN ?_ _ | refine blk_drew ?_ | refine blk_alloc ?_ _)); exact BK368.out) Try.underlying90 rfl (by kernel_rfl)) rfl ?_
   exact ⟨by first | rfl | (simp [errW_none, errW_some] <;> rfl) | (simp [*, errW_none, errW_some] <;> rfl), Y1 HB GE368⟩

end Go.Proofs.Ytnmccgjdnceheaa.PFnExactValWiden
