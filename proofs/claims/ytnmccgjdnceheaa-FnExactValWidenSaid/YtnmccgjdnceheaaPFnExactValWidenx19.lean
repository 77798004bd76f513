/- Written by this session's own driver (wip/dprint.py): the functions that the law FnExactValWiden reaches, as Lean functions, each with its contract. -/
import Derived.Test.YtnmccgjdnceheaaPFnExactValWidenx0
import Derived.Test.YtnmccgjdnceheaaPFnExactValWidenx14
import Derived.Test.YtnmccgjdnceheaaPFnExactValWidenx15
import Derived.Test.YtnmccgjdnceheaaPFnExactValWidenx16
import Derived.Test.YtnmccgjdnceheaaPFnExactValWidenx17
import Derived.Test.YtnmccgjdnceheaaPFnExactValWidenx18
import Derived.Test.YtnmccgjdnceheaaSv
namespace Go.Proofs.Ytnmccgjdnceheaa.PFnExactValWiden
open Go.RowKit Go.Proofs.YtnmccgjdnceheaaV.PrintWords Go.Proofs.YtnmccgjdnceheaaV.PrintLast Go.Proofs.YtnmccgjdnceheaaV.PrintMore Go.Proofs.YtnmccgjdnceheaaSv
attribute [local go_sem] max2_int min2_int max_two min_two max_three min_three max_four min_four   -- for this text's walks alone
set_option linter.unusedVariables false
set_option linter.unusedSimpArgs false

/-! ### impl_ValJoin: function 21 -/
def impl_ValJoin.j0 : Nat → Bool → Int → Int → Int → Int → Int → Int → Int → Int → Option (Int × Int × Int × Int)
 | 0, _, _, _, _, _, _, _, _, _ => none
 | k + 1, x5, x389000, x389001, x389002, x389003, x390000, x390001, x390002, x390003 => if x5 = true then ((impl_valNone.f).bind fun bt393 => (some (bt393.1, bt393.2.1, bt393.2.2.1, bt393.2.2.2))) else ((impl_Val_none.f x389000 x389001 x389002 x389003).bind fun t397 => (if t397 = true then (some (x390000, x390001, x390002, x390003)) else ((impl_Val_none.f x390000 x390001 x390002 x390003).bind fun t398 => (if t398 = true then (some (x389000, x389001, x389002, x389003)) else ((impl_Val_span.f x389000 x389001 x389002 x389003).bind fun bt399 => ((impl_Val_span.f x390000 x390001 x390002 x390003).bind fun bt401 => ((impl_RangeJoin.f k bt399.1 bt399.2 bt401.1 bt401.2).bind fun bt403 => ((impl_Val_rest.f x389000 x389001 x389002 x389003).bind fun bt405 => ((impl_Val_rest.f x390000 x390001 x390002 x390003).bind fun bt407 => ((impl_RestJoin.f k bt405.1 bt405.2 bt407.1 bt407.2).bind fun bt409 => ((impl_ValMake.f k bt403.1 bt403.2 bt409.1 bt409.2).bind fun bt411 => (some (bt411.1, bt411.2.1, bt411.2.2.1, bt411.2.2.2)))))))))))))
def impl_ValJoin.f (k : Nat) (a0_0 : Int) (a0_1 : Int) (a0_2 : Int) (a0_3 : Int) (a1_0 : Int) (a1_1 : Int) (a1_2 : Int) (a1_3 : Int) : Option (Int × Int × Int × Int) := (impl_ValOk.f k a0_0 a0_1 a0_2 a0_3).bind fun t391 => (if t391 = true then ((impl_ValOk.f k a1_0 a1_1 a1_2 a1_3).bind fun t392 => (impl_ValJoin.j0 k (!t392) a0_0 a0_1 a0_2 a0_3 a1_0 a1_1 a1_2 a1_3)) else (impl_ValJoin.j0 k true a0_0 a0_1 a0_2 a0_3 a1_0 a1_1 a1_2 a1_3))
theorem impl_ValJoin.mono_l : ∀ k, (∀ y0 y1 y2 y3 y4 y5 y6 y7 y8, LeO (impl_ValJoin.j0 k y0 y1 y2 y3 y4 y5 y6 y7 y8) (impl_ValJoin.j0 (k + 1) y0 y1 y2 y3 y4 y5 y6 y7 y8))
 | 0 => fun _ _ _ _ _ _ _ _ _ r h => by simp [impl_ValJoin.j0] at h
 | k + 1 => by
  have ih0 := impl_ValJoin.mono_l k
  ·intro y0 y1 y2 y3 y4 y5 y6 y7 y8
   unfold impl_ValJoin.j0
   repeat' first
   | (with_reducible exact ih0 _ _ _ _ _ _ _ _ _)
   | (with_reducible exact impl_RangeJoin.mono _ _ _ _ _)
   | (with_reducible exact impl_RestJoin.mono _ _ _ _ _)
   | (with_reducible exact impl_ValMake.mono _ _ _ _ _)
   | (with_reducible exact impl_ValOk.mono _ _ _ _ _)
   | (with_reducible exact LeO.refl _)
   | (with_reducible exact LeO.none _)
   | (with_reducible refine LeO.ite ?_ ?_)
   | (with_reducible refine LeO.bind ?_ (fun _ => ?_))
   | exact ih0 _ _ _ _ _ _ _ _ _
   | exact impl_RangeJoin.mono _ _ _ _ _
   | exact impl_RestJoin.mono _ _ _ _ _
   | exact impl_ValMake.mono _ _ _ _ _
   | exact impl_ValOk.mono _ _ _ _ _
   | exact LeO.none _
   | refine LeO.ite ?_ ?_
   | refine LeO.bind ?_ (fun _ => ?_)
theorem impl_ValJoin.mono : ∀ a0 a1 a2 a3 a4 a5 a6 a7 k, LeO (impl_ValJoin.f k a0 a1 a2 a3 a4 a5 a6 a7) (impl_ValJoin.f (k + 1) a0 a1 a2 a3 a4 a5 a6 a7) := by
 intro a0 a1 a2 a3 a4 a5 a6 a7 k
 have ih0 := impl_ValJoin.mono_l k
 unfold impl_ValJoin.f
 repeat' first
   | (with_reducible exact ih0 _ _ _ _ _ _ _ _ _)
   | (with_reducible exact impl_RangeJoin.mono _ _ _ _ _)
   | (with_reducible exact impl_RestJoin.mono _ _ _ _ _)
   | (with_reducible exact impl_ValMake.mono _ _ _ _ _)
   | (with_reducible exact impl_ValOk.mono _ _ _ _ _)
   | (with_reducible exact LeO.refl _)
   | (with_reducible exact LeO.none _)
   | (with_reducible refine LeO.ite ?_ ?_)
   | (with_reducible refine LeO.bind ?_ (fun _ => ?_))
   | exact ih0 _ _ _ _ _ _ _ _ _
   | exact impl_RangeJoin.mono _ _ _ _ _
   | exact impl_RestJoin.mono _ _ _ _ _
   | exact impl_ValMake.mono _ _ _ _ _
   | exact impl_ValOk.mono _ _ _ _ _
   | exact LeO.none _
   | refine LeO.ite ?_ ?_
   | refine LeO.bind ?_ (fun _ => ?_)
def impl_ValJoin.T7 : Bool × List (List Nat × List Nat) := (true, [([], []), ([0], [0]), ([], []), ([2, 1], [2]), ([1, 3, 3], [1, 3]), ([], []), ([5, 4], [5]), ([], []), ([7, 6], [7]), ([6, 8, 8], [6, 8]), ([4, 9, 9], [4, 9]), ([10, 10, 0, 1, 2, 3, 4, 5, 6, 7, 8, 9, 10], [10])])
def impl_ValJoin.B7 : List Nat := [0, 1, 0, 7, 15, 0, 63, 0, 255, 511, 1023, 2047]
theorem impl_ValJoin.tab7 : rtab .any (opsOf Try.f21 7) = impl_ValJoin.T7 := by kernel_rfl
theorem impl_ValJoin.bits7 : waitsOk impl_ValJoin.T7.2 impl_ValJoin.B7 = true := by kernel_rfl
set_option maxHeartbeats 8000000 in
set_option maxRecDepth 100000 in
theorem impl_ValJoin.calls (k : Nat) (a0_0 : Int) (a0_1 : Int) (a0_2 : Int) (a0_3 : Int) (a1_0 : Int) (a1_1 : Int) (a1_2 : Int) (a1_3 : Int) (r1 : Int) (r2 : Int) (r3 : Int) (r4 : Int) (w : World) (h : impl_ValJoin.f k a0_0 a0_1 a0_2 a0_3 a1_0 a1_1 a1_2 a1_3 = some (r1, r2, r3, r4)) :
  Calls Try.prog 21 #[.agg #[.int .i64 a0_0, .int .i64 a0_1, .int .i64 a0_2, .int .i64 a0_3], .agg #[.int .i64 a1_0, .int .i64 a1_1, .int .i64 a1_2, .int .i64 a1_3]] w fun e w' => e = .returned (.agg #[.int .i64 r1, .int .i64 r2, .int .i64 r3, .int .i64 r4]) ∧ Below w.heap.size w w' := by
 have hu25 := Try.underlying25
 have HB := am (Below.refl w.heap.size w)
 have H : ((impl_ValOk.f k a0_0 a0_1 a0_2 a0_3).bind fun t391 => (if t391 = true then ((impl_ValOk.f k a1_0 a1_1 a1_2 a1_3).bind fun t392 => (impl_ValJoin.j0 k (!t392) a0_0 a0_1 a0_2 a0_3 a1_0 a1_1 a1_2 a1_3)) else (impl_ValJoin.j0 k true a0_0 a0_1 a0_2 a0_3 a1_0 a1_1 a1_2 a1_3))) = some (r1, r2, r3, r4) := h
 clear h
 have HC3 := am H
 clear H
 go_enter Try.func21, Try.ntmps21
 go_upto_region 1 with (first | ((with_reducible refine gate_dst (N := 2) rfl ?_); refine box_event ?hg (N := 2) ?hd (cs := #[.int .i64 a0_0, .int .i64 a0_1, .int .i64 a0_2, .int .i64 a0_3]) (t := 25) ?hr ?_; (case hd => rfl); (case hg => rfl); (case hr => first | (go_simp; done) | (go_simp; rfl)); intro gb388 hg w4 hbox hb; have n0_ := am (below_step (Y0 HB) hb); have n1_ := am (hbox); have n2_ := am ((by rw [hg]; exact (below_size (Y0 HB)) : w.heap.size ≤ gb388)); have n3_ := am ((by rw [hg]; exact (below_size (Y0 HB)) : w.heap.size ≤ gb388)); clear HB; have HB := n0_; have BK388 := n1_; have GW388 := n2_; have GE388 := n3_; clear n0_ n1_ n2_ n3_; clear hb hbox hg) | ((with_reducible refine gate_dst (N := 3) rfl ?_); refine box_event ?hg (N := 3) ?hd (cs := #[.int .i64 a1_0, .int .i64 a1_1, .int .i64 a1_2, .int .i64 a1_3]) (t := 25) ?hr ?_; (case hd => rfl); (case hg => rfl); (case hr => first | (go_simp; done) | (go_simp; rfl)); intro gb389 hg w5 hbox hb; have n0_ := am (blk_below (g := gb388) (o := b4 a0_0 a0_1 a0_2 a0_3 25) (Z BK388) hb); have n1_ := am (below_step (Y1 HB GE388) hb); have n2_ := am (hbox); have n3_ := am ((by rw [hg]; exact (below_size (Y1 HB GE388)) : w.heap.size ≤ gb389)); have n4_ := am ((by rw [hg]; exact (below_size (Y1 HB GE388)) : w.heap.size ≤ gb389)); have n5_ := am ((nl (o := b4 a0_0 a0_1 a0_2 a0_3 25) hg (Z BK388) : gb388 ≠ gb389)); have n6_ := am ((ng (o := b4 a0_0 a0_1 a0_2 a0_3 25) hg (Z BK388) : gb389 ≠ gb388)); clear BK388; clear HB; have BK388 := n0_; have HB := n1_; have BK389 := n2_; have GW389 := n3_; have GE389 := n4_; have NB388_389 := n5_; have NB389_388 := n6_; clear n0_ n1_ n2_ n3_ n4_ n5_ n6_; clear hb hbox hg) | ((with_reducible refine gate_dst (N := 4) rfl ?_); refine box_event ?hg (N := 4) ?hd (cs := #[.int .i64 0, .int .i64 0, .int .i64 0, .int .i64 0]) (t := 25) ?hr ?_; (case hd => rfl); (case hg => rfl); (case hr => first | (go_simp; done) | (go_simp; rfl)); intro gb390 hg w6 hbox hb; have n0_ := am (blk_below (g := gb388) (o := b4 a0_0 a0_1 a0_2 a0_3 25) (Z BK388) hb); have n1_ := am (blk_below (g := gb389) (o := b4 a1_0 a1_1 a1_2 a1_3 25) (Z BK389) hb); have n2_ := am (below_step (Y2 HB GE388 GE389) hb); have n3_ := am (hbox); have n4_ := am ((by rw [hg]; exact (below_size (Y2 HB GE388 GE389)) : w.heap.size ≤ gb390)); have n5_ := am ((by rw [hg]; exact (below_size (Y2 HB GE388 GE389)) : w.heap.size ≤ gb390)); have n6_ := am ((nl (o := b4 a0_0 a0_1 a0_2 a0_3 25) hg (Z BK388) : gb388 ≠ gb390)); have n7_ := am ((ng (o := b4 a0_0 a0_1 a0_2 a0_3 25) hg (Z BK388) : gb390 ≠ gb388)); have n8_ := am ((nl (o := b4 a1_0 a1_1 a1_2 a1_3 25) hg (Z BK389) : gb389 ≠ gb390)); have n9_ := am ((ng (o := b4 a1_0 a1_1 a1_2 a1_3 25) hg (Z BK389) : gb390 ≠ gb389)); clear BK388; clear BK389; clear HB; have BK388 := n0_; have BK389 := n1_; have HB := n2_; have BK390 := n3_; have GW390 := n4_; have GE390 := n5_; have NB388_390 := n6_; have NB390_388 := n7_; have NB389_390 := n8_; have NB390_389 := n9_; clear n0_ n1_ n2_ n3_ n4_ n5_ n6_ n7_ n8_ n9_; clear hb hbox hg))
 (try simp only [Act.put, List.setIfInBounds_toArray, List.set_cons_zero, List.set_cons_succ])
 go_cut [5] (fun v5 wc => ∃ (kq : Nat) (x5_2 : Bool), v5 = .bool x5_2 ∧ Aside0 (impl_ValJoin.j0 kq x5_2 a0_0 a0_1 a0_2 a0_3 a1_0 a1_1 a1_2 a1_3 = some (r1, r2, r3, r4)) ∧ Aside0 (kq ≤ k) ∧ Aside0 (wc.heap[gb388]? = some (.cells #[.int .i64 a0_0, .int .i64 a0_1, .int .i64 a0_2, .int .i64 a0_3] 25 (0, 0))) ∧ Aside0 (wc.heap[gb389]? = some (.cells #[.int .i64 a1_0, .int .i64 a1_1, .int .i64 a1_2, .int .i64 a1_3] 25 (0, 0))) ∧ Aside0 (wc.heap[gb390]? = some (.cells #[.int .i64 0, .int .i64 0, .int .i64 0, .int .i64 0] 25 (0, 0))) ∧ Aside0 (Below w.heap.size w wc))
 case first =>
  have H := HC3.out
  clear HC3
  replace H := Option.bind_eq_some_iff.mp H
  obtain ⟨t391, A70, H⟩ := H
  replace H : (if t391 = true then ((impl_ValOk.f k a1_0 a1_1 a1_2 a1_3).bind fun t392 => (impl_ValJoin.j0 k (!t392) a0_0 a0_1 a0_2 a0_3 a1_0 a1_1 a1_2 a1_3)) else (impl_ValJoin.j0 k true a0_0 a0_1 a0_2 a0_3 a1_0 a1_1 a1_2 a1_3)) = some (r1, r2, r3, r4) := H
  have A7 := am A70
  clear A70
  by_cases c8 : t391 = true
  ·subst c8
   have H1 : ((impl_ValOk.f k a1_0 a1_1 a1_2 a1_3).bind fun t392 => (impl_ValJoin.j0 k (!t392) a0_0 a0_1 a0_2 a0_3 a1_0 a1_1 a1_2 a1_3)) = some (r1, r2, r3, r4) := by rw [if_pos rfl] at H; exact H
   clear H
   have H := H1
   clear H1
   replace H := Option.bind_eq_some_iff.mp H
   obtain ⟨t392, A90, H⟩ := H
   replace H : (impl_ValJoin.j0 k (!t392) a0_0 a0_1 a0_2 a0_3 a1_0 a1_1 a1_2 a1_3) = some (r1, r2, r3, r4) := H
   have A9 := am A90
   clear A90
   have H' := am H
   clear H
   have hnb10 := NB388_389.out
   have hnc10 := NB389_388.out
   have hnb11 := NB388_390.out
   have hnc11 := NB390_388.out
   have hcz12_0 : w6.cell? ⟨gb388, 0, none⟩ = some (.int .i64 a0_0) := bc BK388 0
   have hcz12_1 : w6.cell? ⟨gb388, 1, none⟩ = some (.int .i64 a0_1) := bc BK388 1
   have hcz12_2 : w6.cell? ⟨gb388, 2, none⟩ = some (.int .i64 a0_2) := bc BK388 2
   have hcz12_3 : w6.cell? ⟨gb388, 3, none⟩ = some (.int .i64 a0_3) := bc BK388 3
   have hfz12_0 := blk_frozen BK388.out 0
   have hfz12_1 := blk_frozen BK388.out 1
   have hfz12_2 := blk_frozen BK388.out 2
   have hfz12_3 := blk_frozen BK388.out 3
   go_wp2_with (first | ((with_reducible refine gate_callee (f := 63) rfl ?_); refine goesL_ (some 7) rfl rfl Try.func63 (by kernel_rfl) rfl #[.agg #[.int .i64 a0_0, .int .i64 a0_1, .int .i64 a0_2, .int .i64 a0_3]] rfl mz ?_; (with_reducible refine (impl_ValOk.calls k a0_0 a0_1 a0_2 a0_3 true _ A7.out).mono ?_); rintro e w13 ⟨rfl, hb⟩; refine ⟨_, rfl, ?_⟩; have n0_ := am (blk_below (g := gb388) (o := b4 a0_0 a0_1 a0_2 a0_3 25) (Z BK388) hb); have n1_ := am (blk_below (g := gb389) (o := b4 a1_0 a1_1 a1_2 a1_3 25) (Z BK389) hb); have n2_ := am (blk_below (g := gb390) (o := b4 0 0 0 0 25) (Z BK390) hb); have n3_ := am (below_step (Y3 HB GE388 GE389 GE390) hb); clear BK388; clear BK389; clear BK390; clear HB; have BK388 := n0_; have BK389 := n1_; have BK390 := n2_; have HB := n3_; clear n0_ n1_ n2_ n3_; (try clear hb); (try clear hb2); (try clear hk); (try clear hi); have hnb14 := NB389_390.out; have hnc14 := NB390_389.out; have hcz15_0 : w13.cell? ⟨gb389, 0, none⟩ = some (.int .i64 a1_0) := bc BK389 0; have hcz15_1 : w13.cell? ⟨gb389, 1, none⟩ = some (.int .i64 a1_1) := bc BK389 1; have hcz15_2 : w13.cell? ⟨gb389, 2, none⟩ = some (.int .i64 a1_2) := bc BK389 2; have hcz15_3 : w13.cell? ⟨gb389, 3, none⟩ = some (.int .i64 a1_3) := bc BK389 3; have hfz15_0 := blk_frozen BK389.out 0; have hfz15_1 := blk_frozen BK389.out 1; have hfz15_2 := blk_frozen BK389.out 2; have hfz15_3 := blk_frozen BK389.out 3) | (go_at_call 63; (with_reducible refine (impl_ValOk.calls k a1_0 a1_1 a1_2 a1_3 t392 _ A9.out).mono ?_); rintro e w16 ⟨rfl, hb⟩; have n0_ := am (blk_below (g := gb388) (o := b4 a0_0 a0_1 a0_2 a0_3 25) (Z BK388) hb); have n1_ := am (blk_below (g := gb389) (o := b4 a1_0 a1_1 a1_2 a1_3 25) (Z BK389) hb); have n2_ := am (blk_below (g := gb390) (o := b4 0 0 0 0 25) (Z BK390) hb); have n3_ := am (below_step (Y3 HB GE388 GE389 GE390) hb); clear BK388; clear BK389; clear BK390; clear HB; have BK388 := n0_; have BK389 := n1_; have BK390 := n2_; have HB := n3_; clear n0_ n1_ n2_ n3_; (try clear hb); (try clear hb2); (try clear hk); (try clear hi)))
   go_meet
   case rel => exact ⟨_, (!t392), (by first | rfl | (simp; done) | (simp [*]; done)), H', ⟨by first | omega | exact Nat.le_refl _⟩, ⟨Z BK388⟩, ⟨Z BK389⟩, ⟨Z BK390⟩, ⟨Y3 HB GE388 GE389 GE390⟩⟩
  ·replace c8 := Bool.eq_false_iff.mpr c8
   subst c8
   have H1 : (impl_ValJoin.j0 k true a0_0 a0_1 a0_2 a0_3 a1_0 a1_1 a1_2 a1_3) = some (r1, r2, r3, r4) := by rw [if_neg (show ¬ (false = true) by decide)] at H; exact H
   clear H
   have H := H1
   clear H1
   have H' := am H
   clear H
   have hnb17 := NB388_389.out
   have hnc17 := NB389_388.out
   have hnb18 := NB388_390.out
   have hnc18 := NB390_388.out
   have hcz19_0 : w6.cell? ⟨gb388, 0, none⟩ = some (.int .i64 a0_0) := bc BK388 0
   have hcz19_1 : w6.cell? ⟨gb388, 1, none⟩ = some (.int .i64 a0_1) := bc BK388 1
   have hcz19_2 : w6.cell? ⟨gb388, 2, none⟩ = some (.int .i64 a0_2) := bc BK388 2
   have hcz19_3 : w6.cell? ⟨gb388, 3, none⟩ = some (.int .i64 a0_3) := bc BK388 3
   have hfz19_0 := blk_frozen BK388.out 0
   have hfz19_1 := blk_frozen BK388.out 1
   have hfz19_2 := blk_frozen BK388.out 2
   have hfz19_3 := blk_frozen BK388.out 3
   go_wp2_with (first | ((with_reducible refine gate_callee (f := 63) rfl ?_); refine goesL_ (some 7) rfl rfl Try.func63 (by kernel_rfl) rfl #[.agg #[.int .i64 a0_0, .int .i64 a0_1, .int .i64 a0_2, .int .i64 a0_3]] rfl mz ?_; (with_reducible refine (impl_ValOk.calls k a0_0 a0_1 a0_2 a0_3 false _ A7.out).mono ?_); rintro e w20 ⟨rfl, hb⟩; refine ⟨_, rfl, ?_⟩; have n0_ := am (blk_below (g := gb388) (o := b4 a0_0 a0_1 a0_2 a0_3 25) (Z BK388) hb); have n1_ := am (blk_below (g := gb389) (o := b4 a1_0 a1_1 a1_2 a1_3 25) (Z BK389) hb); have n2_ := am (blk_below (g := gb390) (o := b4 0 0 0 0 25) (Z BK390) hb); have n3_ := am (below_step (Y3 HB GE388 GE389 GE390) hb); clear BK388; clear BK389; clear BK390; clear HB; have BK388 := n0_; have BK389 := n1_; have BK390 := n2_; have HB := n3_; clear n0_ n1_ n2_ n3_; (try clear hb); (try clear hb2); (try clear hk); (try clear hi)))
   go_meet
   case rel => exact ⟨_, (true), (by first | rfl | (simp; done) | (simp [*]; done)), H', ⟨by first | omega | exact Nat.le_refl _⟩, ⟨Z BK388⟩, ⟨Z BK389⟩, ⟨Z BK390⟩, ⟨Y3 HB GE388 GE389 GE390⟩⟩
 case rest =>
  clear HC3
  try clear c1
  try clear c2
  try clear p2
  try clear c6
  try clear c8
  try clear c10
  try clear c11
  try clear c14
  try clear c17
  try clear c18
  try clear hcz12_0
  try clear hcz12_1
  try clear hcz12_2
  try clear hcz12_3
  try clear hcz15_0
  try clear hcz15_1
  try clear hcz15_2
  try clear hcz15_3
  try clear hcz19_0
  try clear hcz19_1
  try clear hcz19_2
  try clear hcz19_3
  try clear hfz12_0
  try clear hfz12_1
  try clear hfz12_2
  try clear hfz12_3
  try clear hfz15_0
  try clear hfz15_1
  try clear hfz15_2
  try clear hfz15_3
  try clear hfz19_0
  try clear hfz19_1
  try clear hfz19_2
  try clear hfz19_3
  obtain ⟨kq, x5_2, rfl, HA, HJ2, BK388, BK389, BK390, HB⟩ := hcut
  cases kq with
  | zero => exact absurd HA.out (by simp [impl_ValJoin.j0])
  | succ kj2 =>
   have H := HA.out
   clear HA
   simp only [impl_ValJoin.j0] at H
   by_cases c21 : x5_2 = true
   ·subst c21
    have H1 : ((impl_valNone.f).bind fun bt393 => (some (bt393.1, bt393.2.1, bt393.2.2.1, bt393.2.2.2))) = some (r1, r2, r3, r4) := by rw [if_pos rfl] at H; exact H
    clear H
    have H := H1
    clear H1
    replace H := Option.bind_eq_some_iff.mp H
    obtain ⟨⟨t393, t394, t395, t396⟩, A220, H⟩ := H
    replace H : (some (t393, t394, t395, t396)) = some (r1, r2, r3, r4) := H
    have A22 := am A220
    clear A220
    simp only [Option.some.injEq, Prod.mk.injEq] at H
    obtain ⟨rfl, rfl, rfl, rfl⟩ := H
    go_wp2_with (first | ((with_reducible refine gate_callee (f := 76) rfl ?_); refine goesL_ (some 14) rfl rfl Try.func76 (by kernel_rfl) rfl #[] rfl mz ?_; (with_reducible refine (impl_valNone.calls  t393 t394 t395 t396 _ A22.out).mono ?_); rintro e w23 ⟨rfl, hb⟩; refine ⟨_, rfl, ?_⟩; have n0_ := am (blk_below (g := gb388) (o := b4 a0_0 a0_1 a0_2 a0_3 25) (Z BK388) hb); have n1_ := am (blk_below (g := gb389) (o := b4 a1_0 a1_1 a1_2 a1_3 25) (Z BK389) hb); have n2_ := am (blk_below (g := gb390) (o := b4 0 0 0 0 25) (Z BK390) hb); have n3_ := am (below_step (Y3 HB GE388 GE389 GE390) hb); clear BK388; clear BK389; clear BK390; clear HB; have BK388 := n0_; have BK389 := n1_; have BK390 := n2_; have HB := n3_; clear n0_ n1_ n2_ n3_; (try clear hb); (try clear hb2); (try clear hk); (try clear hi); have hnb24 := NB390_388.out; have hnc24 := NB388_390.out; have hnb25 := NB390_389.out; have hnc25 := NB389_390.out; have hcz26_0 : w23.cell? ⟨gb390, 0, none⟩ = some (.int .i64 0) := bc BK390 0; have hcz26_1 : w23.cell? ⟨gb390, 1, none⟩ = some (.int .i64 0) := bc BK390 1; have hcz26_2 : w23.cell? ⟨gb390, 2, none⟩ = some (.int .i64 0) := bc BK390 2; have hcz26_3 : w23.cell? ⟨gb390, 3, none⟩ = some (.int .i64 0) := bc BK390 3; have hfz26_0 := blk_frozen BK390.out 0; have hfz26_1 := blk_frozen BK390.out 1; have hfz26_2 := blk_frozen BK390.out 2; have hfz26_3 := blk_frozen BK390.out 3))
    refine bodyPost_ret (results_cell_row rfl _ _ gb390 25 #[.int .i64 t393, .int .i64 t394, .int .i64 t395, .int .i64 t396] (0, 0) _ rfl (by (with_reducible repeat (first | refine blk_drewN ?_ _ | refine blk_drew ?_ | refine blk_alloc ?_ _)); refine blk_put (cs := #[.int .i64 t393, .int .i64 t394, .int .i64 t395, .int .i64 0]) ?_ 3 _ rfl; (with_reducible repeat (first | refine blk_drewN ?_ _ | refine blk_drew ?_ | refine blk_alloc ?_ _)); refine blk_put (cs := #[.int .i64 t393, .int .i64 t394, .int .i64 0, .int .i64 0]) ?_ 2 _ rfl; (with_reducible repeat (first | refine blk_drewN ?_ _ | refine blk_drew ?_ | refine blk_alloc ?_ _)); refine blk_put (cs := #[.int .i64 t393, .int .i64 0, .int .i64 0, .int .i64 0]) ?_ 1 _ rfl; (with_reducible repeat (first | refine blk_drewN ?_ _ | refine blk_drew ?_ | refine blk_alloc ?_ _)); refine blk_put (cs := #[.int .i64 0, .int .i64 0, .int .i64 0, .int .i64 0]) ?_ 0 _ rfl; (with_reducible repeat (first | refine blk_drewN ?_ _ | refine blk_drew ?_ | refine blk_alloc ?_ _)); exact BK390.out) Try.underlying25 rfl (by kernel_rfl)) rfl ?_
    exact ⟨by first | rfl | (simp [errW_none, errW_some] <;> rfl) | (simp [*, errW_none, errW_some] <;> rfl), Y3 HB GE388 GE389 GE390⟩
   ·replace c21 := Bool.eq_false_iff.mpr c21
    subst c21
    have H1 : ((impl_Val_none.f a0_0 a0_1 a0_2 a0_3).bind fun t397 => (if t397 = true then (some (a1_0, a1_1, a1_2, a1_3)) else ((impl_Val_none.f a1_0 a1_1 a1_2 a1_3).bind fun t398 => (if t398 = true then (some (a0_0, a0_1, a0_2, a0_3)) else ((impl_Val_span.f a0_0 a0_1 a0_2 a0_3).bind fun bt399 => ((impl_Val_span.f a1_0 a1_1 a1_2 a1_3).bind fun bt401 => ((impl_RangeJoin.f kj2 bt399.1 bt399.2 bt401.1 bt401.2).bind fun bt403 => ((impl_Val_rest.f a0_0 a0_1 a0_2 a0_3).bind fun bt405 => ((impl_Val_rest.f a1_0 a1_1 a1_2 a1_3).bind fun bt407 => ((impl_RestJoin.f kj2 bt405.1 bt405.2 bt407.1 bt407.2).bind fun bt409 => ((impl_ValMake.f kj2 bt403.1 bt403.2 bt409.1 bt409.2).bind fun bt411 => (some (bt411.1, bt411.2.1, bt411.2.2.1, bt411.2.2.2))))))))))))) = some (r1, r2, r3, r4) := by rw [if_neg (show ¬ (false = true) by decide)] at H; exact H
    clear H
    have H := H1
    clear H1
    replace H := Option.bind_eq_some_iff.mp H
    obtain ⟨t397, A270, H⟩ := H
    replace H : (if t397 = true then (some (a1_0, a1_1, a1_2, a1_3)) else ((impl_Val_none.f a1_0 a1_1 a1_2 a1_3).bind fun t398 => (if t398 = true then (some (a0_0, a0_1, a0_2, a0_3)) else ((impl_Val_span.f a0_0 a0_1 a0_2 a0_3).bind fun bt399 => ((impl_Val_span.f a1_0 a1_1 a1_2 a1_3).bind fun bt401 => ((impl_RangeJoin.f kj2 bt399.1 bt399.2 bt401.1 bt401.2).bind fun bt403 => ((impl_Val_rest.f a0_0 a0_1 a0_2 a0_3).bind fun bt405 => ((impl_Val_rest.f a1_0 a1_1 a1_2 a1_3).bind fun bt407 => ((impl_RestJoin.f kj2 bt405.1 bt405.2 bt407.1 bt407.2).bind fun bt409 => ((impl_ValMake.f kj2 bt403.1 bt403.2 bt409.1 bt409.2).bind fun bt411 => (some (bt411.1, bt411.2.1, bt411.2.2.1, bt411.2.2.2)))))))))))) = some (r1, r2, r3, r4) := H
    have A27 := am A270
    clear A270
    by_cases c28 : t397 = true
    ·subst c28
     have H1 : (some (a1_0, a1_1, a1_2, a1_3)) = some (r1, r2, r3, r4) := by rw [if_pos rfl] at H; exact H
     clear H
     have H := H1
     clear H1
     simp only [Option.some.injEq, Prod.mk.injEq] at H
     obtain ⟨rfl, rfl, rfl, rfl⟩ := H
     have hnb29 := NB388_389.out
     have hnc29 := NB389_388.out
     have hnb30 := NB388_390.out
     have hnc30 := NB390_388.out
     have hcz31_0 : wc.cell? ⟨gb388, 0, none⟩ = some (.int .i64 a0_0) := bc BK388 0
     have hcz31_1 : wc.cell? ⟨gb388, 1, none⟩ = some (.int .i64 a0_1) := bc BK388 1
     have hcz31_2 : wc.cell? ⟨gb388, 2, none⟩ = some (.int .i64 a0_2) := bc BK388 2
     have hcz31_3 : wc.cell? ⟨gb388, 3, none⟩ = some (.int .i64 a0_3) := bc BK388 3
     have hfz31_0 := blk_frozen BK388.out 0
     have hfz31_1 := blk_frozen BK388.out 1
     have hfz31_2 := blk_frozen BK388.out 2
     have hfz31_3 := blk_frozen BK388.out 3
     go_wp2_with (first | ((with_reducible refine gate_callee (f := 70) rfl ?_); refine goesL_ (some 17) rfl rfl Try.func70 (by kernel_rfl) rfl #[.agg #[.int .i64 a0_0, .int .i64 a0_1, .int .i64 a0_2, .int .i64 a0_3]] rfl mz ?_; (with_reducible refine (impl_Val_none.calls a0_0 a0_1 a0_2 a0_3 true _ A27.out).mono ?_); rintro e w32 ⟨rfl, hb⟩; refine ⟨_, rfl, ?_⟩; have n0_ := am (blk_below (g := gb388) (o := b4 a0_0 a0_1 a0_2 a0_3 25) (Z BK388) hb); have n1_ := am (blk_below (g := gb389) (o := b4 a1_0 a1_1 a1_2 a1_3 25) (Z BK389) hb); have n2_ := am (blk_below (g := gb390) (o := b4 0 0 0 0 25) (Z BK390) hb); have n3_ := am (below_step (Y3 HB GE388 GE389 GE390) hb); clear BK388; clear BK389; clear BK390; clear HB; have BK388 := n0_; have BK389 := n1_; have BK390 := n2_; have HB := n3_; clear n0_ n1_ n2_ n3_; (try clear hb); (try clear hb2); (try clear hk); (try clear hi); have hnb33 := NB389_390.out; have hnc33 := NB390_389.out; have hcz34_0 : w32.cell? ⟨gb389, 0, none⟩ = some (.int .i64 a1_0) := bc BK389 0; have hcz34_1 : w32.cell? ⟨gb389, 1, none⟩ = some (.int .i64 a1_1) := bc BK389 1; have hcz34_2 : w32.cell? ⟨gb389, 2, none⟩ = some (.int .i64 a1_2) := bc BK389 2; have hcz34_3 : w32.cell? ⟨gb389, 3, none⟩ = some (.int .i64 a1_3) := bc BK389 3; have hfz34_0 := blk_frozen BK389.out 0; have hfz34_1 := blk_frozen BK389.out 1; have hfz34_2 := blk_frozen BK389.out 2; have hfz34_3 := blk_frozen BK389.out 3; have hcz35_0 : w32.cell? ⟨gb390, 0, none⟩ = some (.int .i64 0) := bc BK390 0; have hcz35_1 : w32.cell? ⟨gb390, 1, none⟩ = some (.int .i64 0) := bc BK390 1; have hcz35_2 : w32.cell? ⟨gb390, 2, none⟩ = some (.int .i64 0) := bc BK390 2; have hcz35_3 : w32.cell? ⟨gb390, 3, none⟩ = some (.int .i64 0) := bc BK390 3; have hfz35_0 := blk_frozen BK390.out 0; have hfz35_1 := blk_frozen BK390.out 1; have hfz35_2 := blk_frozen BK390.out 2; have hfz35_3 := blk_frozen BK390.out 3))
     refine bodyPost_ret (results_cell_row rfl _ _ gb390 25 #[.int .i64 a1_0, .int .i64 a1_1, .int .i64 a1_2, .int .i64 a1_3] (0, 0) _ rfl (by (with_reducible repeat (first | refine blk_drewN ?_ _ | refine blk_drew ?_ | refine blk_alloc ?_ _)); refine blk_put (cs := #[.int .i64 a1_0, .int .i64 a1_1, .int .i64 a1_2, .int .i64 0]) ?_ 3 _ rfl; (with_reducible repeat (first | refine blk_drewN ?_ _ | refine blk_drew ?_ | refine blk_alloc ?_ _)); refine blk_put (cs := #[.int .i64 a1_0, .int .i64 a1_1, .int .i64 0, .int .i64 0]) ?_ 2 _ rfl; (with_reducible repeat (first | refine blk_drewN ?_ _ | refine blk_drew ?_ | refine blk_alloc ?_ _)); refine blk_put (cs := #[.int .i64 a1_0, .int .i64 0, .int .i64 0, .int .i64 0]) ?_ 1 _ rfl; (with_reducible repeat (first | refine blk_drewN ?_ _ | refine blk_drew ?_ | refine blk_alloc ?_ _)); refine blk_put (cs := #[.int .i64 0, .int .i64 0, .int .i64 0, .int .i64 0]) ?_ 0 _ rfl; (with_reducible repeat (first | refine blk_drewN ?_ _ | refine blk_drew ?_ | refine blk_alloc ?_ _)); exact BK390.out) Try.underlying25 rfl (by kernel_rfl)) rfl ?_
     exact ⟨by first | rfl | (simp [errW_none, errW_some] <;> rfl) | (simp [*, errW_none, errW_some] <;> rfl), Y3 HB GE388 GE389 GE390⟩
    ·replace c28 := Bool.eq_false_iff.mpr c28
     subst c28
     have H1 : ((impl_Val_none.f a1_0 a1_1 a1_2 a1_3).bind fun t398 => (if t398 = true then (some (a0_0, a0_1, a0_2, a0_3)) else ((impl_Val_span.f a0_0 a0_1 a0_2 a0_3).bind fun bt399 => ((impl_Val_span.f a1_0 a1_1 a1_2 a1_3).bind fun bt401 => ((impl_RangeJoin.f kj2 bt399.1 bt399.2 bt401.1 bt401.2).bind fun bt403 => ((impl_Val_rest.f a0_0 a0_1 a0_2 a0_3).bind fun bt405 => ((impl_Val_rest.f a1_0 a1_1 a1_2 a1_3).bind fun bt407 => ((impl_RestJoin.f kj2 bt405.1 bt405.2 bt407.1 bt407.2).bind fun bt409 => ((impl_ValMake.f kj2 bt403.1 bt403.2 bt409.1 bt409.2).bind fun bt411 => (some (bt411.1, bt411.2.1, bt411.2.2.1, bt411.2.2.2))))))))))) = some (r1, r2, r3, r4) := by rw [if_neg (show ¬ (false = true) by decide)] at H; exact H
     clear H
     have H := H1
     clear H1
     replace H := Option.bind_eq_some_iff.mp H
     obtain ⟨t398, A360, H⟩ := H
     replace H : (if t398 = true then (some (a0_0, a0_1, a0_2, a0_3)) else ((impl_Val_span.f a0_0 a0_1 a0_2 a0_3).bind fun bt399 => ((impl_Val_span.f a1_0 a1_1 a1_2 a1_3).bind fun bt401 => ((impl_RangeJoin.f kj2 bt399.1 bt399.2 bt401.1 bt401.2).bind fun bt403 => ((impl_Val_rest.f a0_0 a0_1 a0_2 a0_3).bind fun bt405 => ((impl_Val_rest.f a1_0 a1_1 a1_2 a1_3).bind fun bt407 => ((impl_RestJoin.f kj2 bt405.1 bt405.2 bt407.1 bt407.2).bind fun bt409 => ((impl_ValMake.f kj2 bt403.1 bt403.2 bt409.1 bt409.2).bind fun bt411 => (some (bt411.1, bt411.2.1, bt411.2.2.1, bt411.2.2.2)))))))))) = some (r1, r2, r3, r4) := H
     have A36 := am A360
     clear A360
     by_cases c37 : t398 = true
     ·subst c37
      have H1 : (some (a0_0, a0_1, a0_2, a0_3)) = some (r1, r2, r3, r4) := by rw [if_pos rfl] at H; exact H
      clear H
      have H := H1
      clear H1
      simp only [Option.some.injEq, Prod.mk.injEq] at H
      obtain ⟨rfl, rfl, rfl, rfl⟩ := H
      have hnb38 := NB388_389.out
      have hnc38 := NB389_388.out
      have hnb39 := NB388_390.out
      have hnc39 := NB390_388.out
      have hcz40_0 : wc.cell? ⟨gb388, 0, none⟩ = some (.int .i64 a0_0) := bc BK388 0
      have hcz40_1 : wc.cell? ⟨gb388, 1, none⟩ = some (.int .i64 a0_1) := bc BK388 1
      have hcz40_2 : wc.cell? ⟨gb388, 2, none⟩ = some (.int .i64 a0_2) := bc BK388 2
      have hcz40_3 : wc.cell? ⟨gb388, 3, none⟩ = some (.int .i64 a0_3) := bc BK388 3
      have hfz40_0 := blk_frozen BK388.out 0
      have hfz40_1 := blk_frozen BK388.out 1
      have hfz40_2 := blk_frozen BK388.out 2
      have hfz40_3 := blk_frozen BK388.out 3
      go_wp2_with (first | ((with_reducible refine gate_callee (f := 70) rfl ?_); refine goesL_ (some 17) rfl rfl Try.func70 (by kernel_rfl) rfl #[.agg #[.int .i64 a0_0, .int .i64 a0_1, .int .i64 a0_2, .int .i64 a0_3]] rfl mz ?_; (with_reducible refine (impl_Val_none.calls a0_0 a0_1 a0_2 a0_3 false _ A27.out).mono ?_); rintro e w41 ⟨rfl, hb⟩; refine ⟨_, rfl, ?_⟩; have n0_ := am (blk_below (g := gb388) (o := b4 a0_0 a0_1 a0_2 a0_3 25) (Z BK388) hb); have n1_ := am (blk_below (g := gb389) (o := b4 a1_0 a1_1 a1_2 a1_3 25) (Z BK389) hb); have n2_ := am (blk_below (g := gb390) (o := b4 0 0 0 0 25) (Z BK390) hb); have n3_ := am (below_step (Y3 HB GE388 GE389 GE390) hb); clear BK388; clear BK389; clear BK390; clear HB; have BK388 := n0_; have BK389 := n1_; have BK390 := n2_; have HB := n3_; clear n0_ n1_ n2_ n3_; (try clear hb); (try clear hb2); (try clear hk); (try clear hi); have hnb42 := NB389_390.out; have hnc42 := NB390_389.out; have hcz43_0 : w41.cell? ⟨gb389, 0, none⟩ = some (.int .i64 a1_0) := bc BK389 0; have hcz43_1 : w41.cell? ⟨gb389, 1, none⟩ = some (.int .i64 a1_1) := bc BK389 1; have hcz43_2 : w41.cell? ⟨gb389, 2, none⟩ = some (.int .i64 a1_2) := bc BK389 2; have hcz43_3 : w41.cell? ⟨gb389, 3, none⟩ = some (.int .i64 a1_3) := bc BK389 3; have hfz43_0 := blk_frozen BK389.out 0; have hfz43_1 := blk_frozen BK389.out 1; have hfz43_2 := blk_frozen BK389.out 2; have hfz43_3 := blk_frozen BK389.out 3) | ((with_reducible refine gate_callee (f := 70) rfl ?_); refine goesL_ (some 21) rfl rfl Try.func70 (by kernel_rfl) rfl #[.agg #[.int .i64 a1_0, .int .i64 a1_1, .int .i64 a1_2, .int .i64 a1_3]] rfl mz ?_; (with_reducible refine (impl_Val_none.calls a1_0 a1_1 a1_2 a1_3 true _ A36.out).mono ?_); rintro e w44 ⟨rfl, hb⟩; refine ⟨_, rfl, ?_⟩; have n0_ := am (blk_below (g := gb388) (o := b4 a0_0 a0_1 a0_2 a0_3 25) (Z BK388) hb); have n1_ := am (blk_below (g := gb389) (o := b4 a1_0 a1_1 a1_2 a1_3 25) (Z BK389) hb); have n2_ := am (blk_below (g := gb390) (o := b4 0 0 0 0 25) (Z BK390) hb); have n3_ := am (below_step (Y3 HB GE388 GE389 GE390) hb); clear BK388; clear BK389; clear BK390; clear HB; have BK388 := n0_; have BK389 := n1_; have BK390 := n2_; have HB := n3_; clear n0_ n1_ n2_ n3_; (try clear hb); (try clear hb2); (try clear hk); (try clear hi); have hcz45_0 : w44.cell? ⟨gb388, 0, none⟩ = some (.int .i64 a0_0) := bc BK388 0; have hcz45_1 : w44.cell? ⟨gb388, 1, none⟩ = some (.int .i64 a0_1) := bc BK388 1; have hcz45_2 : w44.cell? ⟨gb388, 2, none⟩ = some (.int .i64 a0_2) := bc BK388 2; have hcz45_3 : w44.cell? ⟨gb388, 3, none⟩ = some (.int .i64 a0_3) := bc BK388 3; have hfz45_0 := blk_frozen BK388.out 0; have hfz45_1 := blk_frozen BK388.out 1; have hfz45_2 := blk_frozen BK388.out 2; have hfz45_3 := blk_frozen BK388.out 3; have hcz46_0 : w44.cell? ⟨gb390, 0, none⟩ = some (.int .i64 0) := bc BK390 0; have hcz46_1 : w44.cell? ⟨gb390, 1, none⟩ = some (.int .i64 0) := bc BK390 1; have hcz46_2 : w44.cell? ⟨gb390, 2, none⟩ = some (.int .i64 0) := bc BK390 2; have hcz46_3 : w44.cell? ⟨gb390, 3, none⟩ = some (.int .i64 0) := bc BK390 3; have hfz46_0 := blk_frozen BK390.out 0; have hfz46_1 := blk_frozen BK390.out 1; have hfz46_2 := blk_frozen BK390.out 2; have hfz46_3 := blk_frozen BK390.out 3))
      refine bodyPost_ret (results_cell_row rfl _ _ gb390 25 #[.int .i64 a0_0, .int .i64 a0_1, .int .i64 a0_2, .int .i64 a0_3] (0, 0) _ rfl (by (with_reducible repeat (first | refine blk_drewN ?_ _ | refine blk_drew ?_ | refine blk_alloc ?_ _)); refine blk_put (cs := #[.int .i64 a0_0, .int .i64 a0_1, .int .i64 a0_2, .int .i64 0]) ?_ 3 _ rfl; (with_reducible repeat (first | refine blk_drewN ?_ _ | refine blk_drew ?_ | refine blk_alloc ?_ _)); refine blk_put (cs := #[.int .i64 a0_0, .int .i64 a0_1, .int .i64 0, .int .i64 0]) ?_ 2 _ rfl; (with_reducible repeat (first | refine blk_drewN ?_ _ | refine blk_drew ?_ | refine blk_alloc ?_ _)); refine blk_put (cs := #[.int .i64 a0_0, .int .i64 0, .int .i64 0, .int .i64 0]) ?_ 1 _ rfl; (with_reducible repeat (first | refine blk_drewN ?_ _ | refine blk_drew ?_ | refine blk_alloc ?_ _)); refine blk_put (cs := #[.int .i64 0, .int .i64 0, .int .i64 0, .int .i64 0]) ?_ 0 _ rfl; (with_reducible repeat (first | refine blk_drewN ?_ _ | refine blk_drew ?_ | refine blk_alloc ?_ _)); exact BK390.out) Try.underlying25 rfl (by kernel_rfl)) rfl ?_
      exact ⟨by first | rfl | (simp [errW_none, errW_some] <;> rfl) | (simp [*, errW_none, errW_some] <;> rfl), Y3 HB GE388 GE389 GE390⟩
     ·replace c37 := Bool.eq_false_iff.mpr c37
      subst c37
      have H1 : ((impl_Val_span.f a0_0 a0_1 a0_2 a0_3).bind fun bt399 => ((impl_Val_span.f a1_0 a1_1 a1_2 a1_3).bind fun bt401 => ((impl_RangeJoin.f kj2 bt399.1 bt399.2 bt401.1 bt401.2).bind fun bt403 => ((impl_Val_rest.f a0_0 a0_1 a0_2 a0_3).bind fun bt405 => ((impl_Val_rest.f a1_0 a1_1 a1_2 a1_3).bind fun bt407 => ((impl_RestJoin.f kj2 bt405.1 bt405.2 bt407.1 bt407.2).bind fun bt409 => ((impl_ValMake.f kj2 bt403.1 bt403.2 bt409.1 bt409.2).bind fun bt411 => (some (bt411.1, bt411.2.1, bt411.2.2.1, bt411.2.2.2))))))))) = some (r1, r2, r3, r4) := by rw [if_neg (show ¬ (false = true) by decide)] at H; exact H
      clear H
      have H := H1
      clear H1
      replace H := Option.bind_eq_some_iff.mp H
      obtain ⟨⟨t399, t400⟩, A470, H⟩ := H
      replace H : ((impl_Val_span.f a1_0 a1_1 a1_2 a1_3).bind fun bt401 => ((impl_RangeJoin.f kj2 t399 t400 bt401.1 bt401.2).bind fun bt403 => ((impl_Val_rest.f a0_0 a0_1 a0_2 a0_3).bind fun bt405 => ((impl_Val_rest.f a1_0 a1_1 a1_2 a1_3).bind fun bt407 => ((impl_RestJoin.f kj2 bt405.1 bt405.2 bt407.1 bt407.2).bind fun bt409 => ((impl_ValMake.f kj2 bt403.1 bt403.2 bt409.1 bt409.2).bind fun bt411 => (some (bt411.1, bt411.2.1, bt411.2.2.1, bt411.2.2.2)))))))) = some (r1, r2, r3, r4) := H
      have A47 := am A470
      clear A470
      replace H := Option.bind_eq_some_iff.mp H
      obtain ⟨⟨t401, t402⟩, A480, H⟩ := H
      replace H : ((impl_RangeJoin.f kj2 t399 t400 t401 t402).bind fun bt403 => ((impl_Val_rest.f a0_0 a0_1 a0_2 a0_3).bind fun bt405 => ((impl_Val_rest.f a1_0 a1_1 a1_2 a1_3).bind fun bt407 => ((impl_RestJoin.f kj2 bt405.1 bt405.2 bt407.1 bt407.2).bind fun bt409 => ((impl_ValMake.f kj2 bt403.1 bt403.2 bt409.1 bt409.2).bind fun bt411 => (some (bt411.1, bt411.2.1, bt411.2.2.1, bt411.2.2.2))))))) = some (r1, r2, r3, r4) := H
      have A48 := am A480
      clear A480
      replace H := Option.bind_eq_some_iff.mp H
      obtain ⟨⟨t403, t404⟩, A490, H⟩ := H
      replace H : ((impl_Val_rest.f a0_0 a0_1 a0_2 a0_3).bind fun bt405 => ((impl_Val_rest.f a1_0 a1_1 a1_2 a1_3).bind fun bt407 => ((impl_RestJoin.f kj2 bt405.1 bt405.2 bt407.1 bt407.2).bind fun bt409 => ((impl_ValMake.f kj2 t403 t404 bt409.1 bt409.2).bind fun bt411 => (some (bt411.1, bt411.2.1, bt411.2.2.1, bt411.2.2.2)))))) = some (r1, r2, r3, r4) := H
      have A49 := am A490
      clear A490
      replace H := Option.bind_eq_some_iff.mp H
      obtain ⟨⟨t405, t406⟩, A500, H⟩ := H
      replace H : ((impl_Val_rest.f a1_0 a1_1 a1_2 a1_3).bind fun bt407 => ((impl_RestJoin.f kj2 t405 t406 bt407.1 bt407.2).bind fun bt409 => ((impl_ValMake.f kj2 t403 t404 bt409.1 bt409.2).bind fun bt411 => (some (bt411.1, bt411.2.1, bt411.2.2.1, bt411.2.2.2))))) = some (r1, r2, r3, r4) := H
      have A50 := am A500
      clear A500
      replace H := Option.bind_eq_some_iff.mp H
      obtain ⟨⟨t407, t408⟩, A510, H⟩ := H
      replace H : ((impl_RestJoin.f kj2 t405 t406 t407 t408).bind fun bt409 => ((impl_ValMake.f kj2 t403 t404 bt409.1 bt409.2).bind fun bt411 => (some (bt411.1, bt411.2.1, bt411.2.2.1, bt411.2.2.2)))) = some (r1, r2, r3, r4) := H
      have A51 := am A510
      clear A510
      replace H := Option.bind_eq_some_iff.mp H
      obtain ⟨⟨t409, t410⟩, A520, H⟩ := H
      replace H : ((impl_ValMake.f kj2 t403 t404 t409 t410).bind fun bt411 => (some (bt411.1, bt411.2.1, bt411.2.2.1, bt411.2.2.2))) = some (r1, r2, r3, r4) := H
      have A52 := am A520
      clear A520
      replace H := Option.bind_eq_some_iff.mp H
      obtain ⟨⟨t411, t412, t413, t414⟩, A530, H⟩ := H
      replace H : (some (t411, t412, t413, t414)) = some (r1, r2, r3, r4) := H
      have A53 := am A530
      clear A530
      simp only [Option.some.injEq, Prod.mk.injEq] at H
      obtain ⟨rfl, rfl, rfl, rfl⟩ := H
      have hnb54 := NB388_389.out
      have hnc54 := NB389_388.out
      have hnb55 := NB388_390.out
      have hnc55 := NB390_388.out
      have hcz56_0 : wc.cell? ⟨gb388, 0, none⟩ = some (.int .i64 a0_0) := bc BK388 0
      have hcz56_1 : wc.cell? ⟨gb388, 1, none⟩ = some (.int .i64 a0_1) := bc BK388 1
      have hcz56_2 : wc.cell? ⟨gb388, 2, none⟩ = some (.int .i64 a0_2) := bc BK388 2
      have hcz56_3 : wc.cell? ⟨gb388, 3, none⟩ = some (.int .i64 a0_3) := bc BK388 3
      have hfz56_0 := blk_frozen BK388.out 0
      have hfz56_1 := blk_frozen BK388.out 1
      have hfz56_2 := blk_frozen BK388.out 2
      have hfz56_3 := blk_frozen BK388.out 3
      try go_wp2_with (first | ((with_reducible refine gate_callee (f := 70) rfl ?_); refine goesL_ (some 17) rfl rfl Try.func70 (by kernel_rfl) rfl #[.agg #[.int .i64 a0_0, .int .i64 a0_1, .int .i64 a0_2, .int .i64 a0_3]] rfl mz ?_; (with_reducible refine (impl_Val_none.calls a0_0 a0_1 a0_2 a0_3 false _ A27.out).mono ?_); rintro e w57 ⟨rfl, hb⟩; refine ⟨_, rfl, ?_⟩; have n0_ := am (blk_below (g := gb388) (o := b4 a0_0 a0_1 a0_2 a0_3 25) (Z BK388) hb); have n1_ := am (blk_below (g := gb389) (o := b4 a1_0 a1_1 a1_2 a1_3 25) (Z BK389) hb); have n2_ := am (blk_below (g := gb390) (o := b4 0 0 0 0 25) (Z BK390) hb); have n3_ := am (below_step (Y3 HB GE388 GE389 GE390) hb); clear BK388; clear BK389; clear BK390; clear HB; have BK388 := n0_; have BK389 := n1_; have BK390 := n2_; have HB := n3_; clear n0_ n1_ n2_ n3_; (try clear hb); (try clear hb2); (try clear hk); (try clear hi); have hnb58 := NB389_390.out; have hnc58 := NB390_389.out; have hcz59_0 : w57.cell? ⟨gb389, 0, none⟩ = some (.int .i64 a1_0) := bc BK389 0; have hcz59_1 : w57.cell? ⟨gb389, 1, none⟩ = some (.int .i64 a1_1) := bc BK389 1; have hcz59_2 : w57.cell? ⟨gb389, 2, none⟩ = some (.int .i64 a1_2) := bc BK389 2; have hcz59_3 : w57.cell? ⟨gb389, 3, none⟩ = some (.int .i64 a1_3) := bc BK389 3; have hfz59_0 := blk_frozen BK389.out 0; have hfz59_1 := blk_frozen BK389.out 1; have hfz59_2 := blk_frozen BK389.out 2; have hfz59_3 := blk_frozen BK389.out 3) | ((with_reducible refine gate_callee (f := 70) rfl ?_); refine goesL_ (some 21) rfl rfl Try.func70 (by kernel_rfl) rfl #[.agg #[.int .i64 a1_0, .int .i64 a1_1, .int .i64 a1_2, .int .i64 a1_3]] rfl mz ?_; (with_reducible refine (impl_Val_none.calls a1_0 a1_1 a1_2 a1_3 false _ A36.out).mono ?_); rintro e w60 ⟨rfl, hb⟩; refine ⟨_, rfl, ?_⟩; have n0_ := am (blk_below (g := gb388) (o := b4 a0_0 a0_1 a0_2 a0_3 25) (Z BK388) hb); have n1_ := am (blk_below (g := gb389) (o := b4 a1_0 a1_1 a1_2 a1_3 25) (Z BK389) hb); have n2_ := am (blk_below (g := gb390) (o := b4 0 0 0 0 25) (Z BK390) hb); have n3_ := am (below_step (Y3 HB GE388 GE389 GE390) hb); clear BK388; clear BK389; clear BK390; clear HB; have BK388 := n0_; have BK389 := n1_; have BK390 := n2_; have HB := n3_; clear n0_ n1_ n2_ n3_; (try clear hb); (try clear hb2); (try clear hk); (try clear hi)))
      have n0_ := am (blk_drew BK388.out)
      have n1_ := am (blk_drew BK389.out)
      have n2_ := am (blk_drew BK390.out)
      have n3_ := am (below_drew1 HB.out)
      clear BK388
      clear BK389
      clear BK390
      clear HB
      have BK388 := n0_
      have BK389 := n1_
      have BK390 := n2_
      have HB := n3_
      clear n0_ n1_ n2_ n3_
      refine start_ (n := 12) (S := fun w' => w'.cell? ⟨gb388, 0, none⟩ = some (.int .i64 a0_0) ∧ w'.cell? ⟨gb388, 1, none⟩ = some (.int .i64 a0_1) ∧ w'.cell? ⟨gb388, 2, none⟩ = some (.int .i64 a0_2) ∧ w'.cell? ⟨gb388, 3, none⟩ = some (.int .i64 a0_3) ∧ w'.cell? ⟨gb389, 0, none⟩ = some (.int .i64 a1_0) ∧ w'.cell? ⟨gb389, 1, none⟩ = some (.int .i64 a1_1) ∧ w'.cell? ⟨gb389, 2, none⟩ = some (.int .i64 a1_2) ∧ w'.cell? ⟨gb389, 3, none⟩ = some (.int .i64 a1_3)) (ds := []) #[F, F, F, F, F, F, F, F, F, F, F, F] (by kernel_rfl) rfl rfl ⟨bc BK388 0, bc BK388 1, bc BK388 2, bc BK388 3, bc BK389 0, bc BK389 1, bc BK389 2, bc BK389 3⟩ (fun hHeld => ?_); refine with_tabW impl_ValJoin.tab7 impl_ValJoin.bits7 (fun HT_ HW_ => ?_)
      generalize w60.drew = w61 at BK388 BK389 BK390 HB hHeld ⊢
      refine take_ (i := 0) (N := some 23) (v := ?_) (a' := ?_) #[T, F, F, F, F, F, F, F, F, F, F, F] rfl rfl (take_ofW HT_.out HW_.out (by kernel_rfl)) (fun _ _ _ h => h) (Or.inl ⟨by rfl, ?_⟩) hHeld ?_ ?_
      rotate_left
      ·rintro w' ⟨s0, s1, s2, s3, s4, s5, s6, s7⟩
       go_simp
       with_reducible rfl
      rotate_left
      ·exact pz
      refine take_ (i := 2) (N := some 25) (v := ?_) (a' := ?_) #[T, F, T, F, F, F, F, F, F, F, F, F] rfl rfl (take_ofW HT_.out HW_.out (by kernel_rfl)) (fun _ _ _ h => h) (Or.inl ⟨by rfl, ?_⟩) hHeld ?_ ?_
      rotate_left
      ·rintro w' ⟨s0, s1, s2, s3, s4, s5, s6, s7⟩
       go_simp
       with_reducible rfl
      rotate_left
      ·exact pz
      refine take_ (i := 5) (N := some 28) (v := ?_) (a' := ?_) #[T, F, T, F, F, T, F, F, F, F, F, F] rfl rfl (take_ofW HT_.out HW_.out (by kernel_rfl)) (fun _ _ _ h => h) (Or.inl ⟨by rfl, ?_⟩) hHeld ?_ ?_
      rotate_left
      ·rintro w' ⟨s0, s1, s2, s3, s4, s5, s6, s7⟩
       go_simp
       with_reducible rfl
      rotate_left
      ·exact pz
      refine take_ (i := 7) (N := some 30) (v := ?_) (a' := ?_) #[T, F, T, F, F, T, F, T, F, F, F, F] rfl rfl (take_ofW HT_.out HW_.out (by kernel_rfl)) (fun _ _ _ h => h) (Or.inl ⟨by rfl, ?_⟩) hHeld ?_ ?_
      rotate_left
      ·rintro w' ⟨s0, s1, s2, s3, s4, s5, s6, s7⟩
       go_simp
       with_reducible rfl
      rotate_left
      ·exact pz
      refine one_ (i := 1) (N := some 24) #[T, T, T, F, F, T, F, T, F, F, F, F] rfl rfl (one_of HT_.out (by kernel_rfl)) (by decide) (fun K hK => ?_)
      refine goes_ Try.func65 (by kernel_rfl) rfl #[.agg #[.int .i64 a0_0, .int .i64 a0_1, .int .i64 a0_2, .int .i64 a0_3]] (by rfl) rfl rfl mz ?_
      with_reducible refine (impl_Val_span.calls a0_0 a0_1 a0_2 a0_3 t399 t400 _ A47.out).mono ?_
      rintro e w62 ⟨rfl, hb⟩
      refine ⟨_, rfl, ?_⟩
      have n0_ := am (blk_below (g := gb388) (o := b4 a0_0 a0_1 a0_2 a0_3 25) (Z BK388) hb)
      have n1_ := am (blk_below (g := gb389) (o := b4 a1_0 a1_1 a1_2 a1_3 25) (Z BK389) hb)
      have n2_ := am (blk_below (g := gb390) (o := b4 0 0 0 0 25) (Z BK390) hb)
      have n3_ := am (below_step (Y3 HB GE388 GE389 GE390) hb)
      clear BK388
      clear BK389
      clear BK390
      clear HB
      have BK388 := n0_
      have BK389 := n1_
      have BK390 := n2_
      have HB := n3_
      clear n0_ n1_ n2_ n3_
      (try clear hb)
      (try clear hb2)
      (try clear hk)
      (try clear hi)
      refine hK.out _ _ ⟨bc BK388 0, bc BK388 1, bc BK388 2, bc BK388 3, bc BK389 0, bc BK389 1, bc BK389 2, bc BK389 3⟩ (fun hHeld => ?_)
      clear hK K
      refine norm_ (a' := ?_) ?_ ?_
      rotate_left
      ·show Act.put _ (some 24) _ = _
       simp only [Act.put, List.setIfInBounds_toArray, List.set_cons_zero, List.set_cons_succ, i64_w, i32_w]
       rfl
      refine one_ (i := 3) (N := some 26) #[T, T, T, T, F, T, F, T, F, F, F, F] rfl rfl (one_of HT_.out (by kernel_rfl)) (by decide) (fun K hK => ?_)
      refine goes_ Try.func65 (by kernel_rfl) rfl #[.agg #[.int .i64 a1_0, .int .i64 a1_1, .int .i64 a1_2, .int .i64 a1_3]] (by rfl) rfl rfl mz ?_
      with_reducible refine (impl_Val_span.calls a1_0 a1_1 a1_2 a1_3 t401 t402 _ A48.out).mono ?_
      rintro e w63 ⟨rfl, hb⟩
      refine ⟨_, rfl, ?_⟩
      have n0_ := am (blk_below (g := gb388) (o := b4 a0_0 a0_1 a0_2 a0_3 25) (Z BK388) hb)
      have n1_ := am (blk_below (g := gb389) (o := b4 a1_0 a1_1 a1_2 a1_3 25) (Z BK389) hb)
      have n2_ := am (blk_below (g := gb390) (o := b4 0 0 0 0 25) (Z BK390) hb)
      have n3_ := am (below_step (Y3 HB GE388 GE389 GE390) hb)
      clear BK388
      clear BK389
      clear BK390
      clear HB
      have BK388 := n0_
      have BK389 := n1_
      have BK390 := n2_
      have HB := n3_
      clear n0_ n1_ n2_ n3_
      (try clear hb)
      (try clear hb2)
      (try clear hk)
      (try clear hi)
      refine hK.out _ _ ⟨bc BK388 0, bc BK388 1, bc BK388 2, bc BK388 3, bc BK389 0, bc BK389 1, bc BK389 2, bc BK389 3⟩ (fun hHeld => ?_)
      clear hK K
      refine norm_ (a' := ?_) ?_ ?_
      rotate_left
      ·show Act.put _ (some 26) _ = _
       simp only [Act.put, List.setIfInBounds_toArray, List.set_cons_zero, List.set_cons_succ, i64_w, i32_w]
       rfl
      refine one_ (i := 4) (N := some 27) #[T, T, T, T, T, T, F, T, F, F, F, F] rfl rfl (one_of HT_.out (by kernel_rfl)) (by decide) (fun K hK => ?_)
      refine goes_ Try.func78 (by kernel_rfl) rfl #[.agg #[.int .i64 t399, .int .i64 t400], .agg #[.int .i64 t401, .int .i64 t402]] (by rfl) rfl rfl mz ?_
      with_reducible refine (impl_RangeJoin.calls kj2 t399 t400 t401 t402 t403 t404 _ A49.out).mono ?_
      rintro e w64 ⟨rfl, hb⟩
      refine ⟨_, rfl, ?_⟩
      have n0_ := am (blk_below (g := gb388) (o := b4 a0_0 a0_1 a0_2 a0_3 25) (Z BK388) hb)
      have n1_ := am (blk_below (g := gb389) (o := b4 a1_0 a1_1 a1_2 a1_3 25) (Z BK389) hb)
      have n2_ := am (blk_below (g := gb390) (o := b4 0 0 0 0 25) (Z BK390) hb)
      have n3_ := am (below_step (Y3 HB GE388 GE389 GE390) hb)
      clear BK388
      clear BK389
      clear BK390
      clear HB
      have BK388 := n0_
      have BK389 := n1_
      have BK390 := n2_
      have HB := n3_
      clear n0_ n1_ n2_ n3_
      (try clear hb)
      (try clear hb2)
      (try clear hk)
      (try clear hi)
      refine hK.out _ _ ⟨bc BK388 0, bc BK388 1, bc BK388 2, bc BK388 3, bc BK389 0, bc BK389 1, bc BK389 2, bc BK389 3⟩ (fun hHeld => ?_)
      clear hK K
      refine norm_ (a' := ?_) ?_ ?_
      rotate_left
      ·show Act.put _ (some 27) _ = _
       simp only [Act.put, List.setIfInBounds_toArray, List.set_cons_zero, List.set_cons_succ, i64_w, i32_w]
       rfl
      refine one_ (i := 6) (N := some 29) #[T, T, T, T, T, T, T, T, F, F, F, F] rfl rfl (one_of HT_.out (by kernel_rfl)) (by decide) (fun K hK => ?_)
      refine goes_ Try.func67 (by kernel_rfl) rfl #[.agg #[.int .i64 a0_0, .int .i64 a0_1, .int .i64 a0_2, .int .i64 a0_3]] (by rfl) rfl rfl mz ?_
      with_reducible refine (impl_Val_rest.calls a0_0 a0_1 a0_2 a0_3 t405 t406 _ A50.out).mono ?_
      rintro e w65 ⟨rfl, hb⟩
      refine ⟨_, rfl, ?_⟩
      have n0_ := am (blk_below (g := gb388) (o := b4 a0_0 a0_1 a0_2 a0_3 25) (Z BK388) hb)
      have n1_ := am (blk_below (g := gb389) (o := b4 a1_0 a1_1 a1_2 a1_3 25) (Z BK389) hb)
      have n2_ := am (blk_below (g := gb390) (o := b4 0 0 0 0 25) (Z BK390) hb)
      have n3_ := am (below_step (Y3 HB GE388 GE389 GE390) hb)
      clear BK388
      clear BK389
      clear BK390
      clear HB
      have BK388 := n0_
      have BK389 := n1_
      have BK390 := n2_
      have HB := n3_
      clear n0_ n1_ n2_ n3_
      (try clear hb)
      (try clear hb2)
      (try clear hk)
      (try clear hi)
      refine hK.out _ _ ⟨bc BK388 0, bc BK388 1, bc BK388 2, bc BK388 3, bc BK389 0, bc BK389 1, bc BK389 2, bc BK389 3⟩ (fun hHeld => ?_)
      clear hK K
      refine norm_ (a' := ?_) ?_ ?_
      rotate_left
      ·show Act.put _ (some 29) _ = _
       simp only [Act.put, List.setIfInBounds_toArray, List.set_cons_zero, List.set_cons_succ, i64_w, i32_w]
       rfl
      refine one_ (i := 8) (N := some 31) #[T, T, T, T, T, T, T, T, T, F, F, F] rfl rfl (one_of HT_.out (by kernel_rfl)) (by decide) (fun K hK => ?_)
      refine goes_ Try.func67 (by kernel_rfl) rfl #[.agg #[.int .i64 a1_0, .int .i64 a1_1, .int .i64 a1_2, .int .i64 a1_3]] (by rfl) rfl rfl mz ?_
      with_reducible refine (impl_Val_rest.calls a1_0 a1_1 a1_2 a1_3 t407 t408 _ A51.out).mono ?_
      rintro e w66 ⟨rfl, hb⟩
      refine ⟨_, rfl, ?_⟩
      have n0_ := am (blk_below (g := gb388) (o := b4 a0_0 a0_1 a0_2 a0_3 25) (Z BK388) hb)
      have n1_ := am (blk_below (g := gb389) (o := b4 a1_0 a1_1 a1_2 a1_3 25) (Z BK389) hb)
      have n2_ := am (blk_below (g := gb390) (o := b4 0 0 0 0 25) (Z BK390) hb)
      have n3_ := am (below_step (Y3 HB GE388 GE389 GE390) hb)
      clear BK388
      clear BK389
      clear BK390
      clear HB
      have BK388 := n0_
      have BK389 := n1_
      have BK390 := n2_
      have HB := n3_
      clear n0_ n1_ n2_ n3_
      (try clear hb)
      (try clear hb2)
      (try clear hk)
      (try clear hi)
      refine hK.out _ _ ⟨bc BK388 0, bc BK388 1, bc BK388 2, bc BK388 3, bc BK389 0, bc BK389 1, bc BK389 2, bc BK389 3⟩ (fun hHeld => ?_)
      clear hK K
      refine norm_ (a' := ?_) ?_ ?_
      rotate_left
      ·show Act.put _ (some 31) _ = _
       simp only [Act.put, List.setIfInBounds_toArray, List.set_cons_zero, List.set_cons_succ, i64_w, i32_w]
       rfl
      refine one_ (i := 9) (N := some 32) #[T, T, T, T, T, T, T, T, T, T, F, F] rfl rfl (one_of HT_.out (by kernel_rfl)) (by decide) (fun K hK => ?_)
      refine goes_ Try.func79 (by kernel_rfl) rfl #[.agg #[.int .i64 t405, .int .i64 t406], .agg #[.int .i64 t407, .int .i64 t408]] (by rfl) rfl rfl mz ?_
      with_reducible refine (impl_RestJoin.calls kj2 t405 t406 t407 t408 t409 t410 _ A52.out).mono ?_
      rintro e w67 ⟨rfl, hb⟩
      refine ⟨_, rfl, ?_⟩
      have n0_ := am (blk_below (g := gb388) (o := b4 a0_0 a0_1 a0_2 a0_3 25) (Z BK388) hb)
      have n1_ := am (blk_below (g := gb389) (o := b4 a1_0 a1_1 a1_2 a1_3 25) (Z BK389) hb)
      have n2_ := am (blk_below (g := gb390) (o := b4 0 0 0 0 25) (Z BK390) hb)
      have n3_ := am (below_step (Y3 HB GE388 GE389 GE390) hb)
      clear BK388
      clear BK389
      clear BK390
      clear HB
      have BK388 := n0_
      have BK389 := n1_
      have BK390 := n2_
      have HB := n3_
      clear n0_ n1_ n2_ n3_
      (try clear hb)
      (try clear hb2)
      (try clear hk)
      (try clear hi)
      refine hK.out _ _ ⟨bc BK388 0, bc BK388 1, bc BK388 2, bc BK388 3, bc BK389 0, bc BK389 1, bc BK389 2, bc BK389 3⟩ (fun hHeld => ?_)
      clear hK K
      refine norm_ (a' := ?_) ?_ ?_
      rotate_left
      ·show Act.put _ (some 32) _ = _
       simp only [Act.put, List.setIfInBounds_toArray, List.set_cons_zero, List.set_cons_succ, i64_w, i32_w]
       rfl
      refine one_ (i := 10) (N := some 33) #[T, T, T, T, T, T, T, T, T, T, T, F] rfl rfl (one_of HT_.out (by kernel_rfl)) (by decide) (fun K hK => ?_)
      refine goes_ Try.func77 (by kernel_rfl) rfl #[.agg #[.int .i64 t403, .int .i64 t404], .agg #[.int .i64 t409, .int .i64 t410]] (by rfl) rfl rfl mz ?_
      with_reducible refine (impl_ValMake.calls kj2 t403 t404 t409 t410 t411 t412 t413 t414 _ A53.out).mono ?_
      rintro e w68 ⟨rfl, hb⟩
      refine ⟨_, rfl, ?_⟩
      have n0_ := am (blk_below (g := gb388) (o := b4 a0_0 a0_1 a0_2 a0_3 25) (Z BK388) hb)
      have n1_ := am (blk_below (g := gb389) (o := b4 a1_0 a1_1 a1_2 a1_3 25) (Z BK389) hb)
      have n2_ := am (blk_below (g := gb390) (o := b4 0 0 0 0 25) (Z BK390) hb)
      have n3_ := am (below_step (Y3 HB GE388 GE389 GE390) hb)
      clear BK388
      clear BK389
      clear BK390
      clear HB
      have BK388 := n0_
      have BK389 := n1_
      have BK390 := n2_
      have HB := n3_
      clear n0_ n1_ n2_ n3_
      (try clear hb)
      (try clear hb2)
      (try clear hk)
      (try clear hi)
      refine hK.out _ _ ⟨bc BK388 0, bc BK388 1, bc BK388 2, bc BK388 3, bc BK389 0, bc BK389 1, bc BK389 2, bc BK389 3⟩ (fun hHeld => ?_)
      clear hK K
      refine norm_ (a' := ?_) ?_ ?_
      rotate_left
      ·show Act.put _ (some 33) _ = _
       simp only [Act.put, List.setIfInBounds_toArray, List.set_cons_zero, List.set_cons_succ, i64_w, i32_w]
       rfl
      refine one_ (i := 11) (N := none) #[T, T, T, T, T, T, T, T, T, T, T, T] rfl rfl (one_of HT_.out (by kernel_rfl)) (by decide) (fun K hK => ?_)
      have hs69 : w68.cell? ⟨gb390, 0, none⟩ = some (.int .i64 0) := bc BK390 0
      have hfs69 := blk_frozen BK390.out 0
      have hns69_0 := NB388_390.out
      have hns69_1 := NB389_390.out
      have hms69_0 := NB390_388.out
      have hms69_1 := NB390_389.out
      have hs70 : w68.cell? ⟨gb390, 1, none⟩ = some (.int .i64 0) := bc BK390 1
      have hfs70 := blk_frozen BK390.out 1
      have hns70_0 := NB388_390.out
      have hns70_1 := NB389_390.out
      have hms70_0 := NB390_388.out
      have hms70_1 := NB390_389.out
      have hs71 : w68.cell? ⟨gb390, 2, none⟩ = some (.int .i64 0) := bc BK390 2
      have hfs71 := blk_frozen BK390.out 2
      have hns71_0 := NB388_390.out
      have hns71_1 := NB389_390.out
      have hms71_0 := NB390_388.out
      have hms71_1 := NB390_389.out
      have hs72 : w68.cell? ⟨gb390, 3, none⟩ = some (.int .i64 0) := bc BK390 3
      have hfs72 := blk_frozen BK390.out 3
      have hns72_0 := NB388_390.out
      have hns72_1 := NB389_390.out
      have hms72_0 := NB390_388.out
      have hms72_1 := NB390_389.out
      refine skip_ (w1 := ?_) (by rfl) rfl ?_ ?_
      rotate_left
      ·go_simp
       rfl
      refine hK.out _ _ ⟨((cell_far (p := ⟨gb390, _, none⟩) NB388_390.out _).trans (((cell_far (p := ⟨gb390, _, none⟩) NB388_390.out _).trans (((cell_far (p := ⟨gb390, _, none⟩) NB388_390.out _).trans (((cell_far (p := ⟨gb390, _, none⟩) NB388_390.out _).trans (hHeld.1)))))))), ((cell_far (p := ⟨gb390, _, none⟩) NB388_390.out _).trans (((cell_far (p := ⟨gb390, _, none⟩) NB388_390.out _).trans (((cell_far (p := ⟨gb390, _, none⟩) NB388_390.out _).trans (((cell_far (p := ⟨gb390, _, none⟩) NB388_390.out _).trans (hHeld.2.1)))))))), ((cell_far (p := ⟨gb390, _, none⟩) NB388_390.out _).trans (((cell_far (p := ⟨gb390, _, none⟩) NB388_390.out _).trans (((cell_far (p := ⟨gb390, _, none⟩) NB388_390.out _).trans (((cell_far (p := ⟨gb390, _, none⟩) NB388_390.out _).trans (hHeld.2.2.1)))))))), ((cell_far (p := ⟨gb390, _, none⟩) NB388_390.out _).trans (((cell_far (p := ⟨gb390, _, none⟩) NB388_390.out _).trans (((cell_far (p := ⟨gb390, _, none⟩) NB388_390.out _).trans (((cell_far (p := ⟨gb390, _, none⟩) NB388_390.out _).trans (hHeld.2.2.2.1)))))))), ((cell_far (p := ⟨gb390, _, none⟩) NB389_390.out _).trans (((cell_far (p := ⟨gb390, _, none⟩) NB389_390.out _).trans (((cell_far (p := ⟨gb390, _, none⟩) NB389_390.out _).trans (((cell_far (p := ⟨gb390, _, none⟩) NB389_390.out _).trans (hHeld.2.2.2.2.1)))))))), ((cell_far (p := ⟨gb390, _, none⟩) NB389_390.out _).trans (((cell_far (p := ⟨gb390, _, none⟩) NB389_390.out _).trans (((cell_far (p := ⟨gb390, _, none⟩) NB389_390.out _).trans (((cell_far (p := ⟨gb390, _, none⟩) NB389_390.out _).trans (hHeld.2.2.2.2.2.1)))))))), ((cell_far (p := ⟨gb390, _, none⟩) NB389_390.out _).trans (((cell_far (p := ⟨gb390, _, none⟩) NB389_390.out _).trans (((cell_far (p := ⟨gb390, _, none⟩) NB389_390.out _).trans (((cell_far (p := ⟨gb390, _, none⟩) NB389_390.out _).trans (hHeld.2.2.2.2.2.2.1)))))))), ((cell_far (p := ⟨gb390, _, none⟩) NB389_390.out _).trans (((cell_far (p := ⟨gb390, _, none⟩) NB389_390.out _).trans (((cell_far (p := ⟨gb390, _, none⟩) NB389_390.out _).trans (((cell_far (p := ⟨gb390, _, none⟩) NB389_390.out _).trans (hHeld.2.2.2.2.2.2.2))))))))⟩ (fun hHeld => ?_)
      clear hK K
      refine done_ (done_of HT_.out (by kernel_rfl)) ?_
      try go_wp2
      refine bodyPost_ret (results_cell_row rfl _ _ gb390 25 #[.int .i64 t411, .int .i64 t412, .int .i64 t413, .int .i64 t414] (0, 0) _ rfl (by (with_reducible repeat (first | refine blk_drewN ?_ _ | refine blk_drew ?_ | refine blk_alloc ?_ _)); refine blk_put (cs := #[.int .i64 t411, .int .i64 t412, .int .i64 t413, .int .i64 0]) ?_ 3 _ rfl; (with_reducible repeat (first | refine blk_drewN ?_ _ | refine blk_drew ?_ | refine blk_alloc ?_ _)); refine blk_put (cs := #[.int .i64 t411, .int .i64 t412, .int .i64 0, .int .i64 0]) ?_ 2 _ rfl; (with_reducible repeat (first | refine blk_drewN ?_ _ | refine blk_drew ?_ | refine blk_alloc ?_ _)); refine blk_put (cs := #[.int .i64 t411, .int .i64 0, .int .i64 0, .int .i64 0]) ?_ 1 _ rfl; (with_reducible repeat (first | refine blk_drewN ?_ _ | refine blk_drew ?_ | refine blk_alloc ?_ _)); refine blk_put (cs := #[.int .i64 0, .int .i64 0, .int .i64 0, .int .i64 0]) ?_ 0 _ rfl; (with_reducible repeat (first | refine blk_drewN ?_ _ | refine blk_drew ?_ | refine blk_alloc ?_ _)); exact BK390.out) Try.underlying25 rfl (by kernel_rfl)) rfl ?_
      exact ⟨by first | rfl | (simp [errW_none, errW_some] <;> rfl) | (simp [*, errW_none, errW_some] <;> rfl), Y3 HB GE388 GE389 GE390⟩

end Go.Proofs.Ytnmccgjdnceheaa.PFnExactValWiden
