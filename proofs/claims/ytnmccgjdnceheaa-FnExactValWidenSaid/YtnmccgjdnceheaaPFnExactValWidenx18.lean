/- Written by this session's own driver (wip/dprint.py): the functions that the law FnExactValWiden reaches, as Lean functions, each with its contract. -/
import Derived.Test.YtnmccgjdnceheaaPFnExactValWidenx0
import Derived.Test.YtnmccgjdnceheaaPFnExactValWidenx16
import Derived.Test.YtnmccgjdnceheaaPFnExactValWidenx17
import Derived.Test.YtnmccgjdnceheaaSv
namespace Go.Proofs.Ytnmccgjdnceheaa.PFnExactValWiden
open Go.RowKit Go.Proofs.YtnmccgjdnceheaaV.PrintWords Go.Proofs.YtnmccgjdnceheaaV.PrintLast Go.Proofs.YtnmccgjdnceheaaV.PrintMore Go.Proofs.YtnmccgjdnceheaaSv
attribute [local go_sem] max2_int min2_int max_two min_two max_three min_three max_four min_four   -- for this text's walks alone
set_option linter.unusedVariables false
set_option linter.unusedSimpArgs false

/-! ### impl_RestJoin: function 79 -/
def impl_RestJoin.j0 : Nat → Bool → Int → Int → Int → Int → Option (Int × Int)
 | 0, _, _, _, _, _ => none
 | k + 1, x12, x376000, x376001, x377000, x377001 => if x12 = true then ((impl_restAll.f).bind fun bt380 => (some (bt380.1, bt380.2))) else ((impl_restGcd.f k (([x376000, x377000, wrap64 (x376001 - x377001)] : List Int))).bind fun t385 => ((impl_restOf.f k x376001 t385).bind fun bt386 => (some (bt386.1, bt386.2))))
def impl_RestJoin.f (k : Nat) (a0_0 : Int) (a0_1 : Int) (a1_0 : Int) (a1_1 : Int) : Option (Int × Int) := (impl_RestOk.f a0_0 a0_1).bind fun t378 => (if t378 = true then ((impl_RestOk.f a1_0 a1_1).bind fun t379 => (impl_RestJoin.j0 k (!t379) a0_0 a0_1 a1_0 a1_1)) else (impl_RestJoin.j0 k true a0_0 a0_1 a1_0 a1_1))
theorem impl_RestJoin.mono_l : ∀ k, (∀ y0 y1 y2 y3 y4, LeO (impl_RestJoin.j0 k y0 y1 y2 y3 y4) (impl_RestJoin.j0 (k + 1) y0 y1 y2 y3 y4))
 | 0 => fun _ _ _ _ _ r h => by simp [impl_RestJoin.j0] at h
 | k + 1 => by
  have ih0 := impl_RestJoin.mono_l k
  ·intro y0 y1 y2 y3 y4
   unfold impl_RestJoin.j0
   repeat' first
   | (with_reducible exact ih0 _ _ _ _ _)
   | (with_reducible exact impl_restGcd.mono _ _)
   | (with_reducible exact impl_restOf.mono _ _ _)
   | (with_reducible exact LeO.refl _)
   | (with_reducible exact LeO.none _)
   | (with_reducible refine LeO.ite ?_ ?_)
   | (with_reducible refine LeO.bind ?_ (fun _ => ?_))
   | exact ih0 _ _ _ _ _
   | exact impl_restGcd.mono _ _
   | exact impl_restOf.mono _ _ _
   | exact LeO.none _
   | refine LeO.ite ?_ ?_
   | refine LeO.bind ?_ (fun _ => ?_)
theorem impl_RestJoin.mono : ∀ a0 a1 a2 a3 k, LeO (impl_RestJoin.f k a0 a1 a2 a3) (impl_RestJoin.f (k + 1) a0 a1 a2 a3) := by
 intro a0 a1 a2 a3 k
 have ih0 := impl_RestJoin.mono_l k
 unfold impl_RestJoin.f
 repeat' first
   | (with_reducible exact ih0 _ _ _ _ _)
   | (with_reducible exact impl_restGcd.mono _ _)
   | (with_reducible exact impl_restOf.mono _ _ _)
   | (with_reducible exact LeO.refl _)
   | (with_reducible exact LeO.none _)
   | (with_reducible refine LeO.ite ?_ ?_)
   | (with_reducible refine LeO.bind ?_ (fun _ => ?_))
   | exact ih0 _ _ _ _ _
   | exact impl_restGcd.mono _ _
   | exact impl_restOf.mono _ _ _
   | exact LeO.none _
   | refine LeO.ite ?_ ?_
   | refine LeO.bind ?_ (fun _ => ?_)
def impl_RestJoin.T3 : Bool × List (List Nat × List Nat) := (true, [([], []), ([0], [0]), ([], []), ([2], [2]), ([], []), ([4], [4]), ([], []), ([6], [6]), ([], []), ([8], [8]), ([7, 9], [7, 9]), ([3, 5, 10], [3, 5, 10]), ([11], [11]), ([1, 12, 12], [1, 12]), ([13, 13, 0, 1, 2, 3, 4, 5, 6, 7, 8, 9, 10, 11, 12, 13], [13])])
def impl_RestJoin.B3 : List Nat := [0, 1, 0, 4, 0, 16, 0, 64, 0, 256, 960, 2044, 4092, 8191, 16383]
theorem impl_RestJoin.tab3 : rtab .any (opsOf Try.f79 3) = impl_RestJoin.T3 := by kernel_rfl
theorem impl_RestJoin.bits3 : waitsOk impl_RestJoin.T3.2 impl_RestJoin.B3 = true := by kernel_rfl
set_option maxHeartbeats 8000000 in
set_option maxRecDepth 100000 in
theorem impl_RestJoin.calls (k : Nat) (a0_0 : Int) (a0_1 : Int) (a1_0 : Int) (a1_1 : Int) (r1 : Int) (r2 : Int) (w : World) (h : impl_RestJoin.f k a0_0 a0_1 a1_0 a1_1 = some (r1, r2)) :
  Calls Try.prog 79 #[.agg #[.int .i64 a0_0, .int .i64 a0_1], .agg #[.int .i64 a1_0, .int .i64 a1_1]] w fun e w' => e = .returned (.agg #[.int .i64 r1, .int .i64 r2]) ∧ Below w.heap.size w w' := by
 have hu90 := Try.underlying90
 have HB := am (Below.refl w.heap.size w)
 have H : ((impl_RestOk.f a0_0 a0_1).bind fun t378 => (if t378 = true then ((impl_RestOk.f a1_0 a1_1).bind fun t379 => (impl_RestJoin.j0 k (!t379) a0_0 a0_1 a1_0 a1_1)) else (impl_RestJoin.j0 k true a0_0 a0_1 a1_0 a1_1))) = some (r1, r2) := h
 clear h
 have HC3 := am H
 clear H
 go_enter Try.func79, Try.ntmps79
 go_upto_region 1 with (first | ((with_reducible refine gate_dst (N := 2) rfl ?_); refine box_event ?hg (N := 2) ?hd (cs := #[.int .i64 a0_0, .int .i64 a0_1]) (t := 90) ?hr ?_; (case hd => rfl); (case hg => rfl); (case hr => first | (go_simp; done) | (go_simp; rfl)); intro gb375 hg w4 hbox hb; have n0_ := am (below_step (Y0 HB) hb); have n1_ := am (hbox); have n2_ := am ((by rw [hg]; exact (below_size (Y0 HB)) : w.heap.size ≤ gb375)); have n3_ := am ((by rw [hg]; exact (below_size (Y0 HB)) : w.heap.size ≤ gb375)); clear HB; have HB := n0_; have BK375 := n1_; have GW375 := n2_; have GE375 := n3_; clear n0_ n1_ n2_ n3_; clear hb hbox hg) | ((with_reducible refine gate_dst (N := 3) rfl ?_); refine box_event ?hg (N := 3) ?hd (cs := #[.int .i64 a1_0, .int .i64 a1_1]) (t := 90) ?hr ?_; (case hd => rfl); (case hg => rfl); (case hr => first | (go_simp; done) | (go_simp; rfl)); intro gb376 hg w5 hbox hb; have n0_ := am (blk_below (g := gb375) (o := b2 a0_0 a0_1 90) (Z BK375) hb); have n1_ := am (below_step (Y1 HB GE375) hb); have n2_ := am (hbox); have n3_ := am ((by rw [hg]; exact (below_size (Y1 HB GE375)) : w.heap.size ≤ gb376)); have n4_ := am ((by rw [hg]; exact (below_size (Y1 HB GE375)) : w.heap.size ≤ gb376)); have n5_ := am ((nl (o := b2 a0_0 a0_1 90) hg (Z BK375) : gb375 ≠ gb376)); have n6_ := am ((ng (o := b2 a0_0 a0_1 90) hg (Z BK375) : gb376 ≠ gb375)); clear BK375; clear HB; have BK375 := n0_; have HB := n1_; have BK376 := n2_; have GW376 := n3_; have GE376 := n4_; have NB375_376 := n5_; have NB376_375 := n6_; clear n0_ n1_ n2_ n3_ n4_ n5_ n6_; clear hb hbox hg) | ((with_reducible refine gate_dst (N := 4) rfl ?_); refine box_event ?hg (N := 4) ?hd (cs := #[.int .i64 0, .int .i64 0]) (t := 90) ?hr ?_; (case hd => rfl); (case hg => rfl); (case hr => first | (go_simp; done) | (go_simp; rfl)); intro gb377 hg w6 hbox hb; have n0_ := am (blk_below (g := gb375) (o := b2 a0_0 a0_1 90) (Z BK375) hb); have n1_ := am (blk_below (g := gb376) (o := b2 a1_0 a1_1 90) (Z BK376) hb); have n2_ := am (below_step (Y2 HB GE375 GE376) hb); have n3_ := am (hbox); have n4_ := am ((by rw [hg]; exact (below_size (Y2 HB GE375 GE376)) : w.heap.size ≤ gb377)); have n5_ := am ((by rw [hg]; exact (below_size (Y2 HB GE375 GE376)) : w.heap.size ≤ gb377)); have n6_ := am ((nl (o := b2 a0_0 a0_1 90) hg (Z BK375) : gb375 ≠ gb377)); have n7_ := am ((ng (o := b2 a0_0 a0_1 90) hg (Z BK375) : gb377 ≠ gb375)); have n8_ := am ((nl (o := b2 a1_0 a1_1 90) hg (Z BK376) : gb376 ≠ gb377)); have n9_ := am ((ng (o := b2 a1_0 a1_1 90) hg (Z BK376) : gb377 ≠ gb376)); clear BK375; clear BK376; clear HB; have BK375 := n0_; have BK376 := n1_; have HB := n2_; have BK377 := n3_; have GW377 := n4_; have GE377 := n5_; have NB375_377 := n6_; have NB377_375 := n7_; have NB376_377 := n8_; have NB377_376 := n9_; clear n0_ n1_ n2_ n3_ n4_ n5_ n6_ n7_ n8_ n9_; clear hb hbox hg))
 (try simp only [Act.put, List.setIfInBounds_toArray, List.set_cons_zero, List.set_cons_succ])
 go_cut [12] (fun v12 wc => ∃ (kq : Nat) (x12_2 : Bool), v12 = .bool x12_2 ∧ Aside0 (impl_RestJoin.j0 kq x12_2 a0_0 a0_1 a1_0 a1_1 = some (r1, r2)) ∧ Aside0 (kq ≤ k) ∧ Aside0 (wc.heap[gb375]? = some (.cells #[.int .i64 a0_0, .int .i64 a0_1] 90 (0, 0))) ∧ Aside0 (wc.heap[gb376]? = some (.cells #[.int .i64 a1_0, .int .i64 a1_1] 90 (0, 0))) ∧ Aside0 (wc.heap[gb377]? = some (.cells #[.int .i64 0, .int .i64 0] 90 (0, 0))) ∧ Aside0 (Below w.heap.size w wc))
 case first =>
  have H := HC3.out
  clear HC3
  replace H := Option.bind_eq_some_iff.mp H
  obtain ⟨t378, A70, H⟩ := H
  replace H : (if t378 = true then ((impl_RestOk.f a1_0 a1_1).bind fun t379 => (impl_RestJoin.j0 k (!t379) a0_0 a0_1 a1_0 a1_1)) else (impl_RestJoin.j0 k true a0_0 a0_1 a1_0 a1_1)) = some (r1, r2) := H
  have A7 := am A70
  clear A70
  by_cases c8 : t378 = true
  ·subst c8
   have H1 : ((impl_RestOk.f a1_0 a1_1).bind fun t379 => (impl_RestJoin.j0 k (!t379) a0_0 a0_1 a1_0 a1_1)) = some (r1, r2) := by rw [if_pos rfl] at H; exact H
   clear H
   have H := H1
   clear H1
   replace H := Option.bind_eq_some_iff.mp H
   obtain ⟨t379, A90, H⟩ := H
   replace H : (impl_RestJoin.j0 k (!t379) a0_0 a0_1 a1_0 a1_1) = some (r1, r2) := H
   have A9 := am A90
   clear A90
   have H' := am H
   clear H
   have hnb10 := NB375_376.out
   have hnc10 := NB376_375.out
   have hnb11 := NB375_377.out
   have hnc11 := NB377_375.out
   have hcz12_0 : w6.cell? ⟨gb375, 0, none⟩ = some (.int .i64 a0_0) := bc BK375 0
   have hcz12_1 : w6.cell? ⟨gb375, 1, none⟩ = some (.int .i64 a0_1) := bc BK375 1
   have hfz12_0 := blk_frozen BK375.out 0
   have hfz12_1 := blk_frozen BK375.out 1
   go_wp2_with (first | ((with_reducible refine gate_callee (f := 121) rfl ?_); refine goesL_ (some 6) rfl rfl Try.func121 (by kernel_rfl) rfl #[.agg #[.int .i64 a0_0, .int .i64 a0_1]] rfl mz ?_; (with_reducible refine (impl_RestOk.calls a0_0 a0_1 true _ A7.out).mono ?_); rintro e w13 ⟨rfl, hb⟩; refine ⟨_, rfl, ?_⟩; have n0_ := am (blk_below (g := gb375) (o := b2 a0_0 a0_1 90) (Z BK375) hb); have n1_ := am (blk_below (g := gb376) (o := b2 a1_0 a1_1 90) (Z BK376) hb); have n2_ := am (blk_below (g := gb377) (o := b2 0 0 90) (Z BK377) hb); have n3_ := am (below_step (Y3 HB GE375 GE376 GE377) hb); clear BK375; clear BK376; clear BK377; clear HB; have BK375 := n0_; have BK376 := n1_; have BK377 := n2_; have HB := n3_; clear n0_ n1_ n2_ n3_; (try clear hb); (try clear hb2); (try clear hk); (try clear hi); have hnb14 := NB376_377.out; have hnc14 := NB377_376.out; have hcz15_0 : w13.cell? ⟨gb376, 0, none⟩ = some (.int .i64 a1_0) := bc BK376 0; have hcz15_1 : w13.cell? ⟨gb376, 1, none⟩ = some (.int .i64 a1_1) := bc BK376 1; have hfz15_0 := blk_frozen BK376.out 0; have hfz15_1 := blk_frozen BK376.out 1) | (go_at_call 121; (with_reducible refine (impl_RestOk.calls a1_0 a1_1 t379 _ A9.out).mono ?_); rintro e w16 ⟨rfl, hb⟩; have n0_ := am (blk_below (g := gb375) (o := b2 a0_0 a0_1 90) (Z BK375) hb); have n1_ := am (blk_below (g := gb376) (o := b2 a1_0 a1_1 90) (Z BK376) hb); have n2_ := am (blk_below (g := gb377) (o := b2 0 0 90) (Z BK377) hb); have n3_ := am (below_step (Y3 HB GE375 GE376 GE377) hb); clear BK375; clear BK376; clear BK377; clear HB; have BK375 := n0_; have BK376 := n1_; have BK377 := n2_; have HB := n3_; clear n0_ n1_ n2_ n3_; (try clear hb); (try clear hb2); (try clear hk); (try clear hi)))
   go_meet
   case rel => exact ⟨_, (!t379), (by first | rfl | (simp; done) | (simp [*]; done)), H', ⟨by first | omega | exact Nat.le_refl _⟩, ⟨Z BK375⟩, ⟨Z BK376⟩, ⟨Z BK377⟩, ⟨Y3 HB GE375 GE376 GE377⟩⟩
  ·replace c8 := Bool.eq_false_iff.mpr c8
   subst c8
   have H1 : (impl_RestJoin.j0 k true a0_0 a0_1 a1_0 a1_1) = some (r1, r2) := by rw [if_neg (show ¬ (false = true) by decide)] at H; exact H
   clear H
   have H := H1
   clear H1
   have H' := am H
   clear H
   have hnb17 := NB375_376.out
   have hnc17 := NB376_375.out
   have hnb18 := NB375_377.out
   have hnc18 := NB377_375.out
   have hcz19_0 : w6.cell? ⟨gb375, 0, none⟩ = some (.int .i64 a0_0) := bc BK375 0
   have hcz19_1 : w6.cell? ⟨gb375, 1, none⟩ = some (.int .i64 a0_1) := bc BK375 1
   have hfz19_0 := blk_frozen BK375.out 0
   have hfz19_1 := blk_frozen BK375.out 1
   go_wp2_with (first | ((with_reducible refine gate_callee (f := 121) rfl ?_); refine goesL_ (some 6) rfl rfl Try.func121 (by kernel_rfl) rfl #[.agg #[.int .i64 a0_0, .int .i64 a0_1]] rfl mz ?_; (with_reducible refine (impl_RestOk.calls a0_0 a0_1 false _ A7.out).mono ?_); rintro e w20 ⟨rfl, hb⟩; refine ⟨_, rfl, ?_⟩; have n0_ := am (blk_below (g := gb375) (o := b2 a0_0 a0_1 90) (Z BK375) hb); have n1_ := am (blk_below (g := gb376) (o := b2 a1_0 a1_1 90) (Z BK376) hb); have n2_ := am (blk_below (g := gb377) (o := b2 0 0 90) (Z BK377) hb); have n3_ := am (below_step (Y3 HB GE375 GE376 GE377) hb); clear BK375; clear BK376; clear BK377; clear HB; have BK375 := n0_; have BK376 := n1_; have BK377 := n2_; have HB := n3_; clear n0_ n1_ n2_ n3_; (try clear hb); (try clear hb2); (try clear hk); (try clear hi)))
   go_meet
   case rel => exact ⟨_, (true), (by first | rfl | (simp; done) | (simp [*]; done)), H', ⟨by first | omega | exact Nat.le_refl _⟩, ⟨Z BK375⟩, ⟨Z BK376⟩, ⟨Z BK377⟩, ⟨Y3 HB GE375 GE376 GE377⟩⟩
 case rest =>
  clear HC3
  try clear c1
  try clear p2
  try clear c7
  try clear c8
  try clear c10
  try clear c11
  try clear c12
  try clear c14
  try clear c17
  try clear c18
  try clear hcz12_0
  try clear hcz12_1
  try clear hcz15_0
  try clear hcz15_1
  try clear hcz19_0
  try clear hcz19_1
  try clear hfz12_0
  try clear hfz12_1
  try clear hfz15_0
  try clear hfz15_1
  try clear hfz19_0
  try clear hfz19_1
  obtain ⟨kq, x12_2, rfl, HA, HJ2, BK375, BK376, BK377, HB⟩ := hcut
  cases kq with
  | zero => exact absurd HA.out (by simp [impl_RestJoin.j0])
  | succ kj2 =>
   have H := HA.out
   clear HA
   simp only [impl_RestJoin.j0] at H
   by_cases c21 : x12_2 = true
   ·subst c21
    have H1 : ((impl_restAll.f).bind fun bt380 => (some (bt380.1, bt380.2))) = some (r1, r2) := by rw [if_pos rfl] at H; exact H
    clear H
    have H := H1
    clear H1
    replace H := Option.bind_eq_some_iff.mp H
    obtain ⟨⟨t380, t381⟩, A220, H⟩ := H
    replace H : (some (t380, t381)) = some (r1, r2) := H
    have A22 := am A220
    clear A220
    simp only [Option.some.injEq, Prod.mk.injEq] at H
    obtain ⟨rfl, rfl⟩ := H
    go_wp2_with (first | ((with_reducible refine gate_callee (f := 133) rfl ?_); refine goesL_ (some 13) rfl rfl Try.func133 (by kernel_rfl) rfl #[] rfl mz ?_; (with_reducible refine (impl_restAll.calls  t380 t381 _ A22.out).mono ?_); rintro e w23 ⟨rfl, hb⟩; refine ⟨_, rfl, ?_⟩; have n0_ := am (blk_below (g := gb375) (o := b2 a0_0 a0_1 90) (Z BK375) hb); have n1_ := am (blk_below (g := gb376) (o := b2 a1_0 a1_1 90) (Z BK376) hb); have n2_ := am (blk_below (g := gb377) (o := b2 0 0 90) (Z BK377) hb); have n3_ := am (below_step (Y3 HB GE375 GE376 GE377) hb); clear BK375; clear BK376; clear BK377; clear HB; have BK375 := n0_; have BK376 := n1_; have BK377 := n2_; have HB := n3_; clear n0_ n1_ n2_ n3_; (try clear hb); (try clear hb2); (try clear hk); (try clear hi); have hnb24 := NB377_375.out; have hnc24 := NB375_377.out; have hnb25 := NB377_376.out; have hnc25 := NB376_377.out; have hcz26_0 : w23.cell? ⟨gb377, 0, none⟩ = some (.int .i64 0) := bc BK377 0; have hcz26_1 : w23.cell? ⟨gb377, 1, none⟩ = some (.int .i64 0) := bc BK377 1; have hfz26_0 := blk_frozen BK377.out 0; have hfz26_1 := blk_frozen BK377.out 1))
    refine bodyPost_ret (results_cell_row rfl _ _ gb377 90 #[.int .i64 t380, .int .i64 t381] (0, 0) _ rfl (by (with_reducible repeat (first | refine blk_drewN ?_ _ | refine blk_drew ?_ | refine blk_alloc ?_ _)); refine blk_put (cs := #[.int .i64 t380, .int .i64 0]) ?_ 1 _ rfl; (with_reducible repeat (first | refine blk_drewN ?_ _ | refine blk_drew ?_ | refine blk_alloc ?_ _)); refine blk_put (cs := #[.int .i64 0, .int .i64 0]) ?_ 0 _ rfl; (with_reducible repeat (first | refine blk_drewN ?_ _ | refine blk_drew ?_ | refine blk_alloc ?_ _)); exact BK377.out) Try.underlying90 rfl (by kernel_rfl)) rfl ?_
    exact ⟨by first | rfl | (simp [errW_none, errW_some] <;> rfl) | (simp [*, errW_none, errW_some] <;> rfl), Y3 HB GE375 GE376 GE377⟩
   ·replace c21 := Bool.eq_false_iff.mpr c21
    subst c21
    have H1 : ((impl_restGcd.f kj2 (([a0_0, a1_0, wrap64 (a0_1 - a1_1)] : List Int))).bind fun t385 => ((impl_restOf.f kj2 a0_1 t385).bind fun bt386 => (some (bt386.1, bt386.2)))) = some (r1, r2) := by rw [if_neg (show ¬ (false = true) by decide)] at H; exact H
    clear H
    have H := H1
    clear H1
    obtain ⟨y382, hy382⟩ : ∃ y_ : List Int, y_ = (([a0_0, a1_0, wrap64 (a0_1 - a1_1)] : List Int)) := ⟨_, rfl⟩
    replace H : ((impl_restGcd.f kj2 y382).bind fun t385 => ((impl_restOf.f kj2 a0_1 t385).bind fun bt386 => (some (bt386.1, bt386.2)))) = some (r1, r2) := by first | (rw [hy382]; with_reducible exact H) | (have H2_ := (Option.bind_some _ _).symm.trans H; rw [hy382]; with_reducible exact H2_) | (have H2_ := (Option.bind_some _ _).symm.trans H; with_reducible exact H2_) | with_reducible exact H | (rw [hy382]; exact H) | exact H
    have Ny382 := am hy382
    clear hy382
    replace H := Option.bind_eq_some_iff.mp H
    obtain ⟨t385, A270, H⟩ := H
    replace H : ((impl_restOf.f kj2 a0_1 t385).bind fun bt386 => (some (bt386.1, bt386.2))) = some (r1, r2) := H
    have A27 := am A270
    clear A270
    replace H := Option.bind_eq_some_iff.mp H
    obtain ⟨⟨t386, t387⟩, A280, H⟩ := H
    replace H : (some (t386, t387)) = some (r1, r2) := H
    have A28 := am A280
    clear A280
    simp only [Option.some.injEq, Prod.mk.injEq] at H
    obtain ⟨rfl, rfl⟩ := H
    try go_wp2
    have n0_ := am (blk_drew BK375.out)
    have n1_ := am (blk_drew BK376.out)
    have n2_ := am (blk_drew BK377.out)
    have n3_ := am (below_drew1 HB.out)
    clear BK375
    clear BK376
    clear BK377
    clear HB
    have BK375 := n0_
    have BK376 := n1_
    have BK377 := n2_
    have HB := n3_
    clear n0_ n1_ n2_ n3_
    refine start_ (n := 15) (S := fun w' => w'.cell? ⟨gb375, 0, none⟩ = some (.int .i64 a0_0) ∧ w'.cell? ⟨gb375, 1, none⟩ = some (.int .i64 a0_1) ∧ w'.cell? ⟨gb376, 0, none⟩ = some (.int .i64 a1_0) ∧ w'.cell? ⟨gb376, 1, none⟩ = some (.int .i64 a1_1)) (ds := []) #[F, F, F, F, F, F, F, F, F, F, F, F, F, F, F] (by kernel_rfl) rfl rfl ⟨bc BK375 0, bc BK375 1, bc BK376 0, bc BK376 1⟩ (fun hHeld => ?_); refine with_tabW impl_RestJoin.tab3 impl_RestJoin.bits3 (fun HT_ HW_ => ?_)
    generalize wc.drew = w29 at BK375 BK376 BK377 HB hHeld ⊢
    refine pure_ (i := 0) (N := some 14) (v := ?_) (a' := ?_) #[T, F, F, F, F, F, F, F, F, F, F, F, F, F, F] rfl rfl (any_of HT_.out (by kernel_rfl)) (fun _ _ _ h => h) (Or.inl ⟨by rfl, ?_⟩) ?_ ?_
    rotate_left
    ·exact gz
    rotate_left
    ·exact pz
    refine pure_ (i := 2) (N := some 16) (v := ?_) (a' := ?_) #[T, F, T, F, F, F, F, F, F, F, F, F, F, F, F] rfl rfl (any_of HT_.out (by kernel_rfl)) (fun _ _ _ h => h) (Or.inl ⟨by rfl, ?_⟩) ?_ ?_
    rotate_left
    ·exact gz
    rotate_left
    ·exact pz
    refine pure_ (i := 4) (N := some 18) (v := ?_) (a' := ?_) #[T, F, T, F, T, F, F, F, F, F, F, F, F, F, F] rfl rfl (any_of HT_.out (by kernel_rfl)) (fun _ _ _ h => h) (Or.inl ⟨by rfl, ?_⟩) ?_ ?_
    rotate_left
    ·exact gz
    rotate_left
    ·exact pz
    refine pure_ (i := 6) (N := some 20) (v := ?_) (a' := ?_) #[T, F, T, F, T, F, T, F, F, F, F, F, F, F, F] rfl rfl (any_of HT_.out (by kernel_rfl)) (fun _ _ _ h => h) (Or.inl ⟨by rfl, ?_⟩) ?_ ?_
    rotate_left
    ·exact gz
    rotate_left
    ·exact pz
    refine pure_ (i := 8) (N := some 22) (v := ?_) (a' := ?_) #[T, F, T, F, T, F, T, F, T, F, F, F, F, F, F] rfl rfl (any_of HT_.out (by kernel_rfl)) (fun _ _ _ h => h) (Or.inl ⟨by rfl, ?_⟩) ?_ ?_
    rotate_left
    ·exact gz
    rotate_left
    ·exact pz
    refine take_ (i := 1) (N := some 15) (v := ?_) (a' := ?_) #[T, T, T, F, T, F, T, F, T, F, F, F, F, F, F] rfl rfl (take_ofW HT_.out HW_.out (by kernel_rfl)) (fun _ _ _ h => h) (Or.inl ⟨by rfl, ?_⟩) hHeld ?_ ?_
    rotate_left
    ·rintro w' ⟨s0, s1, s2, s3⟩
     go_simp
     with_reducible rfl
    rotate_left
    ·exact pz
    refine take_ (i := 3) (N := some 17) (v := ?_) (a' := ?_) #[T, T, T, T, T, F, T, F, T, F, F, F, F, F, F] rfl rfl (take_ofW HT_.out HW_.out (by kernel_rfl)) (fun _ _ _ h => h) (Or.inl ⟨by rfl, ?_⟩) hHeld ?_ ?_
    rotate_left
    ·rintro w' ⟨s0, s1, s2, s3⟩
     go_simp
     with_reducible rfl
    rotate_left
    ·exact pz
    refine take_ (i := 5) (N := some 19) (v := ?_) (a' := ?_) #[T, T, T, T, T, T, T, F, T, F, F, F, F, F, F] rfl rfl (take_ofW HT_.out HW_.out (by kernel_rfl)) (fun _ _ _ h => h) (Or.inl ⟨by rfl, ?_⟩) hHeld ?_ ?_
    rotate_left
    ·rintro w' ⟨s0, s1, s2, s3⟩
     go_simp
     with_reducible rfl
    rotate_left
    ·exact pz
    refine take_ (i := 7) (N := some 21) (v := ?_) (a' := ?_) #[T, T, T, T, T, T, T, T, T, F, F, F, F, F, F] rfl rfl (take_ofW HT_.out HW_.out (by kernel_rfl)) (fun _ _ _ h => h) (Or.inl ⟨by rfl, ?_⟩) hHeld ?_ ?_
    rotate_left
    ·rintro w' ⟨s0, s1, s2, s3⟩
     go_simp
     with_reducible rfl
    rotate_left
    ·exact pz
    refine take_ (i := 9) (N := some 23) (v := ?_) (a' := ?_) #[T, T, T, T, T, T, T, T, T, T, F, F, F, F, F] rfl rfl (take_ofW HT_.out HW_.out (by kernel_rfl)) (fun _ _ _ h => h) (Or.inl ⟨by rfl, ?_⟩) hHeld ?_ ?_
    rotate_left
    ·rintro w' ⟨s0, s1, s2, s3⟩
     go_simp
     with_reducible rfl
    rotate_left
    ·exact pz
    refine pure_ (i := 10) (N := some 24) (v := ?_) (a' := ?_) #[T, T, T, T, T, T, T, T, T, T, T, F, F, F, F] rfl rfl (any_of HT_.out (by kernel_rfl)) (fun _ _ _ h => h) (Or.inl ⟨by rfl, ?_⟩) ?_ ?_
    rotate_left
    ·exact gz
    rotate_left
    ·exact pz
    refine one_ (i := 11) (N := some 25) #[T, T, T, T, T, T, T, T, T, T, T, T, F, F, F] rfl rfl (one_of HT_.out (by kernel_rfl)) (by decide) (fun K hK => ?_)
    refine Kd.R_lit_step (Kd.int .i64) _ 3 ?hg (N := 25) ?hd (xs := ([a0_0, a1_0, wrap64 (a0_1 - a1_1)] : List Int)) (inner := [.int .i64 a0_0, .int .i64 a1_0, .int .i64 (wrap64 (a0_1 - a1_1))]) (ok := fun _ => True) (okp := fun _ => True) ?hr ?hp (fun _ hk => hk) trivial (Below.refl _ _) (Nat.le_refl _) (by simp) ?_; (case hd => rfl); (case hg => rfl); (case hr => first | (go_simp; done) | (go_simp; rfl)); (case hp => exact (Reps.one (show Kd.M (Kd.int .i64) _ _ _ a0_0 [.int .i64 a0_0] from rfl) (Reps.one (show Kd.M (Kd.int .i64) _ _ _ a1_0 [.int .i64 a1_0] from rfl) (Reps.one (show Kd.M (Kd.int .i64) _ _ _ (wrap64 (a0_1 - a1_1)) [.int .i64 (wrap64 (a0_1 - a1_1))] from rfl) (Reps.none _ _)))))
    intro v383 w30 ho31 hb hg_ hnew_
    clear hg_ hnew_
    (first | rw [← Ny382.out] at ho31 | (simp only [Int.reduceToNat] at ho31; rw [← Ny382.out] at ho31))
    have n0_ := am (Kd.R_lower ho31 (below_size (Y3 HB GE375 GE376 GE377)))
    have n1_ := am (blk_below (g := gb375) (o := b2 a0_0 a0_1 90) (Z BK375) hb)
    have n2_ := am (blk_below (g := gb376) (o := b2 a1_0 a1_1 90) (Z BK376) hb)
    have n3_ := am (blk_below (g := gb377) (o := b2 0 0 90) (Z BK377) hb)
    have n4_ := am (below_step (Y3 HB GE375 GE376 GE377) hb)
    clear BK375
    clear BK376
    clear BK377
    clear HB
    have HO384 := n0_
    have BK375 := n1_
    have BK376 := n2_
    have BK377 := n3_
    have HB := n4_
    clear n0_ n1_ n2_ n3_ n4_
    clear hb ho31
    obtain ⟨Ao32, co32, eo32⟩ := Kd.R_slice HO384.out
    (first | subst eo32 | (injection eo32 with f1_ f2_ f3_; have f4_ := f1_.symm; have f5_ := f3_.symm; clear f1_ f2_ f3_; subst f4_; subst f5_))
    refine hK.out _ _ ⟨bc BK375 0, bc BK375 1, bc BK376 0, bc BK376 1⟩ (fun hHeld => ?_)
    clear hK K
    refine norm_ (a' := ?_) ?_ ?_
    rotate_left
    ·show Act.put _ (some 25) _ = _
     simp only [Act.put, List.setIfInBounds_toArray, List.set_cons_zero, List.set_cons_succ, i64_w, i32_w]
     rfl
    refine one_ (i := 12) (N := some 26) #[T, T, T, T, T, T, T, T, T, T, T, T, T, F, F] rfl rfl (one_of HT_.out (by kernel_rfl)) (by decide) (fun K hK => ?_)
    refine goes_ Try.func135 (by kernel_rfl) rfl #[.slice Ao32 y382.length co32] (by rfl) rfl rfl mz ?_
    with_reducible refine (impl_restGcd.calls kj2 _ _ y382 t385 _ ?side1 ?side2 A27.out).mono ?_
    (case side1 => repeat (first | exact (Kd.R_reads' HO384.out).2.2 | (with_reducible refine Kd.C_alloc ?_ _) | (with_reducible refine Kd.C_drewN ?_ _) | (with_reducible refine Kd.C_drew ?_)))
    (case side2 => exact (Kd.R_reads' HO384.out).2.1)
    rintro e w' ⟨rfl, ⟨nd, rfl⟩⟩
    refine ⟨_, rfl, ?_⟩
    refine hK.out _ _ ⟨bc BK375 0, bc BK375 1, bc BK376 0, bc BK376 1⟩ (fun hHeld => ?_)
    clear hK K
    refine norm_ (a' := ?_) ?_ ?_
    rotate_left
    ·show Act.put _ (some 26) _ = _
     simp only [Act.put, List.setIfInBounds_toArray, List.set_cons_zero, List.set_cons_succ, i64_w, i32_w]
     rfl
    refine one_ (i := 13) (N := some 27) #[T, T, T, T, T, T, T, T, T, T, T, T, T, T, F] rfl rfl (one_of HT_.out (by kernel_rfl)) (by decide) (fun K hK => ?_)
    refine goes_ Try.func134 (by kernel_rfl) rfl #[.int .i64 a0_1, .int .i64 t385] (by rfl) rfl rfl mz ?_
    with_reducible refine (impl_restOf.calls kj2 a0_1 t385 t386 t387 _ A28.out).mono ?_
    rintro e w33 ⟨rfl, hb⟩
    refine ⟨_, rfl, ?_⟩
    have n0_ := am (Kd.R_below (by (with_reducible repeat (first | apply Kd.R_alloc | apply Kd.R_drewN | apply Kd.R_drew)); exact HO384.out) hb)
    have n1_ := am (blk_below (g := gb375) (o := b2 a0_0 a0_1 90) (Z BK375) hb)
    have n2_ := am (blk_below (g := gb376) (o := b2 a1_0 a1_1 90) (Z BK376) hb)
    have n3_ := am (blk_below (g := gb377) (o := b2 0 0 90) (Z BK377) hb)
    have n4_ := am (below_step (Y3 HB GE375 GE376 GE377) hb)
    clear HO384
    clear BK375
    clear BK376
    clear BK377
    clear HB
    have HO384 := n0_
    have BK375 := n1_
    have BK376 := n2_
    have BK377 := n3_
    have HB := n4_
    clear n0_ n1_ n2_ n3_ n4_
    (try clear hb)
    (try clear hb2)
    (try clear hk)
    (try clear hi)
    refine hK.out _ _ ⟨bc BK375 0, bc BK375 1, bc BK376 0, bc BK376 1⟩ (fun hHeld => ?_)
    clear hK K
    refine norm_ (a' := ?_) ?_ ?_
    rotate_left
    ·show Act.put _ (some 27) _ = _
     simp only [Act.put, List.setIfInBounds_toArray, List.set_cons_zero, List.set_cons_succ, i64_w, i32_w]
     rfl
    refine one_ (i := 14) (N := none) #[T, T, T, T, T, T, T, T, T, T, T, T, T, T, T] rfl rfl (one_of HT_.out (by kernel_rfl)) (by decide) (fun K hK => ?_)
    have hs34 : w33.cell? ⟨gb377, 0, none⟩ = some (.int .i64 0) := bc BK377 0
    have hfs34 := blk_frozen BK377.out 0
    have hns34_0 := NB375_377.out
    have hns34_1 := NB376_377.out
    have hms34_0 := NB377_375.out
    have hms34_1 := NB377_376.out
    have hs35 : w33.cell? ⟨gb377, 1, none⟩ = some (.int .i64 0) := bc BK377 1
    have hfs35 := blk_frozen BK377.out 1
    have hns35_0 := NB375_377.out
    have hns35_1 := NB376_377.out
    have hms35_0 := NB377_375.out
    have hms35_1 := NB377_376.out
    refine skip_ (w1 := ?_) (by rfl) rfl ?_ ?_
    rotate_left
    ·go_simp
     rfl
    refine hK.out _ _ ⟨((cell_far (p := ⟨gb377, _, none⟩) NB375_377.out _).trans (((cell_far (p := ⟨gb377, _, none⟩) NB375_377.out _).trans (hHeld.1)))), ((cell_far (p := ⟨gb377, _, none⟩) NB375_377.out _).trans (((cell_far (p := ⟨gb377, _, none⟩) NB375_377.out _).trans (hHeld.2.1)))), ((cell_far (p := ⟨gb377, _, none⟩) NB376_377.out _).trans (((cell_far (p := ⟨gb377, _, none⟩) NB376_377.out _).trans (hHeld.2.2.1)))), ((cell_far (p := ⟨gb377, _, none⟩) NB376_377.out _).trans (((cell_far (p := ⟨gb377, _, none⟩) NB376_377.out _).trans (hHeld.2.2.2))))⟩ (fun hHeld => ?_)
    clear hK K
    refine done_ (done_of HT_.out (by kernel_rfl)) ?_
    try go_wp2
    refine bodyPost_ret (results_cell_row rfl _ _ gb377 90 #[.int .i64 t386, .int .i64 t387] (0, 0) _ rfl (by (with_reducible repeat (first | refine blk_drewN ?_ _ | refine blk_drew ?_ | refine blk_alloc ?_ _)); refine blk_put (cs := #[.int .i64 t386, .int .i64 0]) ?_ 1 _ rfl; (with_reducible repeat (first | refine blk_drewN ?_ _ | refine blk_drew ?_ | refine blk_alloc ?_ _)); refine blk_put (cs := #[.int .i64 0, .int .i64 0]) ?_ 0 _ rfl; (with_reducible repeat (first | refine blk_drewN ?_ _ | refine blk_drew ?_ | refine blk_alloc ?_ _)); exact BK377.out) Try.underlying90 rfl (by kernel_rfl)) rfl ?_
    exact ⟨by first | rfl | (simp [errW_none, errW_some] <;> rfl) | (simp [*, errW_none, errW_some] <;> rfl), Y3 HB GE375 GE376 GE377⟩

end Go.Proofs.Ytnmccgjdnceheaa.PFnExactValWiden
