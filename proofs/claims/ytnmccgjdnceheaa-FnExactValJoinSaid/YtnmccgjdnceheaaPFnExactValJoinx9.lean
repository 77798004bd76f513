/- Written by this session's own driver (wip/dprint.py): the functions that the law FnExactValJoin reaches, as Lean functions, each with its contract. -/
import Derived.Test.YtnmccgjdnceheaaPFnExactValJoinx0
import Derived.Test.YtnmccgjdnceheaaPFnExactValJoinx1
import Derived.Test.YtnmccgjdnceheaaPFnExactValJoinx3
import Derived.Test.YtnmccgjdnceheaaPFnExactValJoinx5
import Derived.Test.YtnmccgjdnceheaaPFnExactValJoinx6
import Derived.Test.YtnmccgjdnceheaaPFnExactValJoinx7
import Derived.Test.YtnmccgjdnceheaaPFnExactValJoinx8
import Derived.Test.YtnmccgjdnceheaaSv
namespace Go.Proofs.Ytnmccgjdnceheaa.PFnExactValJoin
open Go.RowKit Go.Proofs.YtnmccgjdnceheaaV.PrintWords Go.Proofs.YtnmccgjdnceheaaV.PrintLast Go.Proofs.YtnmccgjdnceheaaV.PrintMore Go.Proofs.YtnmccgjdnceheaaSv
attribute [local go_sem] max2_int min2_int max_two min_two max_three min_three max_four min_four   -- for this text's walks alone
set_option linter.unusedVariables false
set_option linter.unusedSimpArgs false

attribute [local go_sem high] eqA25
/-! ### spec_ValJoin: function 20 -/
def spec_ValJoin.j0 : Nat → Bool → Int → Int → Int → Int → Int → Int → Int → Int → Option (Int × Int × Int × Int)
 | 0, _, _, _, _, _, _, _, _, _ => none
 | k + 1, x12, x203000, x203001, x203002, x203003, x204000, x204001, x204002, x204003 => if x12 = true then ((spec_l10None.f).bind fun bt207 => (some (bt207.1, bt207.2.1, bt207.2.2.1, bt207.2.2.2))) else ((spec_l10None.f).bind fun bt211 => (if (x203000 == bt211.1 && (x203001 == bt211.2.1 && (x203002 == bt211.2.2.1 && (x203003 == bt211.2.2.2)))) = true then (some (x204000, x204001, x204002, x204003)) else ((spec_l10None.f).bind fun bt215 => (if (x204000 == bt215.1 && (x204001 == bt215.2.1 && (x204002 == bt215.2.2.1 && (x204003 == bt215.2.2.2)))) = true then (some (x203000, x203001, x203002, x203003)) else ((spec_l10Range.f x203000 x203001 x203002 x203003).bind fun bt219 => ((spec_l10Range.f x204000 x204001 x204002 x204003).bind fun bt221 => ((spec_RangeJoin.f k bt219.1 bt219.2 bt221.1 bt221.2).bind fun bt223 => ((spec_l10Rest.f x203000 x203001 x203002 x203003).bind fun bt225 => ((spec_l10Rest.f x204000 x204001 x204002 x204003).bind fun bt227 => ((spec_RestJoin.f k bt225.1 bt225.2 bt227.1 bt227.2).bind fun bt229 => ((spec_ValMake.f k bt223.1 bt223.2 bt229.1 bt229.2).bind fun bt231 => (some (bt231.1, bt231.2.1, bt231.2.2.1, bt231.2.2.2)))))))))))))
def spec_ValJoin.f (k : Nat) (a0_0 : Int) (a0_1 : Int) (a0_2 : Int) (a0_3 : Int) (a1_0 : Int) (a1_1 : Int) (a1_2 : Int) (a1_3 : Int) : Option (Int × Int × Int × Int) := (spec_ValOk.f k a0_0 a0_1 a0_2 a0_3).bind fun t205 => (if t205 = true then ((spec_ValOk.f k a1_0 a1_1 a1_2 a1_3).bind fun t206 => (spec_ValJoin.j0 k (!t206) a0_0 a0_1 a0_2 a0_3 a1_0 a1_1 a1_2 a1_3)) else (spec_ValJoin.j0 k true a0_0 a0_1 a0_2 a0_3 a1_0 a1_1 a1_2 a1_3))
theorem spec_ValJoin.mono_l : ∀ k, (∀ y0 y1 y2 y3 y4 y5 y6 y7 y8, LeO (spec_ValJoin.j0 k y0 y1 y2 y3 y4 y5 y6 y7 y8) (spec_ValJoin.j0 (k + 1) y0 y1 y2 y3 y4 y5 y6 y7 y8))
 | 0 => fun _ _ _ _ _ _ _ _ _ r h => by simp [spec_ValJoin.j0] at h
 | k + 1 => by
  have ih0 := spec_ValJoin.mono_l k
  ·intro y0 y1 y2 y3 y4 y5 y6 y7 y8
   unfold spec_ValJoin.j0
   repeat' first
   | (with_reducible exact ih0 _ _ _ _ _ _ _ _ _)
   | (with_reducible exact spec_RangeJoin.mono _ _ _ _ _)
   | (with_reducible exact spec_RestJoin.mono _ _ _ _ _)
   | (with_reducible exact spec_ValMake.mono _ _ _ _ _)
   | (with_reducible exact spec_ValOk.mono _ _ _ _ _)
   | (with_reducible exact LeO.refl _)
   | (with_reducible exact LeO.none _)
   | (with_reducible refine LeO.ite ?_ ?_)
   | (with_reducible refine LeO.bind ?_ (fun _ => ?_))
   | exact ih0 _ _ _ _ _ _ _ _ _
   | exact spec_RangeJoin.mono _ _ _ _ _
   | exact spec_RestJoin.mono _ _ _ _ _
   | exact spec_ValMake.mono _ _ _ _ _
   | exact spec_ValOk.mono _ _ _ _ _
   | exact LeO.none _
   | refine LeO.ite ?_ ?_
   | refine LeO.bind ?_ (fun _ => ?_)
theorem spec_ValJoin.mono : ∀ a0 a1 a2 a3 a4 a5 a6 a7 k, LeO (spec_ValJoin.f k a0 a1 a2 a3 a4 a5 a6 a7) (spec_ValJoin.f (k + 1) a0 a1 a2 a3 a4 a5 a6 a7) := by
 intro a0 a1 a2 a3 a4 a5 a6 a7 k
 have ih0 := spec_ValJoin.mono_l k
 unfold spec_ValJoin.f
 repeat' first
   | (with_reducible exact ih0 _ _ _ _ _ _ _ _ _)
   | (with_reducible exact spec_RangeJoin.mono _ _ _ _ _)
   | (with_reducible exact spec_RestJoin.mono _ _ _ _ _)
   | (with_reducible exact spec_ValMake.mono _ _ _ _ _)
   | (with_reducible exact spec_ValOk.mono _ _ _ _ _)
   | (with_reducible exact LeO.refl _)
   | (with_reducible exact LeO.none _)
   | (with_reducible refine LeO.ite ?_ ?_)
   | (with_reducible refine LeO.bind ?_ (fun _ => ?_))
   | exact ih0 _ _ _ _ _ _ _ _ _
   | exact spec_RangeJoin.mono _ _ _ _ _
   | exact spec_RestJoin.mono _ _ _ _ _
   | exact spec_ValMake.mono _ _ _ _ _
   | exact spec_ValOk.mono _ _ _ _ _
   | exact LeO.none _
   | refine LeO.ite ?_ ?_
   | refine LeO.bind ?_ (fun _ => ?_)
def spec_ValJoin.T7 : Bool × List (List Nat × List Nat) := (true, [([], []), ([0], [0]), ([], []), ([2, 1], [2]), ([1, 3, 3], [1, 3]), ([], []), ([5, 4], [5]), ([], []), ([7, 6], [7]), ([6, 8, 8], [6, 8]), ([4, 9, 9], [4, 9]), ([10, 10, 0, 1, 2, 3, 4, 5, 6, 7, 8, 9, 10], [10])])
def spec_ValJoin.B7 : List Nat := [0, 1, 0, 7, 15, 0, 63, 0, 255, 511, 1023, 2047]
theorem spec_ValJoin.tab7 : rtab .any (opsOf Try.f20 7) = spec_ValJoin.T7 := by kernel_rfl
theorem spec_ValJoin.bits7 : waitsOk spec_ValJoin.T7.2 spec_ValJoin.B7 = true := by kernel_rfl
set_option maxHeartbeats 8000000 in
set_option maxRecDepth 100000 in
theorem spec_ValJoin.calls (k : Nat) (a0_0 : Int) (a0_1 : Int) (a0_2 : Int) (a0_3 : Int) (a1_0 : Int) (a1_1 : Int) (a1_2 : Int) (a1_3 : Int) (r1 : Int) (r2 : Int) (r3 : Int) (r4 : Int) (w : World) (h : spec_ValJoin.f k a0_0 a0_1 a0_2 a0_3 a1_0 a1_1 a1_2 a1_3 = some (r1, r2, r3, r4)) :
  Calls Try.prog 20 #[.agg #[.int .i64 a0_0, .int .i64 a0_1, .int .i64 a0_2, .int .i64 a0_3], .agg #[.int .i64 a1_0, .int .i64 a1_1, .int .i64 a1_2, .int .i64 a1_3]] w fun e w' => e = .returned (.agg #[.int .i64 r1, .int .i64 r2, .int .i64 r3, .int .i64 r4]) ∧ Below w.heap.size w w' := by
 have hu25 := Try.underlying25
 have HB := Aside0.mk (Below.refl w.heap.size w)
 have H : ((spec_ValOk.f k a0_0 a0_1 a0_2 a0_3).bind fun t205 => (if t205 = true then ((spec_ValOk.f k a1_0 a1_1 a1_2 a1_3).bind fun t206 => (spec_ValJoin.j0 k (!t206) a0_0 a0_1 a0_2 a0_3 a1_0 a1_1 a1_2 a1_3)) else (spec_ValJoin.j0 k true a0_0 a0_1 a0_2 a0_3 a1_0 a1_1 a1_2 a1_3))) = some (r1, r2, r3, r4) := h
 clear h
 have HC3 := Aside0.mk H
 clear H
 go_enter Try.func20, Try.ntmps20
 go_upto_region 1 with (first | ((with_reducible refine gate_dst (N := 2) rfl ?_); refine box_event ?hg (N := 2) ?hd (cs := #[.int .i64 a0_0, .int .i64 a0_1, .int .i64 a0_2, .int .i64 a0_3]) (t := 25) ?hr ?_; (case hd => rfl); (case hg => rfl); (case hr => first | (go_simp; done) | (go_simp; rfl)); intro gb202 hg w4 hbox hb; have n0_ := Aside0.mk (below_step (hz HB.out) hb); have n1_ := Aside0.mk (hbox); have n2_ := Aside0.mk ((by rw [hg]; exact (below_size (hz HB.out)) : w.heap.size ≤ gb202)); have n3_ := Aside0.mk ((by rw [hg]; exact (below_size (hz HB.out)) : w.heap.size ≤ gb202)); clear HB; have HB := n0_; have BK202 := n1_; have GW202 := n2_; have GE202 := n3_; clear n0_ n1_ n2_ n3_; clear hb hbox hg) | ((with_reducible refine gate_dst (N := 3) rfl ?_); refine box_event ?hg (N := 3) ?hd (cs := #[.int .i64 a1_0, .int .i64 a1_1, .int .i64 a1_2, .int .i64 a1_3]) (t := 25) ?hr ?_; (case hd => rfl); (case hg => rfl); (case hr => first | (go_simp; done) | (go_simp; rfl)); intro gb203 hg w5 hbox hb; have n0_ := Aside0.mk (blk_below (g := gb202) (o := b4 a0_0 a0_1 a0_2 a0_3 25) (bz BK202.out) hb); have n1_ := Aside0.mk (below_step (hz1 HB.out GE202.out) hb); have n2_ := Aside0.mk (hbox); have n3_ := Aside0.mk ((by rw [hg]; exact (below_size (hz1 HB.out GE202.out)) : w.heap.size ≤ gb203)); have n4_ := Aside0.mk ((by rw [hg]; exact (below_size (hz1 HB.out GE202.out)) : w.heap.size ≤ gb203)); have n5_ := Aside0.mk ((by rw [hg]; exact Nat.ne_of_lt (blk_lt (g := gb202) (o := b4 a0_0 a0_1 a0_2 a0_3 25) (bz BK202.out)) : gb202 ≠ gb203)); have n6_ := Aside0.mk ((by rw [hg]; exact Nat.ne_of_gt (blk_lt (g := gb202) (o := b4 a0_0 a0_1 a0_2 a0_3 25) (bz BK202.out)) : gb203 ≠ gb202)); clear BK202; clear HB; have BK202 := n0_; have HB := n1_; have BK203 := n2_; have GW203 := n3_; have GE203 := n4_; have NB202_203 := n5_; have NB203_202 := n6_; clear n0_ n1_ n2_ n3_ n4_ n5_ n6_; clear hb hbox hg) | ((with_reducible refine gate_dst (N := 4) rfl ?_); refine box_event ?hg (N := 4) ?hd (cs := #[.int .i64 0, .int .i64 0, .int .i64 0, .int .i64 0]) (t := 25) ?hr ?_; (case hd => rfl); (case hg => rfl); (case hr => first | (go_simp; done) | (go_simp; rfl)); intro gb204 hg w6 hbox hb; have n0_ := Aside0.mk (blk_below (g := gb202) (o := b4 a0_0 a0_1 a0_2 a0_3 25) (bz BK202.out) hb); have n1_ := Aside0.mk (blk_below (g := gb203) (o := b4 a1_0 a1_1 a1_2 a1_3 25) (bz BK203.out) hb); have n2_ := Aside0.mk (below_step (hz2 HB.out GE202.out GE203.out) hb); have n3_ := Aside0.mk (hbox); have n4_ := Aside0.mk ((by rw [hg]; exact (below_size (hz2 HB.out GE202.out GE203.out)) : w.heap.size ≤ gb204)); have n5_ := Aside0.mk ((by rw [hg]; exact (below_size (hz2 HB.out GE202.out GE203.out)) : w.heap.size ≤ gb204)); have n6_ := Aside0.mk ((by rw [hg]; exact Nat.ne_of_lt (blk_lt (g := gb202) (o := b4 a0_0 a0_1 a0_2 a0_3 25) (bz BK202.out)) : gb202 ≠ gb204)); have n7_ := Aside0.mk ((by rw [hg]; exact Nat.ne_of_gt (blk_lt (g := gb202) (o := b4 a0_0 a0_1 a0_2 a0_3 25) (bz BK202.out)) : gb204 ≠ gb202)); have n8_ := Aside0.mk ((by rw [hg]; exact Nat.ne_of_lt (blk_lt (g := gb203) (o := b4 a1_0 a1_1 a1_2 a1_3 25) (bz BK203.out)) : gb203 ≠ gb204)); have n9_ := Aside0.mk ((by rw [hg]; exact Nat.ne_of_gt (blk_lt (g := gb203) (o := b4 a1_0 a1_1 a1_2 a1_3 25) (bz BK203.out)) : gb204 ≠ gb203)); clear BK202; clear BK203; clear HB; have BK202 := n0_; have BK203 := n1_; have HB := n2_; have BK204 := n3_; have GW204 := n4_; have GE204 := n5_; have NB202_204 := n6_; have NB204_202 := n7_; have NB203_204 := n8_; have NB204_203 := n9_; clear n0_ n1_ n2_ n3_ n4_ n5_ n6_ n7_ n8_ n9_; clear hb hbox hg))
 (try simp only [Act.put, List.setIfInBounds_toArray, List.set_cons_zero, List.set_cons_succ])
 go_cut [12] (fun v12 wc => ∃ (kq : Nat) (x12_2 : Bool), v12 = .bool x12_2 ∧ Aside0 (spec_ValJoin.j0 kq x12_2 a0_0 a0_1 a0_2 a0_3 a1_0 a1_1 a1_2 a1_3 = some (r1, r2, r3, r4)) ∧ Aside0 (kq ≤ k) ∧ Aside0 (wc.heap[gb202]? = some (.cells #[.int .i64 a0_0, .int .i64 a0_1, .int .i64 a0_2, .int .i64 a0_3] 25 (0, 0))) ∧ Aside0 (wc.heap[gb203]? = some (.cells #[.int .i64 a1_0, .int .i64 a1_1, .int .i64 a1_2, .int .i64 a1_3] 25 (0, 0))) ∧ Aside0 (wc.heap[gb204]? = some (.cells #[.int .i64 0, .int .i64 0, .int .i64 0, .int .i64 0] 25 (0, 0))) ∧ Aside0 (Below w.heap.size w wc))
 case first =>
  have H := HC3.out
  clear HC3
  replace H := Option.bind_eq_some_iff.mp H
  obtain ⟨t205, A70, H⟩ := H
  replace H : (if t205 = true then ((spec_ValOk.f k a1_0 a1_1 a1_2 a1_3).bind fun t206 => (spec_ValJoin.j0 k (!t206) a0_0 a0_1 a0_2 a0_3 a1_0 a1_1 a1_2 a1_3)) else (spec_ValJoin.j0 k true a0_0 a0_1 a0_2 a0_3 a1_0 a1_1 a1_2 a1_3)) = some (r1, r2, r3, r4) := H
  have A7 := Aside0.mk A70
  clear A70
  by_cases c8 : t205 = true
  ·subst c8
   have H1 : ((spec_ValOk.f k a1_0 a1_1 a1_2 a1_3).bind fun t206 => (spec_ValJoin.j0 k (!t206) a0_0 a0_1 a0_2 a0_3 a1_0 a1_1 a1_2 a1_3)) = some (r1, r2, r3, r4) := by rw [if_pos rfl] at H; exact H
   clear H
   have H := H1
   clear H1
   replace H := Option.bind_eq_some_iff.mp H
   obtain ⟨t206, A90, H⟩ := H
   replace H : (spec_ValJoin.j0 k (!t206) a0_0 a0_1 a0_2 a0_3 a1_0 a1_1 a1_2 a1_3) = some (r1, r2, r3, r4) := H
   have A9 := Aside0.mk A90
   clear A90
   have H' := Aside0.mk H
   clear H
   have hnb10 := NB202_203.out
   have hnc10 := NB203_202.out
   have hnb11 := NB202_204.out
   have hnc11 := NB204_202.out
   have hcz12_0 : w6.cell? ⟨gb202, 0, none⟩ = some (.int .i64 a0_0) := bc BK202 0
   have hcz12_1 : w6.cell? ⟨gb202, 1, none⟩ = some (.int .i64 a0_1) := bc BK202 1
   have hcz12_2 : w6.cell? ⟨gb202, 2, none⟩ = some (.int .i64 a0_2) := bc BK202 2
   have hcz12_3 : w6.cell? ⟨gb202, 3, none⟩ = some (.int .i64 a0_3) := bc BK202 3
   have hfz12_0 := blk_frozen BK202.out 0
   have hfz12_1 := blk_frozen BK202.out 1
   have hfz12_2 := blk_frozen BK202.out 2
   have hfz12_3 := blk_frozen BK202.out 3
   go_wp2_with (first | ((with_reducible refine gate_callee (f := 57) rfl ?_); refine goesL_ (some 6) rfl rfl Try.func57 (by kernel_rfl) rfl #[.agg #[.int .i64 a0_0, .int .i64 a0_1, .int .i64 a0_2, .int .i64 a0_3]] rfl mz ?_; (with_reducible refine (spec_ValOk.calls k a0_0 a0_1 a0_2 a0_3 true _ A7.out).mono ?_); rintro e w13 ⟨rfl, hb⟩; refine ⟨_, rfl, ?_⟩; have n0_ := Aside0.mk (blk_below (g := gb202) (o := b4 a0_0 a0_1 a0_2 a0_3 25) (bz BK202.out) hb); have n1_ := Aside0.mk (blk_below (g := gb203) (o := b4 a1_0 a1_1 a1_2 a1_3 25) (bz BK203.out) hb); have n2_ := Aside0.mk (blk_below (g := gb204) (o := b4 0 0 0 0 25) (bz BK204.out) hb); have n3_ := Aside0.mk (below_step (hz3 HB.out GE202.out GE203.out GE204.out) hb); clear BK202; clear BK203; clear BK204; clear HB; have BK202 := n0_; have BK203 := n1_; have BK204 := n2_; have HB := n3_; clear n0_ n1_ n2_ n3_; (try clear hb); (try clear hb2); (try clear hk); (try clear hi); have hnb14 := NB203_204.out; have hnc14 := NB204_203.out; have hcz15_0 : w13.cell? ⟨gb203, 0, none⟩ = some (.int .i64 a1_0) := bc BK203 0; have hcz15_1 : w13.cell? ⟨gb203, 1, none⟩ = some (.int .i64 a1_1) := bc BK203 1; have hcz15_2 : w13.cell? ⟨gb203, 2, none⟩ = some (.int .i64 a1_2) := bc BK203 2; have hcz15_3 : w13.cell? ⟨gb203, 3, none⟩ = some (.int .i64 a1_3) := bc BK203 3; have hfz15_0 := blk_frozen BK203.out 0; have hfz15_1 := blk_frozen BK203.out 1; have hfz15_2 := blk_frozen BK203.out 2; have hfz15_3 := blk_frozen BK203.out 3) | (go_at_call 57; (with_reducible refine (spec_ValOk.calls k a1_0 a1_1 a1_2 a1_3 t206 _ A9.out).mono ?_); rintro e w16 ⟨rfl, hb⟩; have n0_ := Aside0.mk (blk_below (g := gb202) (o := b4 a0_0 a0_1 a0_2 a0_3 25) (bz BK202.out) hb); have n1_ := Aside0.mk (blk_below (g := gb203) (o := b4 a1_0 a1_1 a1_2 a1_3 25) (bz BK203.out) hb); have n2_ := Aside0.mk (blk_below (g := gb204) (o := b4 0 0 0 0 25) (bz BK204.out) hb); have n3_ := Aside0.mk (below_step (hz3 HB.out GE202.out GE203.out GE204.out) hb); clear BK202; clear BK203; clear BK204; clear HB; have BK202 := n0_; have BK203 := n1_; have BK204 := n2_; have HB := n3_; clear n0_ n1_ n2_ n3_; (try clear hb); (try clear hb2); (try clear hk); (try clear hi)))
   go_meet
   case rel => exact ⟨_, (!t206), (by first | rfl | (simp; done) | (simp [*]; done)), H', ⟨by first | omega | exact Nat.le_refl _⟩, ⟨bz BK202.out⟩, ⟨bz BK203.out⟩, ⟨bz BK204.out⟩, ⟨hz3 HB.out GE202.out GE203.out GE204.out⟩⟩
  ·replace c8 := Bool.eq_false_iff.mpr c8
   subst c8
   have H1 : (spec_ValJoin.j0 k true a0_0 a0_1 a0_2 a0_3 a1_0 a1_1 a1_2 a1_3) = some (r1, r2, r3, r4) := by rw [if_neg (show ¬ (false = true) by decide)] at H; exact H
   clear H
   have H := H1
   clear H1
   have H' := Aside0.mk H
   clear H
   have hnb17 := NB202_203.out
   have hnc17 := NB203_202.out
   have hnb18 := NB202_204.out
   have hnc18 := NB204_202.out
   have hcz19_0 : w6.cell? ⟨gb202, 0, none⟩ = some (.int .i64 a0_0) := bc BK202 0
   have hcz19_1 : w6.cell? ⟨gb202, 1, none⟩ = some (.int .i64 a0_1) := bc BK202 1
   have hcz19_2 : w6.cell? ⟨gb202, 2, none⟩ = some (.int .i64 a0_2) := bc BK202 2
   have hcz19_3 : w6.cell? ⟨gb202, 3, none⟩ = some (.int .i64 a0_3) := bc BK202 3
   have hfz19_0 := blk_frozen BK202.out 0
   have hfz19_1 := blk_frozen BK202.out 1
   have hfz19_2 := blk_frozen BK202.out 2
   have hfz19_3 := blk_frozen BK202.out 3
   go_wp2_with (first | ((with_reducible refine gate_callee (f := 57) rfl ?_); refine goesL_ (some 6) rfl rfl Try.func57 (by kernel_rfl) rfl #[.agg #[.int .i64 a0_0, .int .i64 a0_1, .int .i64 a0_2, .int .i64 a0_3]] rfl mz ?_; (with_reducible refine (spec_ValOk.calls k a0_0 a0_1 a0_2 a0_3 false _ A7.out).mono ?_); rintro e w20 ⟨rfl, hb⟩; refine ⟨_, rfl, ?_⟩; have n0_ := Aside0.mk (blk_below (g := gb202) (o := b4 a0_0 a0_1 a0_2 a0_3 25) (bz BK202.out) hb); have n1_ := Aside0.mk (blk_below (g := gb203) (o := b4 a1_0 a1_1 a1_2 a1_3 25) (bz BK203.out) hb); have n2_ := Aside0.mk (blk_below (g := gb204) (o := b4 0 0 0 0 25) (bz BK204.out) hb); have n3_ := Aside0.mk (below_step (hz3 HB.out GE202.out GE203.out GE204.out) hb); clear BK202; clear BK203; clear BK204; clear HB; have BK202 := n0_; have BK203 := n1_; have BK204 := n2_; have HB := n3_; clear n0_ n1_ n2_ n3_; (try clear hb); (try clear hb2); (try clear hk); (try clear hi)))
   go_meet
   case rel => exact ⟨_, (true), (by first | rfl | (simp; done) | (simp [*]; done)), H', ⟨by first | omega | exact Nat.le_refl _⟩, ⟨bz BK202.out⟩, ⟨bz BK203.out⟩, ⟨bz BK204.out⟩, ⟨hz3 HB.out GE202.out GE203.out GE204.out⟩⟩
 case rest =>
  clear HC3
  try clear c1
  try clear c2
  try clear p2
  try clear c5
  try clear c8
  try clear c10
  try clear c11
  try clear c14
  try clear c17
  try clear c18
  try clear c20
  try clear hcz12_0
  try clear hcz12_1
  try clear hcz12_2
  try clear hcz12_3
  try clear hcz15_0
  try clear hcz15_1
  try clear hcz15_2
  try clear hcz15_3
  try clear hcz19_0
  try clear hcz19_1
  try clear hcz19_2
  try clear hcz19_3
  try clear hfz12_0
  try clear hfz12_1
  try clear hfz12_2
  try clear hfz12_3
  try clear hfz15_0
  try clear hfz15_1
  try clear hfz15_2
  try clear hfz15_3
  try clear hfz19_0
  try clear hfz19_1
  try clear hfz19_2
  try clear hfz19_3
  obtain ⟨kq, x12_2, rfl, HA, HJ2, BK202, BK203, BK204, HB⟩ := hcut
  cases kq with
  | zero => exact absurd HA.out (by simp [spec_ValJoin.j0])
  | succ kj2 =>
   have H := HA.out
   clear HA
   simp only [spec_ValJoin.j0] at H
   by_cases c21 : x12_2 = true
   ·subst c21
    have H1 : ((spec_l10None.f).bind fun bt207 => (some (bt207.1, bt207.2.1, bt207.2.2.1, bt207.2.2.2))) = some (r1, r2, r3, r4) := by rw [if_pos rfl] at H; exact H
    clear H
    have H := H1
    clear H1
    replace H := Option.bind_eq_some_iff.mp H
    obtain ⟨⟨t207, t208, t209, t210⟩, A220, H⟩ := H
    replace H : (some (t207, t208, t209, t210)) = some (r1, r2, r3, r4) := H
    have A22 := Aside0.mk A220
    clear A220
    simp only [Option.some.injEq, Prod.mk.injEq] at H
    obtain ⟨rfl, rfl, rfl, rfl⟩ := H
    go_wp2_with (first | ((with_reducible refine gate_callee (f := 58) rfl ?_); refine goesL_ (some 13) rfl rfl Try.func58 (by kernel_rfl) rfl #[] rfl mz ?_; (with_reducible refine (spec_l10None.calls  t207 t208 t209 t210 _ A22.out).mono ?_); rintro e w23 ⟨rfl, hb⟩; refine ⟨_, rfl, ?_⟩; have n0_ := Aside0.mk (blk_below (g := gb202) (o := b4 a0_0 a0_1 a0_2 a0_3 25) (bz BK202.out) hb); have n1_ := Aside0.mk (blk_below (g := gb203) (o := b4 a1_0 a1_1 a1_2 a1_3 25) (bz BK203.out) hb); have n2_ := Aside0.mk (blk_below (g := gb204) (o := b4 0 0 0 0 25) (bz BK204.out) hb); have n3_ := Aside0.mk (below_step (hz3 HB.out GE202.out GE203.out GE204.out) hb); clear BK202; clear BK203; clear BK204; clear HB; have BK202 := n0_; have BK203 := n1_; have BK204 := n2_; have HB := n3_; clear n0_ n1_ n2_ n3_; (try clear hb); (try clear hb2); (try clear hk); (try clear hi); have hnb24 := NB204_202.out; have hnc24 := NB202_204.out; have hnb25 := NB204_203.out; have hnc25 := NB203_204.out; have hcz26_0 : w23.cell? ⟨gb204, 0, none⟩ = some (.int .i64 0) := bc BK204 0; have hcz26_1 : w23.cell? ⟨gb204, 1, none⟩ = some (.int .i64 0) := bc BK204 1; have hcz26_2 : w23.cell? ⟨gb204, 2, none⟩ = some (.int .i64 0) := bc BK204 2; have hcz26_3 : w23.cell? ⟨gb204, 3, none⟩ = some (.int .i64 0) := bc BK204 3; have hfz26_0 := blk_frozen BK204.out 0; have hfz26_1 := blk_frozen BK204.out 1; have hfz26_2 := blk_frozen BK204.out 2; have hfz26_3 := blk_frozen BK204.out 3))
    refine bodyPost_ret (results_cell_row rfl _ _ gb204 25 #[.int .i64 t207, .int .i64 t208, .int .i64 t209, .int .i64 t210] (0, 0) _ rfl (by (with_reducible repeat (first | refine blk_drewN ?_ _ | refine blk_drew ?_ | refine blk_alloc ?_ _)); refine blk_put (cs := #[.int .i64 t207, .int .i64 t208, .int .i64 t209, .int .i64 0]) ?_ 3 _ rfl; (with_reducible repeat (first | refine blk_drewN ?_ _ | refine blk_drew ?_ | refine blk_alloc ?_ _)); refine blk_put (cs := #[.int .i64 t207, .int .i64 t208, .int .i64 0, .int .i64 0]) ?_ 2 _ rfl; (with_reducible repeat (first | refine blk_drewN ?_ _ | refine blk_drew ?_ | refine blk_alloc ?_ _)); refine blk_put (cs := #[.int .i64 t207, .int .i64 0, .int .i64 0, .int .i64 0]) ?_ 1 _ rfl; (with_reducible repeat (first | refine blk_drewN ?_ _ | refine blk_drew ?_ | refine blk_alloc ?_ _)); refine blk_put (cs := #[.int .i64 0, .int .i64 0, .int .i64 0, .int .i64 0]) ?_ 0 _ rfl; (with_reducible repeat (first | refine blk_drewN ?_ _ | refine blk_drew ?_ | refine blk_alloc ?_ _)); exact BK204.out) Try.underlying25 rfl (by kernel_rfl)) rfl ?_
    exact ⟨by first | rfl | (simp [errW_none, errW_some] <;> rfl) | (simp [*, errW_none, errW_some] <;> rfl), hz3 HB.out GE202.out GE203.out GE204.out⟩
   ·replace c21 := Bool.eq_false_iff.mpr c21
    subst c21
    have H1 : ((spec_l10None.f).bind fun bt211 => (if (a0_0 == bt211.1 && (a0_1 == bt211.2.1 && (a0_2 == bt211.2.2.1 && (a0_3 == bt211.2.2.2)))) = true then (some (a1_0, a1_1, a1_2, a1_3)) else ((spec_l10None.f).bind fun bt215 => (if (a1_0 == bt215.1 && (a1_1 == bt215.2.1 && (a1_2 == bt215.2.2.1 && (a1_3 == bt215.2.2.2)))) = true then (some (a0_0, a0_1, a0_2, a0_3)) else ((spec_l10Range.f a0_0 a0_1 a0_2 a0_3).bind fun bt219 => ((spec_l10Range.f a1_0 a1_1 a1_2 a1_3).bind fun bt221 => ((spec_RangeJoin.f kj2 bt219.1 bt219.2 bt221.1 bt221.2).bind fun bt223 => ((spec_l10Rest.f a0_0 a0_1 a0_2 a0_3).bind fun bt225 => ((spec_l10Rest.f a1_0 a1_1 a1_2 a1_3).bind fun bt227 => ((spec_RestJoin.f kj2 bt225.1 bt225.2 bt227.1 bt227.2).bind fun bt229 => ((spec_ValMake.f kj2 bt223.1 bt223.2 bt229.1 bt229.2).bind fun bt231 => (some (bt231.1, bt231.2.1, bt231.2.2.1, bt231.2.2.2))))))))))))) = some (r1, r2, r3, r4) := by rw [if_neg (show ¬ (false = true) by decide)] at H; exact H
    clear H
    have H := H1
    clear H1
    replace H := Option.bind_eq_some_iff.mp H
    obtain ⟨⟨t211, t212, t213, t214⟩, A270, H⟩ := H
    replace H : (if (a0_0 == t211 && (a0_1 == t212 && (a0_2 == t213 && (a0_3 == t214)))) = true then (some (a1_0, a1_1, a1_2, a1_3)) else ((spec_l10None.f).bind fun bt215 => (if (a1_0 == bt215.1 && (a1_1 == bt215.2.1 && (a1_2 == bt215.2.2.1 && (a1_3 == bt215.2.2.2)))) = true then (some (a0_0, a0_1, a0_2, a0_3)) else ((spec_l10Range.f a0_0 a0_1 a0_2 a0_3).bind fun bt219 => ((spec_l10Range.f a1_0 a1_1 a1_2 a1_3).bind fun bt221 => ((spec_RangeJoin.f kj2 bt219.1 bt219.2 bt221.1 bt221.2).bind fun bt223 => ((spec_l10Rest.f a0_0 a0_1 a0_2 a0_3).bind fun bt225 => ((spec_l10Rest.f a1_0 a1_1 a1_2 a1_3).bind fun bt227 => ((spec_RestJoin.f kj2 bt225.1 bt225.2 bt227.1 bt227.2).bind fun bt229 => ((spec_ValMake.f kj2 bt223.1 bt223.2 bt229.1 bt229.2).bind fun bt231 => (some (bt231.1, bt231.2.1, bt231.2.2.1, bt231.2.2.2)))))))))))) = some (r1, r2, r3, r4) := H
    have A27 := Aside0.mk A270
    clear A270
    by_cases c28 : (a0_0 == t211 && (a0_1 == t212 && (a0_2 == t213 && (a0_3 == t214)))) = true
    ·rw [if_pos c28] at H
     have c28b0 : (a0_0 == t211 && (a0_1 == t212 && (a0_2 == t213 && (a0_3 == t214)))) = true := c28
     (try (have c28b1 : decide (a0_0 = t211 && (a0_1 == t212 && (a0_2 == t213 && (a0_3 == t214)))) = true := by simpa using c28))
     (try (have c28b2 : (a0_0 == t211 && (a0_1 == t212 && (a0_2 == t213 && (a0_3 == t214)))) = true := by simpa using c28))
     clear c28
     simp only [Option.some.injEq, Prod.mk.injEq] at H
     obtain ⟨rfl, rfl, rfl, rfl⟩ := H
     try go_wp2
     have n0_ := Aside0.mk (blk_drew BK202.out)
     have n1_ := Aside0.mk (blk_drew BK203.out)
     have n2_ := Aside0.mk (blk_drew BK204.out)
     have n3_ := Aside0.mk (below_drew1 HB.out)
     clear BK202
     clear BK203
     clear BK204
     clear HB
     have BK202 := n0_
     have BK203 := n1_
     have BK204 := n2_
     have HB := n3_
     clear n0_ n1_ n2_ n3_
     refine start_ (n := 3) (S := fun w' => w'.cell? ⟨gb202, 0, none⟩ = some (.int .i64 a0_0) ∧ w'.cell? ⟨gb202, 1, none⟩ = some (.int .i64 a0_1) ∧ w'.cell? ⟨gb202, 2, none⟩ = some (.int .i64 a0_2) ∧ w'.cell? ⟨gb202, 3, none⟩ = some (.int .i64 a0_3)) (ds := []) #[F, F, F] (by kernel_rfl) rfl rfl ⟨bc BK202 0, bc BK202 1, bc BK202 2, bc BK202 3⟩ (fun hHeld => ?_)
     generalize wc.drew = w29 at BK202 BK203 BK204 HB hHeld ⊢
     refine take_ (i := 0) (N := some 14) (v := ?_) (a' := ?_) #[T, F, F] rfl rfl (by kernel_rfl) (fun _ _ _ h => h) (Or.inl ⟨by rfl, ?_⟩) hHeld ?_ ?_
     rotate_left
     ·rintro w' ⟨s0, s1, s2, s3⟩
      go_simp
      with_reducible rfl
     rotate_left
     ·exact pz
     refine one_ (i := 1) (N := some 15) #[T, T, F] rfl rfl (by kernel_rfl) (by decide) (fun K hK => ?_)
     refine goes_ Try.func58 (by kernel_rfl) rfl #[] (by rfl) rfl rfl mz ?_
     with_reducible refine (spec_l10None.calls  t211 t212 t213 t214 _ A27.out).mono ?_
     rintro e w30 ⟨rfl, hb⟩
     refine ⟨_, rfl, ?_⟩
     have n0_ := Aside0.mk (blk_below (g := gb202) (o := b4 a0_0 a0_1 a0_2 a0_3 25) (bz BK202.out) hb)
     have n1_ := Aside0.mk (blk_below (g := gb203) (o := b4 a1_0 a1_1 a1_2 a1_3 25) (bz BK203.out) hb)
     have n2_ := Aside0.mk (blk_below (g := gb204) (o := b4 0 0 0 0 25) (bz BK204.out) hb)
     have n3_ := Aside0.mk (below_step (hz3 HB.out GE202.out GE203.out GE204.out) hb)
     clear BK202
     clear BK203
     clear BK204
     clear HB
     have BK202 := n0_
     have BK203 := n1_
     have BK204 := n2_
     have HB := n3_
     clear n0_ n1_ n2_ n3_
     (try clear hb)
     (try clear hb2)
     (try clear hk)
     (try clear hi)
     refine hK.out _ _ ⟨bc BK202 0, bc BK202 1, bc BK202 2, bc BK202 3⟩ (fun hHeld => ?_)
     clear hK K
     refine norm_ (a' := ?_) ?_ ?_
     rotate_left
     ·show Act.put _ (some 15) _ = _
      simp only [Act.put, List.setIfInBounds_toArray, List.set_cons_zero, List.set_cons_succ, i64_w, i32_w]
      rfl
     refine pure_ (i := 2) (N := some 16) (v := ?_) (a' := ?_) #[T, T, T] rfl rfl (by kernel_rfl) (fun _ _ _ h => h) (Or.inl ⟨by rfl, ?_⟩) ?_ ?_
     rotate_left
     ·exact gz
     rotate_left
     ·exact pz
     refine done_ (by kernel_rfl) ?_
     have hnb31 := NB203_202.out
     have hnc31 := NB202_203.out
     have hnb32 := NB203_204.out
     have hnc32 := NB204_203.out
     have hcz33_0 : w30.cell? ⟨gb203, 0, none⟩ = some (.int .i64 a1_0) := bc BK203 0
     have hcz33_1 : w30.cell? ⟨gb203, 1, none⟩ = some (.int .i64 a1_1) := bc BK203 1
     have hcz33_2 : w30.cell? ⟨gb203, 2, none⟩ = some (.int .i64 a1_2) := bc BK203 2
     have hcz33_3 : w30.cell? ⟨gb203, 3, none⟩ = some (.int .i64 a1_3) := bc BK203 3
     have hfz33_0 := blk_frozen BK203.out 0
     have hfz33_1 := blk_frozen BK203.out 1
     have hfz33_2 := blk_frozen BK203.out 2
     have hfz33_3 := blk_frozen BK203.out 3
     have hnb34 := NB204_202.out
     have hnc34 := NB202_204.out
     have hcz35_0 : w30.cell? ⟨gb204, 0, none⟩ = some (.int .i64 0) := bc BK204 0
     have hcz35_1 : w30.cell? ⟨gb204, 1, none⟩ = some (.int .i64 0) := bc BK204 1
     have hcz35_2 : w30.cell? ⟨gb204, 2, none⟩ = some (.int .i64 0) := bc BK204 2
     have hcz35_3 : w30.cell? ⟨gb204, 3, none⟩ = some (.int .i64 0) := bc BK204 3
     have hfz35_0 := blk_frozen BK204.out 0
     have hfz35_1 := blk_frozen BK204.out 1
     have hfz35_2 := blk_frozen BK204.out 2
     have hfz35_3 := blk_frozen BK204.out 3
     try go_wp2
     refine bodyPost_ret (results_cell_row rfl _ _ gb204 25 #[.int .i64 a1_0, .int .i64 a1_1, .int .i64 a1_2, .int .i64 a1_3] (0, 0) _ rfl (by (with_reducible repeat (first | refine blk_drewN ?_ _ | refine blk_drew ?_ | refine blk_alloc ?_ _)); refine blk_put (cs := #[.int .i64 a1_0, .int .i64 a1_1, .int .i64 a1_2, .int .i64 0]) ?_ 3 _ rfl; (with_reducible repeat (first | refine blk_drewN ?_ _ | refine blk_drew ?_ | refine blk_alloc ?_ _)); refine blk_put (cs := #[.int .i64 a1_0, .int .i64 a1_1, .int .i64 0, .int .i64 0]) ?_ 2 _ rfl; (with_reducible repeat (first | refine blk_drewN ?_ _ | refine blk_drew ?_ | refine blk_alloc ?_ _)); refine blk_put (cs := #[.int .i64 a1_0, .int .i64 0, .int .i64 0, .int .i64 0]) ?_ 1 _ rfl; (with_reducible repeat (first | refine blk_drewN ?_ _ | refine blk_drew ?_ | refine blk_alloc ?_ _)); refine blk_put (cs := #[.int .i64 0, .int .i64 0, .int .i64 0, .int .i64 0]) ?_ 0 _ rfl; (with_reducible repeat (first | refine blk_drewN ?_ _ | refine blk_drew ?_ | refine blk_alloc ?_ _)); exact BK204.out) Try.underlying25 rfl (by kernel_rfl)) rfl ?_
     exact ⟨by first | rfl | (simp [errW_none, errW_some] <;> rfl) | (simp [*, errW_none, errW_some] <;> rfl), hz3 HB.out GE202.out GE203.out GE204.out⟩
    ·rw [if_neg c28] at H
     have c28b0 : (a0_0 == t211 && (a0_1 == t212 && (a0_2 == t213 && (a0_3 == t214)))) = false := by simpa using c28
     (try (have c28b1 : decide (a0_0 = t211 && (a0_1 == t212 && (a0_2 == t213 && (a0_3 == t214)))) = false := by simpa using c28))
     (try (have c28b2 : (a0_0 == t211 && (a0_1 == t212 && (a0_2 == t213 && (a0_3 == t214)))) = false := by simpa using c28))
     (try (have c28b3 : ¬ (a0_0 = t211 && (a0_1 == t212 && (a0_2 == t213 && (a0_3 == t214)))) := by simpa using c28))
     clear c28
     replace H := Option.bind_eq_some_iff.mp H
     obtain ⟨⟨t215, t216, t217, t218⟩, A360, H⟩ := H
     replace H : (if (a1_0 == t215 && (a1_1 == t216 && (a1_2 == t217 && (a1_3 == t218)))) = true then (some (a0_0, a0_1, a0_2, a0_3)) else ((spec_l10Range.f a0_0 a0_1 a0_2 a0_3).bind fun bt219 => ((spec_l10Range.f a1_0 a1_1 a1_2 a1_3).bind fun bt221 => ((spec_RangeJoin.f kj2 bt219.1 bt219.2 bt221.1 bt221.2).bind fun bt223 => ((spec_l10Rest.f a0_0 a0_1 a0_2 a0_3).bind fun bt225 => ((spec_l10Rest.f a1_0 a1_1 a1_2 a1_3).bind fun bt227 => ((spec_RestJoin.f kj2 bt225.1 bt225.2 bt227.1 bt227.2).bind fun bt229 => ((spec_ValMake.f kj2 bt223.1 bt223.2 bt229.1 bt229.2).bind fun bt231 => (some (bt231.1, bt231.2.1, bt231.2.2.1, bt231.2.2.2)))))))))) = some (r1, r2, r3, r4) := H
     have A36 := Aside0.mk A360
     clear A360
     by_cases c37 : (a1_0 == t215 && (a1_1 == t216 && (a1_2 == t217 && (a1_3 == t218)))) = true
     ·rw [if_pos c37] at H
      have c37b0 : (a1_0 == t215 && (a1_1 == t216 && (a1_2 == t217 && (a1_3 == t218)))) = true := c37
      (try (have c37b1 : decide (a1_0 = t215 && (a1_1 == t216 && (a1_2 == t217 && (a1_3 == t218)))) = true := by simpa using c37))
      (try (have c37b2 : (a1_0 == t215 && (a1_1 == t216 && (a1_2 == t217 && (a1_3 == t218)))) = true := by simpa using c37))
      clear c37
      simp only [Option.some.injEq, Prod.mk.injEq] at H
      obtain ⟨rfl, rfl, rfl, rfl⟩ := H
      try go_wp2
      have n0_ := Aside0.mk (blk_drew BK202.out)
      have n1_ := Aside0.mk (blk_drew BK203.out)
      have n2_ := Aside0.mk (blk_drew BK204.out)
      have n3_ := Aside0.mk (below_drew1 HB.out)
      clear BK202
      clear BK203
      clear BK204
      clear HB
      have BK202 := n0_
      have BK203 := n1_
      have BK204 := n2_
      have HB := n3_
      clear n0_ n1_ n2_ n3_
      refine start_ (n := 3) (S := fun w' => w'.cell? ⟨gb202, 0, none⟩ = some (.int .i64 a0_0) ∧ w'.cell? ⟨gb202, 1, none⟩ = some (.int .i64 a0_1) ∧ w'.cell? ⟨gb202, 2, none⟩ = some (.int .i64 a0_2) ∧ w'.cell? ⟨gb202, 3, none⟩ = some (.int .i64 a0_3)) (ds := []) #[F, F, F] (by kernel_rfl) rfl rfl ⟨bc BK202 0, bc BK202 1, bc BK202 2, bc BK202 3⟩ (fun hHeld => ?_)
      generalize wc.drew = w38 at BK202 BK203 BK204 HB hHeld ⊢
      refine take_ (i := 0) (N := some 14) (v := ?_) (a' := ?_) #[T, F, F] rfl rfl (by kernel_rfl) (fun _ _ _ h => h) (Or.inl ⟨by rfl, ?_⟩) hHeld ?_ ?_
      rotate_left
      ·rintro w' ⟨s0, s1, s2, s3⟩
       go_simp
       with_reducible rfl
      rotate_left
      ·exact pz
      refine one_ (i := 1) (N := some 15) #[T, T, F] rfl rfl (by kernel_rfl) (by decide) (fun K hK => ?_)
      refine goes_ Try.func58 (by kernel_rfl) rfl #[] (by rfl) rfl rfl mz ?_
      with_reducible refine (spec_l10None.calls  t211 t212 t213 t214 _ A27.out).mono ?_
      rintro e w39 ⟨rfl, hb⟩
      refine ⟨_, rfl, ?_⟩
      have n0_ := Aside0.mk (blk_below (g := gb202) (o := b4 a0_0 a0_1 a0_2 a0_3 25) (bz BK202.out) hb)
      have n1_ := Aside0.mk (blk_below (g := gb203) (o := b4 a1_0 a1_1 a1_2 a1_3 25) (bz BK203.out) hb)
      have n2_ := Aside0.mk (blk_below (g := gb204) (o := b4 0 0 0 0 25) (bz BK204.out) hb)
      have n3_ := Aside0.mk (below_step (hz3 HB.out GE202.out GE203.out GE204.out) hb)
      clear BK202
      clear BK203
      clear BK204
      clear HB
      have BK202 := n0_
      have BK203 := n1_
      have BK204 := n2_
      have HB := n3_
      clear n0_ n1_ n2_ n3_
      (try clear hb)
      (try clear hb2)
      (try clear hk)
      (try clear hi)
      refine hK.out _ _ ⟨bc BK202 0, bc BK202 1, bc BK202 2, bc BK202 3⟩ (fun hHeld => ?_)
      clear hK K
      refine norm_ (a' := ?_) ?_ ?_
      rotate_left
      ·show Act.put _ (some 15) _ = _
       simp only [Act.put, List.setIfInBounds_toArray, List.set_cons_zero, List.set_cons_succ, i64_w, i32_w]
       rfl
      refine pure_ (i := 2) (N := some 16) (v := ?_) (a' := ?_) #[T, T, T] rfl rfl (by kernel_rfl) (fun _ _ _ h => h) (Or.inl ⟨by rfl, ?_⟩) ?_ ?_
      rotate_left
      ·exact gz
      rotate_left
      ·exact pz
      refine done_ (by kernel_rfl) ?_
      try go_wp2
      have n0_ := Aside0.mk (blk_drew BK202.out)
      have n1_ := Aside0.mk (blk_drew BK203.out)
      have n2_ := Aside0.mk (blk_drew BK204.out)
      have n3_ := Aside0.mk (below_drew1 HB.out)
      clear BK202
      clear BK203
      clear BK204
      clear HB
      have BK202 := n0_
      have BK203 := n1_
      have BK204 := n2_
      have HB := n3_
      clear n0_ n1_ n2_ n3_
      refine start_ (n := 3) (S := fun w' => w'.cell? ⟨gb203, 0, none⟩ = some (.int .i64 a1_0) ∧ w'.cell? ⟨gb203, 1, none⟩ = some (.int .i64 a1_1) ∧ w'.cell? ⟨gb203, 2, none⟩ = some (.int .i64 a1_2) ∧ w'.cell? ⟨gb203, 3, none⟩ = some (.int .i64 a1_3)) (ds := []) #[F, F, F] (by kernel_rfl) rfl rfl ⟨bc BK203 0, bc BK203 1, bc BK203 2, bc BK203 3⟩ (fun hHeld => ?_)
      generalize w39.drew = w40 at BK202 BK203 BK204 HB hHeld ⊢
      refine take_ (i := 0) (N := some 18) (v := ?_) (a' := ?_) #[T, F, F] rfl rfl (by kernel_rfl) (fun _ _ _ h => h) (Or.inl ⟨by rfl, ?_⟩) hHeld ?_ ?_
      rotate_left
      ·rintro w' ⟨s0, s1, s2, s3⟩
       go_simp
       with_reducible rfl
      rotate_left
      ·exact pz
      refine one_ (i := 1) (N := some 19) #[T, T, F] rfl rfl (by kernel_rfl) (by decide) (fun K hK => ?_)
      refine goes_ Try.func58 (by kernel_rfl) rfl #[] (by rfl) rfl rfl mz ?_
      with_reducible refine (spec_l10None.calls  t215 t216 t217 t218 _ A36.out).mono ?_
      rintro e w41 ⟨rfl, hb⟩
      refine ⟨_, rfl, ?_⟩
      have n0_ := Aside0.mk (blk_below (g := gb202) (o := b4 a0_0 a0_1 a0_2 a0_3 25) (bz BK202.out) hb)
      have n1_ := Aside0.mk (blk_below (g := gb203) (o := b4 a1_0 a1_1 a1_2 a1_3 25) (bz BK203.out) hb)
      have n2_ := Aside0.mk (blk_below (g := gb204) (o := b4 0 0 0 0 25) (bz BK204.out) hb)
      have n3_ := Aside0.mk (below_step (hz3 HB.out GE202.out GE203.out GE204.out) hb)
      clear BK202
      clear BK203
      clear BK204
      clear HB
      have BK202 := n0_
      have BK203 := n1_
      have BK204 := n2_
      have HB := n3_
      clear n0_ n1_ n2_ n3_
      (try clear hb)
      (try clear hb2)
      (try clear hk)
      (try clear hi)
      refine hK.out _ _ ⟨bc BK203 0, bc BK203 1, bc BK203 2, bc BK203 3⟩ (fun hHeld => ?_)
      clear hK K
      refine norm_ (a' := ?_) ?_ ?_
      rotate_left
      ·show Act.put _ (some 19) _ = _
       simp only [Act.put, List.setIfInBounds_toArray, List.set_cons_zero, List.set_cons_succ, i64_w, i32_w]
       rfl
      refine pure_ (i := 2) (N := some 20) (v := ?_) (a' := ?_) #[T, T, T] rfl rfl (by kernel_rfl) (fun _ _ _ h => h) (Or.inl ⟨by rfl, ?_⟩) ?_ ?_
      rotate_left
      ·exact gz
      rotate_left
      ·exact pz
      refine done_ (by kernel_rfl) ?_
      have hnb42 := NB202_203.out
      have hnc42 := NB203_202.out
      have hnb43 := NB202_204.out
      have hnc43 := NB204_202.out
      have hcz44_0 : w41.cell? ⟨gb202, 0, none⟩ = some (.int .i64 a0_0) := bc BK202 0
      have hcz44_1 : w41.cell? ⟨gb202, 1, none⟩ = some (.int .i64 a0_1) := bc BK202 1
      have hcz44_2 : w41.cell? ⟨gb202, 2, none⟩ = some (.int .i64 a0_2) := bc BK202 2
      have hcz44_3 : w41.cell? ⟨gb202, 3, none⟩ = some (.int .i64 a0_3) := bc BK202 3
      have hfz44_0 := blk_frozen BK202.out 0
      have hfz44_1 := blk_frozen BK202.out 1
      have hfz44_2 := blk_frozen BK202.out 2
      have hfz44_3 := blk_frozen BK202.out 3
      have hnb45 := NB204_203.out
      have hnc45 := NB203_204.out
      have hcz46_0 : w41.cell? ⟨gb204, 0, none⟩ = some (.int .i64 0) := bc BK204 0
      have hcz46_1 : w41.cell? ⟨gb204, 1, none⟩ = some (.int .i64 0) := bc BK204 1
      have hcz46_2 : w41.cell? ⟨gb204, 2, none⟩ = some (.int .i64 0) := bc BK204 2
      have hcz46_3 : w41.cell? ⟨gb204, 3, none⟩ = some (.int .i64 0) := bc BK204 3
      have hfz46_0 := blk_frozen BK204.out 0
      have hfz46_1 := blk_frozen BK204.out 1
      have hfz46_2 := blk_frozen BK204.out 2
      have hfz46_3 := blk_frozen BK204.out 3
      try go_wp2
      refine bodyPost_ret (results_cell_row rfl _ _ gb204 25 #[.int .i64 a0_0, .int .i64 a0_1, .int .i64 a0_2, .int .i64 a0_3] (0, 0) _ rfl (by (with_reducible repeat (first | refine blk_drewN ?_ _ | refine blk_drew ?_ | refine blk_alloc ?_ _)); refine blk_put (cs := #[.int .i64 a0_0, .int .i64 a0_1, .int .i64 a0_2, .int .i64 0]) ?_ 3 _ rfl; (with_reducible repeat (first | refine blk_drewN ?_ _ | refine blk_drew ?_ | refine blk_alloc ?_ _)); refine blk_put (cs := #[.int .i64 a0_0, .int .i64 a0_1, .int .i64 0, .int .i64 0]) ?_ 2 _ rfl; (with_reducible repeat (first | refine blk_drewN ?_ _ | refine blk_drew ?_ | refine blk_alloc ?_ _)); refine blk_put (cs := #[.int .i64 a0_0, .int .i64 0, .int .i64 0, .int .i64 0]) ?_ 1 _ rfl; (with_reducible repeat (first | refine blk_drewN ?_ _ | refine blk_drew ?_ | refine blk_alloc ?_ _)); refine blk_put (cs := #[.int .i64 0, .int .i64 0, .int .i64 0, .int .i64 0]) ?_ 0 _ rfl; (with_reducible repeat (first | refine blk_drewN ?_ _ | refine blk_drew ?_ | refine blk_alloc ?_ _)); exact BK204.out) Try.underlying25 rfl (by kernel_rfl)) rfl ?_
      exact ⟨by first | rfl | (simp [errW_none, errW_some] <;> rfl) | (simp [*, errW_none, errW_some] <;> rfl), hz3 HB.out GE202.out GE203.out GE204.out⟩
     ·rw [if_neg c37] at H
      have c37b0 : (a1_0 == t215 && (a1_1 == t216 && (a1_2 == t217 && (a1_3 == t218)))) = false := by simpa using c37
      (try (have c37b1 : decide (a1_0 = t215 && (a1_1 == t216 && (a1_2 == t217 && (a1_3 == t218)))) = false := by simpa using c37))
      (try (have c37b2 : (a1_0 == t215 && (a1_1 == t216 && (a1_2 == t217 && (a1_3 == t218)))) = false := by simpa using c37))
      (try (have c37b3 : ¬ (a1_0 = t215 && (a1_1 == t216 && (a1_2 == t217 && (a1_3 == t218)))) := by simpa using c37))
      clear c37
      replace H := Option.bind_eq_some_iff.mp H
      obtain ⟨⟨t219, t220⟩, A470, H⟩ := H
      replace H : ((spec_l10Range.f a1_0 a1_1 a1_2 a1_3).bind fun bt221 => ((spec_RangeJoin.f kj2 t219 t220 bt221.1 bt221.2).bind fun bt223 => ((spec_l10Rest.f a0_0 a0_1 a0_2 a0_3).bind fun bt225 => ((spec_l10Rest.f a1_0 a1_1 a1_2 a1_3).bind fun bt227 => ((spec_RestJoin.f kj2 bt225.1 bt225.2 bt227.1 bt227.2).bind fun bt229 => ((spec_ValMake.f kj2 bt223.1 bt223.2 bt229.1 bt229.2).bind fun bt231 => (some (bt231.1, bt231.2.1, bt231.2.2.1, bt231.2.2.2)))))))) = some (r1, r2, r3, r4) := H
      have A47 := Aside0.mk A470
      clear A470
      replace H := Option.bind_eq_some_iff.mp H
      obtain ⟨⟨t221, t222⟩, A480, H⟩ := H
      replace H : ((spec_RangeJoin.f kj2 t219 t220 t221 t222).bind fun bt223 => ((spec_l10Rest.f a0_0 a0_1 a0_2 a0_3).bind fun bt225 => ((spec_l10Rest.f a1_0 a1_1 a1_2 a1_3).bind fun bt227 => ((spec_RestJoin.f kj2 bt225.1 bt225.2 bt227.1 bt227.2).bind fun bt229 => ((spec_ValMake.f kj2 bt223.1 bt223.2 bt229.1 bt229.2).bind fun bt231 => (some (bt231.1, bt231.2.1, bt231.2.2.1, bt231.2.2.2))))))) = some (r1, r2, r3, r4) := H
      have A48 := Aside0.mk A480
      clear A480
      replace H := Option.bind_eq_some_iff.mp H
      obtain ⟨⟨t223, t224⟩, A490, H⟩ := H
      replace H : ((spec_l10Rest.f a0_0 a0_1 a0_2 a0_3).bind fun bt225 => ((spec_l10Rest.f a1_0 a1_1 a1_2 a1_3).bind fun bt227 => ((spec_RestJoin.f kj2 bt225.1 bt225.2 bt227.1 bt227.2).bind fun bt229 => ((spec_ValMake.f kj2 t223 t224 bt229.1 bt229.2).bind fun bt231 => (some (bt231.1, bt231.2.1, bt231.2.2.1, bt231.2.2.2)))))) = some (r1, r2, r3, r4) := H
      have A49 := Aside0.mk A490
      clear A490
      replace H := Option.bind_eq_some_iff.mp H
      obtain ⟨⟨t225, t226⟩, A500, H⟩ := H
      replace H : ((spec_l10Rest.f a1_0 a1_1 a1_2 a1_3).bind fun bt227 => ((spec_RestJoin.f kj2 t225 t226 bt227.1 bt227.2).bind fun bt229 => ((spec_ValMake.f kj2 t223 t224 bt229.1 bt229.2).bind fun bt231 => (some (bt231.1, bt231.2.1, bt231.2.2.1, bt231.2.2.2))))) = some (r1, r2, r3, r4) := H
      have A50 := Aside0.mk A500
      clear A500
      replace H := Option.bind_eq_some_iff.mp H
      obtain ⟨⟨t227, t228⟩, A510, H⟩ := H
      replace H : ((spec_RestJoin.f kj2 t225 t226 t227 t228).bind fun bt229 => ((spec_ValMake.f kj2 t223 t224 bt229.1 bt229.2).bind fun bt231 => (some (bt231.1, bt231.2.1, bt231.2.2.1, bt231.2.2.2)))) = some (r1, r2, r3, r4) := H
      have A51 := Aside0.mk A510
      clear A510
      replace H := Option.bind_eq_some_iff.mp H
      obtain ⟨⟨t229, t230⟩, A520, H⟩ := H
      replace H : ((spec_ValMake.f kj2 t223 t224 t229 t230).bind fun bt231 => (some (bt231.1, bt231.2.1, bt231.2.2.1, bt231.2.2.2))) = some (r1, r2, r3, r4) := H
      have A52 := Aside0.mk A520
      clear A520
      replace H := Option.bind_eq_some_iff.mp H
      obtain ⟨⟨t231, t232, t233, t234⟩, A530, H⟩ := H
      replace H : (some (t231, t232, t233, t234)) = some (r1, r2, r3, r4) := H
      have A53 := Aside0.mk A530
      clear A530
      simp only [Option.some.injEq, Prod.mk.injEq] at H
      obtain ⟨rfl, rfl, rfl, rfl⟩ := H
      try go_wp2
      have n0_ := Aside0.mk (blk_drew BK202.out)
      have n1_ := Aside0.mk (blk_drew BK203.out)
      have n2_ := Aside0.mk (blk_drew BK204.out)
      have n3_ := Aside0.mk (below_drew1 HB.out)
      clear BK202
      clear BK203
      clear BK204
      clear HB
      have BK202 := n0_
      have BK203 := n1_
      have BK204 := n2_
      have HB := n3_
      clear n0_ n1_ n2_ n3_
      refine start_ (n := 3) (S := fun w' => w'.cell? ⟨gb202, 0, none⟩ = some (.int .i64 a0_0) ∧ w'.cell? ⟨gb202, 1, none⟩ = some (.int .i64 a0_1) ∧ w'.cell? ⟨gb202, 2, none⟩ = some (.int .i64 a0_2) ∧ w'.cell? ⟨gb202, 3, none⟩ = some (.int .i64 a0_3)) (ds := []) #[F, F, F] (by kernel_rfl) rfl rfl ⟨bc BK202 0, bc BK202 1, bc BK202 2, bc BK202 3⟩ (fun hHeld => ?_)
      generalize wc.drew = w54 at BK202 BK203 BK204 HB hHeld ⊢
      refine take_ (i := 0) (N := some 14) (v := ?_) (a' := ?_) #[T, F, F] rfl rfl (by kernel_rfl) (fun _ _ _ h => h) (Or.inl ⟨by rfl, ?_⟩) hHeld ?_ ?_
      rotate_left
      ·rintro w' ⟨s0, s1, s2, s3⟩
       go_simp
       with_reducible rfl
      rotate_left
      ·exact pz
      refine one_ (i := 1) (N := some 15) #[T, T, F] rfl rfl (by kernel_rfl) (by decide) (fun K hK => ?_)
      refine goes_ Try.func58 (by kernel_rfl) rfl #[] (by rfl) rfl rfl mz ?_
      with_reducible refine (spec_l10None.calls  t211 t212 t213 t214 _ A27.out).mono ?_
      rintro e w55 ⟨rfl, hb⟩
      refine ⟨_, rfl, ?_⟩
      have n0_ := Aside0.mk (blk_below (g := gb202) (o := b4 a0_0 a0_1 a0_2 a0_3 25) (bz BK202.out) hb)
      have n1_ := Aside0.mk (blk_below (g := gb203) (o := b4 a1_0 a1_1 a1_2 a1_3 25) (bz BK203.out) hb)
      have n2_ := Aside0.mk (blk_below (g := gb204) (o := b4 0 0 0 0 25) (bz BK204.out) hb)
      have n3_ := Aside0.mk (below_step (hz3 HB.out GE202.out GE203.out GE204.out) hb)
      clear BK202
      clear BK203
      clear BK204
      clear HB
      have BK202 := n0_
      have BK203 := n1_
      have BK204 := n2_
      have HB := n3_
      clear n0_ n1_ n2_ n3_
      (try clear hb)
      (try clear hb2)
      (try clear hk)
      (try clear hi)
      refine hK.out _ _ ⟨bc BK202 0, bc BK202 1, bc BK202 2, bc BK202 3⟩ (fun hHeld => ?_)
      clear hK K
      refine norm_ (a' := ?_) ?_ ?_
      rotate_left
      ·show Act.put _ (some 15) _ = _
       simp only [Act.put, List.setIfInBounds_toArray, List.set_cons_zero, List.set_cons_succ, i64_w, i32_w]
       rfl
      refine pure_ (i := 2) (N := some 16) (v := ?_) (a' := ?_) #[T, T, T] rfl rfl (by kernel_rfl) (fun _ _ _ h => h) (Or.inl ⟨by rfl, ?_⟩) ?_ ?_
      rotate_left
      ·exact gz
      rotate_left
      ·exact pz
      refine done_ (by kernel_rfl) ?_
      try go_wp2
      have n0_ := Aside0.mk (blk_drew BK202.out)
      have n1_ := Aside0.mk (blk_drew BK203.out)
      have n2_ := Aside0.mk (blk_drew BK204.out)
      have n3_ := Aside0.mk (below_drew1 HB.out)
      clear BK202
      clear BK203
      clear BK204
      clear HB
      have BK202 := n0_
      have BK203 := n1_
      have BK204 := n2_
      have HB := n3_
      clear n0_ n1_ n2_ n3_
      refine start_ (n := 3) (S := fun w' => w'.cell? ⟨gb203, 0, none⟩ = some (.int .i64 a1_0) ∧ w'.cell? ⟨gb203, 1, none⟩ = some (.int .i64 a1_1) ∧ w'.cell? ⟨gb203, 2, none⟩ = some (.int .i64 a1_2) ∧ w'.cell? ⟨gb203, 3, none⟩ = some (.int .i64 a1_3)) (ds := []) #[F, F, F] (by kernel_rfl) rfl rfl ⟨bc BK203 0, bc BK203 1, bc BK203 2, bc BK203 3⟩ (fun hHeld => ?_)
      generalize w55.drew = w56 at BK202 BK203 BK204 HB hHeld ⊢
      refine take_ (i := 0) (N := some 18) (v := ?_) (a' := ?_) #[T, F, F] rfl rfl (by kernel_rfl) (fun _ _ _ h => h) (Or.inl ⟨by rfl, ?_⟩) hHeld ?_ ?_
      rotate_left
      ·rintro w' ⟨s0, s1, s2, s3⟩
       go_simp
       with_reducible rfl
      rotate_left
      ·exact pz
      refine one_ (i := 1) (N := some 19) #[T, T, F] rfl rfl (by kernel_rfl) (by decide) (fun K hK => ?_)
      refine goes_ Try.func58 (by kernel_rfl) rfl #[] (by rfl) rfl rfl mz ?_
      with_reducible refine (spec_l10None.calls  t215 t216 t217 t218 _ A36.out).mono ?_
      rintro e w57 ⟨rfl, hb⟩
      refine ⟨_, rfl, ?_⟩
      have n0_ := Aside0.mk (blk_below (g := gb202) (o := b4 a0_0 a0_1 a0_2 a0_3 25) (bz BK202.out) hb)
      have n1_ := Aside0.mk (blk_below (g := gb203) (o := b4 a1_0 a1_1 a1_2 a1_3 25) (bz BK203.out) hb)
      have n2_ := Aside0.mk (blk_below (g := gb204) (o := b4 0 0 0 0 25) (bz BK204.out) hb)
      have n3_ := Aside0.mk (below_step (hz3 HB.out GE202.out GE203.out GE204.out) hb)
      clear BK202
      clear BK203
      clear BK204
      clear HB
      have BK202 := n0_
      have BK203 := n1_
      have BK204 := n2_
      have HB := n3_
      clear n0_ n1_ n2_ n3_
      (try clear hb)
      (try clear hb2)
      (try clear hk)
      (try clear hi)
      refine hK.out _ _ ⟨bc BK203 0, bc BK203 1, bc BK203 2, bc BK203 3⟩ (fun hHeld => ?_)
      clear hK K
      refine norm_ (a' := ?_) ?_ ?_
      rotate_left
      ·show Act.put _ (some 19) _ = _
       simp only [Act.put, List.setIfInBounds_toArray, List.set_cons_zero, List.set_cons_succ, i64_w, i32_w]
       rfl
      refine pure_ (i := 2) (N := some 20) (v := ?_) (a' := ?_) #[T, T, T] rfl rfl (by kernel_rfl) (fun _ _ _ h => h) (Or.inl ⟨by rfl, ?_⟩) ?_ ?_
      rotate_left
      ·exact gz
      rotate_left
      ·exact pz
      refine done_ (by kernel_rfl) ?_
      try go_wp2
      have n0_ := Aside0.mk (blk_drew BK202.out)
      have n1_ := Aside0.mk (blk_drew BK203.out)
      have n2_ := Aside0.mk (blk_drew BK204.out)
      have n3_ := Aside0.mk (below_drew1 HB.out)
      clear BK202
      clear BK203
      clear BK204
      clear HB
      have BK202 := n0_
      have BK203 := n1_
      have BK204 := n2_
      have HB := n3_
      clear n0_ n1_ n2_ n3_
      refine start_ (n := 12) (S := fun w' => w'.cell? ⟨gb202, 0, none⟩ = some (.int .i64 a0_0) ∧ w'.cell? ⟨gb202, 1, none⟩ = some (.int .i64 a0_1) ∧ w'.cell? ⟨gb202, 2, none⟩ = some (.int .i64 a0_2) ∧ w'.cell? ⟨gb202, 3, none⟩ = some (.int .i64 a0_3) ∧ w'.cell? ⟨gb203, 0, none⟩ = some (.int .i64 a1_0) ∧ w'.cell? ⟨gb203, 1, none⟩ = some (.int .i64 a1_1) ∧ w'.cell? ⟨gb203, 2, none⟩ = some (.int .i64 a1_2) ∧ w'.cell? ⟨gb203, 3, none⟩ = some (.int .i64 a1_3)) (ds := []) #[F, F, F, F, F, F, F, F, F, F, F, F] (by kernel_rfl) rfl rfl ⟨bc BK202 0, bc BK202 1, bc BK202 2, bc BK202 3, bc BK203 0, bc BK203 1, bc BK203 2, bc BK203 3⟩ (fun hHeld => ?_); refine with_tabW spec_ValJoin.tab7 spec_ValJoin.bits7 (fun HT_ HW_ => ?_)
      generalize w57.drew = w58 at BK202 BK203 BK204 HB hHeld ⊢
      refine take_ (i := 0) (N := some 22) (v := ?_) (a' := ?_) #[T, F, F, F, F, F, F, F, F, F, F, F] rfl rfl (take_ofW HT_.out HW_.out (by kernel_rfl)) (fun _ _ _ h => h) (Or.inl ⟨by rfl, ?_⟩) hHeld ?_ ?_
      rotate_left
      ·rintro w' ⟨s0, s1, s2, s3, s4, s5, s6, s7⟩
       go_simp
       with_reducible rfl
      rotate_left
      ·exact pz
      refine take_ (i := 2) (N := some 24) (v := ?_) (a' := ?_) #[T, F, T, F, F, F, F, F, F, F, F, F] rfl rfl (take_ofW HT_.out HW_.out (by kernel_rfl)) (fun _ _ _ h => h) (Or.inl ⟨by rfl, ?_⟩) hHeld ?_ ?_
      rotate_left
      ·rintro w' ⟨s0, s1, s2, s3, s4, s5, s6, s7⟩
       go_simp
       with_reducible rfl
      rotate_left
      ·exact pz
      refine take_ (i := 5) (N := some 27) (v := ?_) (a' := ?_) #[T, F, T, F, F, T, F, F, F, F, F, F] rfl rfl (take_ofW HT_.out HW_.out (by kernel_rfl)) (fun _ _ _ h => h) (Or.inl ⟨by rfl, ?_⟩) hHeld ?_ ?_
      rotate_left
      ·rintro w' ⟨s0, s1, s2, s3, s4, s5, s6, s7⟩
       go_simp
       with_reducible rfl
      rotate_left
      ·exact pz
      refine take_ (i := 7) (N := some 29) (v := ?_) (a' := ?_) #[T, F, T, F, F, T, F, T, F, F, F, F] rfl rfl (take_ofW HT_.out HW_.out (by kernel_rfl)) (fun _ _ _ h => h) (Or.inl ⟨by rfl, ?_⟩) hHeld ?_ ?_
      rotate_left
      ·rintro w' ⟨s0, s1, s2, s3, s4, s5, s6, s7⟩
       go_simp
       with_reducible rfl
      rotate_left
      ·exact pz
      refine one_ (i := 1) (N := some 23) #[T, T, T, F, F, T, F, T, F, F, F, F] rfl rfl (one_of HT_.out (by kernel_rfl)) (by decide) (fun K hK => ?_)
      refine goes_ Try.func60 (by kernel_rfl) rfl #[.agg #[.int .i64 a0_0, .int .i64 a0_1, .int .i64 a0_2, .int .i64 a0_3]] (by rfl) rfl rfl mz ?_
      with_reducible refine (spec_l10Range.calls a0_0 a0_1 a0_2 a0_3 t219 t220 _ A47.out).mono ?_
      rintro e w59 ⟨rfl, hb⟩
      refine ⟨_, rfl, ?_⟩
      have n0_ := Aside0.mk (blk_below (g := gb202) (o := b4 a0_0 a0_1 a0_2 a0_3 25) (bz BK202.out) hb)
      have n1_ := Aside0.mk (blk_below (g := gb203) (o := b4 a1_0 a1_1 a1_2 a1_3 25) (bz BK203.out) hb)
      have n2_ := Aside0.mk (blk_below (g := gb204) (o := b4 0 0 0 0 25) (bz BK204.out) hb)
      have n3_ := Aside0.mk (below_step (hz3 HB.out GE202.out GE203.out GE204.out) hb)
      clear BK202
      clear BK203
      clear BK204
      clear HB
      have BK202 := n0_
      have BK203 := n1_
      have BK204 := n2_
      have HB := n3_
      clear n0_ n1_ n2_ n3_
      (try clear hb)
      (try clear hb2)
      (try clear hk)
      (try clear hi)
      refine hK.out _ _ ⟨bc BK202 0, bc BK202 1, bc BK202 2, bc BK202 3, bc BK203 0, bc BK203 1, bc BK203 2, bc BK203 3⟩ (fun hHeld => ?_)
      clear hK K
      refine norm_ (a' := ?_) ?_ ?_
      rotate_left
      ·show Act.put _ (some 23) _ = _
       simp only [Act.put, List.setIfInBounds_toArray, List.set_cons_zero, List.set_cons_succ, i64_w, i32_w]
       rfl
      refine one_ (i := 3) (N := some 25) #[T, T, T, T, F, T, F, T, F, F, F, F] rfl rfl (one_of HT_.out (by kernel_rfl)) (by decide) (fun K hK => ?_)
      refine goes_ Try.func60 (by kernel_rfl) rfl #[.agg #[.int .i64 a1_0, .int .i64 a1_1, .int .i64 a1_2, .int .i64 a1_3]] (by rfl) rfl rfl mz ?_
      with_reducible refine (spec_l10Range.calls a1_0 a1_1 a1_2 a1_3 t221 t222 _ A48.out).mono ?_
      rintro e w60 ⟨rfl, hb⟩
      refine ⟨_, rfl, ?_⟩
      have n0_ := Aside0.mk (blk_below (g := gb202) (o := b4 a0_0 a0_1 a0_2 a0_3 25) (bz BK202.out) hb)
      have n1_ := Aside0.mk (blk_below (g := gb203) (o := b4 a1_0 a1_1 a1_2 a1_3 25) (bz BK203.out) hb)
      have n2_ := Aside0.mk (blk_below (g := gb204) (o := b4 0 0 0 0 25) (bz BK204.out) hb)
      have n3_ := Aside0.mk (below_step (hz3 HB.out GE202.out GE203.out GE204.out) hb)
      clear BK202
      clear BK203
      clear BK204
      clear HB
      have BK202 := n0_
      have BK203 := n1_
      have BK204 := n2_
      have HB := n3_
      clear n0_ n1_ n2_ n3_
      (try clear hb)
      (try clear hb2)
      (try clear hk)
      (try clear hi)
      refine hK.out _ _ ⟨bc BK202 0, bc BK202 1, bc BK202 2, bc BK202 3, bc BK203 0, bc BK203 1, bc BK203 2, bc BK203 3⟩ (fun hHeld => ?_)
      clear hK K
      refine norm_ (a' := ?_) ?_ ?_
      rotate_left
      ·show Act.put _ (some 25) _ = _
       simp only [Act.put, List.setIfInBounds_toArray, List.set_cons_zero, List.set_cons_succ, i64_w, i32_w]
       rfl
      refine one_ (i := 4) (N := some 26) #[T, T, T, T, T, T, F, T, F, F, F, F] rfl rfl (one_of HT_.out (by kernel_rfl)) (by decide) (fun K hK => ?_)
      refine goes_ Try.func74 (by kernel_rfl) rfl #[.agg #[.int .i64 t219, .int .i64 t220], .agg #[.int .i64 t221, .int .i64 t222]] (by rfl) rfl rfl mz ?_
      with_reducible refine (spec_RangeJoin.calls kj2 t219 t220 t221 t222 t223 t224 _ A49.out).mono ?_
      rintro e w61 ⟨rfl, hb⟩
      refine ⟨_, rfl, ?_⟩
      have n0_ := Aside0.mk (blk_below (g := gb202) (o := b4 a0_0 a0_1 a0_2 a0_3 25) (bz BK202.out) hb)
      have n1_ := Aside0.mk (blk_below (g := gb203) (o := b4 a1_0 a1_1 a1_2 a1_3 25) (bz BK203.out) hb)
      have n2_ := Aside0.mk (blk_below (g := gb204) (o := b4 0 0 0 0 25) (bz BK204.out) hb)
      have n3_ := Aside0.mk (below_step (hz3 HB.out GE202.out GE203.out GE204.out) hb)
      clear BK202
      clear BK203
      clear BK204
      clear HB
      have BK202 := n0_
      have BK203 := n1_
      have BK204 := n2_
      have HB := n3_
      clear n0_ n1_ n2_ n3_
      (try clear hb)
      (try clear hb2)
      (try clear hk)
      (try clear hi)
      refine hK.out _ _ ⟨bc BK202 0, bc BK202 1, bc BK202 2, bc BK202 3, bc BK203 0, bc BK203 1, bc BK203 2, bc BK203 3⟩ (fun hHeld => ?_)
      clear hK K
      refine norm_ (a' := ?_) ?_ ?_
      rotate_left
      ·show Act.put _ (some 26) _ = _
       simp only [Act.put, List.setIfInBounds_toArray, List.set_cons_zero, List.set_cons_succ, i64_w, i32_w]
       rfl
      refine one_ (i := 6) (N := some 28) #[T, T, T, T, T, T, T, T, F, F, F, F] rfl rfl (one_of HT_.out (by kernel_rfl)) (by decide) (fun K hK => ?_)
      refine goes_ Try.func62 (by kernel_rfl) rfl #[.agg #[.int .i64 a0_0, .int .i64 a0_1, .int .i64 a0_2, .int .i64 a0_3]] (by rfl) rfl rfl mz ?_
      with_reducible refine (spec_l10Rest.calls a0_0 a0_1 a0_2 a0_3 t225 t226 _ A50.out).mono ?_
      rintro e w62 ⟨rfl, hb⟩
      refine ⟨_, rfl, ?_⟩
      have n0_ := Aside0.mk (blk_below (g := gb202) (o := b4 a0_0 a0_1 a0_2 a0_3 25) (bz BK202.out) hb)
      have n1_ := Aside0.mk (blk_below (g := gb203) (o := b4 a1_0 a1_1 a1_2 a1_3 25) (bz BK203.out) hb)
      have n2_ := Aside0.mk (blk_below (g := gb204) (o := b4 0 0 0 0 25) (bz BK204.out) hb)
      have n3_ := Aside0.mk (below_step (hz3 HB.out GE202.out GE203.out GE204.out) hb)
      clear BK202
      clear BK203
      clear BK204
      clear HB
      have BK202 := n0_
      have BK203 := n1_
      have BK204 := n2_
      have HB := n3_
      clear n0_ n1_ n2_ n3_
      (try clear hb)
      (try clear hb2)
      (try clear hk)
      (try clear hi)
      refine hK.out _ _ ⟨bc BK202 0, bc BK202 1, bc BK202 2, bc BK202 3, bc BK203 0, bc BK203 1, bc BK203 2, bc BK203 3⟩ (fun hHeld => ?_)
      clear hK K
      refine norm_ (a' := ?_) ?_ ?_
      rotate_left
      ·show Act.put _ (some 28) _ = _
       simp only [Act.put, List.setIfInBounds_toArray, List.set_cons_zero, List.set_cons_succ, i64_w, i32_w]
       rfl
      refine one_ (i := 8) (N := some 30) #[T, T, T, T, T, T, T, T, T, F, F, F] rfl rfl (one_of HT_.out (by kernel_rfl)) (by decide) (fun K hK => ?_)
      refine goes_ Try.func62 (by kernel_rfl) rfl #[.agg #[.int .i64 a1_0, .int .i64 a1_1, .int .i64 a1_2, .int .i64 a1_3]] (by rfl) rfl rfl mz ?_
      with_reducible refine (spec_l10Rest.calls a1_0 a1_1 a1_2 a1_3 t227 t228 _ A51.out).mono ?_
      rintro e w63 ⟨rfl, hb⟩
      refine ⟨_, rfl, ?_⟩
      have n0_ := Aside0.mk (blk_below (g := gb202) (o := b4 a0_0 a0_1 a0_2 a0_3 25) (bz BK202.out) hb)
      have n1_ := Aside0.mk (blk_below (g := gb203) (o := b4 a1_0 a1_1 a1_2 a1_3 25) (bz BK203.out) hb)
      have n2_ := Aside0.mk (blk_below (g := gb204) (o := b4 0 0 0 0 25) (bz BK204.out) hb)
      have n3_ := Aside0.mk (below_step (hz3 HB.out GE202.out GE203.out GE204.out) hb)
      clear BK202
      clear BK203
      clear BK204
      clear HB
      have BK202 := n0_
      have BK203 := n1_
      have BK204 := n2_
      have HB := n3_
      clear n0_ n1_ n2_ n3_
      (try clear hb)
      (try clear hb2)
      (try clear hk)
      (try clear hi)
      refine hK.out _ _ ⟨bc BK202 0, bc BK202 1, bc BK202 2, bc BK202 3, bc BK203 0, bc BK203 1, bc BK203 2, bc BK203 3⟩ (fun hHeld => ?_)
      clear hK K
      refine norm_ (a' := ?_) ?_ ?_
      rotate_left
      ·show Act.put _ (some 30) _ = _
       simp only [Act.put, List.setIfInBounds_toArray, List.set_cons_zero, List.set_cons_succ, i64_w, i32_w]
       rfl
      refine one_ (i := 9) (N := some 31) #[T, T, T, T, T, T, T, T, T, T, F, F] rfl rfl (one_of HT_.out (by kernel_rfl)) (by decide) (fun K hK => ?_)
      refine goes_ Try.func75 (by kernel_rfl) rfl #[.agg #[.int .i64 t225, .int .i64 t226], .agg #[.int .i64 t227, .int .i64 t228]] (by rfl) rfl rfl mz ?_
      with_reducible refine (spec_RestJoin.calls kj2 t225 t226 t227 t228 t229 t230 _ A52.out).mono ?_
      rintro e w64 ⟨rfl, hb⟩
      refine ⟨_, rfl, ?_⟩
      have n0_ := Aside0.mk (blk_below (g := gb202) (o := b4 a0_0 a0_1 a0_2 a0_3 25) (bz BK202.out) hb)
      have n1_ := Aside0.mk (blk_below (g := gb203) (o := b4 a1_0 a1_1 a1_2 a1_3 25) (bz BK203.out) hb)
      have n2_ := Aside0.mk (blk_below (g := gb204) (o := b4 0 0 0 0 25) (bz BK204.out) hb)
      have n3_ := Aside0.mk (below_step (hz3 HB.out GE202.out GE203.out GE204.out) hb)
      clear BK202
      clear BK203
      clear BK204
      clear HB
      have BK202 := n0_
      have BK203 := n1_
      have BK204 := n2_
      have HB := n3_
      clear n0_ n1_ n2_ n3_
      (try clear hb)
      (try clear hb2)
      (try clear hk)
      (try clear hi)
      refine hK.out _ _ ⟨bc BK202 0, bc BK202 1, bc BK202 2, bc BK202 3, bc BK203 0, bc BK203 1, bc BK203 2, bc BK203 3⟩ (fun hHeld => ?_)
      clear hK K
      refine norm_ (a' := ?_) ?_ ?_
      rotate_left
      ·show Act.put _ (some 31) _ = _
       simp only [Act.put, List.setIfInBounds_toArray, List.set_cons_zero, List.set_cons_succ, i64_w, i32_w]
       rfl
      refine one_ (i := 10) (N := some 32) #[T, T, T, T, T, T, T, T, T, T, T, F] rfl rfl (one_of HT_.out (by kernel_rfl)) (by decide) (fun K hK => ?_)
      refine goes_ Try.func73 (by kernel_rfl) rfl #[.agg #[.int .i64 t223, .int .i64 t224], .agg #[.int .i64 t229, .int .i64 t230]] (by rfl) rfl rfl mz ?_
      with_reducible refine (spec_ValMake.calls kj2 t223 t224 t229 t230 t231 t232 t233 t234 _ A53.out).mono ?_
      rintro e w65 ⟨rfl, hb⟩
      refine ⟨_, rfl, ?_⟩
      have n0_ := Aside0.mk (blk_below (g := gb202) (o := b4 a0_0 a0_1 a0_2 a0_3 25) (bz BK202.out) hb)
      have n1_ := Aside0.mk (blk_below (g := gb203) (o := b4 a1_0 a1_1 a1_2 a1_3 25) (bz BK203.out) hb)
      have n2_ := Aside0.mk (blk_below (g := gb204) (o := b4 0 0 0 0 25) (bz BK204.out) hb)
      have n3_ := Aside0.mk (below_step (hz3 HB.out GE202.out GE203.out GE204.out) hb)
      clear BK202
      clear BK203
      clear BK204
      clear HB
      have BK202 := n0_
      have BK203 := n1_
      have BK204 := n2_
      have HB := n3_
      clear n0_ n1_ n2_ n3_
      (try clear hb)
      (try clear hb2)
      (try clear hk)
      (try clear hi)
      refine hK.out _ _ ⟨bc BK202 0, bc BK202 1, bc BK202 2, bc BK202 3, bc BK203 0, bc BK203 1, bc BK203 2, bc BK203 3⟩ (fun hHeld => ?_)
      clear hK K
      refine norm_ (a' := ?_) ?_ ?_
      rotate_left
      ·show Act.put _ (some 32) _ = _
       simp only [Act.put, List.setIfInBounds_toArray, List.set_cons_zero, List.set_cons_succ, i64_w, i32_w]
       rfl
      refine one_ (i := 11) (N := none) #[T, T, T, T, T, T, T, T, T, T, T, T] rfl rfl (one_of HT_.out (by kernel_rfl)) (by decide) (fun K hK => ?_)
      have hs66 : w65.cell? ⟨gb204, 0, none⟩ = some (.int .i64 0) := bc BK204 0
      have hfs66 := blk_frozen BK204.out 0
      have hns66_0 := NB202_204.out
      have hns66_1 := NB203_204.out
      have hms66_0 := NB204_202.out
      have hms66_1 := NB204_203.out
      have hs67 : w65.cell? ⟨gb204, 1, none⟩ = some (.int .i64 0) := bc BK204 1
      have hfs67 := blk_frozen BK204.out 1
      have hns67_0 := NB202_204.out
      have hns67_1 := NB203_204.out
      have hms67_0 := NB204_202.out
      have hms67_1 := NB204_203.out
      have hs68 : w65.cell? ⟨gb204, 2, none⟩ = some (.int .i64 0) := bc BK204 2
      have hfs68 := blk_frozen BK204.out 2
      have hns68_0 := NB202_204.out
      have hns68_1 := NB203_204.out
      have hms68_0 := NB204_202.out
      have hms68_1 := NB204_203.out
      have hs69 : w65.cell? ⟨gb204, 3, none⟩ = some (.int .i64 0) := bc BK204 3
      have hfs69 := blk_frozen BK204.out 3
      have hns69_0 := NB202_204.out
      have hns69_1 := NB203_204.out
      have hms69_0 := NB204_202.out
      have hms69_1 := NB204_203.out
      refine skip_ (w1 := ?_) (by rfl) rfl ?_ ?_
      rotate_left
      ·go_simp
       rfl
      refine hK.out _ _ ⟨((cell_far (p := ⟨gb204, _, none⟩) NB202_204.out _).trans (((cell_far (p := ⟨gb204, _, none⟩) NB202_204.out _).trans (((cell_far (p := ⟨gb204, _, none⟩) NB202_204.out _).trans (((cell_far (p := ⟨gb204, _, none⟩) NB202_204.out _).trans (hHeld.1)))))))), ((cell_far (p := ⟨gb204, _, none⟩) NB202_204.out _).trans (((cell_far (p := ⟨gb204, _, none⟩) NB202_204.out _).trans (((cell_far (p := ⟨gb204, _, none⟩) NB202_204.out _).trans (((cell_far (p := ⟨gb204, _, none⟩) NB202_204.out _).trans (hHeld.2.1)))))))), ((cell_far (p := ⟨gb204, _, none⟩) NB202_204.out _).trans (((cell_far (p := ⟨gb204, _, none⟩) NB202_204.out _).trans (((cell_far (p := ⟨gb204, _, none⟩) NB202_204.out _).trans (((cell_far (p := ⟨gb204, _, none⟩) NB202_204.out _).trans (hHeld.2.2.1)))))))), ((cell_far (p := ⟨gb204, _, none⟩) NB202_204.out _).trans (((cell_far (p := ⟨gb204, _, none⟩) NB202_204.out _).trans (((cell_far (p := ⟨gb204, _, none⟩) NB202_204.out _).trans (((cell_far (p := ⟨gb204, _, none⟩) NB202_204.out _).trans (hHeld.2.2.2.1)))))))), ((cell_far (p := ⟨gb204, _, none⟩) NB203_204.out _).trans (((cell_far (p := ⟨gb204, _, none⟩) NB203_204.out _).trans (((cell_far (p := ⟨gb204, _, none⟩) NB203_204.out _).trans (((cell_far (p := ⟨gb204, _, none⟩) NB203_204.out _).trans (hHeld.2.2.2.2.1)))))))), ((cell_far (p := ⟨gb204, _, none⟩) NB203_204.out _).trans (((cell_far (p := ⟨gb204, _, none⟩) NB203_204.out _).trans (((cell_far (p := ⟨gb204, _, none⟩) NB203_204.out _).trans (((cell_far (p := ⟨gb204, _, none⟩) NB203_204.out _).trans (hHeld.2.2.2.2.2.1)))))))), ((cell_far (p := ⟨gb204, _, none⟩) NB203_204.out _).trans (((cell_far (p := ⟨gb204, _, none⟩) NB203_204.out _).trans (((cell_far (p := ⟨gb204, _, none⟩) NB203_204.out _).trans (((cell_far (p := ⟨gb204, _, none⟩) NB203_204.out _).trans (hHeld.2.2.2.2.2.2.1)))))))), ((cell_far (p := ⟨gb204, _, none⟩) NB203_204.out _).trans (((cell_far (p := ⟨gb204, _, none⟩) NB203_204.out _).trans (((cell_far (p := ⟨gb204, _, none⟩) NB203_204.out _).trans (((cell_far (p := ⟨gb204, _, none⟩) NB203_204.out _).trans (hHeld.2.2.2.2.2.2.2))))))))⟩ (fun hHeld => ?_)
      clear hK K
      refine done_ (done_of HT_.out (by kernel_rfl)) ?_
      try go_wp2
      refine bodyPost_ret (results_cell_row rfl _ _ gb204 25 #[.int .i64 t231, .int .i64 t232, .int .i64 t233, .int .i64 t234] (0, 0) _ rfl (by (with_reducible repeat (first | refine blk_drewN ?_ _ | refine blk_drew ?_ | refine blk_alloc ?_ _)); refine blk_put (cs := #[.int .i64 t231, .int .i64 t232, .int .i64 t233, .int .i64 0]) ?_ 3 _ rfl; (with_reducible repeat (first | refine blk_drewN ?_ _ | refine blk_drew ?_ | refine blk_alloc ?_ _)); refine blk_put (cs := #[.int .i64 t231, .int .i64 t232, .int .i64 0, .int .i64 0]) ?_ 2 _ rfl; (with_reducible repeat (first | refine blk_drewN ?_ _ | refine blk_drew ?_ | refine blk_alloc ?_ _)); refine blk_put (cs := #[.int .i64 t231, .int .i64 0, .int .i64 0, .int .i64 0]) ?_ 1 _ rfl; (with_reducible repeat (first | refine blk_drewN ?_ _ | refine blk_drew ?_ | refine blk_alloc ?_ _)); refine blk_put (cs := #[.int .i64 0, .int .i64 0, .int .i64 0, .int .i64 0]) ?_ 0 _ rfl; (with_reducible repeat (first | refine blk_drewN ?_ _ | refine blk_drew ?_ | refine blk_alloc ?_ _)); exact BK204.out) Try.underlying25 rfl (by kernel_rfl)) rfl ?_
      exact ⟨by first | rfl | (simp [errW_none, errW_some] <;> rfl) | (simp [*, errW_none, errW_some] <;> rfl), hz3 HB.out GE202.out GE203.out GE204.out⟩

end Go.Proofs.Ytnmccgjdnceheaa.PFnExactValJoin
