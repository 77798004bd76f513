/- Written by this session's own driver (wip/dprint.py): the functions that the law FnExactValWiden reaches, as Lean functions, each with its contract. -/
import Derived.Test.YtnmccgjdnceheaaPFnExactValWidenx0
import Derived.Test.YtnmccgjdnceheaaPFnExactValWidenx1
import Derived.Test.YtnmccgjdnceheaaPFnExactValWidenx3
import Derived.Test.YtnmccgjdnceheaaPFnExactValWidenx6
import Derived.Test.YtnmccgjdnceheaaPFnExactValWidenx7
import Derived.Test.YtnmccgjdnceheaaPFnExactValWidenx8
import Derived.Test.YtnmccgjdnceheaaPFnExactValWidenx9
import Derived.Test.YtnmccgjdnceheaaSv
namespace Go.Proofs.Ytnmccgjdnceheaa.PFnExactValWiden
open Go.RowKit Go.Proofs.YtnmccgjdnceheaaV.PrintWords Go.Proofs.YtnmccgjdnceheaaV.PrintLast Go.Proofs.YtnmccgjdnceheaaV.PrintMore Go.Proofs.YtnmccgjdnceheaaSv
attribute [local go_sem] max2_int min2_int max_two min_two max_three min_three max_four min_four   -- for this text's walks alone
set_option linter.unusedVariables false
set_option linter.unusedSimpArgs false

attribute [local go_sem high] eqA25
/-! ### spec_ValJoin: function 20 -/
def spec_ValJoin.j0 : Nat → Bool → Int → Int → Int → Int → Int → Int → Int → Int → Option (Int × Int × Int × Int)
 | 0, _, _, _, _, _, _, _, _, _ => none
 | k + 1, x12, x205000, x205001, x205002, x205003, x206000, x206001, x206002, x206003 => if x12 = true then ((spec_l10None.f).bind fun bt209 => (some (bt209.1, bt209.2.1, bt209.2.2.1, bt209.2.2.2))) else ((spec_l10None.f).bind fun bt213 => (if (x205000 == bt213.1 && (x205001 == bt213.2.1 && (x205002 == bt213.2.2.1 && (x205003 == bt213.2.2.2)))) = true then (some (x206000, x206001, x206002, x206003)) else ((spec_l10None.f).bind fun bt217 => (if (x206000 == bt217.1 && (x206001 == bt217.2.1 && (x206002 == bt217.2.2.1 && (x206003 == bt217.2.2.2)))) = true then (some (x205000, x205001, x205002, x205003)) else ((spec_l10Range.f x205000 x205001 x205002 x205003).bind fun bt221 => ((spec_l10Range.f x206000 x206001 x206002 x206003).bind fun bt223 => ((spec_RangeJoin.f k bt221.1 bt221.2 bt223.1 bt223.2).bind fun bt225 => ((spec_l10Rest.f x205000 x205001 x205002 x205003).bind fun bt227 => ((spec_l10Rest.f x206000 x206001 x206002 x206003).bind fun bt229 => ((spec_RestJoin.f k bt227.1 bt227.2 bt229.1 bt229.2).bind fun bt231 => ((spec_ValMake.f k bt225.1 bt225.2 bt231.1 bt231.2).bind fun bt233 => (some (bt233.1, bt233.2.1, bt233.2.2.1, bt233.2.2.2)))))))))))))
def spec_ValJoin.f (k : Nat) (a0_0 : Int) (a0_1 : Int) (a0_2 : Int) (a0_3 : Int) (a1_0 : Int) (a1_1 : Int) (a1_2 : Int) (a1_3 : Int) : Option (Int × Int × Int × Int) := (spec_ValOk.f k a0_0 a0_1 a0_2 a0_3).bind fun t207 => (if t207 = true then ((spec_ValOk.f k a1_0 a1_1 a1_2 a1_3).bind fun t208 => (spec_ValJoin.j0 k (!t208) a0_0 a0_1 a0_2 a0_3 a1_0 a1_1 a1_2 a1_3)) else (spec_ValJoin.j0 k true a0_0 a0_1 a0_2 a0_3 a1_0 a1_1 a1_2 a1_3))
theorem spec_ValJoin.mono_l : ∀ k, (∀ y0 y1 y2 y3 y4 y5 y6 y7 y8, LeO (spec_ValJoin.j0 k y0 y1 y2 y3 y4 y5 y6 y7 y8) (spec_ValJoin.j0 (k + 1) y0 y1 y2 y3 y4 y5 y6 y7 y8))
 | 0 => fun _ _ _ _ _ _ _ _ _ r h => by simp [spec_ValJoin.j0] at h
 | k + 1 => by
  have ih0 := spec_ValJoin.mono_l k
  ·intro y0 y1 y2 y3 y4 y5 y6 y7 y8
   unfold spec_ValJoin.j0
   repeat' first
   | (with_reducible exact ih0 _ _ _ _ _ _ _ _ _)
   | (with_reducible exact spec_RangeJoin.mono _ _ _ _ _)
   | (with_reducible exact spec_RestJoin.mono _ _ _ _ _)
   | (with_reducible exact spec_ValMake.mono _ _ _ _ _)
   | (with_reducible exact spec_ValOk.mono _ _ _ _ _)
   | (with_reducible exact LeO.refl _)
   | (with_reducible exact LeO.none _)
   | (with_reducible refine LeO.ite ?_ ?_)
   | (with_reducible refine LeO.bind ?_ (fun _ => ?_))
   | exact ih0 _ _ _ _ _ _ _ _ _
   | exact spec_RangeJoin.mono _ _ _ _ _
   | exact spec_RestJoin.mono _ _ _ _ _
   | exact spec_ValMake.mono _ _ _ _ _
   | exact spec_ValOk.mono _ _ _ _ _
   | exact LeO.none _
   | refine LeO.ite ?_ ?_
   | refine LeO.bind ?_ (fun _ => ?_)
theorem spec_ValJoin.mono : ∀ a0 a1 a2 a3 a4 a5 a6 a7 k, LeO (spec_ValJoin.f k a0 a1 a2 a3 a4 a5 a6 a7) (spec_ValJoin.f (k + 1) a0 a1 a2 a3 a4 a5 a6 a7) := by
 intro a0 a1 a2 a3 a4 a5 a6 a7 k
 have ih0 := spec_ValJoin.mono_l k
 unfold spec_ValJoin.f
 repeat' first
   | (with_reducible exact ih0 _ _ _ _ _ _ _ _ _)
   | (with_reducible exact spec_RangeJoin.mono _ _ _ _ _)
   | (with_reducible exact spec_RestJoin.mono _ _ _ _ _)
   | (with_reducible exact spec_ValMake.mono _ _ _ _ _)
   | (with_reducible exact spec_ValOk.mono _ _ _ _ _)
   | (with_reducible exact LeO.refl _)
   | (with_reducible exact LeO.none _)
   | (with_reducible refine LeO.ite ?_ ?_)
   | (with_reducible refine LeO.bind ?_ (fun _ => ?_))
   | exact ih0 _ _ _ _ _ _ _ _ _
   | exact spec_RangeJoin.mono _ _ _ _ _
   | exact spec_RestJoin.mono _ _ _ _ _
   | exact spec_ValMake.mono _ _ _ _ _
   | exact spec_ValOk.mono _ _ _ _ _
   | exact LeO.none _
   | refine LeO.ite ?_ ?_
   | refine LeO.bind ?_ (fun _ => ?_)
def spec_ValJoin.T7 : Bool × List (List Nat × List Nat) := (true, [([], []), ([0], [0]), ([], []), ([2, 1], [2]), ([1, 3, 3], [1, 3]), ([], []), ([5, 4], [5]), ([], []), ([7, 6], [7]), ([6, 8, 8], [6, 8]), ([4, 9, 9], [4, 9]), ([10, 10, 0, 1, 2, 3, 4, 5, 6, 7, 8, 9, 10], [10])])
def spec_ValJoin.B7 : List Nat := [0, 1, 0, 7, 15, 0, 63, 0, 255, 511, 1023, 2047]
theorem spec_ValJoin.tab7 : rtab .any (opsOf Try.f20 7) = spec_ValJoin.T7 := by kernel_rfl
theorem spec_ValJoin.bits7 : waitsOk spec_ValJoin.T7.2 spec_ValJoin.B7 = true := by kernel_rfl
set_option maxHeartbeats 8000000 in
set_option maxRecDepth 100000 in
theorem spec_ValJoin.calls (k : Nat) (a0_0 : Int) (a0_1 : Int) (a0_2 : Int) (a0_3 : Int) (a1_0 : Int) (a1_1 : Int) (a1_2 : Int) (a1_3 : Int) (r1 : Int) (r2 : Int) (r3 : Int) (r4 : Int) (w : World) (h : spec_ValJoin.f k a0_0 a0_1 a0_2 a0_3 a1_0 a1_1 a1_2 a1_3 = some (r1, r2, r3, r4)) :
  Calls Try.prog 20 #[.agg #[.int .i64 a0_0, .int .i64 a0_1, .int .i64 a0_2, .int .i64 a0_3], .agg #[.int .i64 a1_0, .int .i64 a1_1, .int .i64 a1_2, .int .i64 a1_3]] w fun e w' => e = .returned (.agg #[.int .i64 r1, .int .i64 r2, .int .i64 r3, .int .i64 r4]) ∧ Below w.heap.size w w' := by
 have hu25 := Try.underlying25
 have HB := am (Below.refl w.heap.size w)
 have H : ((spec_ValOk.f k a0_0 a0_1 a0_2 a0_3).bind fun t207 => (if t207 = true then ((spec_ValOk.f k a1_0 a1_1 a1_2 a1_3).bind fun t208 => (spec_ValJoin.j0 k (!t208) a0_0 a0_1 a0_2 a0_3 a1_0 a1_1 a1_2 a1_3)) else (spec_ValJoin.j0 k true a0_0 a0_1 a0_2 a0_3 a1_0 a1_1 a1_2 a1_3))) = some (r1, r2, r3, r4) := h
 clear h
 have HC3 := am H
 clear H
 go_enter Try.func20, Try.ntmps20
 go_upto_region 1 with (first | ((with_reducible refine gate_dst (N := 2) rfl ?_); refine box_event ?hg (N := 2) ?hd (cs := #[.int .i64 a0_0, .int .i64 a0_1, .int .i64 a0_2, .int .i64 a0_3]) (t := 25) ?hr ?_; (case hd => rfl); (case hg => rfl); (case hr => first | (go_simp; done) | (go_simp; rfl)); intro gb204 hg w4 hbox hb; have n0_ := am (below_step (Y0 HB) hb); have n1_ := am (hbox); have n2_ := am ((by rw [hg]; exact (below_size (Y0 HB)) : w.heap.size ≤ gb204)); have n3_ := am ((by rw [hg]; exact (below_size (Y0 HB)) : w.heap.size ≤ gb204)); clear HB; have HB := n0_; have BK204 := n1_; have GW204 := n2_; have GE204 := n3_; clear n0_ n1_ n2_ n3_; clear hb hbox hg) | ((with_reducible refine gate_dst (N := 3) rfl ?_); refine box_event ?hg (N := 3) ?hd (cs := #[.int .i64 a1_0, .int .i64 a1_1, .int .i64 a1_2, .int .i64 a1_3]) (t := 25) ?hr ?_; (case hd => rfl); (case hg => rfl); (case hr => first | (go_simp; done) | (go_simp; rfl)); intro gb205 hg w5 hbox hb; have n0_ := am (blk_below (g := gb204) (o := b4 a0_0 a0_1 a0_2 a0_3 25) (Z BK204) hb); have n1_ := am (below_step (Y1 HB GE204) hb); have n2_ := am (hbox); have n3_ := am ((by rw [hg]; exact (below_size (Y1 HB GE204)) : w.heap.size ≤ gb205)); have n4_ := am ((by rw [hg]; exact (below_size (Y1 HB GE204)) : w.heap.size ≤ gb205)); have n5_ := am ((nl (o := b4 a0_0 a0_1 a0_2 a0_3 25) hg (Z BK204) : gb204 ≠ gb205)); have n6_ := am ((ng (o := b4 a0_0 a0_1 a0_2 a0_3 25) hg (Z BK204) : gb205 ≠ gb204)); clear BK204; clear HB; have BK204 := n0_; have HB := n1_; have BK205 := n2_; have GW205 := n3_; have GE205 := n4_; have NB204_205 := n5_; have NB205_204 := n6_; clear n0_ n1_ n2_ n3_ n4_ n5_ n6_; clear hb hbox hg) | ((with_reducible refine gate_dst (N := 4) rfl ?_); refine box_event ?hg (N := 4) ?hd (cs := #[.int .i64 0, .int .i64 0, .int .i64 0, .int .i64 0]) (t := 25) ?hr ?_; (case hd => rfl); (case hg => rfl); (case hr => first | (go_simp; done) | (go_simp; rfl)); intro gb206 hg w6 hbox hb; have n0_ := am (blk_below (g := gb204) (o := b4 a0_0 a0_1 a0_2 a0_3 25) (Z BK204) hb); have n1_ := am (blk_below (g := gb205) (o := b4 a1_0 a1_1 a1_2 a1_3 25) (Z BK205) hb); have n2_ := am (below_step (Y2 HB GE204 GE205) hb); have n3_ := am (hbox); have n4_ := am ((by rw [hg]; exact (below_size (Y2 HB GE204 GE205)) : w.heap.size ≤ gb206)); have n5_ := am ((by rw [hg]; exact (below_size (Y2 HB GE204 GE205)) : w.heap.size ≤ gb206)); have n6_ := am ((nl (o := b4 a0_0 a0_1 a0_2 a0_3 25) hg (Z BK204) : gb204 ≠ gb206)); have n7_ := am ((ng (o := b4 a0_0 a0_1 a0_2 a0_3 25) hg (Z BK204) : gb206 ≠ gb204)); have n8_ := am ((nl (o := b4 a1_0 a1_1 a1_2 a1_3 25) hg (Z BK205) : gb205 ≠ gb206)); have n9_ := am ((ng (o := b4 a1_0 a1_1 a1_2 a1_3 25) hg (Z BK205) : gb206 ≠ gb205)); clear BK204; clear BK205; clear HB; have BK204 := n0_; have BK205 := n1_; have HB := n2_; have BK206 := n3_; have GW206 := n4_; have GE206 := n5_; have NB204_206 := n6_; have NB206_204 := n7_; have NB205_206 := n8_; have NB206_205 := n9_; clear n0_ n1_ n2_ n3_ n4_ n5_ n6_ n7_ n8_ n9_; clear hb hbox hg))
 (try simp only [Act.put, List.setIfInBounds_toArray, List.set_cons_zero, List.set_cons_succ])
 go_cut [12] (fun v12 wc => ∃ (kq : Nat) (x12_2 : Bool), v12 = .bool x12_2 ∧ Aside0 (spec_ValJoin.j0 kq x12_2 a0_0 a0_1 a0_2 a0_3 a1_0 a1_1 a1_2 a1_3 = some (r1, r2, r3, r4)) ∧ Aside0 (kq ≤ k) ∧ Aside0 (wc.heap[gb204]? = some (.cells #[.int .i64 a0_0, .int .i64 a0_1, .int .i64 a0_2, .int .i64 a0_3] 25 (0, 0))) ∧ Aside0 (wc.heap[gb205]? = some (.cells #[.int .i64 a1_0, .int .i64 a1_1, .int .i64 a1_2, .int .i64 a1_3] 25 (0, 0))) ∧ Aside0 (wc.heap[gb206]? = some (.cells #[.int .i64 0, .int .i64 0, .int .i64 0, .int .i64 0] 25 (0, 0))) ∧ Aside0 (Below w.heap.size w wc))
 case first =>
  have H := HC3.out
  clear HC3
  replace H := Option.bind_eq_some_iff.mp H
  obtain ⟨t207, A70, H⟩ := H
  replace H : (if t207 = true then ((spec_ValOk.f k a1_0 a1_1 a1_2 a1_3).bind fun t208 => (spec_ValJoin.j0 k (!t208) a0_0 a0_1 a0_2 a0_3 a1_0 a1_1 a1_2 a1_3)) else (spec_ValJoin.j0 k true a0_0 a0_1 a0_2 a0_3 a1_0 a1_1 a1_2 a1_3)) = some (r1, r2, r3, r4) := H
  have A7 := am A70
  clear A70
  by_cases c8 : t207 = true
  ·subst c8
   have H1 : ((spec_ValOk.f k a1_0 a1_1 a1_2 a1_3).bind fun t208 => (spec_ValJoin.j0 k (!t208) a0_0 a0_1 a0_2 a0_3 a1_0 a1_1 a1_2 a1_3)) = some (r1, r2, r3, r4) := by rw [if_pos rfl] at H; exact H
   clear H
   have H := H1
   clear H1
   replace H := Option.bind_eq_some_iff.mp H
   obtain ⟨t208, A90, H⟩ := H
   replace H : (spec_ValJoin.j0 k (!t208) a0_0 a0_1 a0_2 a0_3 a1_0 a1_1 a1_2 a1_3) = some (r1, r2, r3, r4) := H
   have A9 := am A90
   clear A90
   have H' := am H
   clear H
   have hnb10 := NB204_205.out
   have hnc10 := NB205_204.out
   have hnb11 := NB204_206.out
   have hnc11 := NB206_204.out
   have hcz12_0 : w6.cell? ⟨gb204, 0, none⟩ = some (.int .i64 a0_0) := bc BK204 0
   have hcz12_1 : w6.cell? ⟨gb204, 1, none⟩ = some (.int .i64 a0_1) := bc BK204 1
   have hcz12_2 : w6.cell? ⟨gb204, 2, none⟩ = some (.int .i64 a0_2) := bc BK204 2
   have hcz12_3 : w6.cell? ⟨gb204, 3, none⟩ = some (.int .i64 a0_3) := bc BK204 3
   have hfz12_0 := blk_frozen BK204.out 0
   have hfz12_1 := blk_frozen BK204.out 1
   have hfz12_2 := blk_frozen BK204.out 2
   have hfz12_3 := blk_frozen BK204.out 3
   go_wp2_with (first | ((with_reducible refine gate_callee (f := 57) rfl ?_); refine goesL_ (some 6) rfl rfl Try.func57 (by kernel_rfl) rfl #[.agg #[.int .i64 a0_0, .int .i64 a0_1, .int .i64 a0_2, .int .i64 a0_3]] rfl mz ?_; (with_reducible refine (spec_ValOk.calls k a0_0 a0_1 a0_2 a0_3 true _ A7.out).mono ?_); rintro e w13 ⟨rfl, hb⟩; refine ⟨_, rfl, ?_⟩; have n0_ := am (blk_below (g := gb204) (o := b4 a0_0 a0_1 a0_2 a0_3 25) (Z BK204) hb); have n1_ := am (blk_below (g := gb205) (o := b4 a1_0 a1_1 a1_2 a1_3 25) (Z BK205) hb); have n2_ := am (blk_below (g := gb206) (o := b4 0 0 0 0 25) (Z BK206) hb); have n3_ := am (below_step (Y3 HB GE204 GE205 GE206) hb); clear BK204; clear BK205; clear BK206; clear HB; have BK204 := n0_; have BK205 := n1_; have BK206 := n2_; have HB := n3_; clear n0_ n1_ n2_ n3_; (try clear hb); (try clear hb2); (try clear hk); (try clear hi); have hnb14 := NB205_206.out; have hnc14 := NB206_205.out; have hcz15_0 : w13.cell? ⟨gb205, 0, none⟩ = some (.int .i64 a1_0) := bc BK205 0; have hcz15_1 : w13.cell? ⟨gb205, 1, none⟩ = some (.int .i64 a1_1) := bc BK205 1; have hcz15_2 : w13.cell? ⟨gb205, 2, none⟩ = some (.int .i64 a1_2) := bc BK205 2; have hcz15_3 : w13.cell? ⟨gb205, 3, none⟩ = some (.int .i64 a1_3) := bc BK205 3; have hfz15_0 := blk_frozen BK205.out 0; have hfz15_1 := blk_frozen BK205.out 1; have hfz15_2 := blk_frozen BK205.out 2; have hfz15_3 := blk_frozen BK205.out 3) | (go_at_call 57; (with_reducible refine (spec_ValOk.calls k a1_0 a1_1 a1_2 a1_3 t208 _ A9.out).mono ?_); rintro e w16 ⟨rfl, hb⟩; have n0_ := am (blk_below (g := gb204) (o := b4 a0_0 a0_1 a0_2 a0_3 25) (Z BK204) hb); have n1_ := am (blk_below (g := gb205) (o := b4 a1_0 a1_1 a1_2 a1_3 25) (Z BK205) hb); have n2_ := am (blk_below (g := gb206) (o := b4 0 0 0 0 25) (Z BK206) hb); have n3_ := am (below_step (Y3 HB GE204 GE205 GE206) hb); clear BK204; clear BK205; clear BK206; clear HB; have BK204 := n0_; have BK205 := n1_; have BK206 := n2_; have HB := n3_; clear n0_ n1_ n2_ n3_; (try clear hb); (try clear hb2); (try clear hk); (try clear hi)))
   go_meet
   case rel => exact ⟨_, (!t208), (by first | rfl | (simp; done) | (simp [*]; done)), H', ⟨by first | omega | exact Nat.le_refl _⟩, ⟨Z BK204⟩, ⟨Z BK205⟩, ⟨Z BK206⟩, ⟨Y3 HB GE204 GE205 GE206⟩⟩
  ·replace c8 := Bool.eq_false_iff.mpr c8
   subst c8
   have H1 : (spec_ValJoin.j0 k true a0_0 a0_1 a0_2 a0_3 a1_0 a1_1 a1_2 a1_3) = some (r1, r2, r3, r4) := by rw [if_neg (show ¬ (false = true) by decide)] at H; exact H
   clear H
   have H := H1
   clear H1
   have H' := am H
   clear H
   have hnb17 := NB204_205.out
   have hnc17 := NB205_204.out
   have hnb18 := NB204_206.out
   have hnc18 := NB206_204.out
   have hcz19_0 : w6.cell? ⟨gb204, 0, none⟩ = some (.int .i64 a0_0) := bc BK204 0
   have hcz19_1 : w6.cell? ⟨gb204, 1, none⟩ = some (.int .i64 a0_1) := bc BK204 1
   have hcz19_2 : w6.cell? ⟨gb204, 2, none⟩ = some (.int .i64 a0_2) := bc BK204 2
   have hcz19_3 : w6.cell? ⟨gb204, 3, none⟩ = some (.int .i64 a0_3) := bc BK204 3
   have hfz19_0 := blk_frozen BK204.out 0
   have hfz19_1 := blk_frozen BK204.out 1
   have hfz19_2 := blk_frozen BK204.out 2
   have hfz19_3 := blk_frozen BK204.out 3
   go_wp2_with (first | ((with_reducible refine gate_callee (f := 57) rfl ?_); refine goesL_ (some 6) rfl rfl Try.func57 (by kernel_rfl) rfl #[.agg #[.int .i64 a0_0, .int .i64 a0_1, .int .i64 a0_2, .int .i64 a0_3]] rfl mz ?_; (with_reducible refine (spec_ValOk.calls k a0_0 a0_1 a0_2 a0_3 false _ A7.out).mono ?_); rintro e w20 ⟨rfl, hb⟩; refine ⟨_, rfl, ?_⟩; have n0_ := am (blk_below (g := gb204) (o := b4 a0_0 a0_1 a0_2 a0_3 25) (Z BK204) hb); have n1_ := am (blk_below (g := gb205) (o := b4 a1_0 a1_1 a1_2 a1_3 25) (Z BK205) hb); have n2_ := am (blk_below (g := gb206) (o := b4 0 0 0 0 25) (Z BK206) hb); have n3_ := am (below_step (Y3 HB GE204 GE205 GE206) hb); clear BK204; clear BK205; clear BK206; clear HB; have BK204 := n0_; have BK205 := n1_; have BK206 := n2_; have HB := n3_; clear n0_ n1_ n2_ n3_; (try clear hb); (try clear hb2); (try clear hk); (try clear hi)))
   go_meet
   case rel => exact ⟨_, (true), (by first | rfl | (simp; done) | (simp [*]; done)), H', ⟨by first | omega | exact Nat.le_refl _⟩, ⟨Z BK204⟩, ⟨Z BK205⟩, ⟨Z BK206⟩, ⟨Y3 HB GE204 GE205 GE206⟩⟩
 case rest =>
  clear HC3
  try clear c1
  try clear c2
  try clear p2
  try clear c5
  try clear c8
  try clear c10
  try clear c11
  try clear c14
  try clear c17
  try clear c18
  try clear c20
  try clear hcz12_0
  try clear hcz12_1
  try clear hcz12_2
  try clear hcz12_3
  try clear hcz15_0
  try clear hcz15_1
  try clear hcz15_2
  try clear hcz15_3
  try clear hcz19_0
  try clear hcz19_1
  try clear hcz19_2
  try clear hcz19_3
  try clear hfz12_0
  try clear hfz12_1
  try clear hfz12_2
  try clear hfz12_3
  try clear hfz15_0
  try clear hfz15_1
  try clear hfz15_2
  try clear hfz15_3
  try clear hfz19_0
  try clear hfz19_1
  try clear hfz19_2
  try clear hfz19_3
  obtain ⟨kq, x12_2, rfl, HA, HJ2, BK204, BK205, BK206, HB⟩ := hcut
  cases kq with
  | zero => exact absurd HA.out (by simp [spec_ValJoin.j0])
  | succ kj2 =>
   have H := HA.out
   clear HA
   simp only [spec_ValJoin.j0] at H
   by_cases c21 : x12_2 = true
   ·subst c21
    have H1 : ((spec_l10None.f).bind fun bt209 => (some (bt209.1, bt209.2.1, bt209.2.2.1, bt209.2.2.2))) = some (r1, r2, r3, r4) := by rw [if_pos rfl] at H; exact H
    clear H
    have H := H1
    clear H1
    replace H := Option.bind_eq_some_iff.mp H
    obtain ⟨⟨t209, t210, t211, t212⟩, A220, H⟩ := H
    replace H : (some (t209, t210, t211, t212)) = some (r1, r2, r3, r4) := H
    have A22 := am A220
    clear A220
    simp only [Option.some.injEq, Prod.mk.injEq] at H
    obtain ⟨rfl, rfl, rfl, rfl⟩ := H
    go_wp2_with (first | ((with_reducible refine gate_callee (f := 58) rfl ?_); refine goesL_ (some 13) rfl rfl Try.func58 (by kernel_rfl) rfl #[] rfl mz ?_; (with_reducible refine (spec_l10None.calls  t209 t210 t211 t212 _ A22.out).mono ?_); rintro e w23 ⟨rfl, hb⟩; refine ⟨_, rfl, ?_⟩; have n0_ := am (blk_below (g := gb204) (o := b4 a0_0 a0_1 a0_2 a0_3 25) (Z BK204) hb); have n1_ := am (blk_below (g := gb205) (o := b4 a1_0 a1_1 a1_2 a1_3 25) (Z BK205) hb); have n2_ := am (blk_below (g := gb206) (o := b4 0 0 0 0 25) (Z BK206) hb); have n3_ := am (below_step (Y3 HB GE204 GE205 GE206) hb); clear BK204; clear BK205; clear BK206; clear HB; have BK204 := n0_; have BK205 := n1_; have BK206 := n2_; have HB := n3_; clear n0_ n1_ n2_ n3_; (try clear hb); (try clear hb2); (try clear hk); (try clear hi); have hnb24 := NB206_204.out; have hnc24 := NB204_206.out; have hnb25 := NB206_205.out; have hnc25 := NB205_206.out; have hcz26_0 : w23.cell? ⟨gb206, 0, none⟩ = some (.int .i64 0) := bc BK206 0; have hcz26_1 : w23.cell? ⟨gb206, 1, none⟩ = some (.int .i64 0) := bc BK206 1; have hcz26_2 : w23.cell? ⟨gb206, 2, none⟩ = some (.int .i64 0) := bc BK206 2; have hcz26_3 : w23.cell? ⟨gb206, 3, none⟩ = some (.int .i64 0) := bc BK206 3; have hfz26_0 := blk_frozen BK206.out 0; have hfz26_1 := blk_frozen BK206.out 1; have hfz26_2 := blk_frozen BK206.out 2; have hfz26_3 := blk_frozen BK206.out 3))
    refine bodyPost_ret (results_cell_row rfl _ _ gb206 25 #[.int .i64 t209, .int .i64 t210, .int .i64 t211, .int .i64 t212] (0, 0) _ rfl (by (with_reducible repeat (first | refine blk_drewN ?_ _ | refine blk_drew ?_ | refine blk_alloc ?_ _)); refine blk_put (cs := #[.int .i64 t209, .int .i64 t210, .int .i64 t211, .int .i64 0]) ?_ 3 _ rfl; (with_reducible repeat (first | refine blk_drewN ?_ _ | refine blk_drew ?_ | refine blk_alloc ?_ _)); refine blk_put (cs := #[.int .i64 t209, .int .i64 t210, .int .i64 0, .int .i64 0]) ?_ 2 _ rfl; (with_reducible repeat (first | refine blk_drewN ?_ _ | refine blk_drew ?_ | refine blk_alloc ?_ _)); refine blk_put (cs := #[.int .i64 t209, .int .i64 0, .int .i64 0, .int .i64 0]) ?_ 1 _ rfl; (with_reducible repeat (first | refine blk_drewN ?_ _ | refine blk_drew ?_ | refine blk_alloc ?_ _)); refine blk_put (cs := #[.int .i64 0, .int .i64 0, .int .i64 0, .int .i64 0]) ?_ 0 _ rfl; (with_reducible repeat (first | refine blk_drewN ?_ _ | refine blk_drew ?_ | refine blk_alloc ?_ _)); exact BK206.out) Try.underlying25 rfl (by kernel_rfl)) rfl ?_
    exact ⟨by first | rfl | (simp [errW_none, errW_some] <;> rfl) | (simp [*, errW_none, errW_some] <;> rfl), Y3 HB GE204 GE205 GE206⟩
   ·replace c21 := Bool.eq_false_iff.mpr c21
    subst c21
    have H1 : ((spec_l10None.f).bind fun bt213 => (if (a0_0 == bt213.1 && (a0_1 == bt213.2.1 && (a0_2 == bt213.2.2.1 && (a0_3 == bt213.2.2.2)))) = true then (some (a1_0, a1_1, a1_2, a1_3)) else ((spec_l10None.f).bind fun bt217 => (if (a1_0 == bt217.1 && (a1_1 == bt217.2.1 && (a1_2 == bt217.2.2.1 && (a1_3 == bt217.2.2.2)))) = true then (some (a0_0, a0_1, a0_2, a0_3)) else ((spec_l10Range.f a0_0 a0_1 a0_2 a0_3).bind fun bt221 => ((spec_l10Range.f a1_0 a1_1 a1_2 a1_3).bind fun bt223 => ((spec_RangeJoin.f kj2 bt221.1 bt221.2 bt223.1 bt223.2).bind fun bt225 => ((spec_l10Rest.f a0_0 a0_1 a0_2 a0_3).bind fun bt227 => ((spec_l10Rest.f a1_0 a1_1 a1_2 a1_3).bind fun bt229 => ((spec_RestJoin.f kj2 bt227.1 bt227.2 bt229.1 bt229.2).bind fun bt231 => ((spec_ValMake.f kj2 bt225.1 bt225.2 bt231.1 bt231.2).bind fun bt233 => (some (bt233.1, bt233.2.1, bt233.2.2.1, bt233.2.2.2))))))))))))) = some (r1, r2, r3, r4) := by rw [if_neg (show ¬ (false = true) by decide)] at H; exact H
    clear H
    have H := H1
    clear H1
    replace H := Option.bind_eq_some_iff.mp H
    obtain ⟨⟨t213, t214, t215, t216⟩, A270, H⟩ := H
    replace H : (if (a0_0 == t213 && (a0_1 == t214 && (a0_2 == t215 && (a0_3 == t216)))) = true then (some (a1_0, a1_1, a1_2, a1_3)) else ((spec_l10None.f).bind fun bt217 => (if (a1_0 == bt217.1 && (a1_1 == bt217.2.1 && (a1_2 == bt217.2.2.1 && (a1_3 == bt217.2.2.2)))) = true then (some (a0_0, a0_1, a0_2, a0_3)) else ((spec_l10Range.f a0_0 a0_1 a0_2 a0_3).bind fun bt221 => ((spec_l10Range.f a1_0 a1_1 a1_2 a1_3).bind fun bt223 => ((spec_RangeJoin.f kj2 bt221.1 bt221.2 bt223.1 bt223.2).bind fun bt225 => ((spec_l10Rest.f a0_0 a0_1 a0_2 a0_3).bind fun bt227 => ((spec_l10Rest.f a1_0 a1_1 a1_2 a1_3).bind fun bt229 => ((spec_RestJoin.f kj2 bt227.1 bt227.2 bt229.1 bt229.2).bind fun bt231 => ((spec_ValMake.f kj2 bt225.1 bt225.2 bt231.1 bt231.2).bind fun bt233 => (some (bt233.1, bt233.2.1, bt233.2.2.1, bt233.2.2.2)))))))))))) = some (r1, r2, r3, r4) := H
    have A27 := am A270
    clear A270
    by_cases c28 : (a0_0 == t213 && (a0_1 == t214 && (a0_2 == t215 && (a0_3 == t216)))) = true
    ·rw [if_pos c28] at H
     have c28b0 : (a0_0 == t213 && (a0_1 == t214 && (a0_2 == t215 && (a0_3 == t216)))) = true := c28
     (try (have c28b1 : decide (a0_0 = t213 && (a0_1 == t214 && (a0_2 == t215 && (a0_3 == t216)))) = true := by simpa using c28))
     (try (have c28b2 : (a0_0 == t213 && (a0_1 == t214 && (a0_2 == t215 && (a0_3 == t216)))) = true := by simpa using c28))
     clear c28
     simp only [Option.some.injEq, Prod.mk.injEq] at H
     obtain ⟨rfl, rfl, rfl, rfl⟩ := H
     try go_wp2
     have n0_ := am (blk_drew BK204.out)
     have n1_ := am (blk_drew BK205.out)
     have n2_ := am (blk_drew BK206.out)
     have n3_ := am (below_drew1 HB.out)
     clear BK204
     clear BK205
     clear BK206
     clear HB
     have BK204 := n0_
     have BK205 := n1_
     have BK206 := n2_
     have HB := n3_
     clear n0_ n1_ n2_ n3_
     refine start_ (n := 3) (S := fun w' => w'.cell? ⟨gb204, 0, none⟩ = some (.int .i64 a0_0) ∧ w'.cell? ⟨gb204, 1, none⟩ = some (.int .i64 a0_1) ∧ w'.cell? ⟨gb204, 2, none⟩ = some (.int .i64 a0_2) ∧ w'.cell? ⟨gb204, 3, none⟩ = some (.int .i64 a0_3)) (ds := []) #[F, F, F] (by kernel_rfl) rfl rfl ⟨bc BK204 0, bc BK204 1, bc BK204 2, bc BK204 3⟩ (fun hHeld => ?_)
     generalize wc.drew = w29 at BK204 BK205 BK206 HB hHeld ⊢
     refine take_ (i := 0) (N := some 14) (v := ?_) (a' := ?_) #[T, F, F] rfl rfl (by kernel_rfl) (fun _ _ _ h => h) (Or.inl ⟨by rfl, ?_⟩) hHeld ?_ ?_
     rotate_left
     ·rintro w' ⟨s0, s1, s2, s3⟩
      go_simp
      with_reducible rfl
     rotate_left
     ·exact pz
     refine one_ (i := 1) (N := some 15) #[T, T, F] rfl rfl (by kernel_rfl) (by decide) (fun K hK => ?_)
     refine goes_ Try.func58 (by kernel_rfl) rfl #[] (by rfl) rfl rfl mz ?_
     with_reducible refine (spec_l10None.calls  t213 t214 t215 t216 _ A27.out).mono ?_
     rintro e w30 ⟨rfl, hb⟩
     refine ⟨_, rfl, ?_⟩
     have n0_ := am (blk_below (g := gb204) (o := b4 a0_0 a0_1 a0_2 a0_3 25) (Z BK204) hb)
     have n1_ := am (blk_below (g := gb205) (o := b4 a1_0 a1_1 a1_2 a1_3 25) (Z BK205) hb)
     have n2_ := am (blk_below (g := gb206) (o := b4 0 0 0 0 25) (Z BK206) hb)
     have n3_ := am (below_step (Y3 HB GE204 GE205 GE206) hb)
     clear BK204
     clear BK205
     clear BK206
     clear HB
     have BK204 := n0_
     have BK205 := n1_
     have BK206 := n2_
     have HB := n3_
     clear n0_ n1_ n2_ n3_
     (try clear hb)
     (try clear hb2)
     (try clear hk)
     (try clear hi)
     refine hK.out _ _ ⟨bc BK204 0, bc BK204 1, bc BK204 2, bc BK204 3⟩ (fun hHeld => ?_)
     clear hK K
     refine norm_ (a' := ?_) ?_ ?_
     rotate_left
     ·show Act.put _ (some 15) _ = _
      simp only [Act.put, List.setIfInBounds_toArray, List.set_cons_zero, List.set_cons_succ, i64_w, i32_w]
      rfl
     refine pure_ (i := 2) (N := some 16) (v := ?_) (a' := ?_) #[T, T, T] rfl rfl (by kernel_rfl) (fun _ _ _ h => h) (Or.inl ⟨by rfl, ?_⟩) ?_ ?_
     rotate_left
     ·exact gz
     rotate_left
     ·exact pz
     refine done_ (by kernel_rfl) ?_
     have hnb31 := NB205_204.out
     have hnc31 := NB204_205.out
     have hnb32 := NB205_206.out
     have hnc32 := NB206_205.out
     have hcz33_0 : w30.cell? ⟨gb205, 0, none⟩ = some (.int .i64 a1_0) := bc BK205 0
     have hcz33_1 : w30.cell? ⟨gb205, 1, none⟩ = some (.int .i64 a1_1) := bc BK205 1
     have hcz33_2 : w30.cell? ⟨gb205, 2, none⟩ = some (.int .i64 a1_2) := bc BK205 2
     have hcz33_3 : w30.cell? ⟨gb205, 3, none⟩ = some (.int .i64 a1_3) := bc BK205 3
     have hfz33_0 := blk_frozen BK205.out 0
     have hfz33_1 := blk_frozen BK205.out 1
     have hfz33_2 := blk_frozen BK205.out 2
     have hfz33_3 := blk_frozen BK205.out 3
     have hnb34 := NB206_204.out
     have hnc34 := NB204_206.out
     have hcz35_0 : w30.cell? ⟨gb206, 0, none⟩ = some (.int .i64 0) := bc BK206 0
     have hcz35_1 : w30.cell? ⟨gb206, 1, none⟩ = some (.int .i64 0) := bc BK206 1
     have hcz35_2 : w30.cell? ⟨gb206, 2, none⟩ = some (.int .i64 0) := bc BK206 2
     have hcz35_3 : w30.cell? ⟨gb206, 3, none⟩ = some (.int .i64 0) := bc BK206 3
     have hfz35_0 := blk_frozen BK206.out 0
     have hfz35_1 := blk_frozen BK206.out 1
     have hfz35_2 := blk_frozen BK206.out 2
     have hfz35_3 := blk_frozen BK206.out 3
     try go_wp2
     refine bodyPost_ret (results_cell_row rfl _ _ gb206 25 #[.int .i64 a1_0, .int .i64 a1_1, .int .i64 a1_2, .int .i64 a1_3] (0, 0) _ rfl (by (with_reducible repeat (first | refine blk_drewN ?_ _ | refine blk_drew ?_ | refine blk_alloc ?_ _)); refine blk_put (cs := #[.int .i64 a1_0, .int .i64 a1_1, .int .i64 a1_2, .int .i64 0]) ?_ 3 _ rfl; (with_reducible repeat (first | refine blk_drewN ?_ _ | refine blk_drew ?_ | refine blk_alloc ?_ _)); refine blk_put (cs := #[.int .i64 a1_0, .int .i64 a1_1, .int .i64 0, .int .i64 0]) ?_ 2 _ rfl; (with_reducible repeat (first | refine blk_drewN ?_ _ | refine blk_drew ?_ | refine blk_alloc ?_ _)); refine blk_put (cs := #[.int .i64 a1_0, .int .i64 0, .int .i64 0, .int .i64 0]) ?_ 1 _ rfl; (with_reducible repeat (first | refine blk_drewN ?_ _ | refine blk_drew ?_ | refine blk_alloc ?_ _)); refine blk_put (cs := #[.int .i64 0, .int .i64 0, .int .i64 0, .int .i64 0]) ?_ 0 _ rfl; (with_reducible repeat (first | refine blk_drewN ?_ _ | refine blk_drew ?_ | refine blk_alloc ?_ _)); exact BK206.out) Try.underlying25 rfl (by kernel_rfl)) rfl ?_
     exact ⟨by first | rfl | (simp [errW_none, errW_some] <;> rfl) | (simp [*, errW_none, errW_some] <;> rfl), Y3 HB GE204 GE205 GE206⟩
    ·rw [if_neg c28] at H
     have c28b0 : (a0_0 == t213 && (a0_1 == t214 && (a0_2 == t215 && (a0_3 == t216)))) = false := by simpa using c28
     (try (have c28b1 : decide (a0_0 = t213 && (a0_1 == t214 && (a0_2 == t215 && (a0_3 == t216)))) = false := by simpa using c28))
     (try (have c28b2 : (a0_0 == t213 && (a0_1 == t214 && (a0_2 == t215 && (a0_3 == t216)))) = false := by simpa using c28))
     (try (have c28b3 : ¬ (a0_0 = t213 && (a0_1 == t214 && (a0_2 == t215 && (a0_3 == t216)))) := by simpa using c28))
     clear c28
     replace H := Option.bind_eq_some_iff.mp H
     obtain ⟨⟨t217, t218, t219, t220⟩, A360, H⟩ := H
     replace H : (if (a1_0 == t217 && (a1_1 == t218 && (a1_2 == t219 && (a1_3 == t220)))) = true then (some (a0_0, a0_1, a0_2, a0_3)) else ((spec_l10Range.f a0_0 a0_1 a0_2 a0_3).bind fun bt221 => ((spec_l10Range.f a1_0 a1_1 a1_2 a1_3).bind fun bt223 => ((spec_RangeJoin.f kj2 bt221.1 bt221.2 bt223.1 bt223.2).bind fun bt225 => ((spec_l10Rest.f a0_0 a0_1 a0_2 a0_3).bind fun bt227 => ((spec_l10Rest.f a1_0 a1_1 a1_2 a1_3).bind fun bt229 => ((spec_RestJoin.f kj2 bt227.1 bt227.2 bt229.1 bt229.2).bind fun bt231 => ((spec_ValMake.f kj2 bt225.1 bt225.2 bt231.1 bt231.2).bind fun bt233 => (some (bt233.1, bt233.2.1, bt233.2.2.1, bt233.2.2.2)))))))))) = some (r1, r2, r3, r4) := H
     have A36 := am A360
     clear A360
     by_cases c37 : (a1_0 == t217 && (a1_1 == t218 && (a1_2 == t219 && (a1_3 == t220)))) = true
     ·rw [if_pos c37] at H
      have c37b0 : (a1_0 == t217 && (a1_1 == t218 && (a1_2 == t219 && (a1_3 == t220)))) = true := c37
      (try (have c37b1 : decide (a1_0 = t217 && (a1_1 == t218 && (a1_2 == t219 && (a1_3 == t220)))) = true := by simpa using c37))
      (try (have c37b2 : (a1_0 == t217 && (a1_1 == t218 && (a1_2 == t219 && (a1_3 == t220)))) = true := by simpa using c37))
      clear c37
      simp only [Option.some.injEq, Prod.mk.injEq] at H
      obtain ⟨rfl, rfl, rfl, rfl⟩ := H
      try go_wp2
      have n0_ := am (blk_drew BK204.out)
      have n1_ := am (blk_drew BK205.out)
      have n2_ := am (blk_drew BK206.out)
      have n3_ := am (below_drew1 HB.out)
      clear BK204
      clear BK205
      clear BK206
      clear HB
      have BK204 := n0_
      have BK205 := n1_
      have BK206 := n2_
      have HB := n3_
      clear n0_ n1_ n2_ n3_
      refine start_ (n := 3) (S := fun w' => w'.cell? ⟨gb204, 0, none⟩ = some (.int .i64 a0_0) ∧ w'.cell? ⟨gb204, 1, none⟩ = some (.int .i64 a0_1) ∧ w'.cell? ⟨gb204, 2, none⟩ = some (.int .i64 a0_2) ∧ w'.cell? ⟨gb204, 3, none⟩ = some (.int .i64 a0_3)) (ds := []) #[F, F, F] (by kernel_rfl) rfl rfl ⟨bc BK204 0, bc BK204 1, bc BK204 2, bc BK204 3⟩ (fun hHeld => ?_)
      generalize wc.drew = w38 at BK204 BK205 BK206 HB hHeld ⊢
      refine take_ (i := 0) (N := some 14) (v := ?_) (a' := ?_) #[T, F, F] rfl rfl (by kernel_rfl) (fun _ _ _ h => h) (Or.inl ⟨by rfl, ?_⟩) hHeld ?_ ?_
      rotate_left
      ·rintro w' ⟨s0, s1, s2, s3⟩
       go_simp
       with_reducible rfl
      rotate_left
      ·exact pz
      refine one_ (i := 1) (N := some 15) #[T, T, F] rfl rfl (by kernel_rfl) (by decide) (fun K hK => ?_)
      refine goes_ Try.func58 (by kernel_rfl) rfl #[] (by rfl) rfl rfl mz ?_
      with_reducible refine (spec_l10None.calls  t213 t214 t215 t216 _ A27.out).mono ?_
      rintro e w39 ⟨rfl, hb⟩
      refine ⟨_, rfl, ?_⟩
      have n0_ := am (blk_below (g := gb204) (o := b4 a0_0 a0_1 a0_2 a0_3 25) (Z BK204) hb)
      have n1_ := am (blk_below (g := gb205) (o := b4 a1_0 a1_1 a1_2 a1_3 25) (Z BK205) hb)
      have n2_ := am (blk_below (g := gb206) (o := b4 0 0 0 0 25) (Z BK206) hb)
      have n3_ := am (below_step (Y3 HB GE204 GE205 GE206) hb)
      clear BK204
      clear BK205
      clear BK206
      clear HB
      have BK204 := n0_
      have BK205 := n1_
      have BK206 := n2_
      have HB := n3_
      clear n0_ n1_ n2_ n3_
      (try clear hb)
      (try clear hb2)
      (try clear hk)
      (try clear hi)
      refine hK.out _ _ ⟨bc BK204 0, bc BK204 1, bc BK204 2, bc BK204 3⟩ (fun hHeld => ?_)
      clear hK K
      refine norm_ (a' := ?_) ?_ ?_
      rotate_left
      ·show Act.put _ (some 15) _ = _
       simp only [Act.put, List.setIfInBounds_toArray, List.set_cons_zero, List.set_cons_succ, i64_w, i32_w]
       rfl
      refine pure_ (i := 2) (N := some 16) (v := ?_) (a' := ?_) #[T, T, T] rfl rfl (by kernel_rfl) (fun _ _ _ h => h) (Or.inl ⟨by rfl, ?_⟩) ?_ ?_
      rotate_left
      ·exact gz
      rotate_left
      ·exact pz
      refine done_ (by kernel_rfl) ?_
      try go_wp2
      have n0_ := am (blk_drew BK204.out)
      have n1_ := am (blk_drew BK205.out)
      have n2_ := am (blk_drew BK206.out)
      have n3_ := am (below_drew1 HB.out)
      clear BK204
      clear BK205
      clear BK206
      clear HB
      have BK204 := n0_
      have BK205 := n1_
      have BK206 := n2_
      have HB := n3_
      clear n0_ n1_ n2_ n3_
      refine start_ (n := 3) (S := fun w' => w'.cell? ⟨gb205, 0, none⟩ = some (.int .i64 a1_0) ∧ w'.cell? ⟨gb205, 1, none⟩ = some (.int .i64 a1_1) ∧ w'.cell? ⟨gb205, 2, none⟩ = some (.int .i64 a1_2) ∧ w'.cell? ⟨gb205, 3, none⟩ = some (.int .i64 a1_3)) (ds := []) #[F, F, F] (by kernel_rfl) rfl rfl ⟨bc BK205 0, bc BK205 1, bc BK205 2, bc BK205 3⟩ (fun hHeld => ?_)
      generalize w39.drew = w40 at BK204 BK205 BK206 HB hHeld ⊢
      refine take_ (i := 0) (N := some 18) (v := ?_) (a' := ?_) #[T, F, F] rfl rfl (by kernel_rfl) (fun _ _ _ h => h) (Or.inl ⟨by rfl, ?_⟩) hHeld ?_ ?_
      rotate_left
      ·rintro w' ⟨s0, s1, s2, s3⟩
       go_simp
       with_reducible rfl
      rotate_left
      ·exact pz
      refine one_ (i := 1) (N := some 19) #[T, T, F] rfl rfl (by kernel_rfl) (by decide) (fun K hK => ?_)
      refine goes_ Try.func58 (by kernel_rfl) rfl #[] (by rfl) rfl rfl mz ?_
      with_reducible refine (spec_l10None.calls  t217 t218 t219 t220 _ A36.out).mono ?_
      rintro e w41 ⟨rfl, hb⟩
      refine ⟨_, rfl, ?_⟩
      have n0_ := am (blk_below (g := gb204) (o := b4 a0_0 a0_1 a0_2 a0_3 25) (Z BK204) hb)
      have n1_ := am (blk_below (g := gb205) (o := b4 a1_0 a1_1 a1_2 a1_3 25) (Z BK205) hb)
      have n2_ := am (blk_below (g := gb206) (o := b4 0 0 0 0 25) (Z BK206) hb)
      have n3_ := am (below_step (Y3 HB GE204 GE205 GE206) hb)
      clear BK204
      clear BK205
      clear BK206
      clear HB
      have BK204 := n0_
      have BK205 := n1_
      have BK206 := n2_
      have HB := n3_
      clear n0_ n1_ n2_ n3_
      (try clear hb)
      (try clear hb2)
      (try clear hk)
      (try clear hi)
      refine hK.out _ _ ⟨bc BK205 0, bc BK205 1, bc BK205 2, bc BK205 3⟩ (fun hHeld => ?_)
      clear hK K
      refine norm_ (a' := ?_) ?_ ?_
      rotate_left
      ·show Act.put _ (some 19) _ = _
       simp only [Act.put, List.setIfInBounds_toArray, List.set_cons_zero, List.set_cons_succ, i64_w, i32_w]
       rfl
      refine pure_ (i := 2) (N := some 20) (v := ?_) (a' := ?_) #[T, T, T] rfl rfl (by kernel_rfl) (fun _ _ _ h => h) (Or.inl ⟨by rfl, ?_⟩) ?_ ?_
      rotate_left
      ·exact gz
      rotate_left
      ·exact pz
      refine done_ (by kernel_rfl) ?_
      have hnb42 := NB204_205.out
      have hnc42 := NB205_204.out
      have hnb43 := NB204_206.out
      have hnc43 := NB206_204.out
      have hcz44_0 : w41.cell? ⟨gb204, 0, none⟩ = some (.int .i64 a0_0) := bc BK204 0
      have hcz44_1 : w41.cell? ⟨gb204, 1, none⟩ = some (.int .i64 a0_1) := bc BK204 1
      have hcz44_2 : w41.cell? ⟨gb204, 2, none⟩ = some (.int .i64 a0_2) := bc BK204 2
      have hcz44_3 : w41.cell? ⟨gb204, 3, none⟩ = some (.int .i64 a0_3) := bc BK204 3
      have hfz44_0 := blk_frozen BK204.out 0
      have hfz44_1 := blk_frozen BK204.out 1
      have hfz44_2 := blk_frozen BK204.out 2
      have hfz44_3 := blk_frozen BK204.out 3
      have hnb45 := NB206_205.out
      have hnc45 := NB205_206.out
      have hcz46_0 : w41.cell? ⟨gb206, 0, none⟩ = some (.int .i64 0) := bc BK206 0
      have hcz46_1 : w41.cell? ⟨gb206, 1, none⟩ = some (.int .i64 0) := bc BK206 1
      have hcz46_2 : w41.cell? ⟨gb206, 2, none⟩ = some (.int .i64 0) := bc BK206 2
      have hcz46_3 : w41.cell? ⟨gb206, 3, none⟩ = some (.int .i64 0) := bc BK206 3
      have hfz46_0 := blk_frozen BK206.out 0
      have hfz46_1 := blk_frozen BK206.out 1
      have hfz46_2 := blk_frozen BK206.out 2
      have hfz46_3 := blk_frozen BK206.out 3
      try go_wp2
      refine bodyPost_ret (results_cell_row rfl _ _ gb206 25 #[.int .i64 a0_0, .int .i64 a0_1, .int .i64 a0_2, .int .i64 a0_3] (0, 0) _ rfl (by (with_reducible repeat (first | refine blk_drewN ?_ _ | refine blk_drew ?_ | refine blk_alloc ?_ _)); refine blk_put (cs := #[.int .i64 a0_0, .int .i64 a0_1, .int .i64 a0_2, .int .i64 0]) ?_ 3 _ rfl; (with_reducible repeat (first | refine blk_drewN ?_ _ | refine blk_drew ?_ | refine blk_alloc ?_ _)); refine blk_put (cs := #[.int .i64 a0_0, .int .i64 a0_1, .int .i64 0, .int .i64 0]) ?_ 2 _ rfl; (with_reducible repeat (first | refine blk_drewN ?_ _ | refine blk_drew ?_ | refine blk_alloc ?_ _)); refine blk_put (cs := #[.int .i64 a0_0, .int .i64 0, .int .i64 0, .int .i64 0]) ?_ 1 _ rfl; (with_reducible repeat (first | refine blk_drewN ?_ _ | refine blk_drew ?_ | refine blk_alloc ?_ _)); refine blk_put (cs := #[.int .i64 0, .int .i64 0, .int .i64 0, .int .i64 0]) ?_ 0 _ rfl; (with_reducible repeat (first | refine blk_drewN ?_ _ | refine blk_drew ?_ | refine blk_alloc ?_ _)); exact BK206.out) Try.underlying25 rfl (by kernel_rfl)) rfl ?_
      exact ⟨by first | rfl | (simp [errW_none, errW_some] <;> rfl) | (simp [*, errW_none, errW_some] <;> rfl), Y3 HB GE204 GE205 GE206⟩
     ·rw [if_neg c37] at H
      have c37b0 : (a1_0 == t217 && (a1_1 == t218 && (a1_2 == t219 && (a1_3 == t220)))) = false := by simpa using c37
      (try (have c37b1 : decide (a1_0 = t217 && (a1_1 == t218 && (a1_2 == t219 && (a1_3 == t220)))) = false := by simpa using c37))
      (try (have c37b2 : (a1_0 == t217 && (a1_1 == t218 && (a1_2 == t219 && (a1_3 == t220)))) = false := by simpa using c37))
      (try (have c37b3 : ¬ (a1_0 = t217 && (a1_1 == t218 && (a1_2 == t219 && (a1_3 == t220)))) := by simpa using c37))
      clear c37
      replace H := Option.bind_eq_some_iff.mp H
      obtain ⟨⟨t221, t222⟩, A470, H⟩ := H
      replace H : ((spec_l10Range.f a1_0 a1_1 a1_2 a1_3).bind fun bt223 => ((spec_RangeJoin.f kj2 t221 t222 bt223.1 bt223.2).bind fun bt225 => ((spec_l10Rest.f a0_0 a0_1 a0_2 a0_3).bind fun bt227 => ((spec_l10Rest.f a1_0 a1_1 a1_2 a1_3).bind fun bt229 => ((spec_RestJoin.f kj2 bt227.1 bt227.2 bt229.1 bt229.2).bind fun bt231 => ((spec_ValMake.f kj2 bt225.1 bt225.2 bt231.1 bt231.2).bind fun bt233 => (some (bt233.1, bt233.2.1, bt233.2.2.1, bt233.2.2.2)))))))) = some (r1, r2, r3, r4) := H
      have A47 := am A470
      clear A470
      replace H := Option.bind_eq_some_iff.mp H
      obtain ⟨⟨t223, t224⟩, A480, H⟩ := H
      replace H : ((spec_RangeJoin.f kj2 t221 t222 t223 t224).bind fun bt225 => ((spec_l10Rest.f a0_0 a0_1 a0_2 a0_3).bind fun bt227 => ((spec_l10Rest.f a1_0 a1_1 a1_2 a1_3).bind fun bt229 => ((spec_RestJoin.f kj2 bt227.1 bt227.2 bt229.1 bt229.2).bind fun bt231 => ((spec_ValMake.f kj2 bt225.1 bt225.2 bt231.1 bt231.2).bind fun bt233 => (some (bt233.1, bt233.2.1, bt233.2.2.1, bt233.2.2.2))))))) = some (r1, r2, r3, r4) := H
      have A48 := am A480
      clear A480
      replace H := Option.bind_eq_some_iff.mp H
      obtain ⟨⟨t225, t226⟩, A490, H⟩ := H
      replace H : ((spec_l10Rest.f a0_0 a0_1 a0_2 a0_3).bind fun bt227 => ((spec_l10Rest.f a1_0 a1_1 a1_2 a1_3).bind fun bt229 => ((spec_RestJoin.f kj2 bt227.1 bt227.2 bt229.1 bt229.2).bind fun bt231 => ((spec_ValMake.f kj2 t225 t226 bt231.1 bt231.2).bind fun bt233 => (some (bt233.1, bt233.2.1, bt233.2.2.1, bt233.2.2.2)))))) = some (r1, r2, r3, r4) := H
      have A49 := am A490
      clear A490
      replace H := Option.bind_eq_some_iff.mp H
      obtain ⟨⟨t227, t228⟩, A500, H⟩ := H
      replace H : ((spec_l10Rest.f a1_0 a1_1 a1_2 a1_3).bind fun bt229 => ((spec_RestJoin.f kj2 t227 t228 bt229.1 bt229.2).bind fun bt231 => ((spec_ValMake.f kj2 t225 t226 bt231.1 bt231.2).bind fun bt233 => (some (bt233.1, bt233.2.1, bt233.2.2.1, bt233.2.2.2))))) = some (r1, r2, r3, r4) := H
      have A50 := am A500
      clear A500
      replace H := Option.bind_eq_some_iff.mp H
      obtain ⟨⟨t229, t230⟩, A510, H⟩ := H
      replace H : ((spec_RestJoin.f kj2 t227 t228 t229 t230).bind fun bt231 => ((spec_ValMake.f kj2 t225 t226 bt231.1 bt231.2).bind fun bt233 => (some (bt233.1, bt233.2.1, bt233.2.2.1, bt233.2.2.2)))) = some (r1, r2, r3, r4) := H
      have A51 := am A510
      clear A510
      replace H := Option.bind_eq_some_iff.mp H
      obtain ⟨⟨t231, t232⟩, A520, H⟩ := H
      replace H : ((spec_ValMake.f kj2 t225 t226 t231 t232).bind fun bt233 => (some (bt233.1, bt233.2.1, bt233.2.2.1, bt233.2.2.2))) = some (r1, r2, r3, r4) := H
      have A52 := am A520
      clear A520
      replace H := Option.bind_eq_some_iff.mp H
      obtain ⟨⟨t233, t234, t235, t236⟩, A530, H⟩ := H
      replace H : (some (t233, t234, t235, t236)) = some (r1, r2, r3, r4) := H
      have A53 := am A530
      clear A530
      simp only [Option.some.injEq, Prod.mk.injEq] at H
      obtain ⟨rfl, rfl, rfl, rfl⟩ := H
      try go_wp2
      have n0_ := am (blk_drew BK204.out)
      have n1_ := am (blk_drew BK205.out)
      have n2_ := am (blk_drew BK206.out)
      have n3_ := am (below_drew1 HB.out)
      clear BK204
      clear BK205
      clear BK206
      clear HB
      have BK204 := n0_
      have BK205 := n1_
      have BK206 := n2_
      have HB := n3_
      clear n0_ n1_ n2_ n3_
      refine start_ (n := 3) (S := fun w' => w'.cell? ⟨gb204, 0, none⟩ = some (.int .i64 a0_0) ∧ w'.cell? ⟨gb204, 1, none⟩ = some (.int .i64 a0_1) ∧ w'.cell? ⟨gb204, 2, none⟩ = some (.int .i64 a0_2) ∧ w'.cell? ⟨gb204, 3, none⟩ = some (.int .i64 a0_3)) (ds := []) #[F, F, F] (by kernel_rfl) rfl rfl ⟨bc BK204 0, bc BK204 1, bc BK204 2, bc BK204 3⟩ (fun hHeld => ?_)
      generalize wc.drew = w54 at BK204 BK205 BK206 HB hHeld ⊢
      refine take_ (i := 0) (N := some 14) (v := ?_) (a' := ?_) #[T, F, F] rfl rfl (by kernel_rfl) (fun _ _ _ h => h) (Or.inl ⟨by rfl, ?_⟩) hHeld ?_ ?_
      rotate_left
      ·rintro w' ⟨s0, s1, s2, s3⟩
       go_simp
       with_reducible rfl
      rotate_left
      ·exact pz
      refine one_ (i := 1) (N := some 15) #[T, T, F] rfl rfl (by kernel_rfl) (by decide) (fun K hK => ?_)
      refine goes_ Try.func58 (by kernel_rfl) rfl #[] (by rfl) rfl rfl mz ?_
      with_reducible refine (spec_l10None.calls  t213 t214 t215 t216 _ A27.out).mono ?_
      rintro e w55 ⟨rfl, hb⟩
      refine ⟨_, rfl, ?_⟩
      have n0_ := am (blk_below (g := gb204) (o := b4 a0_0 a0_1 a0_2 a0_3 25) (Z BK204) hb)
      have n1_ := am (blk_below (g := gb205) (o := b4 a1_0 a1_1 a1_2 a1_3 25) (Z BK205) hb)
      have n2_ := am (blk_below (g := gb206) (o := b4 0 0 0 0 25) (Z BK206) hb)
      have n3_ := am (below_step (Y3 HB GE204 GE205 GE206) hb)
      clear BK204
      clear BK205
      clear BK206
      clear HB
      have BK204 := n0_
      have BK205 := n1_
      have BK206 := n2_
      have HB := n3_
      clear n0_ n1_ n2_ n3_
      (try clear hb)
      (try clear hb2)
      (try clear hk)
      (try clear hi)
      refine hK.out _ _ ⟨bc BK204 0, bc BK204 1, bc BK204 2, bc BK204 3⟩ (fun hHeld => ?_)
      clear hK K
      refine norm_ (a' := ?_) ?_ ?_
      rotate_left
      ·show Act.put _ (some 15) _ = _
       simp only [Act.put, List.setIfInBounds_toArray, List.set_cons_zero, List.set_cons_succ, i64_w, i32_w]
       rfl
      refine pure_ (i := 2) (N := some 16) (v := ?_) (a' := ?_) #[T, T, T] rfl rfl (by kernel_rfl) (fun _ _ _ h => h) (Or.inl ⟨by rfl, ?_⟩) ?_ ?_
      rotate_left
      ·exact gz
      rotate_left
      ·exact pz
      refine done_ (by kernel_rfl) ?_
      try go_wp2
      have n0_ := am (blk_drew BK204.out)
      have n1_ := am (blk_drew BK205.out)
      have n2_ := am (blk_drew BK206.out)
      have n3_ := am (below_drew1 HB.out)
      clear BK204
      clear BK205
      clear BK206
      clear HB
      have BK204 := n0_
      have BK205 := n1_
      have BK206 := n2_
      have HB := n3_
      clear n0_ n1_ n2_ n3_
      refine start_ (n := 3) (S := fun w' => w'.cell? ⟨gb205, 0, none⟩ = some (.int .i64 a1_0) ∧ w'.cell? ⟨gb205, 1, none⟩ = some (.int .i64 a1_1) ∧ w'.cell? ⟨gb205, 2, none⟩ = some (.int .i64 a1_2) ∧ w'.cell? ⟨gb205, 3, none⟩ = some (.int .i64 a1_3)) (ds := []) #[F, F, F] (by kernel_rfl) rfl rfl ⟨bc BK205 0, bc BK205 1, bc BK205 2, bc BK205 3⟩ (fun hHeld => ?_)
      generalize w55.drew = w56 at BK204 BK205 BK206 HB hHeld ⊢
      refine take_ (i := 0) (N := some 18) (v := ?_) (a' := ?_) #[T, F, F] rfl rfl (by kernel_rfl) (fun _ _ _ h => h) (Or.inl ⟨by rfl, ?_⟩) hHeld ?_ ?_
      rotate_left
      ·rintro w' ⟨s0, s1, s2, s3⟩
       go_simp
       with_reducible rfl
      rotate_left
      ·exact pz
      refine one_ (i := 1) (N := some 19) #[T, T, F] rfl rfl (by kernel_rfl) (by decide) (fun K hK => ?_)
      refine goes_ Try.func58 (by kernel_rfl) rfl #[] (by rfl) rfl rfl mz ?_
      with_reducible refine (spec_l10None.calls  t217 t218 t219 t220 _ A36.out).mono ?_
      rintro e w57 ⟨rfl, hb⟩
      refine ⟨_, rfl, ?_⟩
      have n0_ := am (blk_below (g := gb204) (o := b4 a0_0 a0_1 a0_2 a0_3 25) (Z BK204) hb)
      have n1_ := am (blk_below (g := gb205) (o := b4 a1_0 a1_1 a1_2 a1_3 25) (Z BK205) hb)
      have n2_ := am (blk_below (g := gb206) (o := b4 0 0 0 0 25) (Z BK206) hb)
      have n3_ := am (below_step (Y3 HB GE204 GE205 GE206) hb)
      clear BK204
      clear BK205
      clear BK206
      clear HB
      have BK204 := n0_
      have BK205 := n1_
      have BK206 := n2_
      have HB := n3_
      clear n0_ n1_ n2_ n3_
      (try clear hb)
      (try clear hb2)
      (try clear hk)
      (try clear hi)
      refine hK.out _ _ ⟨bc BK205 0, bc BK205 1, bc BK205 2, bc BK205 3⟩ (fun hHeld => ?_)
      clear hK K
      refine norm_ (a' := ?_) ?_ ?_
      rotate_left
      ·show Act.put _ (some 19) _ = _
       simp only [Act.put, List.setIfInBounds_toArray, List.set_cons_zero, List.set_cons_succ, i64_w, i32_w]
       rfl
      refine pure_ (i := 2) (N := some 20) (v := ?_) (a' := ?_) #[T, T, T] rfl rfl (by kernel_rfl) (fun _ _ _ h => h) (Or.inl ⟨by rfl, ?_⟩) ?_ ?_
      rotate_left
      ·exact gz
      rotate_left
      ·exact pz
      refine done_ (by kernel_rfl) ?_
      try go_wp2
      have n0_ := am (blk_drew BK204.out)
      have n1_ := am (blk_drew BK205.out)
      have n2_ := am (blk_drew BK206.out)
      have n3_ := am (below_drew1 HB.out)
      clear BK204
      clear BK205
      clear BK206
      clear HB
      have BK204 := n0_
      have BK205 := n1_
      have BK206 := n2_
      have HB := n3_
      clear n0_ n1_ n2_ n3_
      refine start_ (n := 12) (S := fun w' => w'.cell? ⟨gb204, 0, none⟩ = some (.int .i64 a0_0) ∧ w'.cell? ⟨gb204, 1, none⟩ = some (.int .i64 a0_1) ∧ w'.cell? ⟨gb204, 2, none⟩ = some (.int .i64 a0_2) ∧ w'.cell? ⟨gb204, 3, none⟩ = some (.int .i64 a0_3) ∧ w'.cell? ⟨gb205, 0, none⟩ = some (.int .i64 a1_0) ∧ w'.cell? ⟨gb205, 1, none⟩ = some (.int .i64 a1_1) ∧ w'.cell? ⟨gb205, 2, none⟩ = some (.int .i64 a1_2) ∧ w'.cell? ⟨gb205, 3, none⟩ = some (.int .i64 a1_3)) (ds := []) #[F, F, F, F, F, F, F, F, F, F, F, F] (by kernel_rfl) rfl rfl ⟨bc BK204 0, bc BK204 1, bc BK204 2, bc BK204 3, bc BK205 0, bc BK205 1, bc BK205 2, bc BK205 3⟩ (fun hHeld => ?_); refine with_tabW spec_ValJoin.tab7 spec_ValJoin.bits7 (fun HT_ HW_ => ?_)
      generalize w57.drew = w58 at BK204 BK205 BK206 HB hHeld ⊢
      refine take_ (i := 0) (N := some 22) (v := ?_) (a' := ?_) #[T, F, F, F, F, F, F, F, F, F, F, F] rfl rfl (take_ofW HT_.out HW_.out (by kernel_rfl)) (fun _ _ _ h => h) (Or.inl ⟨by rfl, ?_⟩) hHeld ?_ ?_
      rotate_left
      ·rintro w' ⟨s0, s1, s2, s3, s4, s5, s6, s7⟩
       go_simp
       with_reducible rfl
      rotate_left
      ·exact pz
      refine take_ (i := 2) (N := some 24) (v := ?_) (a' := ?_) #[T, F, T, F, F, F, F, F, F, F, F, F] rfl rfl (take_ofW HT_.out HW_.out (by kernel_rfl)) (fun _ _ _ h => h) (Or.inl ⟨by rfl, ?_⟩) hHeld ?_ ?_
      rotate_left
      ·rintro w' ⟨s0, s1, s2, s3, s4, s5, s6, s7⟩
       go_simp
       with_reducible rfl
      rotate_left
      ·exact pz
      refine take_ (i := 5) (N := some 27) (v := ?_) (a' := ?_) #[T, F, T, F, F, T, F, F, F, F, F, F] rfl rfl (take_ofW HT_.out HW_.out (by kernel_rfl)) (fun _ _ _ h => h) (Or.inl ⟨by rfl, ?_⟩) hHeld ?_ ?_
      rotate_left
      ·rintro w' ⟨s0, s1, s2, s3, s4, s5, s6, s7⟩
       go_simp
       with_reducible rfl
      rotate_left
      ·exact pz
      refine take_ (i := 7) (N := some 29) (v := ?_) (a' := ?_) #[T, F, T, F, F, T, F, T, F, F, F, F] rfl rfl (take_ofW HT_.out HW_.out (by kernel_rfl)) (fun _ _ _ h => h) (Or.inl ⟨by rfl, ?_⟩) hHeld ?_ ?_
      rotate_left
      ·rintro w' ⟨s0, s1, s2, s3, s4, s5, s6, s7⟩
       go_simp
       with_reducible rfl
      rotate_left
      ·exact pz
      refine one_ (i := 1) (N := some 23) #[T, T, T, F, F, T, F, T, F, F, F, F] rfl rfl (one_of HT_.out (by kernel_rfl)) (by decide) (fun K hK => ?_)
      refine goes_ Try.func60 (by kernel_rfl) rfl #[.agg #[.int .i64 a0_0, .int .i64 a0_1, .int .i64 a0_2, .int .i64 a0_3]] (by rfl) rfl rfl mz ?_
      with_reducible refine (spec_l10Range.calls a0_0 a0_1 a0_2 a0_3 t221 t222 _ A47.out).mono ?_
      rintro e w59 ⟨rfl, hb⟩
      refine ⟨_, rfl, ?_⟩
      have n0_ := am (blk_below (g := gb204) (o := b4 a0_0 a0_1 a0_2 a0_3 25) (Z BK204) hb)
      have n1_ := am (blk_below (g := gb205) (o := b4 a1_0 a1_1 a1_2 a1_3 25) (Z BK205) hb)
      have n2_ := am (blk_below (g := gb206) (o := b4 0 0 0 0 25) (Z BK206) hb)
      have n3_ := am (below_step (Y3 HB GE204 GE205 GE206) hb)
      clear BK204
      clear BK205
      clear BK206
      clear HB
      have BK204 := n0_
      have BK205 := n1_
      have BK206 := n2_
      have HB := n3_
      clear n0_ n1_ n2_ n3_
      (try clear hb)
      (try clear hb2)
      (try clear hk)
      (try clear hi)
      refine hK.out _ _ ⟨bc BK204 0, bc BK204 1, bc BK204 2, bc BK204 3, bc BK205 0, bc BK205 1, bc BK205 2, bc BK205 3⟩ (fun hHeld => ?_)
      clear hK K
      refine norm_ (a' := ?_) ?_ ?_
      rotate_left
      ·show Act.put _ (some 23) _ = _
       simp only [Act.put, List.setIfInBounds_toArray, List.set_cons_zero, List.set_cons_succ, i64_w, i32_w]
       rfl
      refine one_ (i := 3) (N := some 25) #[T, T, T, T, F, T, F, T, F, F, F, F] rfl rfl (one_of HT_.out (by kernel_rfl)) (by decide) (fun K hK => ?_)
      refine goes_ Try.func60 (by kernel_rfl) rfl #[.agg #[.int .i64 a1_0, .int .i64 a1_1, .int .i64 a1_2, .int .i64 a1_3]] (by rfl) rfl rfl mz ?_
      with_reducible refine (spec_l10Range.calls a1_0 a1_1 a1_2 a1_3 t223 t224 _ A48.out).mono ?_
      rintro e w60 ⟨rfl, hb⟩
      refine ⟨_, rfl, ?_⟩
      have n0_ := am (blk_below (g := gb204) (o := b4 a0_0 a0_1 a0_2 a0_3 25) (Z BK204) hb)
      have n1_ := am (blk_below (g := gb205) (o := b4 a1_0 a1_1 a1_2 a1_3 25) (Z BK205) hb)
      have n2_ := am (blk_below (g := gb206) (o := b4 0 0 0 0 25) (Z BK206) hb)
      have n3_ := am (below_step (Y3 HB GE204 GE205 GE206) hb)
      clear BK204
      clear BK205
      clear BK206
      clear HB
      have BK204 := n0_
      have BK205 := n1_
      have BK206 := n2_
      have HB := n3_
      clear n0_ n1_ n2_ n3_
      (try clear hb)
      (try clear hb2)
      (try clear hk)
      (try clear hi)
      refine hK.out _ _ ⟨bc BK204 0, bc BK204 1, bc BK204 2, bc BK204 3, bc BK205 0, bc BK205 1, bc BK205 2, bc BK205 3⟩ (fun hHeld => ?_)
      clear hK K
      refine norm_ (a' := ?_) ?_ ?_
      rotate_left
      ·show Act.put _ (some 25) _ = _
       simp only [Act.put, List.setIfInBounds_toArray, List.set_cons_zero, List.set_cons_succ, i64_w, i32_w]
       rfl
      refine one_ (i := 4) (N := some 26) #[T, T, T, T, T, T, F, T, F, F, F, F] rfl rfl (one_of HT_.out (by kernel_rfl)) (by decide) (fun K hK => ?_)
      refine goes_ Try.func74 (by kernel_rfl) rfl #[.agg #[.int .i64 t221, .int .i64 t222], .agg #[.int .i64 t223, .int .i64 t224]] (by rfl) rfl rfl mz ?_
      with_reducible refine (spec_RangeJoin.calls kj2 t221 t222 t223 t224 t225 t226 _ A49.out).mono ?_
      rintro e w61 ⟨rfl, hb⟩
      refine ⟨_, rfl, ?_⟩
      have n0_ := am (blk_below (g := gb204) (o := b4 a0_0 a0_1 a0_2 a0_3 25) (Z BK204) hb)
      have n1_ := am (blk_below (g := gb205) (o := b4 a1_0 a1_1 a1_2 a1_3 25) (Z BK205) hb)
      have n2_ := am (blk_below (g := gb206) (o := b4 0 0 0 0 25) (Z BK206) hb)
      have n3_ := am (below_step (Y3 HB GE204 GE205 GE206) hb)
      clear BK204
      clear BK205
      clear BK206
      clear HB
      have BK204 := n0_
      have BK205 := n1_
      have BK206 := n2_
      have HB := n3_
      clear n0_ n1_ n2_ n3_
      (try clear hb)
      (try clear hb2)
      (try clear hk)
      (try clear hi)
      refine hK.out _ _ ⟨bc BK204 0, bc BK204 1, bc BK204 2, bc BK204 3, bc BK205 0, bc BK205 1, bc BK205 2, bc BK205 3⟩ (fun hHeld => ?_)
      clear hK K
      refine norm_ (a' := ?_) ?_ ?_
      rotate_left
      ·show Act.put _ (some 26) _ = _
       simp only [Act.put, List.setIfInBounds_toArray, List.set_cons_zero, List.set_cons_succ, i64_w, i32_w]
       rfl
      refine one_ (i := 6) (N := some 28) #[T, T, T, T, T, T, T, T, F, F, F, F] rfl rfl (one_of HT_.out (by kernel_rfl)) (by decide) (fun K hK => ?_)
      refine goes_ Try.func62 (by kernel_rfl) rfl #[.agg #[.int .i64 a0_0, .int .i64 a0_1, .int .i64 a0_2, .int .i64 a0_3]] (by rfl) rfl rfl mz ?_
      with_reducible refine (spec_l10Rest.calls a0_0 a0_1 a0_2 a0_3 t227 t228 _ A50.out).mono ?_
      rintro e w62 ⟨rfl, hb⟩
      refine ⟨_, rfl, ?_⟩
      have n0_ := am (blk_below (g := gb204) (o := b4 a0_0 a0_1 a0_2 a0_3 25) (Z BK204) hb)
      have n1_ := am (blk_below (g := gb205) (o := b4 a1_0 a1_1 a1_2 a1_3 25) (Z BK205) hb)
      have n2_ := am (blk_below (g := gb206) (o := b4 0 0 0 0 25) (Z BK206) hb)
      have n3_ := am (below_step (Y3 HB GE204 GE205 GE206) hb)
      clear BK204
      clear BK205
      clear BK206
      clear HB
      have BK204 := n0_
      have BK205 := n1_
      have BK206 := n2_
      have HB := n3_
      clear n0_ n1_ n2_ n3_
      (try clear hb)
      (try clear hb2)
      (try clear hk)
      (try clear hi)
      refine hK.out _ _ ⟨bc BK204 0, bc BK204 1, bc BK204 2, bc BK204 3, bc BK205 0, bc BK205 1, bc BK205 2, bc BK205 3⟩ (fun hHeld => ?_)
      clear hK K
      refine norm_ (a' := ?_) ?_ ?_
      rotate_left
      ·show Act.put _ (some 28) _ = _
       simp only [Act.put, List.setIfInBounds_toArray, List.set_cons_zero, List.set_cons_succ, i64_w, i32_w]
       rfl
      refine one_ (i := 8) (N := some 30) #[T, T, T, T, T, T, T, T, T, F, F, F] rfl rfl (one_of HT_.out (by kernel_rfl)) (by decide) (fun K hK => ?_)
      refine goes_ Try.func62 (by kernel_rfl) rfl #[.agg #[.int .i64 a1_0, .int .i64 a1_1, .int .i64 a1_2, .int .i64 a1_3]] (by rfl) rfl rfl mz ?_
      with_reducible refine (spec_l10Rest.calls a1_0 a1_1 a1_2 a1_3 t229 t230 _ A51.out).mono ?_
      rintro e w63 ⟨rfl, hb⟩
      refine ⟨_, rfl, ?_⟩
      have n0_ := am (blk_below (g := gb204) (o := b4 a0_0 a0_1 a0_2 a0_3 25) (Z BK204) hb)
      have n1_ := am (blk_below (g := gb205) (o := b4 a1_0 a1_1 a1_2 a1_3 25) (Z BK205) hb)
      have n2_ := am (blk_below (g := gb206) (o := b4 0 0 0 0 25) (Z BK206) hb)
      have n3_ := am (below_step (Y3 HB GE204 GE205 GE206) hb)
      clear BK204
      clear BK205
      clear BK206
      clear HB
      have BK204 := n0_
      have BK205 := n1_
      have BK206 := n2_
      have HB := n3_
      clear n0_ n1_ n2_ n3_
      (try clear hb)
      (try clear hb2)
      (try clear hk)
      (try clear hi)
      refine hK.out _ _ ⟨bc BK204 0, bc BK204 1, bc BK204 2, bc BK204 3, bc BK205 0, bc BK205 1, bc BK205 2, bc BK205 3⟩ (fun hHeld => ?_)
      clear hK K
      refine norm_ (a' := ?_) ?_ ?_
      rotate_left
      ·show Act.put _ (some 30) _ = _
       simp only [Act.put, List.setIfInBounds_toArray, List.set_cons_zero, List.set_cons_succ, i64_w, i32_w]
       rfl
      refine one_ (i := 9) (N := some 31) #[T, T, T, T, T, T, T, T, T, T, F, F] rfl rfl (one_of HT_.out (by kernel_rfl)) (by decide) (fun K hK => ?_)
      refine goes_ Try.func75 (by kernel_rfl) rfl #[.agg #[.int .i64 t227, .int .i64 t228], .agg #[.int .i64 t229, .int .i64 t230]] (by rfl) rfl rfl mz ?_
      with_reducible refine (spec_RestJoin.calls kj2 t227 t228 t229 t230 t231 t232 _ A52.out).mono ?_
      rintro e w64 ⟨rfl, hb⟩
      refine ⟨_, rfl, ?_⟩
      have n0_ := am (blk_below (g := gb204) (o := b4 a0_0 a0_1 a0_2 a0_3 25) (Z BK204) hb)
      have n1_ := am (blk_below (g := gb205) (o := b4 a1_0 a1_1 a1_2 a1_3 25) (Z BK205) hb)
      have n2_ := am (blk_below (g := gb206) (o := b4 0 0 0 0 25) (Z BK206) hb)
      have n3_ := am (below_step (Y3 HB GE204 GE205 GE206) hb)
      clear BK204
      clear BK205
      clear BK206
      clear HB
      have BK204 := n0_
      have BK205 := n1_
      have BK206 := n2_
      have HB := n3_
      clear n0_ n1_ n2_ n3_
      (try clear hb)
      (try clear hb2)
      (try clear hk)
      (try clear hi)
      refine hK.out _ _ ⟨bc BK204 0, bc BK204 1, bc BK204 2, bc BK204 3, bc BK205 0, bc BK205 1, bc BK205 2, bc BK205 3⟩ (fun hHeld => ?_)
      clear hK K
      refine norm_ (a' := ?_) ?_ ?_
      rotate_left
      ·show Act.put _ (some 31) _ = _
       simp only [Act.put, List.setIfInBounds_toArray, List.set_cons_zero, List.set_cons_succ, i64_w, i32_w]
       rfl
      refine one_ (i := 10) (N := some 32) #[T, T, T, T, T, T, T, T, T, T, T, F] rfl rfl (one_of HT_.out (by kernel_rfl)) (by decide) (fun K hK => ?_)
      refine goes_ Try.func73 (by kernel_rfl) rfl #[.agg #[.int .i64 t225, .int .i64 t226], .agg #[.int .i64 t231, .int .i64 t232]] (by rfl) rfl rfl mz ?_
      with_reducible refine (spec_ValMake.calls kj2 t225 t226 t231 t232 t233 t234 t235 t236 _ A53.out).mono ?_
      rintro e w65 ⟨rfl, hb⟩
      refine ⟨_, rfl, ?_⟩
      have n0_ := am (blk_below (g := gb204) (o := b4 a0_0 a0_1 a0_2 a0_3 25) (Z BK204) hb)
      have n1_ := am (blk_below (g := gb205) (o := b4 a1_0 a1_1 a1_2 a1_3 25) (Z BK205) hb)
      have n2_ := am (blk_below (g := gb206) (o := b4 0 0 0 0 25) (Z BK206) hb)
      have n3_ := am (below_step (Y3 HB GE204 GE205 GE206) hb)
      clear BK204
      clear BK205
      clear BK206
      clear HB
      have BK204 := n0_
      have BK205 := n1_
      have BK206 := n2_
      have HB := n3_
      clear n0_ n1_ n2_ n3_
      (try clear hb)
      (try clear hb2)
      (try clear hk)
      (try clear hi)
      refine hK.out _ _ ⟨bc BK204 0, bc BK204 1, bc BK204 2, bc BK204 3, bc BK205 0, bc BK205 1, bc BK205 2, bc BK205 3⟩ (fun hHeld => ?_)
      clear hK K
      refine norm_ (a' := ?_) ?_ ?_
      rotate_left
      ·show Act.put _ (some 32) _ = _
       simp only [Act.put, List.setIfInBounds_toArray, List.set_cons_zero, List.set_cons_succ, i64_w, i32_w]
       rfl
      refine one_ (i := 11) (N := none) #[T, T, T, T, T, T, T, T, T, T, T, T] rfl rfl (one_of HT_.out (by kernel_rfl)) (by decide) (fun K hK => ?_)
      have hs66 : w65.cell? ⟨gb206, 0, none⟩ = some (.int .i64 0) := bc BK206 0
      have hfs66 := blk_frozen BK206.out 0
      have hns66_0 := NB204_206.out
      have hns66_1 := NB205_206.out
      have hms66_0 := NB206_204.out
      have hms66_1 := NB206_205.out
      have hs67 : w65.cell? ⟨gb206, 1, none⟩ = some (.int .i64 0) := bc BK206 1
      have hfs67 := blk_frozen BK206.out 1
      have hns67_0 := NB204_206.out
      have hns67_1 := NB205_206.out
      have hms67_0 := NB206_204.out
      have hms67_1 := NB206_205.out
      have hs68 : w65.cell? ⟨gb206, 2, none⟩ = some (.int .i64 0) := bc BK206 2
      have hfs68 := blk_frozen BK206.out 2
      have hns68_0 := NB204_206.out
      have hns68_1 := NB205_206.out
      have hms68_0 := NB206_204.out
      have hms68_1 := NB206_205.out
      have hs69 : w65.cell? ⟨gb206, 3, none⟩ = some (.int .i64 0) := bc BK206 3
      have hfs69 := blk_frozen BK206.out 3
      have hns69_0 := NB204_206.out
      have hns69_1 := NB205_206.out
      have hms69_0 := NB206_204.out
      have hms69_1 := NB206_205.out
      refine skip_ (w1 := ?_) (by rfl) rfl ?_ ?_
      rotate_left
      ·go_simp
       rfl
      refine hK.out _ _ ⟨((cell_far (p := ⟨gb206, _, none⟩) NB204_206.out _).trans (((cell_far (p := ⟨gb206, _, none⟩) NB204_206.out _).trans (((cell_far (p := ⟨gb206, _, none⟩) NB204_206.out _).trans (((cell_far (p := ⟨gb206, _, none⟩) NB204_206.out _).trans (hHeld.1)))))))), ((cell_far (p := ⟨gb206, _, none⟩) NB204_206.out _).trans (((cell_far (p := ⟨gb206, _, none⟩) NB204_206.out _).trans (((cell_far (p := ⟨gb206, _, none⟩) NB204_206.out _).trans (((cell_far (p := ⟨gb206, _, none⟩) NB204_206.out _).trans (hHeld.2.1)))))))), ((cell_far (p := ⟨gb206, _, none⟩) NB204_206.out _).trans (((cell_far (p := ⟨gb206, _, none⟩) NB204_206.out _).trans (((cell_far (p := ⟨gb206, _, none⟩) NB204_206.out _).trans (((cell_far (p := ⟨gb206, _, none⟩) NB204_206.out _).trans (hHeld.2.2.1)))))))), ((cell_far (p := ⟨gb206, _, none⟩) NB204_206.out _).trans (((cell_far (p := ⟨gb206, _, none⟩) NB204_206.out _).trans (((cell_far (p := ⟨gb206, _, none⟩) NB204_206.out _).trans (((cell_far (p := ⟨gb206, _, none⟩) NB204_206.out _).trans (hHeld.2.2.2.1)))))))), ((cell_far (p := ⟨gb206, _, none⟩) NB205_206.out _).trans (((cell_far (p := ⟨gb206, _, none⟩) NB205_206.out _).trans (((cell_far (p := ⟨gb206, _, none⟩) NB205_206.out _).trans (((cell_far (p := ⟨gb206, _, none⟩) NB205_206.out _).trans (hHeld.2.2.2.2.1)))))))), ((cell_far (p := ⟨gb206, _, none⟩) NB205_206.out _).trans (((cell_far (p := ⟨gb206, _, none⟩) NB205_206.out _).trans (((cell_far (p := ⟨gb206, _, none⟩) NB205_206.out _).trans (((cell_far (p := ⟨gb206, _, none⟩) NB205_206.out _).trans (hHeld.2.2.2.2.2.1)))))))), ((cell_far (p := ⟨gb206, _, none⟩) NB205_206.out _).trans (((cell_far (p := ⟨gb206, _, none⟩) NB205_206.out _).trans (((cell_far (p := ⟨gb206, _, none⟩) NB205_206.out _).trans (((cell_far (p := ⟨gb206, _, none⟩) NB205_206.out _).trans (hHeld.2.2.2.2.2.2.1)))))))), ((cell_far (p := ⟨gb206, _, none⟩) NB205_206.out _).trans (((cell_far (p := ⟨gb206, _, none⟩) NB205_206.out _).trans (((cell_far (p := ⟨gb206, _, none⟩) NB205_206.out _).trans (((cell_far (p := ⟨gb206, _, none⟩) NB205_206.out _).trans (hHeld.2.2.2.2.2.2.2))))))))⟩ (fun hHeld => ?_)
      clear hK K
      refine done_ (done_of HT_.out (by kernel_rfl)) ?_
      try go_wp2
      refine bodyPost_ret (results_cell_row rfl _ _ gb206 25 #[.int .i64 t233, .int .i64 t234, .int .i64 t235, .int .i64 t236] (0, 0) _ rfl (by (with_reducible repeat (first | refine blk_drewN ?_ _ | refine blk_drew ?_ | refine blk_alloc ?_ _)); refine blk_put (cs := #[.int .i64 t233, .int .i64 t234, .int .i64 t235, .int .i64 0]) ?_ 3 _ rfl; (with_reducible repeat (first | refine blk_drewN ?_ _ | refine blk_drew ?_ | refine blk_alloc ?_ _)); refine blk_put (cs := #[.int .i64 t233, .int .i64 t234, .int .i64 0, .int .i64 0]) ?_ 2 _ rfl; (with_reducible repeat (first | refine blk_drewN ?_ _ | refine blk_drew ?_ | refine blk_alloc ?_ _)); refine blk_put (cs := #[.int .i64 t233, .int .i64 0, .int .i64 0, .int .i64 0]) ?_ 1 _ rfl; (with_reducible repeat (first | refine blk_drewN ?_ _ | refine blk_drew ?_ | refine blk_alloc ?_ _)); refine blk_put (cs := #[.int .i64 0, .int .i64 0, .int .i64 0, .int .i64 0]) ?_ 0 _ rfl; (with_reducible repeat (first | refine blk_drewN ?_ _ | refine blk_drew ?_ | refine blk_alloc ?_ _)); exact BK206.out) Try.underlying25 rfl (by kernel_rfl)) rfl ?_
      exact ⟨by first | rfl | (simp [errW_none, errW_some] <;> rfl) | (simp [*, errW_none, errW_some] <;> rfl), Y3 HB GE204 GE205 GE206⟩

end Go.Proofs.Ytnmccgjdnceheaa.PFnExactValWiden
