/- Written by this session's own driver (wip/dprint.py): the functions that the law FnExactValWiden reaches, as Lean functions, each with its contract. -/
import Derived.Test.YtnmccgjdnceheaaPFnExactValWidenx0
import Derived.Test.YtnmccgjdnceheaaPFnExactValWidenx1
import Derived.Test.YtnmccgjdnceheaaPFnExactValWidenx3
import Derived.Test.YtnmccgjdnceheaaPFnExactValWidenx6
import Derived.Test.YtnmccgjdnceheaaPFnExactValWidenx7
import Derived.Test.YtnmccgjdnceheaaPFnExactValWidenx9
import Derived.Test.YtnmccgjdnceheaaPFnExactValWidenx10
import Derived.Test.YtnmccgjdnceheaaPFnExactValWidenx12
import Derived.Test.YtnmccgjdnceheaaSv
namespace Go.Proofs.Ytnmccgjdnceheaa.PFnExactValWiden
open Go.RowKit Go.Proofs.YtnmccgjdnceheaaV.PrintWords Go.Proofs.YtnmccgjdnceheaaV.PrintLast Go.Proofs.YtnmccgjdnceheaaV.PrintMore Go.Proofs.YtnmccgjdnceheaaSv
attribute [local go_sem] max2_int min2_int max_two min_two max_three min_three max_four min_four   -- for this text's walks alone
set_option linter.unusedVariables false
set_option linter.unusedSimpArgs false

attribute [local go_sem high] eqA25
/-! ### spec_ValWiden: function 25 -/
def spec_ValWiden.j0 : Nat → List Int → Bool → Int → Int → Int → Int → Int → Int → Int → Int → Int → Int → Int → Int → Option (Int × Int × Int × Int)
 | 0, _, _, _, _, _, _, _, _, _, _, _, _, _, _ => none
 | k + 1, x2, x28, x259000, x259001, x259002, x259003, x260000, x260001, x260002, x260003, x266000, x266001, x266002, x266003 => if x28 = true then (some (x266000, x266001, x266002, x266003)) else ((spec_l10Range.f x259000 x259001 x259002 x259003).bind fun bt276 => ((spec_l10Range.f x260000 x260001 x260002 x260003).bind fun bt278 => ((spec_RangeWiden.f k bt276.1 bt276.2 bt278.1 bt278.2 x2).bind fun bt280 => ((spec_l10Rest.f x259000 x259001 x259002 x259003).bind fun bt282 => ((spec_l10Rest.f x260000 x260001 x260002 x260003).bind fun bt284 => ((spec_RestJoin.f k bt282.1 bt282.2 bt284.1 bt284.2).bind fun bt286 => ((spec_ValMake.f k bt280.1 bt280.2 bt286.1 bt286.2).bind fun bt288 => (some (bt288.1, bt288.2.1, bt288.2.2.1, bt288.2.2.2)))))))))
def spec_ValWiden.f (k : Nat) (a0_0 : Int) (a0_1 : Int) (a0_2 : Int) (a0_3 : Int) (a1_0 : Int) (a1_1 : Int) (a1_2 : Int) (a1_3 : Int) (l2 : List Int) : Option (Int × Int × Int × Int) := (spec_ValJoin.f k a0_0 a0_1 a0_2 a0_3 a1_0 a1_1 a1_2 a1_3).bind fun bt261 => ((spec_ValOk.f k a0_0 a0_1 a0_2 a0_3).bind fun t266 => (if t266 = true then ((spec_ValOk.f k a1_0 a1_1 a1_2 a1_3).bind fun t267 => (if t267 = true then ((spec_l10None.f).bind fun bt268 => (if (a0_0 == bt268.1 && (a0_1 == bt268.2.1 && (a0_2 == bt268.2.2.1 && (a0_3 == bt268.2.2.2)))) = true then (spec_ValWiden.j0 k l2 true a0_0 a0_1 a0_2 a0_3 a1_0 a1_1 a1_2 a1_3 bt261.1 bt261.2.1 bt261.2.2.1 bt261.2.2.2) else ((spec_l10None.f).bind fun bt272 => (spec_ValWiden.j0 k l2 (a1_0 == bt272.1 && (a1_1 == bt272.2.1 && (a1_2 == bt272.2.2.1 && (a1_3 == bt272.2.2.2)))) a0_0 a0_1 a0_2 a0_3 a1_0 a1_1 a1_2 a1_3 bt261.1 bt261.2.1 bt261.2.2.1 bt261.2.2.2)))) else (spec_ValWiden.j0 k l2 true a0_0 a0_1 a0_2 a0_3 a1_0 a1_1 a1_2 a1_3 bt261.1 bt261.2.1 bt261.2.2.1 bt261.2.2.2))) else (spec_ValWiden.j0 k l2 true a0_0 a0_1 a0_2 a0_3 a1_0 a1_1 a1_2 a1_3 bt261.1 bt261.2.1 bt261.2.2.1 bt261.2.2.2)))
theorem spec_ValWiden.mono_l : ∀ k, (∀ y0 y1 y2 y3 y4 y5 y6 y7 y8 y9 y10 y11 y12 y13, LeO (spec_ValWiden.j0 k y0 y1 y2 y3 y4 y5 y6 y7 y8 y9 y10 y11 y12 y13) (spec_ValWiden.j0 (k + 1) y0 y1 y2 y3 y4 y5 y6 y7 y8 y9 y10 y11 y12 y13))
 | 0 => fun _ _ _ _ _ _ _ _ _ _ _ _ _ _ r h => by simp [spec_ValWiden.j0] at h
 | k + 1 => by
  have ih0 := spec_ValWiden.mono_l k
  ·intro y0 y1 y2 y3 y4 y5 y6 y7 y8 y9 y10 y11 y12 y13
   unfold spec_ValWiden.j0
   repeat' first
   | (with_reducible exact ih0 _ _ _ _ _ _ _ _ _ _ _ _ _ _)
   | (with_reducible exact spec_RangeWiden.mono _ _ _ _ _ _)
   | (with_reducible exact spec_RestJoin.mono _ _ _ _ _)
   | (with_reducible exact spec_ValJoin.mono _ _ _ _ _ _ _ _ _)
   | (with_reducible exact spec_ValMake.mono _ _ _ _ _)
   | (with_reducible exact spec_ValOk.mono _ _ _ _ _)
   | (with_reducible exact LeO.refl _)
   | (with_reducible exact LeO.none _)
   | (with_reducible refine LeO.ite ?_ ?_)
   | (with_reducible refine LeO.bind ?_ (fun _ => ?_))
   | exact ih0 _ _ _ _ _ _ _ _ _ _ _ _ _ _
   | exact spec_RangeWiden.mono _ _ _ _ _ _
   | exact spec_RestJoin.mono _ _ _ _ _
   | exact spec_ValJoin.mono _ _ _ _ _ _ _ _ _
   | exact spec_ValMake.mono _ _ _ _ _
   | exact spec_ValOk.mono _ _ _ _ _
   | exact LeO.none _
   | refine LeO.ite ?_ ?_
   | refine LeO.bind ?_ (fun _ => ?_)
theorem spec_ValWiden.mono : ∀ a0 a1 a2 a3 a4 a5 a6 a7 a8 k, LeO (spec_ValWiden.f k a0 a1 a2 a3 a4 a5 a6 a7 a8) (spec_ValWiden.f (k + 1) a0 a1 a2 a3 a4 a5 a6 a7 a8) := by
 intro a0 a1 a2 a3 a4 a5 a6 a7 a8 k
 have ih0 := spec_ValWiden.mono_l k
 unfold spec_ValWiden.f
 repeat' first
   | (with_reducible exact ih0 _ _ _ _ _ _ _ _ _ _ _ _ _ _)
   | (with_reducible exact spec_RangeWiden.mono _ _ _ _ _ _)
   | (with_reducible exact spec_RestJoin.mono _ _ _ _ _)
   | (with_reducible exact spec_ValJoin.mono _ _ _ _ _ _ _ _ _)
   | (with_reducible exact spec_ValMake.mono _ _ _ _ _)
   | (with_reducible exact spec_ValOk.mono _ _ _ _ _)
   | (with_reducible exact LeO.refl _)
   | (with_reducible exact LeO.none _)
   | (with_reducible refine LeO.ite ?_ ?_)
   | (with_reducible refine LeO.bind ?_ (fun _ => ?_))
   | exact ih0 _ _ _ _ _ _ _ _ _ _ _ _ _ _
   | exact spec_RangeWiden.mono _ _ _ _ _ _
   | exact spec_RestJoin.mono _ _ _ _ _
   | exact spec_ValJoin.mono _ _ _ _ _ _ _ _ _
   | exact spec_ValMake.mono _ _ _ _ _
   | exact spec_ValOk.mono _ _ _ _ _
   | exact LeO.none _
   | refine LeO.ite ?_ ?_
   | refine LeO.bind ?_ (fun _ => ?_)
def spec_ValWiden.T2 : Bool × List (List Nat × List Nat) := (true, [([], []), ([0], [0]), ([1], [1]), ([2, 1], [2]), ([3], [3]), ([4, 3, 3], [3, 4]), ([5, 3], [3, 5]), ([3, 6], [3, 6]), ([7, 5], [7]), ([8], [8]), ([8, 8], [8]), ([9, 10, 8], [8, 9, 10]), ([8, 11], [8, 11]), ([12, 10], [12]), ([13], [13]), ([13, 13], [13]), ([14, 15, 13], [13, 14, 15]), ([13, 16], [13, 16])])
def spec_ValWiden.B2 : List Nat := [0, 1, 3, 7, 15, 31, 63, 127, 255, 511, 511, 2047, 4095, 8191, 16383, 16383, 65535, 131071]
theorem spec_ValWiden.tab2 : rtab .any (opsOf Try.f25 2) = spec_ValWiden.T2 := by kernel_rfl
theorem spec_ValWiden.bits2 : waitsOk spec_ValWiden.T2.2 spec_ValWiden.B2 = true := by kernel_rfl
def spec_ValWiden.T4 : Bool × List (List Nat × List Nat) := (true, [([], []), ([0], [0]), ([], []), ([2, 1], [2]), ([], []), ([1, 3, 4, 3], [1, 3, 4]), ([], []), ([6, 5], [6]), ([], []), ([8, 7], [8]), ([7, 9, 9], [7, 9]), ([5, 10, 10], [5, 10]), ([11, 11, 0, 1, 2, 3, 4, 5, 6, 7, 8, 9, 10, 11], [11])])
def spec_ValWiden.B4 : List Nat := [0, 1, 0, 7, 0, 31, 0, 127, 0, 511, 1023, 2047, 4095]
theorem spec_ValWiden.tab4 : rtab .any (opsOf Try.f25 4) = spec_ValWiden.T4 := by kernel_rfl
theorem spec_ValWiden.bits4 : waitsOk spec_ValWiden.T4.2 spec_ValWiden.B4 = true := by kernel_rfl
set_option maxHeartbeats 8000000 in
set_option maxRecDepth 100000 in
theorem spec_ValWiden.calls (k : Nat) (a0_0 : Int) (a0_1 : Int) (a0_2 : Int) (a0_3 : Int) (a1_0 : Int) (a1_1 : Int) (a1_2 : Int) (a1_3 : Int) (A2 : Option Addr) (c2 : Nat) (l2 : List Int) (r1 : Int) (r2 : Int) (r3 : Int) (r4 : Int) (w : World) (hr2 : Kd.C (Kd.int .i64) w A2 l2.length l2) (hc2 : l2.length ≤ c2) (h : spec_ValWiden.f k a0_0 a0_1 a0_2 a0_3 a1_0 a1_1 a1_2 a1_3 l2 = some (r1, r2, r3, r4)) :
  Calls Try.prog 25 #[.agg #[.int .i64 a0_0, .int .i64 a0_1, .int .i64 a0_2, .int .i64 a0_3], .agg #[.int .i64 a1_0, .int .i64 a1_1, .int .i64 a1_2, .int .i64 a1_3], .slice A2 l2.length c2] w fun e w' => e = .returned (.agg #[.int .i64 r1, .int .i64 r2, .int .i64 r3, .int .i64 r4]) ∧ Below w.heap.size w w' := by
 have hu25 := Try.underlying25
 have HR2 := am hr2
 have HC2 := am hc2
 clear hr2 hc2
 have HB := am (Below.refl w.heap.size w)
 have H : ((spec_ValJoin.f k a0_0 a0_1 a0_2 a0_3 a1_0 a1_1 a1_2 a1_3).bind fun bt261 => ((spec_ValOk.f k a0_0 a0_1 a0_2 a0_3).bind fun t266 => (if t266 = true then ((spec_ValOk.f k a1_0 a1_1 a1_2 a1_3).bind fun t267 => (if t267 = true then ((spec_l10None.f).bind fun bt268 => (if (a0_0 == bt268.1 && (a0_1 == bt268.2.1 && (a0_2 == bt268.2.2.1 && (a0_3 == bt268.2.2.2)))) = true then (spec_ValWiden.j0 k l2 true a0_0 a0_1 a0_2 a0_3 a1_0 a1_1 a1_2 a1_3 bt261.1 bt261.2.1 bt261.2.2.1 bt261.2.2.2) else ((spec_l10None.f).bind fun bt272 => (spec_ValWiden.j0 k l2 (a1_0 == bt272.1 && (a1_1 == bt272.2.1 && (a1_2 == bt272.2.2.1 && (a1_3 == bt272.2.2.2)))) a0_0 a0_1 a0_2 a0_3 a1_0 a1_1 a1_2 a1_3 bt261.1 bt261.2.1 bt261.2.2.1 bt261.2.2.2)))) else (spec_ValWiden.j0 k l2 true a0_0 a0_1 a0_2 a0_3 a1_0 a1_1 a1_2 a1_3 bt261.1 bt261.2.1 bt261.2.2.1 bt261.2.2.2))) else (spec_ValWiden.j0 k l2 true a0_0 a0_1 a0_2 a0_3 a1_0 a1_1 a1_2 a1_3 bt261.1 bt261.2.1 bt261.2.2.1 bt261.2.2.2)))) = some (r1, r2, r3, r4) := h
 clear h
 replace H := Option.bind_eq_some_iff.mp H
 obtain ⟨⟨t261, t262, t263, t264⟩, A40, H⟩ := H
 replace H : ((spec_ValOk.f k a0_0 a0_1 a0_2 a0_3).bind fun t266 => (if t266 = true then ((spec_ValOk.f k a1_0 a1_1 a1_2 a1_3).bind fun t267 => (if t267 = true then ((spec_l10None.f).bind fun bt268 => (if (a0_0 == bt268.1 && (a0_1 == bt268.2.1 && (a0_2 == bt268.2.2.1 && (a0_3 == bt268.2.2.2)))) = true then (spec_ValWiden.j0 k l2 true a0_0 a0_1 a0_2 a0_3 a1_0 a1_1 a1_2 a1_3 t261 t262 t263 t264) else ((spec_l10None.f).bind fun bt272 => (spec_ValWiden.j0 k l2 (a1_0 == bt272.1 && (a1_1 == bt272.2.1 && (a1_2 == bt272.2.2.1 && (a1_3 == bt272.2.2.2)))) a0_0 a0_1 a0_2 a0_3 a1_0 a1_1 a1_2 a1_3 t261 t262 t263 t264)))) else (spec_ValWiden.j0 k l2 true a0_0 a0_1 a0_2 a0_3 a1_0 a1_1 a1_2 a1_3 t261 t262 t263 t264))) else (spec_ValWiden.j0 k l2 true a0_0 a0_1 a0_2 a0_3 a1_0 a1_1 a1_2 a1_3 t261 t262 t263 t264))) = some (r1, r2, r3, r4) := H
 have A4 := am A40
 clear A40
 have HC5 := am H
 clear H
 go_enter Try.func25, Try.ntmps25
 go_upto_region 2 with (first | ((with_reducible refine gate_dst (N := 3) rfl ?_); refine box_event ?hg (N := 3) ?hd (cs := #[.int .i64 a0_0, .int .i64 a0_1, .int .i64 a0_2, .int .i64 a0_3]) (t := 25) ?hr ?_; (case hd => rfl); (case hg => rfl); (case hr => first | (go_simp; done) | (go_simp; rfl)); intro gb258 hg w6 hbox hb; have n0_ := am (below_step (Y0 HB) hb); have n1_ := am (hbox); have n2_ := am ((by rw [hg]; exact (below_size (Y0 HB)) : w.heap.size ≤ gb258)); have n3_ := am ((by rw [hg]; exact (below_size (Y0 HB)) : w.heap.size ≤ gb258)); clear HB; have HB := n0_; have BK258 := n1_; have GW258 := n2_; have GE258 := n3_; clear n0_ n1_ n2_ n3_; clear hb hbox hg) | ((with_reducible refine gate_dst (N := 4) rfl ?_); refine box_event ?hg (N := 4) ?hd (cs := #[.int .i64 a1_0, .int .i64 a1_1, .int .i64 a1_2, .int .i64 a1_3]) (t := 25) ?hr ?_; (case hd => rfl); (case hg => rfl); (case hr => first | (go_simp; done) | (go_simp; rfl)); intro gb259 hg w7 hbox hb; have n0_ := am (blk_below (g := gb258) (o := b4 a0_0 a0_1 a0_2 a0_3 25) (Z BK258) hb); have n1_ := am (below_step (Y1 HB GE258) hb); have n2_ := am (hbox); have n3_ := am ((by rw [hg]; exact (below_size (Y1 HB GE258)) : w.heap.size ≤ gb259)); have n4_ := am ((by rw [hg]; exact (below_size (Y1 HB GE258)) : w.heap.size ≤ gb259)); have n5_ := am ((nl (o := b4 a0_0 a0_1 a0_2 a0_3 25) hg (Z BK258) : gb258 ≠ gb259)); have n6_ := am ((ng (o := b4 a0_0 a0_1 a0_2 a0_3 25) hg (Z BK258) : gb259 ≠ gb258)); clear BK258; clear HB; have BK258 := n0_; have HB := n1_; have BK259 := n2_; have GW259 := n3_; have GE259 := n4_; have NB258_259 := n5_; have NB259_258 := n6_; clear n0_ n1_ n2_ n3_ n4_ n5_ n6_; clear hb hbox hg) | ((with_reducible refine gate_dst (N := 6) rfl ?_); refine box_event ?hg (N := 6) ?hd (cs := #[.int .i64 0, .int .i64 0, .int .i64 0, .int .i64 0]) (t := 25) ?hr ?_; (case hd => rfl); (case hg => rfl); (case hr => first | (go_simp; done) | (go_simp; rfl)); intro gb260 hg w8 hbox hb; have n0_ := am (blk_below (g := gb258) (o := b4 a0_0 a0_1 a0_2 a0_3 25) (Z BK258) hb); have n1_ := am (blk_below (g := gb259) (o := b4 a1_0 a1_1 a1_2 a1_3 25) (Z BK259) hb); have n2_ := am (below_step (Y2 HB GE258 GE259) hb); have n3_ := am (hbox); have n4_ := am ((by rw [hg]; exact (below_size (Y2 HB GE258 GE259)) : w.heap.size ≤ gb260)); have n5_ := am ((by rw [hg]; exact (below_size (Y2 HB GE258 GE259)) : w.heap.size ≤ gb260)); have n6_ := am ((nl (o := b4 a0_0 a0_1 a0_2 a0_3 25) hg (Z BK258) : gb258 ≠ gb260)); have n7_ := am ((ng (o := b4 a0_0 a0_1 a0_2 a0_3 25) hg (Z BK258) : gb260 ≠ gb258)); have n8_ := am ((nl (o := b4 a1_0 a1_1 a1_2 a1_3 25) hg (Z BK259) : gb259 ≠ gb260)); have n9_ := am ((ng (o := b4 a1_0 a1_1 a1_2 a1_3 25) hg (Z BK259) : gb260 ≠ gb259)); clear BK258; clear BK259; clear HB; have BK258 := n0_; have BK259 := n1_; have HB := n2_; have BK260 := n3_; have GW260 := n4_; have GE260 := n5_; have NB258_260 := n6_; have NB260_258 := n7_; have NB259_260 := n8_; have NB260_259 := n9_; clear n0_ n1_ n2_ n3_ n4_ n5_ n6_ n7_ n8_ n9_; clear hb hbox hg; have hnb9 := NB258_259.out; have hnc9 := NB259_258.out; have hnb10 := NB258_260.out; have hnc10 := NB260_258.out; have hcz11_0 : w8.cell? ⟨gb258, 0, none⟩ = some (.int .i64 a0_0) := bc BK258 0; have hcz11_1 : w8.cell? ⟨gb258, 1, none⟩ = some (.int .i64 a0_1) := bc BK258 1; have hcz11_2 : w8.cell? ⟨gb258, 2, none⟩ = some (.int .i64 a0_2) := bc BK258 2; have hcz11_3 : w8.cell? ⟨gb258, 3, none⟩ = some (.int .i64 a0_3) := bc BK258 3; have hfz11_0 := blk_frozen BK258.out 0; have hfz11_1 := blk_frozen BK258.out 1; have hfz11_2 := blk_frozen BK258.out 2; have hfz11_3 := blk_frozen BK258.out 3; have hnb12 := NB259_260.out; have hnc12 := NB260_259.out; have hcz13_0 : w8.cell? ⟨gb259, 0, none⟩ = some (.int .i64 a1_0) := bc BK259 0; have hcz13_1 : w8.cell? ⟨gb259, 1, none⟩ = some (.int .i64 a1_1) := bc BK259 1; have hcz13_2 : w8.cell? ⟨gb259, 2, none⟩ = some (.int .i64 a1_2) := bc BK259 2; have hcz13_3 : w8.cell? ⟨gb259, 3, none⟩ = some (.int .i64 a1_3) := bc BK259 3; have hfz13_0 := blk_frozen BK259.out 0; have hfz13_1 := blk_frozen BK259.out 1; have hfz13_2 := blk_frozen BK259.out 2; have hfz13_3 := blk_frozen BK259.out 3) | ((with_reducible refine gate_callee (f := 20) rfl ?_); refine goesL_ (some 10) rfl rfl Try.func20 (by kernel_rfl) rfl #[.agg #[.int .i64 a0_0, .int .i64 a0_1, .int .i64 a0_2, .int .i64 a0_3], .agg #[.int .i64 a1_0, .int .i64 a1_1, .int .i64 a1_2, .int .i64 a1_3]] rfl mz ?_; (with_reducible refine (spec_ValJoin.calls k a0_0 a0_1 a0_2 a0_3 a1_0 a1_1 a1_2 a1_3 t261 t262 t263 t264 _ A4.out).mono ?_); rintro e w14 ⟨rfl, hb⟩; refine ⟨_, rfl, ?_⟩; have n0_ := am (blk_below (g := gb258) (o := b4 a0_0 a0_1 a0_2 a0_3 25) (Z BK258) hb); have n1_ := am (blk_below (g := gb259) (o := b4 a1_0 a1_1 a1_2 a1_3 25) (Z BK259) hb); have n2_ := am (blk_below (g := gb260) (o := b4 0 0 0 0 25) (Z BK260) hb); have n3_ := am (below_step (Y3 HB GE258 GE259 GE260) hb); clear BK258; clear BK259; clear BK260; clear HB; have BK258 := n0_; have BK259 := n1_; have BK260 := n2_; have HB := n3_; clear n0_ n1_ n2_ n3_; (try clear hb); (try clear hb2); (try clear hk); (try clear hi)) | ((with_reducible refine gate_dst (N := 7) rfl ?_); refine box_event ?hg (N := 7) ?hd (cs := #[.int .i64 0, .int .i64 0, .int .i64 0, .int .i64 0]) (t := 25) ?hr ?_; (case hd => rfl); (case hg => rfl); (case hr => first | (go_simp; done) | (go_simp; rfl)); intro gb265 hg w15 hbox hb; have n0_ := am (blk_below (g := gb258) (o := b4 a0_0 a0_1 a0_2 a0_3 25) (Z BK258) hb); have n1_ := am (blk_below (g := gb259) (o := b4 a1_0 a1_1 a1_2 a1_3 25) (Z BK259) hb); have n2_ := am (blk_below (g := gb260) (o := b4 0 0 0 0 25) (Z BK260) hb); have n3_ := am (below_step (Y3 HB GE258 GE259 GE260) hb); have n4_ := am (hbox); have n5_ := am ((by rw [hg]; exact (below_size (Y3 HB GE258 GE259 GE260)) : w.heap.size ≤ gb265)); have n6_ := am ((by rw [hg]; exact (below_size (Y3 HB GE258 GE259 GE260)) : w.heap.size ≤ gb265)); have n7_ := am ((nl (o := b4 a0_0 a0_1 a0_2 a0_3 25) hg (Z BK258) : gb258 ≠ gb265)); have n8_ := am ((ng (o := b4 a0_0 a0_1 a0_2 a0_3 25) hg (Z BK258) : gb265 ≠ gb258)); have n9_ := am ((nl (o := b4 a1_0 a1_1 a1_2 a1_3 25) hg (Z BK259) : gb259 ≠ gb265)); have n10_ := am ((ng (o := b4 a1_0 a1_1 a1_2 a1_3 25) hg (Z BK259) : gb265 ≠ gb259)); have n11_ := am ((nl (o := b4 0 0 0 0 25) hg (Z BK260) : gb260 ≠ gb265)); have n12_ := am ((ng (o := b4 0 0 0 0 25) hg (Z BK260) : gb265 ≠ gb260)); clear BK258; clear BK259; clear BK260; clear HB; have BK258 := n0_; have BK259 := n1_; have BK260 := n2_; have HB := n3_; have BK265 := n4_; have GW265 := n5_; have GE265 := n6_; have NB258_265 := n7_; have NB265_258 := n8_; have NB259_265 := n9_; have NB265_259 := n10_; have NB260_265 := n11_; have NB265_260 := n12_; clear n0_ n1_ n2_ n3_ n4_ n5_ n6_ n7_ n8_ n9_ n10_ n11_ n12_; clear hb hbox hg; have hnb16 := NB265_258.out; have hnc16 := NB258_265.out; have hnb17 := NB265_259.out; have hnc17 := NB259_265.out; have hnb18 := NB265_260.out; have hnc18 := NB260_265.out; have hcz19_0 : w15.cell? ⟨gb265, 0, none⟩ = some (.int .i64 0) := bc BK265 0; have hcz19_1 : w15.cell? ⟨gb265, 1, none⟩ = some (.int .i64 0) := bc BK265 1; have hcz19_2 : w15.cell? ⟨gb265, 2, none⟩ = some (.int .i64 0) := bc BK265 2; have hcz19_3 : w15.cell? ⟨gb265, 3, none⟩ = some (.int .i64 0) := bc BK265 3; have hfz19_0 := blk_frozen BK265.out 0; have hfz19_1 := blk_frozen BK265.out 1; have hfz19_2 := blk_frozen BK265.out 2; have hfz19_3 := blk_frozen BK265.out 3))
 (try simp only [Act.put, List.setIfInBounds_toArray, List.set_cons_zero, List.set_cons_succ])
 go_cut [28] (fun v28 wc => ∃ (kq : Nat) (x28_4 : Bool), v28 = .bool x28_4 ∧ Aside0 (spec_ValWiden.j0 kq l2 x28_4 a0_0 a0_1 a0_2 a0_3 a1_0 a1_1 a1_2 a1_3 t261 t262 t263 t264 = some (r1, r2, r3, r4)) ∧ Aside0 (kq ≤ k) ∧ Aside0 (wc.heap[gb258]? = some (.cells #[.int .i64 a0_0, .int .i64 a0_1, .int .i64 a0_2, .int .i64 a0_3] 25 (0, 0))) ∧ Aside0 (wc.heap[gb259]? = some (.cells #[.int .i64 a1_0, .int .i64 a1_1, .int .i64 a1_2, .int .i64 a1_3] 25 (0, 0))) ∧ Aside0 (wc.heap[gb260]? = some (.cells #[.int .i64 0, .int .i64 0, .int .i64 0, .int .i64 0] 25 (0, 0))) ∧ Aside0 (wc.heap[gb265]? = some (.cells #[.int .i64 t261, .int .i64 t262, .int .i64 t263, .int .i64 t264] 25 (0, 0))) ∧ Aside0 (Below w.heap.size w wc))
 case first =>
  have H := HC5.out
  clear HC5
  replace H := Option.bind_eq_some_iff.mp H
  obtain ⟨t266, A200, H⟩ := H
  replace H : (if t266 = true then ((spec_ValOk.f k a1_0 a1_1 a1_2 a1_3).bind fun t267 => (if t267 = true then ((spec_l10None.f).bind fun bt268 => (if (a0_0 == bt268.1 && (a0_1 == bt268.2.1 && (a0_2 == bt268.2.2.1 && (a0_3 == bt268.2.2.2)))) = true then (spec_ValWiden.j0 k l2 true a0_0 a0_1 a0_2 a0_3 a1_0 a1_1 a1_2 a1_3 t261 t262 t263 t264) else ((spec_l10None.f).bind fun bt272 => (spec_ValWiden.j0 k l2 (a1_0 == bt272.1 && (a1_1 == bt272.2.1 && (a1_2 == bt272.2.2.1 && (a1_3 == bt272.2.2.2)))) a0_0 a0_1 a0_2 a0_3 a1_0 a1_1 a1_2 a1_3 t261 t262 t263 t264)))) else (spec_ValWiden.j0 k l2 true a0_0 a0_1 a0_2 a0_3 a1_0 a1_1 a1_2 a1_3 t261 t262 t263 t264))) else (spec_ValWiden.j0 k l2 true a0_0 a0_1 a0_2 a0_3 a1_0 a1_1 a1_2 a1_3 t261 t262 t263 t264)) = some (r1, r2, r3, r4) := H
  have A20 := am A200
  clear A200
  by_cases c21 : t266 = true
  ·subst c21
   have H1 : ((spec_ValOk.f k a1_0 a1_1 a1_2 a1_3).bind fun t267 => (if t267 = true then ((spec_l10None.f).bind fun bt268 => (if (a0_0 == bt268.1 && (a0_1 == bt268.2.1 && (a0_2 == bt268.2.2.1 && (a0_3 == bt268.2.2.2)))) = true then (spec_ValWiden.j0 k l2 true a0_0 a0_1 a0_2 a0_3 a1_0 a1_1 a1_2 a1_3 t261 t262 t263 t264) else ((spec_l10None.f).bind fun bt272 => (spec_ValWiden.j0 k l2 (a1_0 == bt272.1 && (a1_1 == bt272.2.1 && (a1_2 == bt272.2.2.1 && (a1_3 == bt272.2.2.2)))) a0_0 a0_1 a0_2 a0_3 a1_0 a1_1 a1_2 a1_3 t261 t262 t263 t264)))) else (spec_ValWiden.j0 k l2 true a0_0 a0_1 a0_2 a0_3 a1_0 a1_1 a1_2 a1_3 t261 t262 t263 t264))) = some (r1, r2, r3, r4) := by rw [if_pos rfl] at H; exact H
   clear H
   have H := H1
   clear H1
   replace H := Option.bind_eq_some_iff.mp H
   obtain ⟨t267, A220, H⟩ := H
   replace H : (if t267 = true then ((spec_l10None.f).bind fun bt268 => (if (a0_0 == bt268.1 && (a0_1 == bt268.2.1 && (a0_2 == bt268.2.2.1 && (a0_3 == bt268.2.2.2)))) = true then (spec_ValWiden.j0 k l2 true a0_0 a0_1 a0_2 a0_3 a1_0 a1_1 a1_2 a1_3 t261 t262 t263 t264) else ((spec_l10None.f).bind fun bt272 => (spec_ValWiden.j0 k l2 (a1_0 == bt272.1 && (a1_1 == bt272.2.1 && (a1_2 == bt272.2.2.1 && (a1_3 == bt272.2.2.2)))) a0_0 a0_1 a0_2 a0_3 a1_0 a1_1 a1_2 a1_3 t261 t262 t263 t264)))) else (spec_ValWiden.j0 k l2 true a0_0 a0_1 a0_2 a0_3 a1_0 a1_1 a1_2 a1_3 t261 t262 t263 t264)) = some (r1, r2, r3, r4) := H
   have A22 := am A220
   clear A220
   by_cases c23 : t267 = true
   ·subst c23
    have H1 : ((spec_l10None.f).bind fun bt268 => (if (a0_0 == bt268.1 && (a0_1 == bt268.2.1 && (a0_2 == bt268.2.2.1 && (a0_3 == bt268.2.2.2)))) = true then (spec_ValWiden.j0 k l2 true a0_0 a0_1 a0_2 a0_3 a1_0 a1_1 a1_2 a1_3 t261 t262 t263 t264) else ((spec_l10None.f).bind fun bt272 => (spec_ValWiden.j0 k l2 (a1_0 == bt272.1 && (a1_1 == bt272.2.1 && (a1_2 == bt272.2.2.1 && (a1_3 == bt272.2.2.2)))) a0_0 a0_1 a0_2 a0_3 a1_0 a1_1 a1_2 a1_3 t261 t262 t263 t264)))) = some (r1, r2, r3, r4) := by rw [if_pos rfl] at H; exact H
    clear H
    have H := H1
    clear H1
    replace H := Option.bind_eq_some_iff.mp H
    obtain ⟨⟨t268, t269, t270, t271⟩, A240, H⟩ := H
    replace H : (if (a0_0 == t268 && (a0_1 == t269 && (a0_2 == t270 && (a0_3 == t271)))) = true then (spec_ValWiden.j0 k l2 true a0_0 a0_1 a0_2 a0_3 a1_0 a1_1 a1_2 a1_3 t261 t262 t263 t264) else ((spec_l10None.f).bind fun bt272 => (spec_ValWiden.j0 k l2 (a1_0 == bt272.1 && (a1_1 == bt272.2.1 && (a1_2 == bt272.2.2.1 && (a1_3 == bt272.2.2.2)))) a0_0 a0_1 a0_2 a0_3 a1_0 a1_1 a1_2 a1_3 t261 t262 t263 t264))) = some (r1, r2, r3, r4) := H
    have A24 := am A240
    clear A240
    by_cases c25 : (a0_0 == t268 && (a0_1 == t269 && (a0_2 == t270 && (a0_3 == t271)))) = true
    ·rw [if_pos c25] at H
     have c25b0 : (a0_0 == t268 && (a0_1 == t269 && (a0_2 == t270 && (a0_3 == t271)))) = true := c25
     (try (have c25b1 : decide (a0_0 = t268 && (a0_1 == t269 && (a0_2 == t270 && (a0_3 == t271)))) = true := by simpa using c25))
     (try (have c25b2 : (a0_0 == t268 && (a0_1 == t269 && (a0_2 == t270 && (a0_3 == t271)))) = true := by simpa using c25))
     clear c25
     (first | rw [c25b0] | (simp only [i64_w, i32_w]; rw [c25b0]) | skip)
     have H' := am H
     clear H
     try go_wp2
     have n0_ : Aside0 (((((w15.setCell ⟨gb265, 0, none⟩ (.int .i64 t261)).setCell ⟨gb265, 1, none⟩ (.int .i64 t262)).setCell ⟨gb265, 2, none⟩ (.int .i64 t263)).setCell ⟨gb265, 3, none⟩ (.int .i64 t264)).heap[gb258]? = some (.cells #[.int .i64 a0_0, .int .i64 a0_1, .int .i64 a0_2, .int .i64 a0_3] 25 (0, 0))) := ⟨by (with_reducible repeat (first | refine blk_drewN ?_ _ | refine blk_drew ?_ | refine blk_alloc ?_ _)); refine blk_far ?_ NB258_265.out _; (with_reducible repeat (first | refine blk_drewN ?_ _ | refine blk_drew ?_ | refine blk_alloc ?_ _)); refine blk_far ?_ NB258_265.out _; (with_reducible repeat (first | refine blk_drewN ?_ _ | refine blk_drew ?_ | refine blk_alloc ?_ _)); refine blk_far ?_ NB258_265.out _; (with_reducible repeat (first | refine blk_drewN ?_ _ | refine blk_drew ?_ | refine blk_alloc ?_ _)); refine blk_far ?_ NB258_265.out _; (with_reducible repeat (first | refine blk_drewN ?_ _ | refine blk_drew ?_ | refine blk_alloc ?_ _)); exact BK258.out⟩
     have n1_ : Aside0 (((((w15.setCell ⟨gb265, 0, none⟩ (.int .i64 t261)).setCell ⟨gb265, 1, none⟩ (.int .i64 t262)).setCell ⟨gb265, 2, none⟩ (.int .i64 t263)).setCell ⟨gb265, 3, none⟩ (.int .i64 t264)).heap[gb259]? = some (.cells #[.int .i64 a1_0, .int .i64 a1_1, .int .i64 a1_2, .int .i64 a1_3] 25 (0, 0))) := ⟨by (with_reducible repeat (first | refine blk_drewN ?_ _ | refine blk_drew ?_ | refine blk_alloc ?_ _)); refine blk_far ?_ NB259_265.out _; (with_reducible repeat (first | refine blk_drewN ?_ _ | refine blk_drew ?_ | refine blk_alloc ?_ _)); refine blk_far ?_ NB259_265.out _; (with_reducible repeat (first | refine blk_drewN ?_ _ | refine blk_drew ?_ | refine blk_alloc ?_ _)); refine blk_far ?_ NB259_265.out _; (with_reducible repeat (first | refine blk_drewN ?_ _ | refine blk_drew ?_ | refine blk_alloc ?_ _)); refine blk_far ?_ NB259_265.out _; (with_reducible repeat (first | refine blk_drewN ?_ _ | refine blk_drew ?_ | refine blk_alloc ?_ _)); exact BK259.out⟩
     have n2_ : Aside0 (((((w15.setCell ⟨gb265, 0, none⟩ (.int .i64 t261)).setCell ⟨gb265, 1, none⟩ (.int .i64 t262)).setCell ⟨gb265, 2, none⟩ (.int .i64 t263)).setCell ⟨gb265, 3, none⟩ (.int .i64 t264)).heap[gb260]? = some (.cells #[.int .i64 0, .int .i64 0, .int .i64 0, .int .i64 0] 25 (0, 0))) := ⟨by (with_reducible repeat (first | refine blk_drewN ?_ _ | refine blk_drew ?_ | refine blk_alloc ?_ _)); refine blk_far ?_ NB260_265.out _; (with_reducible repeat (first | refine blk_drewN ?_ _ | refine blk_drew ?_ | refine blk_alloc ?_ _)); refine blk_far ?_ NB260_265.out _; (with_reducible repeat (first | refine blk_drewN ?_ _ | refine blk_drew ?_ | refine blk_alloc ?_ _)); refine blk_far ?_ NB260_265.out _; (with_reducible repeat (first | refine blk_drewN ?_ _ | refine blk_drew ?_ | refine blk_alloc ?_ _)); refine blk_far ?_ NB260_265.out _; (with_reducible repeat (first | refine blk_drewN ?_ _ | refine blk_drew ?_ | refine blk_alloc ?_ _)); exact BK260.out⟩
     have n3_ : Aside0 (((((w15.setCell ⟨gb265, 0, none⟩ (.int .i64 t261)).setCell ⟨gb265, 1, none⟩ (.int .i64 t262)).setCell ⟨gb265, 2, none⟩ (.int .i64 t263)).setCell ⟨gb265, 3, none⟩ (.int .i64 t264)).heap[gb265]? = some (.cells #[.int .i64 t261, .int .i64 t262, .int .i64 t263, .int .i64 t264] 25 (0, 0))) := ⟨by (with_reducible repeat (first | refine blk_drewN ?_ _ | refine blk_drew ?_ | refine blk_alloc ?_ _)); refine blk_put (cs := #[.int .i64 t261, .int .i64 t262, .int .i64 t263, .int .i64 0]) ?_ 3 _ rfl; (with_reducible repeat (first | refine blk_drewN ?_ _ | refine blk_drew ?_ | refine blk_alloc ?_ _)); refine blk_put (cs := #[.int .i64 t261, .int .i64 t262, .int .i64 0, .int .i64 0]) ?_ 2 _ rfl; (with_reducible repeat (first | refine blk_drewN ?_ _ | refine blk_drew ?_ | refine blk_alloc ?_ _)); refine blk_put (cs := #[.int .i64 t261, .int .i64 0, .int .i64 0, .int .i64 0]) ?_ 1 _ rfl; (with_reducible repeat (first | refine blk_drewN ?_ _ | refine blk_drew ?_ | refine blk_alloc ?_ _)); refine blk_put (cs := #[.int .i64 0, .int .i64 0, .int .i64 0, .int .i64 0]) ?_ 0 _ rfl; (with_reducible repeat (first | refine blk_drewN ?_ _ | refine blk_drew ?_ | refine blk_alloc ?_ _)); exact BK265.out⟩
     have n4_ : Aside0 (Below w.heap.size w ((((w15.setCell ⟨gb265, 0, none⟩ (.int .i64 t261)).setCell ⟨gb265, 1, none⟩ (.int .i64 t262)).setCell ⟨gb265, 2, none⟩ (.int .i64 t263)).setCell ⟨gb265, 3, none⟩ (.int .i64 t264))) := ⟨Y4 HB GE258 GE259 GE260 GE265⟩
     (try clear BK258)
     (try clear BK259)
     (try clear BK260)
     (try clear BK265)
     (try clear HB)
     generalize ((((w15.setCell ⟨gb265, 0, none⟩ (.int .i64 t261)).setCell ⟨gb265, 1, none⟩ (.int .i64 t262)).setCell ⟨gb265, 2, none⟩ (.int .i64 t263)).setCell ⟨gb265, 3, none⟩ (.int .i64 t264)) = w26 at n0_ n1_ n2_ n3_ n4_ ⊢
     have BK258 := n0_
     have BK259 := n1_
     have BK260 := n2_
     have BK265 := n3_
     have HB := n4_
     clear n0_ n1_ n2_ n3_ n4_
     have n0_ := am (blk_drew BK258.out)
     have n1_ := am (blk_drew BK259.out)
     have n2_ := am (blk_drew BK260.out)
     have n3_ := am (blk_drew BK265.out)
     have n4_ := am (below_drew1 HB.out)
     clear BK258
     clear BK259
     clear BK260
     clear BK265
     clear HB
     have BK258 := n0_
     have BK259 := n1_
     have BK260 := n2_
     have BK265 := n3_
     have HB := n4_
     clear n0_ n1_ n2_ n3_ n4_
     refine start_ (n := 18) (S := fun w' => w'.cell? ⟨gb258, 0, none⟩ = some (.int .i64 a0_0) ∧ w'.cell? ⟨gb258, 1, none⟩ = some (.int .i64 a0_1) ∧ w'.cell? ⟨gb258, 2, none⟩ = some (.int .i64 a0_2) ∧ w'.cell? ⟨gb258, 3, none⟩ = some (.int .i64 a0_3) ∧ w'.cell? ⟨gb259, 0, none⟩ = some (.int .i64 a1_0) ∧ w'.cell? ⟨gb259, 1, none⟩ = some (.int .i64 a1_1) ∧ w'.cell? ⟨gb259, 2, none⟩ = some (.int .i64 a1_2) ∧ w'.cell? ⟨gb259, 3, none⟩ = some (.int .i64 a1_3)) (ds := []) #[F, F, F, F, F, F, F, F, F, F, F, F, F, F, F, F, F, F] (by kernel_rfl) rfl rfl ⟨bc BK258 0, bc BK258 1, bc BK258 2, bc BK258 3, bc BK259 0, bc BK259 1, bc BK259 2, bc BK259 3⟩ (fun hHeld => ?_); refine with_tabW spec_ValWiden.tab2 spec_ValWiden.bits2 (fun HT_ HW_ => ?_)
     generalize w26.drew = w27 at BK258 BK259 BK260 BK265 HB hHeld ⊢
     refine take_ (i := 0) (N := some 11) (v := ?_) (a' := ?_) #[T, F, F, F, F, F, F, F, F, F, F, F, F, F, F, F, F, F] rfl rfl (take_ofW HT_.out HW_.out (by kernel_rfl)) (fun _ _ _ h => h) (Or.inl ⟨by rfl, ?_⟩) hHeld ?_ ?_
     rotate_left
     ·rintro w' ⟨s0, s1, s2, s3, s4, s5, s6, s7⟩
      go_simp
      with_reducible rfl
     rotate_left
     ·exact pz
     refine one_ (i := 1) (N := some 12) #[T, T, F, F, F, F, F, F, F, F, F, F, F, F, F, F, F, F] rfl rfl (one_of HT_.out (by kernel_rfl)) (by decide) (fun K hK => ?_)
     refine goes_ Try.func57 (by kernel_rfl) rfl #[.agg #[.int .i64 a0_0, .int .i64 a0_1, .int .i64 a0_2, .int .i64 a0_3]] (by rfl) rfl rfl mz ?_
     with_reducible refine (spec_ValOk.calls k a0_0 a0_1 a0_2 a0_3 true _ A20.out).mono ?_
     rintro e w28 ⟨rfl, hb⟩
     refine ⟨_, rfl, ?_⟩
     have n0_ := am (blk_below (g := gb258) (o := b4 a0_0 a0_1 a0_2 a0_3 25) (Z BK258) hb)
     have n1_ := am (blk_below (g := gb259) (o := b4 a1_0 a1_1 a1_2 a1_3 25) (Z BK259) hb)
     have n2_ := am (blk_below (g := gb260) (o := b4 0 0 0 0 25) (Z BK260) hb)
     have n3_ := am (blk_below (g := gb265) (o := b4 t261 t262 t263 t264 25) (Z BK265) hb)
     have n4_ := am (below_step (Y4 HB GE258 GE259 GE260 GE265) hb)
     clear BK258
     clear BK259
     clear BK260
     clear BK265
     clear HB
     have BK258 := n0_
     have BK259 := n1_
     have BK260 := n2_
     have BK265 := n3_
     have HB := n4_
     clear n0_ n1_ n2_ n3_ n4_
     (try clear hb)
     (try clear hb2)
     (try clear hk)
     (try clear hi)
     refine hK.out _ _ ⟨bc BK258 0, bc BK258 1, bc BK258 2, bc BK258 3, bc BK259 0, bc BK259 1, bc BK259 2, bc BK259 3⟩ (fun hHeld => ?_)
     clear hK K
     refine norm_ (a' := ?_) ?_ ?_
     rotate_left
     ·show Act.put _ (some 12) _ = _
      simp only [Act.put, List.setIfInBounds_toArray, List.set_cons_zero, List.set_cons_succ, i64_w, i32_w]
      rfl
     refine pure_ (i := 2) (N := some 13) (v := ?_) (a' := ?_) #[T, T, T, F, F, F, F, F, F, F, F, F, F, F, F, F, F, F] rfl rfl (any_of HT_.out (by kernel_rfl)) (fun _ _ _ h => h) (Or.inl ⟨by rfl, ?_⟩) ?_ ?_
     rotate_left
     ·exact gz
     rotate_left
     ·exact pz
     refine pure_ (i := 3) (N := some 14) (v := ?_) (a' := ?_) #[T, T, T, T, F, F, F, F, F, F, F, F, F, F, F, F, F, F] rfl rfl (any_of HT_.out (by kernel_rfl)) (fun _ _ _ h => h) (Or.inl ⟨by rfl, ?_⟩) ?_ ?_
     rotate_left
     ·exact gz
     rotate_left
     ·exact pz
     refine take_ (i := 4) (N := some 15) (v := ?_) (a' := ?_) #[T, T, T, T, T, F, F, F, F, F, F, F, F, F, F, F, F, F] rfl rfl (take_ofW HT_.out HW_.out (by kernel_rfl)) (fun _ _ _ h => h) (Or.inl ⟨by rfl, ?_⟩) hHeld ?_ ?_
     rotate_left
     ·rintro w' ⟨s0, s1, s2, s3, s4, s5, s6, s7⟩
      go_simp
      with_reducible rfl
     rotate_left
     ·exact pz
     refine one_ (i := 5) (N := some 16) #[T, T, T, T, T, T, F, F, F, F, F, F, F, F, F, F, F, F] rfl rfl (one_of HT_.out (by kernel_rfl)) (by decide) (fun K hK => ?_)
     refine goes_ Try.func57 (by kernel_rfl) rfl #[.agg #[.int .i64 a1_0, .int .i64 a1_1, .int .i64 a1_2, .int .i64 a1_3]] (by rfl) rfl rfl mz ?_
     with_reducible refine (spec_ValOk.calls k a1_0 a1_1 a1_2 a1_3 true _ A22.out).mono ?_
     rintro e w29 ⟨rfl, hb⟩
     refine ⟨_, rfl, ?_⟩
     have n0_ := am (blk_below (g := gb258) (o := b4 a0_0 a0_1 a0_2 a0_3 25) (Z BK258) hb)
     have n1_ := am (blk_below (g := gb259) (o := b4 a1_0 a1_1 a1_2 a1_3 25) (Z BK259) hb)
     have n2_ := am (blk_below (g := gb260) (o := b4 0 0 0 0 25) (Z BK260) hb)
     have n3_ := am (blk_below (g := gb265) (o := b4 t261 t262 t263 t264 25) (Z BK265) hb)
     have n4_ := am (below_step (Y4 HB GE258 GE259 GE260 GE265) hb)
     clear BK258
     clear BK259
     clear BK260
     clear BK265
     clear HB
     have BK258 := n0_
     have BK259 := n1_
     have BK260 := n2_
     have BK265 := n3_
     have HB := n4_
     clear n0_ n1_ n2_ n3_ n4_
     (try clear hb)
     (try clear hb2)
     (try clear hk)
     (try clear hi)
     refine hK.out _ _ ⟨bc BK258 0, bc BK258 1, bc BK258 2, bc BK258 3, bc BK259 0, bc BK259 1, bc BK259 2, bc BK259 3⟩ (fun hHeld => ?_)
     clear hK K
     refine norm_ (a' := ?_) ?_ ?_
     rotate_left
     ·show Act.put _ (some 16) _ = _
      simp only [Act.put, List.setIfInBounds_toArray, List.set_cons_zero, List.set_cons_succ, i64_w, i32_w]
      rfl
     refine pure_ (i := 6) (N := some 17) (v := ?_) (a' := ?_) #[T, T, T, T, T, T, T, F, F, F, F, F, F, F, F, F, F, F] rfl rfl (any_of HT_.out (by kernel_rfl)) (fun _ _ _ h => h) (Or.inl ⟨by rfl, ?_⟩) ?_ ?_
     rotate_left
     ·exact gz
     rotate_left
     ·exact pz
     refine pure_ (i := 7) (N := some 18) (v := ?_) (a' := ?_) #[T, T, T, T, T, T, T, T, F, F, F, F, F, F, F, F, F, F] rfl rfl (any_of HT_.out (by kernel_rfl)) (fun _ _ _ h => h) (Or.inl ⟨by rfl, ?_⟩) ?_ ?_
     rotate_left
     ·exact gz
     rotate_left
     ·exact pz
     refine pure_ (i := 8) (N := some 19) (v := ?_) (a' := ?_) #[T, T, T, T, T, T, T, T, T, F, F, F, F, F, F, F, F, F] rfl rfl (any_of HT_.out (by kernel_rfl)) (fun _ _ _ h => h) (Or.inl ⟨by rfl, ?_⟩) ?_ ?_
     rotate_left
     ·exact gz
     rotate_left
     ·exact pz
     refine take_ (i := 9) (N := some 20) (v := ?_) (a' := ?_) #[T, T, T, T, T, T, T, T, T, T, F, F, F, F, F, F, F, F] rfl rfl (take_ofW HT_.out HW_.out (by kernel_rfl)) (fun _ _ _ h => h) (Or.inl ⟨by rfl, ?_⟩) hHeld ?_ ?_
     rotate_left
     ·rintro w' ⟨s0, s1, s2, s3, s4, s5, s6, s7⟩
      go_simp
      with_reducible rfl
     rotate_left
     ·exact pz
     refine one_ (i := 10) (N := some 21) #[T, T, T, T, T, T, T, T, T, T, T, F, F, F, F, F, F, F] rfl rfl (one_of HT_.out (by kernel_rfl)) (by decide) (fun K hK => ?_)
     refine goes_ Try.func58 (by kernel_rfl) rfl #[] (by rfl) rfl rfl mz ?_
     with_reducible refine (spec_l10None.calls  t268 t269 t270 t271 _ A24.out).mono ?_
     rintro e w30 ⟨rfl, hb⟩
     refine ⟨_, rfl, ?_⟩
     have n0_ := am (blk_below (g := gb258) (o := b4 a0_0 a0_1 a0_2 a0_3 25) (Z BK258) hb)
     have n1_ := am (blk_below (g := gb259) (o := b4 a1_0 a1_1 a1_2 a1_3 25) (Z BK259) hb)
     have n2_ := am (blk_below (g := gb260) (o := b4 0 0 0 0 25) (Z BK260) hb)
     have n3_ := am (blk_below (g := gb265) (o := b4 t261 t262 t263 t264 25) (Z BK265) hb)
     have n4_ := am (below_step (Y4 HB GE258 GE259 GE260 GE265) hb)
     clear BK258
     clear BK259
     clear BK260
     clear BK265
     clear HB
     have BK258 := n0_
     have BK259 := n1_
     have BK260 := n2_
     have BK265 := n3_
     have HB := n4_
     clear n0_ n1_ n2_ n3_ n4_
     (try clear hb)
     (try clear hb2)
     (try clear hk)
     (try clear hi)
     refine hK.out _ _ ⟨bc BK258 0, bc BK258 1, bc BK258 2, bc BK258 3, bc BK259 0, bc BK259 1, bc BK259 2, bc BK259 3⟩ (fun hHeld => ?_)
     clear hK K
     refine norm_ (a' := ?_) ?_ ?_
     rotate_left
     ·show Act.put _ (some 21) _ = _
      simp only [Act.put, List.setIfInBounds_toArray, List.set_cons_zero, List.set_cons_succ, i64_w, i32_w]
      rfl
     refine pure_ (i := 11) (N := some 22) (v := ?_) (a' := ?_) #[T, T, T, T, T, T, T, T, T, T, T, T, F, F, F, F, F, F] rfl rfl (any_of HT_.out (by kernel_rfl)) (fun _ _ _ h => h) (Or.inl ⟨by rfl, ?_⟩) ?_ ?_
     rotate_left
     ·exact gz
     rotate_left
     ·exact pz
     refine pure_ (i := 12) (N := some 23) (v := ?_) (a' := ?_) #[T, T, T, T, T, T, T, T, T, T, T, T, T, F, F, F, F, F] rfl rfl (any_of HT_.out (by kernel_rfl)) (fun _ _ _ h => h) (Or.inl ⟨by rfl, ?_⟩) ?_ ?_
     rotate_left
     ·exact gz
     rotate_left
     ·exact pz
     refine pure_ (i := 13) (N := some 24) (v := ?_) (a' := ?_) #[T, T, T, T, T, T, T, T, T, T, T, T, T, T, F, F, F, F] rfl rfl (any_of HT_.out (by kernel_rfl)) (fun _ _ _ h => h) (Or.inl ⟨by rfl, ?_⟩) ?_ ?_
     rotate_left
     ·exact gz
     rotate_left
     ·exact pz
     refine pure_ (i := 14) (N := some 25) (v := undef) (a' := ?_) #[T, T, T, T, T, T, T, T, T, T, T, T, T, T, T, F, F, F] rfl rfl (any_of HT_.out (by kernel_rfl)) (fun _ _ _ h => h) (Or.inr ⟨by rfl, rfl⟩) ?_ ?_
     rotate_left
     ·exact pz
     refine pure_ (i := 15) (N := some 26) (v := undef) (a' := ?_) #[T, T, T, T, T, T, T, T, T, T, T, T, T, T, T, T, F, F] rfl rfl (any_of HT_.out (by kernel_rfl)) (fun _ _ _ h => h) (Or.inr ⟨by rfl, rfl⟩) ?_ ?_
     rotate_left
     ·exact pz
     refine pure_ (i := 16) (N := some 27) (v := undef) (a' := ?_) #[T, T, T, T, T, T, T, T, T, T, T, T, T, T, T, T, T, F] rfl rfl (any_of HT_.out (by kernel_rfl)) (fun _ _ _ h => h) (Or.inr ⟨by rfl, rfl⟩) ?_ ?_
     rotate_left
     ·exact pz
     refine pure_ (i := 17) (N := some 28) (v := ?_) (a' := ?_) #[T, T, T, T, T, T, T, T, T, T, T, T, T, T, T, T, T, T] rfl rfl (any_of HT_.out (by kernel_rfl)) (fun _ _ _ h => h) (Or.inl ⟨by rfl, ?_⟩) ?_ ?_
     rotate_left
     ·exact gz
     rotate_left
     ·exact pz
     refine done_ (done_of HT_.out (by kernel_rfl)) ?_
     try go_wp2
     go_meet
     case rel => exact ⟨_, (true), (by first | rfl | (simp; done) | (simp [*]; done)), H', ⟨by first | omega | exact Nat.le_refl _⟩, ⟨Z BK258⟩, ⟨Z BK259⟩, ⟨Z BK260⟩, ⟨Z BK265⟩, ⟨Y4 HB GE258 GE259 GE260 GE265⟩⟩
    ·rw [if_neg c25] at H
     have c25b0 : (a0_0 == t268 && (a0_1 == t269 && (a0_2 == t270 && (a0_3 == t271)))) = false := by simpa using c25
     (try (have c25b1 : decide (a0_0 = t268 && (a0_1 == t269 && (a0_2 == t270 && (a0_3 == t271)))) = false := by simpa using c25))
     (try (have c25b2 : (a0_0 == t268 && (a0_1 == t269 && (a0_2 == t270 && (a0_3 == t271)))) = false := by simpa using c25))
     (try (have c25b3 : ¬ (a0_0 = t268 && (a0_1 == t269 && (a0_2 == t270 && (a0_3 == t271)))) := by simpa using c25))
     clear c25
     (first | rw [c25b0] | (simp only [i64_w, i32_w]; rw [c25b0]) | skip)
     replace H := Option.bind_eq_some_iff.mp H
     obtain ⟨⟨t272, t273, t274, t275⟩, A310, H⟩ := H
     replace H : (spec_ValWiden.j0 k l2 (a1_0 == t272 && (a1_1 == t273 && (a1_2 == t274 && (a1_3 == t275)))) a0_0 a0_1 a0_2 a0_3 a1_0 a1_1 a1_2 a1_3 t261 t262 t263 t264) = some (r1, r2, r3, r4) := H
     have A31 := am A310
     clear A310
     have H' := am H
     clear H
     try go_wp2
     have n0_ : Aside0 (((((w15.setCell ⟨gb265, 0, none⟩ (.int .i64 t261)).setCell ⟨gb265, 1, none⟩ (.int .i64 t262)).setCell ⟨gb265, 2, none⟩ (.int .i64 t263)).setCell ⟨gb265, 3, none⟩ (.int .i64 t264)).heap[gb258]? = some (.cells #[.int .i64 a0_0, .int .i64 a0_1, .int .i64 a0_2, .int .i64 a0_3] 25 (0, 0))) := ⟨by (with_reducible repeat (first | refine blk_drewN ?_ _ | refine blk_drew ?_ | refine blk_alloc ?_ _)); refine blk_far ?_ NB258_265.out _; (with_reducible repeat (first | refine blk_drewN ?_ _ | refine blk_drew ?_ | refine blk_alloc ?_ _)); refine blk_far ?_ NB258_265.out _; (with_reducible repeat (first | refine blk_drewN ?_ _ | refine blk_drew ?_ | refine blk_alloc ?_ _)); refine blk_far ?_ NB258_265.out _; (with_reducible repeat (first | refine blk_drewN ?_ _ | refine blk_drew ?_ | refine blk_alloc ?_ _)); refine blk_far ?_ NB258_265.out _; (with_reducible repeat (first | refine blk_drewN ?_ _ | refine blk_drew ?_ | refine blk_alloc ?_ _)); exact BK258.out⟩
     have n1_ : Aside0 (((((w15.setCell ⟨gb265, 0, none⟩ (.int .i64 t261)).setCell ⟨gb265, 1, none⟩ (.int .i64 t262)).setCell ⟨gb265, 2, none⟩ (.int .i64 t263)).setCell ⟨gb265, 3, none⟩ (.int .i64 t264)).heap[gb259]? = some (.cells #[.int .i64 a1_0, .int .i64 a1_1, .int .i64 a1_2, .int .i64 a1_3] 25 (0, 0))) := ⟨by (with_reducible repeat (first | refine blk_drewN ?_ _ | refine blk_drew ?_ | refine blk_alloc ?_ _)); refine blk_far ?_ NB259_265.out _; (with_reducible repeat (first | refine blk_drewN ?_ _ | refine blk_drew ?_ | refine blk_alloc ?_ _)); refine blk_far ?_ NB259_265.out _; (with_reducible repeat (first | refine blk_drewN ?_ _ | refine blk_drew ?_ | refine blk_alloc ?_ _)); refine blk_far ?_ NB259_265.out _; (with_reducible repeat (first | refine blk_drewN ?_ _ | refine blk_drew ?_ | refine blk_alloc ?_ _)); refine blk_far ?_ NB259_265.out _; (with_reducible repeat (first | refine blk_drewN ?_ _ | refine blk_drew ?_ | refine blk_alloc ?_ _)); exact BK259.out⟩
     have n2_ : Aside0 (((((w15.setCell ⟨gb265, 0, none⟩ (.int .i64 t261)).setCell ⟨gb265, 1, none⟩ (.int .i64 t262)).setCell ⟨gb265, 2, none⟩ (.int .i64 t263)).setCell ⟨gb265, 3, none⟩ (.int .i64 t264)).heap[gb260]? = some (.cells #[.int .i64 0, .int .i64 0, .int .i64 0, .int .i64 0] 25 (0, 0))) := ⟨by (with_reducible repeat (first | refine blk_drewN ?_ _ | refine blk_drew ?_ | refine blk_alloc ?_ _)); refine blk_far ?_ NB260_265.out _; (with_reducible repeat (first | refine blk_drewN ?_ _ | refine blk_drew ?_ | refine blk_alloc ?_ _)); refine blk_far ?_ NB260_265.out _; (with_reducible repeat (first | refine blk_drewN ?_ _ | refine blk_drew ?_ | refine blk_alloc ?_ _)); refine blk_far ?_ NB260_265.out _; (with_reducible repeat (first | refine blk_drewN ?_ _ | refine blk_drew ?_ | refine blk_alloc ?_ _)); refine blk_far ?_ NB260_265.out _; (with_reducible repeat (first | refine blk_drewN ?_ _ | refine blk_drew ?_ | refine blk_alloc ?_ _)); exact BK260.out⟩
     have n3_ : Aside0 (((((w15.setCell ⟨gb265, 0, none⟩ (.int .i64 t261)).setCell ⟨gb265, 1, none⟩ (.int .i64 t262)).setCell ⟨gb265, 2, none⟩ (.int .i64 t263)).setCell ⟨gb265, 3, none⟩ (.int .i64 t264)).heap[gb265]? = some (.cells #[.int .i64 t261, .int .i64 t262, .int .i64 t263, .int .i64 t264] 25 (0, 0))) := ⟨by (with_reducible repeat (first | refine blk_drewN ?_ _ | refine blk_drew ?_ | refine blk_alloc ?_ _)); refine blk_put (cs := #[.int .i64 t261, .int .i64 t262, .int .i64 t263, .int .i64 0]) ?_ 3 _ rfl; (with_reducible repeat (first | refine blk_drewN ?_ _ | refine blk_drew ?_ | refine blk_alloc ?_ _)); refine blk_put (cs := #[.int .i64 t261, .int .i64 t262, .int .i64 0, .int .i64 0]) ?_ 2 _ rfl; (with_reducible repeat (first | refine blk_drewN ?_ _ | refine blk_drew ?_ | refine blk_alloc ?_ _)); refine blk_put (cs := #[.int .i64 t261, .int .i64 0, .int .i64 0, .int .i64 0]) ?_ 1 _ rfl; (with_reducible repeat (first | refine blk_drewN ?_ _ | refine blk_drew ?_ | refine blk_alloc ?_ _)); refine blk_put (cs := #[.int .i64 0, .int .i64 0, .int .i64 0, .int .i64 0]) ?_ 0 _ rfl; (with_reducible repeat (first | refine blk_drewN ?_ _ | refine blk_drew ?_ | refine blk_alloc ?_ _)); exact BK265.out⟩
     have n4_ : Aside0 (Below w.heap.size w ((((w15.setCell ⟨gb265, 0, none⟩ (.int .i64 t261)).setCell ⟨gb265, 1, none⟩ (.int .i64 t262)).setCell ⟨gb265, 2, none⟩ (.int .i64 t263)).setCell ⟨gb265, 3, none⟩ (.int .i64 t264))) := ⟨Y4 HB GE258 GE259 GE260 GE265⟩
     (try clear BK258)
     (try clear BK259)
     (try clear BK260)
     (try clear BK265)
     (try clear HB)
     generalize ((((w15.setCell ⟨gb265, 0, none⟩ (.int .i64 t261)).setCell ⟨gb265, 1, none⟩ (.int .i64 t262)).setCell ⟨gb265, 2, none⟩ (.int .i64 t263)).setCell ⟨gb265, 3, none⟩ (.int .i64 t264)) = w32 at n0_ n1_ n2_ n3_ n4_ ⊢
     have BK258 := n0_
     have BK259 := n1_
     have BK260 := n2_
     have BK265 := n3_
     have HB := n4_
     clear n0_ n1_ n2_ n3_ n4_
     have n0_ := am (blk_drew BK258.out)
     have n1_ := am (blk_drew BK259.out)
     have n2_ := am (blk_drew BK260.out)
     have n3_ := am (blk_drew BK265.out)
     have n4_ := am (below_drew1 HB.out)
     clear BK258
     clear BK259
     clear BK260
     clear BK265
     clear HB
     have BK258 := n0_
     have BK259 := n1_
     have BK260 := n2_
     have BK265 := n3_
     have HB := n4_
     clear n0_ n1_ n2_ n3_ n4_
     refine start_ (n := 18) (S := fun w' => w'.cell? ⟨gb258, 0, none⟩ = some (.int .i64 a0_0) ∧ w'.cell? ⟨gb258, 1, none⟩ = some (.int .i64 a0_1) ∧ w'.cell? ⟨gb258, 2, none⟩ = some (.int .i64 a0_2) ∧ w'.cell? ⟨gb258, 3, none⟩ = some (.int .i64 a0_3) ∧ w'.cell? ⟨gb259, 0, none⟩ = some (.int .i64 a1_0) ∧ w'.cell? ⟨gb259, 1, none⟩ = some (.int .i64 a1_1) ∧ w'.cell? ⟨gb259, 2, none⟩ = some (.int .i64 a1_2) ∧ w'.cell? ⟨gb259, 3, none⟩ = some (.int .i64 a1_3)) (ds := []) #[F, F, F, F, F, F, F, F, F, F, F, F, F, F, F, F, F, F] (by kernel_rfl) rfl rfl ⟨bc BK258 0, bc BK258 1, bc BK258 2, bc BK258 3, bc BK259 0, bc BK259 1, bc BK259 2, bc BK259 3⟩ (fun hHeld => ?_); refine with_tabW spec_ValWiden.tab2 spec_ValWiden.bits2 (fun HT_ HW_ => ?_)
     generalize w32.drew = w33 at BK258 BK259 BK260 BK265 HB hHeld ⊢
     refine take_ (i := 0) (N := some 11) (v := ?_) (a' := ?_) #[T, F, F, F, F, F, F, F, F, F, F, F, F, F, F, F, F, F] rfl rfl (take_ofW HT_.out HW_.out (by kernel_rfl)) (fun _ _ _ h => h) (Or.inl ⟨by rfl, ?_⟩) hHeld ?_ ?_
     rotate_left
     ·rintro w' ⟨s0, s1, s2, s3, s4, s5, s6, s7⟩
      go_simp
      with_reducible rfl
     rotate_left
     ·exact pz
     refine one_ (i := 1) (N := some 12) #[T, T, F, F, F, F, F, F, F, F, F, F, F, F, F, F, F, F] rfl rfl (one_of HT_.out (by kernel_rfl)) (by decide) (fun K hK => ?_)
     refine goes_ Try.func57 (by kernel_rfl) rfl #[.agg #[.int .i64 a0_0, .int .i64 a0_1, .int .i64 a0_2, .int .i64 a0_3]] (by rfl) rfl rfl mz ?_
     with_reducible refine (spec_ValOk.calls k a0_0 a0_1 a0_2 a0_3 true _ A20.out).mono ?_
     rintro e w34 ⟨rfl, hb⟩
     refine ⟨_, rfl, ?_⟩
     have n0_ := am (blk_below (g := gb258) (o := b4 a0_0 a0_1 a0_2 a0_3 25) (Z BK258) hb)
     have n1_ := am (blk_below (g := gb259) (o := b4 a1_0 a1_1 a1_2 a1_3 25) (Z BK259) hb)
     have n2_ := am (blk_below (g := gb260) (o := b4 0 0 0 0 25) (Z BK260) hb)
     have n3_ := am (blk_below (g := gb265) (o := b4 t261 t262 t263 t264 25) (Z BK265) hb)
     have n4_ := am (below_step (Y4 HB GE258 GE259 GE260 GE265) hb)
     clear BK258
     clear BK259
     clear BK260
     clear BK265
     clear HB
     have BK258 := n0_
     have BK259 := n1_
     have BK260 := n2_
     have BK265 := n3_
     have HB := n4_
     clear n0_ n1_ n2_ n3_ n4_
     (try clear hb)
     (try clear hb2)
     (try clear hk)
     (try clear hi)
     refine hK.out _ _ ⟨bc BK258 0, bc BK258 1, bc BK258 2, bc BK258 3, bc BK259 0, bc BK259 1, bc BK259 2, bc BK259 3⟩ (fun hHeld => ?_)
     clear hK K
     refine norm_ (a' := ?_) ?_ ?_
     rotate_left
     ·show Act.put _ (some 12) _ = _
      simp only [Act.put, List.setIfInBounds_toArray, List.set_cons_zero, List.set_cons_succ, i64_w, i32_w]
      rfl
     refine pure_ (i := 2) (N := some 13) (v := ?_) (a' := ?_) #[T, T, T, F, F, F, F, F, F, F, F, F, F, F, F, F, F, F] rfl rfl (any_of HT_.out (by kernel_rfl)) (fun _ _ _ h => h) (Or.inl ⟨by rfl, ?_⟩) ?_ ?_
     rotate_left
     ·exact gz
     rotate_left
     ·exact pz
     refine pure_ (i := 3) (N := some 14) (v := ?_) (a' := ?_) #[T, T, T, T, F, F, F, F, F, F, F, F, F, F, F, F, F, F] rfl rfl (any_of HT_.out (by kernel_rfl)) (fun _ _ _ h => h) (Or.inl ⟨by rfl, ?_⟩) ?_ ?_
     rotate_left
     ·exact gz
     rotate_left
     ·exact pz
     refine take_ (i := 4) (N := some 15) (v := ?_) (a' := ?_) #[T, T, T, T, T, F, F, F, F, F, F, F, F, F, F, F, F, F] rfl rfl (take_ofW HT_.out HW_.out (by kernel_rfl)) (fun _ _ _ h => h) (Or.inl ⟨by rfl, ?_⟩) hHeld ?_ ?_
     rotate_left
     ·rintro w' ⟨s0, s1, s2, s3, s4, s5, s6, s7⟩
      go_simp
      with_reducible rfl
     rotate_left
     ·exact pz
     refine one_ (i := 5) (N := some 16) #[T, T, T, T, T, T, F, F, F, F, F, F, F, F, F, F, F, F] rfl rfl (one_of HT_.out (by kernel_rfl)) (by decide) (fun K hK => ?_)
     refine goes_ Try.func57 (by kernel_rfl) rfl #[.agg #[.int .i64 a1_0, .int .i64 a1_1, .int .i64 a1_2, .int .i64 a1_3]] (by rfl) rfl rfl mz ?_
     with_reducible refine (spec_ValOk.calls k a1_0 a1_1 a1_2 a1_3 true _ A22.out).mono ?_
     rintro e w35 ⟨rfl, hb⟩
     refine ⟨_, rfl, ?_⟩
     have n0_ := am (blk_below (g := gb258) (o := b4 a0_0 a0_1 a0_2 a0_3 25) (Z BK258) hb)
     have n1_ := am (blk_below (g := gb259) (o := b4 a1_0 a1_1 a1_2 a1_3 25) (Z BK259) hb)
     have n2_ := am (blk_below (g := gb260) (o := b4 0 0 0 0 25) (Z BK260) hb)
     have n3_ := am (blk_below (g := gb265) (o := b4 t261 t262 t263 t264 25) (Z BK265) hb)
     have n4_ := am (below_step (Y4 HB GE258 GE259 GE260 GE265) hb)
     clear BK258
     clear BK259
     clear BK260
     clear BK265
     clear HB
     have BK258 := n0_
     have BK259 := n1_
     have BK260 := n2_
     have BK265 := n3_
     have HB := n4_
     clear n0_ n1_ n2_ n3_ n4_
     (try clear hb)
     (try clear hb2)
     (try clear hk)
     (try clear hi)
     refine hK.out _ _ ⟨bc BK258 0, bc BK258 1, bc BK258 2, bc BK258 3, bc BK259 0, bc BK259 1, bc BK259 2, bc BK259 3⟩ (fun hHeld => ?_)
     clear hK K
     refine norm_ (a' := ?_) ?_ ?_
     rotate_left
     ·show Act.put _ (some 16) _ = _
      simp only [Act.put, List.setIfInBounds_toArray, List.set_cons_zero, List.set_cons_succ, i64_w, i32_w]
      rfl
     refine pure_ (i := 6) (N := some 17) (v := ?_) (a' := ?_) #[T, T, T, T, T, T, T, F, F, F, F, F, F, F, F, F, F, F] rfl rfl (any_of HT_.out (by kernel_rfl)) (fun _ _ _ h => h) (Or.inl ⟨by rfl, ?_⟩) ?_ ?_
     rotate_left
     ·exact gz
     rotate_left
     ·exact pz
     refine pure_ (i := 7) (N := some 18) (v := ?_) (a' := ?_) #[T, T, T, T, T, T, T, T, F, F, F, F, F, F, F, F, F, F] rfl rfl (any_of HT_.out (by kernel_rfl)) (fun _ _ _ h => h) (Or.inl ⟨by rfl, ?_⟩) ?_ ?_
     rotate_left
     ·exact gz
     rotate_left
     ·exact pz
     refine pure_ (i := 8) (N := some 19) (v := ?_) (a' := ?_) #[T, T, T, T, T, T, T, T, T, F, F, F, F, F, F, F, F, F] rfl rfl (any_of HT_.out (by kernel_rfl)) (fun _ _ _ h => h) (Or.inl ⟨by rfl, ?_⟩) ?_ ?_
     rotate_left
     ·exact gz
     rotate_left
     ·exact pz
     refine take_ (i := 9) (N := some 20) (v := ?_) (a' := ?_) #[T, T, T, T, T, T, T, T, T, T, F, F, F, F, F, F, F, F] rfl rfl (take_ofW HT_.out HW_.out (by kernel_rfl)) (fun _ _ _ h => h) (Or.inl ⟨by rfl, ?_⟩) hHeld ?_ ?_
     rotate_left
     ·rintro w' ⟨s0, s1, s2, s3, s4, s5, s6, s7⟩
      go_simp
      with_reducible rfl
     rotate_left
     ·exact pz
     refine one_ (i := 10) (N := some 21) #[T, T, T, T, T, T, T, T, T, T, T, F, F, F, F, F, F, F] rfl rfl (one_of HT_.out (by kernel_rfl)) (by decide) (fun K hK => ?_)
     refine goes_ Try.func58 (by kernel_rfl) rfl #[] (by rfl) rfl rfl mz ?_
     with_reducible refine (spec_l10None.calls  t268 t269 t270 t271 _ A24.out).mono ?_
     rintro e w36 ⟨rfl, hb⟩
     refine ⟨_, rfl, ?_⟩
     have n0_ := am (blk_below (g := gb258) (o := b4 a0_0 a0_1 a0_2 a0_3 25) (Z BK258) hb)
     have n1_ := am (blk_below (g := gb259) (o := b4 a1_0 a1_1 a1_2 a1_3 25) (Z BK259) hb)
     have n2_ := am (blk_below (g := gb260) (o := b4 0 0 0 0 25) (Z BK260) hb)
     have n3_ := am (blk_below (g := gb265) (o := b4 t261 t262 t263 t264 25) (Z BK265) hb)
     have n4_ := am (below_step (Y4 HB GE258 GE259 GE260 GE265) hb)
     clear BK258
     clear BK259
     clear BK260
     clear BK265
     clear HB
     have BK258 := n0_
     have BK259 := n1_
     have BK260 := n2_
     have BK265 := n3_
     have HB := n4_
     clear n0_ n1_ n2_ n3_ n4_
     (try clear hb)
     (try clear hb2)
     (try clear hk)
     (try clear hi)
     refine hK.out _ _ ⟨bc BK258 0, bc BK258 1, bc BK258 2, bc BK258 3, bc BK259 0, bc BK259 1, bc BK259 2, bc BK259 3⟩ (fun hHeld => ?_)
     clear hK K
     refine norm_ (a' := ?_) ?_ ?_
     rotate_left
     ·show Act.put _ (some 21) _ = _
      simp only [Act.put, List.setIfInBounds_toArray, List.set_cons_zero, List.set_cons_succ, i64_w, i32_w]
      rfl
     refine pure_ (i := 11) (N := some 22) (v := ?_) (a' := ?_) #[T, T, T, T, T, T, T, T, T, T, T, T, F, F, F, F, F, F] rfl rfl (any_of HT_.out (by kernel_rfl)) (fun _ _ _ h => h) (Or.inl ⟨by rfl, ?_⟩) ?_ ?_
     rotate_left
     ·exact gz
     rotate_left
     ·exact pz
     refine pure_ (i := 12) (N := some 23) (v := ?_) (a' := ?_) #[T, T, T, T, T, T, T, T, T, T, T, T, T, F, F, F, F, F] rfl rfl (any_of HT_.out (by kernel_rfl)) (fun _ _ _ h => h) (Or.inl ⟨by rfl, ?_⟩) ?_ ?_
     rotate_left
     ·exact gz
     rotate_left
     ·exact pz
     refine pure_ (i := 13) (N := some 24) (v := ?_) (a' := ?_) #[T, T, T, T, T, T, T, T, T, T, T, T, T, T, F, F, F, F] rfl rfl (any_of HT_.out (by kernel_rfl)) (fun _ _ _ h => h) (Or.inl ⟨by rfl, ?_⟩) ?_ ?_
     rotate_left
     ·exact gz
     rotate_left
     ·exact pz
     refine take_ (i := 14) (N := some 25) (v := ?_) (a' := ?_) #[T, T, T, T, T, T, T, T, T, T, T, T, T, T, T, F, F, F] rfl rfl (take_ofW HT_.out HW_.out (by kernel_rfl)) (fun _ _ _ h => h) (Or.inl ⟨by rfl, ?_⟩) hHeld ?_ ?_
     rotate_left
     ·rintro w' ⟨s0, s1, s2, s3, s4, s5, s6, s7⟩
      go_simp
      with_reducible rfl
     rotate_left
     ·exact pz
     refine one_ (i := 15) (N := some 26) #[T, T, T, T, T, T, T, T, T, T, T, T, T, T, T, T, F, F] rfl rfl (one_of HT_.out (by kernel_rfl)) (by decide) (fun K hK => ?_)
     refine goes_ Try.func58 (by kernel_rfl) rfl #[] (by rfl) rfl rfl mz ?_
     with_reducible refine (spec_l10None.calls  t272 t273 t274 t275 _ A31.out).mono ?_
     rintro e w37 ⟨rfl, hb⟩
     refine ⟨_, rfl, ?_⟩
     have n0_ := am (blk_below (g := gb258) (o := b4 a0_0 a0_1 a0_2 a0_3 25) (Z BK258) hb)
     have n1_ := am (blk_below (g := gb259) (o := b4 a1_0 a1_1 a1_2 a1_3 25) (Z BK259) hb)
     have n2_ := am (blk_below (g := gb260) (o := b4 0 0 0 0 25) (Z BK260) hb)
     have n3_ := am (blk_below (g := gb265) (o := b4 t261 t262 t263 t264 25) (Z BK265) hb)
     have n4_ := am (below_step (Y4 HB GE258 GE259 GE260 GE265) hb)
     clear BK258
     clear BK259
     clear BK260
     clear BK265
     clear HB
     have BK258 := n0_
     have BK259 := n1_
     have BK260 := n2_
     have BK265 := n3_
     have HB := n4_
     clear n0_ n1_ n2_ n3_ n4_
     (try clear hb)
     (try clear hb2)
     (try clear hk)
     (try clear hi)
     refine hK.out _ _ ⟨bc BK258 0, bc BK258 1, bc BK258 2, bc BK258 3, bc BK259 0, bc BK259 1, bc BK259 2, bc BK259 3⟩ (fun hHeld => ?_)
     clear hK K
     refine norm_ (a' := ?_) ?_ ?_
     rotate_left
     ·show Act.put _ (some 26) _ = _
      simp only [Act.put, List.setIfInBounds_toArray, List.set_cons_zero, List.set_cons_succ, i64_w, i32_w]
      rfl
     refine pure_ (i := 16) (N := some 27) (v := ?_) (a' := ?_) #[T, T, T, T, T, T, T, T, T, T, T, T, T, T, T, T, T, F] rfl rfl (any_of HT_.out (by kernel_rfl)) (fun _ _ _ h => h) (Or.inl ⟨by rfl, ?_⟩) ?_ ?_
     rotate_left
     ·exact gz
     rotate_left
     ·exact pz
     refine pure_ (i := 17) (N := some 28) (v := ?_) (a' := ?_) #[T, T, T, T, T, T, T, T, T, T, T, T, T, T, T, T, T, T] rfl rfl (any_of HT_.out (by kernel_rfl)) (fun _ _ _ h => h) (Or.inl ⟨by rfl, ?_⟩) ?_ ?_
     rotate_left
     ·exact gz
     rotate_left
     ·exact pz
     refine done_ (done_of HT_.out (by kernel_rfl)) ?_
     try go_wp2
     go_meet
     case rel => exact ⟨_, ((a1_0 == t272 && (a1_1 == t273 && (a1_2 == t274 && (a1_3 == t275))))), (by first | rfl | (simp; done) | (simp [*]; done)), H', ⟨by first | omega | exact Nat.le_refl _⟩, ⟨Z BK258⟩, ⟨Z BK259⟩, ⟨Z BK260⟩, ⟨Z BK265⟩, ⟨Y4 HB GE258 GE259 GE260 GE265⟩⟩
   ·replace c23 := Bool.eq_false_iff.mpr c23
    subst c23
    have H1 : (spec_ValWiden.j0 k l2 true a0_0 a0_1 a0_2 a0_3 a1_0 a1_1 a1_2 a1_3 t261 t262 t263 t264) = some (r1, r2, r3, r4) := by rw [if_neg (show ¬ (false = true) by decide)] at H; exact H
    clear H
    have H := H1
    clear H1
    have H' := am H
    clear H
    try go_wp2
    have n0_ : Aside0 (((((w15.setCell ⟨gb265, 0, none⟩ (.int .i64 t261)).setCell ⟨gb265, 1, none⟩ (.int .i64 t262)).setCell ⟨gb265, 2, none⟩ (.int .i64 t263)).setCell ⟨gb265, 3, none⟩ (.int .i64 t264)).heap[gb258]? = some (.cells #[.int .i64 a0_0, .int .i64 a0_1, .int .i64 a0_2, .int .i64 a0_3] 25 (0, 0))) := ⟨by (with_reducible repeat (first | refine blk_drewN ?_ _ | refine blk_drew ?_ | refine blk_alloc ?_ _)); refine blk_far ?_ NB258_265.out _; (with_reducible repeat (first | refine blk_drewN ?_ _ | refine blk_drew ?_ | refine blk_alloc ?_ _)); refine blk_far ?_ NB258_265.out _; (with_reducible repeat (first | refine blk_drewN ?_ _ | refine blk_drew ?_ | refine blk_alloc ?_ _)); refine blk_far ?_ NB258_265.out _; (with_reducible repeat (first | refine blk_drewN ?_ _ | refine blk_drew ?_ | refine blk_alloc ?_ _)); refine blk_far ?_ NB258_265.out _; (with_reducible repeat (first | refine blk_drewN ?_ _ | refine blk_drew ?_ | refine blk_alloc ?_ _)); exact BK258.out⟩
    have n1_ : Aside0 (((((w15.setCell ⟨gb265, 0, none⟩ (.int .i64 t261)).setCell ⟨gb265, 1, none⟩ (.int .i64 t262)).setCell ⟨gb265, 2, none⟩ (.int .i64 t263)).setCell ⟨gb265, 3, none⟩ (.int .i64 t264)).heap[gb259]? = some (.cells #[.int .i64 a1_0, .int .i64 a1_1, .int .i64 a1_2, .int .i64 a1_3] 25 (0, 0))) := ⟨by (with_reducible repeat (first | refine blk_drewN ?_ _ | refine blk_drew ?_ | refine blk_alloc ?_ _)); refine blk_far ?_ NB259_265.out _; (with_reducible repeat (first | refine blk_drewN ?_ _ | refine blk_drew ?_ | refine blk_alloc ?_ _)); refine blk_far ?_ NB259_265.out _; (with_reducible repeat (first | refine blk_drewN ?_ _ | refine blk_drew ?_ | refine blk_alloc ?_ _)); refine blk_far ?_ NB259_265.out _; (with_reducible repeat (first | refine blk_drewN ?_ _ | refine blk_drew ?_ | refine blk_alloc ?_ _)); refine blk_far ?_ NB259_265.out _; (with_reducible repeat (first | refine blk_drewN ?_ _ | refine blk_drew ?_ | refine blk_alloc ?_ _)); exact BK259.out⟩
    have n2_ : Aside0 (((((w15.setCell ⟨gb265, 0, none⟩ (.int .i64 t261)).setCell ⟨gb265, 1, none⟩ (.int .i64 t262)).setCell ⟨gb265, 2, none⟩ (.int .i64 t263)).setCell ⟨gb265, 3, none⟩ (.int .i64 t264)).heap[gb260]? = some (.cells #[.int .i64 0, .int .i64 0, .int .i64 0, .int .i64 0] 25 (0, 0))) := ⟨by (with_reducible repeat (first | refine blk_drewN ?_ _ | refine blk_drew ?_ | refine blk_alloc ?_ _)); refine blk_far ?_ NB260_265.out _; (with_reducible repeat (first | refine blk_drewN ?_ _ | refine blk_drew ?_ | refine blk_alloc ?_ _)); refine blk_far ?_ NB260_265.out _; (with_reducible repeat (first | refine blk_drewN ?_ _ | refine blk_drew ?_ | refine blk_alloc ?_ _)); refine blk_far ?_ NB260_265.out _; (with_reducible repeat (first | refine blk_drewN ?_ _ | refine blk_drew ?_ | refine blk_alloc ?_ _)); refine blk_far ?_ NB260_265.out _; (with_reducible repeat (first | refine blk_drewN ?_ _ | refine blk_drew ?_ | refine blk_alloc ?_ _)); exact BK260.out⟩
    have n3_ : Aside0 (((((w15.setCell ⟨gb265, 0, none⟩ (.int .i64 t261)).setCell ⟨gb265, 1, none⟩ (.int .i64 t262)).setCell ⟨gb265, 2, none⟩ (.int .i64 t263)).setCell ⟨gb265, 3, none⟩ (.int .i64 t264)).heap[gb265]? = some (.cells #[.int .i64 t261, .int .i64 t262, .int .i64 t263, .int .i64 t264] 25 (0, 0))) := ⟨by (with_reducible repeat (first | refine blk_drewN ?_ _ | refine blk_drew ?_ | refine blk_alloc ?_ _)); refine blk_put (cs := #[.int .i64 t261, .int .i64 t262, .int .i64 t263, .int .i64 0]) ?_ 3 _ rfl; (with_reducible repeat (first | refine blk_drewN ?_ _ | refine blk_drew ?_ | refine blk_alloc ?_ _)); refine blk_put (cs := #[.int .i64 t261, .int .i64 t262, .int .i64 0, .int .i64 0]) ?_ 2 _ rfl; (with_reducible repeat (first | refine blk_drewN ?_ _ | refine blk_drew ?_ | refine blk_alloc ?_ _)); refine blk_put (cs := #[.int .i64 t261, .int .i64 0, .int .i64 0, .int .i64 0]) ?_ 1 _ rfl; (with_reducible repeat (first | refine blk_drewN ?_ _ | refine blk_drew ?_ | refine blk_alloc ?_ _)); refine blk_put (cs := #[.int .i64 0, .int .i64 0, .int .i64 0, .int .i64 0]) ?_ 0 _ rfl; (with_reducible repeat (first | refine blk_drewN ?_ _ | refine blk_drew ?_ | refine blk_alloc ?_ _)); exact BK265.out⟩
    have n4_ : Aside0 (Below w.heap.size w ((((w15.setCell ⟨gb265, 0, none⟩ (.int .i64 t261)).setCell ⟨gb265, 1, none⟩ (.int .i64 t262)).setCell ⟨gb265, 2, none⟩ (.int .i64 t263)).setCell ⟨gb265, 3, none⟩ (.int .i64 t264))) := ⟨Y4 HB GE258 GE259 GE260 GE265⟩
    (try clear BK258)
    (try clear BK259)
    (try clear BK260)
    (try clear BK265)
    (try clear HB)
    generalize ((((w15.setCell ⟨gb265, 0, none⟩ (.int .i64 t261)).setCell ⟨gb265, 1, none⟩ (.int .i64 t262)).setCell ⟨gb265, 2, none⟩ (.int .i64 t263)).setCell ⟨gb265, 3, none⟩ (.int .i64 t264)) = w38 at n0_ n1_ n2_ n3_ n4_ ⊢
    have BK258 := n0_
    have BK259 := n1_
    have BK260 := n2_
    have BK265 := n3_
    have HB := n4_
    clear n0_ n1_ n2_ n3_ n4_
    have n0_ := am (blk_drew BK258.out)
    have n1_ := am (blk_drew BK259.out)
    have n2_ := am (blk_drew BK260.out)
    have n3_ := am (blk_drew BK265.out)
    have n4_ := am (below_drew1 HB.out)
    clear BK258
    clear BK259
    clear BK260
    clear BK265
    clear HB
    have BK258 := n0_
    have BK259 := n1_
    have BK260 := n2_
    have BK265 := n3_
    have HB := n4_
    clear n0_ n1_ n2_ n3_ n4_
    refine start_ (n := 18) (S := fun w' => w'.cell? ⟨gb258, 0, none⟩ = some (.int .i64 a0_0) ∧ w'.cell? ⟨gb258, 1, none⟩ = some (.int .i64 a0_1) ∧ w'.cell? ⟨gb258, 2, none⟩ = some (.int .i64 a0_2) ∧ w'.cell? ⟨gb258, 3, none⟩ = some (.int .i64 a0_3) ∧ w'.cell? ⟨gb259, 0, none⟩ = some (.int .i64 a1_0) ∧ w'.cell? ⟨gb259, 1, none⟩ = some (.int .i64 a1_1) ∧ w'.cell? ⟨gb259, 2, none⟩ = some (.int .i64 a1_2) ∧ w'.cell? ⟨gb259, 3, none⟩ = some (.int .i64 a1_3)) (ds := []) #[F, F, F, F, F, F, F, F, F, F, F, F, F, F, F, F, F, F] (by kernel_rfl) rfl rfl ⟨bc BK258 0, bc BK258 1, bc BK258 2, bc BK258 3, bc BK259 0, bc BK259 1, bc BK259 2, bc BK259 3⟩ (fun hHeld => ?_); refine with_tabW spec_ValWiden.tab2 spec_ValWiden.bits2 (fun HT_ HW_ => ?_)
    generalize w38.drew = w39 at BK258 BK259 BK260 BK265 HB hHeld ⊢
    refine take_ (i := 0) (N := some 11) (v := ?_) (a' := ?_) #[T, F, F, F, F, F, F, F, F, F, F, F, F, F, F, F, F, F] rfl rfl (take_ofW HT_.out HW_.out (by kernel_rfl)) (fun _ _ _ h => h) (Or.inl ⟨by rfl, ?_⟩) hHeld ?_ ?_
    rotate_left
    ·rintro w' ⟨s0, s1, s2, s3, s4, s5, s6, s7⟩
     go_simp
     with_reducible rfl
    rotate_left
    ·exact pz
    refine one_ (i := 1) (N := some 12) #[T, T, F, F, F, F, F, F, F, F, F, F, F, F, F, F, F, F] rfl rfl (one_of HT_.out (by kernel_rfl)) (by decide) (fun K hK => ?_)
    refine goes_ Try.func57 (by kernel_rfl) rfl #[.agg #[.int .i64 a0_0, .int .i64 a0_1, .int .i64 a0_2, .int .i64 a0_3]] (by rfl) rfl rfl mz ?_
    with_reducible refine (spec_ValOk.calls k a0_0 a0_1 a0_2 a0_3 true _ A20.out).mono ?_
    rintro e w40 ⟨rfl, hb⟩
    refine ⟨_, rfl, ?_⟩
    have n0_ := am (blk_below (g := gb258) (o := b4 a0_0 a0_1 a0_2 a0_3 25) (Z BK258) hb)
    have n1_ := am (blk_below (g := gb259) (o := b4 a1_0 a1_1 a1_2 a1_3 25) (Z BK259) hb)
    have n2_ := am (blk_below (g := gb260) (o := b4 0 0 0 0 25) (Z BK260) hb)
    have n3_ := am (blk_below (g := gb265) (o := b4 t261 t262 t263 t264 25) (Z BK265) hb)
    have n4_ := am (below_step (Y4 HB GE258 GE259 GE260 GE265) hb)
    clear BK258
    clear BK259
    clear BK260
    clear BK265
    clear HB
    have BK258 := n0_
    have BK259 := n1_
    have BK260 := n2_
    have BK265 := n3_
    have HB := n4_
    clear n0_ n1_ n2_ n3_ n4_
    (try clear hb)
    (try clear hb2)
    (try clear hk)
    (try clear hi)
    refine hK.out _ _ ⟨bc BK258 0, bc BK258 1, bc BK258 2, bc BK258 3, bc BK259 0, bc BK259 1, bc BK259 2, bc BK259 3⟩ (fun hHeld => ?_)
    clear hK K
    refine norm_ (a' := ?_) ?_ ?_
    rotate_left
    ·show Act.put _ (some 12) _ = _
     simp only [Act.put, List.setIfInBounds_toArray, List.set_cons_zero, List.set_cons_succ, i64_w, i32_w]
     rfl
    refine pure_ (i := 2) (N := some 13) (v := ?_) (a' := ?_) #[T, T, T, F, F, F, F, F, F, F, F, F, F, F, F, F, F, F] rfl rfl (any_of HT_.out (by kernel_rfl)) (fun _ _ _ h => h) (Or.inl ⟨by rfl, ?_⟩) ?_ ?_
    rotate_left
    ·exact gz
    rotate_left
    ·exact pz
    refine pure_ (i := 3) (N := some 14) (v := ?_) (a' := ?_) #[T, T, T, T, F, F, F, F, F, F, F, F, F, F, F, F, F, F] rfl rfl (any_of HT_.out (by kernel_rfl)) (fun _ _ _ h => h) (Or.inl ⟨by rfl, ?_⟩) ?_ ?_
    rotate_left
    ·exact gz
    rotate_left
    ·exact pz
    refine take_ (i := 4) (N := some 15) (v := ?_) (a' := ?_) #[T, T, T, T, T, F, F, F, F, F, F, F, F, F, F, F, F, F] rfl rfl (take_ofW HT_.out HW_.out (by kernel_rfl)) (fun _ _ _ h => h) (Or.inl ⟨by rfl, ?_⟩) hHeld ?_ ?_
    rotate_left
    ·rintro w' ⟨s0, s1, s2, s3, s4, s5, s6, s7⟩
     go_simp
     with_reducible rfl
    rotate_left
    ·exact pz
    refine one_ (i := 5) (N := some 16) #[T, T, T, T, T, T, F, F, F, F, F, F, F, F, F, F, F, F] rfl rfl (one_of HT_.out (by kernel_rfl)) (by decide) (fun K hK => ?_)
    refine goes_ Try.func57 (by kernel_rfl) rfl #[.agg #[.int .i64 a1_0, .int .i64 a1_1, .int .i64 a1_2, .int .i64 a1_3]] (by rfl) rfl rfl mz ?_
    with_reducible refine (spec_ValOk.calls k a1_0 a1_1 a1_2 a1_3 false _ A22.out).mono ?_
    rintro e w41 ⟨rfl, hb⟩
    refine ⟨_, rfl, ?_⟩
    have n0_ := am (blk_below (g := gb258) (o := b4 a0_0 a0_1 a0_2 a0_3 25) (Z BK258) hb)
    have n1_ := am (blk_below (g := gb259) (o := b4 a1_0 a1_1 a1_2 a1_3 25) (Z BK259) hb)
    have n2_ := am (blk_below (g := gb260) (o := b4 0 0 0 0 25) (Z BK260) hb)
    have n3_ := am (blk_below (g := gb265) (o := b4 t261 t262 t263 t264 25) (Z BK265) hb)
    have n4_ := am (below_step (Y4 HB GE258 GE259 GE260 GE265) hb)
    clear BK258
    clear BK259
    clear BK260
    clear BK265
    clear HB
    have BK258 := n0_
    have BK259 := n1_
    have BK260 := n2_
    have BK265 := n3_
    have HB := n4_
    clear n0_ n1_ n2_ n3_ n4_
    (try clear hb)
    (try clear hb2)
    (try clear hk)
    (try clear hi)
    refine hK.out _ _ ⟨bc BK258 0, bc BK258 1, bc BK258 2, bc BK258 3, bc BK259 0, bc BK259 1, bc BK259 2, bc BK259 3⟩ (fun hHeld => ?_)
    clear hK K
    refine norm_ (a' := ?_) ?_ ?_
    rotate_left
    ·show Act.put _ (some 16) _ = _
     simp only [Act.put, List.setIfInBounds_toArray, List.set_cons_zero, List.set_cons_succ, i64_w, i32_w]
     rfl
    refine pure_ (i := 6) (N := some 17) (v := ?_) (a' := ?_) #[T, T, T, T, T, T, T, F, F, F, F, F, F, F, F, F, F, F] rfl rfl (any_of HT_.out (by kernel_rfl)) (fun _ _ _ h => h) (Or.inl ⟨by rfl, ?_⟩) ?_ ?_
    rotate_left
    ·exact gz
    rotate_left
    ·exact pz
    refine pure_ (i := 7) (N := some 18) (v := ?_) (a' := ?_) #[T, T, T, T, T, T, T, T, F, F, F, F, F, F, F, F, F, F] rfl rfl (any_of HT_.out (by kernel_rfl)) (fun _ _ _ h => h) (Or.inl ⟨by rfl, ?_⟩) ?_ ?_
    rotate_left
    ·exact gz
    rotate_left
    ·exact pz
    refine pure_ (i := 8) (N := some 19) (v := ?_) (a' := ?_) #[T, T, T, T, T, T, T, T, T, F, F, F, F, F, F, F, F, F] rfl rfl (any_of HT_.out (by kernel_rfl)) (fun _ _ _ h => h) (Or.inl ⟨by rfl, ?_⟩) ?_ ?_
    rotate_left
    ·exact gz
    rotate_left
    ·exact pz
    refine pure_ (i := 9) (N := some 20) (v := undef) (a' := ?_) #[T, T, T, T, T, T, T, T, T, T, F, F, F, F, F, F, F, F] rfl rfl (any_of HT_.out (by kernel_rfl)) (fun _ _ _ h => h) (Or.inr ⟨by rfl, rfl⟩) ?_ ?_
    rotate_left
    ·exact pz
    refine pure_ (i := 10) (N := some 21) (v := undef) (a' := ?_) #[T, T, T, T, T, T, T, T, T, T, T, F, F, F, F, F, F, F] rfl rfl (any_of HT_.out (by kernel_rfl)) (fun _ _ _ h => h) (Or.inr ⟨by rfl, rfl⟩) ?_ ?_
    rotate_left
    ·exact pz
    refine pure_ (i := 11) (N := some 22) (v := undef) (a' := ?_) #[T, T, T, T, T, T, T, T, T, T, T, T, F, F, F, F, F, F] rfl rfl (any_of HT_.out (by kernel_rfl)) (fun _ _ _ h => h) (Or.inr ⟨by rfl, rfl⟩) ?_ ?_
    rotate_left
    ·exact pz
    refine pure_ (i := 12) (N := some 23) (v := ?_) (a' := ?_) #[T, T, T, T, T, T, T, T, T, T, T, T, T, F, F, F, F, F] rfl rfl (any_of HT_.out (by kernel_rfl)) (fun _ _ _ h => h) (Or.inl ⟨by rfl, ?_⟩) ?_ ?_
    rotate_left
    ·exact gz
    rotate_left
    ·exact pz
    refine pure_ (i := 13) (N := some 24) (v := ?_) (a' := ?_) #[T, T, T, T, T, T, T, T, T, T, T, T, T, T, F, F, F, F] rfl rfl (any_of HT_.out (by kernel_rfl)) (fun _ _ _ h => h) (Or.inl ⟨by rfl, ?_⟩) ?_ ?_
    rotate_left
    ·exact gz
    rotate_left
    ·exact pz
    refine pure_ (i := 14) (N := some 25) (v := undef) (a' := ?_) #[T, T, T, T, T, T, T, T, T, T, T, T, T, T, T, F, F, F] rfl rfl (any_of HT_.out (by kernel_rfl)) (fun _ _ _ h => h) (Or.inr ⟨by rfl, rfl⟩) ?_ ?_
    rotate_left
    ·exact pz
    refine pure_ (i := 15) (N := some 26) (v := undef) (a' := ?_) #[T, T, T, T, T, T, T, T, T, T, T, T, T, T, T, T, F, F] rfl rfl (any_of HT_.out (by kernel_rfl)) (fun _ _ _ h => h) (Or.inr ⟨by rfl, rfl⟩) ?_ ?_
    rotate_left
    ·exact pz
    refine pure_ (i := 16) (N := some 27) (v := undef) (a' := ?_) #[T, T, T, T, T, T, T, T, T, T, T, T, T, T, T, T, T, F] rfl rfl (any_of HT_.out (by kernel_rfl)) (fun _ _ _ h => h) (Or.inr ⟨by rfl, rfl⟩) ?_ ?_
    rotate_left
    ·exact pz
    refine pure_ (i := 17) (N := some 28) (v := ?_) (a' := ?_) #[T, T, T, T, T, T, T, T, T, T, T, T, T, T, T, T, T, T] rfl rfl (any_of HT_.out (by kernel_rfl)) (fun _ _ _ h => h) (Or.inl ⟨by rfl, ?_⟩) ?_ ?_
    rotate_left
    ·exact gz
    rotate_left
    ·exact pz
    refine done_ (done_of HT_.out (by kernel_rfl)) ?_
    try go_wp2
    go_meet
    case rel => exact ⟨_, (true), (by first | rfl | (simp; done) | (simp [*]; done)), H', ⟨by first | omega | exact Nat.le_refl _⟩, ⟨Z BK258⟩, ⟨Z BK259⟩, ⟨Z BK260⟩, ⟨Z BK265⟩, ⟨Y4 HB GE258 GE259 GE260 GE265⟩⟩
  ·replace c21 := Bool.eq_false_iff.mpr c21
   subst c21
   have H1 : (spec_ValWiden.j0 k l2 true a0_0 a0_1 a0_2 a0_3 a1_0 a1_1 a1_2 a1_3 t261 t262 t263 t264) = some (r1, r2, r3, r4) := by rw [if_neg (show ¬ (false = true) by decide)] at H; exact H
   clear H
   have H := H1
   clear H1
   have H' := am H
   clear H
   try go_wp2
   have n0_ : Aside0 (((((w15.setCell ⟨gb265, 0, none⟩ (.int .i64 t261)).setCell ⟨gb265, 1, none⟩ (.int .i64 t262)).setCell ⟨gb265, 2, none⟩ (.int .i64 t263)).setCell ⟨gb265, 3, none⟩ (.int .i64 t264)).heap[gb258]? = some (.cells #[.int .i64 a0_0, .int .i64 a0_1, .int .i64 a0_2, .int .i64 a0_3] 25 (0, 0))) := ⟨by (with_reducible repeat (first | refine blk_drewN ?_ _ | refine blk_drew ?_ | refine blk_alloc ?_ _)); refine blk_far ?_ NB258_265.out _; (with_reducible repeat (first | refine blk_drewN ?_ _ | refine blk_drew ?_ | refine blk_alloc ?_ _)); refine blk_far ?_ NB258_265.out _; (with_reducible repeat (first | refine blk_drewN ?_ _ | refine blk_drew ?_ | refine blk_alloc ?_ _)); refine blk_far ?_ NB258_265.out _; (with_reducible repeat (first | refine blk_drewN ?_ _ | refine blk_drew ?_ | refine blk_alloc ?_ _)); refine blk_far ?_ NB258_265.out _; (with_reducible repeat (first | refine blk_drewN ?_ _ | refine blk_drew ?_ | refine blk_alloc ?_ _)); exact BK258.out⟩
   have n1_ : Aside0 (((((w15.setCell ⟨gb265, 0, none⟩ (.int .i64 t261)).setCell ⟨gb265, 1, none⟩ (.int .i64 t262)).setCell ⟨gb265, 2, none⟩ (.int .i64 t263)).setCell ⟨gb265, 3, none⟩ (.int .i64 t264)).heap[gb259]? = some (.cells #[.int .i64 a1_0, .int .i64 a1_1, .int .i64 a1_2, .int .i64 a1_3] 25 (0, 0))) := ⟨by (with_reducible repeat (first | refine blk_drewN ?_ _ | refine blk_drew ?_ | refine blk_alloc ?_ _)); refine blk_far ?_ NB259_265.out _; (with_reducible repeat (first | refine blk_drewN ?_ _ | refine blk_drew ?_ | refine blk_alloc ?_ _)); refine blk_far ?_ NB259_265.out _; (with_reducible repeat (first | refine blk_drewN ?_ _ | refine blk_drew ?_ | refine blk_alloc ?_ _)); refine blk_far ?_ NB259_265.out _; (with_reducible repeat (first | refine blk_drewN ?_ _ | refine blk_drew ?_ | refine blk_alloc ?_ _)); refine blk_far ?_ NB259_265.out _; (with_reducible repeat (first | refine blk_drewN ?_ _ | refine blk_drew ?_ | refine blk_alloc ?_ _)); exact BK259.out⟩
   have n2_ : Aside0 (((((w15.setCell ⟨gb265, 0, none⟩ (.int .i64 t261)).setCell ⟨gb265, 1, none⟩ (.int .i64 t262)).setCell ⟨gb265, 2, none⟩ (.int .i64 t263)).setCell ⟨gb265, 3, none⟩ (.int .i64 t264)).heap[gb260]? = some (.cells #[.int .i64 0, .int .i64 0, .int .i64 0, .int .i64 0] 25 (0, 0))) := ⟨by (with_reducible repeat (first | refine blk_drewN ?_ _ | refine blk_drew ?_ | refine blk_alloc ?_ _)); refine blk_far ?_ NB260_265.out _; (with_reducible repeat (first | refine blk_drewN ?_ _ | refine blk_drew ?_ | refine blk_alloc ?_ _)); refine blk_far ?_ NB260_265.out _; (with_reducible repeat (first | refine blk_drewN ?_ _ | refine blk_drew ?_ | refine blk_alloc ?_ _)); refine blk_far ?_ NB260_265.out _; (with_reducible repeat (first | refine blk_drewN ?_ _ | refine blk_drew ?_ | refine blk_alloc ?_ _)); refine blk_far ?_ NB260_265.out _; (with_reducible repeat (first | refine blk_drewN ?_ _ | refine blk_drew ?_ | refine blk_alloc ?_ _)); exact BK260.out⟩
   have n3_ : Aside0 (((((w15.setCell ⟨gb265, 0, none⟩ (.int .i64 t261)).setCell ⟨gb265, 1, none⟩ (.int .i64 t262)).setCell ⟨gb265, 2, none⟩ (.int .i64 t263)).setCell ⟨gb265, 3, none⟩ (.int .i64 t264)).heap[gb265]? = some (.cells #[.int .i64 t261, .int .i64 t262, .int .i64 t263, .int .i64 t264] 25 (0, 0))) := ⟨by (with_reducible repeat (first | refine blk_drewN ?_ _ | refine blk_drew ?_ | refine blk_alloc ?_ _)); refine blk_put (cs := #[.int .i64 t261, .int .i64 t262, .int .i64 t263, .int .i64 0]) ?_ 3 _ rfl; (with_reducible repeat (first | refine blk_drewN ?_ _ | refine blk_drew ?_ | refine blk_alloc ?_ _)); refine blk_put (cs := #[.int .i64 t261, .int .i64 t262, .int .i64 0, .int .i64 0]) ?_ 2 _ rfl; (with_reducible repeat (first | refine blk_drewN ?_ _ | refine blk_drew ?_ | refine blk_alloc ?_ _)); refine blk_put (cs := #[.int .i64 t261, .int .i64 0, .int .i64 0, .int .i64 0]) ?_ 1 _ rfl; (with_reducible repeat (first | refine blk_drewN ?_ _ | refine blk_drew ?_ | refine blk_alloc ?_ _)); refine blk_put (cs := #[.int .i64 0, .int .i64 0, .int .i64 0, .int .i64 0]) ?_ 0 _ rfl; (with_reducible repeat (first | refine blk_drewN ?_ _ | refine blk_drew ?_ | refine blk_alloc ?_ _)); exact BK265.out⟩
   have n4_ : Aside0 (Below w.heap.size w ((((w15.setCell ⟨gb265, 0, none⟩ (.int .i64 t261)).setCell ⟨gb265, 1, none⟩ (.int .i64 t262)).setCell ⟨gb265, 2, none⟩ (.int .i64 t263)).setCell ⟨gb265, 3, none⟩ (.int .i64 t264))) := ⟨Y4 HB GE258 GE259 GE260 GE265⟩
   (try clear BK258)
   (try clear BK259)
   (try clear BK260)
   (try clear BK265)
   (try clear HB)
   generalize ((((w15.setCell ⟨gb265, 0, none⟩ (.int .i64 t261)).setCell ⟨gb265, 1, none⟩ (.int .i64 t262)).setCell ⟨gb265, 2, none⟩ (.int .i64 t263)).setCell ⟨gb265, 3, none⟩ (.int .i64 t264)) = w42 at n0_ n1_ n2_ n3_ n4_ ⊢
   have BK258 := n0_
   have BK259 := n1_
   have BK260 := n2_
   have BK265 := n3_
   have HB := n4_
   clear n0_ n1_ n2_ n3_ n4_
   have n0_ := am (blk_drew BK258.out)
   have n1_ := am (blk_drew BK259.out)
   have n2_ := am (blk_drew BK260.out)
   have n3_ := am (blk_drew BK265.out)
   have n4_ := am (below_drew1 HB.out)
   clear BK258
   clear BK259
   clear BK260
   clear BK265
   clear HB
   have BK258 := n0_
   have BK259 := n1_
   have BK260 := n2_
   have BK265 := n3_
   have HB := n4_
   clear n0_ n1_ n2_ n3_ n4_
   refine start_ (n := 18) (S := fun w' => w'.cell? ⟨gb258, 0, none⟩ = some (.int .i64 a0_0) ∧ w'.cell? ⟨gb258, 1, none⟩ = some (.int .i64 a0_1) ∧ w'.cell? ⟨gb258, 2, none⟩ = some (.int .i64 a0_2) ∧ w'.cell? ⟨gb258, 3, none⟩ = some (.int .i64 a0_3)) (ds := []) #[F, F, F, F, F, F, F, F, F, F, F, F, F, F, F, F, F, F] (by kernel_rfl) rfl rfl ⟨bc BK258 0, bc BK258 1, bc BK258 2, bc BK258 3⟩ (fun hHeld => ?_); refine with_tabW spec_ValWiden.tab2 spec_ValWiden.bits2 (fun HT_ HW_ => ?_)
   generalize w42.drew = w43 at BK258 BK259 BK260 BK265 HB hHeld ⊢
   refine take_ (i := 0) (N := some 11) (v := ?_) (a' := ?_) #[T, F, F, F, F, F, F, F, F, F, F, F, F, F, F, F, F, F] rfl rfl (take_ofW HT_.out HW_.out (by kernel_rfl)) (fun _ _ _ h => h) (Or.inl ⟨by rfl, ?_⟩) hHeld ?_ ?_
   rotate_left
   ·rintro w' ⟨s0, s1, s2, s3⟩
    go_simp
    with_reducible rfl
   rotate_left
   ·exact pz
   refine one_ (i := 1) (N := some 12) #[T, T, F, F, F, F, F, F, F, F, F, F, F, F, F, F, F, F] rfl rfl (one_of HT_.out (by kernel_rfl)) (by decide) (fun K hK => ?_)
   refine goes_ Try.func57 (by kernel_rfl) rfl #[.agg #[.int .i64 a0_0, .int .i64 a0_1, .int .i64 a0_2, .int .i64 a0_3]] (by rfl) rfl rfl mz ?_
   with_reducible refine (spec_ValOk.calls k a0_0 a0_1 a0_2 a0_3 false _ A20.out).mono ?_
   rintro e w44 ⟨rfl, hb⟩
   refine ⟨_, rfl, ?_⟩
   have n0_ := am (blk_below (g := gb258) (o := b4 a0_0 a0_1 a0_2 a0_3 25) (Z BK258) hb)
   have n1_ := am (blk_below (g := gb259) (o := b4 a1_0 a1_1 a1_2 a1_3 25) (Z BK259) hb)
   have n2_ := am (blk_below (g := gb260) (o := b4 0 0 0 0 25) (Z BK260) hb)
   have n3_ := am (blk_below (g := gb265) (o := b4 t261 t262 t263 t264 25) (Z BK265) hb)
   have n4_ := am (below_step (Y4 HB GE258 GE259 GE260 GE265) hb)
   clear BK258
   clear BK259
   clear BK260
   clear BK265
   clear HB
   have BK258 := n0_
   have BK259 := n1_
   have BK260 := n2_
   have BK265 := n3_
   have HB := n4_
   clear n0_ n1_ n2_ n3_ n4_
   (try clear hb)
   (try clear hb2)
   (try clear hk)
   (try clear hi)
   refine hK.out _ _ ⟨bc BK258 0, bc BK258 1, bc BK258 2, bc BK258 3⟩ (fun hHeld => ?_)
   clear hK K
   refine norm_ (a' := ?_) ?_ ?_
   rotate_left
   ·show Act.put _ (some 12) _ = _
    simp only [Act.put, List.setIfInBounds_toArray, List.set_cons_zero, List.set_cons_succ, i64_w, i32_w]
    rfl
   refine pure_ (i := 2) (N := some 13) (v := ?_) (a' := ?_) #[T, T, T, F, F, F, F, F, F, F, F, F, F, F, F, F, F, F] rfl rfl (any_of HT_.out (by kernel_rfl)) (fun _ _ _ h => h) (Or.inl ⟨by rfl, ?_⟩) ?_ ?_
   rotate_left
   ·exact gz
   rotate_left
   ·exact pz
   refine pure_ (i := 3) (N := some 14) (v := ?_) (a' := ?_) #[T, T, T, T, F, F, F, F, F, F, F, F, F, F, F, F, F, F] rfl rfl (any_of HT_.out (by kernel_rfl)) (fun _ _ _ h => h) (Or.inl ⟨by rfl, ?_⟩) ?_ ?_
   rotate_left
   ·exact gz
   rotate_left
   ·exact pz
   refine pure_ (i := 4) (N := some 15) (v := undef) (a' := ?_) #[T, T, T, T, T, F, F, F, F, F, F, F, F, F, F, F, F, F] rfl rfl (any_of HT_.out (by kernel_rfl)) (fun _ _ _ h => h) (Or.inr ⟨by rfl, rfl⟩) ?_ ?_
   rotate_left
   ·exact pz
   refine pure_ (i := 5) (N := some 16) (v := undef) (a' := ?_) #[T, T, T, T, T, T, F, F, F, F, F, F, F, F, F, F, F, F] rfl rfl (any_of HT_.out (by kernel_rfl)) (fun _ _ _ h => h) (Or.inr ⟨by rfl, rfl⟩) ?_ ?_
   rotate_left
   ·exact pz
   refine pure_ (i := 6) (N := some 17) (v := undef) (a' := ?_) #[T, T, T, T, T, T, T, F, F, F, F, F, F, F, F, F, F, F] rfl rfl (any_of HT_.out (by kernel_rfl)) (fun _ _ _ h => h) (Or.inr ⟨by rfl, rfl⟩) ?_ ?_
   rotate_left
   ·exact pz
   refine pure_ (i := 7) (N := some 18) (v := ?_) (a' := ?_) #[T, T, T, T, T, T, T, T, F, F, F, F, F, F, F, F, F, F] rfl rfl (any_of HT_.out (by kernel_rfl)) (fun _ _ _ h => h) (Or.inl ⟨by rfl, ?_⟩) ?_ ?_
   rotate_left
   ·exact gz
   rotate_left
   ·exact pz
   refine pure_ (i := 8) (N := some 19) (v := ?_) (a' := ?_) #[T, T, T, T, T, T, T, T, T, F, F, F, F, F, F, F, F, F] rfl rfl (any_of HT_.out (by kernel_rfl)) (fun _ _ _ h => h) (Or.inl ⟨by rfl, ?_⟩) ?_ ?_
   rotate_left
   ·exact gz
   rotate_left
   ·exact pz
   refine pure_ (i := 9) (N := some 20) (v := undef) (a' := ?_) #[T, T, T, T, T, T, T, T, T, T, F, F, F, F, F, F, F, F] rfl rfl (any_of HT_.out (by kernel_rfl)) (fun _ _ _ h => h) (Or.inr ⟨by rfl, rfl⟩) ?_ ?_
   rotate_left
   ·exact pz
   refine pure_ (i := 10) (N := some 21) (v := undef) (a' := ?_) #[T, T, T, T, T, T, T, T, T, T, T, F, F, F, F, F, F, F] rfl rfl (any_of HT_.out (by kernel_rfl)) (fun _ _ _ h => h) (Or.inr ⟨by rfl, rfl⟩) ?_ ?_
   rotate_left
   ·exact pz
   refine pure_ (i := 11) (N := some 22) (v := undef) (a' := ?_) #[T, T, T, T, T, T, T, T, T, T, T, T, F, F, F, F, F, F] rfl rfl (any_of HT_.out (by kernel_rfl)) (fun _ _ _ h => h) (Or.inr ⟨by rfl, rfl⟩) ?_ ?_
   rotate_left
   ·exact pz
   refine pure_ (i := 12) (N := some 23) (v := ?_) (a' := ?_) #[T, T, T, T, T, T, T, T, T, T, T, T, T, F, F, F, F, F] rfl rfl (any_of HT_.out (by kernel_rfl)) (fun _ _ _ h => h) (Or.inl ⟨by rfl, ?_⟩) ?_ ?_
   rotate_left
   ·exact gz
   rotate_left
   ·exact pz
   refine pure_ (i := 13) (N := some 24) (v := ?_) (a' := ?_) #[T, T, T, T, T, T, T, T, T, T, T, T, T, T, F, F, F, F] rfl rfl (any_of HT_.out (by kernel_rfl)) (fun _ _ _ h => h) (Or.inl ⟨by rfl, ?_⟩) ?_ ?_
   rotate_left
   ·exact gz
   rotate_left
   ·exact pz
   refine pure_ (i := 14) (N := some 25) (v := undef) (a' := ?_) #[T, T, T, T, T, T, T, T, T, T, T, T, T, T, T, F, F, F] rfl rfl (any_of HT_.out (by kernel_rfl)) (fun _ _ _ h => h) (Or.inr ⟨by rfl, rfl⟩) ?_ ?_
   rotate_left
   ·exact pz
   refine pure_ (i := 15) (N := some 26) (v := undef) (a' := ?_) #[T, T, T, T, T, T, T, T, T, T, T, T, T, T, T, T, F, F] rfl rfl (any_of HT_.out (by kernel_rfl)) (fun _ _ _ h => h) (Or.inr ⟨by rfl, rfl⟩) ?_ ?_
   rotate_left
   ·exact pz
   refine pure_ (i := 16) (N := some 27) (v := undef) (a' := ?_) #[T, T, T, T, T, T, T, T, T, T, T, T, T, T, T, T, T, F] rfl rfl (any_of HT_.out (by kernel_rfl)) (fun _ _ _ h => h) (Or.inr ⟨by rfl, rfl⟩) ?_ ?_
   rotate_left
   ·exact pz
   refine pure_ (i := 17) (N := some 28) (v := ?_) (a' := ?_) #[T, T, T, T, T, T, T, T, T, T, T, T, T, T, T, T, T, T] rfl rfl (any_of HT_.out (by kernel_rfl)) (fun _ _ _ h => h) (Or.inl ⟨by rfl, ?_⟩) ?_ ?_
   rotate_left
   ·exact gz
   rotate_left
   ·exact pz
   refine done_ (done_of HT_.out (by kernel_rfl)) ?_
   try go_wp2
   go_meet
   case rel => exact ⟨_, (true), (by first | rfl | (simp; done) | (simp [*]; done)), H', ⟨by first | omega | exact Nat.le_refl _⟩, ⟨Z BK258⟩, ⟨Z BK259⟩, ⟨Z BK260⟩, ⟨Z BK265⟩, ⟨Y4 HB GE258 GE259 GE260 GE265⟩⟩
 case rest =>
  clear HC5
  try clear c2
  try clear p2
  try clear c5
  try clear c21
  try clear c23
  obtain ⟨kq, x28_4, rfl, HA, HJ4, BK258, BK259, BK260, BK265, HB⟩ := hcut
  cases kq with
  | zero => exact absurd HA.out (by simp [spec_ValWiden.j0])
  | succ kj4 =>
   have H := HA.out
   clear HA
   simp only [spec_ValWiden.j0] at H
   by_cases c45 : x28_4 = true
   ·subst c45
    have H1 : (some (t261, t262, t263, t264)) = some (r1, r2, r3, r4) := by rw [if_pos rfl] at H; exact H
    clear H
    have H := H1
    clear H1
    simp only [Option.some.injEq, Prod.mk.injEq] at H
    obtain ⟨rfl, rfl, rfl, rfl⟩ := H
    have hnb46 := NB265_258.out
    have hnc46 := NB258_265.out
    have hnb47 := NB265_259.out
    have hnc47 := NB259_265.out
    have hnb48 := NB265_260.out
    have hnc48 := NB260_265.out
    have hcz49_0 : wc.cell? ⟨gb265, 0, none⟩ = some (.int .i64 t261) := bc BK265 0
    have hcz49_1 : wc.cell? ⟨gb265, 1, none⟩ = some (.int .i64 t262) := bc BK265 1
    have hcz49_2 : wc.cell? ⟨gb265, 2, none⟩ = some (.int .i64 t263) := bc BK265 2
    have hcz49_3 : wc.cell? ⟨gb265, 3, none⟩ = some (.int .i64 t264) := bc BK265 3
    have hfz49_0 := blk_frozen BK265.out 0
    have hfz49_1 := blk_frozen BK265.out 1
    have hfz49_2 := blk_frozen BK265.out 2
    have hfz49_3 := blk_frozen BK265.out 3
    have hnb50 := NB260_258.out
    have hnc50 := NB258_260.out
    have hnb51 := NB260_259.out
    have hnc51 := NB259_260.out
    have hcz52_0 : wc.cell? ⟨gb260, 0, none⟩ = some (.int .i64 0) := bc BK260 0
    have hcz52_1 : wc.cell? ⟨gb260, 1, none⟩ = some (.int .i64 0) := bc BK260 1
    have hcz52_2 : wc.cell? ⟨gb260, 2, none⟩ = some (.int .i64 0) := bc BK260 2
    have hcz52_3 : wc.cell? ⟨gb260, 3, none⟩ = some (.int .i64 0) := bc BK260 3
    have hfz52_0 := blk_frozen BK260.out 0
    have hfz52_1 := blk_frozen BK260.out 1
    have hfz52_2 := blk_frozen BK260.out 2
    have hfz52_3 := blk_frozen BK260.out 3
    go_wp2
    refine bodyPost_ret (results_cell_row rfl _ _ gb260 25 #[.int .i64 t261, .int .i64 t262, .int .i64 t263, .int .i64 t264] (0, 0) _ rfl (by (with_reducible repeat (first | refine blk_drewN ?_ _ | refine blk_drew ?_ | refine blk_alloc ?_ _)); refine blk_put (cs := #[.int .i64 t261, .int .i64 t262, .int .i64 t263, .int .i64 0]) ?_ 3 _ rfl; (with_reducible repeat (first | refine blk_drewN ?_ _ | refine blk_drew ?_ | refine blk_alloc ?_ _)); refine blk_put (cs := #[.int .i64 t261, .int .i64 t262, .int .i64 0, .int .i64 0]) ?_ 2 _ rfl; (with_reducible repeat (first | refine blk_drewN ?_ _ | refine blk_drew ?_ | refine blk_alloc ?_ _)); refine blk_put (cs := #[.int .i64 t261, .int .i64 0, .int .i64 0, .int .i64 0]) ?_ 1 _ rfl; (with_reducible repeat (first | refine blk_drewN ?_ _ | refine blk_drew ?_ | refine blk_alloc ?_ _)); refine blk_put (cs := #[.int .i64 0, .int .i64 0, .int .i64 0, .int .i64 0]) ?_ 0 _ rfl; (with_reducible repeat (first | refine blk_drewN ?_ _ | refine blk_drew ?_ | refine blk_alloc ?_ _)); exact BK260.out) Try.underlying25 rfl (by kernel_rfl)) rfl ?_
    exact ⟨by first | rfl | (simp [errW_none, errW_some] <;> rfl) | (simp [*, errW_none, errW_some] <;> rfl), Y4 HB GE258 GE259 GE260 GE265⟩
   ·replace c45 := Bool.eq_false_iff.mpr c45
    subst c45
    have H1 : ((spec_l10Range.f a0_0 a0_1 a0_2 a0_3).bind fun bt276 => ((spec_l10Range.f a1_0 a1_1 a1_2 a1_3).bind fun bt278 => ((spec_RangeWiden.f kj4 bt276.1 bt276.2 bt278.1 bt278.2 l2).bind fun bt280 => ((spec_l10Rest.f a0_0 a0_1 a0_2 a0_3).bind fun bt282 => ((spec_l10Rest.f a1_0 a1_1 a1_2 a1_3).bind fun bt284 => ((spec_RestJoin.f kj4 bt282.1 bt282.2 bt284.1 bt284.2).bind fun bt286 => ((spec_ValMake.f kj4 bt280.1 bt280.2 bt286.1 bt286.2).bind fun bt288 => (some (bt288.1, bt288.2.1, bt288.2.2.1, bt288.2.2.2))))))))) = some (r1, r2, r3, r4) := by rw [if_neg (show ¬ (false = true) by decide)] at H; exact H
    clear H
    have H := H1
    clear H1
    replace H := Option.bind_eq_some_iff.mp H
    obtain ⟨⟨t276, t277⟩, A530, H⟩ := H
    replace H : ((spec_l10Range.f a1_0 a1_1 a1_2 a1_3).bind fun bt278 => ((spec_RangeWiden.f kj4 t276 t277 bt278.1 bt278.2 l2).bind fun bt280 => ((spec_l10Rest.f a0_0 a0_1 a0_2 a0_3).bind fun bt282 => ((spec_l10Rest.f a1_0 a1_1 a1_2 a1_3).bind fun bt284 => ((spec_RestJoin.f kj4 bt282.1 bt282.2 bt284.1 bt284.2).bind fun bt286 => ((spec_ValMake.f kj4 bt280.1 bt280.2 bt286.1 bt286.2).bind fun bt288 => (some (bt288.1, bt288.2.1, bt288.2.2.1, bt288.2.2.2)))))))) = some (r1, r2, r3, r4) := H
    have A53 := am A530
    clear A530
    replace H := Option.bind_eq_some_iff.mp H
    obtain ⟨⟨t278, t279⟩, A540, H⟩ := H
    replace H : ((spec_RangeWiden.f kj4 t276 t277 t278 t279 l2).bind fun bt280 => ((spec_l10Rest.f a0_0 a0_1 a0_2 a0_3).bind fun bt282 => ((spec_l10Rest.f a1_0 a1_1 a1_2 a1_3).bind fun bt284 => ((spec_RestJoin.f kj4 bt282.1 bt282.2 bt284.1 bt284.2).bind fun bt286 => ((spec_ValMake.f kj4 bt280.1 bt280.2 bt286.1 bt286.2).bind fun bt288 => (some (bt288.1, bt288.2.1, bt288.2.2.1, bt288.2.2.2))))))) = some (r1, r2, r3, r4) := H
    have A54 := am A540
    clear A540
    replace H := Option.bind_eq_some_iff.mp H
    obtain ⟨⟨t280, t281⟩, A550, H⟩ := H
    replace H : ((spec_l10Rest.f a0_0 a0_1 a0_2 a0_3).bind fun bt282 => ((spec_l10Rest.f a1_0 a1_1 a1_2 a1_3).bind fun bt284 => ((spec_RestJoin.f kj4 bt282.1 bt282.2 bt284.1 bt284.2).bind fun bt286 => ((spec_ValMake.f kj4 t280 t281 bt286.1 bt286.2).bind fun bt288 => (some (bt288.1, bt288.2.1, bt288.2.2.1, bt288.2.2.2)))))) = some (r1, r2, r3, r4) := H
    have A55 := am A550
    clear A550
    replace H := Option.bind_eq_some_iff.mp H
    obtain ⟨⟨t282, t283⟩, A560, H⟩ := H
    replace H : ((spec_l10Rest.f a1_0 a1_1 a1_2 a1_3).bind fun bt284 => ((spec_RestJoin.f kj4 t282 t283 bt284.1 bt284.2).bind fun bt286 => ((spec_ValMake.f kj4 t280 t281 bt286.1 bt286.2).bind fun bt288 => (some (bt288.1, bt288.2.1, bt288.2.2.1, bt288.2.2.2))))) = some (r1, r2, r3, r4) := H
    have A56 := am A560
    clear A560
    replace H := Option.bind_eq_some_iff.mp H
    obtain ⟨⟨t284, t285⟩, A570, H⟩ := H
    replace H : ((spec_RestJoin.f kj4 t282 t283 t284 t285).bind fun bt286 => ((spec_ValMake.f kj4 t280 t281 bt286.1 bt286.2).bind fun bt288 => (some (bt288.1, bt288.2.1, bt288.2.2.1, bt288.2.2.2)))) = some (r1, r2, r3, r4) := H
    have A57 := am A570
    clear A570
    replace H := Option.bind_eq_some_iff.mp H
    obtain ⟨⟨t286, t287⟩, A580, H⟩ := H
    replace H : ((spec_ValMake.f kj4 t280 t281 t286 t287).bind fun bt288 => (some (bt288.1, bt288.2.1, bt288.2.2.1, bt288.2.2.2))) = some (r1, r2, r3, r4) := H
    have A58 := am A580
    clear A580
    replace H := Option.bind_eq_some_iff.mp H
    obtain ⟨⟨t288, t289, t290, t291⟩, A590, H⟩ := H
    replace H : (some (t288, t289, t290, t291)) = some (r1, r2, r3, r4) := H
    have A59 := am A590
    clear A590
    simp only [Option.some.injEq, Prod.mk.injEq] at H
    obtain ⟨rfl, rfl, rfl, rfl⟩ := H
    try go_wp2
    have n0_ := am (blk_drew BK258.out)
    have n1_ := am (blk_drew BK259.out)
    have n2_ := am (blk_drew BK260.out)
    have n3_ := am (blk_drew BK265.out)
    have n4_ := am (below_drew1 HB.out)
    clear BK258
    clear BK259
    clear BK260
    clear BK265
    clear HB
    have BK258 := n0_
    have BK259 := n1_
    have BK260 := n2_
    have BK265 := n3_
    have HB := n4_
    clear n0_ n1_ n2_ n3_ n4_
    refine start_ (n := 13) (S := fun w' => w'.cell? ⟨gb258, 0, none⟩ = some (.int .i64 a0_0) ∧ w'.cell? ⟨gb258, 1, none⟩ = some (.int .i64 a0_1) ∧ w'.cell? ⟨gb258, 2, none⟩ = some (.int .i64 a0_2) ∧ w'.cell? ⟨gb258, 3, none⟩ = some (.int .i64 a0_3) ∧ w'.cell? ⟨gb259, 0, none⟩ = some (.int .i64 a1_0) ∧ w'.cell? ⟨gb259, 1, none⟩ = some (.int .i64 a1_1) ∧ w'.cell? ⟨gb259, 2, none⟩ = some (.int .i64 a1_2) ∧ w'.cell? ⟨gb259, 3, none⟩ = some (.int .i64 a1_3)) (ds := []) #[F, F, F, F, F, F, F, F, F, F, F, F, F] (by kernel_rfl) rfl rfl ⟨bc BK258 0, bc BK258 1, bc BK258 2, bc BK258 3, bc BK259 0, bc BK259 1, bc BK259 2, bc BK259 3⟩ (fun hHeld => ?_); refine with_tabW spec_ValWiden.tab4 spec_ValWiden.bits4 (fun HT_ HW_ => ?_)
    generalize wc.drew = w60 at BK258 BK259 BK260 BK265 HB hHeld ⊢
    refine pure_ (i := 4) (N := some 34) (v := ?_) (a' := ?_) #[F, F, F, F, T, F, F, F, F, F, F, F, F] rfl rfl (any_of HT_.out (by kernel_rfl)) (fun _ _ _ h => h) (Or.inl ⟨by rfl, ?_⟩) ?_ ?_
    rotate_left
    ·exact gz
    rotate_left
    ·exact pz
    refine take_ (i := 0) (N := some 30) (v := ?_) (a' := ?_) #[T, F, F, F, T, F, F, F, F, F, F, F, F] rfl rfl (take_ofW HT_.out HW_.out (by kernel_rfl)) (fun _ _ _ h => h) (Or.inl ⟨by rfl, ?_⟩) hHeld ?_ ?_
    rotate_left
    ·rintro w' ⟨s0, s1, s2, s3, s4, s5, s6, s7⟩
     go_simp
     with_reducible rfl
    rotate_left
    ·exact pz
    refine take_ (i := 2) (N := some 32) (v := ?_) (a' := ?_) #[T, F, T, F, T, F, F, F, F, F, F, F, F] rfl rfl (take_ofW HT_.out HW_.out (by kernel_rfl)) (fun _ _ _ h => h) (Or.inl ⟨by rfl, ?_⟩) hHeld ?_ ?_
    rotate_left
    ·rintro w' ⟨s0, s1, s2, s3, s4, s5, s6, s7⟩
     go_simp
     with_reducible rfl
    rotate_left
    ·exact pz
    refine take_ (i := 6) (N := some 36) (v := ?_) (a' := ?_) #[T, F, T, F, T, F, T, F, F, F, F, F, F] rfl rfl (take_ofW HT_.out HW_.out (by kernel_rfl)) (fun _ _ _ h => h) (Or.inl ⟨by rfl, ?_⟩) hHeld ?_ ?_
    rotate_left
    ·rintro w' ⟨s0, s1, s2, s3, s4, s5, s6, s7⟩
     go_simp
     with_reducible rfl
    rotate_left
    ·exact pz
    refine take_ (i := 8) (N := some 38) (v := ?_) (a' := ?_) #[T, F, T, F, T, F, T, F, T, F, F, F, F] rfl rfl (take_ofW HT_.out HW_.out (by kernel_rfl)) (fun _ _ _ h => h) (Or.inl ⟨by rfl, ?_⟩) hHeld ?_ ?_
    rotate_left
    ·rintro w' ⟨s0, s1, s2, s3, s4, s5, s6, s7⟩
     go_simp
     with_reducible rfl
    rotate_left
    ·exact pz
    refine one_ (i := 1) (N := some 31) #[T, T, T, F, T, F, T, F, T, F, F, F, F] rfl rfl (one_of HT_.out (by kernel_rfl)) (by decide) (fun K hK => ?_)
    refine goes_ Try.func60 (by kernel_rfl) rfl #[.agg #[.int .i64 a0_0, .int .i64 a0_1, .int .i64 a0_2, .int .i64 a0_3]] (by rfl) rfl rfl mz ?_
    with_reducible refine (spec_l10Range.calls a0_0 a0_1 a0_2 a0_3 t276 t277 _ A53.out).mono ?_
    rintro e w61 ⟨rfl, hb⟩
    refine ⟨_, rfl, ?_⟩
    have n0_ := am (blk_below (g := gb258) (o := b4 a0_0 a0_1 a0_2 a0_3 25) (Z BK258) hb)
    have n1_ := am (blk_below (g := gb259) (o := b4 a1_0 a1_1 a1_2 a1_3 25) (Z BK259) hb)
    have n2_ := am (blk_below (g := gb260) (o := b4 0 0 0 0 25) (Z BK260) hb)
    have n3_ := am (blk_below (g := gb265) (o := b4 t261 t262 t263 t264 25) (Z BK265) hb)
    have n4_ := am (below_step (Y4 HB GE258 GE259 GE260 GE265) hb)
    clear BK258
    clear BK259
    clear BK260
    clear BK265
    clear HB
    have BK258 := n0_
    have BK259 := n1_
    have BK260 := n2_
    have BK265 := n3_
    have HB := n4_
    clear n0_ n1_ n2_ n3_ n4_
    (try clear hb)
    (try clear hb2)
    (try clear hk)
    (try clear hi)
    refine hK.out _ _ ⟨bc BK258 0, bc BK258 1, bc BK258 2, bc BK258 3, bc BK259 0, bc BK259 1, bc BK259 2, bc BK259 3⟩ (fun hHeld => ?_)
    clear hK K
    refine norm_ (a' := ?_) ?_ ?_
    rotate_left
    ·show Act.put _ (some 31) _ = _
     simp only [Act.put, List.setIfInBounds_toArray, List.set_cons_zero, List.set_cons_succ, i64_w, i32_w]
     rfl
    refine one_ (i := 3) (N := some 33) #[T, T, T, T, T, F, T, F, T, F, F, F, F] rfl rfl (one_of HT_.out (by kernel_rfl)) (by decide) (fun K hK => ?_)
    refine goes_ Try.func60 (by kernel_rfl) rfl #[.agg #[.int .i64 a1_0, .int .i64 a1_1, .int .i64 a1_2, .int .i64 a1_3]] (by rfl) rfl rfl mz ?_
    with_reducible refine (spec_l10Range.calls a1_0 a1_1 a1_2 a1_3 t278 t279 _ A54.out).mono ?_
    rintro e w62 ⟨rfl, hb⟩
    refine ⟨_, rfl, ?_⟩
    have n0_ := am (blk_below (g := gb258) (o := b4 a0_0 a0_1 a0_2 a0_3 25) (Z BK258) hb)
    have n1_ := am (blk_below (g := gb259) (o := b4 a1_0 a1_1 a1_2 a1_3 25) (Z BK259) hb)
    have n2_ := am (blk_below (g := gb260) (o := b4 0 0 0 0 25) (Z BK260) hb)
    have n3_ := am (blk_below (g := gb265) (o := b4 t261 t262 t263 t264 25) (Z BK265) hb)
    have n4_ := am (below_step (Y4 HB GE258 GE259 GE260 GE265) hb)
    clear BK258
    clear BK259
    clear BK260
    clear BK265
    clear HB
    have BK258 := n0_
    have BK259 := n1_
    have BK260 := n2_
    have BK265 := n3_
    have HB := n4_
    clear n0_ n1_ n2_ n3_ n4_
    (try clear hb)
    (try clear hb2)
    (try clear hk)
    (try clear hi)
    refine hK.out _ _ ⟨bc BK258 0, bc BK258 1, bc BK258 2, bc BK258 3, bc BK259 0, bc BK259 1, bc BK259 2, bc BK259 3⟩ (fun hHeld => ?_)
    clear hK K
    refine norm_ (a' := ?_) ?_ ?_
    rotate_left
    ·show Act.put _ (some 33) _ = _
     simp only [Act.put, List.setIfInBounds_toArray, List.set_cons_zero, List.set_cons_succ, i64_w, i32_w]
     rfl
    refine one_ (i := 5) (N := some 35) #[T, T, T, T, T, T, T, F, T, F, F, F, F] rfl rfl (one_of HT_.out (by kernel_rfl)) (by decide) (fun K hK => ?_)
    refine goes_ Try.func84 (by kernel_rfl) rfl #[.agg #[.int .i64 t276, .int .i64 t277], .agg #[.int .i64 t278, .int .i64 t279], .slice A2 l2.length c2] (by rfl) rfl rfl mz ?_
    with_reducible refine (spec_RangeWiden.calls kj4 t276 t277 t278 t279 _ _ l2 t280 t281 _ ?side1 ?side2 A55.out).mono ?_
    (case side1 => repeat (first | exact (Kd.C_below HR2.out HB.out) | (with_reducible refine Kd.C_alloc ?_ _) | (with_reducible refine Kd.C_drewN ?_ _) | (with_reducible refine Kd.C_drew ?_)))
    (case side2 => exact HC2.out)
    rintro e w63 ⟨rfl, hb⟩
    refine ⟨_, rfl, ?_⟩
    have n0_ := am (blk_below (g := gb258) (o := b4 a0_0 a0_1 a0_2 a0_3 25) (Z BK258) hb)
    have n1_ := am (blk_below (g := gb259) (o := b4 a1_0 a1_1 a1_2 a1_3 25) (Z BK259) hb)
    have n2_ := am (blk_below (g := gb260) (o := b4 0 0 0 0 25) (Z BK260) hb)
    have n3_ := am (blk_below (g := gb265) (o := b4 t261 t262 t263 t264 25) (Z BK265) hb)
    have n4_ := am (below_step (Y4 HB GE258 GE259 GE260 GE265) hb)
    clear BK258
    clear BK259
    clear BK260
    clear BK265
    clear HB
    have BK258 := n0_
    have BK259 := n1_
    have BK260 := n2_
    have BK265 := n3_
    have HB := n4_
    clear n0_ n1_ n2_ n3_ n4_
    (try clear hb)
    (try clear hb2)
    (try clear hk)
    (try clear hi)
    refine hK.out _ _ ⟨bc BK258 0, bc BK258 1, bc BK258 2, bc BK258 3, bc BK259 0, bc BK259 1, bc BK259 2, bc BK259 3⟩ (fun hHeld => ?_)
    clear hK K
    refine norm_ (a' := ?_) ?_ ?_
    rotate_left
    ·show Act.put _ (some 35) _ = _
     simp only [Act.put, List.setIfInBounds_toArray, List.set_cons_zero, List.set_cons_succ, i64_w, i32_w]
     rfl
    refine one_ (i := 7) (N := some 37) #[T, T, T, T, T, T, T, T, T, F, F, F, F] rfl rfl (one_of HT_.out (by kernel_rfl)) (by decide) (fun K hK => ?_)
    refine goes_ Try.func62 (by kernel_rfl) rfl #[.agg #[.int .i64 a0_0, .int .i64 a0_1, .int .i64 a0_2, .int .i64 a0_3]] (by rfl) rfl rfl mz ?_
    with_reducible refine (spec_l10Rest.calls a0_0 a0_1 a0_2 a0_3 t282 t283 _ A56.out).mono ?_
    rintro e w64 ⟨rfl, hb⟩
    refine ⟨_, rfl, ?_⟩
    have n0_ := am (blk_below (g := gb258) (o := b4 a0_0 a0_1 a0_2 a0_3 25) (Z BK258) hb)
    have n1_ := am (blk_below (g := gb259) (o := b4 a1_0 a1_1 a1_2 a1_3 25) (Z BK259) hb)
    have n2_ := am (blk_below (g := gb260) (o := b4 0 0 0 0 25) (Z BK260) hb)
    have n3_ := am (blk_below (g := gb265) (o := b4 t261 t262 t263 t264 25) (Z BK265) hb)
    have n4_ := am (below_step (Y4 HB GE258 GE259 GE260 GE265) hb)
    clear BK258
    clear BK259
    clear BK260
    clear BK265
    clear HB
    have BK258 := n0_
    have BK259 := n1_
    have BK260 := n2_
    have BK265 := n3_
    have HB := n4_
    clear n0_ n1_ n2_ n3_ n4_
    (try clear hb)
    (try clear hb2)
    (try clear hk)
    (try clear hi)
    refine hK.out _ _ ⟨bc BK258 0, bc BK258 1, bc BK258 2, bc BK258 3, bc BK259 0, bc BK259 1, bc BK259 2, bc BK259 3⟩ (fun hHeld => ?_)
    clear hK K
    refine norm_ (a' := ?_) ?_ ?_
    rotate_left
    ·show Act.put _ (some 37) _ = _
     simp only [Act.put, List.setIfInBounds_toArray, List.set_cons_zero, List.set_cons_succ, i64_w, i32_w]
     rfl
    refine one_ (i := 9) (N := some 39) #[T, T, T, T, T, T, T, T, T, T, F, F, F] rfl rfl (one_of HT_.out (by kernel_rfl)) (by decide) (fun K hK => ?_)
    refine goes_ Try.func62 (by kernel_rfl) rfl #[.agg #[.int .i64 a1_0, .int .i64 a1_1, .int .i64 a1_2, .int .i64 a1_3]] (by rfl) rfl rfl mz ?_
    with_reducible refine (spec_l10Rest.calls a1_0 a1_1 a1_2 a1_3 t284 t285 _ A57.out).mono ?_
    rintro e w65 ⟨rfl, hb⟩
    refine ⟨_, rfl, ?_⟩
    have n0_ := am (blk_below (g := gb258) (o := b4 a0_0 a0_1 a0_2 a0_3 25) (Z BK258) hb)
    have n1_ := am (blk_below (g := gb259) (o := b4 a1_0 a1_1 a1_2 a1_3 25) (Z BK259) hb)
    have n2_ := am (blk_below (g := gb260) (o := b4 0 0 0 0 25) (Z BK260) hb)
    have n3_ := am (blk_below (g := gb265) (o := b4 t261 t262 t263 t264 25) (Z BK265) hb)
    have n4_ := am (below_step (Y4 HB GE258 GE259 GE260 GE265) hb)
    clear BK258
    clear BK259
    clear BK260
    clear BK265
    clear HB
    have BK258 := n0_
    have BK259 := n1_
    have BK260 := n2_
    have BK265 := n3_
    have HB := n4_
    clear n0_ n1_ n2_ n3_ n4_
    (try clear hb)
    (try clear hb2)
    (try clear hk)
    (try clear hi)
    refine hK.out _ _ ⟨bc BK258 0, bc BK258 1, bc BK258 2, bc BK258 3, bc BK259 0, bc BK259 1, bc BK259 2, bc BK259 3⟩ (fun hHeld => ?_)
    clear hK K
    refine norm_ (a' := ?_) ?_ ?_
    rotate_left
    ·show Act.put _ (some 39) _ = _
     simp only [Act.put, List.setIfInBounds_toArray, List.set_cons_zero, List.set_cons_succ, i64_w, i32_w]
     rfl
    refine one_ (i := 10) (N := some 40) #[T, T, T, T, T, T, T, T, T, T, T, F, F] rfl rfl (one_of HT_.out (by kernel_rfl)) (by decide) (fun K hK => ?_)
    refine goes_ Try.func75 (by kernel_rfl) rfl #[.agg #[.int .i64 t282, .int .i64 t283], .agg #[.int .i64 t284, .int .i64 t285]] (by rfl) rfl rfl mz ?_
    with_reducible refine (spec_RestJoin.calls kj4 t282 t283 t284 t285 t286 t287 _ A58.out).mono ?_
    rintro e w66 ⟨rfl, hb⟩
    refine ⟨_, rfl, ?_⟩
    have n0_ := am (blk_below (g := gb258) (o := b4 a0_0 a0_1 a0_2 a0_3 25) (Z BK258) hb)
    have n1_ := am (blk_below (g := gb259) (o := b4 a1_0 a1_1 a1_2 a1_3 25) (Z BK259) hb)
    have n2_ := am (blk_below (g := gb260) (o := b4 0 0 0 0 25) (Z BK260) hb)
    have n3_ := am (blk_below (g := gb265) (o := b4 t261 t262 t263 t264 25) (Z BK265) hb)
    have n4_ := am (below_step (Y4 HB GE258 GE259 GE260 GE265) hb)
    clear BK258
    clear BK259
    clear BK260
    clear BK265
    clear HB
    have BK258 := n0_
    have BK259 := n1_
    have BK260 := n2_
    have BK265 := n3_
    have HB := n4_
    clear n0_ n1_ n2_ n3_ n4_
    (try clear hb)
    (try clear hb2)
    (try clear hk)
    (try clear hi)
    refine hK.out _ _ ⟨bc BK258 0, bc BK258 1, bc BK258 2, bc BK258 3, bc BK259 0, bc BK259 1, bc BK259 2, bc BK259 3⟩ (fun hHeld => ?_)
    clear hK K
    refine norm_ (a' := ?_) ?_ ?_
    rotate_left
    ·show Act.put _ (some 40) _ = _
     simp only [Act.put, List.setIfInBounds_toArray, List.set_cons_zero, List.set_cons_succ, i64_w, i32_w]
     rfl
    refine one_ (i := 11) (N := some 41) #[T, T, T, T, T, T, T, T, T, T, T, T, F] rfl rfl (one_of HT_.out (by kernel_rfl)) (by decide) (fun K hK => ?_)
    refine goes_ Try.func73 (by kernel_rfl) rfl #[.agg #[.int .i64 t280, .int .i64 t281], .agg #[.int .i64 t286, .int .i64 t287]] (by rfl) rfl rfl mz ?_
    with_reducible refine (spec_ValMake.calls kj4 t280 t281 t286 t287 t288 t289 t290 t291 _ A59.out).mono ?_
    rintro e w67 ⟨rfl, hb⟩
    refine ⟨_, rfl, ?_⟩
    have n0_ := am (blk_below (g := gb258) (o := b4 a0_0 a0_1 a0_2 a0_3 25) (Z BK258) hb)
    have n1_ := am (blk_below (g := gb259) (o := b4 a1_0 a1_1 a1_2 a1_3 25) (Z BK259) hb)
    have n2_ := am (blk_below (g := gb260) (o := b4 0 0 0 0 25) (Z BK260) hb)
    have n3_ := am (blk_below (g := gb265) (o := b4 t261 t262 t263 t264 25) (Z BK265) hb)
    have n4_ := am (below_step (Y4 HB GE258 GE259 GE260 GE265) hb)
    clear BK258
    clear BK259
    clear BK260
    clear BK265
    clear HB
    have BK258 := n0_
    have BK259 := n1_
    have BK260 := n2_
    have BK265 := n3_
    have HB := n4_
    clear n0_ n1_ n2_ n3_ n4_
    (try clear hb)
    (try clear hb2)
    (try clear hk)
    (try clear hi)
    refine hK.out _ _ ⟨bc BK258 0, bc BK258 1, bc BK258 2, bc BK258 3, bc BK259 0, bc BK259 1, bc BK259 2, bc BK259 3⟩ (fun hHeld => ?_)
    clear hK K
    refine norm_ (a' := ?_) ?_ ?_
    rotate_left
    ·show Act.put _ (some 41) _ = _
     simp only [Act.put, List.setIfInBounds_toArray, List.set_cons_zero, List.set_cons_succ, i64_w, i32_w]
     rfl
    refine one_ (i := 12) (N := none) #[T, T, T, T, T, T, T, T, T, T, T, T, T] rfl rfl (one_of HT_.out (by kernel_rfl)) (by decide) (fun K hK => ?_)
    have hs68 : w67.cell? ⟨gb260, 0, none⟩ = some (.int .i64 0) := bc BK260 0
    have hfs68 := blk_frozen BK260.out 0
    have hns68_0 := NB258_260.out
    have hns68_1 := NB259_260.out
    have hns68_3 := NB265_260.out
    have hms68_0 := NB260_258.out
    have hms68_1 := NB260_259.out
    have hms68_3 := NB260_265.out
    have hs69 : w67.cell? ⟨gb260, 1, none⟩ = some (.int .i64 0) := bc BK260 1
    have hfs69 := blk_frozen BK260.out 1
    have hns69_0 := NB258_260.out
    have hns69_1 := NB259_260.out
    have hns69_3 := NB265_260.out
    have hms69_0 := NB260_258.out
    have hms69_1 := NB260_259.out
    have hms69_3 := NB260_265.out
    have hs70 : w67.cell? ⟨gb260, 2, none⟩ = some (.int .i64 0) := bc BK260 2
    have hfs70 := blk_frozen BK260.out 2
    have hns70_0 := NB258_260.out
    have hns70_1 := NB259_260.out
    have hns70_3 := NB265_260.out
    have hms70_0 := NB260_258.out
    have hms70_1 := NB260_259.out
    have hms70_3 := NB260_265.out
    have hs71 : w67.cell? ⟨gb260, 3, none⟩ = some (.int .i64 0) := bc BK260 3
    have hfs71 := blk_frozen BK260.out 3
    have hns71_0 := NB258_260.out
    have hns71_1 := NB259_260.out
    have hns71_3 := NB265_260.out
    have hms71_0 := NB260_258.out
    have hms71_1 := NB260_259.out
    have hms71_3 := NB260_265.out
    refine skip_ (w1 := ?_) (by rfl) rfl ?_ ?_
    rotate_left
    ·go_simp
     rfl
    refine hK.out _ _ ⟨((cell_far (p := ⟨gb260, _, none⟩) NB258_260.out _).trans (((cell_far (p := ⟨gb260, _, none⟩) NB258_260.out _).trans (((cell_far (p := ⟨gb260, _, none⟩) NB258_260.out _).trans (((cell_far (p := ⟨gb260, _, none⟩) NB258_260.out _).trans (hHeld.1)))))))), ((cell_far (p := ⟨gb260, _, none⟩) NB258_260.out _).trans (((cell_far (p := ⟨gb260, _, none⟩) NB258_260.out _).trans (((cell_far (p := ⟨gb260, _, none⟩) NB258_260.out _).trans (((cell_far (p := ⟨gb260, _, none⟩) NB258_260.out _).trans (hHeld.2.1)))))))), ((cell_far (p := ⟨gb260, _, none⟩) NB258_260.out _).trans (((cell_far (p := ⟨gb260, _, none⟩) NB258_260.out _).trans (((cell_far (p := ⟨gb260, _, none⟩) NB258_260.out _).trans (((cell_far (p := ⟨gb260, _, none⟩) NB258_260.out _).trans (hHeld.2.2.1)))))))), ((cell_far (p := ⟨gb260, _, none⟩) NB258_260.out _).trans (((cell_far (p := ⟨gb260, _, none⟩) NB258_260.out _).trans (((cell_far (p := ⟨gb260, _, none⟩) NB258_260.out _).trans (((cell_far (p := ⟨gb260, _, none⟩) NB258_260.out _).trans (hHeld.2.2.2.1)))))))), ((cell_far (p := ⟨gb260, _, none⟩) NB259_260.out _).trans (((cell_far (p := ⟨gb260, _, none⟩) NB259_260.out _).trans (((cell_far (p := ⟨gb260, _, none⟩) NB259_260.out _).trans (((cell_far (p := ⟨gb260, _, none⟩) NB259_260.out _).trans (hHeld.2.2.2.2.1)))))))), ((cell_far (p := ⟨gb260, _, none⟩) NB259_260.out _).trans (((cell_far (p := ⟨gb260, _, none⟩) NB259_260.out _).trans (((cell_far (p := ⟨gb260, _, none⟩) NB259_260.out _).trans (((cell_far (p := ⟨gb260, _, none⟩) NB259_260.out _).trans (hHeld.2.2.2.2.2.1)))))))), ((cell_far (p := ⟨gb260, _, none⟩) NB259_260.out _).trans (((cell_far (p := ⟨gb260, _, none⟩) NB259_260.out _).trans (((cell_far (p := ⟨gb260, _, none⟩) NB259_260.out _).trans (((cell_far (p := ⟨gb260, _, none⟩) NB259_260.out _).trans (hHeld.2.2.2.2.2.2.1)))))))), ((cell_far (p := ⟨gb260, _, none⟩) NB259_260.out _).trans (((cell_far (p := ⟨gb260, _, none⟩) NB259_260.out _).trans (((cell_far (p := ⟨gb260, _, none⟩) NB259_260.out _).trans (((cell_far (p := ⟨gb260, _, none⟩) NB259_260.out _).trans (hHeld.2.2.2.2.2.2.2))))))))⟩ (fun hHeld => ?_)
    clear hK K
    refine done_ (done_of HT_.out (by kernel_rfl)) ?_
    try go_wp2
    refine bodyPost_ret (results_cell_row rfl _ _ gb260 25 #[.int .i64 t288, .int .i64 t289, .int .i64 t290, .int .i64 t291] (0, 0) _ rfl (by (with_reducible repeat (first | refine blk_drewN ?_ _ | refine blk_drew ?_ | refine blk_alloc ?_ _)); refine blk_put (cs := #[.int .i64 t288, .int .i64 t289, .int .i64 t290, .int .i64 0]) ?_ 3 _ rfl; (with_reducible repeat (first | refine blk_drewN ?_ _ | refine blk_drew ?_ | refine blk_alloc ?_ _)); refine blk_put (cs := #[.int .i64 t288, .int .i64 t289, .int .i64 0, .int .i64 0]) ?_ 2 _ rfl; (with_reducible repeat (first | refine blk_drewN ?_ _ | refine blk_drew ?_ | refine blk_alloc ?_ _)); refine blk_put (cs := #[.int .i64 t288, .int .i64 0, .int .i64 0, .int .i64 0]) ?_ 1 _ rfl; (with_reducible repeat (first | refine blk_drewN ?_ _ | refine blk_drew ?_ | refine blk_alloc ?_ _)); refine blk_put (cs := #[.int .i64 0, .int .i64 0, .int .i64 0, .int .i64 0]) ?_ 0 _ rfl; (with_reducible repeat (first | refine blk_drewN ?_ _ | refine blk_drew ?_ | refine blk_alloc ?_ _)); exact BK260.out) Try.underlying25 rfl (by kernel_rfl)) rfl ?_
    exact ⟨by first | rfl | (simp [errW_none, errW_some] <;> rfl) | (simp [*, errW_none, errW_some] <;> rfl), Y4 HB GE258 GE259 GE260 GE265⟩

end Go.Proofs.Ytnmccgjdnceheaa.PFnExactValWiden
