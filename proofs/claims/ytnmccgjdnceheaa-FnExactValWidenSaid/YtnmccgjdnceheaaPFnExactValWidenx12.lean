/- Written by this session's own driver (wip/dprint.py): the functions that the law FnExactValWiden reaches, as Lean functions, each with its contract. -/
import Derived.Test.YtnmccgjdnceheaaPFnExactValWidenx0
import Derived.Test.YtnmccgjdnceheaaPFnExactValWidenx2
import Derived.Test.YtnmccgjdnceheaaPFnExactValWidenx3
import Derived.Test.YtnmccgjdnceheaaPFnExactValWidenx4
import Derived.Test.YtnmccgjdnceheaaPFnExactValWidenx8
import Derived.Test.YtnmccgjdnceheaaPFnExactValWidenx11
import Derived.Test.YtnmccgjdnceheaaSv
namespace Go.Proofs.Ytnmccgjdnceheaa.PFnExactValWiden
open Go.RowKit Go.Proofs.YtnmccgjdnceheaaV.PrintWords Go.Proofs.YtnmccgjdnceheaaV.PrintLast Go.Proofs.YtnmccgjdnceheaaV.PrintMore Go.Proofs.YtnmccgjdnceheaaSv
attribute [local go_sem] max2_int min2_int max_two min_two max_three min_three max_four min_four   -- for this text's walks alone
set_option linter.unusedVariables false
set_option linter.unusedSimpArgs false

attribute [local go_sem high] eqA86
/-! ### spec_RangeWiden: function 84 -/
def spec_RangeWiden.j0 : Nat → List Int → Bool → Int → Int → Int → Int → Option (Int × Int)
 | 0, _, _, _, _, _, _ => none
 | k + 1, x2, x28, x244000, x244001, x249000, x249001 => if x28 = true then (some (x249000, x249001)) else (if x249000 < x244000 then ((spec_l8Down.f k x2 x249000).bind fun t255 => (if x249001 > x244001 then ((spec_l8Up.f k x2 x249001).bind fun t256 => (some (t255, t256))) else (some (t255, x249001)))) else (if x249001 > x244001 then ((spec_l8Up.f k x2 x249001).bind fun t257 => (some (x249000, t257))) else (some (x249000, x249001))))
def spec_RangeWiden.f (k : Nat) (a0_0 : Int) (a0_1 : Int) (a1_0 : Int) (a1_1 : Int) (l2 : List Int) : Option (Int × Int) := (spec_RangeJoin.f k a0_0 a0_1 a1_0 a1_1).bind fun bt246 => ((spec_RangeOk.f a0_0 a0_1).bind fun t249 => (if t249 = true then ((spec_RangeOk.f a1_0 a1_1).bind fun t250 => (if t250 = true then ((spec_l8None.f).bind fun bt251 => (if (a0_0 == bt251.1 && (a0_1 == bt251.2)) = true then (spec_RangeWiden.j0 k l2 true a0_0 a0_1 bt246.1 bt246.2) else ((spec_l8None.f).bind fun bt253 => (spec_RangeWiden.j0 k l2 (a1_0 == bt253.1 && (a1_1 == bt253.2)) a0_0 a0_1 bt246.1 bt246.2)))) else (spec_RangeWiden.j0 k l2 true a0_0 a0_1 bt246.1 bt246.2))) else (spec_RangeWiden.j0 k l2 true a0_0 a0_1 bt246.1 bt246.2)))
theorem spec_RangeWiden.mono_l : ∀ k, (∀ y0 y1 y2 y3 y4 y5, LeO (spec_RangeWiden.j0 k y0 y1 y2 y3 y4 y5) (spec_RangeWiden.j0 (k + 1) y0 y1 y2 y3 y4 y5))
 | 0 => fun _ _ _ _ _ _ r h => by simp [spec_RangeWiden.j0] at h
 | k + 1 => by
  have ih0 := spec_RangeWiden.mono_l k
  ·intro y0 y1 y2 y3 y4 y5
   unfold spec_RangeWiden.j0
   repeat' first
   | (with_reducible exact ih0 _ _ _ _ _ _)
   | (with_reducible exact spec_RangeJoin.mono _ _ _ _ _)
   | (with_reducible exact spec_l8Down.mono _ _ _)
   | (with_reducible exact spec_l8Up.mono _ _ _)
   | (with_reducible exact LeO.refl _)
   | (with_reducible exact LeO.none _)
   | (with_reducible refine LeO.ite ?_ ?_)
   | (with_reducible refine LeO.bind ?_ (fun _ => ?_))
   | exact ih0 _ _ _ _ _ _
   | exact spec_RangeJoin.mono _ _ _ _ _
   | exact spec_l8Down.mono _ _ _
   | exact spec_l8Up.mono _ _ _
   | exact LeO.none _
   | refine LeO.ite ?_ ?_
   | refine LeO.bind ?_ (fun _ => ?_)
theorem spec_RangeWiden.mono : ∀ a0 a1 a2 a3 a4 k, LeO (spec_RangeWiden.f k a0 a1 a2 a3 a4) (spec_RangeWiden.f (k + 1) a0 a1 a2 a3 a4) := by
 intro a0 a1 a2 a3 a4 k
 have ih0 := spec_RangeWiden.mono_l k
 unfold spec_RangeWiden.f
 repeat' first
   | (with_reducible exact ih0 _ _ _ _ _ _)
   | (with_reducible exact spec_RangeJoin.mono _ _ _ _ _)
   | (with_reducible exact spec_l8Down.mono _ _ _)
   | (with_reducible exact spec_l8Up.mono _ _ _)
   | (with_reducible exact LeO.refl _)
   | (with_reducible exact LeO.none _)
   | (with_reducible refine LeO.ite ?_ ?_)
   | (with_reducible refine LeO.bind ?_ (fun _ => ?_))
   | exact ih0 _ _ _ _ _ _
   | exact spec_RangeJoin.mono _ _ _ _ _
   | exact spec_l8Down.mono _ _ _
   | exact spec_l8Up.mono _ _ _
   | exact LeO.none _
   | refine LeO.ite ?_ ?_
   | refine LeO.bind ?_ (fun _ => ?_)
def spec_RangeWiden.T2 : Bool × List (List Nat × List Nat) := (true, [([], []), ([0], [0]), ([1], [1]), ([2, 1], [2]), ([3], [3]), ([4, 3, 3], [3, 4]), ([5, 3], [3, 5]), ([3, 6], [3, 6]), ([7, 5], [7]), ([8], [8]), ([8, 8], [8]), ([9, 10, 8], [8, 9, 10]), ([8, 11], [8, 11]), ([12, 10], [12]), ([13], [13]), ([13, 13], [13]), ([14, 15, 13], [13, 14, 15]), ([13, 16], [13, 16])])
def spec_RangeWiden.B2 : List Nat := [0, 1, 3, 7, 15, 31, 63, 127, 255, 511, 511, 2047, 4095, 8191, 16383, 16383, 65535, 131071]
theorem spec_RangeWiden.tab2 : rtab .any (opsOf Try.f84 2) = spec_RangeWiden.T2 := by kernel_rfl
theorem spec_RangeWiden.bits2 : waitsOk spec_RangeWiden.T2.2 spec_RangeWiden.B2 = true := by kernel_rfl
set_option maxHeartbeats 8000000 in
set_option maxRecDepth 100000 in
theorem spec_RangeWiden.calls (k : Nat) (a0_0 : Int) (a0_1 : Int) (a1_0 : Int) (a1_1 : Int) (A2 : Option Addr) (c2 : Nat) (l2 : List Int) (r1 : Int) (r2 : Int) (w : World) (hr2 : Kd.C (Kd.int .i64) w A2 l2.length l2) (hc2 : l2.length ≤ c2) (h : spec_RangeWiden.f k a0_0 a0_1 a1_0 a1_1 l2 = some (r1, r2)) :
  Calls Try.prog 84 #[.agg #[.int .i64 a0_0, .int .i64 a0_1], .agg #[.int .i64 a1_0, .int .i64 a1_1], .slice A2 l2.length c2] w fun e w' => e = .returned (.agg #[.int .i64 r1, .int .i64 r2]) ∧ Below w.heap.size w w' := by
 have hu86 := Try.underlying86
 have HR2 := am hr2
 have HC2 := am hc2
 clear hr2 hc2
 have HB := am (Below.refl w.heap.size w)
 have H : ((spec_RangeJoin.f k a0_0 a0_1 a1_0 a1_1).bind fun bt246 => ((spec_RangeOk.f a0_0 a0_1).bind fun t249 => (if t249 = true then ((spec_RangeOk.f a1_0 a1_1).bind fun t250 => (if t250 = true then ((spec_l8None.f).bind fun bt251 => (if (a0_0 == bt251.1 && (a0_1 == bt251.2)) = true then (spec_RangeWiden.j0 k l2 true a0_0 a0_1 bt246.1 bt246.2) else ((spec_l8None.f).bind fun bt253 => (spec_RangeWiden.j0 k l2 (a1_0 == bt253.1 && (a1_1 == bt253.2)) a0_0 a0_1 bt246.1 bt246.2)))) else (spec_RangeWiden.j0 k l2 true a0_0 a0_1 bt246.1 bt246.2))) else (spec_RangeWiden.j0 k l2 true a0_0 a0_1 bt246.1 bt246.2)))) = some (r1, r2) := h
 clear h
 replace H := Option.bind_eq_some_iff.mp H
 obtain ⟨⟨t246, t247⟩, A40, H⟩ := H
 replace H : ((spec_RangeOk.f a0_0 a0_1).bind fun t249 => (if t249 = true then ((spec_RangeOk.f a1_0 a1_1).bind fun t250 => (if t250 = true then ((spec_l8None.f).bind fun bt251 => (if (a0_0 == bt251.1 && (a0_1 == bt251.2)) = true then (spec_RangeWiden.j0 k l2 true a0_0 a0_1 t246 t247) else ((spec_l8None.f).bind fun bt253 => (spec_RangeWiden.j0 k l2 (a1_0 == bt253.1 && (a1_1 == bt253.2)) a0_0 a0_1 t246 t247)))) else (spec_RangeWiden.j0 k l2 true a0_0 a0_1 t246 t247))) else (spec_RangeWiden.j0 k l2 true a0_0 a0_1 t246 t247))) = some (r1, r2) := H
 have A4 := am A40
 clear A40
 have HC5 := am H
 clear H
 go_enter Try.func84, Try.ntmps84
 go_upto_region 2 with (first | ((with_reducible refine gate_dst (N := 3) rfl ?_); refine box_event ?hg (N := 3) ?hd (cs := #[.int .i64 a0_0, .int .i64 a0_1]) (t := 86) ?hr ?_; (case hd => rfl); (case hg => rfl); (case hr => first | (go_simp; done) | (go_simp; rfl)); intro gb243 hg w6 hbox hb; have n0_ := am (below_step (Y0 HB) hb); have n1_ := am (hbox); have n2_ := am ((by rw [hg]; exact (below_size (Y0 HB)) : w.heap.size ≤ gb243)); have n3_ := am ((by rw [hg]; exact (below_size (Y0 HB)) : w.heap.size ≤ gb243)); clear HB; have HB := n0_; have BK243 := n1_; have GW243 := n2_; have GE243 := n3_; clear n0_ n1_ n2_ n3_; clear hb hbox hg) | ((with_reducible refine gate_dst (N := 4) rfl ?_); refine box_event ?hg (N := 4) ?hd (cs := #[.int .i64 a1_0, .int .i64 a1_1]) (t := 86) ?hr ?_; (case hd => rfl); (case hg => rfl); (case hr => first | (go_simp; done) | (go_simp; rfl)); intro gb244 hg w7 hbox hb; have n0_ := am (blk_below (g := gb243) (o := b2 a0_0 a0_1 86) (Z BK243) hb); have n1_ := am (below_step (Y1 HB GE243) hb); have n2_ := am (hbox); have n3_ := am ((by rw [hg]; exact (below_size (Y1 HB GE243)) : w.heap.size ≤ gb244)); have n4_ := am ((by rw [hg]; exact (below_size (Y1 HB GE243)) : w.heap.size ≤ gb244)); have n5_ := am ((nl (o := b2 a0_0 a0_1 86) hg (Z BK243) : gb243 ≠ gb244)); have n6_ := am ((ng (o := b2 a0_0 a0_1 86) hg (Z BK243) : gb244 ≠ gb243)); clear BK243; clear HB; have BK243 := n0_; have HB := n1_; have BK244 := n2_; have GW244 := n3_; have GE244 := n4_; have NB243_244 := n5_; have NB244_243 := n6_; clear n0_ n1_ n2_ n3_ n4_ n5_ n6_; clear hb hbox hg) | ((with_reducible refine gate_dst (N := 6) rfl ?_); refine box_event ?hg (N := 6) ?hd (cs := #[.int .i64 0, .int .i64 0]) (t := 86) ?hr ?_; (case hd => rfl); (case hg => rfl); (case hr => first | (go_simp; done) | (go_simp; rfl)); intro gb245 hg w8 hbox hb; have n0_ := am (blk_below (g := gb243) (o := b2 a0_0 a0_1 86) (Z BK243) hb); have n1_ := am (blk_below (g := gb244) (o := b2 a1_0 a1_1 86) (Z BK244) hb); have n2_ := am (below_step (Y2 HB GE243 GE244) hb); have n3_ := am (hbox); have n4_ := am ((by rw [hg]; exact (below_size (Y2 HB GE243 GE244)) : w.heap.size ≤ gb245)); have n5_ := am ((by rw [hg]; exact (below_size (Y2 HB GE243 GE244)) : w.heap.size ≤ gb245)); have n6_ := am ((nl (o := b2 a0_0 a0_1 86) hg (Z BK243) : gb243 ≠ gb245)); have n7_ := am ((ng (o := b2 a0_0 a0_1 86) hg (Z BK243) : gb245 ≠ gb243)); have n8_ := am ((nl (o := b2 a1_0 a1_1 86) hg (Z BK244) : gb244 ≠ gb245)); have n9_ := am ((ng (o := b2 a1_0 a1_1 86) hg (Z BK244) : gb245 ≠ gb244)); clear BK243; clear BK244; clear HB; have BK243 := n0_; have BK244 := n1_; have HB := n2_; have BK245 := n3_; have GW245 := n4_; have GE245 := n5_; have NB243_245 := n6_; have NB245_243 := n7_; have NB244_245 := n8_; have NB245_244 := n9_; clear n0_ n1_ n2_ n3_ n4_ n5_ n6_ n7_ n8_ n9_; clear hb hbox hg; have hnb9 := NB243_244.out; have hnc9 := NB244_243.out; have hnb10 := NB243_245.out; have hnc10 := NB245_243.out; have hcz11_0 : w8.cell? ⟨gb243, 0, none⟩ = some (.int .i64 a0_0) := bc BK243 0; have hcz11_1 : w8.cell? ⟨gb243, 1, none⟩ = some (.int .i64 a0_1) := bc BK243 1; have hfz11_0 := blk_frozen BK243.out 0; have hfz11_1 := blk_frozen BK243.out 1; have hnb12 := NB244_245.out; have hnc12 := NB245_244.out; have hcz13_0 : w8.cell? ⟨gb244, 0, none⟩ = some (.int .i64 a1_0) := bc BK244 0; have hcz13_1 : w8.cell? ⟨gb244, 1, none⟩ = some (.int .i64 a1_1) := bc BK244 1; have hfz13_0 := blk_frozen BK244.out 0; have hfz13_1 := blk_frozen BK244.out 1) | ((with_reducible refine gate_callee (f := 74) rfl ?_); refine goesL_ (some 10) rfl rfl Try.func74 (by kernel_rfl) rfl #[.agg #[.int .i64 a0_0, .int .i64 a0_1], .agg #[.int .i64 a1_0, .int .i64 a1_1]] rfl mz ?_; (with_reducible refine (spec_RangeJoin.calls k a0_0 a0_1 a1_0 a1_1 t246 t247 _ A4.out).mono ?_); rintro e w14 ⟨rfl, hb⟩; refine ⟨_, rfl, ?_⟩; have n0_ := am (blk_below (g := gb243) (o := b2 a0_0 a0_1 86) (Z BK243) hb); have n1_ := am (blk_below (g := gb244) (o := b2 a1_0 a1_1 86) (Z BK244) hb); have n2_ := am (blk_below (g := gb245) (o := b2 0 0 86) (Z BK245) hb); have n3_ := am (below_step (Y3 HB GE243 GE244 GE245) hb); clear BK243; clear BK244; clear BK245; clear HB; have BK243 := n0_; have BK244 := n1_; have BK245 := n2_; have HB := n3_; clear n0_ n1_ n2_ n3_; (try clear hb); (try clear hb2); (try clear hk); (try clear hi)) | ((with_reducible refine gate_dst (N := 7) rfl ?_); refine box_event ?hg (N := 7) ?hd (cs := #[.int .i64 0, .int .i64 0]) (t := 86) ?hr ?_; (case hd => rfl); (case hg => rfl); (case hr => first | (go_simp; done) | (go_simp; rfl)); intro gb248 hg w15 hbox hb; have n0_ := am (blk_below (g := gb243) (o := b2 a0_0 a0_1 86) (Z BK243) hb); have n1_ := am (blk_below (g := gb244) (o := b2 a1_0 a1_1 86) (Z BK244) hb); have n2_ := am (blk_below (g := gb245) (o := b2 0 0 86) (Z BK245) hb); have n3_ := am (below_step (Y3 HB GE243 GE244 GE245) hb); have n4_ := am (hbox); have n5_ := am ((by rw [hg]; exact (below_size (Y3 HB GE243 GE244 GE245)) : w.heap.size ≤ gb248)); have n6_ := am ((by rw [hg]; exact (below_size (Y3 HB GE243 GE244 GE245)) : w.heap.size ≤ gb248)); have n7_ := am ((nl (o := b2 a0_0 a0_1 86) hg (Z BK243) : gb243 ≠ gb248)); have n8_ := am ((ng (o := b2 a0_0 a0_1 86) hg (Z BK243) : gb248 ≠ gb243)); have n9_ := am ((nl (o := b2 a1_0 a1_1 86) hg (Z BK244) : gb244 ≠ gb248)); have n10_ := am ((ng (o := b2 a1_0 a1_1 86) hg (Z BK244) : gb248 ≠ gb244)); have n11_ := am ((nl (o := b2 0 0 86) hg (Z BK245) : gb245 ≠ gb248)); have n12_ := am ((ng (o := b2 0 0 86) hg (Z BK245) : gb248 ≠ gb245)); clear BK243; clear BK244; clear BK245; clear HB; have BK243 := n0_; have BK244 := n1_; have BK245 := n2_; have HB := n3_; have BK248 := n4_; have GW248 := n5_; have GE248 := n6_; have NB243_248 := n7_; have NB248_243 := n8_; have NB244_248 := n9_; have NB248_244 := n10_; have NB245_248 := n11_; have NB248_245 := n12_; clear n0_ n1_ n2_ n3_ n4_ n5_ n6_ n7_ n8_ n9_ n10_ n11_ n12_; clear hb hbox hg; have hnb16 := NB248_243.out; have hnc16 := NB243_248.out; have hnb17 := NB248_244.out; have hnc17 := NB244_248.out; have hnb18 := NB248_245.out; have hnc18 := NB245_248.out; have hcz19_0 : w15.cell? ⟨gb248, 0, none⟩ = some (.int .i64 0) := bc BK248 0; have hcz19_1 : w15.cell? ⟨gb248, 1, none⟩ = some (.int .i64 0) := bc BK248 1; have hfz19_0 := blk_frozen BK248.out 0; have hfz19_1 := blk_frozen BK248.out 1))
 (try simp only [Act.put, List.setIfInBounds_toArray, List.set_cons_zero, List.set_cons_succ])
 go_cut [28] (fun v28 wc => ∃ (kq : Nat) (x28_4 : Bool), v28 = .bool x28_4 ∧ Aside0 (spec_RangeWiden.j0 kq l2 x28_4 a0_0 a0_1 t246 t247 = some (r1, r2)) ∧ Aside0 (kq ≤ k) ∧ Aside0 (wc.heap[gb243]? = some (.cells #[.int .i64 a0_0, .int .i64 a0_1] 86 (0, 0))) ∧ Aside0 (wc.heap[gb244]? = some (.cells #[.int .i64 a1_0, .int .i64 a1_1] 86 (0, 0))) ∧ Aside0 (wc.heap[gb245]? = some (.cells #[.int .i64 0, .int .i64 0] 86 (0, 0))) ∧ Aside0 (wc.heap[gb248]? = some (.cells #[.int .i64 t246, .int .i64 t247] 86 (0, 0))) ∧ Aside0 (Below w.heap.size w wc))
 case first =>
  have H := HC5.out
  clear HC5
  replace H := Option.bind_eq_some_iff.mp H
  obtain ⟨t249, A200, H⟩ := H
  replace H : (if t249 = true then ((spec_RangeOk.f a1_0 a1_1).bind fun t250 => (if t250 = true then ((spec_l8None.f).bind fun bt251 => (if (a0_0 == bt251.1 && (a0_1 == bt251.2)) = true then (spec_RangeWiden.j0 k l2 true a0_0 a0_1 t246 t247) else ((spec_l8None.f).bind fun bt253 => (spec_RangeWiden.j0 k l2 (a1_0 == bt253.1 && (a1_1 == bt253.2)) a0_0 a0_1 t246 t247)))) else (spec_RangeWiden.j0 k l2 true a0_0 a0_1 t246 t247))) else (spec_RangeWiden.j0 k l2 true a0_0 a0_1 t246 t247)) = some (r1, r2) := H
  have A20 := am A200
  clear A200
  by_cases c21 : t249 = true
  ·subst c21
   have H1 : ((spec_RangeOk.f a1_0 a1_1).bind fun t250 => (if t250 = true then ((spec_l8None.f).bind fun bt251 => (if (a0_0 == bt251.1 && (a0_1 == bt251.2)) = true then (spec_RangeWiden.j0 k l2 true a0_0 a0_1 t246 t247) else ((spec_l8None.f).bind fun bt253 => (spec_RangeWiden.j0 k l2 (a1_0 == bt253.1 && (a1_1 == bt253.2)) a0_0 a0_1 t246 t247)))) else (spec_RangeWiden.j0 k l2 true a0_0 a0_1 t246 t247))) = some (r1, r2) := by rw [if_pos rfl] at H; exact H
   clear H
   have H := H1
   clear H1
   replace H := Option.bind_eq_some_iff.mp H
   obtain ⟨t250, A220, H⟩ := H
   replace H : (if t250 = true then ((spec_l8None.f).bind fun bt251 => (if (a0_0 == bt251.1 && (a0_1 == bt251.2)) = true then (spec_RangeWiden.j0 k l2 true a0_0 a0_1 t246 t247) else ((spec_l8None.f).bind fun bt253 => (spec_RangeWiden.j0 k l2 (a1_0 == bt253.1 && (a1_1 == bt253.2)) a0_0 a0_1 t246 t247)))) else (spec_RangeWiden.j0 k l2 true a0_0 a0_1 t246 t247)) = some (r1, r2) := H
   have A22 := am A220
   clear A220
   by_cases c23 : t250 = true
   ·subst c23
    have H1 : ((spec_l8None.f).bind fun bt251 => (if (a0_0 == bt251.1 && (a0_1 == bt251.2)) = true then (spec_RangeWiden.j0 k l2 true a0_0 a0_1 t246 t247) else ((spec_l8None.f).bind fun bt253 => (spec_RangeWiden.j0 k l2 (a1_0 == bt253.1 && (a1_1 == bt253.2)) a0_0 a0_1 t246 t247)))) = some (r1, r2) := by rw [if_pos rfl] at H; exact H
    clear H
    have H := H1
    clear H1
    replace H := Option.bind_eq_some_iff.mp H
    obtain ⟨⟨t251, t252⟩, A240, H⟩ := H
    replace H : (if (a0_0 == t251 && (a0_1 == t252)) = true then (spec_RangeWiden.j0 k l2 true a0_0 a0_1 t246 t247) else ((spec_l8None.f).bind fun bt253 => (spec_RangeWiden.j0 k l2 (a1_0 == bt253.1 && (a1_1 == bt253.2)) a0_0 a0_1 t246 t247))) = some (r1, r2) := H
    have A24 := am A240
    clear A240
    by_cases c25 : (a0_0 == t251 && (a0_1 == t252)) = true
    ·rw [if_pos c25] at H
     have c25b0 : (a0_0 == t251 && (a0_1 == t252)) = true := c25
     (try (have c25b1 : decide (a0_0 = t251 && (a0_1 == t252)) = true := by simpa using c25))
     (try (have c25b2 : (a0_0 == t251 && (a0_1 == t252)) = true := by simpa using c25))
     clear c25
     (first | rw [c25b0] | (simp only [i64_w, i32_w]; rw [c25b0]) | skip)
     have H' := am H
     clear H
     try go_wp2
     have n0_ : Aside0 (((w15.setCell ⟨gb248, 0, none⟩ (.int .i64 t246)).setCell ⟨gb248, 1, none⟩ (.int .i64 t247)).heap[gb243]? = some (.cells #[.int .i64 a0_0, .int .i64 a0_1] 86 (0, 0))) := ⟨by (with_reducible repeat (first | refine blk_drewN ?_ _ | refine blk_drew ?_ | refine blk_alloc ?_ _)); refine blk_far ?_ NB243_248.out _; (with_reducible repeat (first | refine blk_drewN ?_ _ | refine blk_drew ?_ | refine blk_alloc ?_ _)); refine blk_far ?_ NB243_248.out _; (with_reducible repeat (first | refine blk_drewN ?_ _ | refine blk_drew ?_ | refine blk_alloc ?_ _)); exact BK243.out⟩
     have n1_ : Aside0 (((w15.setCell ⟨gb248, 0, none⟩ (.int .i64 t246)).setCell ⟨gb248, 1, none⟩ (.int .i64 t247)).heap[gb244]? = some (.cells #[.int .i64 a1_0, .int .i64 a1_1] 86 (0, 0))) := ⟨by (with_reducible repeat (first | refine blk_drewN ?_ _ | refine blk_drew ?_ | refine blk_alloc ?_ _)); refine blk_far ?_ NB244_248.out _; (with_reducible repeat (first | refine blk_drewN ?_ _ | refine blk_drew ?_ | refine blk_alloc ?_ _)); refine blk_far ?_ NB244_248.out _; (with_reducible repeat (first | refine blk_drewN ?_ _ | refine blk_drew ?_ | refine blk_alloc ?_ _)); exact BK244.out⟩
     have n2_ : Aside0 (((w15.setCell ⟨gb248, 0, none⟩ (.int .i64 t246)).setCell ⟨gb248, 1, none⟩ (.int .i64 t247)).heap[gb245]? = some (.cells #[.int .i64 0, .int .i64 0] 86 (0, 0))) := ⟨by (with_reducible repeat (first | refine blk_drewN ?_ _ | refine blk_drew ?_ | refine blk_alloc ?_ _)); refine blk_far ?_ NB245_248.out _; (with_reducible repeat (first | refine blk_drewN ?_ _ | refine blk_drew ?_ | refine blk_alloc ?_ _)); refine blk_far ?_ NB245_248.out _; (with_reducible repeat (first | refine blk_drewN ?_ _ | refine blk_drew ?_ | refine blk_alloc ?_ _)); exact BK245.out⟩
     have n3_ : Aside0 (((w15.setCell ⟨gb248, 0, none⟩ (.int .i64 t246)).setCell ⟨gb248, 1, none⟩ (.int .i64 t247)).heap[gb248]? = some (.cells #[.int .i64 t246, .int .i64 t247] 86 (0, 0))) := ⟨by (with_reducible repeat (first | refine blk_drewN ?_ _ | refine blk_drew ?_ | refine blk_alloc ?_ _)); refine blk_put (cs := #[.int .i64 t246, .int .i64 0]) ?_ 1 _ rfl; (with_reducible repeat (first | refine blk_drewN ?_ _ | refine blk_drew ?_ | refine blk_alloc ?_ _)); refine blk_put (cs := #[.int .i64 0, .int .i64 0]) ?_ 0 _ rfl; (with_reducible repeat (first | refine blk_drewN ?_ _ | refine blk_drew ?_ | refine blk_alloc ?_ _)); exact BK248.out⟩
     have n4_ : Aside0 (Below w.heap.size w ((w15.setCell ⟨gb248, 0, none⟩ (.int .i64 t246)).setCell ⟨gb248, 1, none⟩ (.int .i64 t247))) := ⟨Y4 HB GE243 GE244 GE245 GE248⟩
     (try clear BK243)
     (try clear BK244)
     (try clear BK245)
     (try clear BK248)
     (try clear HB)
     generalize ((w15.setCell ⟨gb248, 0, none⟩ (.int .i64 t246)).setCell ⟨gb248, 1, none⟩ (.int .i64 t247)) = w26 at n0_ n1_ n2_ n3_ n4_ ⊢
     have BK243 := n0_
     have BK244 := n1_
     have BK245 := n2_
     have BK248 := n3_
     have HB := n4_
     clear n0_ n1_ n2_ n3_ n4_
     have n0_ := am (blk_drew BK243.out)
     have n1_ := am (blk_drew BK244.out)
     have n2_ := am (blk_drew BK245.out)
     have n3_ := am (blk_drew BK248.out)
     have n4_ := am (below_drew1 HB.out)
     clear BK243
     clear BK244
     clear BK245
     clear BK248
     clear HB
     have BK243 := n0_
     have BK244 := n1_
     have BK245 := n2_
     have BK248 := n3_
     have HB := n4_
     clear n0_ n1_ n2_ n3_ n4_
     refine start_ (n := 18) (S := fun w' => w'.cell? ⟨gb243, 0, none⟩ = some (.int .i64 a0_0) ∧ w'.cell? ⟨gb243, 1, none⟩ = some (.int .i64 a0_1) ∧ w'.cell? ⟨gb244, 0, none⟩ = some (.int .i64 a1_0) ∧ w'.cell? ⟨gb244, 1, none⟩ = some (.int .i64 a1_1)) (ds := []) #[F, F, F, F, F, F, F, F, F, F, F, F, F, F, F, F, F, F] (by kernel_rfl) rfl rfl ⟨bc BK243 0, bc BK243 1, bc BK244 0, bc BK244 1⟩ (fun hHeld => ?_); refine with_tabW spec_RangeWiden.tab2 spec_RangeWiden.bits2 (fun HT_ HW_ => ?_)
     generalize w26.drew = w27 at BK243 BK244 BK245 BK248 HB hHeld ⊢
     refine take_ (i := 0) (N := some 11) (v := ?_) (a' := ?_) #[T, F, F, F, F, F, F, F, F, F, F, F, F, F, F, F, F, F] rfl rfl (take_ofW HT_.out HW_.out (by kernel_rfl)) (fun _ _ _ h => h) (Or.inl ⟨by rfl, ?_⟩) hHeld ?_ ?_
     rotate_left
     ·rintro w' ⟨s0, s1, s2, s3⟩
      go_simp
      with_reducible rfl
     rotate_left
     ·exact pz
     refine one_ (i := 1) (N := some 12) #[T, T, F, F, F, F, F, F, F, F, F, F, F, F, F, F, F, F] rfl rfl (one_of HT_.out (by kernel_rfl)) (by decide) (fun K hK => ?_)
     refine goes_ Try.func117 (by kernel_rfl) rfl #[.agg #[.int .i64 a0_0, .int .i64 a0_1]] (by rfl) rfl rfl mz ?_
     with_reducible refine (spec_RangeOk.calls a0_0 a0_1 true _ A20.out).mono ?_
     rintro e w28 ⟨rfl, hb⟩
     refine ⟨_, rfl, ?_⟩
     have n0_ := am (blk_below (g := gb243) (o := b2 a0_0 a0_1 86) (Z BK243) hb)
     have n1_ := am (blk_below (g := gb244) (o := b2 a1_0 a1_1 86) (Z BK244) hb)
     have n2_ := am (blk_below (g := gb245) (o := b2 0 0 86) (Z BK245) hb)
     have n3_ := am (blk_below (g := gb248) (o := b2 t246 t247 86) (Z BK248) hb)
     have n4_ := am (below_step (Y4 HB GE243 GE244 GE245 GE248) hb)
     clear BK243
     clear BK244
     clear BK245
     clear BK248
     clear HB
     have BK243 := n0_
     have BK244 := n1_
     have BK245 := n2_
     have BK248 := n3_
     have HB := n4_
     clear n0_ n1_ n2_ n3_ n4_
     (try clear hb)
     (try clear hb2)
     (try clear hk)
     (try clear hi)
     refine hK.out _ _ ⟨bc BK243 0, bc BK243 1, bc BK244 0, bc BK244 1⟩ (fun hHeld => ?_)
     clear hK K
     refine norm_ (a' := ?_) ?_ ?_
     rotate_left
     ·show Act.put _ (some 12) _ = _
      simp only [Act.put, List.setIfInBounds_toArray, List.set_cons_zero, List.set_cons_succ, i64_w, i32_w]
      rfl
     refine pure_ (i := 2) (N := some 13) (v := ?_) (a' := ?_) #[T, T, T, F, F, F, F, F, F, F, F, F, F, F, F, F, F, F] rfl rfl (any_of HT_.out (by kernel_rfl)) (fun _ _ _ h => h) (Or.inl ⟨by rfl, ?_⟩) ?_ ?_
     rotate_left
     ·exact gz
     rotate_left
     ·exact pz
     refine pure_ (i := 3) (N := some 14) (v := ?_) (a' := ?_) #[T, T, T, T, F, F, F, F, F, F, F, F, F, F, F, F, F, F] rfl rfl (any_of HT_.out (by kernel_rfl)) (fun _ _ _ h => h) (Or.inl ⟨by rfl, ?_⟩) ?_ ?_
     rotate_left
     ·exact gz
     rotate_left
     ·exact pz
     refine take_ (i := 4) (N := some 15) (v := ?_) (a' := ?_) #[T, T, T, T, T, F, F, F, F, F, F, F, F, F, F, F, F, F] rfl rfl (take_ofW HT_.out HW_.out (by kernel_rfl)) (fun _ _ _ h => h) (Or.inl ⟨by rfl, ?_⟩) hHeld ?_ ?_
     rotate_left
     ·rintro w' ⟨s0, s1, s2, s3⟩
      go_simp
      with_reducible rfl
     rotate_left
     ·exact pz
     refine one_ (i := 5) (N := some 16) #[T, T, T, T, T, T, F, F, F, F, F, F, F, F, F, F, F, F] rfl rfl (one_of HT_.out (by kernel_rfl)) (by decide) (fun K hK => ?_)
     refine goes_ Try.func117 (by kernel_rfl) rfl #[.agg #[.int .i64 a1_0, .int .i64 a1_1]] (by rfl) rfl rfl mz ?_
     with_reducible refine (spec_RangeOk.calls a1_0 a1_1 true _ A22.out).mono ?_
     rintro e w29 ⟨rfl, hb⟩
     refine ⟨_, rfl, ?_⟩
     have n0_ := am (blk_below (g := gb243) (o := b2 a0_0 a0_1 86) (Z BK243) hb)
     have n1_ := am (blk_below (g := gb244) (o := b2 a1_0 a1_1 86) (Z BK244) hb)
     have n2_ := am (blk_below (g := gb245) (o := b2 0 0 86) (Z BK245) hb)
     have n3_ := am (blk_below (g := gb248) (o := b2 t246 t247 86) (Z BK248) hb)
     have n4_ := am (below_step (Y4 HB GE243 GE244 GE245 GE248) hb)
     clear BK243
     clear BK244
     clear BK245
     clear BK248
     clear HB
     have BK243 := n0_
     have BK244 := n1_
     have BK245 := n2_
     have BK248 := n3_
     have HB := n4_
     clear n0_ n1_ n2_ n3_ n4_
     (try clear hb)
     (try clear hb2)
     (try clear hk)
     (try clear hi)
     refine hK.out _ _ ⟨bc BK243 0, bc BK243 1, bc BK244 0, bc BK244 1⟩ (fun hHeld => ?_)
     clear hK K
     refine norm_ (a' := ?_) ?_ ?_
     rotate_left
     ·show Act.put _ (some 16) _ = _
      simp only [Act.put, List.setIfInBounds_toArray, List.set_cons_zero, List.set_cons_succ, i64_w, i32_w]
      rfl
     refine pure_ (i := 6) (N := some 17) (v := ?_) (a' := ?_) #[T, T, T, T, T, T, T, F, F, F, F, F, F, F, F, F, F, F] rfl rfl (any_of HT_.out (by kernel_rfl)) (fun _ _ _ h => h) (Or.inl ⟨by rfl, ?_⟩) ?_ ?_
     rotate_left
     ·exact gz
     rotate_left
     ·exact pz
     refine pure_ (i := 7) (N := some 18) (v := ?_) (a' := ?_) #[T, T, T, T, T, T, T, T, F, F, F, F, F, F, F, F, F, F] rfl rfl (any_of HT_.out (by kernel_rfl)) (fun _ _ _ h => h) (Or.inl ⟨by rfl, ?_⟩) ?_ ?_
     rotate_left
     ·exact gz
     rotate_left
     ·exact pz
     refine pure_ (i := 8) (N := some 19) (v := ?_) (a' := ?_) #[T, T, T, T, T, T, T, T, T, F, F, F, F, F, F, F, F, F] rfl rfl (any_of HT_.out (by kernel_rfl)) (fun _ _ _ h => h) (Or.inl ⟨by rfl, ?_⟩) ?_ ?_
     rotate_left
     ·exact gz
     rotate_left
     ·exact pz
     refine take_ (i := 9) (N := some 20) (v := ?_) (a' := ?_) #[T, T, T, T, T, T, T, T, T, T, F, F, F, F, F, F, F, F] rfl rfl (take_ofW HT_.out HW_.out (by kernel_rfl)) (fun _ _ _ h => h) (Or.inl ⟨by rfl, ?_⟩) hHeld ?_ ?_
     rotate_left
     ·rintro w' ⟨s0, s1, s2, s3⟩
      go_simp
      with_reducible rfl
     rotate_left
     ·exact pz
     refine one_ (i := 10) (N := some 21) #[T, T, T, T, T, T, T, T, T, T, T, F, F, F, F, F, F, F] rfl rfl (one_of HT_.out (by kernel_rfl)) (by decide) (fun K hK => ?_)
     refine goes_ Try.func123 (by kernel_rfl) rfl #[] (by rfl) rfl rfl mz ?_
     with_reducible refine (spec_l8None.calls  t251 t252 _ A24.out).mono ?_
     rintro e w30 ⟨rfl, hb⟩
     refine ⟨_, rfl, ?_⟩
     have n0_ := am (blk_below (g := gb243) (o := b2 a0_0 a0_1 86) (Z BK243) hb)
     have n1_ := am (blk_below (g := gb244) (o := b2 a1_0 a1_1 86) (Z BK244) hb)
     have n2_ := am (blk_below (g := gb245) (o := b2 0 0 86) (Z BK245) hb)
     have n3_ := am (blk_below (g := gb248) (o := b2 t246 t247 86) (Z BK248) hb)
     have n4_ := am (below_step (Y4 HB GE243 GE244 GE245 GE248) hb)
     clear BK243
     clear BK244
     clear BK245
     clear BK248
     clear HB
     have BK243 := n0_
     have BK244 := n1_
     have BK245 := n2_
     have BK248 := n3_
     have HB := n4_
     clear n0_ n1_ n2_ n3_ n4_
     (try clear hb)
     (try clear hb2)
     (try clear hk)
     (try clear hi)
     refine hK.out _ _ ⟨bc BK243 0, bc BK243 1, bc BK244 0, bc BK244 1⟩ (fun hHeld => ?_)
     clear hK K
     refine norm_ (a' := ?_) ?_ ?_
     rotate_left
     ·show Act.put _ (some 21) _ = _
      simp only [Act.put, List.setIfInBounds_toArray, List.set_cons_zero, List.set_cons_succ, i64_w, i32_w]
      rfl
     refine pure_ (i := 11) (N := some 22) (v := ?_) (a' := ?_) #[T, T, T, T, T, T, T, T, T, T, T, T, F, F, F, F, F, F] rfl rfl (any_of HT_.out (by kernel_rfl)) (fun _ _ _ h => h) (Or.inl ⟨by rfl, ?_⟩) ?_ ?_
     rotate_left
     ·exact gz
     rotate_left
     ·exact pz
     refine pure_ (i := 12) (N := some 23) (v := ?_) (a' := ?_) #[T, T, T, T, T, T, T, T, T, T, T, T, T, F, F, F, F, F] rfl rfl (any_of HT_.out (by kernel_rfl)) (fun _ _ _ h => h) (Or.inl ⟨by rfl, ?_⟩) ?_ ?_
     rotate_left
     ·exact gz
     rotate_left
     ·exact pz
     refine pure_ (i := 13) (N := some 24) (v := ?_) (a' := ?_) #[T, T, T, T, T, T, T, T, T, T, T, T, T, T, F, F, F, F] rfl rfl (any_of HT_.out (by kernel_rfl)) (fun _ _ _ h => h) (Or.inl ⟨by rfl, ?_⟩) ?_ ?_
     rotate_left
     ·exact gz
     rotate_left
     ·exact pz
     refine pure_ (i := 14) (N := some 25) (v := undef) (a' := ?_) #[T, T, T, T, T, T, T, T, T, T, T, T, T, T, T, F, F, F] rfl rfl (any_of HT_.out (by kernel_rfl)) (fun _ _ _ h => h) (Or.inr ⟨by rfl, rfl⟩) ?_ ?_
     rotate_left
     ·exact pz
     refine pure_ (i := 15) (N := some 26) (v := undef) (a' := ?_) #[T, T, T, T, T, T, T, T, T, T, T, T, T, T, T, T, F, F] rfl rfl (any_of HT_.out (by kernel_rfl)) (fun _ _ _ h => h) (Or.inr ⟨by rfl, rfl⟩) ?_ ?_
     rotate_left
     ·exact pz
     refine pure_ (i := 16) (N := some 27) (v := undef) (a' := ?_) #[T, T, T, T, T, T, T, T, T, T, T, T, T, T, T, T, T, F] rfl rfl (any_of HT_.out (by kernel_rfl)) (fun _ _ _ h => h) (Or.inr ⟨by rfl, rfl⟩) ?_ ?_
     rotate_left
     ·exact pz
     refine pure_ (i := 17) (N := some 28) (v := ?_) (a' := ?_) #[T, T, T, T, T, T, T, T, T, T, T, T, T, T, T, T, T, T] rfl rfl (any_of HT_.out (by kernel_rfl)) (fun _ _ _ h => h) (Or.inl ⟨by rfl, ?_⟩) ?_ ?_
     rotate_left
     ·exact gz
     rotate_left
     ·exact pz
     refine done_ (done_of HT_.out (by kernel_rfl)) ?_
     try go_wp2
     go_meet
     case rel => exact ⟨_, (true), (by first | rfl | (simp; done) | (simp [*]; done)), H', ⟨by first | omega | exact Nat.le_refl _⟩, ⟨Z BK243⟩, ⟨Z BK244⟩, ⟨Z BK245⟩, ⟨Z BK248⟩, ⟨Y4 HB GE243 GE244 GE245 GE248⟩⟩
    ·rw [if_neg c25] at H
     have c25b0 : (a0_0 == t251 && (a0_1 == t252)) = false := by simpa using c25
     (try (have c25b1 : decide (a0_0 = t251 && (a0_1 == t252)) = false := by simpa using c25))
     (try (have c25b2 : (a0_0 == t251 && (a0_1 == t252)) = false := by simpa using c25))
     (try (have c25b3 : ¬ (a0_0 = t251 && (a0_1 == t252)) := by simpa using c25))
     clear c25
     (first | rw [c25b0] | (simp only [i64_w, i32_w]; rw [c25b0]) | skip)
     replace H := Option.bind_eq_some_iff.mp H
     obtain ⟨⟨t253, t254⟩, A310, H⟩ := H
     replace H : (spec_RangeWiden.j0 k l2 (a1_0 == t253 && (a1_1 == t254)) a0_0 a0_1 t246 t247) = some (r1, r2) := H
     have A31 := am A310
     clear A310
     have H' := am H
     clear H
     try go_wp2
     have n0_ : Aside0 (((w15.setCell ⟨gb248, 0, none⟩ (.int .i64 t246)).setCell ⟨gb248, 1, none⟩ (.int .i64 t247)).heap[gb243]? = some (.cells #[.int .i64 a0_0, .int .i64 a0_1] 86 (0, 0))) := ⟨by (with_reducible repeat (first | refine blk_drewN ?_ _ | refine blk_drew ?_ | refine blk_alloc ?_ _)); refine blk_far ?_ NB243_248.out _; (with_reducible repeat (first | refine blk_drewN ?_ _ | refine blk_drew ?_ | refine blk_alloc ?_ _)); refine blk_far ?_ NB243_248.out _; (with_reducible repeat (first | refine blk_drewN ?_ _ | refine blk_drew ?_ | refine blk_alloc ?_ _)); exact BK243.out⟩
     have n1_ : Aside0 (((w15.setCell ⟨gb248, 0, none⟩ (.int .i64 t246)).setCell ⟨gb248, 1, none⟩ (.int .i64 t247)).heap[gb244]? = some (.cells #[.int .i64 a1_0, .int .i64 a1_1] 86 (0, 0))) := ⟨by (with_reducible repeat (first | refine blk_drewN ?_ _ | refine blk_drew ?_ | refine blk_alloc ?_ _)); refine blk_far ?_ NB244_248.out _; (with_reducible repeat (first | refine blk_drewN ?_ _ | refine blk_drew ?_ | refine blk_alloc ?_ _)); refine blk_far ?_ NB244_248.out _; (with_reducible repeat (first | refine blk_drewN ?_ _ | refine blk_drew ?_ | refine blk_alloc ?_ _)); exact BK244.out⟩
     have n2_ : Aside0 (((w15.setCell ⟨gb248, 0, none⟩ (.int .i64 t246)).setCell ⟨gb248, 1, none⟩ (.int .i64 t247)).heap[gb245]? = some (.cells #[.int .i64 0, .int .i64 0] 86 (0, 0))) := ⟨by (with_reducible repeat (first | refine blk_drewN ?_ _ | refine blk_drew ?_ | refine blk_alloc ?_ _)); refine blk_far ?_ NB245_248.out _; (with_reducible repeat (first | refine blk_drewN ?_ _ | refine blk_drew ?_ | refine blk_alloc ?_ _)); refine blk_far ?_ NB245_248.out _; (with_reducible repeat (first | refine blk_drewN ?_ _ | refine blk_drew ?_ | refine blk_alloc ?_ _)); exact BK245.out⟩
     have n3_ : Aside0 (((w15.setCell ⟨gb248, 0, none⟩ (.int .i64 t246)).setCell ⟨gb248, 1, none⟩ (.int .i64 t247)).heap[gb248]? = some (.cells #[.int .i64 t246, .int .i64 t247] 86 (0, 0))) := ⟨by (with_reducible repeat (first | refine blk_drewN ?_ _ | refine blk_drew ?_ | refine blk_alloc ?_ _)); refine blk_put (cs := #[.int .i64 t246, .int .i64 0]) ?_ 1 _ rfl; (with_reducible repeat (first | refine blk_drewN ?_ _ | refine blk_drew ?_ | refine blk_alloc ?_ _)); refine blk_put (cs := #[.int .i64 0, .int .i64 0]) ?_ 0 _ rfl; (with_reducible repeat (first | refine blk_drewN ?_ _ | refine blk_drew ?_ | refine blk_alloc ?_ _)); exact BK248.out⟩
     have n4_ : Aside0 (Below w.heap.size w ((w15.setCell ⟨gb248, 0, none⟩ (.int .i64 t246)).setCell ⟨gb248, 1, none⟩ (.int .i64 t247))) := ⟨Y4 HB GE243 GE244 GE245 GE248⟩
     (try clear BK243)
     (try clear BK244)
     (try clear BK245)
     (try clear BK248)
     (try clear HB)
     generalize ((w15.setCell ⟨gb248, 0, none⟩ (.int .i64 t246)).setCell ⟨gb248, 1, none⟩ (.int .i64 t247)) = w32 at n0_ n1_ n2_ n3_ n4_ ⊢
     have BK243 := n0_
     have BK244 := n1_
     have BK245 := n2_
     have BK248 := n3_
     have HB := n4_
     clear n0_ n1_ n2_ n3_ n4_
     have n0_ := am (blk_drew BK243.out)
     have n1_ := am (blk_drew BK244.out)
     have n2_ := am (blk_drew BK245.out)
     have n3_ := am (blk_drew BK248.out)
     have n4_ := am (below_drew1 HB.out)
     clear BK243
     clear BK244
     clear BK245
     clear BK248
     clear HB
     have BK243 := n0_
     have BK244 := n1_
     have BK245 := n2_
     have BK248 := n3_
     have HB := n4_
     clear n0_ n1_ n2_ n3_ n4_
     refine start_ (n := 18) (S := fun w' => w'.cell? ⟨gb243, 0, none⟩ = some (.int .i64 a0_0) ∧ w'.cell? ⟨gb243, 1, none⟩ = some (.int .i64 a0_1) ∧ w'.cell? ⟨gb244, 0, none⟩ = some (.int .i64 a1_0) ∧ w'.cell? ⟨gb244, 1, none⟩ = some (.int .i64 a1_1)) (ds := []) #[F, F, F, F, F, F, F, F, F, F, F, F, F, F, F, F, F, F] (by kernel_rfl) rfl rfl ⟨bc BK243 0, bc BK243 1, bc BK244 0, bc BK244 1⟩ (fun hHeld => ?_); refine with_tabW spec_RangeWiden.tab2 spec_RangeWiden.bits2 (fun HT_ HW_ => ?_)
     generalize w32.drew = w33 at BK243 BK244 BK245 BK248 HB hHeld ⊢
     refine take_ (i := 0) (N := some 11) (v := ?_) (a' := ?_) #[T, F, F, F, F, F, F, F, F, F, F, F, F, F, F, F, F, F] rfl rfl (take_ofW HT_.out HW_.out (by kernel_rfl)) (fun _ _ _ h => h) (Or.inl ⟨by rfl, ?_⟩) hHeld ?_ ?_
     rotate_left
     ·rintro w' ⟨s0, s1, s2, s3⟩
      go_simp
      with_reducible rfl
     rotate_left
     ·exact pz
     refine one_ (i := 1) (N := some 12) #[T, T, F, F, F, F, F, F, F, F, F, F, F, F, F, F, F, F] rfl rfl (one_of HT_.out (by kernel_rfl)) (by decide) (fun K hK => ?_)
     refine goes_ Try.func117 (by kernel_rfl) rfl #[.agg #[.int .i64 a0_0, .int .i64 a0_1]] (by rfl) rfl rfl mz ?_
     with_reducible refine (spec_RangeOk.calls a0_0 a0_1 true _ A20.out).mono ?_
     rintro e w34 ⟨rfl, hb⟩
     refine ⟨_, rfl, ?_⟩
     have n0_ := am (blk_below (g := gb243) (o := b2 a0_0 a0_1 86) (Z BK243) hb)
     have n1_ := am (blk_below (g := gb244) (o := b2 a1_0 a1_1 86) (Z BK244) hb)
     have n2_ := am (blk_below (g := gb245) (o := b2 0 0 86) (Z BK245) hb)
     have n3_ := am (blk_below (g := gb248) (o := b2 t246 t247 86) (Z BK248) hb)
     have n4_ := am (below_step (Y4 HB GE243 GE244 GE245 GE248) hb)
     clear BK243
     clear BK244
     clear BK245
     clear BK248
     clear HB
     have BK243 := n0_
     have BK244 := n1_
     have BK245 := n2_
     have BK248 := n3_
     have HB := n4_
     clear n0_ n1_ n2_ n3_ n4_
     (try clear hb)
     (try clear hb2)
     (try clear hk)
     (try clear hi)
     refine hK.out _ _ ⟨bc BK243 0, bc BK243 1, bc BK244 0, bc BK244 1⟩ (fun hHeld => ?_)
     clear hK K
     refine norm_ (a' := ?_) ?_ ?_
     rotate_left
     ·show Act.put _ (some 12) _ = _
      simp only [Act.put, List.setIfInBounds_toArray, List.set_cons_zero, List.set_cons_succ, i64_w, i32_w]
      rfl
     refine pure_ (i := 2) (N := some 13) (v := ?_) (a' := ?_) #[T, T, T, F, F, F, F, F, F, F, F, F, F, F, F, F, F, F] rfl rfl (any_of HT_.out (by kernel_rfl)) (fun _ _ _ h => h) (Or.inl ⟨by rfl, ?_⟩) ?_ ?_
     rotate_left
     ·exact gz
     rotate_left
     ·exact pz
     refine pure_ (i := 3) (N := some 14) (v := ?_) (a' := ?_) #[T, T, T, T, F, F, F, F, F, F, F, F, F, F, F, F, F, F] rfl rfl (any_of HT_.out (by kernel_rfl)) (fun _ _ _ h => h) (Or.inl ⟨by rfl, ?_⟩) ?_ ?_
     rotate_left
     ·exact gz
     rotate_left
     ·exact pz
     refine take_ (i := 4) (N := some 15) (v := ?_) (a' := ?_) #[T, T, T, T, T, F, F, F, F, F, F, F, F, F, F, F, F, F] rfl rfl (take_ofW HT_.out HW_.out (by kernel_rfl)) (fun _ _ _ h => h) (Or.inl ⟨by rfl, ?_⟩) hHeld ?_ ?_
     rotate_left
     ·rintro w' ⟨s0, s1, s2, s3⟩
      go_simp
      with_reducible rfl
     rotate_left
     ·exact pz
     refine one_ (i := 5) (N := some 16) #[T, T, T, T, T, T, F, F, F, F, F, F, F, F, F, F, F, F] rfl rfl (one_of HT_.out (by kernel_rfl)) (by decide) (fun K hK => ?_)
     refine goes_ Try.func117 (by kernel_rfl) rfl #[.agg #[.int .i64 a1_0, .int .i64 a1_1]] (by rfl) rfl rfl mz ?_
     with_reducible refine (spec_RangeOk.calls a1_0 a1_1 true _ A22.out).mono ?_
     rintro e w35 ⟨rfl, hb⟩
     refine ⟨_, rfl, ?_⟩
     have n0_ := am (blk_below (g := gb243) (o := b2 a0_0 a0_1 86) (Z BK243) hb)
     have n1_ := am (blk_below (g := gb244) (o := b2 a1_0 a1_1 86) (Z BK244) hb)
     have n2_ := am (blk_below (g := gb245) (o := b2 0 0 86) (Z BK245) hb)
     have n3_ := am (blk_below (g := gb248) (o := b2 t246 t247 86) (Z BK248) hb)
     have n4_ := am (below_step (Y4 HB GE243 GE244 GE245 GE248) hb)
     clear BK243
     clear BK244
     clear BK245
     clear BK248
     clear HB
     have BK243 := n0_
     have BK244 := n1_
     have BK245 := n2_
     have BK248 := n3_
     have HB := n4_
     clear n0_ n1_ n2_ n3_ n4_
     (try clear hb)
     (try clear hb2)
     (try clear hk)
     (try clear hi)
     refine hK.out _ _ ⟨bc BK243 0, bc BK243 1, bc BK244 0, bc BK244 1⟩ (fun hHeld => ?_)
     clear hK K
     refine norm_ (a' := ?_) ?_ ?_
     rotate_left
     ·show Act.put _ (some 16) _ = _
      simp only [Act.put, List.setIfInBounds_toArray, List.set_cons_zero, List.set_cons_succ, i64_w, i32_w]
      rfl
     refine pure_ (i := 6) (N := some 17) (v := ?_) (a' := ?_) #[T, T, T, T, T, T, T, F, F, F, F, F, F, F, F, F, F, F] rfl rfl (any_of HT_.out (by kernel_rfl)) (fun _ _ _ h => h) (Or.inl ⟨by rfl, ?_⟩) ?_ ?_
     rotate_left
     ·exact gz
     rotate_left
     ·exact pz
     refine pure_ (i := 7) (N := some 18) (v := ?_) (a' := ?_) #[T, T, T, T, T, T, T, T, F, F, F, F, F, F, F, F, F, F] rfl rfl (any_of HT_.out (by kernel_rfl)) (fun _ _ _ h => h) (Or.inl ⟨by rfl, ?_⟩) ?_ ?_
     rotate_left
     ·exact gz
     rotate_left
     ·exact pz
     refine pure_ (i := 8) (N := some 19) (v := ?_) (a' := ?_) #[T, T, T, T, T, T, T, T, T, F, F, F, F, F, F, F, F, F] rfl rfl (any_of HT_.out (by kernel_rfl)) (fun _ _ _ h => h) (Or.inl ⟨by rfl, ?_⟩) ?_ ?_
     rotate_left
     ·exact gz
     rotate_left
     ·exact pz
     refine take_ (i := 9) (N := some 20) (v := ?_) (a' := ?_) #[T, T, T, T, T, T, T, T, T, T, F, F, F, F, F, F, F, F] rfl rfl (take_ofW HT_.out HW_.out (by kernel_rfl)) (fun _ _ _ h => h) (Or.inl ⟨by rfl, ?_⟩) hHeld ?_ ?_
     rotate_left
     ·rintro w' ⟨s0, s1, s2, s3⟩
      go_simp
      with_reducible rfl
     rotate_left
     ·exact pz
     refine one_ (i := 10) (N := some 21) #[T, T, T, T, T, T, T, T, T, T, T, F, F, F, F, F, F, F] rfl rfl (one_of HT_.out (by kernel_rfl)) (by decide) (fun K hK => ?_)
     refine goes_ Try.func123 (by kernel_rfl) rfl #[] (by rfl) rfl rfl mz ?_
     with_reducible refine (spec_l8None.calls  t251 t252 _ A24.out).mono ?_
     rintro e w36 ⟨rfl, hb⟩
     refine ⟨_, rfl, ?_⟩
     have n0_ := am (blk_below (g := gb243) (o := b2 a0_0 a0_1 86) (Z BK243) hb)
     have n1_ := am (blk_below (g := gb244) (o := b2 a1_0 a1_1 86) (Z BK244) hb)
     have n2_ := am (blk_below (g := gb245) (o := b2 0 0 86) (Z BK245) hb)
     have n3_ := am (blk_below (g := gb248) (o := b2 t246 t247 86) (Z BK248) hb)
     have n4_ := am (below_step (Y4 HB GE243 GE244 GE245 GE248) hb)
     clear BK243
     clear BK244
     clear BK245
     clear BK248
     clear HB
     have BK243 := n0_
     have BK244 := n1_
     have BK245 := n2_
     have BK248 := n3_
     have HB := n4_
     clear n0_ n1_ n2_ n3_ n4_
     (try clear hb)
     (try clear hb2)
     (try clear hk)
     (try clear hi)
     refine hK.out _ _ ⟨bc BK243 0, bc BK243 1, bc BK244 0, bc BK244 1⟩ (fun hHeld => ?_)
     clear hK K
     refine norm_ (a' := ?_) ?_ ?_
     rotate_left
     ·show Act.put _ (some 21) _ = _
      simp only [Act.put, List.setIfInBounds_toArray, List.set_cons_zero, List.set_cons_succ, i64_w, i32_w]
      rfl
     refine pure_ (i := 11) (N := some 22) (v := ?_) (a' := ?_) #[T, T, T, T, T, T, T, T, T, T, T, T, F, F, F, F, F, F] rfl rfl (any_of HT_.out (by kernel_rfl)) (fun _ _ _ h => h) (Or.inl ⟨by rfl, ?_⟩) ?_ ?_
     rotate_left
     ·exact gz
     rotate_left
     ·exact pz
     refine pure_ (i := 12) (N := some 23) (v := ?_) (a' := ?_) #[T, T, T, T, T, T, T, T, T, T, T, T, T, F, F, F, F, F] rfl rfl (any_of HT_.out (by kernel_rfl)) (fun _ _ _ h => h) (Or.inl ⟨by rfl, ?_⟩) ?_ ?_
     rotate_left
     ·exact gz
     rotate_left
     ·exact pz
     refine pure_ (i := 13) (N := some 24) (v := ?_) (a' := ?_) #[T, T, T, T, T, T, T, T, T, T, T, T, T, T, F, F, F, F] rfl rfl (any_of HT_.out (by kernel_rfl)) (fun _ _ _ h => h) (Or.inl ⟨by rfl, ?_⟩) ?_ ?_
     rotate_left
     ·exact gz
     rotate_left
     ·exact pz
     refine take_ (i := 14) (N := some 25) (v := ?_) (a' := ?_) #[T, T, T, T, T, T, T, T, T, T, T, T, T, T, T, F, F, F] rfl rfl (take_ofW HT_.out HW_.out (by kernel_rfl)) (fun _ _ _ h => h) (Or.inl ⟨by rfl, ?_⟩) hHeld ?_ ?_
     rotate_left
     ·rintro w' ⟨s0, s1, s2, s3⟩
      go_simp
      with_reducible rfl
     rotate_left
     ·exact pz
     refine one_ (i := 15) (N := some 26) #[T, T, T, T, T, T, T, T, T, T, T, T, T, T, T, T, F, F] rfl rfl (one_of HT_.out (by kernel_rfl)) (by decide) (fun K hK => ?_)
     refine goes_ Try.func123 (by kernel_rfl) rfl #[] (by rfl) rfl rfl mz ?_
     with_reducible refine (spec_l8None.calls  t253 t254 _ A31.out).mono ?_
     rintro e w37 ⟨rfl, hb⟩
     refine ⟨_, rfl, ?_⟩
     have n0_ := am (blk_below (g := gb243) (o := b2 a0_0 a0_1 86) (Z BK243) hb)
     have n1_ := am (blk_below (g := gb244) (o := b2 a1_0 a1_1 86) (Z BK244) hb)
     have n2_ := am (blk_below (g := gb245) (o := b2 0 0 86) (Z BK245) hb)
     have n3_ := am (blk_below (g := gb248) (o := b2 t246 t247 86) (Z BK248) hb)
     have n4_ := am (below_step (Y4 HB GE243 GE244 GE245 GE248) hb)
     clear BK243
     clear BK244
     clear BK245
     clear BK248
     clear HB
     have BK243 := n0_
     have BK244 := n1_
     have BK245 := n2_
     have BK248 := n3_
     have HB := n4_
     clear n0_ n1_ n2_ n3_ n4_
     (try clear hb)
     (try clear hb2)
     (try clear hk)
     (try clear hi)
     refine hK.out _ _ ⟨bc BK243 0, bc BK243 1, bc BK244 0, bc BK244 1⟩ (fun hHeld => ?_)
     clear hK K
     refine norm_ (a' := ?_) ?_ ?_
     rotate_left
     ·show Act.put _ (some 26) _ = _
      simp only [Act.put, List.setIfInBounds_toArray, List.set_cons_zero, List.set_cons_succ, i64_w, i32_w]
      rfl
     refine pure_ (i := 16) (N := some 27) (v := ?_) (a' := ?_) #[T, T, T, T, T, T, T, T, T, T, T, T, T, T, T, T, T, F] rfl rfl (any_of HT_.out (by kernel_rfl)) (fun _ _ _ h => h) (Or.inl ⟨by rfl, ?_⟩) ?_ ?_
     rotate_left
     ·exact gz
     rotate_left
     ·exact pz
     refine pure_ (i := 17) (N := some 28) (v := ?_) (a' := ?_) #[T, T, T, T, T, T, T, T, T, T, T, T, T, T, T, T, T, T] rfl rfl (any_of HT_.out (by kernel_rfl)) (fun _ _ _ h => h) (Or.inl ⟨by rfl, ?_⟩) ?_ ?_
     rotate_left
     ·exact gz
     rotate_left
     ·exact pz
     refine done_ (done_of HT_.out (by kernel_rfl)) ?_
     try go_wp2
     go_meet
     case rel => exact ⟨_, ((a1_0 == t253 && (a1_1 == t254))), (by first | rfl | (simp; done) | (simp [*]; done)), H', ⟨by first | omega | exact Nat.le_refl _⟩, ⟨Z BK243⟩, ⟨Z BK244⟩, ⟨Z BK245⟩, ⟨Z BK248⟩, ⟨Y4 HB GE243 GE244 GE245 GE248⟩⟩
   ·replace c23 := Bool.eq_false_iff.mpr c23
    subst c23
    have H1 : (spec_RangeWiden.j0 k l2 true a0_0 a0_1 t246 t247) = some (r1, r2) := by rw [if_neg (show ¬ (false = true) by decide)] at H; exact H
    clear H
    have H := H1
    clear H1
    have H' := am H
    clear H
    try go_wp2
    have n0_ : Aside0 (((w15.setCell ⟨gb248, 0, none⟩ (.int .i64 t246)).setCell ⟨gb248, 1, none⟩ (.int .i64 t247)).heap[gb243]? = some (.cells #[.int .i64 a0_0, .int .i64 a0_1] 86 (0, 0))) := ⟨by (with_reducible repeat (first | refine blk_drewN ?_ _ | refine blk_drew ?_ | refine blk_alloc ?_ _)); refine blk_far ?_ NB243_248.out _; (with_reducible repeat (first | refine blk_drewN ?_ _ | refine blk_drew ?_ | refine blk_alloc ?_ _)); refine blk_far ?_ NB243_248.out _; (with_reducible repeat (first | refine blk_drewN ?_ _ | refine blk_drew ?_ | refine blk_alloc ?_ _)); exact BK243.out⟩
    have n1_ : Aside0 (((w15.setCell ⟨gb248, 0, none⟩ (.int .i64 t246)).setCell ⟨gb248, 1, none⟩ (.int .i64 t247)).heap[gb244]? = some (.cells #[.int .i64 a1_0, .int .i64 a1_1] 86 (0, 0))) := ⟨by (with_reducible repeat (first | refine blk_drewN ?_ _ | refine blk_drew ?_ | refine blk_alloc ?_ _)); refine blk_far ?_ NB244_248.out _; (with_reducible repeat (first | refine blk_drewN ?_ _ | refine blk_drew ?_ | refine blk_alloc ?_ _)); refine blk_far ?_ NB244_248.out _; (with_reducible repeat (first | refine blk_drewN ?_ _ | refine blk_drew ?_ | refine blk_alloc ?_ _)); exact BK244.out⟩
    have n2_ : Aside0 (((w15.setCell ⟨gb248, 0, none⟩ (.int .i64 t246)).setCell ⟨gb248, 1, none⟩ (.int .i64 t247)).heap[gb245]? = some (.cells #[.int .i64 0, .int .i64 0] 86 (0, 0))) := ⟨by (with_reducible repeat (first | refine blk_drewN ?_ _ | refine blk_drew ?_ | refine blk_alloc ?_ _)); refine blk_far ?_ NB245_248.out _; (with_reducible repeat (first | refine blk_drewN ?_ _ | refine blk_drew ?_ | refine blk_alloc ?_ _)); refine blk_far ?_ NB245_248.out _; (with_reducible repeat (first | refine blk_drewN ?_ _ | refine blk_drew ?_ | refine blk_alloc ?_ _)); exact BK245.out⟩
    have n3_ : Aside0 (((w15.setCell ⟨gb248, 0, none⟩ (.int .i64 t246)).setCell ⟨gb248, 1, none⟩ (.int .i64 t247)).heap[gb248]? = some (.cells #[.int .i64 t246, .int .i64 t247] 86 (0, 0))) := ⟨by (with_reducible repeat (first | refine blk_drewN ?_ _ | refine blk_drew ?_ | refine blk_alloc ?_ _)); refine blk_put (cs := #[.int .i64 t246, .int .i64 0]) ?_ 1 _ rfl; (with_reducible repeat (first | refine blk_drewN ?_ _ | refine blk_drew ?_ | refine blk_alloc ?_ _)); refine blk_put (cs := #[.int .i64 0, .int .i64 0]) ?_ 0 _ rfl; (with_reducible repeat (first | refine blk_drewN ?_ _ | refine blk_drew ?_ | refine blk_alloc ?_ _)); exact BK248.out⟩
    have n4_ : Aside0 (Below w.heap.size w ((w15.setCell ⟨gb248, 0, none⟩ (.int .i64 t246)).setCell ⟨gb248, 1, none⟩ (.int .i64 t247))) := ⟨Y4 HB GE243 GE244 GE245 GE248⟩
    (try clear BK243)
    (try clear BK244)
    (try clear BK245)
    (try clear BK248)
    (try clear HB)
    generalize ((w15.setCell ⟨gb248, 0, none⟩ (.int .i64 t246)).setCell ⟨gb248, 1, none⟩ (.int .i64 t247)) = w38 at n0_ n1_ n2_ n3_ n4_ ⊢
    have BK243 := n0_
    have BK244 := n1_
    have BK245 := n2_
    have BK248 := n3_
    have HB := n4_
    clear n0_ n1_ n2_ n3_ n4_
    have n0_ := am (blk_drew BK243.out)
    have n1_ := am (blk_drew BK244.out)
    have n2_ := am (blk_drew BK245.out)
    have n3_ := am (blk_drew BK248.out)
    have n4_ := am (below_drew1 HB.out)
    clear BK243
    clear BK244
    clear BK245
    clear BK248
    clear HB
    have BK243 := n0_
    have BK244 := n1_
    have BK245 := n2_
    have BK248 := n3_
    have HB := n4_
    clear n0_ n1_ n2_ n3_ n4_
    refine start_ (n := 18) (S := fun w' => w'.cell? ⟨gb243, 0, none⟩ = some (.int .i64 a0_0) ∧ w'.cell? ⟨gb243, 1, none⟩ = some (.int .i64 a0_1) ∧ w'.cell? ⟨gb244, 0, none⟩ = some (.int .i64 a1_0) ∧ w'.cell? ⟨gb244, 1, none⟩ = some (.int .i64 a1_1)) (ds := []) #[F, F, F, F, F, F, F, F, F, F, F, F, F, F, F, F, F, F] (by kernel_rfl) rfl rfl ⟨bc BK243 0, bc BK243 1, bc BK244 0, bc BK244 1⟩ (fun hHeld => ?_); refine with_tabW spec_RangeWiden.tab2 spec_RangeWiden.bits2 (fun HT_ HW_ => ?_)
    generalize w38.drew = w39 at BK243 BK244 BK245 BK248 HB hHeld ⊢
    refine take_ (i := 0) (N := some 11) (v := ?_) (a' := ?_) #[T, F, F, F, F, F, F, F, F, F, F, F, F, F, F, F, F, F] rfl rfl (take_ofW HT_.out HW_.out (by kernel_rfl)) (fun _ _ _ h => h) (Or.inl ⟨by rfl, ?_⟩) hHeld ?_ ?_
    rotate_left
    ·rintro w' ⟨s0, s1, s2, s3⟩
     go_simp
     with_reducible rfl
    rotate_left
    ·exact pz
    refine one_ (i := 1) (N := some 12) #[T, T, F, F, F, F, F, F, F, F, F, F, F, F, F, F, F, F] rfl rfl (one_of HT_.out (by kernel_rfl)) (by decide) (fun K hK => ?_)
    refine goes_ Try.func117 (by kernel_rfl) rfl #[.agg #[.int .i64 a0_0, .int .i64 a0_1]] (by rfl) rfl rfl mz ?_
    with_reducible refine (spec_RangeOk.calls a0_0 a0_1 true _ A20.out).mono ?_
    rintro e w40 ⟨rfl, hb⟩
    refine ⟨_, rfl, ?_⟩
    have n0_ := am (blk_below (g := gb243) (o := b2 a0_0 a0_1 86) (Z BK243) hb)
    have n1_ := am (blk_below (g := gb244) (o := b2 a1_0 a1_1 86) (Z BK244) hb)
    have n2_ := am (blk_below (g := gb245) (o := b2 0 0 86) (Z BK245) hb)
    have n3_ := am (blk_below (g := gb248) (o := b2 t246 t247 86) (Z BK248) hb)
    have n4_ := am (below_step (Y4 HB GE243 GE244 GE245 GE248) hb)
    clear BK243
    clear BK244
    clear BK245
    clear BK248
    clear HB
    have BK243 := n0_
    have BK244 := n1_
    have BK245 := n2_
    have BK248 := n3_
    have HB := n4_
    clear n0_ n1_ n2_ n3_ n4_
    (try clear hb)
    (try clear hb2)
    (try clear hk)
    (try clear hi)
    refine hK.out _ _ ⟨bc BK243 0, bc BK243 1, bc BK244 0, bc BK244 1⟩ (fun hHeld => ?_)
    clear hK K
    refine norm_ (a' := ?_) ?_ ?_
    rotate_left
    ·show Act.put _ (some 12) _ = _
     simp only [Act.put, List.setIfInBounds_toArray, List.set_cons_zero, List.set_cons_succ, i64_w, i32_w]
     rfl
    refine pure_ (i := 2) (N := some 13) (v := ?_) (a' := ?_) #[T, T, T, F, F, F, F, F, F, F, F, F, F, F, F, F, F, F] rfl rfl (any_of HT_.out (by kernel_rfl)) (fun _ _ _ h => h) (Or.inl ⟨by rfl, ?_⟩) ?_ ?_
    rotate_left
    ·exact gz
    rotate_left
    ·exact pz
    refine pure_ (i := 3) (N := some 14) (v := ?_) (a' := ?_) #[T, T, T, T, F, F, F, F, F, F, F, F, F, F, F, F, F, F] rfl rfl (any_of HT_.out (by kernel_rfl)) (fun _ _ _ h => h) (Or.inl ⟨by rfl, ?_⟩) ?_ ?_
    rotate_left
    ·exact gz
    rotate_left
    ·exact pz
    refine take_ (i := 4) (N := some 15) (v := ?_) (a' := ?_) #[T, T, T, T, T, F, F, F, F, F, F, F, F, F, F, F, F, F] rfl rfl (take_ofW HT_.out HW_.out (by kernel_rfl)) (fun _ _ _ h => h) (Or.inl ⟨by rfl, ?_⟩) hHeld ?_ ?_
    rotate_left
    ·rintro w' ⟨s0, s1, s2, s3⟩
     go_simp
     with_reducible rfl
    rotate_left
    ·exact pz
    refine one_ (i := 5) (N := some 16) #[T, T, T, T, T, T, F, F, F, F, F, F, F, F, F, F, F, F] rfl rfl (one_of HT_.out (by kernel_rfl)) (by decide) (fun K hK => ?_)
    refine goes_ Try.func117 (by kernel_rfl) rfl #[.agg #[.int .i64 a1_0, .int .i64 a1_1]] (by rfl) rfl rfl mz ?_
    with_reducible refine (spec_RangeOk.calls a1_0 a1_1 false _ A22.out).mono ?_
    rintro e w41 ⟨rfl, hb⟩
    refine ⟨_, rfl, ?_⟩
    have n0_ := am (blk_below (g := gb243) (o := b2 a0_0 a0_1 86) (Z BK243) hb)
    have n1_ := am (blk_below (g := gb244) (o := b2 a1_0 a1_1 86) (Z BK244) hb)
    have n2_ := am (blk_below (g := gb245) (o := b2 0 0 86) (Z BK245) hb)
    have n3_ := am (blk_below (g := gb248) (o := b2 t246 t247 86) (Z BK248) hb)
    have n4_ := am (below_step (Y4 HB GE243 GE244 GE245 GE248) hb)
    clear BK243
    clear BK244
    clear BK245
    clear BK248
    clear HB
    have BK243 := n0_
    have BK244 := n1_
    have BK245 := n2_
    have BK248 := n3_
    have HB := n4_
    clear n0_ n1_ n2_ n3_ n4_
    (try clear hb)
    (try clear hb2)
    (try clear hk)
    (try clear hi)
    refine hK.out _ _ ⟨bc BK243 0, bc BK243 1, bc BK244 0, bc BK244 1⟩ (fun hHeld => ?_)
    clear hK K
    refine norm_ (a' := ?_) ?_ ?_
    rotate_left
    ·show Act.put _ (some 16) _ = _
     simp only [Act.put, List.setIfInBounds_toArray, List.set_cons_zero, List.set_cons_succ, i64_w, i32_w]
     rfl
    refine pure_ (i := 6) (N := some 17) (v := ?_) (a' := ?_) #[T, T, T, T, T, T, T, F, F, F, F, F, F, F, F, F, F, F] rfl rfl (any_of HT_.out (by kernel_rfl)) (fun _ _ _ h => h) (Or.inl ⟨by rfl, ?_⟩) ?_ ?_
    rotate_left
    ·exact gz
    rotate_left
    ·exact pz
    refine pure_ (i := 7) (N := some 18) (v := ?_) (a' := ?_) #[T, T, T, T, T, T, T, T, F, F, F, F, F, F, F, F, F, F] rfl rfl (any_of HT_.out (by kernel_rfl)) (fun _ _ _ h => h) (Or.inl ⟨by rfl, ?_⟩) ?_ ?_
    rotate_left
    ·exact gz
    rotate_left
    ·exact pz
    refine pure_ (i := 8) (N := some 19) (v := ?_) (a' := ?_) #[T, T, T, T, T, T, T, T, T, F, F, F, F, F, F, F, F, F] rfl rfl (any_of HT_.out (by kernel_rfl)) (fun _ _ _ h => h) (Or.inl ⟨by rfl, ?_⟩) ?_ ?_
    rotate_left
    ·exact gz
    rotate_left
    ·exact pz
    refine pure_ (i := 9) (N := some 20) (v := undef) (a' := ?_) #[T, T, T, T, T, T, T, T, T, T, F, F, F, F, F, F, F, F] rfl rfl (any_of HT_.out (by kernel_rfl)) (fun _ _ _ h => h) (Or.inr ⟨by rfl, rfl⟩) ?_ ?_
    rotate_left
    ·exact pz
    refine pure_ (i := 10) (N := some 21) (v := undef) (a' := ?_) #[T, T, T, T, T, T, T, T, T, T, T, F, F, F, F, F, F, F] rfl rfl (any_of HT_.out (by kernel_rfl)) (fun _ _ _ h => h) (Or.inr ⟨by rfl, rfl⟩) ?_ ?_
    rotate_left
    ·exact pz
    refine pure_ (i := 11) (N := some 22) (v := undef) (a' := ?_) #[T, T, T, T, T, T, T, T, T, T, T, T, F, F, F, F, F, F] rfl rfl (any_of HT_.out (by kernel_rfl)) (fun _ _ _ h => h) (Or.inr ⟨by rfl, rfl⟩) ?_ ?_
    rotate_left
    ·exact pz
    refine pure_ (i := 12) (N := some 23) (v := ?_) (a' := ?_) #[T, T, T, T, T, T, T, T, T, T, T, T, T, F, F, F, F, F] rfl rfl (any_of HT_.out (by kernel_rfl)) (fun _ _ _ h => h) (Or.inl ⟨by rfl, ?_⟩) ?_ ?_
    rotate_left
    ·exact gz
    rotate_left
    ·exact pz
    refine pure_ (i := 13) (N := some 24) (v := ?_) (a' := ?_) #[T, T, T, T, T, T, T, T, T, T, T, T, T, T, F, F, F, F] rfl rfl (any_of HT_.out (by kernel_rfl)) (fun _ _ _ h => h) (Or.inl ⟨by rfl, ?_⟩) ?_ ?_
    rotate_left
    ·exact gz
    rotate_left
    ·exact pz
    refine pure_ (i := 14) (N := some 25) (v := undef) (a' := ?_) #[T, T, T, T, T, T, T, T, T, T, T, T, T, T, T, F, F, F] rfl rfl (any_of HT_.out (by kernel_rfl)) (fun _ _ _ h => h) (Or.inr ⟨by rfl, rfl⟩) ?_ ?_
    rotate_left
    ·exact pz
    refine pure_ (i := 15) (N := some 26) (v := undef) (a' := ?_) #[T, T, T, T, T, T, T, T, T, T, T, T, T, T, T, T, F, F] rfl rfl (any_of HT_.out (by kernel_rfl)) (fun _ _ _ h => h) (Or.inr ⟨by rfl, rfl⟩) ?_ ?_
    rotate_left
    ·exact pz
    refine pure_ (i := 16) (N := some 27) (v := undef) (a' := ?_) #[T, T, T, T, T, T, T, T, T, T, T, T, T, T, T, T, T, F] rfl rfl (any_of HT_.out (by kernel_rfl)) (fun _ _ _ h => h) (Or.inr ⟨by rfl, rfl⟩) ?_ ?_
    rotate_left
    ·exact pz
    refine pure_ (i := 17) (N := some 28) (v := ?_) (a' := ?_) #[T, T, T, T, T, T, T, T, T, T, T, T, T, T, T, T, T, T] rfl rfl (any_of HT_.out (by kernel_rfl)) (fun _ _ _ h => h) (Or.inl ⟨by rfl, ?_⟩) ?_ ?_
    rotate_left
    ·exact gz
    rotate_left
    ·exact pz
    refine done_ (done_of HT_.out (by kernel_rfl)) ?_
    try go_wp2
    go_meet
    case rel => exact ⟨_, (true), (by first | rfl | (simp; done) | (simp [*]; done)), H', ⟨by first | omega | exact Nat.le_refl _⟩, ⟨Z BK243⟩, ⟨Z BK244⟩, ⟨Z BK245⟩, ⟨Z BK248⟩, ⟨Y4 HB GE243 GE244 GE245 GE248⟩⟩
  ·replace c21 := Bool.eq_false_iff.mpr c21
   subst c21
   have H1 : (spec_RangeWiden.j0 k l2 true a0_0 a0_1 t246 t247) = some (r1, r2) := by rw [if_neg (show ¬ (false = true) by decide)] at H; exact H
   clear H
   have H := H1
   clear H1
   have H' := am H
   clear H
   try go_wp2
   have n0_ : Aside0 (((w15.setCell ⟨gb248, 0, none⟩ (.int .i64 t246)).setCell ⟨gb248, 1, none⟩ (.int .i64 t247)).heap[gb243]? = some (.cells #[.int .i64 a0_0, .int .i64 a0_1] 86 (0, 0))) := ⟨by (with_reducible repeat (first | refine blk_drewN ?_ _ | refine blk_drew ?_ | refine blk_alloc ?_ _)); refine blk_far ?_ NB243_248.out _; (with_reducible repeat (first | refine blk_drewN ?_ _ | refine blk_drew ?_ | refine blk_alloc ?_ _)); refine blk_far ?_ NB243_248.out _; (with_reducible repeat (first | refine blk_drewN ?_ _ | refine blk_drew ?_ | refine blk_alloc ?_ _)); exact BK243.out⟩
   have n1_ : Aside0 (((w15.setCell ⟨gb248, 0, none⟩ (.int .i64 t246)).setCell ⟨gb248, 1, none⟩ (.int .i64 t247)).heap[gb244]? = some (.cells #[.int .i64 a1_0, .int .i64 a1_1] 86 (0, 0))) := ⟨by (with_reducible repeat (first | refine blk_drewN ?_ _ | refine blk_drew ?_ | refine blk_alloc ?_ _)); refine blk_far ?_ NB244_248.out _; (with_reducible repeat (first | refine blk_drewN ?_ _ | refine blk_drew ?_ | refine blk_alloc ?_ _)); refine blk_far ?_ NB244_248.out _; (with_reducible repeat (first | refine blk_drewN ?_ _ | refine blk_drew ?_ | refine blk_alloc ?_ _)); exact BK244.out⟩
   have n2_ : Aside0 (((w15.setCell ⟨gb248, 0, none⟩ (.int .i64 t246)).setCell ⟨gb248, 1, none⟩ (.int .i64 t247)).heap[gb245]? = some (.cells #[.int .i64 0, .int .i64 0] 86 (0, 0))) := ⟨by (with_reducible repeat (first | refine blk_drewN ?_ _ | refine blk_drew ?_ | refine blk_alloc ?_ _)); refine blk_far ?_ NB245_248.out _; (with_reducible repeat (first | refine blk_drewN ?_ _ | refine blk_drew ?_ | refine blk_alloc ?_ _)); refine blk_far ?_ NB245_248.out _; (with_reducible repeat (first | refine blk_drewN ?_ _ | refine blk_drew ?_ | refine blk_alloc ?_ _)); exact BK245.out⟩
   have n3_ : Aside0 (((w15.setCell ⟨gb248, 0, none⟩ (.int .i64 t246)).setCell ⟨gb248, 1, none⟩ (.int .i64 t247)).heap[gb248]? = some (.cells #[.int .i64 t246, .int .i64 t247] 86 (0, 0))) := ⟨by (with_reducible repeat (first | refine blk_drewN ?_ _ | refine blk_drew ?_ | refine blk_alloc ?_ _)); refine blk_put (cs := #[.int .i64 t246, .int .i64 0]) ?_ 1 _ rfl; (with_reducible repeat (first | refine blk_drewN ?_ _ | refine blk_drew ?_ | refine blk_alloc ?_ _)); refine blk_put (cs := #[.int .i64 0, .int .i64 0]) ?_ 0 _ rfl; (with_reducible repeat (first | refine blk_drewN ?_ _ | refine blk_drew ?_ | refine blk_alloc ?_ _)); exact BK248.out⟩
   have n4_ : Aside0 (Below w.heap.size w ((w15.setCell ⟨gb248, 0, none⟩ (.int .i64 t246)).setCell ⟨gb248, 1, none⟩ (.int .i64 t247))) := ⟨Y4 HB GE243 GE244 GE245 GE248⟩
   (try clear BK243)
   (try clear BK244)
   (try clear BK245)
   (try clear BK248)
   (try clear HB)
   generalize ((w15.setCell ⟨gb248, 0, none⟩ (.int .i64 t246)).setCell ⟨gb248, 1, none⟩ (.int .i64 t247)) = w42 at n0_ n1_ n2_ n3_ n4_ ⊢
   have BK243 := n0_
   have BK244 := n1_
   have BK245 := n2_
   have BK248 := n3_
   have HB := n4_
   clear n0_ n1_ n2_ n3_ n4_
   have n0_ := am (blk_drew BK243.out)
   have n1_ := am (blk_drew BK244.out)
   have n2_ := am (blk_drew BK245.out)
   have n3_ := am (blk_drew BK248.out)
   have n4_ := am (below_drew1 HB.out)
   clear BK243
   clear BK244
   clear BK245
   clear BK248
   clear HB
   have BK243 := n0_
   have BK244 := n1_
   have BK245 := n2_
   have BK248 := n3_
   have HB := n4_
   clear n0_ n1_ n2_ n3_ n4_
   refine start_ (n := 18) (S := fun w' => w'.cell? ⟨gb243, 0, none⟩ = some (.int .i64 a0_0) ∧ w'.cell? ⟨gb243, 1, none⟩ = some (.int .i64 a0_1)) (ds := []) #[F, F, F, F, F, F, F, F, F, F, F, F, F, F, F, F, F, F] (by kernel_rfl) rfl rfl ⟨bc BK243 0, bc BK243 1⟩ (fun hHeld => ?_); refine with_tabW spec_RangeWiden.tab2 spec_RangeWiden.bits2 (fun HT_ HW_ => ?_)
   generalize w42.drew = w43 at BK243 BK244 BK245 BK248 HB hHeld ⊢
   refine take_ (i := 0) (N := some 11) (v := ?_) (a' := ?_) #[T, F, F, F, F, F, F, F, F, F, F, F, F, F, F, F, F, F] rfl rfl (take_ofW HT_.out HW_.out (by kernel_rfl)) (fun _ _ _ h => h) (Or.inl ⟨by rfl, ?_⟩) hHeld ?_ ?_
   rotate_left
   ·rintro w' ⟨s0, s1⟩
    go_simp
    with_reducible rfl
   rotate_left
   ·exact pz
   refine one_ (i := 1) (N := some 12) #[T, T, F, F, F, F, F, F, F, F, F, F, F, F, F, F, F, F] rfl rfl (one_of HT_.out (by kernel_rfl)) (by decide) (fun K hK => ?_)
   refine goes_ Try.func117 (by kernel_rfl) rfl #[.agg #[.int .i64 a0_0, .int .i64 a0_1]] (by rfl) rfl rfl mz ?_
   with_reducible refine (spec_RangeOk.calls a0_0 a0_1 false _ A20.out).mono ?_
   rintro e w44 ⟨rfl, hb⟩
   refine ⟨_, rfl, ?_⟩
   have n0_ := am (blk_below (g := gb243) (o := b2 a0_0 a0_1 86) (Z BK243) hb)
   have n1_ := am (blk_below (g := gb244) (o := b2 a1_0 a1_1 86) (Z BK244) hb)
   have n2_ := am (blk_below (g := gb245) (o := b2 0 0 86) (Z BK245) hb)
   have n3_ := am (blk_below (g := gb248) (o := b2 t246 t247 86) (Z BK248) hb)
   have n4_ := am (below_step (Y4 HB GE243 GE244 GE245 GE248) hb)
   clear BK243
   clear BK244
   clear BK245
   clear BK248
   clear HB
   have BK243 := n0_
   have BK244 := n1_
   have BK245 := n2_
   have BK248 := n3_
   have HB := n4_
   clear n0_ n1_ n2_ n3_ n4_
   (try clear hb)
   (try clear hb2)
   (try clear hk)
   (try clear hi)
   refine hK.out _ _ ⟨bc BK243 0, bc BK243 1⟩ (fun hHeld => ?_)
   clear hK K
   refine norm_ (a' := ?_) ?_ ?_
   rotate_left
   ·show Act.put _ (some 12) _ = _
    simp only [Act.put, List.setIfInBounds_toArray, List.set_cons_zero, List.set_cons_succ, i64_w, i32_w]
    rfl
   refine pure_ (i := 2) (N := some 13) (v := ?_) (a' := ?_) #[T, T, T, F, F, F, F, F, F, F, F, F, F, F, F, F, F, F] rfl rfl (any_of HT_.out (by kernel_rfl)) (fun _ _ _ h => h) (Or.inl ⟨by rfl, ?_⟩) ?_ ?_
   rotate_left
   ·exact gz
   rotate_left
   ·exact pz
   refine pure_ (i := 3) (N := some 14) (v := ?_) (a' := ?_) #[T, T, T, T, F, F, F, F, F, F, F, F, F, F, F, F, F, F] rfl rfl (any_of HT_.out (by kernel_rfl)) (fun _ _ _ h => h) (Or.inl ⟨by rfl, ?_⟩) ?_ ?_
   rotate_left
   ·exact gz
   rotate_left
   ·exact pz
   refine pure_ (i := 4) (N := some 15) (v := undef) (a' := ?_) #[T, T, T, T, T, F, F, F, F, F, F, F, F, F, F, F, F, F] rfl rfl (any_of HT_.out (by kernel_rfl)) (fun _ _ _ h => h) (Or.inr ⟨by rfl, rfl⟩) ?_ ?_
   rotate_left
   ·exact pz
   refine pure_ (i := 5) (N := some 16) (v := undef) (a' := ?_) #[T, T, T, T, T, T, F, F, F, F, F, F, F, F, F, F, F, F] rfl rfl (any_of HT_.out (by kernel_rfl)) (fun _ _ _ h => h) (Or.inr ⟨by rfl, rfl⟩) ?_ ?_
   rotate_left
   ·exact pz
   refine pure_ (i := 6) (N := some 17) (v := undef) (a' := ?_) #[T, T, T, T, T, T, T, F, F, F, F, F, F, F, F, F, F, F] rfl rfl (any_of HT_.out (by kernel_rfl)) (fun _ _ _ h => h) (Or.inr ⟨by rfl, rfl⟩) ?_ ?_
   rotate_left
   ·exact pz
   refine pure_ (i := 7) (N := some 18) (v := ?_) (a' := ?_) #[T, T, T, T, T, T, T, T, F, F, F, F, F, F, F, F, F, F] rfl rfl (any_of HT_.out (by kernel_rfl)) (fun _ _ _ h => h) (Or.inl ⟨by rfl, ?_⟩) ?_ ?_
   rotate_left
   ·exact gz
   rotate_left
   ·exact pz
   refine pure_ (i := 8) (N := some 19) (v := ?_) (a' := ?_) #[T, T, T, T, T, T, T, T, T, F, F, F, F, F, F, F, F, F] rfl rfl (any_of HT_.out (by kernel_rfl)) (fun _ _ _ h => h) (Or.inl ⟨by rfl, ?_⟩) ?_ ?_
   rotate_left
   ·exact gz
   rotate_left
   ·exact pz
   refine pure_ (i := 9) (N := some 20) (v := undef) (a' := ?_) #[T, T, T, T, T, T, T, T, T, T, F, F, F, F, F, F, F, F] rfl rfl (any_of HT_.out (by kernel_rfl)) (fun _ _ _ h => h) (Or.inr ⟨by rfl, rfl⟩) ?_ ?_
   rotate_left
   ·exact pz
   refine pure_ (i := 10) (N := some 21) (v := undef) (a' := ?_) #[T, T, T, T, T, T, T, T, T, T, T, F, F, F, F, F, F, F] rfl rfl (any_of HT_.out (by kernel_rfl)) (fun _ _ _ h => h) (Or.inr ⟨by rfl, rfl⟩) ?_ ?_
   rotate_left
   ·exact pz
   refine pure_ (i := 11) (N := some 22) (v := undef) (a' := ?_) #[T, T, T, T, T, T, T, T, T, T, T, T, F, F, F, F, F, F] rfl rfl (any_of HT_.out (by kernel_rfl)) (fun _ _ _ h => h) (Or.inr ⟨by rfl, rfl⟩) ?_ ?_
   rotate_left
   ·exact pz
   refine pure_ (i := 12) (N := some 23) (v := ?_) (a' := ?_) #[T, T, T, T, T, T, T, T, T, T, T, T, T, F, F, F, F, F] rfl rfl (any_of HT_.out (by kernel_rfl)) (fun _ _ _ h => h) (Or.inl ⟨by rfl, ?_⟩) ?_ ?_
   rotate_left
   ·exact gz
   rotate_left
   ·exact pz
   refine pure_ (i := 13) (N := some 24) (v := ?_) (a' := ?_) #[T, T, T, T, T, T, T, T, T, T, T, T, T, T, F, F, F, F] rfl rfl (any_of HT_.out (by kernel_rfl)) (fun _ _ _ h => h) (Or.inl ⟨by rfl, ?_⟩) ?_ ?_
   rotate_left
   ·exact gz
   rotate_left
   ·exact pz
   refine pure_ (i := 14) (N := some 25) (v := undef) (a' := ?_) #[T, T, T, T, T, T, T, T, T, T, T, T, T, T, T, F, F, F] rfl rfl (any_of HT_.out (by kernel_rfl)) (fun _ _ _ h => h) (Or.inr ⟨by rfl, rfl⟩) ?_ ?_
   rotate_left
   ·exact pz
   refine pure_ (i := 15) (N := some 26) (v := undef) (a' := ?_) #[T, T, T, T, T, T, T, T, T, T, T, T, T, T, T, T, F, F] rfl rfl (any_of HT_.out (by kernel_rfl)) (fun _ _ _ h => h) (Or.inr ⟨by rfl, rfl⟩) ?_ ?_
   rotate_left
   ·exact pz
   refine pure_ (i := 16) (N := some 27) (v := undef) (a' := ?_) #[T, T, T, T, T, T, T, T, T, T, T, T, T, T, T, T, T, F] rfl rfl (any_of HT_.out (by kernel_rfl)) (fun _ _ _ h => h) (Or.inr ⟨by rfl, rfl⟩) ?_ ?_
   rotate_left
   ·exact pz
   refine pure_ (i := 17) (N := some 28) (v := ?_) (a' := ?_) #[T, T, T, T, T, T, T, T, T, T, T, T, T, T, T, T, T, T] rfl rfl (any_of HT_.out (by kernel_rfl)) (fun _ _ _ h => h) (Or.inl ⟨by rfl, ?_⟩) ?_ ?_
   rotate_left
   ·exact gz
   rotate_left
   ·exact pz
   refine done_ (done_of HT_.out (by kernel_rfl)) ?_
   try go_wp2
   go_meet
   case rel => exact ⟨_, (true), (by first | rfl | (simp; done) | (simp [*]; done)), H', ⟨by first | omega | exact Nat.le_refl _⟩, ⟨Z BK243⟩, ⟨Z BK244⟩, ⟨Z BK245⟩, ⟨Z BK248⟩, ⟨Y4 HB GE243 GE244 GE245 GE248⟩⟩
 case rest =>
  clear HC5
  try clear c1
  try clear c2
  try clear p2
  try clear c11
  try clear c12
  try clear c21
  try clear c23
  obtain ⟨kq, x28_4, rfl, HA, HJ4, BK243, BK244, BK245, BK248, HB⟩ := hcut
  cases kq with
  | zero => exact absurd HA.out (by simp [spec_RangeWiden.j0])
  | succ kj4 =>
   have H := HA.out
   clear HA
   simp only [spec_RangeWiden.j0] at H
   by_cases c45 : x28_4 = true
   ·subst c45
    have H1 : (some (t246, t247)) = some (r1, r2) := by rw [if_pos rfl] at H; exact H
    clear H
    have H := H1
    clear H1
    simp only [Option.some.injEq, Prod.mk.injEq] at H
    obtain ⟨rfl, rfl⟩ := H
    have hnb46 := NB248_243.out
    have hnc46 := NB243_248.out
    have hnb47 := NB248_244.out
    have hnc47 := NB244_248.out
    have hnb48 := NB248_245.out
    have hnc48 := NB245_248.out
    have hcz49_0 : wc.cell? ⟨gb248, 0, none⟩ = some (.int .i64 t246) := bc BK248 0
    have hcz49_1 : wc.cell? ⟨gb248, 1, none⟩ = some (.int .i64 t247) := bc BK248 1
    have hfz49_0 := blk_frozen BK248.out 0
    have hfz49_1 := blk_frozen BK248.out 1
    have hnb50 := NB245_243.out
    have hnc50 := NB243_245.out
    have hnb51 := NB245_244.out
    have hnc51 := NB244_245.out
    have hcz52_0 : wc.cell? ⟨gb245, 0, none⟩ = some (.int .i64 0) := bc BK245 0
    have hcz52_1 : wc.cell? ⟨gb245, 1, none⟩ = some (.int .i64 0) := bc BK245 1
    have hfz52_0 := blk_frozen BK245.out 0
    have hfz52_1 := blk_frozen BK245.out 1
    go_wp2
    refine bodyPost_ret (results_cell_row rfl _ _ gb245 86 #[.int .i64 t246, .int .i64 t247] (0, 0) _ rfl (by (with_reducible repeat (first | refine blk_drewN ?_ _ | refine blk_drew ?_ | refine blk_alloc ?_ _)); refine blk_put (cs := #[.int .i64 t246, .int .i64 0]) ?_ 1 _ rfl; (with_reducible repeat (first | refine blk_drewN ?_ _ | refine blk_drew ?_ | refine blk_alloc ?_ _)); refine blk_put (cs := #[.int .i64 0, .int .i64 0]) ?_ 0 _ rfl; (with_reducible repeat (first | refine blk_drewN ?_ _ | refine blk_drew ?_ | refine blk_alloc ?_ _)); exact BK245.out) Try.underlying86 rfl (by kernel_rfl)) rfl ?_
    exact ⟨by first | rfl | (simp [errW_none, errW_some] <;> rfl) | (simp [*, errW_none, errW_some] <;> rfl), Y4 HB GE243 GE244 GE245 GE248⟩
   ·replace c45 := Bool.eq_false_iff.mpr c45
    subst c45
    have H1 : (if t246 < a0_0 then ((spec_l8Down.f kj4 l2 t246).bind fun t255 => (if t247 > a0_1 then ((spec_l8Up.f kj4 l2 t247).bind fun t256 => (some (t255, t256))) else (some (t255, t247)))) else (if t247 > a0_1 then ((spec_l8Up.f kj4 l2 t247).bind fun t257 => (some (t246, t257))) else (some (t246, t247)))) = some (r1, r2) := by rw [if_neg (show ¬ (false = true) by decide)] at H; exact H
    clear H
    have H := H1
    clear H1
    by_cases c53 : t246 < a0_0
    ·rw [if_pos c53] at H
     have c53b0 : decide (t246 < a0_0) = true := decide_eq_true c53
     clear c53
     replace H := Option.bind_eq_some_iff.mp H
     obtain ⟨t255, A540, H⟩ := H
     replace H : (if t247 > a0_1 then ((spec_l8Up.f kj4 l2 t247).bind fun t256 => (some (t255, t256))) else (some (t255, t247))) = some (r1, r2) := H
     have A54 := am A540
     clear A540
     by_cases c55 : t247 > a0_1
     ·rw [if_pos c55] at H
      have c55b0 : decide (a0_1 < t247) = true := decide_eq_true c55
      clear c55
      replace H := Option.bind_eq_some_iff.mp H
      obtain ⟨t256, A560, H⟩ := H
      replace H : (some (t255, t256)) = some (r1, r2) := H
      have A56 := am A560
      clear A560
      simp only [Option.some.injEq, Prod.mk.injEq] at H
      obtain ⟨rfl, rfl⟩ := H
      have hnb57 := NB248_243.out
      have hnc57 := NB243_248.out
      have hnb58 := NB248_244.out
      have hnc58 := NB244_248.out
      have hnb59 := NB248_245.out
      have hnc59 := NB245_248.out
      have hcz60_0 : wc.cell? ⟨gb248, 0, none⟩ = some (.int .i64 t246) := bc BK248 0
      have hcz60_1 : wc.cell? ⟨gb248, 1, none⟩ = some (.int .i64 t247) := bc BK248 1
      have hfz60_0 := blk_frozen BK248.out 0
      have hfz60_1 := blk_frozen BK248.out 1
      have hnb61 := NB243_244.out
      have hnc61 := NB244_243.out
      have hnb62 := NB243_245.out
      have hnc62 := NB245_243.out
      have hcz63_0 : wc.cell? ⟨gb243, 0, none⟩ = some (.int .i64 a0_0) := bc BK243 0
      have hcz63_1 : wc.cell? ⟨gb243, 1, none⟩ = some (.int .i64 a0_1) := bc BK243 1
      have hfz63_0 := blk_frozen BK243.out 0
      have hfz63_1 := blk_frozen BK243.out 1
      go_wp2_with (first | ((with_reducible refine gate_callee (f := 138) rfl ?_); refine goesL_ (some 38) rfl rfl Try.func138 (by kernel_rfl) rfl #[.slice A2 l2.length c2, .int .i64 t246] rfl mz ?_; (with_reducible refine (spec_l8Down.calls kj4 _ _ l2 t246 t255 _ ?side1 ?side2 A54.out).mono ?_); (case side1 => repeat (first | exact (Kd.C_below HR2.out HB.out) | (with_reducible refine Kd.C_alloc ?_ _) | (with_reducible refine Kd.C_drewN ?_ _) | (with_reducible refine Kd.C_drew ?_))); (case side2 => exact HC2.out); rintro e w' ⟨rfl, ⟨nd, rfl⟩⟩; refine ⟨_, rfl, ?_⟩; (try (rw [drewN_self wc]; generalize hq_ : World.drewN wc _ = wc; have n0_ : Aside0 (wc.heap[gb243]? = some (.cells #[.int .i64 a0_0, .int .i64 a0_1] 86 (0, 0))) := ⟨by rw [← hq_]; exact (Z BK243)⟩; have n1_ : Aside0 (wc.heap[gb244]? = some (.cells #[.int .i64 a1_0, .int .i64 a1_1] 86 (0, 0))) := ⟨by rw [← hq_]; exact (Z BK244)⟩; have n2_ : Aside0 (wc.heap[gb245]? = some (.cells #[.int .i64 0, .int .i64 0] 86 (0, 0))) := ⟨by rw [← hq_]; exact (Z BK245)⟩; have n3_ : Aside0 (wc.heap[gb248]? = some (.cells #[.int .i64 t246, .int .i64 t247] 86 (0, 0))) := ⟨by rw [← hq_]; exact (Z BK248)⟩; have n4_ : Aside0 (Below w.heap.size w wc) := ⟨by rw [← hq_]; exact (Y4 HB GE243 GE244 GE245 GE248)⟩; clear BK243 BK244 BK245 BK248 HB hq_; have BK243 := n0_; have BK244 := n1_; have BK245 := n2_; have BK248 := n3_; have HB := n4_; clear n0_ n1_ n2_ n3_ n4_; (try have hcz60_0 : wc.cell? ⟨gb248, 0, none⟩ = some (.int .i64 t246) := bc BK248 0); (try have hcz60_1 : wc.cell? ⟨gb248, 1, none⟩ = some (.int .i64 t247) := bc BK248 1); (try have hfz60_0 := blk_frozen BK248.out 0); (try have hfz60_1 := blk_frozen BK248.out 1); (try have hcz63_0 : wc.cell? ⟨gb243, 0, none⟩ = some (.int .i64 a0_0) := bc BK243 0); (try have hcz63_1 : wc.cell? ⟨gb243, 1, none⟩ = some (.int .i64 a0_1) := bc BK243 1); (try have hfz63_0 := blk_frozen BK243.out 0); (try have hfz63_1 := blk_frozen BK243.out 1)))) | ((with_reducible refine gate_callee (f := 139) rfl ?_); refine goesL_ (some 48) rfl rfl Try.func139 (by kernel_rfl) rfl #[.slice A2 l2.length c2, .int .i64 t247] rfl mz ?_; (with_reducible refine (spec_l8Up.calls kj4 _ _ l2 t247 t256 _ ?side1 ?side2 A56.out).mono ?_); (case side1 => exact Kd.C_below HR2.out (Y4 HB GE243 GE244 GE245 GE248)); (case side2 => exact HC2.out); rintro e w' ⟨rfl, ⟨nd, rfl⟩⟩; refine ⟨_, rfl, ?_⟩; have hnb64 := NB245_244.out; have hnc64 := NB244_245.out; have hcz65_0 : wc.cell? ⟨gb245, 0, none⟩ = some (.int .i64 0) := bc BK245 0; have hcz65_1 : wc.cell? ⟨gb245, 1, none⟩ = some (.int .i64 0) := bc BK245 1; have hfz65_0 := blk_frozen BK245.out 0; have hfz65_1 := blk_frozen BK245.out 1))
      refine bodyPost_ret (results_cell_row rfl _ _ gb245 86 #[.int .i64 t255, .int .i64 t256] (0, 0) _ rfl (by (with_reducible repeat (first | refine blk_drewN ?_ _ | refine blk_drew ?_ | refine blk_alloc ?_ _)); refine blk_put (cs := #[.int .i64 t255, .int .i64 0]) ?_ 1 _ rfl; (with_reducible repeat (first | refine blk_drewN ?_ _ | refine blk_drew ?_ | refine blk_alloc ?_ _)); refine blk_put (cs := #[.int .i64 0, .int .i64 0]) ?_ 0 _ rfl; (with_reducible repeat (first | refine blk_drewN ?_ _ | refine blk_drew ?_ | refine blk_alloc ?_ _)); refine blk_far ?_ NB245_248.out _; (with_reducible repeat (first | refine blk_drewN ?_ _ | refine blk_drew ?_ | refine blk_alloc ?_ _)); refine blk_far ?_ NB245_248.out _; (with_reducible repeat (first | refine blk_drewN ?_ _ | refine blk_drew ?_ | refine blk_alloc ?_ _)); exact BK245.out) Try.underlying86 rfl (by kernel_rfl)) rfl ?_
      exact ⟨by first | rfl | (simp [errW_none, errW_some] <;> rfl) | (simp [*, errW_none, errW_some] <;> rfl), Y4 HB GE243 GE244 GE245 GE248⟩
     ·rw [if_neg c55] at H
      have c55b0 : decide (a0_1 < t247) = false := decide_eq_false c55
      clear c55
      simp only [Option.some.injEq, Prod.mk.injEq] at H
      obtain ⟨rfl, rfl⟩ := H
      have hnb66 := NB248_243.out
      have hnc66 := NB243_248.out
      have hnb67 := NB248_244.out
      have hnc67 := NB244_248.out
      have hnb68 := NB248_245.out
      have hnc68 := NB245_248.out
      have hcz69_0 : wc.cell? ⟨gb248, 0, none⟩ = some (.int .i64 t246) := bc BK248 0
      have hcz69_1 : wc.cell? ⟨gb248, 1, none⟩ = some (.int .i64 t247) := bc BK248 1
      have hfz69_0 := blk_frozen BK248.out 0
      have hfz69_1 := blk_frozen BK248.out 1
      have hnb70 := NB243_244.out
      have hnc70 := NB244_243.out
      have hnb71 := NB243_245.out
      have hnc71 := NB245_243.out
      have hcz72_0 : wc.cell? ⟨gb243, 0, none⟩ = some (.int .i64 a0_0) := bc BK243 0
      have hcz72_1 : wc.cell? ⟨gb243, 1, none⟩ = some (.int .i64 a0_1) := bc BK243 1
      have hfz72_0 := blk_frozen BK243.out 0
      have hfz72_1 := blk_frozen BK243.out 1
      go_wp2_with (first | ((with_reducible refine gate_callee (f := 138) rfl ?_); refine goesL_ (some 38) rfl rfl Try.func138 (by kernel_rfl) rfl #[.slice A2 l2.length c2, .int .i64 t246] rfl mz ?_; (with_reducible refine (spec_l8Down.calls kj4 _ _ l2 t246 t255 _ ?side1 ?side2 A54.out).mono ?_); (case side1 => repeat (first | exact (Kd.C_below HR2.out HB.out) | (with_reducible refine Kd.C_alloc ?_ _) | (with_reducible refine Kd.C_drewN ?_ _) | (with_reducible refine Kd.C_drew ?_))); (case side2 => exact HC2.out); rintro e w' ⟨rfl, ⟨nd, rfl⟩⟩; refine ⟨_, rfl, ?_⟩; (try (rw [drewN_self wc]; generalize hq_ : World.drewN wc _ = wc; have n0_ : Aside0 (wc.heap[gb243]? = some (.cells #[.int .i64 a0_0, .int .i64 a0_1] 86 (0, 0))) := ⟨by rw [← hq_]; exact (Z BK243)⟩; have n1_ : Aside0 (wc.heap[gb244]? = some (.cells #[.int .i64 a1_0, .int .i64 a1_1] 86 (0, 0))) := ⟨by rw [← hq_]; exact (Z BK244)⟩; have n2_ : Aside0 (wc.heap[gb245]? = some (.cells #[.int .i64 0, .int .i64 0] 86 (0, 0))) := ⟨by rw [← hq_]; exact (Z BK245)⟩; have n3_ : Aside0 (wc.heap[gb248]? = some (.cells #[.int .i64 t246, .int .i64 t247] 86 (0, 0))) := ⟨by rw [← hq_]; exact (Z BK248)⟩; have n4_ : Aside0 (Below w.heap.size w wc) := ⟨by rw [← hq_]; exact (Y4 HB GE243 GE244 GE245 GE248)⟩; clear BK243 BK244 BK245 BK248 HB hq_; have BK243 := n0_; have BK244 := n1_; have BK245 := n2_; have BK248 := n3_; have HB := n4_; clear n0_ n1_ n2_ n3_ n4_; (try have hcz69_0 : wc.cell? ⟨gb248, 0, none⟩ = some (.int .i64 t246) := bc BK248 0); (try have hcz69_1 : wc.cell? ⟨gb248, 1, none⟩ = some (.int .i64 t247) := bc BK248 1); (try have hfz69_0 := blk_frozen BK248.out 0); (try have hfz69_1 := blk_frozen BK248.out 1); (try have hcz72_0 : wc.cell? ⟨gb243, 0, none⟩ = some (.int .i64 a0_0) := bc BK243 0); (try have hcz72_1 : wc.cell? ⟨gb243, 1, none⟩ = some (.int .i64 a0_1) := bc BK243 1); (try have hfz72_0 := blk_frozen BK243.out 0); (try have hfz72_1 := blk_frozen BK243.out 1))); have hnb73 := NB245_244.out; have hnc73 := NB244_245.out; have hcz74_0 : wc.cell? ⟨gb245, 0, none⟩ = some (.int .i64 0) := bc BK245 0; have hcz74_1 : wc.cell? ⟨gb245, 1, none⟩ = some (.int .i64 0) := bc BK245 1; have hfz74_0 := blk_frozen BK245.out 0; have hfz74_1 := blk_frozen BK245.out 1))
      refine bodyPost_ret (results_cell_row rfl _ _ gb245 86 #[.int .i64 t255, .int .i64 t247] (0, 0) _ rfl (by (with_reducible repeat (first | refine blk_drewN ?_ _ | refine blk_drew ?_ | refine blk_alloc ?_ _)); refine blk_put (cs := #[.int .i64 t255, .int .i64 0]) ?_ 1 _ rfl; (with_reducible repeat (first | refine blk_drewN ?_ _ | refine blk_drew ?_ | refine blk_alloc ?_ _)); refine blk_put (cs := #[.int .i64 0, .int .i64 0]) ?_ 0 _ rfl; (with_reducible repeat (first | refine blk_drewN ?_ _ | refine blk_drew ?_ | refine blk_alloc ?_ _)); refine blk_far ?_ NB245_248.out _; (with_reducible repeat (first | refine blk_drewN ?_ _ | refine blk_drew ?_ | refine blk_alloc ?_ _)); exact BK245.out) Try.underlying86 rfl (by kernel_rfl)) rfl ?_
      exact ⟨by first | rfl | (simp [errW_none, errW_some] <;> rfl) | (simp [*, errW_none, errW_some] <;> rfl), Y4 HB GE243 GE244 GE245 GE248⟩
    ·rw [if_neg c53] at H
     have c53b0 : decide (t246 < a0_0) = false := decide_eq_false c53
     clear c53
     by_cases c75 : t247 > a0_1
     ·rw [if_pos c75] at H
      have c75b0 : decide (a0_1 < t247) = true := decide_eq_true c75
      clear c75
      replace H := Option.bind_eq_some_iff.mp H
      obtain ⟨t257, A760, H⟩ := H
      replace H : (some (t246, t257)) = some (r1, r2) := H
      have A76 := am A760
      clear A760
      simp only [Option.some.injEq, Prod.mk.injEq] at H
      obtain ⟨rfl, rfl⟩ := H
      have hnb77 := NB248_243.out
      have hnc77 := NB243_248.out
      have hnb78 := NB248_244.out
      have hnc78 := NB244_248.out
      have hnb79 := NB248_245.out
      have hnc79 := NB245_248.out
      have hcz80_0 : wc.cell? ⟨gb248, 0, none⟩ = some (.int .i64 t246) := bc BK248 0
      have hcz80_1 : wc.cell? ⟨gb248, 1, none⟩ = some (.int .i64 t247) := bc BK248 1
      have hfz80_0 := blk_frozen BK248.out 0
      have hfz80_1 := blk_frozen BK248.out 1
      have hnb81 := NB243_244.out
      have hnc81 := NB244_243.out
      have hnb82 := NB243_245.out
      have hnc82 := NB245_243.out
      have hcz83_0 : wc.cell? ⟨gb243, 0, none⟩ = some (.int .i64 a0_0) := bc BK243 0
      have hcz83_1 : wc.cell? ⟨gb243, 1, none⟩ = some (.int .i64 a0_1) := bc BK243 1
      have hfz83_0 := blk_frozen BK243.out 0
      have hfz83_1 := blk_frozen BK243.out 1
      go_wp2_with (first | ((with_reducible refine gate_callee (f := 139) rfl ?_); refine goesL_ (some 48) rfl rfl Try.func139 (by kernel_rfl) rfl #[.slice A2 l2.length c2, .int .i64 t247] rfl mz ?_; (with_reducible refine (spec_l8Up.calls kj4 _ _ l2 t247 t257 _ ?side1 ?side2 A76.out).mono ?_); (case side1 => repeat (first | exact (Kd.C_below HR2.out HB.out) | (with_reducible refine Kd.C_alloc ?_ _) | (with_reducible refine Kd.C_drewN ?_ _) | (with_reducible refine Kd.C_drew ?_))); (case side2 => exact HC2.out); rintro e w' ⟨rfl, ⟨nd, rfl⟩⟩; refine ⟨_, rfl, ?_⟩; (try (rw [drewN_self wc]; generalize hq_ : World.drewN wc _ = wc; have n0_ : Aside0 (wc.heap[gb243]? = some (.cells #[.int .i64 a0_0, .int .i64 a0_1] 86 (0, 0))) := ⟨by rw [← hq_]; exact (Z BK243)⟩; have n1_ : Aside0 (wc.heap[gb244]? = some (.cells #[.int .i64 a1_0, .int .i64 a1_1] 86 (0, 0))) := ⟨by rw [← hq_]; exact (Z BK244)⟩; have n2_ : Aside0 (wc.heap[gb245]? = some (.cells #[.int .i64 0, .int .i64 0] 86 (0, 0))) := ⟨by rw [← hq_]; exact (Z BK245)⟩; have n3_ : Aside0 (wc.heap[gb248]? = some (.cells #[.int .i64 t246, .int .i64 t247] 86 (0, 0))) := ⟨by rw [← hq_]; exact (Z BK248)⟩; have n4_ : Aside0 (Below w.heap.size w wc) := ⟨by rw [← hq_]; exact (Y4 HB GE243 GE244 GE245 GE248)⟩; clear BK243 BK244 BK245 BK248 HB hq_; have BK243 := n0_; have BK244 := n1_; have BK245 := n2_; have BK248 := n3_; have HB := n4_; clear n0_ n1_ n2_ n3_ n4_; (try have hcz80_0 : wc.cell? ⟨gb248, 0, none⟩ = some (.int .i64 t246) := bc BK248 0); (try have hcz80_1 : wc.cell? ⟨gb248, 1, none⟩ = some (.int .i64 t247) := bc BK248 1); (try have hfz80_0 := blk_frozen BK248.out 0); (try have hfz80_1 := blk_frozen BK248.out 1); (try have hcz83_0 : wc.cell? ⟨gb243, 0, none⟩ = some (.int .i64 a0_0) := bc BK243 0); (try have hcz83_1 : wc.cell? ⟨gb243, 1, none⟩ = some (.int .i64 a0_1) := bc BK243 1); (try have hfz83_0 := blk_frozen BK243.out 0); (try have hfz83_1 := blk_frozen BK243.out 1))); have hnb84 := NB245_244.out; have hnc84 := NB244_245.out; have hcz85_0 : wc.cell? ⟨gb245, 0, none⟩ = some (.int .i64 0) := bc BK245 0; have hcz85_1 : wc.cell? ⟨gb245, 1, none⟩ = some (.int .i64 0) := bc BK245 1; have hfz85_0 := blk_frozen BK245.out 0; have hfz85_1 := blk_frozen BK245.out 1))
      refine bodyPost_ret (results_cell_row rfl _ _ gb245 86 #[.int .i64 t246, .int .i64 t257] (0, 0) _ rfl (by (with_reducible repeat (first | refine blk_drewN ?_ _ | refine blk_drew ?_ | refine blk_alloc ?_ _)); refine blk_put (cs := #[.int .i64 t246, .int .i64 0]) ?_ 1 _ rfl; (with_reducible repeat (first | refine blk_drewN ?_ _ | refine blk_drew ?_ | refine blk_alloc ?_ _)); refine blk_put (cs := #[.int .i64 0, .int .i64 0]) ?_ 0 _ rfl; (with_reducible repeat (first | refine blk_drewN ?_ _ | refine blk_drew ?_ | refine blk_alloc ?_ _)); refine blk_far ?_ NB245_248.out _; (with_reducible repeat (first | refine blk_drewN ?_ _ | refine blk_drew ?_ | refine blk_alloc ?_ _)); exact BK245.out) Try.underlying86 rfl (by kernel_rfl)) rfl ?_
      exact ⟨by first | rfl | (simp [errW_none, errW_some] <;> rfl) | (simp [*, errW_none, errW_some] <;> rfl), Y4 HB GE243 GE244 GE245 GE248⟩
     ·rw [if_neg c75] at H
      have c75b0 : decide (a0_1 < t247) = false := decide_eq_false c75
      clear c75
      simp only [Option.some.injEq, Prod.mk.injEq] at H
      obtain ⟨rfl, rfl⟩ := H
      have hnb86 := NB248_243.out
      have hnc86 := NB243_248.out
      have hnb87 := NB248_244.out
      have hnc87 := NB244_248.out
      have hnb88 := NB248_245.out
      have hnc88 := NB245_248.out
      have hcz89_0 : wc.cell? ⟨gb248, 0, none⟩ = some (.int .i64 t246) := bc BK248 0
      have hcz89_1 : wc.cell? ⟨gb248, 1, none⟩ = some (.int .i64 t247) := bc BK248 1
      have hfz89_0 := blk_frozen BK248.out 0
      have hfz89_1 := blk_frozen BK248.out 1
      have hnb90 := NB243_244.out
      have hnc90 := NB244_243.out
      have hnb91 := NB243_245.out
      have hnc91 := NB245_243.out
      have hcz92_0 : wc.cell? ⟨gb243, 0, none⟩ = some (.int .i64 a0_0) := bc BK243 0
      have hcz92_1 : wc.cell? ⟨gb243, 1, none⟩ = some (.int .i64 a0_1) := bc BK243 1
      have hfz92_0 := blk_frozen BK243.out 0
      have hfz92_1 := blk_frozen BK243.out 1
      have hnb93 := NB245_244.out
      have hnc93 := NB244_245.out
      have hcz94_0 : wc.cell? ⟨gb245, 0, none⟩ = some (.int .i64 0) := bc BK245 0
      have hcz94_1 : wc.cell? ⟨gb245, 1, none⟩ = some (.int .i64 0) := bc BK245 1
      have hfz94_0 := blk_frozen BK245.out 0
      have hfz94_1 := blk_frozen BK245.out 1
      go_wp2
      refine bodyPost_ret (results_cell_row rfl _ _ gb245 86 #[.int .i64 t246, .int .i64 t247] (0, 0) _ rfl (by (with_reducible repeat (first | refine blk_drewN ?_ _ | refine blk_drew ?_ | refine blk_alloc ?_ _)); refine blk_put (cs := #[.int .i64 t246, .int .i64 0]) ?_ 1 _ rfl; (with_reducible repeat (first | refine blk_drewN ?_ _ | refine blk_drew ?_ | refine blk_alloc ?_ _)); refine blk_put (cs := #[.int .i64 0, .int .i64 0]) ?_ 0 _ rfl; (with_reducible repeat (first | refine blk_drewN ?_ _ | refine blk_drew ?_ | refine blk_alloc ?_ _)); exact BK245.out) Try.underlying86 rfl (by kernel_rfl)) rfl ?_
      exact ⟨by first | rfl | (simp [errW_none, errW_some] <;> rfl) | (simp [*, errW_none, errW_some] <;> rfl), Y4 HB GE243 GE244 GE245 GE248⟩

end Go.Proofs.Ytnmccgjdnceheaa.PFnExactValWiden
