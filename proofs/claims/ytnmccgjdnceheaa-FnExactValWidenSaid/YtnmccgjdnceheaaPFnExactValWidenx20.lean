/- Written by this session's own driver (wip/dprint.py): the functions that the law FnExactValWiden reaches, as Lean functions, each with its contract. -/
import Derived.Test.YtnmccgjdnceheaaPFnExactValWidenx0
import Derived.Test.YtnmccgjdnceheaaPFnExactValWidenx14
import Derived.Test.YtnmccgjdnceheaaPFnExactValWidenx15
import Derived.Test.YtnmccgjdnceheaaPFnExactValWidenx16
import Derived.Test.YtnmccgjdnceheaaPFnExactValWidenx17
import Derived.Test.YtnmccgjdnceheaaSv
namespace Go.Proofs.Ytnmccgjdnceheaa.PFnExactValWiden
open Go.RowKit Go.Proofs.YtnmccgjdnceheaaV.PrintWords Go.Proofs.YtnmccgjdnceheaaV.PrintLast Go.Proofs.YtnmccgjdnceheaaV.PrintMore Go.Proofs.YtnmccgjdnceheaaSv
attribute [local go_sem] max2_int min2_int max_two min_two max_three min_three max_four min_four   -- for this text's walks alone
set_option linter.unusedVariables false
set_option linter.unusedSimpArgs false

/-! ### impl_RangeWiden: function 85 -/
mutual
def impl_RangeWiden.j0 : Nat → List Int → Bool → Int → Int → Int → Int → Option (Int × Int)
 | 0, _, _, _, _, _, _ => none
 | k + 1, x2, x32, x416000, x416001, x421000, x421001 => if x32 = true then (some (x421000, x421001)) else (if x421000 < x416000 then (impl_RangeWiden.l0 k x2 (-2147483648) x2 (x2.length : Int) 0 x416000 x416001 x421000 x421001) else (impl_RangeWiden.j2 k x2 x416000 x416001 x421000 x421001))
def impl_RangeWiden.j2 : Nat → List Int → Int → Int → Int → Int → Option (Int × Int)
 | 0, _, _, _, _, _ => none
 | k + 1, x2, x416000, x416001, x421000, x421001 => if x421001 > x416001 then (impl_RangeWiden.l1 k 2147483647 x2 (x2.length : Int) 0 x421000 x421001) else (some (x421000, x421001))
def impl_RangeWiden.l1 : Nat → Int → List Int → Int → Int → Int → Int → Option (Int × Int)
 | 0, _, _, _, _, _, _ => none
 | k + 1, x11, x64, x65, x66, x421000, x421001 => if x66 < x65 then (if 0 ≤ x66 then (if x66 < (x64.length : Int) then ((impl_NumOk.f (rd x64 x66)).bind fun t428 => (if t428 = true then (if (rd x64 x66) ≥ x421001 then (impl_RangeWiden.l1 k (mn x11 (rd x64 x66)) x64 x65 (wrap64 (x66 + 1)) x421000 x421001) else (impl_RangeWiden.l1 k x11 x64 x65 (wrap64 (x66 + 1)) x421000 x421001)) else (impl_RangeWiden.l1 k x11 x64 x65 (wrap64 (x66 + 1)) x421000 x421001))) else (none)) else (none)) else (some (x421000, x11))
def impl_RangeWiden.l0 : Nat → List Int → Int → List Int → Int → Int → Int → Int → Int → Int → Option (Int × Int)
 | 0, _, _, _, _, _, _, _, _, _ => none
 | k + 1, x2, x8, x39, x40, x41, x416000, x416001, x421000, x421001 => if x41 < x40 then (if 0 ≤ x41 then (if x41 < (x39.length : Int) then ((impl_NumOk.f (rd x39 x41)).bind fun t426 => (if t426 = true then (if (rd x39 x41) ≤ x421000 then (impl_RangeWiden.l0 k x2 (mx x8 (rd x39 x41)) x39 x40 (wrap64 (x41 + 1)) x416000 x416001 x421000 x421001) else (impl_RangeWiden.l0 k x2 x8 x39 x40 (wrap64 (x41 + 1)) x416000 x416001 x421000 x421001)) else (impl_RangeWiden.l0 k x2 x8 x39 x40 (wrap64 (x41 + 1)) x416000 x416001 x421000 x421001))) else (none)) else (none)) else (impl_RangeWiden.j2 k x2 x416000 x416001 x8 x421001)
end
def impl_RangeWiden.f (k : Nat) (a0_0 : Int) (a0_1 : Int) (a1_0 : Int) (a1_1 : Int) (l2 : List Int) : Option (Int × Int) := (impl_RangeJoin.f k a0_0 a0_1 a1_0 a1_1).bind fun bt418 => ((impl_RangeOk.f a0_0 a0_1).bind fun t421 => (if t421 = true then ((impl_RangeOk.f a1_0 a1_1).bind fun t422 => (if t422 = true then ((impl_Range_empty.f a0_0 a0_1).bind fun t423 => (if t423 = true then (impl_RangeWiden.j0 k l2 true a0_0 a0_1 bt418.1 bt418.2) else ((impl_Range_empty.f a1_0 a1_1).bind fun t424 => (impl_RangeWiden.j0 k l2 t424 a0_0 a0_1 bt418.1 bt418.2)))) else (impl_RangeWiden.j0 k l2 true a0_0 a0_1 bt418.1 bt418.2))) else (impl_RangeWiden.j0 k l2 true a0_0 a0_1 bt418.1 bt418.2)))
theorem impl_RangeWiden.mono_l : ∀ k, (∀ y0 y1 y2 y3 y4 y5, LeO (impl_RangeWiden.j0 k y0 y1 y2 y3 y4 y5) (impl_RangeWiden.j0 (k + 1) y0 y1 y2 y3 y4 y5)) ∧ (∀ y0 y1 y2 y3 y4, LeO (impl_RangeWiden.j2 k y0 y1 y2 y3 y4) (impl_RangeWiden.j2 (k + 1) y0 y1 y2 y3 y4)) ∧ (∀ y0 y1 y2 y3 y4 y5, LeO (impl_RangeWiden.l1 k y0 y1 y2 y3 y4 y5) (impl_RangeWiden.l1 (k + 1) y0 y1 y2 y3 y4 y5)) ∧ (∀ y0 y1 y2 y3 y4 y5 y6 y7 y8, LeO (impl_RangeWiden.l0 k y0 y1 y2 y3 y4 y5 y6 y7 y8) (impl_RangeWiden.l0 (k + 1) y0 y1 y2 y3 y4 y5 y6 y7 y8))
 | 0 => ⟨fun _ _ _ _ _ _ r h => by simp [impl_RangeWiden.j0] at h, fun _ _ _ _ _ r h => by simp [impl_RangeWiden.j2] at h, fun _ _ _ _ _ _ r h => by simp [impl_RangeWiden.l1] at h, fun _ _ _ _ _ _ _ _ _ r h => by simp [impl_RangeWiden.l0] at h⟩
 | k + 1 => by
  obtain ⟨ih0, ih1, ih2, ih3⟩ := impl_RangeWiden.mono_l k
  refine ⟨?_, ?_, ?_, ?_⟩
  ·intro y0 y1 y2 y3 y4 y5
   unfold impl_RangeWiden.j0
   repeat' first
   | (with_reducible exact ih0 _ _ _ _ _ _)
   | (with_reducible exact ih1 _ _ _ _ _)
   | (with_reducible exact ih2 _ _ _ _ _ _)
   | (with_reducible exact ih3 _ _ _ _ _ _ _ _ _)
   | (with_reducible exact impl_RangeJoin.mono _ _ _ _ _)
   | (with_reducible exact LeO.refl _)
   | (with_reducible exact LeO.none _)
   | (with_reducible refine LeO.ite ?_ ?_)
   | (with_reducible refine LeO.bind ?_ (fun _ => ?_))
   | exact ih0 _ _ _ _ _ _
   | exact ih1 _ _ _ _ _
   | exact ih2 _ _ _ _ _ _
   | exact ih3 _ _ _ _ _ _ _ _ _
   | exact impl_RangeJoin.mono _ _ _ _ _
   | exact LeO.none _
   | refine LeO.ite ?_ ?_
   | refine LeO.bind ?_ (fun _ => ?_)
  ·intro y0 y1 y2 y3 y4
   unfold impl_RangeWiden.j2
   repeat' first
   | (with_reducible exact ih0 _ _ _ _ _ _)
   | (with_reducible exact ih1 _ _ _ _ _)
   | (with_reducible exact ih2 _ _ _ _ _ _)
   | (with_reducible exact ih3 _ _ _ _ _ _ _ _ _)
   | (with_reducible exact impl_RangeJoin.mono _ _ _ _ _)
   | (with_reducible exact LeO.refl _)
   | (with_reducible exact LeO.none _)
   | (with_reducible refine LeO.ite ?_ ?_)
   | (with_reducible refine LeO.bind ?_ (fun _ => ?_))
   | exact ih0 _ _ _ _ _ _
   | exact ih1 _ _ _ _ _
   | exact ih2 _ _ _ _ _ _
   | exact ih3 _ _ _ _ _ _ _ _ _
   | exact impl_RangeJoin.mono _ _ _ _ _
   | exact LeO.none _
   | refine LeO.ite ?_ ?_
   | refine LeO.bind ?_ (fun _ => ?_)
  ·intro y0 y1 y2 y3 y4 y5
   unfold impl_RangeWiden.l1
   repeat' first
   | (with_reducible exact ih0 _ _ _ _ _ _)
   | (with_reducible exact ih1 _ _ _ _ _)
   | (with_reducible exact ih2 _ _ _ _ _ _)
   | (with_reducible exact ih3 _ _ _ _ _ _ _ _ _)
   | (with_reducible exact impl_RangeJoin.mono _ _ _ _ _)
   | (with_reducible exact LeO.refl _)
   | (with_reducible exact LeO.none _)
   | (with_reducible refine LeO.ite ?_ ?_)
   | (with_reducible refine LeO.bind ?_ (fun _ => ?_))
   | exact ih0 _ _ _ _ _ _
   | exact ih1 _ _ _ _ _
   | exact ih2 _ _ _ _ _ _
   | exact ih3 _ _ _ _ _ _ _ _ _
   | exact impl_RangeJoin.mono _ _ _ _ _
   | exact LeO.none _
   | refine LeO.ite ?_ ?_
   | refine LeO.bind ?_ (fun _ => ?_)
  ·intro y0 y1 y2 y3 y4 y5 y6 y7 y8
   unfold impl_RangeWiden.l0
   repeat' first
   | (with_reducible exact ih0 _ _ _ _ _ _)
   | (with_reducible exact ih1 _ _ _ _ _)
   | (with_reducible exact ih2 _ _ _ _ _ _)
   | (with_reducible exact ih3 _ _ _ _ _ _ _ _ _)
   | (with_reducible exact impl_RangeJoin.mono _ _ _ _ _)
   | (with_reducible exact LeO.refl _)
   | (with_reducible exact LeO.none _)
   | (with_reducible refine LeO.ite ?_ ?_)
   | (with_reducible refine LeO.bind ?_ (fun _ => ?_))
   | exact ih0 _ _ _ _ _ _
   | exact ih1 _ _ _ _ _
   | exact ih2 _ _ _ _ _ _
   | exact ih3 _ _ _ _ _ _ _ _ _
   | exact impl_RangeJoin.mono _ _ _ _ _
   | exact LeO.none _
   | refine LeO.ite ?_ ?_
   | refine LeO.bind ?_ (fun _ => ?_)
theorem impl_RangeWiden.mono : ∀ a0 a1 a2 a3 a4 k, LeO (impl_RangeWiden.f k a0 a1 a2 a3 a4) (impl_RangeWiden.f (k + 1) a0 a1 a2 a3 a4) := by
 intro a0 a1 a2 a3 a4 k
 obtain ⟨ih0, ih1, ih2, ih3⟩ := impl_RangeWiden.mono_l k
 unfold impl_RangeWiden.f
 repeat' first
   | (with_reducible exact ih0 _ _ _ _ _ _)
   | (with_reducible exact ih1 _ _ _ _ _)
   | (with_reducible exact ih2 _ _ _ _ _ _)
   | (with_reducible exact ih3 _ _ _ _ _ _ _ _ _)
   | (with_reducible exact impl_RangeJoin.mono _ _ _ _ _)
   | (with_reducible exact LeO.refl _)
   | (with_reducible exact LeO.none _)
   | (with_reducible refine LeO.ite ?_ ?_)
   | (with_reducible refine LeO.bind ?_ (fun _ => ?_))
   | exact ih0 _ _ _ _ _ _
   | exact ih1 _ _ _ _ _
   | exact ih2 _ _ _ _ _ _
   | exact ih3 _ _ _ _ _ _ _ _ _
   | exact impl_RangeJoin.mono _ _ _ _ _
   | exact LeO.none _
   | refine LeO.ite ?_ ?_
   | refine LeO.bind ?_ (fun _ => ?_)
set_option maxHeartbeats 8000000 in
set_option maxRecDepth 100000 in
theorem impl_RangeWiden.calls (k : Nat) (a0_0 : Int) (a0_1 : Int) (a1_0 : Int) (a1_1 : Int) (A2 : Option Addr) (c2 : Nat) (l2 : List Int) (r1 : Int) (r2 : Int) (w : World) (hr2 : Kd.C (Kd.int .i64) w A2 l2.length l2) (hc2 : l2.length ≤ c2) (h : impl_RangeWiden.f k a0_0 a0_1 a1_0 a1_1 l2 = some (r1, r2)) :
  Calls Try.prog 85 #[.agg #[.int .i64 a0_0, .int .i64 a0_1], .agg #[.int .i64 a1_0, .int .i64 a1_1], .slice A2 l2.length c2] w fun e w' => e = .returned (.agg #[.int .i64 r1, .int .i64 r2]) ∧ Below w.heap.size w w' := by
 have hu86 := Try.underlying86
 have HR2 := am hr2
 have HC2 := am hc2
 clear hr2 hc2
 have HB := am (Below.refl w.heap.size w)
 have H : ((impl_RangeJoin.f k a0_0 a0_1 a1_0 a1_1).bind fun bt418 => ((impl_RangeOk.f a0_0 a0_1).bind fun t421 => (if t421 = true then ((impl_RangeOk.f a1_0 a1_1).bind fun t422 => (if t422 = true then ((impl_Range_empty.f a0_0 a0_1).bind fun t423 => (if t423 = true then (impl_RangeWiden.j0 k l2 true a0_0 a0_1 bt418.1 bt418.2) else ((impl_Range_empty.f a1_0 a1_1).bind fun t424 => (impl_RangeWiden.j0 k l2 t424 a0_0 a0_1 bt418.1 bt418.2)))) else (impl_RangeWiden.j0 k l2 true a0_0 a0_1 bt418.1 bt418.2))) else (impl_RangeWiden.j0 k l2 true a0_0 a0_1 bt418.1 bt418.2)))) = some (r1, r2) := h
 clear h
 replace H := Option.bind_eq_some_iff.mp H
 obtain ⟨⟨t418, t419⟩, A40, H⟩ := H
 replace H : ((impl_RangeOk.f a0_0 a0_1).bind fun t421 => (if t421 = true then ((impl_RangeOk.f a1_0 a1_1).bind fun t422 => (if t422 = true then ((impl_Range_empty.f a0_0 a0_1).bind fun t423 => (if t423 = true then (impl_RangeWiden.j0 k l2 true a0_0 a0_1 t418 t419) else ((impl_Range_empty.f a1_0 a1_1).bind fun t424 => (impl_RangeWiden.j0 k l2 t424 a0_0 a0_1 t418 t419)))) else (impl_RangeWiden.j0 k l2 true a0_0 a0_1 t418 t419))) else (impl_RangeWiden.j0 k l2 true a0_0 a0_1 t418 t419))) = some (r1, r2) := H
 have A4 := am A40
 clear A40
 have HC5 := am H
 clear H
 go_enter Try.func85, Try.ntmps85
 go_upto_region 2 with (first | ((with_reducible refine gate_dst (N := 3) rfl ?_); refine box_event ?hg (N := 3) ?hd (cs := #[.int .i64 a0_0, .int .i64 a0_1]) (t := 86) ?hr ?_; (case hd => rfl); (case hg => rfl); (case hr => first | (go_simp; done) | (go_simp; rfl)); intro gb415 hg w6 hbox hb; have n0_ := am (below_step (Y0 HB) hb); have n1_ := am (hbox); have n2_ := am ((by rw [hg]; exact (below_size (Y0 HB)) : w.heap.size ≤ gb415)); have n3_ := am ((by rw [hg]; exact (below_size (Y0 HB)) : w.heap.size ≤ gb415)); clear HB; have HB := n0_; have BK415 := n1_; have GW415 := n2_; have GE415 := n3_; clear n0_ n1_ n2_ n3_; clear hb hbox hg) | ((with_reducible refine gate_dst (N := 4) rfl ?_); refine box_event ?hg (N := 4) ?hd (cs := #[.int .i64 a1_0, .int .i64 a1_1]) (t := 86) ?hr ?_; (case hd => rfl); (case hg => rfl); (case hr => first | (go_simp; done) | (go_simp; rfl)); intro gb416 hg w7 hbox hb; have n0_ := am (blk_below (g := gb415) (o := b2 a0_0 a0_1 86) (Z BK415) hb); have n1_ := am (below_step (Y1 HB GE415) hb); have n2_ := am (hbox); have n3_ := am ((by rw [hg]; exact (below_size (Y1 HB GE415)) : w.heap.size ≤ gb416)); have n4_ := am ((by rw [hg]; exact (below_size (Y1 HB GE415)) : w.heap.size ≤ gb416)); have n5_ := am ((nl (o := b2 a0_0 a0_1 86) hg (Z BK415) : gb415 ≠ gb416)); have n6_ := am ((ng (o := b2 a0_0 a0_1 86) hg (Z BK415) : gb416 ≠ gb415)); clear BK415; clear HB; have BK415 := n0_; have HB := n1_; have BK416 := n2_; have GW416 := n3_; have GE416 := n4_; have NB415_416 := n5_; have NB416_415 := n6_; clear n0_ n1_ n2_ n3_ n4_ n5_ n6_; clear hb hbox hg) | ((with_reducible refine gate_dst (N := 6) rfl ?_); refine box_event ?hg (N := 6) ?hd (cs := #[.int .i64 0, .int .i64 0]) (t := 86) ?hr ?_; (case hd => rfl); (case hg => rfl); (case hr => first | (go_simp; done) | (go_simp; rfl)); intro gb417 hg w8 hbox hb; have n0_ := am (blk_below (g := gb415) (o := b2 a0_0 a0_1 86) (Z BK415) hb); have n1_ := am (blk_below (g := gb416) (o := b2 a1_0 a1_1 86) (Z BK416) hb); have n2_ := am (below_step (Y2 HB GE415 GE416) hb); have n3_ := am (hbox); have n4_ := am ((by rw [hg]; exact (below_size (Y2 HB GE415 GE416)) : w.heap.size ≤ gb417)); have n5_ := am ((by rw [hg]; exact (below_size (Y2 HB GE415 GE416)) : w.heap.size ≤ gb417)); have n6_ := am ((nl (o := b2 a0_0 a0_1 86) hg (Z BK415) : gb415 ≠ gb417)); have n7_ := am ((ng (o := b2 a0_0 a0_1 86) hg (Z BK415) : gb417 ≠ gb415)); have n8_ := am ((nl (o := b2 a1_0 a1_1 86) hg (Z BK416) : gb416 ≠ gb417)); have n9_ := am ((ng (o := b2 a1_0 a1_1 86) hg (Z BK416) : gb417 ≠ gb416)); clear BK415; clear BK416; clear HB; have BK415 := n0_; have BK416 := n1_; have HB := n2_; have BK417 := n3_; have GW417 := n4_; have GE417 := n5_; have NB415_417 := n6_; have NB417_415 := n7_; have NB416_417 := n8_; have NB417_416 := n9_; clear n0_ n1_ n2_ n3_ n4_ n5_ n6_ n7_ n8_ n9_; clear hb hbox hg; have hnb9 := NB415_416.out; have hnc9 := NB416_415.out; have hnb10 := NB415_417.out; have hnc10 := NB417_415.out; have hcz11_0 : w8.cell? ⟨gb415, 0, none⟩ = some (.int .i64 a0_0) := bc BK415 0; have hcz11_1 : w8.cell? ⟨gb415, 1, none⟩ = some (.int .i64 a0_1) := bc BK415 1; have hfz11_0 := blk_frozen BK415.out 0; have hfz11_1 := blk_frozen BK415.out 1; have hnb12 := NB416_417.out; have hnc12 := NB417_416.out; have hcz13_0 : w8.cell? ⟨gb416, 0, none⟩ = some (.int .i64 a1_0) := bc BK416 0; have hcz13_1 : w8.cell? ⟨gb416, 1, none⟩ = some (.int .i64 a1_1) := bc BK416 1; have hfz13_0 := blk_frozen BK416.out 0; have hfz13_1 := blk_frozen BK416.out 1) | ((with_reducible refine gate_callee (f := 78) rfl ?_); refine goesL_ (some 16) rfl rfl Try.func78 (by kernel_rfl) rfl #[.agg #[.int .i64 a0_0, .int .i64 a0_1], .agg #[.int .i64 a1_0, .int .i64 a1_1]] rfl mz ?_; (with_reducible refine (impl_RangeJoin.calls k a0_0 a0_1 a1_0 a1_1 t418 t419 _ A4.out).mono ?_); rintro e w14 ⟨rfl, hb⟩; refine ⟨_, rfl, ?_⟩; have n0_ := am (blk_below (g := gb415) (o := b2 a0_0 a0_1 86) (Z BK415) hb); have n1_ := am (blk_below (g := gb416) (o := b2 a1_0 a1_1 86) (Z BK416) hb); have n2_ := am (blk_below (g := gb417) (o := b2 0 0 86) (Z BK417) hb); have n3_ := am (below_step (Y3 HB GE415 GE416 GE417) hb); clear BK415; clear BK416; clear BK417; clear HB; have BK415 := n0_; have BK416 := n1_; have BK417 := n2_; have HB := n3_; clear n0_ n1_ n2_ n3_; (try clear hb); (try clear hb2); (try clear hk); (try clear hi)) | ((with_reducible refine gate_dst (N := 7) rfl ?_); refine box_event ?hg (N := 7) ?hd (cs := #[.int .i64 0, .int .i64 0]) (t := 86) ?hr ?_; (case hd => rfl); (case hg => rfl); (case hr => first | (go_simp; done) | (go_simp; rfl)); intro gb420 hg w15 hbox hb; have n0_ := am (blk_below (g := gb415) (o := b2 a0_0 a0_1 86) (Z BK415) hb); have n1_ := am (blk_below (g := gb416) (o := b2 a1_0 a1_1 86) (Z BK416) hb); have n2_ := am (blk_below (g := gb417) (o := b2 0 0 86) (Z BK417) hb); have n3_ := am (below_step (Y3 HB GE415 GE416 GE417) hb); have n4_ := am (hbox); have n5_ := am ((by rw [hg]; exact (below_size (Y3 HB GE415 GE416 GE417)) : w.heap.size ≤ gb420)); have n6_ := am ((by rw [hg]; exact (below_size (Y3 HB GE415 GE416 GE417)) : w.heap.size ≤ gb420)); have n7_ := am ((nl (o := b2 a0_0 a0_1 86) hg (Z BK415) : gb415 ≠ gb420)); have n8_ := am ((ng (o := b2 a0_0 a0_1 86) hg (Z BK415) : gb420 ≠ gb415)); have n9_ := am ((nl (o := b2 a1_0 a1_1 86) hg (Z BK416) : gb416 ≠ gb420)); have n10_ := am ((ng (o := b2 a1_0 a1_1 86) hg (Z BK416) : gb420 ≠ gb416)); have n11_ := am ((nl (o := b2 0 0 86) hg (Z BK417) : gb417 ≠ gb420)); have n12_ := am ((ng (o := b2 0 0 86) hg (Z BK417) : gb420 ≠ gb417)); clear BK415; clear BK416; clear BK417; clear HB; have BK415 := n0_; have BK416 := n1_; have BK417 := n2_; have HB := n3_; have BK420 := n4_; have GW420 := n5_; have GE420 := n6_; have NB415_420 := n7_; have NB420_415 := n8_; have NB416_420 := n9_; have NB420_416 := n10_; have NB417_420 := n11_; have NB420_417 := n12_; clear n0_ n1_ n2_ n3_ n4_ n5_ n6_ n7_ n8_ n9_ n10_ n11_ n12_; clear hb hbox hg; have hnb16 := NB420_415.out; have hnc16 := NB415_420.out; have hnb17 := NB420_416.out; have hnc17 := NB416_420.out; have hnb18 := NB420_417.out; have hnc18 := NB417_420.out; have hcz19_0 : w15.cell? ⟨gb420, 0, none⟩ = some (.int .i64 0) := bc BK420 0; have hcz19_1 : w15.cell? ⟨gb420, 1, none⟩ = some (.int .i64 0) := bc BK420 1; have hfz19_0 := blk_frozen BK420.out 0; have hfz19_1 := blk_frozen BK420.out 1))
 (try simp only [Act.put, List.setIfInBounds_toArray, List.set_cons_zero, List.set_cons_succ])
 go_cut [32] (fun v32 wc => ∃ (kq : Nat) (x32_4 : Bool), v32 = .bool x32_4 ∧ Aside0 (impl_RangeWiden.j0 kq l2 x32_4 a0_0 a0_1 t418 t419 = some (r1, r2)) ∧ Aside0 (kq ≤ k) ∧ Aside0 (wc.heap[gb415]? = some (.cells #[.int .i64 a0_0, .int .i64 a0_1] 86 (0, 0))) ∧ Aside0 (wc.heap[gb416]? = some (.cells #[.int .i64 a1_0, .int .i64 a1_1] 86 (0, 0))) ∧ Aside0 (wc.heap[gb417]? = some (.cells #[.int .i64 0, .int .i64 0] 86 (0, 0))) ∧ Aside0 (wc.heap[gb420]? = some (.cells #[.int .i64 t418, .int .i64 t419] 86 (0, 0))) ∧ Aside0 (Below w.heap.size w wc))
 case first =>
  have H := HC5.out
  clear HC5
  replace H := Option.bind_eq_some_iff.mp H
  obtain ⟨t421, A200, H⟩ := H
  replace H : (if t421 = true then ((impl_RangeOk.f a1_0 a1_1).bind fun t422 => (if t422 = true then ((impl_Range_empty.f a0_0 a0_1).bind fun t423 => (if t423 = true then (impl_RangeWiden.j0 k l2 true a0_0 a0_1 t418 t419) else ((impl_Range_empty.f a1_0 a1_1).bind fun t424 => (impl_RangeWiden.j0 k l2 t424 a0_0 a0_1 t418 t419)))) else (impl_RangeWiden.j0 k l2 true a0_0 a0_1 t418 t419))) else (impl_RangeWiden.j0 k l2 true a0_0 a0_1 t418 t419)) = some (r1, r2) := H
  have A20 := am A200
  clear A200
  by_cases c21 : t421 = true
  ·subst c21
   have H1 : ((impl_RangeOk.f a1_0 a1_1).bind fun t422 => (if t422 = true then ((impl_Range_empty.f a0_0 a0_1).bind fun t423 => (if t423 = true then (impl_RangeWiden.j0 k l2 true a0_0 a0_1 t418 t419) else ((impl_Range_empty.f a1_0 a1_1).bind fun t424 => (impl_RangeWiden.j0 k l2 t424 a0_0 a0_1 t418 t419)))) else (impl_RangeWiden.j0 k l2 true a0_0 a0_1 t418 t419))) = some (r1, r2) := by rw [if_pos rfl] at H; exact H
   clear H
   have H := H1
   clear H1
   replace H := Option.bind_eq_some_iff.mp H
   obtain ⟨t422, A220, H⟩ := H
   replace H : (if t422 = true then ((impl_Range_empty.f a0_0 a0_1).bind fun t423 => (if t423 = true then (impl_RangeWiden.j0 k l2 true a0_0 a0_1 t418 t419) else ((impl_Range_empty.f a1_0 a1_1).bind fun t424 => (impl_RangeWiden.j0 k l2 t424 a0_0 a0_1 t418 t419)))) else (impl_RangeWiden.j0 k l2 true a0_0 a0_1 t418 t419)) = some (r1, r2) := H
   have A22 := am A220
   clear A220
   by_cases c23 : t422 = true
   ·subst c23
    have H1 : ((impl_Range_empty.f a0_0 a0_1).bind fun t423 => (if t423 = true then (impl_RangeWiden.j0 k l2 true a0_0 a0_1 t418 t419) else ((impl_Range_empty.f a1_0 a1_1).bind fun t424 => (impl_RangeWiden.j0 k l2 t424 a0_0 a0_1 t418 t419)))) = some (r1, r2) := by rw [if_pos rfl] at H; exact H
    clear H
    have H := H1
    clear H1
    replace H := Option.bind_eq_some_iff.mp H
    obtain ⟨t423, A240, H⟩ := H
    replace H : (if t423 = true then (impl_RangeWiden.j0 k l2 true a0_0 a0_1 t418 t419) else ((impl_Range_empty.f a1_0 a1_1).bind fun t424 => (impl_RangeWiden.j0 k l2 t424 a0_0 a0_1 t418 t419))) = some (r1, r2) := H
    have A24 := am A240
    clear A240
    by_cases c25 : t423 = true
    ·subst c25
     have H1 : (impl_RangeWiden.j0 k l2 true a0_0 a0_1 t418 t419) = some (r1, r2) := by rw [if_pos rfl] at H; exact H
     clear H
     have H := H1
     clear H1
     have H' := am H
     clear H
     have hnb26 := NB415_416.out
     have hnc26 := NB416_415.out
     have hnb27 := NB415_417.out
     have hnc27 := NB417_415.out
     have hnb28 := NB415_420.out
     have hnc28 := NB420_415.out
     have hcz29_0 : w15.cell? ⟨gb415, 0, none⟩ = some (.int .i64 a0_0) := bc BK415 0
     have hcz29_1 : w15.cell? ⟨gb415, 1, none⟩ = some (.int .i64 a0_1) := bc BK415 1
     have hfz29_0 := blk_frozen BK415.out 0
     have hfz29_1 := blk_frozen BK415.out 1
     go_wp2_with (first | ((with_reducible refine gate_callee (f := 120) rfl ?_); refine goesL_ (some 18) rfl rfl Try.func120 (by kernel_rfl) rfl #[.agg #[.int .i64 a0_0, .int .i64 a0_1]] rfl mz ?_; (with_reducible refine (impl_RangeOk.calls a0_0 a0_1 true _ A20.out).mono ?_); rintro e w30 ⟨rfl, hb⟩; refine ⟨_, rfl, ?_⟩; have n0_ := am (blk_below (g := gb415) (o := b2 a0_0 a0_1 86) (by (with_reducible repeat (first | refine blk_drewN ?_ _ | refine blk_drew ?_ | refine blk_alloc ?_ _)); refine blk_far ?_ NB415_420.out _; (with_reducible repeat (first | refine blk_drewN ?_ _ | refine blk_drew ?_ | refine blk_alloc ?_ _)); refine blk_far ?_ NB415_420.out _; (with_reducible repeat (first | refine blk_drewN ?_ _ | refine blk_drew ?_ | refine blk_alloc ?_ _)); exact BK415.out) hb); have n1_ := am (blk_below (g := gb416) (o := b2 a1_0 a1_1 86) (by (with_reducible repeat (first | refine blk_drewN ?_ _ | refine blk_drew ?_ | refine blk_alloc ?_ _)); refine blk_far ?_ NB416_420.out _; (with_reducible repeat (first | refine blk_drewN ?_ _ | refine blk_drew ?_ | refine blk_alloc ?_ _)); refine blk_far ?_ NB416_420.out _; (with_reducible repeat (first | refine blk_drewN ?_ _ | refine blk_drew ?_ | refine blk_alloc ?_ _)); exact BK416.out) hb); have n2_ := am (blk_below (g := gb417) (o := b2 0 0 86) (by (with_reducible repeat (first | refine blk_drewN ?_ _ | refine blk_drew ?_ | refine blk_alloc ?_ _)); refine blk_far ?_ NB417_420.out _; (with_reducible repeat (first | refine blk_drewN ?_ _ | refine blk_drew ?_ | refine blk_alloc ?_ _)); refine blk_far ?_ NB417_420.out _; (with_reducible repeat (first | refine blk_drewN ?_ _ | refine blk_drew ?_ | refine blk_alloc ?_ _)); exact BK417.out) hb); have n3_ := am (blk_below (g := gb420) (o := b2 t418 t419 86) (by (with_reducible repeat (first | refine blk_drewN ?_ _ | refine blk_drew ?_ | refine blk_alloc ?_ _)); refine blk_put (cs := #[.int .i64 t418, .int .i64 0]) ?_ 1 _ rfl; (with_reducible repeat (first | refine blk_drewN ?_ _ | refine blk_drew ?_ | refine blk_alloc ?_ _)); refine blk_put (cs := #[.int .i64 0, .int .i64 0]) ?_ 0 _ rfl; (with_reducible repeat (first | refine blk_drewN ?_ _ | refine blk_drew ?_ | refine blk_alloc ?_ _)); exact BK420.out) hb); have n4_ := am (below_step (Y4 HB GE415 GE416 GE417 GE420) hb); clear BK415; clear BK416; clear BK417; clear BK420; clear HB; have BK415 := n0_; have BK416 := n1_; have BK417 := n2_; have BK420 := n3_; have HB := n4_; clear n0_ n1_ n2_ n3_ n4_; (try clear hb); (try clear hb2); (try clear hk); (try clear hi); have hnb31 := NB416_417.out; have hnc31 := NB417_416.out; have hnb32 := NB416_420.out; have hnc32 := NB420_416.out; have hcz33_0 : w30.cell? ⟨gb416, 0, none⟩ = some (.int .i64 a1_0) := bc BK416 0; have hcz33_1 : w30.cell? ⟨gb416, 1, none⟩ = some (.int .i64 a1_1) := bc BK416 1; have hfz33_0 := blk_frozen BK416.out 0; have hfz33_1 := blk_frozen BK416.out 1) | (go_at_call 120; (with_reducible refine (impl_RangeOk.calls a1_0 a1_1 true _ A22.out).mono ?_); rintro e w34 ⟨rfl, hb⟩; have n0_ := am (blk_below (g := gb415) (o := b2 a0_0 a0_1 86) (Z BK415) hb); have n1_ := am (blk_below (g := gb416) (o := b2 a1_0 a1_1 86) (Z BK416) hb); have n2_ := am (blk_below (g := gb417) (o := b2 0 0 86) (Z BK417) hb); have n3_ := am (blk_below (g := gb420) (o := b2 t418 t419 86) (Z BK420) hb); have n4_ := am (below_step (Y4 HB GE415 GE416 GE417 GE420) hb); clear BK415; clear BK416; clear BK417; clear BK420; clear HB; have BK415 := n0_; have BK416 := n1_; have BK417 := n2_; have BK420 := n3_; have HB := n4_; clear n0_ n1_ n2_ n3_ n4_; (try clear hb); (try clear hb2); (try clear hk); (try clear hi); have hcz35_0 : w34.cell? ⟨gb415, 0, none⟩ = some (.int .i64 a0_0) := bc BK415 0; have hcz35_1 : w34.cell? ⟨gb415, 1, none⟩ = some (.int .i64 a0_1) := bc BK415 1; have hfz35_0 := blk_frozen BK415.out 0; have hfz35_1 := blk_frozen BK415.out 1) | (go_at_call 124; (with_reducible refine (impl_Range_empty.calls a0_0 a0_1 true _ A24.out).mono ?_); rintro e w36 ⟨rfl, hb⟩; have n0_ := am (blk_below (g := gb415) (o := b2 a0_0 a0_1 86) (Z BK415) hb); have n1_ := am (blk_below (g := gb416) (o := b2 a1_0 a1_1 86) (Z BK416) hb); have n2_ := am (blk_below (g := gb417) (o := b2 0 0 86) (Z BK417) hb); have n3_ := am (blk_below (g := gb420) (o := b2 t418 t419 86) (Z BK420) hb); have n4_ := am (below_step (Y4 HB GE415 GE416 GE417 GE420) hb); clear BK415; clear BK416; clear BK417; clear BK420; clear HB; have BK415 := n0_; have BK416 := n1_; have BK417 := n2_; have BK420 := n3_; have HB := n4_; clear n0_ n1_ n2_ n3_ n4_; (try clear hb); (try clear hb2); (try clear hk); (try clear hi)))
     go_meet
     case rel => exact ⟨_, (true), (by first | rfl | (simp; done) | (simp [*]; done)), H', ⟨by first | omega | exact Nat.le_refl _⟩, ⟨Z BK415⟩, ⟨Z BK416⟩, ⟨Z BK417⟩, ⟨Z BK420⟩, ⟨Y4 HB GE415 GE416 GE417 GE420⟩⟩
    ·replace c25 := Bool.eq_false_iff.mpr c25
     subst c25
     have H1 : ((impl_Range_empty.f a1_0 a1_1).bind fun t424 => (impl_RangeWiden.j0 k l2 t424 a0_0 a0_1 t418 t419)) = some (r1, r2) := by rw [if_neg (show ¬ (false = true) by decide)] at H; exact H
     clear H
     have H := H1
     clear H1
     replace H := Option.bind_eq_some_iff.mp H
     obtain ⟨t424, A370, H⟩ := H
     replace H : (impl_RangeWiden.j0 k l2 t424 a0_0 a0_1 t418 t419) = some (r1, r2) := H
     have A37 := am A370
     clear A370
     have H' := am H
     clear H
     have hnb38 := NB415_416.out
     have hnc38 := NB416_415.out
     have hnb39 := NB415_417.out
     have hnc39 := NB417_415.out
     have hnb40 := NB415_420.out
     have hnc40 := NB420_415.out
     have hcz41_0 : w15.cell? ⟨gb415, 0, none⟩ = some (.int .i64 a0_0) := bc BK415 0
     have hcz41_1 : w15.cell? ⟨gb415, 1, none⟩ = some (.int .i64 a0_1) := bc BK415 1
     have hfz41_0 := blk_frozen BK415.out 0
     have hfz41_1 := blk_frozen BK415.out 1
     go_wp2_with (first | ((with_reducible refine gate_callee (f := 120) rfl ?_); refine goesL_ (some 18) rfl rfl Try.func120 (by kernel_rfl) rfl #[.agg #[.int .i64 a0_0, .int .i64 a0_1]] rfl mz ?_; (with_reducible refine (impl_RangeOk.calls a0_0 a0_1 true _ A20.out).mono ?_); rintro e w42 ⟨rfl, hb⟩; refine ⟨_, rfl, ?_⟩; have n0_ := am (blk_below (g := gb415) (o := b2 a0_0 a0_1 86) (by (with_reducible repeat (first | refine blk_drewN ?_ _ | refine blk_drew ?_ | refine blk_alloc ?_ _)); refine blk_far ?_ NB415_420.out _; (with_reducible repeat (first | refine blk_drewN ?_ _ | refine blk_drew ?_ | refine blk_alloc ?_ _)); refine blk_far ?_ NB415_420.out _; (with_reducible repeat (first | refine blk_drewN ?_ _ | refine blk_drew ?_ | refine blk_alloc ?_ _)); exact BK415.out) hb); have n1_ := am (blk_below (g := gb416) (o := b2 a1_0 a1_1 86) (by (with_reducible repeat (first | refine blk_drewN ?_ _ | refine blk_drew ?_ | refine blk_alloc ?_ _)); refine blk_far ?_ NB416_420.out _; (with_reducible repeat (first | refine blk_drewN ?_ _ | refine blk_drew ?_ | refine blk_alloc ?_ _)); refine blk_far ?_ NB416_420.out _; (with_reducible repeat (first | refine blk_drewN ?_ _ | refine blk_drew ?_ | refine blk_alloc ?_ _)); exact BK416.out) hb); have n2_ := am (blk_below (g := gb417) (o := b2 0 0 86) (by (with_reducible repeat (first | refine blk_drewN ?_ _ | refine blk_drew ?_ | refine blk_alloc ?_ _)); refine blk_far ?_ NB417_420.out _; (with_reducible repeat (first | refine blk_drewN ?_ _ | refine blk_drew ?_ | refine blk_alloc ?_ _)); refine blk_far ?_ NB417_420.out _; (with_reducible repeat (first | refine blk_drewN ?_ _ | refine blk_drew ?_ | refine blk_alloc ?_ _)); exact BK417.out) hb); have n3_ := am (blk_below (g := gb420) (o := b2 t418 t419 86) (by (with_reducible repeat (first | refine blk_drewN ?_ _ | refine blk_drew ?_ | refine blk_alloc ?_ _)); refine blk_put (cs := #[.int .i64 t418, .int .i64 0]) ?_ 1 _ rfl; (with_reducible repeat (first | refine blk_drewN ?_ _ | refine blk_drew ?_ | refine blk_alloc ?_ _)); refine blk_put (cs := #[.int .i64 0, .int .i64 0]) ?_ 0 _ rfl; (with_reducible repeat (first | refine blk_drewN ?_ _ | refine blk_drew ?_ | refine blk_alloc ?_ _)); exact BK420.out) hb); have n4_ := am (below_step (Y4 HB GE415 GE416 GE417 GE420) hb); clear BK415; clear BK416; clear BK417; clear BK420; clear HB; have BK415 := n0_; have BK416 := n1_; have BK417 := n2_; have BK420 := n3_; have HB := n4_; clear n0_ n1_ n2_ n3_ n4_; (try clear hb); (try clear hb2); (try clear hk); (try clear hi); have hnb43 := NB416_417.out; have hnc43 := NB417_416.out; have hnb44 := NB416_420.out; have hnc44 := NB420_416.out; have hcz45_0 : w42.cell? ⟨gb416, 0, none⟩ = some (.int .i64 a1_0) := bc BK416 0; have hcz45_1 : w42.cell? ⟨gb416, 1, none⟩ = some (.int .i64 a1_1) := bc BK416 1; have hfz45_0 := blk_frozen BK416.out 0; have hfz45_1 := blk_frozen BK416.out 1) | (go_at_call 120; (with_reducible refine (impl_RangeOk.calls a1_0 a1_1 true _ A22.out).mono ?_); rintro e w46 ⟨rfl, hb⟩; have n0_ := am (blk_below (g := gb415) (o := b2 a0_0 a0_1 86) (Z BK415) hb); have n1_ := am (blk_below (g := gb416) (o := b2 a1_0 a1_1 86) (Z BK416) hb); have n2_ := am (blk_below (g := gb417) (o := b2 0 0 86) (Z BK417) hb); have n3_ := am (blk_below (g := gb420) (o := b2 t418 t419 86) (Z BK420) hb); have n4_ := am (below_step (Y4 HB GE415 GE416 GE417 GE420) hb); clear BK415; clear BK416; clear BK417; clear BK420; clear HB; have BK415 := n0_; have BK416 := n1_; have BK417 := n2_; have BK420 := n3_; have HB := n4_; clear n0_ n1_ n2_ n3_ n4_; (try clear hb); (try clear hb2); (try clear hk); (try clear hi); have hcz47_0 : w46.cell? ⟨gb415, 0, none⟩ = some (.int .i64 a0_0) := bc BK415 0; have hcz47_1 : w46.cell? ⟨gb415, 1, none⟩ = some (.int .i64 a0_1) := bc BK415 1; have hfz47_0 := blk_frozen BK415.out 0; have hfz47_1 := blk_frozen BK415.out 1) | (go_at_call 124; (with_reducible refine (impl_Range_empty.calls a0_0 a0_1 false _ A24.out).mono ?_); rintro e w48 ⟨rfl, hb⟩; have n0_ := am (blk_below (g := gb415) (o := b2 a0_0 a0_1 86) (Z BK415) hb); have n1_ := am (blk_below (g := gb416) (o := b2 a1_0 a1_1 86) (Z BK416) hb); have n2_ := am (blk_below (g := gb417) (o := b2 0 0 86) (Z BK417) hb); have n3_ := am (blk_below (g := gb420) (o := b2 t418 t419 86) (Z BK420) hb); have n4_ := am (below_step (Y4 HB GE415 GE416 GE417 GE420) hb); clear BK415; clear BK416; clear BK417; clear BK420; clear HB; have BK415 := n0_; have BK416 := n1_; have BK417 := n2_; have BK420 := n3_; have HB := n4_; clear n0_ n1_ n2_ n3_ n4_; (try clear hb); (try clear hb2); (try clear hk); (try clear hi); have hcz49_0 : w48.cell? ⟨gb416, 0, none⟩ = some (.int .i64 a1_0) := bc BK416 0; have hcz49_1 : w48.cell? ⟨gb416, 1, none⟩ = some (.int .i64 a1_1) := bc BK416 1; have hfz49_0 := blk_frozen BK416.out 0; have hfz49_1 := blk_frozen BK416.out 1) | (go_at_call 124; (with_reducible refine (impl_Range_empty.calls a1_0 a1_1 t424 _ A37.out).mono ?_); rintro e w50 ⟨rfl, hb⟩; have n0_ := am (blk_below (g := gb415) (o := b2 a0_0 a0_1 86) (Z BK415) hb); have n1_ := am (blk_below (g := gb416) (o := b2 a1_0 a1_1 86) (Z BK416) hb); have n2_ := am (blk_below (g := gb417) (o := b2 0 0 86) (Z BK417) hb); have n3_ := am (blk_below (g := gb420) (o := b2 t418 t419 86) (Z BK420) hb); have n4_ := am (below_step (Y4 HB GE415 GE416 GE417 GE420) hb); clear BK415; clear BK416; clear BK417; clear BK420; clear HB; have BK415 := n0_; have BK416 := n1_; have BK417 := n2_; have BK420 := n3_; have HB := n4_; clear n0_ n1_ n2_ n3_ n4_; (try clear hb); (try clear hb2); (try clear hk); (try clear hi)))
     go_meet
     case rel => exact ⟨_, (t424), (by first | rfl | (simp; done) | (simp [*]; done)), H', ⟨by first | omega | exact Nat.le_refl _⟩, ⟨Z BK415⟩, ⟨Z BK416⟩, ⟨Z BK417⟩, ⟨Z BK420⟩, ⟨Y4 HB GE415 GE416 GE417 GE420⟩⟩
   ·replace c23 := Bool.eq_false_iff.mpr c23
    subst c23
    have H1 : (impl_RangeWiden.j0 k l2 true a0_0 a0_1 t418 t419) = some (r1, r2) := by rw [if_neg (show ¬ (false = true) by decide)] at H; exact H
    clear H
    have H := H1
    clear H1
    have H' := am H
    clear H
    have hnb51 := NB415_416.out
    have hnc51 := NB416_415.out
    have hnb52 := NB415_417.out
    have hnc52 := NB417_415.out
    have hnb53 := NB415_420.out
    have hnc53 := NB420_415.out
    have hcz54_0 : w15.cell? ⟨gb415, 0, none⟩ = some (.int .i64 a0_0) := bc BK415 0
    have hcz54_1 : w15.cell? ⟨gb415, 1, none⟩ = some (.int .i64 a0_1) := bc BK415 1
    have hfz54_0 := blk_frozen BK415.out 0
    have hfz54_1 := blk_frozen BK415.out 1
    go_wp2_with (first | ((with_reducible refine gate_callee (f := 120) rfl ?_); refine goesL_ (some 18) rfl rfl Try.func120 (by kernel_rfl) rfl #[.agg #[.int .i64 a0_0, .int .i64 a0_1]] rfl mz ?_; (with_reducible refine (impl_RangeOk.calls a0_0 a0_1 true _ A20.out).mono ?_); rintro e w55 ⟨rfl, hb⟩; refine ⟨_, rfl, ?_⟩; have n0_ := am (blk_below (g := gb415) (o := b2 a0_0 a0_1 86) (by (with_reducible repeat (first | refine blk_drewN ?_ _ | refine blk_drew ?_ | refine blk_alloc ?_ _)); refine blk_far ?_ NB415_420.out _; (with_reducible repeat (first | refine blk_drewN ?_ _ | refine blk_drew ?_ | refine blk_alloc ?_ _)); refine blk_far ?_ NB415_420.out _; (with_reducible repeat (first | refine blk_drewN ?_ _ | refine blk_drew ?_ | refine blk_alloc ?_ _)); exact BK415.out) hb); have n1_ := am (blk_below (g := gb416) (o := b2 a1_0 a1_1 86) (by (with_reducible repeat (first | refine blk_drewN ?_ _ | refine blk_drew ?_ | refine blk_alloc ?_ _)); refine blk_far ?_ NB416_420.out _; (with_reducible repeat (first | refine blk_drewN ?_ _ | refine blk_drew ?_ | refine blk_alloc ?_ _)); refine blk_far ?_ NB416_420.out _; (with_reducible repeat (first | refine blk_drewN ?_ _ | refine blk_drew ?_ | refine blk_alloc ?_ _)); exact BK416.out) hb); have n2_ := am (blk_below (g := gb417) (o := b2 0 0 86) (by (with_reducible repeat (first | refine blk_drewN ?_ _ | refine blk_drew ?_ | refine blk_alloc ?_ _)); refine blk_far ?_ NB417_420.out _; (with_reducible repeat (first | refine blk_drewN ?_ _ | refine blk_drew ?_ | refine blk_alloc ?_ _)); refine blk_far ?_ NB417_420.out _; (with_reducible repeat (first | refine blk_drewN ?_ _ | refine blk_drew ?_ | refine blk_alloc ?_ _)); exact BK417.out) hb); have n3_ := am (blk_below (g := gb420) (o := b2 t418 t419 86) (by (with_reducible repeat (first | refine blk_drewN ?_ _ | refine blk_drew ?_ | refine blk_alloc ?_ _)); refine blk_put (cs := #[.int .i64 t418, .int .i64 0]) ?_ 1 _ rfl; (with_reducible repeat (first | refine blk_drewN ?_ _ | refine blk_drew ?_ | refine blk_alloc ?_ _)); refine blk_put (cs := #[.int .i64 0, .int .i64 0]) ?_ 0 _ rfl; (with_reducible repeat (first | refine blk_drewN ?_ _ | refine blk_drew ?_ | refine blk_alloc ?_ _)); exact BK420.out) hb); have n4_ := am (below_step (Y4 HB GE415 GE416 GE417 GE420) hb); clear BK415; clear BK416; clear BK417; clear BK420; clear HB; have BK415 := n0_; have BK416 := n1_; have BK417 := n2_; have BK420 := n3_; have HB := n4_; clear n0_ n1_ n2_ n3_ n4_; (try clear hb); (try clear hb2); (try clear hk); (try clear hi); have hnb56 := NB416_417.out; have hnc56 := NB417_416.out; have hnb57 := NB416_420.out; have hnc57 := NB420_416.out; have hcz58_0 : w55.cell? ⟨gb416, 0, none⟩ = some (.int .i64 a1_0) := bc BK416 0; have hcz58_1 : w55.cell? ⟨gb416, 1, none⟩ = some (.int .i64 a1_1) := bc BK416 1; have hfz58_0 := blk_frozen BK416.out 0; have hfz58_1 := blk_frozen BK416.out 1) | (go_at_call 120; (with_reducible refine (impl_RangeOk.calls a1_0 a1_1 false _ A22.out).mono ?_); rintro e w59 ⟨rfl, hb⟩; have n0_ := am (blk_below (g := gb415) (o := b2 a0_0 a0_1 86) (Z BK415) hb); have n1_ := am (blk_below (g := gb416) (o := b2 a1_0 a1_1 86) (Z BK416) hb); have n2_ := am (blk_below (g := gb417) (o := b2 0 0 86) (Z BK417) hb); have n3_ := am (blk_below (g := gb420) (o := b2 t418 t419 86) (Z BK420) hb); have n4_ := am (below_step (Y4 HB GE415 GE416 GE417 GE420) hb); clear BK415; clear BK416; clear BK417; clear BK420; clear HB; have BK415 := n0_; have BK416 := n1_; have BK417 := n2_; have BK420 := n3_; have HB := n4_; clear n0_ n1_ n2_ n3_ n4_; (try clear hb); (try clear hb2); (try clear hk); (try clear hi)))
    go_meet
    case rel => exact ⟨_, (true), (by first | rfl | (simp; done) | (simp [*]; done)), H', ⟨by first | omega | exact Nat.le_refl _⟩, ⟨Z BK415⟩, ⟨Z BK416⟩, ⟨Z BK417⟩, ⟨Z BK420⟩, ⟨Y4 HB GE415 GE416 GE417 GE420⟩⟩
  ·replace c21 := Bool.eq_false_iff.mpr c21
   subst c21
   have H1 : (impl_RangeWiden.j0 k l2 true a0_0 a0_1 t418 t419) = some (r1, r2) := by rw [if_neg (show ¬ (false = true) by decide)] at H; exact H
   clear H
   have H := H1
   clear H1
   have H' := am H
   clear H
   have hnb60 := NB415_416.out
   have hnc60 := NB416_415.out
   have hnb61 := NB415_417.out
   have hnc61 := NB417_415.out
   have hnb62 := NB415_420.out
   have hnc62 := NB420_415.out
   have hcz63_0 : w15.cell? ⟨gb415, 0, none⟩ = some (.int .i64 a0_0) := bc BK415 0
   have hcz63_1 : w15.cell? ⟨gb415, 1, none⟩ = some (.int .i64 a0_1) := bc BK415 1
   have hfz63_0 := blk_frozen BK415.out 0
   have hfz63_1 := blk_frozen BK415.out 1
   go_wp2_with (first | ((with_reducible refine gate_callee (f := 120) rfl ?_); refine goesL_ (some 18) rfl rfl Try.func120 (by kernel_rfl) rfl #[.agg #[.int .i64 a0_0, .int .i64 a0_1]] rfl mz ?_; (with_reducible refine (impl_RangeOk.calls a0_0 a0_1 false _ A20.out).mono ?_); rintro e w64 ⟨rfl, hb⟩; refine ⟨_, rfl, ?_⟩; have n0_ := am (blk_below (g := gb415) (o := b2 a0_0 a0_1 86) (by (with_reducible repeat (first | refine blk_drewN ?_ _ | refine blk_drew ?_ | refine blk_alloc ?_ _)); refine blk_far ?_ NB415_420.out _; (with_reducible repeat (first | refine blk_drewN ?_ _ | refine blk_drew ?_ | refine blk_alloc ?_ _)); refine blk_far ?_ NB415_420.out _; (with_reducible repeat (first | refine blk_drewN ?_ _ | refine blk_drew ?_ | refine blk_alloc ?_ _)); exact BK415.out) hb); have n1_ := am (blk_below (g := gb416) (o := b2 a1_0 a1_1 86) (by (with_reducible repeat (first | refine blk_drewN ?_ _ | refine blk_drew ?_ | refine blk_alloc ?_ _)); refine blk_far ?_ NB416_420.out _; (with_reducible repeat (first | refine blk_drewN ?_ _ | refine blk_drew ?_ | refine blk_alloc ?_ _)); refine blk_far ?_ NB416_420.out _; (with_reducible repeat (first | refine blk_drewN ?_ _ | refine blk_drew ?_ | refine blk_alloc ?_ _)); exact BK416.out) hb); have n2_ := am (blk_below (g := gb417) (o := b2 0 0 86) (by (with_reducible repeat (first | refine blk_drewN ?_ _ | refine blk_drew ?_ | refine blk_alloc ?_ _)); refine blk_far ?_ NB417_420.out _; (with_reducible repeat (first | refine blk_drewN ?_ _ | refine blk_drew ?_ | refine blk_alloc ?_ _)); refine blk_far ?_ NB417_420.out _; (with_reducible repeat (first | refine blk_drewN ?_ _ | refine blk_drew ?_ | refine blk_alloc ?_ _)); exact BK417.out) hb); have n3_ := am (blk_below (g := gb420) (o := b2 t418 t419 86) (by (with_reducible repeat (first | refine blk_drewN ?_ _ | refine blk_drew ?_ | refine blk_alloc ?_ _)); refine blk_put (cs := #[.int .i64 t418, .int .i64 0]) ?_ 1 _ rfl; (with_reducible repeat (first | refine blk_drewN ?_ _ | refine blk_drew ?_ | refine blk_alloc ?_ _)); refine blk_put (cs := #[.int .i64 0, .int .i64 0]) ?_ 0 _ rfl; (with_reducible repeat (first | refine blk_drewN ?_ _ | refine blk_drew ?_ | refine blk_alloc ?_ _)); exact BK420.out) hb); have n4_ := am (below_step (Y4 HB GE415 GE416 GE417 GE420) hb); clear BK415; clear BK416; clear BK417; clear BK420; clear HB; have BK415 := n0_; have BK416 := n1_; have BK417 := n2_; have BK420 := n3_; have HB := n4_; clear n0_ n1_ n2_ n3_ n4_; (try clear hb); (try clear hb2); (try clear hk); (try clear hi)))
   go_meet
   case rel => exact ⟨_, (true), (by first | rfl | (simp; done) | (simp [*]; done)), H', ⟨by first | omega | exact Nat.le_refl _⟩, ⟨Z BK415⟩, ⟨Z BK416⟩, ⟨Z BK417⟩, ⟨Z BK420⟩, ⟨Y4 HB GE415 GE416 GE417 GE420⟩⟩
 case rest =>
  clear HC5
  try clear c1
  try clear c2
  try clear p2
  try clear c3
  try clear c4
  try clear c5
  try clear c6
  try clear c7
  try clear c8
  try clear c9
  try clear c10
  try clear c12
  try clear c16
  try clear c17
  try clear c18
  try clear c21
  try clear c23
  try clear c25
  try clear c26
  try clear c27
  try clear c28
  try clear c31
  try clear c32
  try clear c38
  try clear c39
  try clear c40
  try clear c43
  try clear c44
  try clear c51
  try clear c52
  try clear c53
  try clear c56
  try clear c57
  try clear c60
  try clear c61
  try clear c62
  try clear hcz11_0
  try clear hcz11_1
  try clear hcz13_0
  try clear hcz13_1
  try clear hcz19_0
  try clear hcz19_1
  try clear hcz29_0
  try clear hcz29_1
  try clear hcz33_0
  try clear hcz33_1
  try clear hcz35_0
  try clear hcz35_1
  try clear hcz41_0
  try clear hcz41_1
  try clear hcz45_0
  try clear hcz45_1
  try clear hcz47_0
  try clear hcz47_1
  try clear hcz49_0
  try clear hcz49_1
  try clear hcz54_0
  try clear hcz54_1
  try clear hcz58_0
  try clear hcz58_1
  try clear hcz63_0
  try clear hcz63_1
  try clear hfz11_0
  try clear hfz11_1
  try clear hfz13_0
  try clear hfz13_1
  try clear hfz19_0
  try clear hfz19_1
  try clear hfz29_0
  try clear hfz29_1
  try clear hfz33_0
  try clear hfz33_1
  try clear hfz35_0
  try clear hfz35_1
  try clear hfz41_0
  try clear hfz41_1
  try clear hfz45_0
  try clear hfz45_1
  try clear hfz47_0
  try clear hfz47_1
  try clear hfz49_0
  try clear hfz49_1
  try clear hfz54_0
  try clear hfz54_1
  try clear hfz58_0
  try clear hfz58_1
  try clear hfz63_0
  try clear hfz63_1
  obtain ⟨kq, x32_4, rfl, HA, HJ4, BK415, BK416, BK417, BK420, HB⟩ := hcut
  cases kq with
  | zero => exact absurd HA.out (by simp [impl_RangeWiden.j0])
  | succ kj4 =>
   have H := HA.out
   clear HA
   simp only [impl_RangeWiden.j0] at H
   by_cases c65 : x32_4 = true
   ·subst c65
    have H1 : (some (t418, t419)) = some (r1, r2) := by rw [if_pos rfl] at H; exact H
    clear H
    have H := H1
    clear H1
    simp only [Option.some.injEq, Prod.mk.injEq] at H
    obtain ⟨rfl, rfl⟩ := H
    have hnb66 := NB420_415.out
    have hnc66 := NB415_420.out
    have hnb67 := NB420_416.out
    have hnc67 := NB416_420.out
    have hnb68 := NB420_417.out
    have hnc68 := NB417_420.out
    have hcz69_0 : wc.cell? ⟨gb420, 0, none⟩ = some (.int .i64 t418) := bc BK420 0
    have hcz69_1 : wc.cell? ⟨gb420, 1, none⟩ = some (.int .i64 t419) := bc BK420 1
    have hfz69_0 := blk_frozen BK420.out 0
    have hfz69_1 := blk_frozen BK420.out 1
    have hnb70 := NB417_415.out
    have hnc70 := NB415_417.out
    have hnb71 := NB417_416.out
    have hnc71 := NB416_417.out
    have hcz72_0 : wc.cell? ⟨gb417, 0, none⟩ = some (.int .i64 0) := bc BK417 0
    have hcz72_1 : wc.cell? ⟨gb417, 1, none⟩ = some (.int .i64 0) := bc BK417 1
    have hfz72_0 := blk_frozen BK417.out 0
    have hfz72_1 := blk_frozen BK417.out 1
    go_wp2
    refine bodyPost_ret (results_cell_row rfl _ _ gb417 86 #[.int .i64 t418, .int .i64 t419] (0, 0) _ rfl (by (with_reducible repeat (first | refine blk_drewN ?_ _ | refine blk_drew ?_ | refine blk_alloc ?_ _)); refine blk_put (cs := #[.int .i64 t418, .int .i64 0]) ?_ 1 _ rfl; (with_reducible repeat (first | refine blk_drewN ?_ _ | refine blk_drew ?_ | refine blk_alloc ?_ _)); refine blk_put (cs := #[.int .i64 0, .int .i64 0]) ?_ 0 _ rfl; (with_reducible repeat (first | refine blk_drewN ?_ _ | refine blk_drew ?_ | refine blk_alloc ?_ _)); exact BK417.out) Try.underlying86 rfl (by kernel_rfl)) rfl ?_
    exact ⟨by first | rfl | (simp [errW_none, errW_some] <;> rfl) | (simp [*, errW_none, errW_some] <;> rfl), Y4 HB GE415 GE416 GE417 GE420⟩
   ·replace c65 := Bool.eq_false_iff.mpr c65
    subst c65
    have H1 : (if t418 < a0_0 then (impl_RangeWiden.l0 kj4 l2 (-2147483648) l2 (l2.length : Int) 0 a0_0 a0_1 t418 t419) else (impl_RangeWiden.j2 kj4 l2 a0_0 a0_1 t418 t419)) = some (r1, r2) := by rw [if_neg (show ¬ (false = true) by decide)] at H; exact H
    clear H
    have H := H1
    clear H1
    have HC73 := am H
    clear H
    have hnb74 := NB420_415.out
    have hnc74 := NB415_420.out
    have hnb75 := NB420_416.out
    have hnc75 := NB416_420.out
    have hnb76 := NB420_417.out
    have hnc76 := NB417_420.out
    have hcz77_0 : wc.cell? ⟨gb420, 0, none⟩ = some (.int .i64 t418) := bc BK420 0
    have hcz77_1 : wc.cell? ⟨gb420, 1, none⟩ = some (.int .i64 t419) := bc BK420 1
    have hfz77_0 := blk_frozen BK420.out 0
    have hfz77_1 := blk_frozen BK420.out 1
    have hnb78 := NB415_416.out
    have hnc78 := NB416_415.out
    have hnb79 := NB415_417.out
    have hnc79 := NB417_415.out
    have hcz80_0 : wc.cell? ⟨gb415, 0, none⟩ = some (.int .i64 a0_0) := bc BK415 0
    have hcz80_1 : wc.cell? ⟨gb415, 1, none⟩ = some (.int .i64 a0_1) := bc BK415 1
    have hfz80_0 := blk_frozen BK415.out 0
    have hfz80_1 := blk_frozen BK415.out 1
    go_upto_if 38 with (fail)
    go_cut [] (fun wc => ∃ (kq : Nat) (x421000_72 : Int), Aside0 (impl_RangeWiden.j2 kq l2 a0_0 a0_1 x421000_72 t419 = some (r1, r2)) ∧ Aside0 (kq ≤ kj4) ∧ Aside0 (wc.heap[gb415]? = some (.cells #[.int .i64 a0_0, .int .i64 a0_1] 86 (0, 0))) ∧ Aside0 (wc.heap[gb416]? = some (.cells #[.int .i64 a1_0, .int .i64 a1_1] 86 (0, 0))) ∧ Aside0 (wc.heap[gb417]? = some (.cells #[.int .i64 0, .int .i64 0] 86 (0, 0))) ∧ Aside0 (wc.heap[gb420]? = some (.cells #[.int .i64 x421000_72, .int .i64 t419] 86 (0, 0))) ∧ Aside0 (Below w.heap.size w wc))
    case first =>
     have H := HC73.out
     clear HC73
     by_cases c81 : t418 < a0_0
     ·rw [if_pos c81] at H
      have c81b0 : decide (t418 < a0_0) = true := decide_eq_true c81
      clear c81
      (first | rw [c81b0] | (simp only [i64_w, i32_w]; rw [c81b0]) | skip)
      have H' := am H
      clear H
      go_wp2
      go_loopg [8, 41] kj4 (fun kq v8 v41 w' => ∃ (x8_2 : Int) (x41_2 : Int), v8 = .int .i64 x8_2 ∧ v41 = .int .i64 x41_2 ∧ Aside0 (impl_RangeWiden.l0 kq l2 x8_2 l2 (l2.length : Int) x41_2 a0_0 a0_1 t418 t419 = some (r1, r2)) ∧ Aside0 (kq ≤ kj4) ∧ Aside0 (w'.heap[gb415]? = some (.cells #[.int .i64 a0_0, .int .i64 a0_1] 86 (0, 0))) ∧ Aside0 (w'.heap[gb416]? = some (.cells #[.int .i64 a1_0, .int .i64 a1_1] 86 (0, 0))) ∧ Aside0 (w'.heap[gb417]? = some (.cells #[.int .i64 0, .int .i64 0] 86 (0, 0))) ∧ Aside0 (w'.heap[gb420]? = some (.cells #[.int .i64 t418, .int .i64 t419] 86 (0, 0))) ∧ Aside0 (Below w.heap.size w w'))
      case atStart => exact ⟨((-2147483648)), (0), (by first | rfl | (simp; done) | (simp [*]; done)), (by first | rfl | (simp; done) | (simp [*]; done)), H', ⟨Nat.le_refl _⟩, ⟨Z BK415⟩, ⟨Z BK416⟩, ⟨Z BK417⟩, ⟨Z BK420⟩, ⟨Y4 HB GE415 GE416 GE417 GE420⟩⟩
      case round =>
       clear H'
       try clear c1
       try clear c2
       try clear p2
       try clear c3
       try clear c4
       try clear c5
       try clear c6
       try clear c7
       try clear c8
       try clear c9
       try clear c10
       try clear c12
       try clear c16
       try clear c17
       try clear c18
       try clear c21
       try clear c23
       try clear c25
       try clear c26
       try clear c27
       try clear c28
       try clear c31
       try clear c32
       try clear c38
       try clear c39
       try clear c40
       try clear c43
       try clear c44
       try clear c51
       try clear c52
       try clear c53
       try clear c56
       try clear c57
       try clear c60
       try clear c61
       try clear c62
       try clear c65
       try clear c66
       try clear c67
       try clear c68
       try clear c70
       try clear c71
       try clear c74
       try clear c75
       try clear c76
       try clear c78
       try clear c79
       try clear c81
       try clear c81b0
       try clear hcz11_0
       try clear hcz11_1
       try clear hcz13_0
       try clear hcz13_1
       try clear hcz19_0
       try clear hcz19_1
       try clear hcz29_0
       try clear hcz29_1
       try clear hcz33_0
       try clear hcz33_1
       try clear hcz35_0
       try clear hcz35_1
       try clear hcz41_0
       try clear hcz41_1
       try clear hcz45_0
       try clear hcz45_1
       try clear hcz47_0
       try clear hcz47_1
       try clear hcz49_0
       try clear hcz49_1
       try clear hcz54_0
       try clear hcz54_1
       try clear hcz58_0
       try clear hcz58_1
       try clear hcz63_0
       try clear hcz63_1
       try clear hcz69_0
       try clear hcz69_1
       try clear hcz72_0
       try clear hcz72_1
       try clear hcz77_0
       try clear hcz77_1
       try clear hcz80_0
       try clear hcz80_1
       try clear hfz11_0
       try clear hfz11_1
       try clear hfz13_0
       try clear hfz13_1
       try clear hfz19_0
       try clear hfz19_1
       try clear hfz29_0
       try clear hfz29_1
       try clear hfz33_0
       try clear hfz33_1
       try clear hfz35_0
       try clear hfz35_1
       try clear hfz41_0
       try clear hfz41_1
       try clear hfz45_0
       try clear hfz45_1
       try clear hfz47_0
       try clear hfz47_1
       try clear hfz49_0
       try clear hfz49_1
       try clear hfz54_0
       try clear hfz54_1
       try clear hfz58_0
       try clear hfz58_1
       try clear hfz63_0
       try clear hfz63_1
       try clear hfz69_0
       try clear hfz69_1
       try clear hfz72_0
       try clear hfz72_1
       try clear hfz77_0
       try clear hfz77_1
       try clear hfz80_0
       try clear hfz80_1
       try clear p2
       obtain ⟨x8_2, x41_2, rfl, rfl, HA, HK2, BK415, BK416, BK417, BK420, HB⟩ := hrel
       cases gk with
       | zero => exact absurd HA.out (by simp [impl_RangeWiden.l0])
       | succ k2 =>
        have H := HA.out
        clear HA
        simp only [impl_RangeWiden.l0] at H
        by_cases c82 : x41_2 < (l2.length : Int)
        ·rw [if_pos c82] at H
         have c82b0 : decide (x41_2 < (l2.length : Int)) = true := decide_eq_true c82
         clear c82
         by_cases c83 : 0 ≤ x41_2
         ·rw [if_pos c83] at H
          have c83b0 : decide (0 ≤ x41_2) = true := decide_eq_true c83
          clear c83
          by_cases c84 : x41_2 < (l2.length : Int)
          ·rw [if_pos c84] at H
           have c84b0 : decide (x41_2 < (l2.length : Int)) = true := decide_eq_true c84
           clear c84
           replace H := Option.bind_eq_some_iff.mp H
           obtain ⟨t426, A850, H⟩ := H
           replace H : (if t426 = true then (if (rd l2 x41_2) ≤ t418 then (impl_RangeWiden.l0 k2 l2 (mx x8_2 (rd l2 x41_2)) l2 (l2.length : Int) (wrap64 (x41_2 + 1)) a0_0 a0_1 t418 t419) else (impl_RangeWiden.l0 k2 l2 x8_2 l2 (l2.length : Int) (wrap64 (x41_2 + 1)) a0_0 a0_1 t418 t419)) else (impl_RangeWiden.l0 k2 l2 x8_2 l2 (l2.length : Int) (wrap64 (x41_2 + 1)) a0_0 a0_1 t418 t419)) = some (r1, r2) := H
           have A85 := am A850
           clear A850
           by_cases c86 : t426 = true
           ·subst c86
            have H1 : (if (rd l2 x41_2) ≤ t418 then (impl_RangeWiden.l0 k2 l2 (mx x8_2 (rd l2 x41_2)) l2 (l2.length : Int) (wrap64 (x41_2 + 1)) a0_0 a0_1 t418 t419) else (impl_RangeWiden.l0 k2 l2 x8_2 l2 (l2.length : Int) (wrap64 (x41_2 + 1)) a0_0 a0_1 t418 t419)) = some (r1, r2) := by rw [if_pos rfl] at H; exact H
            clear H
            have H := H1
            clear H1
            by_cases c87 : (rd l2 x41_2) ≤ t418
            ·rw [if_pos c87] at H
             have c87b0 : decide ((rd l2 x41_2) ≤ t418) = true := decide_eq_true c87
             clear c87
             obtain ⟨ji88, hji88⟩ : ∃ j_ : Int, (mx x8_2 (rd l2 x41_2)) = j_ := ⟨_, rfl⟩
             replace H : (impl_RangeWiden.l0 k2 l2 ji88 l2 (l2.length : Int) (wrap64 (x41_2 + 1)) a0_0 a0_1 t418 t419) = some (r1, r2) := by first | (rw [hji88] at H; exact H) | (simp only [hji88] at H ⊢; exact H)
             (try rw [hji88] at A85)
             have hji88_ : (if x8_2 < (rd l2 x41_2) then (rd l2 x41_2) else x8_2) = ji88 := hji88
             have H' := am H
             clear H
             have p425 : 0 ≤ (x41_2 : Int) := oz
             have q425 : x41_2 < (l2.length : Int) := oz
             obtain ⟨ad425, e425, hx425_0⟩ := Kd.at_int HR2.out x41_2 p425 q425
             cases e425
             replace hx425_0 := (HB.out.cell (World.block_lt_of_cell? w _ hx425_0)).trans hx425_0
             replace p425 := eq_true p425
             replace q425 := eq_true q425
             go_wp2_with (first | ((with_reducible refine gate_callee (f := 95) rfl ?_); refine goesL_ (some 46) rfl rfl Try.func95 (by kernel_rfl) rfl #[.int .i64 (rd l2 x41_2)] rfl mz ?_; (with_reducible refine (impl_NumOk.calls (rd l2 x41_2) true _ A85.out).mono ?_); rintro e w' ⟨rfl, ⟨nd, rfl⟩⟩; refine ⟨_, rfl, ?_⟩; have hnb89 := NB420_415.out; have hnc89 := NB415_420.out; have hnb90 := NB420_416.out; have hnc90 := NB416_420.out; have hnb91 := NB420_417.out; have hnc91 := NB417_420.out; have hcz92_0 : wr.cell? ⟨gb420, 0, none⟩ = some (.int .i64 t418) := bc BK420 0; have hcz92_1 : wr.cell? ⟨gb420, 1, none⟩ = some (.int .i64 t419) := bc BK420 1; have hfz92_0 := blk_frozen BK420.out 0; have hfz92_1 := blk_frozen BK420.out 1))
             go_roundg k2
             case measure => have := HJ4.out; have := HK2.out; omega
             case rel => exact ⟨(ji88), (wrap64 (x41_2 + 1)), (by first | rfl | (simp; done) | (simp only [← hji88] <;> (first | rfl | simp)) | (simp [*]; done)), (by first | rfl | (simp; done) | (simp [*]; done)), H', ⟨by have := HJ4.out; have := HK2.out; omega⟩, ⟨Z BK415⟩, ⟨Z BK416⟩, ⟨Z BK417⟩, ⟨Z BK420⟩, ⟨Y4 HB GE415 GE416 GE417 GE420⟩⟩
            ·rw [if_neg c87] at H
             have c87b0 : decide ((rd l2 x41_2) ≤ t418) = false := decide_eq_false c87
             clear c87
             have H' := am H
             clear H
             have p425 : 0 ≤ (x41_2 : Int) := oz
             have q425 : x41_2 < (l2.length : Int) := oz
             obtain ⟨ad425, e425, hx425_0⟩ := Kd.at_int HR2.out x41_2 p425 q425
             cases e425
             replace hx425_0 := (HB.out.cell (World.block_lt_of_cell? w _ hx425_0)).trans hx425_0
             replace p425 := eq_true p425
             replace q425 := eq_true q425
             go_wp2_with (first | ((with_reducible refine gate_callee (f := 95) rfl ?_); refine goesL_ (some 46) rfl rfl Try.func95 (by kernel_rfl) rfl #[.int .i64 (rd l2 x41_2)] rfl mz ?_; (with_reducible refine (impl_NumOk.calls (rd l2 x41_2) true _ A85.out).mono ?_); rintro e w' ⟨rfl, ⟨nd, rfl⟩⟩; refine ⟨_, rfl, ?_⟩; have hnb93 := NB420_415.out; have hnc93 := NB415_420.out; have hnb94 := NB420_416.out; have hnc94 := NB416_420.out; have hnb95 := NB420_417.out; have hnc95 := NB417_420.out; have hcz96_0 : wr.cell? ⟨gb420, 0, none⟩ = some (.int .i64 t418) := bc BK420 0; have hcz96_1 : wr.cell? ⟨gb420, 1, none⟩ = some (.int .i64 t419) := bc BK420 1; have hfz96_0 := blk_frozen BK420.out 0; have hfz96_1 := blk_frozen BK420.out 1))
             go_roundg k2
             case measure => have := HJ4.out; have := HK2.out; omega
             case rel => exact ⟨(x8_2), (wrap64 (x41_2 + 1)), (by first | rfl | (simp; done) | (simp [*]; done)), (by first | rfl | (simp; done) | (simp [*]; done)), H', ⟨by have := HJ4.out; have := HK2.out; omega⟩, ⟨Z BK415⟩, ⟨Z BK416⟩, ⟨Z BK417⟩, ⟨Z BK420⟩, ⟨Y4 HB GE415 GE416 GE417 GE420⟩⟩
           ·replace c86 := Bool.eq_false_iff.mpr c86
            subst c86
            have H1 : (impl_RangeWiden.l0 k2 l2 x8_2 l2 (l2.length : Int) (wrap64 (x41_2 + 1)) a0_0 a0_1 t418 t419) = some (r1, r2) := by rw [if_neg (show ¬ (false = true) by decide)] at H; exact H
            clear H
            have H := H1
            clear H1
            have H' := am H
            clear H
            have p425 : 0 ≤ (x41_2 : Int) := oz
            have q425 : x41_2 < (l2.length : Int) := oz
            obtain ⟨ad425, e425, hx425_0⟩ := Kd.at_int HR2.out x41_2 p425 q425
            cases e425
            replace hx425_0 := (HB.out.cell (World.block_lt_of_cell? w _ hx425_0)).trans hx425_0
            replace p425 := eq_true p425
            replace q425 := eq_true q425
            go_wp2_with (first | ((with_reducible refine gate_callee (f := 95) rfl ?_); refine goesL_ (some 46) rfl rfl Try.func95 (by kernel_rfl) rfl #[.int .i64 (rd l2 x41_2)] rfl mz ?_; (with_reducible refine (impl_NumOk.calls (rd l2 x41_2) false _ A85.out).mono ?_); rintro e w' ⟨rfl, ⟨nd, rfl⟩⟩; refine ⟨_, rfl, ?_⟩))
            go_roundg k2
            case measure => have := HJ4.out; have := HK2.out; omega
            case rel => exact ⟨(x8_2), (wrap64 (x41_2 + 1)), (by first | rfl | (simp; done) | (simp [*]; done)), (by first | rfl | (simp; done) | (simp [*]; done)), H', ⟨by have := HJ4.out; have := HK2.out; omega⟩, ⟨Z BK415⟩, ⟨Z BK416⟩, ⟨Z BK417⟩, ⟨Z BK420⟩, ⟨Y4 HB GE415 GE416 GE417 GE420⟩⟩
          ·rw [if_neg c84] at H
           exact absurd H (by simp)
         ·rw [if_neg c83] at H
          exact absurd H (by simp)
        ·rw [if_neg c82] at H
         have c82b0 : decide (x41_2 < (l2.length : Int)) = false := decide_eq_false c82
         clear c82
         have H' := am H
         clear H
         have hnb97 := NB420_415.out
         have hnc97 := NB415_420.out
         have hnb98 := NB420_416.out
         have hnc98 := NB416_420.out
         have hnb99 := NB420_417.out
         have hnc99 := NB417_420.out
         have hcz100_0 : wr.cell? ⟨gb420, 0, none⟩ = some (.int .i64 t418) := bc BK420 0
         have hcz100_1 : wr.cell? ⟨gb420, 1, none⟩ = some (.int .i64 t419) := bc BK420 1
         have hfz100_0 := blk_frozen BK420.out 0
         have hfz100_1 := blk_frozen BK420.out 1
         go_wp2
         go_meet
         case rel => exact ⟨_, (x8_2), H', ⟨by have := HJ4.out; have := HK2.out; first | omega | exact Nat.le_refl _⟩, ⟨by (with_reducible repeat (first | refine blk_drewN ?_ _ | refine blk_drew ?_ | refine blk_alloc ?_ _)); refine blk_far ?_ NB415_420.out _; (with_reducible repeat (first | refine blk_drewN ?_ _ | refine blk_drew ?_ | refine blk_alloc ?_ _)); exact BK415.out⟩, ⟨by (with_reducible repeat (first | refine blk_drewN ?_ _ | refine blk_drew ?_ | refine blk_alloc ?_ _)); refine blk_far ?_ NB416_420.out _; (with_reducible repeat (first | refine blk_drewN ?_ _ | refine blk_drew ?_ | refine blk_alloc ?_ _)); exact BK416.out⟩, ⟨by (with_reducible repeat (first | refine blk_drewN ?_ _ | refine blk_drew ?_ | refine blk_alloc ?_ _)); refine blk_far ?_ NB417_420.out _; (with_reducible repeat (first | refine blk_drewN ?_ _ | refine blk_drew ?_ | refine blk_alloc ?_ _)); exact BK417.out⟩, ⟨by (with_reducible repeat (first | refine blk_drewN ?_ _ | refine blk_drew ?_ | refine blk_alloc ?_ _)); refine blk_put (cs := #[.int .i64 t418, .int .i64 t419]) ?_ 0 _ rfl; (with_reducible repeat (first | refine blk_drewN ?_ _ | refine blk_drew ?_ | refine blk_alloc ?_ _)); exact BK420.out⟩, ⟨Y4 HB GE415 GE416 GE417 GE420⟩⟩
     ·rw [if_neg c81] at H
      have c81b0 : decide (t418 < a0_0) = false := decide_eq_false c81
      clear c81
      (first | rw [c81b0] | (simp only [i64_w, i32_w]; rw [c81b0]) | skip)
      have H' := am H
      clear H
      go_wp2
      go_meet
      case rel => exact ⟨_, (t418), H', ⟨by have := HJ4.out; first | omega | exact Nat.le_refl _⟩, ⟨Z BK415⟩, ⟨Z BK416⟩, ⟨Z BK417⟩, ⟨Z BK420⟩, ⟨Y4 HB GE415 GE416 GE417 GE420⟩⟩
    case rest =>
     clear HC73
     try clear c1
     try clear c2
     try clear p2
     try clear c3
     try clear c4
     try clear p4
     try clear q4
     try clear hx4
     try clear c5
     try clear c6
     try clear p6
     try clear c7
     try clear c8
     try clear c9
     try clear c10
     try clear c12
     try clear c16
     try clear c17
     try clear c18
     try clear c21
     try clear c23
     try clear c25
     try clear c26
     try clear c27
     try clear c28
     try clear c31
     try clear c32
     try clear c38
     try clear c39
     try clear c40
     try clear p42
     try clear q42
     try clear hx42
     try clear c43
     try clear c44
     try clear c51
     try clear c52
     try clear c53
     try clear c56
     try clear c57
     try clear c60
     try clear c61
     try clear c62
     try clear p64
     try clear c65
     try clear c66
     try clear c67
     try clear c68
     try clear c70
     try clear c71
     try clear c74
     try clear c75
     try clear c76
     try clear c78
     try clear c79
     try clear c81
     try clear c81b0
     try clear c82
     try clear c82b0
     try clear c83
     try clear c83b0
     try clear c84
     try clear c84b0
     try clear c85
     try clear c86
     try clear c87
     try clear c87b0
     try clear c89
     try clear c90
     try clear c91
     try clear c93
     try clear c94
     try clear c95
     try clear c97
     try clear c98
     try clear c99
     try clear hcz100_0
     try clear hcz100_1
     try clear hcz11_0
     try clear hcz11_1
     try clear hcz13_0
     try clear hcz13_1
     try clear hcz19_0
     try clear hcz19_1
     try clear hcz29_0
     try clear hcz29_1
     try clear hcz33_0
     try clear hcz33_1
     try clear hcz35_0
     try clear hcz35_1
     try clear hcz41_0
     try clear hcz41_1
     try clear hcz45_0
     try clear hcz45_1
     try clear hcz47_0
     try clear hcz47_1
     try clear hcz49_0
     try clear hcz49_1
     try clear hcz54_0
     try clear hcz54_1
     try clear hcz58_0
     try clear hcz58_1
     try clear hcz63_0
     try clear hcz63_1
     try clear hcz69_0
     try clear hcz69_1
     try clear hcz72_0
     try clear hcz72_1
     try clear hcz77_0
     try clear hcz77_1
     try clear hcz80_0
     try clear hcz80_1
     try clear hcz92_0
     try clear hcz92_1
     try clear hcz96_0
     try clear hcz96_1
     try clear hfz100_0
     try clear hfz100_1
     try clear hfz11_0
     try clear hfz11_1
     try clear hfz13_0
     try clear hfz13_1
     try clear hfz19_0
     try clear hfz19_1
     try clear hfz29_0
     try clear hfz29_1
     try clear hfz33_0
     try clear hfz33_1
     try clear hfz35_0
     try clear hfz35_1
     try clear hfz41_0
     try clear hfz41_1
     try clear hfz45_0
     try clear hfz45_1
     try clear hfz47_0
     try clear hfz47_1
     try clear hfz49_0
     try clear hfz49_1
     try clear hfz54_0
     try clear hfz54_1
     try clear hfz58_0
     try clear hfz58_1
     try clear hfz63_0
     try clear hfz63_1
     try clear hfz69_0
     try clear hfz69_1
     try clear hfz72_0
     try clear hfz72_1
     try clear hfz77_0
     try clear hfz77_1
     try clear hfz80_0
     try clear hfz80_1
     try clear hfz92_0
     try clear hfz92_1
     try clear hfz96_0
     try clear hfz96_1
     try clear hx425_0
     try clear p2
     try clear p425
     try clear q425
     obtain ⟨kq, x421000_72, HA, HJ72, BK415, BK416, BK417, BK420, HB⟩ := hcut
     cases kq with
     | zero => exact absurd HA.out (by simp [impl_RangeWiden.j2])
     | succ kj72 =>
      have H := HA.out
      clear HA
      simp only [impl_RangeWiden.j2] at H
      by_cases c101 : t419 > a0_1
      ·rw [if_pos c101] at H
       have c101b0 : decide (a0_1 < t419) = true := decide_eq_true c101
       clear c101
       have H' := am H
       clear H
       have hnb102 := NB420_415.out
       have hnc102 := NB415_420.out
       have hnb103 := NB420_416.out
       have hnc103 := NB416_420.out
       have hnb104 := NB420_417.out
       have hnc104 := NB417_420.out
       have hcz105_0 : wc.cell? ⟨gb420, 0, none⟩ = some (.int .i64 x421000_72) := bc BK420 0
       have hcz105_1 : wc.cell? ⟨gb420, 1, none⟩ = some (.int .i64 t419) := bc BK420 1
       have hfz105_0 := blk_frozen BK420.out 0
       have hfz105_1 := blk_frozen BK420.out 1
       have hnb106 := NB415_416.out
       have hnc106 := NB416_415.out
       have hnb107 := NB415_417.out
       have hnc107 := NB417_415.out
       have hcz108_0 : wc.cell? ⟨gb415, 0, none⟩ = some (.int .i64 a0_0) := bc BK415 0
       have hcz108_1 : wc.cell? ⟨gb415, 1, none⟩ = some (.int .i64 a0_1) := bc BK415 1
       have hfz108_0 := blk_frozen BK415.out 0
       have hfz108_1 := blk_frozen BK415.out 1
       go_wp2
       go_loopg [11, 66] kj72 (fun kq v11 v66 w' => ∃ (x11_3 : Int) (x66_3 : Int), v11 = .int .i64 x11_3 ∧ v66 = .int .i64 x66_3 ∧ Aside0 (impl_RangeWiden.l1 kq x11_3 l2 (l2.length : Int) x66_3 x421000_72 t419 = some (r1, r2)) ∧ Aside0 (kq ≤ kj72) ∧ Aside0 (w'.heap[gb415]? = some (.cells #[.int .i64 a0_0, .int .i64 a0_1] 86 (0, 0))) ∧ Aside0 (w'.heap[gb416]? = some (.cells #[.int .i64 a1_0, .int .i64 a1_1] 86 (0, 0))) ∧ Aside0 (w'.heap[gb417]? = some (.cells #[.int .i64 0, .int .i64 0] 86 (0, 0))) ∧ Aside0 (w'.heap[gb420]? = some (.cells #[.int .i64 x421000_72, .int .i64 t419] 86 (0, 0))) ∧ Aside0 (Below w.heap.size w w'))
       case atStart => exact ⟨(2147483647), (0), (by first | rfl | (simp; done) | (simp [*]; done)), (by first | rfl | (simp; done) | (simp [*]; done)), H', ⟨Nat.le_refl _⟩, ⟨Z BK415⟩, ⟨Z BK416⟩, ⟨Z BK417⟩, ⟨Z BK420⟩, ⟨Y4 HB GE415 GE416 GE417 GE420⟩⟩
       case round =>
        clear H'
        try clear c1
        try clear c2
        try clear p2
        try clear c3
        try clear c4
        try clear p4
        try clear q4
        try clear hx4
        try clear c5
        try clear c6
        try clear p6
        try clear c7
        try clear c8
        try clear c9
        try clear c10
        try clear c12
        try clear c16
        try clear c17
        try clear c18
        try clear c21
        try clear c23
        try clear c25
        try clear c26
        try clear c27
        try clear c28
        try clear c31
        try clear c32
        try clear c38
        try clear c39
        try clear c40
        try clear p42
        try clear q42
        try clear hx42
        try clear c43
        try clear c44
        try clear c51
        try clear c52
        try clear c53
        try clear c56
        try clear c57
        try clear c60
        try clear c61
        try clear c62
        try clear p64
        try clear c65
        try clear c66
        try clear c67
        try clear c68
        try clear c70
        try clear c71
        try clear c74
        try clear c75
        try clear c76
        try clear c78
        try clear c79
        try clear c81
        try clear c81b0
        try clear c82
        try clear c82b0
        try clear c83
        try clear c83b0
        try clear c84
        try clear c84b0
        try clear c85
        try clear c86
        try clear c87
        try clear c87b0
        try clear c89
        try clear c90
        try clear c91
        try clear c93
        try clear c94
        try clear c95
        try clear c97
        try clear c98
        try clear c99
        try clear c101
        try clear c101b0
        try clear c102
        try clear c103
        try clear c104
        try clear c106
        try clear c107
        try clear hcz100_0
        try clear hcz100_1
        try clear hcz105_0
        try clear hcz105_1
        try clear hcz108_0
        try clear hcz108_1
        try clear hcz11_0
        try clear hcz11_1
        try clear hcz13_0
        try clear hcz13_1
        try clear hcz19_0
        try clear hcz19_1
        try clear hcz29_0
        try clear hcz29_1
        try clear hcz33_0
        try clear hcz33_1
        try clear hcz35_0
        try clear hcz35_1
        try clear hcz41_0
        try clear hcz41_1
        try clear hcz45_0
        try clear hcz45_1
        try clear hcz47_0
        try clear hcz47_1
        try clear hcz49_0
        try clear hcz49_1
        try clear hcz54_0
        try clear hcz54_1
        try clear hcz58_0
        try clear hcz58_1
        try clear hcz63_0
        try clear hcz63_1
        try clear hcz69_0
        try clear hcz69_1
        try clear hcz72_0
        try clear hcz72_1
        try clear hcz77_0
        try clear hcz77_1
        try clear hcz80_0
        try clear hcz80_1
        try clear hcz92_0
        try clear hcz92_1
        try clear hcz96_0
        try clear hcz96_1
        try clear hfz100_0
        try clear hfz100_1
        try clear hfz105_0
        try clear hfz105_1
        try clear hfz108_0
        try clear hfz108_1
        try clear hfz11_0
        try clear hfz11_1
        try clear hfz13_0
        try clear hfz13_1
        try clear hfz19_0
        try clear hfz19_1
        try clear hfz29_0
        try clear hfz29_1
        try clear hfz33_0
        try clear hfz33_1
        try clear hfz35_0
        try clear hfz35_1
        try clear hfz41_0
        try clear hfz41_1
        try clear hfz45_0
        try clear hfz45_1
        try clear hfz47_0
        try clear hfz47_1
        try clear hfz49_0
        try clear hfz49_1
        try clear hfz54_0
        try clear hfz54_1
        try clear hfz58_0
        try clear hfz58_1
        try clear hfz63_0
        try clear hfz63_1
        try clear hfz69_0
        try clear hfz69_1
        try clear hfz72_0
        try clear hfz72_1
        try clear hfz77_0
        try clear hfz77_1
        try clear hfz80_0
        try clear hfz80_1
        try clear hfz92_0
        try clear hfz92_1
        try clear hfz96_0
        try clear hfz96_1
        try clear hx425_0
        try clear p2
        try clear p4
        try clear p42
        try clear p425
        try clear p6
        try clear p64
        try clear q4
        try clear q42
        try clear q425
        obtain ⟨x11_3, x66_3, rfl, rfl, HA, HK3, BK415, BK416, BK417, BK420, HB⟩ := hrel
        cases gk with
        | zero => exact absurd HA.out (by simp [impl_RangeWiden.l1])
        | succ k3 =>
         have H := HA.out
         clear HA
         simp only [impl_RangeWiden.l1] at H
         by_cases c109 : x66_3 < (l2.length : Int)
         ·rw [if_pos c109] at H
          have c109b0 : decide (x66_3 < (l2.length : Int)) = true := decide_eq_true c109
          clear c109
          by_cases c110 : 0 ≤ x66_3
          ·rw [if_pos c110] at H
           have c110b0 : decide (0 ≤ x66_3) = true := decide_eq_true c110
           clear c110
           by_cases c111 : x66_3 < (l2.length : Int)
           ·rw [if_pos c111] at H
            have c111b0 : decide (x66_3 < (l2.length : Int)) = true := decide_eq_true c111
            clear c111
            replace H := Option.bind_eq_some_iff.mp H
            obtain ⟨t428, A1120, H⟩ := H
            replace H : (if t428 = true then (if (rd l2 x66_3) ≥ t419 then (impl_RangeWiden.l1 k3 (mn x11_3 (rd l2 x66_3)) l2 (l2.length : Int) (wrap64 (x66_3 + 1)) x421000_72 t419) else (impl_RangeWiden.l1 k3 x11_3 l2 (l2.length : Int) (wrap64 (x66_3 + 1)) x421000_72 t419)) else (impl_RangeWiden.l1 k3 x11_3 l2 (l2.length : Int) (wrap64 (x66_3 + 1)) x421000_72 t419)) = some (r1, r2) := H
            have A112 := am A1120
            clear A1120
            by_cases c113 : t428 = true
            ·subst c113
             have H1 : (if (rd l2 x66_3) ≥ t419 then (impl_RangeWiden.l1 k3 (mn x11_3 (rd l2 x66_3)) l2 (l2.length : Int) (wrap64 (x66_3 + 1)) x421000_72 t419) else (impl_RangeWiden.l1 k3 x11_3 l2 (l2.length : Int) (wrap64 (x66_3 + 1)) x421000_72 t419)) = some (r1, r2) := by rw [if_pos rfl] at H; exact H
             clear H
             have H := H1
             clear H1
             by_cases c114 : (rd l2 x66_3) ≥ t419
             ·rw [if_pos c114] at H
              have c114b0 : decide (t419 ≤ (rd l2 x66_3)) = true := decide_eq_true c114
              clear c114
              obtain ⟨ji115, hji115⟩ : ∃ j_ : Int, (mn x11_3 (rd l2 x66_3)) = j_ := ⟨_, rfl⟩
              replace H : (impl_RangeWiden.l1 k3 ji115 l2 (l2.length : Int) (wrap64 (x66_3 + 1)) x421000_72 t419) = some (r1, r2) := by first | (rw [hji115] at H; exact H) | (simp only [hji115] at H ⊢; exact H)
              (try rw [hji115] at A112)
              have hji115_ : (if (rd l2 x66_3) < x11_3 then (rd l2 x66_3) else x11_3) = ji115 := hji115
              have H' := am H
              clear H
              have p427 : 0 ≤ (x66_3 : Int) := oz
              have q427 : x66_3 < (l2.length : Int) := oz
              obtain ⟨ad427, e427, hx427_0⟩ := Kd.at_int HR2.out x66_3 p427 q427
              cases e427
              replace hx427_0 := (HB.out.cell (World.block_lt_of_cell? w _ hx427_0)).trans hx427_0
              replace p427 := eq_true p427
              replace q427 := eq_true q427
              go_wp2_with (first | ((with_reducible refine gate_callee (f := 95) rfl ?_); refine goesL_ (some 71) rfl rfl Try.func95 (by kernel_rfl) rfl #[.int .i64 (rd l2 x66_3)] rfl mz ?_; (with_reducible refine (impl_NumOk.calls (rd l2 x66_3) true _ A112.out).mono ?_); rintro e w' ⟨rfl, ⟨nd, rfl⟩⟩; refine ⟨_, rfl, ?_⟩; have hnb116 := NB420_415.out; have hnc116 := NB415_420.out; have hnb117 := NB420_416.out; have hnc117 := NB416_420.out; have hnb118 := NB420_417.out; have hnc118 := NB417_420.out; have hcz119_0 : wr.cell? ⟨gb420, 0, none⟩ = some (.int .i64 x421000_72) := bc BK420 0; have hcz119_1 : wr.cell? ⟨gb420, 1, none⟩ = some (.int .i64 t419) := bc BK420 1; have hfz119_0 := blk_frozen BK420.out 0; have hfz119_1 := blk_frozen BK420.out 1))
              go_roundg k3
              case measure => have := HJ4.out; have := HJ72.out; have := HK3.out; omega
              case rel => exact ⟨(ji115), (wrap64 (x66_3 + 1)), (by first | rfl | (simp; done) | (simp only [← hji115] <;> (first | rfl | simp)) | (simp [*]; done)), (by first | rfl | (simp; done) | (simp [*]; done)), H', ⟨by have := HJ4.out; have := HJ72.out; have := HK3.out; omega⟩, ⟨Z BK415⟩, ⟨Z BK416⟩, ⟨Z BK417⟩, ⟨Z BK420⟩, ⟨Y4 HB GE415 GE416 GE417 GE420⟩⟩
             ·rw [if_neg c114] at H
              have c114b0 : decide (t419 ≤ (rd l2 x66_3)) = false := decide_eq_false c114
              clear c114
              have H' := am H
              clear H
              have p427 : 0 ≤ (x66_3 : Int) := oz
              have q427 : x66_3 < (l2.length : Int) := oz
              obtain ⟨ad427, e427, hx427_0⟩ := Kd.at_int HR2.out x66_3 p427 q427
              cases e427
              replace hx427_0 := (HB.out.cell (World.block_lt_of_cell? w _ hx427_0)).trans hx427_0
              replace p427 := eq_true p427
              replace q427 := eq_true q427
              go_wp2_with (first | ((with_reducible refine gate_callee (f := 95) rfl ?_); refine goesL_ (some 71) rfl rfl Try.func95 (by kernel_rfl) rfl #[.int .i64 (rd l2 x66_3)] rfl mz ?_; (with_reducible refine (impl_NumOk.calls (rd l2 x66_3) true _ A112.out).mono ?_); rintro e w' ⟨rfl, ⟨nd, rfl⟩⟩; refine ⟨_, rfl, ?_⟩; have hnb120 := NB420_415.out; have hnc120 := NB415_420.out; have hnb121 := NB420_416.out; have hnc121 := NB416_420.out; have hnb122 := NB420_417.out; have hnc122 := NB417_420.out; have hcz123_0 : wr.cell? ⟨gb420, 0, none⟩ = some (.int .i64 x421000_72) := bc BK420 0; have hcz123_1 : wr.cell? ⟨gb420, 1, none⟩ = some (.int .i64 t419) := bc BK420 1; have hfz123_0 := blk_frozen BK420.out 0; have hfz123_1 := blk_frozen BK420.out 1))
              go_roundg k3
              case measure => have := HJ4.out; have := HJ72.out; have := HK3.out; omega
              case rel => exact ⟨(x11_3), (wrap64 (x66_3 + 1)), (by first | rfl | (simp; done) | (simp [*]; done)), (by first | rfl | (simp; done) | (simp [*]; done)), H', ⟨by have := HJ4.out; have := HJ72.out; have := HK3.out; omega⟩, ⟨Z BK415⟩, ⟨Z BK416⟩, ⟨Z BK417⟩, ⟨Z BK420⟩, ⟨Y4 HB GE415 GE416 GE417 GE420⟩⟩
            ·replace c113 := Bool.eq_false_iff.mpr c113
             subst c113
             have H1 : (impl_RangeWiden.l1 k3 x11_3 l2 (l2.length : Int) (wrap64 (x66_3 + 1)) x421000_72 t419) = some (r1, r2) := by rw [if_neg (show ¬ (false = true) by decide)] at H; exact H
             clear H
             have H := H1
             clear H1
             have H' := am H
             clear H
             have p427 : 0 ≤ (x66_3 : Int) := oz
             have q427 : x66_3 < (l2.length : Int) := oz
             obtain ⟨ad427, e427, hx427_0⟩ := Kd.at_int HR2.out x66_3 p427 q427
             cases e427
             replace hx427_0 := (HB.out.cell (World.block_lt_of_cell? w _ hx427_0)).trans hx427_0
             replace p427 := eq_true p427
             replace q427 := eq_true q427
             go_wp2_with (first | ((with_reducible refine gate_callee (f := 95) rfl ?_); refine goesL_ (some 71) rfl rfl Try.func95 (by kernel_rfl) rfl #[.int .i64 (rd l2 x66_3)] rfl mz ?_; (with_reducible refine (impl_NumOk.calls (rd l2 x66_3) false _ A112.out).mono ?_); rintro e w' ⟨rfl, ⟨nd, rfl⟩⟩; refine ⟨_, rfl, ?_⟩))
             go_roundg k3
             case measure => have := HJ4.out; have := HJ72.out; have := HK3.out; omega
             case rel => exact ⟨(x11_3), (wrap64 (x66_3 + 1)), (by first | rfl | (simp; done) | (simp [*]; done)), (by first | rfl | (simp; done) | (simp [*]; done)), H', ⟨by have := HJ4.out; have := HJ72.out; have := HK3.out; omega⟩, ⟨Z BK415⟩, ⟨Z BK416⟩, ⟨Z BK417⟩, ⟨Z BK420⟩, ⟨Y4 HB GE415 GE416 GE417 GE420⟩⟩
           ·rw [if_neg c111] at H
            exact absurd H (by simp)
          ·rw [if_neg c110] at H
           exact absurd H (by simp)
         ·rw [if_neg c109] at H
          have c109b0 : decide (x66_3 < (l2.length : Int)) = false := decide_eq_false c109
          clear c109
          simp only [Option.some.injEq, Prod.mk.injEq] at H
          obtain ⟨rfl, rfl⟩ := H
          have hnb124 := NB420_415.out
          have hnc124 := NB415_420.out
          have hnb125 := NB420_416.out
          have hnc125 := NB416_420.out
          have hnb126 := NB420_417.out
          have hnc126 := NB417_420.out
          have hcz127_0 : wr.cell? ⟨gb420, 0, none⟩ = some (.int .i64 x421000_72) := bc BK420 0
          have hcz127_1 : wr.cell? ⟨gb420, 1, none⟩ = some (.int .i64 t419) := bc BK420 1
          have hfz127_0 := blk_frozen BK420.out 0
          have hfz127_1 := blk_frozen BK420.out 1
          have hnb128 := NB417_415.out
          have hnc128 := NB415_417.out
          have hnb129 := NB417_416.out
          have hnc129 := NB416_417.out
          have hcz130_0 : wr.cell? ⟨gb417, 0, none⟩ = some (.int .i64 0) := bc BK417 0
          have hcz130_1 : wr.cell? ⟨gb417, 1, none⟩ = some (.int .i64 0) := bc BK417 1
          have hfz130_0 := blk_frozen BK417.out 0
          have hfz130_1 := blk_frozen BK417.out 1
          go_wp2
          refine bodyPost_ret (results_cell_row rfl _ _ gb417 86 #[.int .i64 x421000_72, .int .i64 x11_3] (0, 0) _ rfl (by (with_reducible repeat (first | refine blk_drewN ?_ _ | refine blk_drew ?_ | refine blk_alloc ?_ _)); refine blk_put (cs := #[.int .i64 x421000_72, .int .i64 0]) ?_ 1 _ rfl; (with_reducible repeat (first | refine blk_drewN ?_ _ | refine blk_drew ?_ | refine blk_alloc ?_ _)); refine blk_put (cs := #[.int .i64 0, .int .i64 0]) ?_ 0 _ rfl; (with_reducible repeat (first | refine blk_drewN ?_ _ | refine blk_drew ?_ | refine blk_alloc ?_ _)); refine blk_far ?_ NB417_420.out _; (with_reducible repeat (first | refine blk_drewN ?_ _ | refine blk_drew ?_ | refine blk_alloc ?_ _)); exact BK417.out) Try.underlying86 rfl (by kernel_rfl)) rfl ?_
          exact ⟨by first | rfl | (simp [errW_none, errW_some] <;> rfl) | (simp [*, errW_none, errW_some] <;> rfl), Y4 HB GE415 GE416 GE417 GE420⟩
      ·rw [if_neg c101] at H
       have c101b0 : decide (a0_1 < t419) = false := decide_eq_false c101
       clear c101
       simp only [Option.some.injEq, Prod.mk.injEq] at H
       obtain ⟨rfl, rfl⟩ := H
       have hnb131 := NB420_415.out
       have hnc131 := NB415_420.out
       have hnb132 := NB420_416.out
       have hnc132 := NB416_420.out
       have hnb133 := NB420_417.out
       have hnc133 := NB417_420.out
       have hcz134_0 : wc.cell? ⟨gb420, 0, none⟩ = some (.int .i64 x421000_72) := bc BK420 0
       have hcz134_1 : wc.cell? ⟨gb420, 1, none⟩ = some (.int .i64 t419) := bc BK420 1
       have hfz134_0 := blk_frozen BK420.out 0
       have hfz134_1 := blk_frozen BK420.out 1
       have hnb135 := NB415_416.out
       have hnc135 := NB416_415.out
       have hnb136 := NB415_417.out
       have hnc136 := NB417_415.out
       have hcz137_0 : wc.cell? ⟨gb415, 0, none⟩ = some (.int .i64 a0_0) := bc BK415 0
       have hcz137_1 : wc.cell? ⟨gb415, 1, none⟩ = some (.int .i64 a0_1) := bc BK415 1
       have hfz137_0 := blk_frozen BK415.out 0
       have hfz137_1 := blk_frozen BK415.out 1
       have hnb138 := NB417_416.out
       have hnc138 := NB416_417.out
       have hcz139_0 : wc.cell? ⟨gb417, 0, none⟩ = some (.int .i64 0) := bc BK417 0
       have hcz139_1 : wc.cell? ⟨gb417, 1, none⟩ = some (.int .i64 0) := bc BK417 1
       have hfz139_0 := blk_frozen BK417.out 0
       have hfz139_1 := blk_frozen BK417.out 1
       go_wp2
       refine bodyPost_ret (results_cell_row rfl _ _ gb417 86 #[.int .i64 x421000_72, .int .i64 t419] (0, 0) _ rfl (by (with_reducible repeat (first | refine blk_drewN ?_ _ | refine blk_drew ?_ | refine blk_alloc ?_ _)); refine blk_put (cs := #[.int .i64 x421000_72, .int .i64 0]) ?_ 1 _ rfl; (with_reducible repeat (first | refine blk_drewN ?_ _ | refine blk_drew ?_ | refine blk_alloc ?_ _)); refine blk_put (cs := #[.int .i64 0, .int .i64 0]) ?_ 0 _ rfl; (with_reducible repeat (first | refine blk_drewN ?_ _ | refine blk_drew ?_ | refine blk_alloc ?_ _)); exact BK417.out) Try.underlying86 rfl (by kernel_rfl)) rfl ?_
       exact ⟨by first | rfl | (simp [errW_none, errW_some] <;> rfl) | (simp [*, errW_none, errW_some] <;> rfl), Y4 HB GE415 GE416 GE417 GE420⟩

end Go.Proofs.Ytnmccgjdnceheaa.PFnExactValWiden
