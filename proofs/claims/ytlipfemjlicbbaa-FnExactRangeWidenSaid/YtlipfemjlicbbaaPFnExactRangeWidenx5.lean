/- Written by this session's own driver (wip/dprint.py): the functions that the law FnExactRangeWiden reaches, as Lean functions, each with its contract. -/
import Derived.Test.YtlipfemjlicbbaaPFnExactRangeWidenx0
import Derived.Test.YtlipfemjlicbbaaPFnExactRangeWidenx1
import Derived.Test.YtlipfemjlicbbaaPFnExactRangeWidenx2
import Derived.Test.YtlipfemjlicbbaaPFnExactRangeWidenx3
import Derived.Test.YtlipfemjlicbbaaPFnExactRangeWidenx4
import Derived.Test.YtlipfemjlicbbaaSq
namespace Go.Proofs.Ytlipfemjlicbbaa.PFnExactRangeWiden
open Go.RowKit Go.Proofs.YtlipfemjlicbbaaW.PrintWords Go.Proofs.YtlipfemjlicbbaaW.PrintLast Go.Proofs.YtlipfemjlicbbaaW.PrintMore Go.Proofs.YtlipfemjlicbbaaSq
attribute [local go_sem] max2_int min2_int max_two min_two max_three min_three max_four min_four   -- for this text's walks alone
set_option linter.unusedVariables false
set_option linter.unusedSimpArgs false

attribute [local go_sem high] eqA24
/-! ### spec_RangeWiden: function 21 -/
def spec_RangeWiden.j0 : Nat → List Int → Bool → Int → Int → Int → Int → Option (Int × Int)
 | 0, _, _, _, _, _, _ => none
 | k + 1, x2, x28, x133000, x133001, x138000, x138001 => if x28 = true then (some (x138000, x138001)) else (if x138000 < x133000 then ((spec_l8Down.f k x2 x138000).bind fun t144 => (if x138001 > x133001 then ((spec_l8Up.f k x2 x138001).bind fun t145 => (some (t144, t145))) else (some (t144, x138001)))) else (if x138001 > x133001 then ((spec_l8Up.f k x2 x138001).bind fun t146 => (some (x138000, t146))) else (some (x138000, x138001))))
def spec_RangeWiden.f (k : Nat) (a0_0 : Int) (a0_1 : Int) (a1_0 : Int) (a1_1 : Int) (l2 : List Int) : Option (Int × Int) := (spec_RangeJoin.f k a0_0 a0_1 a1_0 a1_1).bind fun bt135 => ((spec_RangeOk.f a0_0 a0_1).bind fun t138 => (if t138 = true then ((spec_RangeOk.f a1_0 a1_1).bind fun t139 => (if t139 = true then ((spec_l8None.f).bind fun bt140 => (if (a0_0 == bt140.1 && (a0_1 == bt140.2)) = true then (spec_RangeWiden.j0 k l2 true a0_0 a0_1 bt135.1 bt135.2) else ((spec_l8None.f).bind fun bt142 => (spec_RangeWiden.j0 k l2 (a1_0 == bt142.1 && (a1_1 == bt142.2)) a0_0 a0_1 bt135.1 bt135.2)))) else (spec_RangeWiden.j0 k l2 true a0_0 a0_1 bt135.1 bt135.2))) else (spec_RangeWiden.j0 k l2 true a0_0 a0_1 bt135.1 bt135.2)))
theorem spec_RangeWiden.mono_l : ∀ k, (∀ y0 y1 y2 y3 y4 y5, LeO (spec_RangeWiden.j0 k y0 y1 y2 y3 y4 y5) (spec_RangeWiden.j0 (k + 1) y0 y1 y2 y3 y4 y5))
 | 0 => fun _ _ _ _ _ _ r h => by simp [spec_RangeWiden.j0] at h
 | k + 1 => by
  have ih0 := spec_RangeWiden.mono_l k
  ·intro y0 y1 y2 y3 y4 y5
   unfold spec_RangeWiden.j0
   repeat' first
   | (with_reducible exact ih0 _ _ _ _ _ _)
   | (with_reducible exact spec_RangeJoin.mono _ _ _ _ _)
   | (with_reducible exact spec_l8Down.mono _ _ _)
   | (with_reducible exact spec_l8Up.mono _ _ _)
   | (with_reducible exact LeO.refl _)
   | (with_reducible exact LeO.none _)
   | (with_reducible refine LeO.ite ?_ ?_)
   | (with_reducible refine LeO.bind ?_ (fun _ => ?_))
   | exact ih0 _ _ _ _ _ _
   | exact spec_RangeJoin.mono _ _ _ _ _
   | exact spec_l8Down.mono _ _ _
   | exact spec_l8Up.mono _ _ _
   | exact LeO.none _
   | refine LeO.ite ?_ ?_
   | refine LeO.bind ?_ (fun _ => ?_)
theorem spec_RangeWiden.mono : ∀ a0 a1 a2 a3 a4 k, LeO (spec_RangeWiden.f k a0 a1 a2 a3 a4) (spec_RangeWiden.f (k + 1) a0 a1 a2 a3 a4) := by
 intro a0 a1 a2 a3 a4 k
 have ih0 := spec_RangeWiden.mono_l k
 unfold spec_RangeWiden.f
 repeat' first
   | (with_reducible exact ih0 _ _ _ _ _ _)
   | (with_reducible exact spec_RangeJoin.mono _ _ _ _ _)
   | (with_reducible exact spec_l8Down.mono _ _ _)
   | (with_reducible exact spec_l8Up.mono _ _ _)
   | (with_reducible exact LeO.refl _)
   | (with_reducible exact LeO.none _)
   | (with_reducible refine LeO.ite ?_ ?_)
   | (with_reducible refine LeO.bind ?_ (fun _ => ?_))
   | exact ih0 _ _ _ _ _ _
   | exact spec_RangeJoin.mono _ _ _ _ _
   | exact spec_l8Down.mono _ _ _
   | exact spec_l8Up.mono _ _ _
   | exact LeO.none _
   | refine LeO.ite ?_ ?_
   | refine LeO.bind ?_ (fun _ => ?_)
def spec_RangeWiden.T2 : Bool × List (List Nat × List Nat) := (true, [([], []), ([0], [0]), ([1], [1]), ([2, 1], [2]), ([3], [3]), ([4, 3, 3], [3, 4]), ([5, 3], [3, 5]), ([3, 6], [3, 6]), ([7, 5], [7]), ([8], [8]), ([8, 8], [8]), ([9, 10, 8], [8, 9, 10]), ([8, 11], [8, 11]), ([12, 10], [12]), ([13], [13]), ([13, 13], [13]), ([14, 15, 13], [13, 14, 15]), ([13, 16], [13, 16])])
def spec_RangeWiden.B2 : List Nat := [0, 1, 3, 7, 15, 31, 63, 127, 255, 511, 511, 2047, 4095, 8191, 16383, 16383, 65535, 131071]
theorem spec_RangeWiden.tab2 : rtab .any (opsOf Try.f21 2) = spec_RangeWiden.T2 := by kernel_rfl
theorem spec_RangeWiden.bits2 : waitsOk spec_RangeWiden.T2.2 spec_RangeWiden.B2 = true := by kernel_rfl
set_option maxHeartbeats 8000000 in
set_option maxRecDepth 100000 in
theorem spec_RangeWiden.calls (k : Nat) (a0_0 : Int) (a0_1 : Int) (a1_0 : Int) (a1_1 : Int) (A2 : Option Addr) (c2 : Nat) (l2 : List Int) (r1 : Int) (r2 : Int) (w : World) (hr2 : Kd.C (Kd.int .i64) w A2 l2.length l2) (hc2 : l2.length ≤ c2) (h : spec_RangeWiden.f k a0_0 a0_1 a1_0 a1_1 l2 = some (r1, r2)) :
  Calls Try.prog 21 #[.agg #[.int .i64 a0_0, .int .i64 a0_1], .agg #[.int .i64 a1_0, .int .i64 a1_1], .slice A2 l2.length c2] w fun e w' => e = .returned (.agg #[.int .i64 r1, .int .i64 r2]) ∧ Below w.heap.size w w' := by
 have hu24 := Try.underlying24
 have HR2 := Aside0.mk hr2
 have HC2 := Aside0.mk hc2
 clear hr2 hc2
 have HB := Aside0.mk (Below.refl w.heap.size w)
 have H : ((spec_RangeJoin.f k a0_0 a0_1 a1_0 a1_1).bind fun bt135 => ((spec_RangeOk.f a0_0 a0_1).bind fun t138 => (if t138 = true then ((spec_RangeOk.f a1_0 a1_1).bind fun t139 => (if t139 = true then ((spec_l8None.f).bind fun bt140 => (if (a0_0 == bt140.1 && (a0_1 == bt140.2)) = true then (spec_RangeWiden.j0 k l2 true a0_0 a0_1 bt135.1 bt135.2) else ((spec_l8None.f).bind fun bt142 => (spec_RangeWiden.j0 k l2 (a1_0 == bt142.1 && (a1_1 == bt142.2)) a0_0 a0_1 bt135.1 bt135.2)))) else (spec_RangeWiden.j0 k l2 true a0_0 a0_1 bt135.1 bt135.2))) else (spec_RangeWiden.j0 k l2 true a0_0 a0_1 bt135.1 bt135.2)))) = some (r1, r2) := h
 clear h
 replace H := Option.bind_eq_some_iff.mp H
 obtain ⟨⟨t135, t136⟩, A40, H⟩ := H
 replace H : ((spec_RangeOk.f a0_0 a0_1).bind fun t138 => (if t138 = true then ((spec_RangeOk.f a1_0 a1_1).bind fun t139 => (if t139 = true then ((spec_l8None.f).bind fun bt140 => (if (a0_0 == bt140.1 && (a0_1 == bt140.2)) = true then (spec_RangeWiden.j0 k l2 true a0_0 a0_1 t135 t136) else ((spec_l8None.f).bind fun bt142 => (spec_RangeWiden.j0 k l2 (a1_0 == bt142.1 && (a1_1 == bt142.2)) a0_0 a0_1 t135 t136)))) else (spec_RangeWiden.j0 k l2 true a0_0 a0_1 t135 t136))) else (spec_RangeWiden.j0 k l2 true a0_0 a0_1 t135 t136))) = some (r1, r2) := H
 have A4 := Aside0.mk A40
 clear A40
 have HC5 := Aside0.mk H
 clear H
 go_enter Try.func21, Try.ntmps21
 go_upto_region 2 with (first | ((with_reducible refine gate_dst (N := 3) rfl ?_); refine box_event ?hg (N := 3) ?hd (cs := #[.int .i64 a0_0, .int .i64 a0_1]) (t := 24) ?hr ?_; (case hd => rfl); (case hg => rfl); (case hr => first | (go_simp; done) | (go_simp; rfl)); intro gb132 hg w6 hbox hb; have n0_ := Aside0.mk (below_step (hz HB.out) hb); have n1_ := Aside0.mk (hbox); have n2_ := Aside0.mk ((by rw [hg]; exact (below_size (hz HB.out)) : w.heap.size ≤ gb132)); have n3_ := Aside0.mk ((by rw [hg]; exact (below_size (hz HB.out)) : w.heap.size ≤ gb132)); clear HB; have HB := n0_; have BK132 := n1_; have GW132 := n2_; have GE132 := n3_; clear n0_ n1_ n2_ n3_; clear hb hbox hg) | ((with_reducible refine gate_dst (N := 4) rfl ?_); refine box_event ?hg (N := 4) ?hd (cs := #[.int .i64 a1_0, .int .i64 a1_1]) (t := 24) ?hr ?_; (case hd => rfl); (case hg => rfl); (case hr => first | (go_simp; done) | (go_simp; rfl)); intro gb133 hg w7 hbox hb; have n0_ := Aside0.mk (blk_below (g := gb132) (o := .cells #[.int .i64 a0_0, .int .i64 a0_1] 24 (0, 0)) (bz BK132.out) hb); have n1_ := Aside0.mk (below_step (hz1 HB.out GE132.out) hb); have n2_ := Aside0.mk (hbox); have n3_ := Aside0.mk ((by rw [hg]; exact (below_size (hz1 HB.out GE132.out)) : w.heap.size ≤ gb133)); have n4_ := Aside0.mk ((by rw [hg]; exact (below_size (hz1 HB.out GE132.out)) : w.heap.size ≤ gb133)); have n5_ := Aside0.mk ((by rw [hg]; exact Nat.ne_of_lt (blk_lt (g := gb132) (o := .cells #[.int .i64 a0_0, .int .i64 a0_1] 24 (0, 0)) (bz BK132.out)) : gb132 ≠ gb133)); have n6_ := Aside0.mk ((by rw [hg]; exact Nat.ne_of_gt (blk_lt (g := gb132) (o := .cells #[.int .i64 a0_0, .int .i64 a0_1] 24 (0, 0)) (bz BK132.out)) : gb133 ≠ gb132)); clear BK132; clear HB; have BK132 := n0_; have HB := n1_; have BK133 := n2_; have GW133 := n3_; have GE133 := n4_; have NB132_133 := n5_; have NB133_132 := n6_; clear n0_ n1_ n2_ n3_ n4_ n5_ n6_; clear hb hbox hg) | ((with_reducible refine gate_dst (N := 6) rfl ?_); refine box_event ?hg (N := 6) ?hd (cs := #[.int .i64 0, .int .i64 0]) (t := 24) ?hr ?_; (case hd => rfl); (case hg => rfl); (case hr => first | (go_simp; done) | (go_simp; rfl)); intro gb134 hg w8 hbox hb; have n0_ := Aside0.mk (blk_below (g := gb132) (o := .cells #[.int .i64 a0_0, .int .i64 a0_1] 24 (0, 0)) (bz BK132.out) hb); have n1_ := Aside0.mk (blk_below (g := gb133) (o := .cells #[.int .i64 a1_0, .int .i64 a1_1] 24 (0, 0)) (bz BK133.out) hb); have n2_ := Aside0.mk (below_step (hz2 HB.out GE132.out GE133.out) hb); have n3_ := Aside0.mk (hbox); have n4_ := Aside0.mk ((by rw [hg]; exact (below_size (hz2 HB.out GE132.out GE133.out)) : w.heap.size ≤ gb134)); have n5_ := Aside0.mk ((by rw [hg]; exact (below_size (hz2 HB.out GE132.out GE133.out)) : w.heap.size ≤ gb134)); have n6_ := Aside0.mk ((by rw [hg]; exact Nat.ne_of_lt (blk_lt (g := gb132) (o := .cells #[.int .i64 a0_0, .int .i64 a0_1] 24 (0, 0)) (bz BK132.out)) : gb132 ≠ gb134)); have n7_ := Aside0.mk ((by rw [hg]; exact Nat.ne_of_gt (blk_lt (g := gb132) (o := .cells #[.int .i64 a0_0, .int .i64 a0_1] 24 (0, 0)) (bz BK132.out)) : gb134 ≠ gb132)); have n8_ := Aside0.mk ((by rw [hg]; exact Nat.ne_of_lt (blk_lt (g := gb133) (o := .cells #[.int .i64 a1_0, .int .i64 a1_1] 24 (0, 0)) (bz BK133.out)) : gb133 ≠ gb134)); have n9_ := Aside0.mk ((by rw [hg]; exact Nat.ne_of_gt (blk_lt (g := gb133) (o := .cells #[.int .i64 a1_0, .int .i64 a1_1] 24 (0, 0)) (bz BK133.out)) : gb134 ≠ gb133)); clear BK132; clear BK133; clear HB; have BK132 := n0_; have BK133 := n1_; have HB := n2_; have BK134 := n3_; have GW134 := n4_; have GE134 := n5_; have NB132_134 := n6_; have NB134_132 := n7_; have NB133_134 := n8_; have NB134_133 := n9_; clear n0_ n1_ n2_ n3_ n4_ n5_ n6_ n7_ n8_ n9_; clear hb hbox hg; have hnb9 := NB132_133.out; have hnc9 := NB133_132.out; have hnb10 := NB132_134.out; have hnc10 := NB134_132.out; have hcz11_0 : w8.cell? ⟨gb132, 0, none⟩ = some (.int .i64 a0_0) := (blk_cell BK132.out 0).trans rfl; have hcz11_1 : w8.cell? ⟨gb132, 1, none⟩ = some (.int .i64 a0_1) := (blk_cell BK132.out 1).trans rfl; have hfz11_0 := blk_frozen BK132.out 0; have hfz11_1 := blk_frozen BK132.out 1; have hnb12 := NB133_134.out; have hnc12 := NB134_133.out; have hcz13_0 : w8.cell? ⟨gb133, 0, none⟩ = some (.int .i64 a1_0) := (blk_cell BK133.out 0).trans rfl; have hcz13_1 : w8.cell? ⟨gb133, 1, none⟩ = some (.int .i64 a1_1) := (blk_cell BK133.out 1).trans rfl; have hfz13_0 := blk_frozen BK133.out 0; have hfz13_1 := blk_frozen BK133.out 1) | ((with_reducible refine gate_callee (f := 15) rfl ?_); refine goesL_ (some 10) rfl rfl Try.func15 (by kernel_rfl) rfl #[.agg #[.int .i64 a0_0, .int .i64 a0_1], .agg #[.int .i64 a1_0, .int .i64 a1_1]] rfl mz ?_; (with_reducible refine (spec_RangeJoin.calls k a0_0 a0_1 a1_0 a1_1 t135 t136 _ A4.out).mono ?_); rintro e w14 ⟨rfl, hb⟩; refine ⟨_, rfl, ?_⟩; have n0_ := Aside0.mk (blk_below (g := gb132) (o := .cells #[.int .i64 a0_0, .int .i64 a0_1] 24 (0, 0)) (bz BK132.out) hb); have n1_ := Aside0.mk (blk_below (g := gb133) (o := .cells #[.int .i64 a1_0, .int .i64 a1_1] 24 (0, 0)) (bz BK133.out) hb); have n2_ := Aside0.mk (blk_below (g := gb134) (o := .cells #[.int .i64 0, .int .i64 0] 24 (0, 0)) (bz BK134.out) hb); have n3_ := Aside0.mk (below_step (hz3 HB.out GE132.out GE133.out GE134.out) hb); clear BK132; clear BK133; clear BK134; clear HB; have BK132 := n0_; have BK133 := n1_; have BK134 := n2_; have HB := n3_; clear n0_ n1_ n2_ n3_; (try clear hb); (try clear hb2); (try clear hk); (try clear hi)) | ((with_reducible refine gate_dst (N := 7) rfl ?_); refine box_event ?hg (N := 7) ?hd (cs := #[.int .i64 0, .int .i64 0]) (t := 24) ?hr ?_; (case hd => rfl); (case hg => rfl); (case hr => first | (go_simp; done) | (go_simp; rfl)); intro gb137 hg w15 hbox hb; have n0_ := Aside0.mk (blk_below (g := gb132) (o := .cells #[.int .i64 a0_0, .int .i64 a0_1] 24 (0, 0)) (bz BK132.out) hb); have n1_ := Aside0.mk (blk_below (g := gb133) (o := .cells #[.int .i64 a1_0, .int .i64 a1_1] 24 (0, 0)) (bz BK133.out) hb); have n2_ := Aside0.mk (blk_below (g := gb134) (o := .cells #[.int .i64 0, .int .i64 0] 24 (0, 0)) (bz BK134.out) hb); have n3_ := Aside0.mk (below_step (hz3 HB.out GE132.out GE133.out GE134.out) hb); have n4_ := Aside0.mk (hbox); have n5_ := Aside0.mk ((by rw [hg]; exact (below_size (hz3 HB.out GE132.out GE133.out GE134.out)) : w.heap.size ≤ gb137)); have n6_ := Aside0.mk ((by rw [hg]; exact (below_size (hz3 HB.out GE132.out GE133.out GE134.out)) : w.heap.size ≤ gb137)); have n7_ := Aside0.mk ((by rw [hg]; exact Nat.ne_of_lt (blk_lt (g := gb132) (o := .cells #[.int .i64 a0_0, .int .i64 a0_1] 24 (0, 0)) (bz BK132.out)) : gb132 ≠ gb137)); have n8_ := Aside0.mk ((by rw [hg]; exact Nat.ne_of_gt (blk_lt (g := gb132) (o := .cells #[.int .i64 a0_0, .int .i64 a0_1] 24 (0, 0)) (bz BK132.out)) : gb137 ≠ gb132)); have n9_ := Aside0.mk ((by rw [hg]; exact Nat.ne_of_lt (blk_lt (g := gb133) (o := .cells #[.int .i64 a1_0, .int .i64 a1_1] 24 (0, 0)) (bz BK133.out)) : gb133 ≠ gb137)); have n10_ := Aside0.mk ((by rw [hg]; exact Nat.ne_of_gt (blk_lt (g := gb133) (o := .cells #[.int .i64 a1_0, .int .i64 a1_1] 24 (0, 0)) (bz BK133.out)) : gb137 ≠ gb133)); have n11_ := Aside0.mk ((by rw [hg]; exact Nat.ne_of_lt (blk_lt (g := gb134) (o := .cells #[.int .i64 0, .int .i64 0] 24 (0, 0)) (bz BK134.out)) : gb134 ≠ gb137)); have n12_ := Aside0.mk ((by rw [hg]; exact Nat.ne_of_gt (blk_lt (g := gb134) (o := .cells #[.int .i64 0, .int .i64 0] 24 (0, 0)) (bz BK134.out)) : gb137 ≠ gb134)); clear BK132; clear BK133; clear BK134; clear HB; have BK132 := n0_; have BK133 := n1_; have BK134 := n2_; have HB := n3_; have BK137 := n4_; have GW137 := n5_; have GE137 := n6_; have NB132_137 := n7_; have NB137_132 := n8_; have NB133_137 := n9_; have NB137_133 := n10_; have NB134_137 := n11_; have NB137_134 := n12_; clear n0_ n1_ n2_ n3_ n4_ n5_ n6_ n7_ n8_ n9_ n10_ n11_ n12_; clear hb hbox hg; have hnb16 := NB137_132.out; have hnc16 := NB132_137.out; have hnb17 := NB137_133.out; have hnc17 := NB133_137.out; have hnb18 := NB137_134.out; have hnc18 := NB134_137.out; have hcz19_0 : w15.cell? ⟨gb137, 0, none⟩ = some (.int .i64 0) := (blk_cell BK137.out 0).trans rfl; have hcz19_1 : w15.cell? ⟨gb137, 1, none⟩ = some (.int .i64 0) := (blk_cell BK137.out 1).trans rfl; have hfz19_0 := blk_frozen BK137.out 0; have hfz19_1 := blk_frozen BK137.out 1))
 (try simp only [Act.put, List.setIfInBounds_toArray, List.set_cons_zero, List.set_cons_succ])
 go_cut [28] (fun v28 wc => ∃ (kq : Nat) (x28_4 : Bool), v28 = .bool x28_4 ∧ Aside0 (spec_RangeWiden.j0 kq l2 x28_4 a0_0 a0_1 t135 t136 = some (r1, r2)) ∧ Aside0 (kq ≤ k) ∧ Aside0 (wc.heap[gb132]? = some (.cells #[.int .i64 a0_0, .int .i64 a0_1] 24 (0, 0))) ∧ Aside0 (wc.heap[gb133]? = some (.cells #[.int .i64 a1_0, .int .i64 a1_1] 24 (0, 0))) ∧ Aside0 (wc.heap[gb134]? = some (.cells #[.int .i64 0, .int .i64 0] 24 (0, 0))) ∧ Aside0 (wc.heap[gb137]? = some (.cells #[.int .i64 t135, .int .i64 t136] 24 (0, 0))) ∧ Aside0 (Below w.heap.size w wc))
 case first =>
  have H := HC5.out
  clear HC5
  replace H := Option.bind_eq_some_iff.mp H
  obtain ⟨t138, A200, H⟩ := H
  replace H : (if t138 = true then ((spec_RangeOk.f a1_0 a1_1).bind fun t139 => (if t139 = true then ((spec_l8None.f).bind fun bt140 => (if (a0_0 == bt140.1 && (a0_1 == bt140.2)) = true then (spec_RangeWiden.j0 k l2 true a0_0 a0_1 t135 t136) else ((spec_l8None.f).bind fun bt142 => (spec_RangeWiden.j0 k l2 (a1_0 == bt142.1 && (a1_1 == bt142.2)) a0_0 a0_1 t135 t136)))) else (spec_RangeWiden.j0 k l2 true a0_0 a0_1 t135 t136))) else (spec_RangeWiden.j0 k l2 true a0_0 a0_1 t135 t136)) = some (r1, r2) := H
  have A20 := Aside0.mk A200
  clear A200
  by_cases c21 : t138 = true
  ·subst c21
   have H1 : ((spec_RangeOk.f a1_0 a1_1).bind fun t139 => (if t139 = true then ((spec_l8None.f).bind fun bt140 => (if (a0_0 == bt140.1 && (a0_1 == bt140.2)) = true then (spec_RangeWiden.j0 k l2 true a0_0 a0_1 t135 t136) else ((spec_l8None.f).bind fun bt142 => (spec_RangeWiden.j0 k l2 (a1_0 == bt142.1 && (a1_1 == bt142.2)) a0_0 a0_1 t135 t136)))) else (spec_RangeWiden.j0 k l2 true a0_0 a0_1 t135 t136))) = some (r1, r2) := by rw [if_pos rfl] at H; exact H
   clear H
   have H := H1
   clear H1
   replace H := Option.bind_eq_some_iff.mp H
   obtain ⟨t139, A220, H⟩ := H
   replace H : (if t139 = true then ((spec_l8None.f).bind fun bt140 => (if (a0_0 == bt140.1 && (a0_1 == bt140.2)) = true then (spec_RangeWiden.j0 k l2 true a0_0 a0_1 t135 t136) else ((spec_l8None.f).bind fun bt142 => (spec_RangeWiden.j0 k l2 (a1_0 == bt142.1 && (a1_1 == bt142.2)) a0_0 a0_1 t135 t136)))) else (spec_RangeWiden.j0 k l2 true a0_0 a0_1 t135 t136)) = some (r1, r2) := H
   have A22 := Aside0.mk A220
   clear A220
   by_cases c23 : t139 = true
   ·subst c23
    have H1 : ((spec_l8None.f).bind fun bt140 => (if (a0_0 == bt140.1 && (a0_1 == bt140.2)) = true then (spec_RangeWiden.j0 k l2 true a0_0 a0_1 t135 t136) else ((spec_l8None.f).bind fun bt142 => (spec_RangeWiden.j0 k l2 (a1_0 == bt142.1 && (a1_1 == bt142.2)) a0_0 a0_1 t135 t136)))) = some (r1, r2) := by rw [if_pos rfl] at H; exact H
    clear H
    have H := H1
    clear H1
    replace H := Option.bind_eq_some_iff.mp H
    obtain ⟨⟨t140, t141⟩, A240, H⟩ := H
    replace H : (if (a0_0 == t140 && (a0_1 == t141)) = true then (spec_RangeWiden.j0 k l2 true a0_0 a0_1 t135 t136) else ((spec_l8None.f).bind fun bt142 => (spec_RangeWiden.j0 k l2 (a1_0 == bt142.1 && (a1_1 == bt142.2)) a0_0 a0_1 t135 t136))) = some (r1, r2) := H
    have A24 := Aside0.mk A240
    clear A240
    by_cases c25 : (a0_0 == t140 && (a0_1 == t141)) = true
    ·rw [if_pos c25] at H
     have c25b0 : (a0_0 == t140 && (a0_1 == t141)) = true := c25
     (try (have c25b1 : decide (a0_0 = t140 && (a0_1 == t141)) = true := by simpa using c25))
     (try (have c25b2 : (a0_0 == t140 && (a0_1 == t141)) = true := by simpa using c25))
     clear c25
     (first | rw [c25b0] | (simp only [i64_w, i32_w]; rw [c25b0]) | skip)
     have H' := Aside0.mk H
     clear H
     try go_wp2
     have n0_ : Aside0 (((w15.setCell ⟨gb137, 0, none⟩ (.int .i64 t135)).setCell ⟨gb137, 1, none⟩ (.int .i64 t136)).heap[gb132]? = some (.cells #[.int .i64 a0_0, .int .i64 a0_1] 24 (0, 0))) := ⟨by (with_reducible repeat (first | refine blk_drewN ?_ _ | refine blk_drew ?_ | refine blk_alloc ?_ _)); refine blk_far ?_ NB132_137.out _; (with_reducible repeat (first | refine blk_drewN ?_ _ | refine blk_drew ?_ | refine blk_alloc ?_ _)); refine blk_far ?_ NB132_137.out _; (with_reducible repeat (first | refine blk_drewN ?_ _ | refine blk_drew ?_ | refine blk_alloc ?_ _)); exact BK132.out⟩
     have n1_ : Aside0 (((w15.setCell ⟨gb137, 0, none⟩ (.int .i64 t135)).setCell ⟨gb137, 1, none⟩ (.int .i64 t136)).heap[gb133]? = some (.cells #[.int .i64 a1_0, .int .i64 a1_1] 24 (0, 0))) := ⟨by (with_reducible repeat (first | refine blk_drewN ?_ _ | refine blk_drew ?_ | refine blk_alloc ?_ _)); refine blk_far ?_ NB133_137.out _; (with_reducible repeat (first | refine blk_drewN ?_ _ | refine blk_drew ?_ | refine blk_alloc ?_ _)); refine blk_far ?_ NB133_137.out _; (with_reducible repeat (first | refine blk_drewN ?_ _ | refine blk_drew ?_ | refine blk_alloc ?_ _)); exact BK133.out⟩
     have n2_ : Aside0 (((w15.setCell ⟨gb137, 0, none⟩ (.int .i64 t135)).setCell ⟨gb137, 1, none⟩ (.int .i64 t136)).heap[gb134]? = some (.cells #[.int .i64 0, .int .i64 0] 24 (0, 0))) := ⟨by (with_reducible repeat (first | refine blk_drewN ?_ _ | refine blk_drew ?_ | refine blk_alloc ?_ _)); refine blk_far ?_ NB134_137.out _; (with_reducible repeat (first | refine blk_drewN ?_ _ | refine blk_drew ?_ | refine blk_alloc ?_ _)); refine blk_far ?_ NB134_137.out _; (with_reducible repeat (first | refine blk_drewN ?_ _ | refine blk_drew ?_ | refine blk_alloc ?_ _)); exact BK134.out⟩
     have n3_ : Aside0 (((w15.setCell ⟨gb137, 0, none⟩ (.int .i64 t135)).setCell ⟨gb137, 1, none⟩ (.int .i64 t136)).heap[gb137]? = some (.cells #[.int .i64 t135, .int .i64 t136] 24 (0, 0))) := ⟨by (with_reducible repeat (first | refine blk_drewN ?_ _ | refine blk_drew ?_ | refine blk_alloc ?_ _)); refine blk_put (cs := #[.int .i64 t135, .int .i64 0]) ?_ 1 _ rfl; (with_reducible repeat (first | refine blk_drewN ?_ _ | refine blk_drew ?_ | refine blk_alloc ?_ _)); refine blk_put (cs := #[.int .i64 0, .int .i64 0]) ?_ 0 _ rfl; (with_reducible repeat (first | refine blk_drewN ?_ _ | refine blk_drew ?_ | refine blk_alloc ?_ _)); exact BK137.out⟩
     have n4_ : Aside0 (Below w.heap.size w ((w15.setCell ⟨gb137, 0, none⟩ (.int .i64 t135)).setCell ⟨gb137, 1, none⟩ (.int .i64 t136))) := ⟨hz4 HB.out GE132.out GE133.out GE134.out GE137.out⟩
     (try clear BK132)
     (try clear BK133)
     (try clear BK134)
     (try clear BK137)
     (try clear HB)
     generalize ((w15.setCell ⟨gb137, 0, none⟩ (.int .i64 t135)).setCell ⟨gb137, 1, none⟩ (.int .i64 t136)) = w26 at n0_ n1_ n2_ n3_ n4_ ⊢
     have BK132 := n0_
     have BK133 := n1_
     have BK134 := n2_
     have BK137 := n3_
     have HB := n4_
     clear n0_ n1_ n2_ n3_ n4_
     have n0_ := Aside0.mk (blk_drew BK132.out)
     have n1_ := Aside0.mk (blk_drew BK133.out)
     have n2_ := Aside0.mk (blk_drew BK134.out)
     have n3_ := Aside0.mk (blk_drew BK137.out)
     have n4_ := Aside0.mk (below_drew1 HB.out)
     clear BK132
     clear BK133
     clear BK134
     clear BK137
     clear HB
     have BK132 := n0_
     have BK133 := n1_
     have BK134 := n2_
     have BK137 := n3_
     have HB := n4_
     clear n0_ n1_ n2_ n3_ n4_
     refine start_ (n := 18) (S := fun w' => w'.cell? ⟨gb132, 0, none⟩ = some (.int .i64 a0_0) ∧ w'.cell? ⟨gb132, 1, none⟩ = some (.int .i64 a0_1) ∧ w'.cell? ⟨gb133, 0, none⟩ = some (.int .i64 a1_0) ∧ w'.cell? ⟨gb133, 1, none⟩ = some (.int .i64 a1_1)) (ds := []) #[false, false, false, false, false, false, false, false, false, false, false, false, false, false, false, false, false, false] (by kernel_rfl) rfl rfl ⟨(blk_cell BK132.out 0).trans rfl, (blk_cell BK132.out 1).trans rfl, (blk_cell BK133.out 0).trans rfl, (blk_cell BK133.out 1).trans rfl⟩ (fun hHeld => ?_); refine with_tabW spec_RangeWiden.tab2 spec_RangeWiden.bits2 (fun HT_ HW_ => ?_)
     generalize w26.drew = w27 at BK132 BK133 BK134 BK137 HB hHeld ⊢
     refine take_ (i := 0) (N := some 11) (v := ?_) (a' := ?_) #[true, false, false, false, false, false, false, false, false, false, false, false, false, false, false, false, false, false] rfl rfl (take_ofW HT_.out HW_.out (by kernel_rfl)) (fun _ _ _ h => h) (Or.inl ⟨by rfl, ?_⟩) hHeld ?_ ?_
     rotate_left
     ·rintro w' ⟨s0, s1, s2, s3⟩
      go_simp
      with_reducible rfl
     rotate_left
     ·exact pz
     refine one_ (i := 1) (N := some 12) #[true, true, false, false, false, false, false, false, false, false, false, false, false, false, false, false, false, false] rfl rfl (one_of HT_.out (by kernel_rfl)) (by decide) (fun K hK => ?_)
     refine goes_ Try.func47 (by kernel_rfl) rfl #[.agg #[.int .i64 a0_0, .int .i64 a0_1]] (by rfl) rfl rfl mz ?_
     with_reducible refine (spec_RangeOk.calls a0_0 a0_1 true _ A20.out).mono ?_
     rintro e w28 ⟨rfl, hb⟩
     refine ⟨_, rfl, ?_⟩
     have n0_ := Aside0.mk (blk_below (g := gb132) (o := .cells #[.int .i64 a0_0, .int .i64 a0_1] 24 (0, 0)) (bz BK132.out) hb)
     have n1_ := Aside0.mk (blk_below (g := gb133) (o := .cells #[.int .i64 a1_0, .int .i64 a1_1] 24 (0, 0)) (bz BK133.out) hb)
     have n2_ := Aside0.mk (blk_below (g := gb134) (o := .cells #[.int .i64 0, .int .i64 0] 24 (0, 0)) (bz BK134.out) hb)
     have n3_ := Aside0.mk (blk_below (g := gb137) (o := .cells #[.int .i64 t135, .int .i64 t136] 24 (0, 0)) (bz BK137.out) hb)
     have n4_ := Aside0.mk (below_step (hz4 HB.out GE132.out GE133.out GE134.out GE137.out) hb)
     clear BK132
     clear BK133
     clear BK134
     clear BK137
     clear HB
     have BK132 := n0_
     have BK133 := n1_
     have BK134 := n2_
     have BK137 := n3_
     have HB := n4_
     clear n0_ n1_ n2_ n3_ n4_
     (try clear hb)
     (try clear hb2)
     (try clear hk)
     (try clear hi)
     refine hK.out _ _ ⟨(blk_cell BK132.out 0).trans rfl, (blk_cell BK132.out 1).trans rfl, (blk_cell BK133.out 0).trans rfl, (blk_cell BK133.out 1).trans rfl⟩ (fun hHeld => ?_)
     clear hK K
     refine norm_ (a' := ?_) ?_ ?_
     rotate_left
     ·show Act.put _ (some 12) _ = _
      simp only [Act.put, List.setIfInBounds_toArray, List.set_cons_zero, List.set_cons_succ, i64_w, i32_w]
      rfl
     refine pure_ (i := 2) (N := some 13) (v := ?_) (a' := ?_) #[true, true, true, false, false, false, false, false, false, false, false, false, false, false, false, false, false, false] rfl rfl (any_of HT_.out (by kernel_rfl)) (fun _ _ _ h => h) (Or.inl ⟨by rfl, ?_⟩) ?_ ?_
     rotate_left
     ·intro w'
      go_simp
      with_reducible rfl
     rotate_left
     ·exact pz
     refine pure_ (i := 3) (N := some 14) (v := ?_) (a' := ?_) #[true, true, true, true, false, false, false, false, false, false, false, false, false, false, false, false, false, false] rfl rfl (any_of HT_.out (by kernel_rfl)) (fun _ _ _ h => h) (Or.inl ⟨by rfl, ?_⟩) ?_ ?_
     rotate_left
     ·intro w'
      go_simp
      with_reducible rfl
     rotate_left
     ·exact pz
     refine take_ (i := 4) (N := some 15) (v := ?_) (a' := ?_) #[true, true, true, true, true, false, false, false, false, false, false, false, false, false, false, false, false, false] rfl rfl (take_ofW HT_.out HW_.out (by kernel_rfl)) (fun _ _ _ h => h) (Or.inl ⟨by rfl, ?_⟩) hHeld ?_ ?_
     rotate_left
     ·rintro w' ⟨s0, s1, s2, s3⟩
      go_simp
      with_reducible rfl
     rotate_left
     ·exact pz
     refine one_ (i := 5) (N := some 16) #[true, true, true, true, true, true, false, false, false, false, false, false, false, false, false, false, false, false] rfl rfl (one_of HT_.out (by kernel_rfl)) (by decide) (fun K hK => ?_)
     refine goes_ Try.func47 (by kernel_rfl) rfl #[.agg #[.int .i64 a1_0, .int .i64 a1_1]] (by rfl) rfl rfl mz ?_
     with_reducible refine (spec_RangeOk.calls a1_0 a1_1 true _ A22.out).mono ?_
     rintro e w29 ⟨rfl, hb⟩
     refine ⟨_, rfl, ?_⟩
     have n0_ := Aside0.mk (blk_below (g := gb132) (o := .cells #[.int .i64 a0_0, .int .i64 a0_1] 24 (0, 0)) (bz BK132.out) hb)
     have n1_ := Aside0.mk (blk_below (g := gb133) (o := .cells #[.int .i64 a1_0, .int .i64 a1_1] 24 (0, 0)) (bz BK133.out) hb)
     have n2_ := Aside0.mk (blk_below (g := gb134) (o := .cells #[.int .i64 0, .int .i64 0] 24 (0, 0)) (bz BK134.out) hb)
     have n3_ := Aside0.mk (blk_below (g := gb137) (o := .cells #[.int .i64 t135, .int .i64 t136] 24 (0, 0)) (bz BK137.out) hb)
     have n4_ := Aside0.mk (below_step (hz4 HB.out GE132.out GE133.out GE134.out GE137.out) hb)
     clear BK132
     clear BK133
     clear BK134
     clear BK137
     clear HB
     have BK132 := n0_
     have BK133 := n1_
     have BK134 := n2_
     have BK137 := n3_
     have HB := n4_
     clear n0_ n1_ n2_ n3_ n4_
     (try clear hb)
     (try clear hb2)
     (try clear hk)
     (try clear hi)
     refine hK.out _ _ ⟨(blk_cell BK132.out 0).trans rfl, (blk_cell BK132.out 1).trans rfl, (blk_cell BK133.out 0).trans rfl, (blk_cell BK133.out 1).trans rfl⟩ (fun hHeld => ?_)
     clear hK K
     refine norm_ (a' := ?_) ?_ ?_
     rotate_left
     ·show Act.put _ (some 16) _ = _
      simp only [Act.put, List.setIfInBounds_toArray, List.set_cons_zero, List.set_cons_succ, i64_w, i32_w]
      rfl
     refine pure_ (i := 6) (N := some 17) (v := ?_) (a' := ?_) #[true, true, true, true, true, true, true, false, false, false, false, false, false, false, false, false, false, false] rfl rfl (any_of HT_.out (by kernel_rfl)) (fun _ _ _ h => h) (Or.inl ⟨by rfl, ?_⟩) ?_ ?_
     rotate_left
     ·intro w'
      go_simp
      with_reducible rfl
     rotate_left
     ·exact pz
     refine pure_ (i := 7) (N := some 18) (v := ?_) (a' := ?_) #[true, true, true, true, true, true, true, true, false, false, false, false, false, false, false, false, false, false] rfl rfl (any_of HT_.out (by kernel_rfl)) (fun _ _ _ h => h) (Or.inl ⟨by rfl, ?_⟩) ?_ ?_
     rotate_left
     ·intro w'
      go_simp
      with_reducible rfl
     rotate_left
     ·exact pz
     refine pure_ (i := 8) (N := some 19) (v := ?_) (a' := ?_) #[true, true, true, true, true, true, true, true, true, false, false, false, false, false, false, false, false, false] rfl rfl (any_of HT_.out (by kernel_rfl)) (fun _ _ _ h => h) (Or.inl ⟨by rfl, ?_⟩) ?_ ?_
     rotate_left
     ·intro w'
      go_simp
      with_reducible rfl
     rotate_left
     ·exact pz
     refine take_ (i := 9) (N := some 20) (v := ?_) (a' := ?_) #[true, true, true, true, true, true, true, true, true, true, false, false, false, false, false, false, false, false] rfl rfl (take_ofW HT_.out HW_.out (by kernel_rfl)) (fun _ _ _ h => h) (Or.inl ⟨by rfl, ?_⟩) hHeld ?_ ?_
     rotate_left
     ·rintro w' ⟨s0, s1, s2, s3⟩
      go_simp
      with_reducible rfl
     rotate_left
     ·exact pz
     refine one_ (i := 10) (N := some 21) #[true, true, true, true, true, true, true, true, true, true, true, false, false, false, false, false, false, false] rfl rfl (one_of HT_.out (by kernel_rfl)) (by decide) (fun K hK => ?_)
     refine goes_ Try.func48 (by kernel_rfl) rfl #[] (by rfl) rfl rfl mz ?_
     with_reducible refine (spec_l8None.calls  t140 t141 _ A24.out).mono ?_
     rintro e w30 ⟨rfl, hb⟩
     refine ⟨_, rfl, ?_⟩
     have n0_ := Aside0.mk (blk_below (g := gb132) (o := .cells #[.int .i64 a0_0, .int .i64 a0_1] 24 (0, 0)) (bz BK132.out) hb)
     have n1_ := Aside0.mk (blk_below (g := gb133) (o := .cells #[.int .i64 a1_0, .int .i64 a1_1] 24 (0, 0)) (bz BK133.out) hb)
     have n2_ := Aside0.mk (blk_below (g := gb134) (o := .cells #[.int .i64 0, .int .i64 0] 24 (0, 0)) (bz BK134.out) hb)
     have n3_ := Aside0.mk (blk_below (g := gb137) (o := .cells #[.int .i64 t135, .int .i64 t136] 24 (0, 0)) (bz BK137.out) hb)
     have n4_ := Aside0.mk (below_step (hz4 HB.out GE132.out GE133.out GE134.out GE137.out) hb)
     clear BK132
     clear BK133
     clear BK134
     clear BK137
     clear HB
     have BK132 := n0_
     have BK133 := n1_
     have BK134 := n2_
     have BK137 := n3_
     have HB := n4_
     clear n0_ n1_ n2_ n3_ n4_
     (try clear hb)
     (try clear hb2)
     (try clear hk)
     (try clear hi)
     refine hK.out _ _ ⟨(blk_cell BK132.out 0).trans rfl, (blk_cell BK132.out 1).trans rfl, (blk_cell BK133.out 0).trans rfl, (blk_cell BK133.out 1).trans rfl⟩ (fun hHeld => ?_)
     clear hK K
     refine norm_ (a' := ?_) ?_ ?_
     rotate_left
     ·show Act.put _ (some 21) _ = _
      simp only [Act.put, List.setIfInBounds_toArray, List.set_cons_zero, List.set_cons_succ, i64_w, i32_w]
      rfl
     refine pure_ (i := 11) (N := some 22) (v := ?_) (a' := ?_) #[true, true, true, true, true, true, true, true, true, true, true, true, false, false, false, false, false, false] rfl rfl (any_of HT_.out (by kernel_rfl)) (fun _ _ _ h => h) (Or.inl ⟨by rfl, ?_⟩) ?_ ?_
     rotate_left
     ·intro w'
      go_simp
      with_reducible rfl
     rotate_left
     ·exact pz
     refine pure_ (i := 12) (N := some 23) (v := ?_) (a' := ?_) #[true, true, true, true, true, true, true, true, true, true, true, true, true, false, false, false, false, false] rfl rfl (any_of HT_.out (by kernel_rfl)) (fun _ _ _ h => h) (Or.inl ⟨by rfl, ?_⟩) ?_ ?_
     rotate_left
     ·intro w'
      go_simp
      with_reducible rfl
     rotate_left
     ·exact pz
     refine pure_ (i := 13) (N := some 24) (v := ?_) (a' := ?_) #[true, true, true, true, true, true, true, true, true, true, true, true, true, true, false, false, false, false] rfl rfl (any_of HT_.out (by kernel_rfl)) (fun _ _ _ h => h) (Or.inl ⟨by rfl, ?_⟩) ?_ ?_
     rotate_left
     ·intro w'
      go_simp
      with_reducible rfl
     rotate_left
     ·exact pz
     refine pure_ (i := 14) (N := some 25) (v := undef) (a' := ?_) #[true, true, true, true, true, true, true, true, true, true, true, true, true, true, true, false, false, false] rfl rfl (any_of HT_.out (by kernel_rfl)) (fun _ _ _ h => h) (Or.inr ⟨by rfl, rfl⟩) ?_ ?_
     rotate_left
     ·exact pz
     refine pure_ (i := 15) (N := some 26) (v := undef) (a' := ?_) #[true, true, true, true, true, true, true, true, true, true, true, true, true, true, true, true, false, false] rfl rfl (any_of HT_.out (by kernel_rfl)) (fun _ _ _ h => h) (Or.inr ⟨by rfl, rfl⟩) ?_ ?_
     rotate_left
     ·exact pz
     refine pure_ (i := 16) (N := some 27) (v := undef) (a' := ?_) #[true, true, true, true, true, true, true, true, true, true, true, true, true, true, true, true, true, false] rfl rfl (any_of HT_.out (by kernel_rfl)) (fun _ _ _ h => h) (Or.inr ⟨by rfl, rfl⟩) ?_ ?_
     rotate_left
     ·exact pz
     refine pure_ (i := 17) (N := some 28) (v := ?_) (a' := ?_) #[true, true, true, true, true, true, true, true, true, true, true, true, true, true, true, true, true, true] rfl rfl (any_of HT_.out (by kernel_rfl)) (fun _ _ _ h => h) (Or.inl ⟨by rfl, ?_⟩) ?_ ?_
     rotate_left
     ·intro w'
      go_simp
      with_reducible rfl
     rotate_left
     ·exact pz
     refine done_ (done_of HT_.out (by kernel_rfl)) ?_
     try go_wp2
     go_meet
     case rel => exact ⟨_, (true), (by first | rfl | (simp; done) | (simp [*]; done)), H', ⟨by first | omega | exact Nat.le_refl _⟩, ⟨bz BK132.out⟩, ⟨bz BK133.out⟩, ⟨bz BK134.out⟩, ⟨bz BK137.out⟩, ⟨hz4 HB.out GE132.out GE133.out GE134.out GE137.out⟩⟩
    ·rw [if_neg c25] at H
     have c25b0 : (a0_0 == t140 && (a0_1 == t141)) = false := by simpa using c25
     (try (have c25b1 : decide (a0_0 = t140 && (a0_1 == t141)) = false := by simpa using c25))
     (try (have c25b2 : (a0_0 == t140 && (a0_1 == t141)) = false := by simpa using c25))
     (try (have c25b3 : ¬ (a0_0 = t140 && (a0_1 == t141)) := by simpa using c25))
     clear c25
     (first | rw [c25b0] | (simp only [i64_w, i32_w]; rw [c25b0]) | skip)
     replace H := Option.bind_eq_some_iff.mp H
     obtain ⟨⟨t142, t143⟩, A310, H⟩ := H
     replace H : (spec_RangeWiden.j0 k l2 (a1_0 == t142 && (a1_1 == t143)) a0_0 a0_1 t135 t136) = some (r1, r2) := H
     have A31 := Aside0.mk A310
     clear A310
     have H' := Aside0.mk H
     clear H
     try go_wp2
     have n0_ : Aside0 (((w15.setCell ⟨gb137, 0, none⟩ (.int .i64 t135)).setCell ⟨gb137, 1, none⟩ (.int .i64 t136)).heap[gb132]? = some (.cells #[.int .i64 a0_0, .int .i64 a0_1] 24 (0, 0))) := ⟨by (with_reducible repeat (first | refine blk_drewN ?_ _ | refine blk_drew ?_ | refine blk_alloc ?_ _)); refine blk_far ?_ NB132_137.out _; (with_reducible repeat (first | refine blk_drewN ?_ _ | refine blk_drew ?_ | refine blk_alloc ?_ _)); refine blk_far ?_ NB132_137.out _; (with_reducible repeat (first | refine blk_drewN ?_ _ | refine blk_drew ?_ | refine blk_alloc ?_ _)); exact BK132.out⟩
     have n1_ : Aside0 (((w15.setCell ⟨gb137, 0, none⟩ (.int .i64 t135)).setCell ⟨gb137, 1, none⟩ (.int .i64 t136)).heap[gb133]? = some (.cells #[.int .i64 a1_0, .int .i64 a1_1] 24 (0, 0))) := ⟨by (with_reducible repeat (first | refine blk_drewN ?_ _ | refine blk_drew ?_ | refine blk_alloc ?_ _)); refine blk_far ?_ NB133_137.out _; (with_reducible repeat (first | refine blk_drewN ?_ _ | refine blk_drew ?_ | refine blk_alloc ?_ _)); refine blk_far ?_ NB133_137.out _; (with_reducible repeat (first | refine blk_drewN ?_ _ | refine blk_drew ?_ | refine blk_alloc ?_ _)); exact BK133.out⟩
     have n2_ : Aside0 (((w15.setCell ⟨gb137, 0, none⟩ (.int .i64 t135)).setCell ⟨gb137, 1, none⟩ (.int .i64 t136)).heap[gb134]? = some (.cells #[.int .i64 0, .int .i64 0] 24 (0, 0))) := ⟨by (with_reducible repeat (first | refine blk_drewN ?_ _ | refine blk_drew ?_ | refine blk_alloc ?_ _)); refine blk_far ?_ NB134_137.out _; (with_reducible repeat (first | refine blk_drewN ?_ _ | refine blk_drew ?_ | refine blk_alloc ?_ _)); refine blk_far ?_ NB134_137.out _; (with_reducible repeat (first | refine blk_drewN ?_ _ | refine blk_drew ?_ | refine blk_alloc ?_ _)); exact BK134.out⟩
     have n3_ : Aside0 (((w15.setCell ⟨gb137, 0, none⟩ (.int .i64 t135)).setCell ⟨gb137, 1, none⟩ (.int .i64 t136)).heap[gb137]? = some (.cells #[.int .i64 t135, .int .i64 t136] 24 (0, 0))) := ⟨by (with_reducible repeat (first | refine blk_drewN ?_ _ | refine blk_drew ?_ | refine blk_alloc ?_ _)); refine blk_put (cs := #[.int .i64 t135, .int .i64 0]) ?_ 1 _ rfl; (with_reducible repeat (first | refine blk_drewN ?_ _ | refine blk_drew ?_ | refine blk_alloc ?_ _)); refine blk_put (cs := #[.int .i64 0, .int .i64 0]) ?_ 0 _ rfl; (with_reducible repeat (first | refine blk_drewN ?_ _ | refine blk_drew ?_ | refine blk_alloc ?_ _)); exact BK137.out⟩
     have n4_ : Aside0 (Below w.heap.size w ((w15.setCell ⟨gb137, 0, none⟩ (.int .i64 t135)).setCell ⟨gb137, 1, none⟩ (.int .i64 t136))) := ⟨hz4 HB.out GE132.out GE133.out GE134.out GE137.out⟩
     (try clear BK132)
     (try clear BK133)
     (try clear BK134)
     (try clear BK137)
     (try clear HB)
     generalize ((w15.setCell ⟨gb137, 0, none⟩ (.int .i64 t135)).setCell ⟨gb137, 1, none⟩ (.int .i64 t136)) = w32 at n0_ n1_ n2_ n3_ n4_ ⊢
     have BK132 := n0_
     have BK133 := n1_
     have BK134 := n2_
     have BK137 := n3_
     have HB := n4_
     clear n0_ n1_ n2_ n3_ n4_
     have n0_ := Aside0.mk (blk_drew BK132.out)
     have n1_ := Aside0.mk (blk_drew BK133.out)
     have n2_ := Aside0.mk (blk_drew BK134.out)
     have n3_ := Aside0.mk (blk_drew BK137.out)
     have n4_ := Aside0.mk (below_drew1 HB.out)
     clear BK132
     clear BK133
     clear BK134
     clear BK137
     clear HB
     have BK132 := n0_
     have BK133 := n1_
     have BK134 := n2_
     have BK137 := n3_
     have HB := n4_
     clear n0_ n1_ n2_ n3_ n4_
     refine start_ (n := 18) (S := fun w' => w'.cell? ⟨gb132, 0, none⟩ = some (.int .i64 a0_0) ∧ w'.cell? ⟨gb132, 1, none⟩ = some (.int .i64 a0_1) ∧ w'.cell? ⟨gb133, 0, none⟩ = some (.int .i64 a1_0) ∧ w'.cell? ⟨gb133, 1, none⟩ = some (.int .i64 a1_1)) (ds := []) #[false, false, false, false, false, false, false, false, false, false, false, false, false, false, false, false, false, false] (by kernel_rfl) rfl rfl ⟨(blk_cell BK132.out 0).trans rfl, (blk_cell BK132.out 1).trans rfl, (blk_cell BK133.out 0).trans rfl, (blk_cell BK133.out 1).trans rfl⟩ (fun hHeld => ?_); refine with_tabW spec_RangeWiden.tab2 spec_RangeWiden.bits2 (fun HT_ HW_ => ?_)
     generalize w32.drew = w33 at BK132 BK133 BK134 BK137 HB hHeld ⊢
     refine take_ (i := 0) (N := some 11) (v := ?_) (a' := ?_) #[true, false, false, false, false, false, false, false, false, false, false, false, false, false, false, false, false, false] rfl rfl (take_ofW HT_.out HW_.out (by kernel_rfl)) (fun _ _ _ h => h) (Or.inl ⟨by rfl, ?_⟩) hHeld ?_ ?_
     rotate_left
     ·rintro w' ⟨s0, s1, s2, s3⟩
      go_simp
      with_reducible rfl
     rotate_left
     ·exact pz
     refine one_ (i := 1) (N := some 12) #[true, true, false, false, false, false, false, false, false, false, false, false, false, false, false, false, false, false] rfl rfl (one_of HT_.out (by kernel_rfl)) (by decide) (fun K hK => ?_)
     refine goes_ Try.func47 (by kernel_rfl) rfl #[.agg #[.int .i64 a0_0, .int .i64 a0_1]] (by rfl) rfl rfl mz ?_
     with_reducible refine (spec_RangeOk.calls a0_0 a0_1 true _ A20.out).mono ?_
     rintro e w34 ⟨rfl, hb⟩
     refine ⟨_, rfl, ?_⟩
     have n0_ := Aside0.mk (blk_below (g := gb132) (o := .cells #[.int .i64 a0_0, .int .i64 a0_1] 24 (0, 0)) (bz BK132.out) hb)
     have n1_ := Aside0.mk (blk_below (g := gb133) (o := .cells #[.int .i64 a1_0, .int .i64 a1_1] 24 (0, 0)) (bz BK133.out) hb)
     have n2_ := Aside0.mk (blk_below (g := gb134) (o := .cells #[.int .i64 0, .int .i64 0] 24 (0, 0)) (bz BK134.out) hb)
     have n3_ := Aside0.mk (blk_below (g := gb137) (o := .cells #[.int .i64 t135, .int .i64 t136] 24 (0, 0)) (bz BK137.out) hb)
     have n4_ := Aside0.mk (below_step (hz4 HB.out GE132.out GE133.out GE134.out GE137.out) hb)
     clear BK132
     clear BK133
     clear BK134
     clear BK137
     clear HB
     have BK132 := n0_
     have BK133 := n1_
     have BK134 := n2_
     have BK137 := n3_
     have HB := n4_
     clear n0_ n1_ n2_ n3_ n4_
     (try clear hb)
     (try clear hb2)
     (try clear hk)
     (try clear hi)
     refine hK.out _ _ ⟨(blk_cell BK132.out 0).trans rfl, (blk_cell BK132.out 1).trans rfl, (blk_cell BK133.out 0).trans rfl, (blk_cell BK133.out 1).trans rfl⟩ (fun hHeld => ?_)
     clear hK K
     refine norm_ (a' := ?_) ?_ ?_
     rotate_left
     ·show Act.put _ (some 12) _ = _
      simp only [Act.put, List.setIfInBounds_toArray, List.set_cons_zero, List.set_cons_succ, i64_w, i32_w]
      rfl
     refine pure_ (i := 2) (N := some 13) (v := ?_) (a' := ?_) #[true, true, true, false, false, false, false, false, false, false, false, false, false, false, false, false, false, false] rfl rfl (any_of HT_.out (by kernel_rfl)) (fun _ _ _ h => h) (Or.inl ⟨by rfl, ?_⟩) ?_ ?_
     rotate_left
     ·intro w'
      go_simp
      with_reducible rfl
     rotate_left
     ·exact pz
     refine pure_ (i := 3) (N := some 14) (v := ?_) (a' := ?_) #[true, true, true, true, false, false, false, false, false, false, false, false, false, false, false, false, false, false] rfl rfl (any_of HT_.out (by kernel_rfl)) (fun _ _ _ h => h) (Or.inl ⟨by rfl, ?_⟩) ?_ ?_
     rotate_left
     ·intro w'
      go_simp
      with_reducible rfl
     rotate_left
     ·exact pz
     refine take_ (i := 4) (N := some 15) (v := ?_) (a' := ?_) #[true, true, true, true, true, false, false, false, false, false, false, false, false, false, false, false, false, false] rfl rfl (take_ofW HT_.out HW_.out (by kernel_rfl)) (fun _ _ _ h => h) (Or.inl ⟨by rfl, ?_⟩) hHeld ?_ ?_
     rotate_left
     ·rintro w' ⟨s0, s1, s2, s3⟩
      go_simp
      with_reducible rfl
     rotate_left
     ·exact pz
     refine one_ (i := 5) (N := some 16) #[true, true, true, true, true, true, false, false, false, false, false, false, false, false, false, false, false, false] rfl rfl (one_of HT_.out (by kernel_rfl)) (by decide) (fun K hK => ?_)
     refine goes_ Try.func47 (by kernel_rfl) rfl #[.agg #[.int .i64 a1_0, .int .i64 a1_1]] (by rfl) rfl rfl mz ?_
     with_reducible refine (spec_RangeOk.calls a1_0 a1_1 true _ A22.out).mono ?_
     rintro e w35 ⟨rfl, hb⟩
     refine ⟨_, rfl, ?_⟩
     have n0_ := Aside0.mk (blk_below (g := gb132) (o := .cells #[.int .i64 a0_0, .int .i64 a0_1] 24 (0, 0)) (bz BK132.out) hb)
     have n1_ := Aside0.mk (blk_below (g := gb133) (o := .cells #[.int .i64 a1_0, .int .i64 a1_1] 24 (0, 0)) (bz BK133.out) hb)
     have n2_ := Aside0.mk (blk_below (g := gb134) (o := .cells #[.int .i64 0, .int .i64 0] 24 (0, 0)) (bz BK134.out) hb)
     have n3_ := Aside0.mk (blk_below (g := gb137) (o := .cells #[.int .i64 t135, .int .i64 t136] 24 (0, 0)) (bz BK137.out) hb)
     have n4_ := Aside0.mk (below_step (hz4 HB.out GE132.out GE133.out GE134.out GE137.out) hb)
     clear BK132
     clear BK133
     clear BK134
     clear BK137
     clear HB
     have BK132 := n0_
     have BK133 := n1_
     have BK134 := n2_
     have BK137 := n3_
     have HB := n4_
     clear n0_ n1_ n2_ n3_ n4_
     (try clear hb)
     (try clear hb2)
     (try clear hk)
     (try clear hi)
     refine hK.out _ _ ⟨(blk_cell BK132.out 0).trans rfl, (blk_cell BK132.out 1).trans rfl, (blk_cell BK133.out 0).trans rfl, (blk_cell BK133.out 1).trans rfl⟩ (fun hHeld => ?_)
     clear hK K
     refine norm_ (a' := ?_) ?_ ?_
     rotate_left
     ·show Act.put _ (some 16) _ = _
      simp only [Act.put, List.setIfInBounds_toArray, List.set_cons_zero, List.set_cons_succ, i64_w, i32_w]
      rfl
     refine pure_ (i := 6) (N := some 17) (v := ?_) (a' := ?_) #[true, true, true, true, true, true, true, false, false, false, false, false, false, false, false, false, false, false] rfl rfl (any_of HT_.out (by kernel_rfl)) (fun _ _ _ h => h) (Or.inl ⟨by rfl, ?_⟩) ?_ ?_
     rotate_left
     ·intro w'
      go_simp
      with_reducible rfl
     rotate_left
     ·exact pz
     refine pure_ (i := 7) (N := some 18) (v := ?_) (a' := ?_) #[true, true, true, true, true, true, true, true, false, false, false, false, false, false, false, false, false, false] rfl rfl (any_of HT_.out (by kernel_rfl)) (fun _ _ _ h => h) (Or.inl ⟨by rfl, ?_⟩) ?_ ?_
     rotate_left
     ·intro w'
      go_simp
      with_reducible rfl
     rotate_left
     ·exact pz
     refine pure_ (i := 8) (N := some 19) (v := ?_) (a' := ?_) #[true, true, true, true, true, true, true, true, true, false, false, false, false, false, false, false, false, false] rfl rfl (any_of HT_.out (by kernel_rfl)) (fun _ _ _ h => h) (Or.inl ⟨by rfl, ?_⟩) ?_ ?_
     rotate_left
     ·intro w'
      go_simp
      with_reducible rfl
     rotate_left
     ·exact pz
     refine take_ (i := 9) (N := some 20) (v := ?_) (a' := ?_) #[true, true, true, true, true, true, true, true, true, true, false, false, false, false, false, false, false, false] rfl rfl (take_ofW HT_.out HW_.out (by kernel_rfl)) (fun _ _ _ h => h) (Or.inl ⟨by rfl, ?_⟩) hHeld ?_ ?_
     rotate_left
     ·rintro w' ⟨s0, s1, s2, s3⟩
      go_simp
      with_reducible rfl
     rotate_left
     ·exact pz
     refine one_ (i := 10) (N := some 21) #[true, true, true, true, true, true, true, true, true, true, true, false, false, false, false, false, false, false] rfl rfl (one_of HT_.out (by kernel_rfl)) (by decide) (fun K hK => ?_)
     refine goes_ Try.func48 (by kernel_rfl) rfl #[] (by rfl) rfl rfl mz ?_
     with_reducible refine (spec_l8None.calls  t140 t141 _ A24.out).mono ?_
     rintro e w36 ⟨rfl, hb⟩
     refine ⟨_, rfl, ?_⟩
     have n0_ := Aside0.mk (blk_below (g := gb132) (o := .cells #[.int .i64 a0_0, .int .i64 a0_1] 24 (0, 0)) (bz BK132.out) hb)
     have n1_ := Aside0.mk (blk_below (g := gb133) (o := .cells #[.int .i64 a1_0, .int .i64 a1_1] 24 (0, 0)) (bz BK133.out) hb)
     have n2_ := Aside0.mk (blk_below (g := gb134) (o := .cells #[.int .i64 0, .int .i64 0] 24 (0, 0)) (bz BK134.out) hb)
     have n3_ := Aside0.mk (blk_below (g := gb137) (o := .cells #[.int .i64 t135, .int .i64 t136] 24 (0, 0)) (bz BK137.out) hb)
     have n4_ := Aside0.mk (below_step (hz4 HB.out GE132.out GE133.out GE134.out GE137.out) hb)
     clear BK132
     clear BK133
     clear BK134
     clear BK137
     clear HB
     have BK132 := n0_
     have BK133 := n1_
     have BK134 := n2_
     have BK137 := n3_
     have HB := n4_
     clear n0_ n1_ n2_ n3_ n4_
     (try clear hb)
     (try clear hb2)
     (try clear hk)
     (try clear hi)
     refine hK.out _ _ ⟨(blk_cell BK132.out 0).trans rfl, (blk_cell BK132.out 1).trans rfl, (blk_cell BK133.out 0).trans rfl, (blk_cell BK133.out 1).trans rfl⟩ (fun hHeld => ?_)
     clear hK K
     refine norm_ (a' := ?_) ?_ ?_
     rotate_left
     ·show Act.put _ (some 21) _ = _
      simp only [Act.put, List.setIfInBounds_toArray, List.set_cons_zero, List.set_cons_succ, i64_w, i32_w]
      rfl
     refine pure_ (i := 11) (N := some 22) (v := ?_) (a' := ?_) #[true, true, true, true, true, true, true, true, true, true, true, true, false, false, false, false, false, false] rfl rfl (any_of HT_.out (by kernel_rfl)) (fun _ _ _ h => h) (Or.inl ⟨by rfl, ?_⟩) ?_ ?_
     rotate_left
     ·intro w'
      go_simp
      with_reducible rfl
     rotate_left
     ·exact pz
     refine pure_ (i := 12) (N := some 23) (v := ?_) (a' := ?_) #[true, true, true, true, true, true, true, true, true, true, true, true, true, false, false, false, false, false] rfl rfl (any_of HT_.out (by kernel_rfl)) (fun _ _ _ h => h) (Or.inl ⟨by rfl, ?_⟩) ?_ ?_
     rotate_left
     ·intro w'
      go_simp
      with_reducible rfl
     rotate_left
     ·exact pz
     refine pure_ (i := 13) (N := some 24) (v := ?_) (a' := ?_) #[true, true, true, true, true, true, true, true, true, true, true, true, true, true, false, false, false, false] rfl rfl (any_of HT_.out (by kernel_rfl)) (fun _ _ _ h => h) (Or.inl ⟨by rfl, ?_⟩) ?_ ?_
     rotate_left
     ·intro w'
      go_simp
      with_reducible rfl
     rotate_left
     ·exact pz
     refine take_ (i := 14) (N := some 25) (v := ?_) (a' := ?_) #[true, true, true, true, true, true, true, true, true, true, true, true, true, true, true, false, false, false] rfl rfl (take_ofW HT_.out HW_.out (by kernel_rfl)) (fun _ _ _ h => h) (Or.inl ⟨by rfl, ?_⟩) hHeld ?_ ?_
     rotate_left
     ·rintro w' ⟨s0, s1, s2, s3⟩
      go_simp
      with_reducible rfl
     rotate_left
     ·exact pz
     refine one_ (i := 15) (N := some 26) #[true, true, true, true, true, true, true, true, true, true, true, true, true, true, true, true, false, false] rfl rfl (one_of HT_.out (by kernel_rfl)) (by decide) (fun K hK => ?_)
     refine goes_ Try.func48 (by kernel_rfl) rfl #[] (by rfl) rfl rfl mz ?_
     with_reducible refine (spec_l8None.calls  t142 t143 _ A31.out).mono ?_
     rintro e w37 ⟨rfl, hb⟩
     refine ⟨_, rfl, ?_⟩
     have n0_ := Aside0.mk (blk_below (g := gb132) (o := .cells #[.int .i64 a0_0, .int .i64 a0_1] 24 (0, 0)) (bz BK132.out) hb)
     have n1_ := Aside0.mk (blk_below (g := gb133) (o := .cells #[.int .i64 a1_0, .int .i64 a1_1] 24 (0, 0)) (bz BK133.out) hb)
     have n2_ := Aside0.mk (blk_below (g := gb134) (o := .cells #[.int .i64 0, .int .i64 0] 24 (0, 0)) (bz BK134.out) hb)
     have n3_ := Aside0.mk (blk_below (g := gb137) (o := .cells #[.int .i64 t135, .int .i64 t136] 24 (0, 0)) (bz BK137.out) hb)
     have n4_ := Aside0.mk (below_step (hz4 HB.out GE132.out GE133.out GE134.out GE137.out) hb)
     clear BK132
     clear BK133
     clear BK134
     clear BK137
     clear HB
     have BK132 := n0_
     have BK133 := n1_
     have BK134 := n2_
     have BK137 := n3_
     have HB := n4_
     clear n0_ n1_ n2_ n3_ n4_
     (try clear hb)
     (try clear hb2)
     (try clear hk)
     (try clear hi)
     refine hK.out _ _ ⟨(blk_cell BK132.out 0).trans rfl, (blk_cell BK132.out 1).trans rfl, (blk_cell BK133.out 0).trans rfl, (blk_cell BK133.out 1).trans rfl⟩ (fun hHeld => ?_)
     clear hK K
     refine norm_ (a' := ?_) ?_ ?_
     rotate_left
     ·show Act.put _ (some 26) _ = _
      simp only [Act.put, List.setIfInBounds_toArray, List.set_cons_zero, List.set_cons_succ, i64_w, i32_w]
      rfl
     refine pure_ (i := 16) (N := some 27) (v := ?_) (a' := ?_) #[true, true, true, true, true, true, true, true, true, true, true, true, true, true, true, true, true, false] rfl rfl (any_of HT_.out (by kernel_rfl)) (fun _ _ _ h => h) (Or.inl ⟨by rfl, ?_⟩) ?_ ?_
     rotate_left
     ·intro w'
      go_simp
      with_reducible rfl
     rotate_left
     ·exact pz
     refine pure_ (i := 17) (N := some 28) (v := ?_) (a' := ?_) #[true, true, true, true, true, true, true, true, true, true, true, true, true, true, true, true, true, true] rfl rfl (any_of HT_.out (by kernel_rfl)) (fun _ _ _ h => h) (Or.inl ⟨by rfl, ?_⟩) ?_ ?_
     rotate_left
     ·intro w'
      go_simp
      with_reducible rfl
     rotate_left
     ·exact pz
     refine done_ (done_of HT_.out (by kernel_rfl)) ?_
     try go_wp2
     go_meet
     case rel => exact ⟨_, ((a1_0 == t142 && (a1_1 == t143))), (by first | rfl | (simp; done) | (simp [*]; done)), H', ⟨by first | omega | exact Nat.le_refl _⟩, ⟨bz BK132.out⟩, ⟨bz BK133.out⟩, ⟨bz BK134.out⟩, ⟨bz BK137.out⟩, ⟨hz4 HB.out GE132.out GE133.out GE134.out GE137.out⟩⟩
   ·replace c23 := Bool.eq_false_iff.mpr c23
    subst c23
    have H1 : (spec_RangeWiden.j0 k l2 true a0_0 a0_1 t135 t136) = some (r1, r2) := by rw [if_neg (show ¬ (false = true) by decide)] at H; exact H
    clear H
    have H := H1
    clear H1
    have H' := Aside0.mk H
    clear H
    try go_wp2
    have n0_ : Aside0 (((w15.setCell ⟨gb137, 0, none⟩ (.int .i64 t135)).setCell ⟨gb137, 1, none⟩ (.int .i64 t136)).heap[gb132]? = some (.cells #[.int .i64 a0_0, .int .i64 a0_1] 24 (0, 0))) := ⟨by (with_reducible repeat (first | refine blk_drewN ?_ _ | refine blk_drew ?_ | refine blk_alloc ?_ _)); refine blk_far ?_ NB132_137.out _; (with_reducible repeat (first | refine blk_drewN ?_ _ | refine blk_drew ?_ | refine blk_alloc ?_ _)); refine blk_far ?_ NB132_137.out _; (with_reducible repeat (first | refine blk_drewN ?_ _ | refine blk_drew ?_ | refine blk_alloc ?_ _)); exact BK132.out⟩
    have n1_ : Aside0 (((w15.setCell ⟨gb137, 0, none⟩ (.int .i64 t135)).setCell ⟨gb137, 1, none⟩ (.int .i64 t136)).heap[gb133]? = some (.cells #[.int .i64 a1_0, .int .i64 a1_1] 24 (0, 0))) := ⟨by (with_reducible repeat (first | refine blk_drewN ?_ _ | refine blk_drew ?_ | refine blk_alloc ?_ _)); refine blk_far ?_ NB133_137.out _; (with_reducible repeat (first | refine blk_drewN ?_ _ | refine blk_drew ?_ | refine blk_alloc ?_ _)); refine blk_far ?_ NB133_137.out _; (with_reducible repeat (first | refine blk_drewN ?_ _ | refine blk_drew ?_ | refine blk_alloc ?_ _)); exact BK133.out⟩
    have n2_ : Aside0 (((w15.setCell ⟨gb137, 0, none⟩ (.int .i64 t135)).setCell ⟨gb137, 1, none⟩ (.int .i64 t136)).heap[gb134]? = some (.cells #[.int .i64 0, .int .i64 0] 24 (0, 0))) := ⟨by (with_reducible repeat (first | refine blk_drewN ?_ _ | refine blk_drew ?_ | refine blk_alloc ?_ _)); refine blk_far ?_ NB134_137.out _; (with_reducible repeat (first | refine blk_drewN ?_ _ | refine blk_drew ?_ | refine blk_alloc ?_ _)); refine blk_far ?_ NB134_137.out _; (with_reducible repeat (first | refine blk_drewN ?_ _ | refine blk_drew ?_ | refine blk_alloc ?_ _)); exact BK134.out⟩
    have n3_ : Aside0 (((w15.setCell ⟨gb137, 0, none⟩ (.int .i64 t135)).setCell ⟨gb137, 1, none⟩ (.int .i64 t136)).heap[gb137]? = some (.cells #[.int .i64 t135, .int .i64 t136] 24 (0, 0))) := ⟨by (with_reducible repeat (first | refine blk_drewN ?_ _ | refine blk_drew ?_ | refine blk_alloc ?_ _)); refine blk_put (cs := #[.int .i64 t135, .int .i64 0]) ?_ 1 _ rfl; (with_reducible repeat (first | refine blk_drewN ?_ _ | refine blk_drew ?_ | refine blk_alloc ?_ _)); refine blk_put (cs := #[.int .i64 0, .int .i64 0]) ?_ 0 _ rfl; (with_reducible repeat (first | refine blk_drewN ?_ _ | refine blk_drew ?_ | refine blk_alloc ?_ _)); exact BK137.out⟩
    have n4_ : Aside0 (Below w.heap.size w ((w15.setCell ⟨gb137, 0, none⟩ (.int .i64 t135)).setCell ⟨gb137, 1, none⟩ (.int .i64 t136))) := ⟨hz4 HB.out GE132.out GE133.out GE134.out GE137.out⟩
    (try clear BK132)
    (try clear BK133)
    (try clear BK134)
    (try clear BK137)
    (try clear HB)
    generalize ((w15.setCell ⟨gb137, 0, none⟩ (.int .i64 t135)).setCell ⟨gb137, 1, none⟩ (.int .i64 t136)) = w38 at n0_ n1_ n2_ n3_ n4_ ⊢
    have BK132 := n0_
    have BK133 := n1_
    have BK134 := n2_
    have BK137 := n3_
    have HB := n4_
    clear n0_ n1_ n2_ n3_ n4_
    have n0_ := Aside0.mk (blk_drew BK132.out)
    have n1_ := Aside0.mk (blk_drew BK133.out)
    have n2_ := Aside0.mk (blk_drew BK134.out)
    have n3_ := Aside0.mk (blk_drew BK137.out)
    have n4_ := Aside0.mk (below_drew1 HB.out)
    clear BK132
    clear BK133
    clear BK134
    clear BK137
    clear HB
    have BK132 := n0_
    have BK133 := n1_
    have BK134 := n2_
    have BK137 := n3_
    have HB := n4_
    clear n0_ n1_ n2_ n3_ n4_
    refine start_ (n := 18) (S := fun w' => w'.cell? ⟨gb132, 0, none⟩ = some (.int .i64 a0_0) ∧ w'.cell? ⟨gb132, 1, none⟩ = some (.int .i64 a0_1) ∧ w'.cell? ⟨gb133, 0, none⟩ = some (.int .i64 a1_0) ∧ w'.cell? ⟨gb133, 1, none⟩ = some (.int .i64 a1_1)) (ds := []) #[false, false, false, false, false, false, false, false, false, false, false, false, false, false, false, false, false, false] (by kernel_rfl) rfl rfl ⟨(blk_cell BK132.out 0).trans rfl, (blk_cell BK132.out 1).trans rfl, (blk_cell BK133.out 0).trans rfl, (blk_cell BK133.out 1).trans rfl⟩ (fun hHeld => ?_); refine with_tabW spec_RangeWiden.tab2 spec_RangeWiden.bits2 (fun HT_ HW_ => ?_)
    generalize w38.drew = w39 at BK132 BK133 BK134 BK137 HB hHeld ⊢
    refine take_ (i := 0) (N := some 11) (v := ?_) (a' := ?_) #[true, false, false, false, false, false, false, false, false, false, false, false, false, false, false, false, false, false] rfl rfl (take_ofW HT_.out HW_.out (by kernel_rfl)) (fun _ _ _ h => h) (Or.inl ⟨by rfl, ?_⟩) hHeld ?_ ?_
    rotate_left
    ·rintro w' ⟨s0, s1, s2, s3⟩
     go_simp
     with_reducible rfl
    rotate_left
    ·exact pz
    refine one_ (i := 1) (N := some 12) #[true, true, false, false, false, false, false, false, false, false, false, false, false, false, false, false, false, false] rfl rfl (one_of HT_.out (by kernel_rfl)) (by decide) (fun K hK => ?_)
    refine goes_ Try.func47 (by kernel_rfl) rfl #[.agg #[.int .i64 a0_0, .int .i64 a0_1]] (by rfl) rfl rfl mz ?_
    with_reducible refine (spec_RangeOk.calls a0_0 a0_1 true _ A20.out).mono ?_
    rintro e w40 ⟨rfl, hb⟩
    refine ⟨_, rfl, ?_⟩
    have n0_ := Aside0.mk (blk_below (g := gb132) (o := .cells #[.int .i64 a0_0, .int .i64 a0_1] 24 (0, 0)) (bz BK132.out) hb)
    have n1_ := Aside0.mk (blk_below (g := gb133) (o := .cells #[.int .i64 a1_0, .int .i64 a1_1] 24 (0, 0)) (bz BK133.out) hb)
    have n2_ := Aside0.mk (blk_below (g := gb134) (o := .cells #[.int .i64 0, .int .i64 0] 24 (0, 0)) (bz BK134.out) hb)
    have n3_ := Aside0.mk (blk_below (g := gb137) (o := .cells #[.int .i64 t135, .int .i64 t136] 24 (0, 0)) (bz BK137.out) hb)
    have n4_ := Aside0.mk (below_step (hz4 HB.out GE132.out GE133.out GE134.out GE137.out) hb)
    clear BK132
    clear BK133
    clear BK134
    clear BK137
    clear HB
    have BK132 := n0_
    have BK133 := n1_
    have BK134 := n2_
    have BK137 := n3_
    have HB := n4_
    clear n0_ n1_ n2_ n3_ n4_
    (try clear hb)
    (try clear hb2)
    (try clear hk)
    (try clear hi)
    refine hK.out _ _ ⟨(blk_cell BK132.out 0).trans rfl, (blk_cell BK132.out 1).trans rfl, (blk_cell BK133.out 0).trans rfl, (blk_cell BK133.out 1).trans rfl⟩ (fun hHeld => ?_)
    clear hK K
    refine norm_ (a' := ?_) ?_ ?_
    rotate_left
    ·show Act.put _ (some 12) _ = _
     simp only [Act.put, List.setIfInBounds_toArray, List.set_cons_zero, List.set_cons_succ, i64_w, i32_w]
     rfl
    refine pure_ (i := 2) (N := some 13) (v := ?_) (a' := ?_) #[true, true, true, false, false, false, false, false, false, false, false, false, false, false, false, false, false, false] rfl rfl (any_of HT_.out (by kernel_rfl)) (fun _ _ _ h => h) (Or.inl ⟨by rfl, ?_⟩) ?_ ?_
    rotate_left
    ·intro w'
     go_simp
     with_reducible rfl
    rotate_left
    ·exact pz
    refine pure_ (i := 3) (N := some 14) (v := ?_) (a' := ?_) #[true, true, true, true, false, false, false, false, false, false, false, false, false, false, false, false, false, false] rfl rfl (any_of HT_.out (by kernel_rfl)) (fun _ _ _ h => h) (Or.inl ⟨by rfl, ?_⟩) ?_ ?_
    rotate_left
    ·intro w'
     go_simp
     with_reducible rfl
    rotate_left
    ·exact pz
    refine take_ (i := 4) (N := some 15) (v := ?_) (a' := ?_) #[true, true, true, true, true, false, false, false, false, false, false, false, false, false, false, false, false, false] rfl rfl (take_ofW HT_.out HW_.out (by kernel_rfl)) (fun _ _ _ h => h) (Or.inl ⟨by rfl, ?_⟩) hHeld ?_ ?_
    rotate_left
    ·rintro w' ⟨s0, s1, s2, s3⟩
     go_simp
     with_reducible rfl
    rotate_left
    ·exact pz
    refine one_ (i := 5) (N := some 16) #[true, true, true, true, true, true, false, false, false, false, false, false, false, false, false, false, false, false] rfl rfl (one_of HT_.out (by kernel_rfl)) (by decide) (fun K hK => ?_)
    refine goes_ Try.func47 (by kernel_rfl) rfl #[.agg #[.int .i64 a1_0, .int .i64 a1_1]] (by rfl) rfl rfl mz ?_
    with_reducible refine (spec_RangeOk.calls a1_0 a1_1 false _ A22.out).mono ?_
    rintro e w41 ⟨rfl, hb⟩
    refine ⟨_, rfl, ?_⟩
    have n0_ := Aside0.mk (blk_below (g := gb132) (o := .cells #[.int .i64 a0_0, .int .i64 a0_1] 24 (0, 0)) (bz BK132.out) hb)
    have n1_ := Aside0.mk (blk_below (g := gb133) (o := .cells #[.int .i64 a1_0, .int .i64 a1_1] 24 (0, 0)) (bz BK133.out) hb)
    have n2_ := Aside0.mk (blk_below (g := gb134) (o := .cells #[.int .i64 0, .int .i64 0] 24 (0, 0)) (bz BK134.out) hb)
    have n3_ := Aside0.mk (blk_below (g := gb137) (o := .cells #[.int .i64 t135, .int .i64 t136] 24 (0, 0)) (bz BK137.out) hb)
    have n4_ := Aside0.mk (below_step (hz4 HB.out GE132.out GE133.out GE134.out GE137.out) hb)
    clear BK132
    clear BK133
    clear BK134
    clear BK137
    clear HB
    have BK132 := n0_
    have BK133 := n1_
    have BK134 := n2_
    have BK137 := n3_
    have HB := n4_
    clear n0_ n1_ n2_ n3_ n4_
    (try clear hb)
    (try clear hb2)
    (try clear hk)
    (try clear hi)
    refine hK.out _ _ ⟨(blk_cell BK132.out 0).trans rfl, (blk_cell BK132.out 1).trans rfl, (blk_cell BK133.out 0).trans rfl, (blk_cell BK133.out 1).trans rfl⟩ (fun hHeld => ?_)
    clear hK K
    refine norm_ (a' := ?_) ?_ ?_
    rotate_left
    ·show Act.put _ (some 16) _ = _
     simp only [Act.put, List.setIfInBounds_toArray, List.set_cons_zero, List.set_cons_succ, i64_w, i32_w]
     rfl
    refine pure_ (i := 6) (N := some 17) (v := ?_) (a' := ?_) #[true, true, true, true, true, true, true, false, false, false, false, false, false, false, false, false, false, false] rfl rfl (any_of HT_.out (by kernel_rfl)) (fun _ _ _ h => h) (Or.inl ⟨by rfl, ?_⟩) ?_ ?_
    rotate_left
    ·intro w'
     go_simp
     with_reducible rfl
    rotate_left
    ·exact pz
    refine pure_ (i := 7) (N := some 18) (v := ?_) (a' := ?_) #[true, true, true, true, true, true, true, true, false, false, false, false, false, false, false, false, false, false] rfl rfl (any_of HT_.out (by kernel_rfl)) (fun _ _ _ h => h) (Or.inl ⟨by rfl, ?_⟩) ?_ ?_
    rotate_left
    ·intro w'
     go_simp
     with_reducible rfl
    rotate_left
    ·exact pz
    refine pure_ (i := 8) (N := some 19) (v := ?_) (a' := ?_) #[true, true, true, true, true, true, true, true, true, false, false, false, false, false, false, false, false, false] rfl rfl (any_of HT_.out (by kernel_rfl)) (fun _ _ _ h => h) (Or.inl ⟨by rfl, ?_⟩) ?_ ?_
    rotate_left
    ·intro w'
     go_simp
     with_reducible rfl
    rotate_left
    ·exact pz
    refine pure_ (i := 9) (N := some 20) (v := undef) (a' := ?_) #[true, true, true, true, true, true, true, true, true, true, false, false, false, false, false, false, false, false] rfl rfl (any_of HT_.out (by kernel_rfl)) (fun _ _ _ h => h) (Or.inr ⟨by rfl, rfl⟩) ?_ ?_
    rotate_left
    ·exact pz
    refine pure_ (i := 10) (N := some 21) (v := undef) (a' := ?_) #[true, true, true, true, true, true, true, true, true, true, true, false, false, false, false, false, false, false] rfl rfl (any_of HT_.out (by kernel_rfl)) (fun _ _ _ h => h) (Or.inr ⟨by rfl, rfl⟩) ?_ ?_
    rotate_left
    ·exact pz
    refine pure_ (i := 11) (N := some 22) (v := undef) (a' := ?_) #[true, true, true, true, true, true, true, true, true, true, true, true, false, false, false, false, false, false] rfl rfl (any_of HT_.out (by kernel_rfl)) (fun _ _ _ h => h) (Or.inr ⟨by rfl, rfl⟩) ?_ ?_
    rotate_left
    ·exact pz
    refine pure_ (i := 12) (N := some 23) (v := ?_) (a' := ?_) #[true, true, true, true, true, true, true, true, true, true, true, true, true, false, false, false, false, false] rfl rfl (any_of HT_.out (by kernel_rfl)) (fun _ _ _ h => h) (Or.inl ⟨by rfl, ?_⟩) ?_ ?_
    rotate_left
    ·intro w'
     go_simp
     with_reducible rfl
    rotate_left
    ·exact pz
    refine pure_ (i := 13) (N := some 24) (v := ?_) (a' := ?_) #[true, true, true, true, true, true, true, true, true, true, true, true, true, true, false, false, false, false] rfl rfl (any_of HT_.out (by kernel_rfl)) (fun _ _ _ h => h) (Or.inl ⟨by rfl, ?_⟩) ?_ ?_
    rotate_left
    ·intro w'
     go_simp
     with_reducible rfl
    rotate_left
    ·exact pz
    refine pure_ (i := 14) (N := some 25) (v := undef) (a' := ?_) #[true, true, true, true, true, true, true, true, true, true, true, true, true, true, true, false, false, false] rfl rfl (any_of HT_.out (by kernel_rfl)) (fun _ _ _ h => h) (Or.inr ⟨by rfl, rfl⟩) ?_ ?_
    rotate_left
    ·exact pz
    refine pure_ (i := 15) (N := some 26) (v := undef) (a' := ?_) #[true, true, true, true, true, true, true, true, true, true, true, true, true, true, true, true, false, false] rfl rfl (any_of HT_.out (by kernel_rfl)) (fun _ _ _ h => h) (Or.inr ⟨by rfl, rfl⟩) ?_ ?_
    rotate_left
    ·exact pz
    refine pure_ (i := 16) (N := some 27) (v := undef) (a' := ?_) #[true, true, true, true, true, true, true, true, true, true, true, true, true, true, true, true, true, false] rfl rfl (any_of HT_.out (by kernel_rfl)) (fun _ _ _ h => h) (Or.inr ⟨by rfl, rfl⟩) ?_ ?_
    rotate_left
    ·exact pz
    refine pure_ (i := 17) (N := some 28) (v := ?_) (a' := ?_) #[true, true, true, true, true, true, true, true, true, true, true, true, true, true, true, true, true, true] rfl rfl (any_of HT_.out (by kernel_rfl)) (fun _ _ _ h => h) (Or.inl ⟨by rfl, ?_⟩) ?_ ?_
    rotate_left
    ·intro w'
     go_simp
     with_reducible rfl
    rotate_left
    ·exact pz
    refine done_ (done_of HT_.out (by kernel_rfl)) ?_
    try go_wp2
    go_meet
    case rel => exact ⟨_, (true), (by first | rfl | (simp; done) | (simp [*]; done)), H', ⟨by first | omega | exact Nat.le_refl _⟩, ⟨bz BK132.out⟩, ⟨bz BK133.out⟩, ⟨bz BK134.out⟩, ⟨bz BK137.out⟩, ⟨hz4 HB.out GE132.out GE133.out GE134.out GE137.out⟩⟩
  ·replace c21 := Bool.eq_false_iff.mpr c21
   subst c21
   have H1 : (spec_RangeWiden.j0 k l2 true a0_0 a0_1 t135 t136) = some (r1, r2) := by rw [if_neg (show ¬ (false = true) by decide)] at H; exact H
   clear H
   have H := H1
   clear H1
   have H' := Aside0.mk H
   clear H
   try go_wp2
   have n0_ : Aside0 (((w15.setCell ⟨gb137, 0, none⟩ (.int .i64 t135)).setCell ⟨gb137, 1, none⟩ (.int .i64 t136)).heap[gb132]? = some (.cells #[.int .i64 a0_0, .int .i64 a0_1] 24 (0, 0))) := ⟨by (with_reducible repeat (first | refine blk_drewN ?_ _ | refine blk_drew ?_ | refine blk_alloc ?_ _)); refine blk_far ?_ NB132_137.out _; (with_reducible repeat (first | refine blk_drewN ?_ _ | refine blk_drew ?_ | refine blk_alloc ?_ _)); refine blk_far ?_ NB132_137.out _; (with_reducible repeat (first | refine blk_drewN ?_ _ | refine blk_drew ?_ | refine blk_alloc ?_ _)); exact BK132.out⟩
   have n1_ : Aside0 (((w15.setCell ⟨gb137, 0, none⟩ (.int .i64 t135)).setCell ⟨gb137, 1, none⟩ (.int .i64 t136)).heap[gb133]? = some (.cells #[.int .i64 a1_0, .int .i64 a1_1] 24 (0, 0))) := ⟨by (with_reducible repeat (first | refine blk_drewN ?_ _ | refine blk_drew ?_ | refine blk_alloc ?_ _)); refine blk_far ?_ NB133_137.out _; (with_reducible repeat (first | refine blk_drewN ?_ _ | refine blk_drew ?_ | refine blk_alloc ?_ _)); refine blk_far ?_ NB133_137.out _; (with_reducible repeat (first | refine blk_drewN ?_ _ | refine blk_drew ?_ | refine blk_alloc ?_ _)); exact BK133.out⟩
   have n2_ : Aside0 (((w15.setCell ⟨gb137, 0, none⟩ (.int .i64 t135)).setCell ⟨gb137, 1, none⟩ (.int .i64 t136)).heap[gb134]? = some (.cells #[.int .i64 0, .int .i64 0] 24 (0, 0))) := ⟨by (with_reducible repeat (first | refine blk_drewN ?_ _ | refine blk_drew ?_ | refine blk_alloc ?_ _)); refine blk_far ?_ NB134_137.out _; (with_reducible repeat (first | refine blk_drewN ?_ _ | refine blk_drew ?_ | refine blk_alloc ?_ _)); refine blk_far ?_ NB134_137.out _; (with_reducible repeat (first | refine blk_drewN ?_ _ | refine blk_drew ?_ | refine blk_alloc ?_ _)); exact BK134.out⟩
   have n3_ : Aside0 (((w15.setCell ⟨gb137, 0, none⟩ (.int .i64 t135)).setCell ⟨gb137, 1, none⟩ (.int .i64 t136)).heap[gb137]? = some (.cells #[.int .i64 t135, .int .i64 t136] 24 (0, 0))) := ⟨by (with_reducible repeat (first | refine blk_drewN ?_ _ | refine blk_drew ?_ | refine blk_alloc ?_ _)); refine blk_put (cs := #[.int .i64 t135, .int .i64 0]) ?_ 1 _ rfl; (with_reducible repeat (first | refine blk_drewN ?_ _ | refine blk_drew ?_ | refine blk_alloc ?_ _)); refine blk_put (cs := #[.int .i64 0, .int .i64 0]) ?_ 0 _ rfl; (with_reducible repeat (first | refine blk_drewN ?_ _ | refine blk_drew ?_ | refine blk_alloc ?_ _)); exact BK137.out⟩
   have n4_ : Aside0 (Below w.heap.size w ((w15.setCell ⟨gb137, 0, none⟩ (.int .i64 t135)).setCell ⟨gb137, 1, none⟩ (.int .i64 t136))) := ⟨hz4 HB.out GE132.out GE133.out GE134.out GE137.out⟩
   (try clear BK132)
   (try clear BK133)
   (try clear BK134)
   (try clear BK137)
   (try clear HB)
   generalize ((w15.setCell ⟨gb137, 0, none⟩ (.int .i64 t135)).setCell ⟨gb137, 1, none⟩ (.int .i64 t136)) = w42 at n0_ n1_ n2_ n3_ n4_ ⊢
   have BK132 := n0_
   have BK133 := n1_
   have BK134 := n2_
   have BK137 := n3_
   have HB := n4_
   clear n0_ n1_ n2_ n3_ n4_
   have n0_ := Aside0.mk (blk_drew BK132.out)
   have n1_ := Aside0.mk (blk_drew BK133.out)
   have n2_ := Aside0.mk (blk_drew BK134.out)
   have n3_ := Aside0.mk (blk_drew BK137.out)
   have n4_ := Aside0.mk (below_drew1 HB.out)
   clear BK132
   clear BK133
   clear BK134
   clear BK137
   clear HB
   have BK132 := n0_
   have BK133 := n1_
   have BK134 := n2_
   have BK137 := n3_
   have HB := n4_
   clear n0_ n1_ n2_ n3_ n4_
   refine start_ (n := 18) (S := fun w' => w'.cell? ⟨gb132, 0, none⟩ = some (.int .i64 a0_0) ∧ w'.cell? ⟨gb132, 1, none⟩ = some (.int .i64 a0_1)) (ds := []) #[false, false, false, false, false, false, false, false, false, false, false, false, false, false, false, false, false, false] (by kernel_rfl) rfl rfl ⟨(blk_cell BK132.out 0).trans rfl, (blk_cell BK132.out 1).trans rfl⟩ (fun hHeld => ?_); refine with_tabW spec_RangeWiden.tab2 spec_RangeWiden.bits2 (fun HT_ HW_ => ?_)
   generalize w42.drew = w43 at BK132 BK133 BK134 BK137 HB hHeld ⊢
   refine take_ (i := 0) (N := some 11) (v := ?_) (a' := ?_) #[true, false, false, false, false, false, false, false, false, false, false, false, false, false, false, false, false, false] rfl rfl (take_ofW HT_.out HW_.out (by kernel_rfl)) (fun _ _ _ h => h) (Or.inl ⟨by rfl, ?_⟩) hHeld ?_ ?_
   rotate_left
   ·rintro w' ⟨s0, s1⟩
    go_simp
    with_reducible rfl
   rotate_left
   ·exact pz
   refine one_ (i := 1) (N := some 12) #[true, true, false, false, false, false, false, false, false, false, false, false, false, false, false, false, false, false] rfl rfl (one_of HT_.out (by kernel_rfl)) (by decide) (fun K hK => ?_)
   refine goes_ Try.func47 (by kernel_rfl) rfl #[.agg #[.int .i64 a0_0, .int .i64 a0_1]] (by rfl) rfl rfl mz ?_
   with_reducible refine (spec_RangeOk.calls a0_0 a0_1 false _ A20.out).mono ?_
   rintro e w44 ⟨rfl, hb⟩
   refine ⟨_, rfl, ?_⟩
   have n0_ := Aside0.mk (blk_below (g := gb132) (o := .cells #[.int .i64 a0_0, .int .i64 a0_1] 24 (0, 0)) (bz BK132.out) hb)
   have n1_ := Aside0.mk (blk_below (g := gb133) (o := .cells #[.int .i64 a1_0, .int .i64 a1_1] 24 (0, 0)) (bz BK133.out) hb)
   have n2_ := Aside0.mk (blk_below (g := gb134) (o := .cells #[.int .i64 0, .int .i64 0] 24 (0, 0)) (bz BK134.out) hb)
   have n3_ := Aside0.mk (blk_below (g := gb137) (o := .cells #[.int .i64 t135, .int .i64 t136] 24 (0, 0)) (bz BK137.out) hb)
   have n4_ := Aside0.mk (below_step (hz4 HB.out GE132.out GE133.out GE134.out GE137.out) hb)
   clear BK132
   clear BK133
   clear BK134
   clear BK137
   clear HB
   have BK132 := n0_
   have BK133 := n1_
   have BK134 := n2_
   have BK137 := n3_
   have HB := n4_
   clear n0_ n1_ n2_ n3_ n4_
   (try clear hb)
   (try clear hb2)
   (try clear hk)
   (try clear hi)
   refine hK.out _ _ ⟨(blk_cell BK132.out 0).trans rfl, (blk_cell BK132.out 1).trans rfl⟩ (fun hHeld => ?_)
   clear hK K
   refine norm_ (a' := ?_) ?_ ?_
   rotate_left
   ·show Act.put _ (some 12) _ = _
    simp only [Act.put, List.setIfInBounds_toArray, List.set_cons_zero, List.set_cons_succ, i64_w, i32_w]
    rfl
   refine pure_ (i := 2) (N := some 13) (v := ?_) (a' := ?_) #[true, true, true, false, false, false, false, false, false, false, false, false, false, false, false, false, false, false] rfl rfl (any_of HT_.out (by kernel_rfl)) (fun _ _ _ h => h) (Or.inl ⟨by rfl, ?_⟩) ?_ ?_
   rotate_left
   ·intro w'
    go_simp
    with_reducible rfl
   rotate_left
   ·exact pz
   refine pure_ (i := 3) (N := some 14) (v := ?_) (a' := ?_) #[true, true, true, true, false, false, false, false, false, false, false, false, false, false, false, false, false, false] rfl rfl (any_of HT_.out (by kernel_rfl)) (fun _ _ _ h => h) (Or.inl ⟨by rfl, ?_⟩) ?_ ?_
   rotate_left
   ·intro w'
    go_simp
    with_reducible rfl
   rotate_left
   ·exact pz
   refine pure_ (i := 4) (N := some 15) (v := undef) (a' := ?_) #[true, true, true, true, true, false, false, false, false, false, false, false, false, false, false, false, false, false] rfl rfl (any_of HT_.out (by kernel_rfl)) (fun _ _ _ h => h) (Or.inr ⟨by rfl, rfl⟩) ?_ ?_
   rotate_left
   ·exact pz
   refine pure_ (i := 5) (N := some 16) (v := undef) (a' := ?_) #[true, true, true, true, true, true, false, false, false, false, false, false, false, false, false, false, false, false] rfl rfl (any_of HT_.out (by kernel_rfl)) (fun _ _ _ h => h) (Or.inr ⟨by rfl, rfl⟩) ?_ ?_
   rotate_left
   ·exact pz
   refine pure_ (i := 6) (N := some 17) (v := undef) (a' := ?_) #[true, true, true, true, true, true, true, false, false, false, false, false, false, false, false, false, false, false] rfl rfl (any_of HT_.out (by kernel_rfl)) (fun _ _ _ h => h) (Or.inr ⟨by rfl, rfl⟩) ?_ ?_
   rotate_left
   ·exact pz
   refine pure_ (i := 7) (N := some 18) (v := ?_) (a' := ?_) #[true, true, true, true, true, true, true, true, false, false, false, false, false, false, false, false, false, false] rfl rfl (any_of HT_.out (by kernel_rfl)) (fun _ _ _ h => h) (Or.inl ⟨by rfl, ?_⟩) ?_ ?_
   rotate_left
   ·intro w'
    go_simp
    with_reducible rfl
   rotate_left
   ·exact pz
   refine pure_ (i := 8) (N := some 19) (v := ?_) (a' := ?_) #[true, true, true, true, true, true, true, true, true, false, false, false, false, false, false, false, false, false] rfl rfl (any_of HT_.out (by kernel_rfl)) (fun _ _ _ h => h) (Or.inl ⟨by rfl, ?_⟩) ?_ ?_
   rotate_left
   ·intro w'
    go_simp
    with_reducible rfl
   rotate_left
   ·exact pz
   refine pure_ (i := 9) (N := some 20) (v := undef) (a' := ?_) #[true, true, true, true, true, true, true, true, true, true, false, false, false, false, false, false, false, false] rfl rfl (any_of HT_.out (by kernel_rfl)) (fun _ _ _ h => h) (Or.inr ⟨by rfl, rfl⟩) ?_ ?_
   rotate_left
   ·exact pz
   refine pure_ (i := 10) (N := some 21) (v := undef) (a' := ?_) #[true, true, true, true, true, true, true, true, true, true, true, false, false, false, false, false, false, false] rfl rfl (any_of HT_.out (by kernel_rfl)) (fun _ _ _ h => h) (Or.inr ⟨by rfl, rfl⟩) ?_ ?_
   rotate_left
   ·exact pz
   refine pure_ (i := 11) (N := some 22) (v := undef) (a' := ?_) #[true, true, true, true, true, true, true, true, true, true, true, true, false, false, false, false, false, false] rfl rfl (any_of HT_.out (by kernel_rfl)) (fun _ _ _ h => h) (Or.inr ⟨by rfl, rfl⟩) ?_ ?_
   rotate_left
   ·exact pz
   refine pure_ (i := 12) (N := some 23) (v := ?_) (a' := ?_) #[true, true, true, true, true, true, true, true, true, true, true, true, true, false, false, false, false, false] rfl rfl (any_of HT_.out (by kernel_rfl)) (fun _ _ _ h => h) (Or.inl ⟨by rfl, ?_⟩) ?_ ?_
   rotate_left
   ·intro w'
    go_simp
    with_reducible rfl
   rotate_left
   ·exact pz
   refine pure_ (i := 13) (N := some 24) (v := ?_) (a' := ?_) #[true, true, true, true, true, true, true, true, true, true, true, true, true, true, false, false, false, false] rfl rfl (any_of HT_.out (by kernel_rfl)) (fun _ _ _ h => h) (Or.inl ⟨by rfl, ?_⟩) ?_ ?_
   rotate_left
   ·intro w'
    go_simp
    with_reducible rfl
   rotate_left
   ·exact pz
   refine pure_ (i := 14) (N := some 25) (v := undef) (a' := ?_) #[true, true, true, true, true, true, true, true, true, true, true, true, true, true, true, false, false, false] rfl rfl (any_of HT_.out (by kernel_rfl)) (fun _ _ _ h => h) (Or.inr ⟨by rfl, rfl⟩) ?_ ?_
   rotate_left
   ·exact pz
   refine pure_ (i := 15) (N := some 26) (v := undef) (a' := ?_) #[true, true, true, true, true, true, true, true, true, true, true, true, true, true, true, true, false, false] rfl rfl (any_of HT_.out (by kernel_rfl)) (fun _ _ _ h => h) (Or.inr ⟨by rfl, rfl⟩) ?_ ?_
   rotate_left
   ·exact pz
   refine pure_ (i := 16) (N := some 27) (v := undef) (a' := ?_) #[true, true, true, true, true, true, true, true, true, true, true, true, true, true, true, true, true, false] rfl rfl (any_of HT_.out (by kernel_rfl)) (fun _ _ _ h => h) (Or.inr ⟨by rfl, rfl⟩) ?_ ?_
   rotate_left
   ·exact pz
   refine pure_ (i := 17) (N := some 28) (v := ?_) (a' := ?_) #[true, true, true, true, true, true, true, true, true, true, true, true, true, true, true, true, true, true] rfl rfl (any_of HT_.out (by kernel_rfl)) (fun _ _ _ h => h) (Or.inl ⟨by rfl, ?_⟩) ?_ ?_
   rotate_left
   ·intro w'
    go_simp
    with_reducible rfl
   rotate_left
   ·exact pz
   refine done_ (done_of HT_.out (by kernel_rfl)) ?_
   try go_wp2
   go_meet
   case rel => exact ⟨_, (true), (by first | rfl | (simp; done) | (simp [*]; done)), H', ⟨by first | omega | exact Nat.le_refl _⟩, ⟨bz BK132.out⟩, ⟨bz BK133.out⟩, ⟨bz BK134.out⟩, ⟨bz BK137.out⟩, ⟨hz4 HB.out GE132.out GE133.out GE134.out GE137.out⟩⟩
 case rest =>
  clear HC5
  try clear c2
  try clear p2
  try clear c4
  try clear c21
  try clear c23
  obtain ⟨kq, x28_4, rfl, HA, HJ4, BK132, BK133, BK134, BK137, HB⟩ := hcut
  cases kq with
  | zero => exact absurd HA.out (by simp [spec_RangeWiden.j0])
  | succ kj4 =>
   have H := HA.out
   clear HA
   simp only [spec_RangeWiden.j0] at H
   by_cases c45 : x28_4 = true
   ·subst c45
    have H1 : (some (t135, t136)) = some (r1, r2) := by rw [if_pos rfl] at H; exact H
    clear H
    have H := H1
    clear H1
    simp only [Option.some.injEq, Prod.mk.injEq] at H
    obtain ⟨rfl, rfl⟩ := H
    have hnb46 := NB137_132.out
    have hnc46 := NB132_137.out
    have hnb47 := NB137_133.out
    have hnc47 := NB133_137.out
    have hnb48 := NB137_134.out
    have hnc48 := NB134_137.out
    have hcz49_0 : wc.cell? ⟨gb137, 0, none⟩ = some (.int .i64 t135) := (blk_cell BK137.out 0).trans rfl
    have hcz49_1 : wc.cell? ⟨gb137, 1, none⟩ = some (.int .i64 t136) := (blk_cell BK137.out 1).trans rfl
    have hfz49_0 := blk_frozen BK137.out 0
    have hfz49_1 := blk_frozen BK137.out 1
    have hnb50 := NB134_132.out
    have hnc50 := NB132_134.out
    have hnb51 := NB134_133.out
    have hnc51 := NB133_134.out
    have hcz52_0 : wc.cell? ⟨gb134, 0, none⟩ = some (.int .i64 0) := (blk_cell BK134.out 0).trans rfl
    have hcz52_1 : wc.cell? ⟨gb134, 1, none⟩ = some (.int .i64 0) := (blk_cell BK134.out 1).trans rfl
    have hfz52_0 := blk_frozen BK134.out 0
    have hfz52_1 := blk_frozen BK134.out 1
    go_wp2
    refine bodyPost_ret (results_cell_row rfl _ _ gb134 24 #[.int .i64 t135, .int .i64 t136] (0, 0) _ rfl (by (with_reducible repeat (first | refine blk_drewN ?_ _ | refine blk_drew ?_ | refine blk_alloc ?_ _)); refine blk_put (cs := #[.int .i64 t135, .int .i64 0]) ?_ 1 _ rfl; (with_reducible repeat (first | refine blk_drewN ?_ _ | refine blk_drew ?_ | refine blk_alloc ?_ _)); refine blk_put (cs := #[.int .i64 0, .int .i64 0]) ?_ 0 _ rfl; (with_reducible repeat (first | refine blk_drewN ?_ _ | refine blk_drew ?_ | refine blk_alloc ?_ _)); exact BK134.out) Try.underlying24 rfl (by kernel_rfl)) rfl ?_
    exact ⟨by first | rfl | (simp [errW_none, errW_some] <;> rfl) | (simp [*, errW_none, errW_some] <;> rfl), hz4 HB.out GE132.out GE133.out GE134.out GE137.out⟩
   ·replace c45 := Bool.eq_false_iff.mpr c45
    subst c45
    have H1 : (if t135 < a0_0 then ((spec_l8Down.f kj4 l2 t135).bind fun t144 => (if t136 > a0_1 then ((spec_l8Up.f kj4 l2 t136).bind fun t145 => (some (t144, t145))) else (some (t144, t136)))) else (if t136 > a0_1 then ((spec_l8Up.f kj4 l2 t136).bind fun t146 => (some (t135, t146))) else (some (t135, t136)))) = some (r1, r2) := by rw [if_neg (show ¬ (false = true) by decide)] at H; exact H
    clear H
    have H := H1
    clear H1
    by_cases c53 : t135 < a0_0
    ·rw [if_pos c53] at H
     have c53b0 : decide (t135 < a0_0) = true := decide_eq_true c53
     clear c53
     replace H := Option.bind_eq_some_iff.mp H
     obtain ⟨t144, A540, H⟩ := H
     replace H : (if t136 > a0_1 then ((spec_l8Up.f kj4 l2 t136).bind fun t145 => (some (t144, t145))) else (some (t144, t136))) = some (r1, r2) := H
     have A54 := Aside0.mk A540
     clear A540
     by_cases c55 : t136 > a0_1
     ·rw [if_pos c55] at H
      have c55b0 : decide (a0_1 < t136) = true := decide_eq_true c55
      clear c55
      replace H := Option.bind_eq_some_iff.mp H
      obtain ⟨t145, A560, H⟩ := H
      replace H : (some (t144, t145)) = some (r1, r2) := H
      have A56 := Aside0.mk A560
      clear A560
      simp only [Option.some.injEq, Prod.mk.injEq] at H
      obtain ⟨rfl, rfl⟩ := H
      have hnb57 := NB137_132.out
      have hnc57 := NB132_137.out
      have hnb58 := NB137_133.out
      have hnc58 := NB133_137.out
      have hnb59 := NB137_134.out
      have hnc59 := NB134_137.out
      have hcz60_0 : wc.cell? ⟨gb137, 0, none⟩ = some (.int .i64 t135) := (blk_cell BK137.out 0).trans rfl
      have hcz60_1 : wc.cell? ⟨gb137, 1, none⟩ = some (.int .i64 t136) := (blk_cell BK137.out 1).trans rfl
      have hfz60_0 := blk_frozen BK137.out 0
      have hfz60_1 := blk_frozen BK137.out 1
      have hnb61 := NB132_133.out
      have hnc61 := NB133_132.out
      have hnb62 := NB132_134.out
      have hnc62 := NB134_132.out
      have hcz63_0 : wc.cell? ⟨gb132, 0, none⟩ = some (.int .i64 a0_0) := (blk_cell BK132.out 0).trans rfl
      have hcz63_1 : wc.cell? ⟨gb132, 1, none⟩ = some (.int .i64 a0_1) := (blk_cell BK132.out 1).trans rfl
      have hfz63_0 := blk_frozen BK132.out 0
      have hfz63_1 := blk_frozen BK132.out 1
      go_wp2_with (first | ((with_reducible refine gate_callee (f := 56) rfl ?_); refine goesL_ (some 38) rfl rfl Try.func56 (by kernel_rfl) rfl #[.slice A2 l2.length c2, .int .i64 t135] rfl mz ?_; (with_reducible refine (spec_l8Down.calls kj4 _ _ l2 t135 t144 _ ?side1 ?side2 A54.out).mono ?_); (case side1 => repeat (first | exact (Kd.C_below HR2.out HB.out) | (with_reducible refine Kd.C_alloc ?_ _) | (with_reducible refine Kd.C_drewN ?_ _) | (with_reducible refine Kd.C_drew ?_))); (case side2 => exact HC2.out); rintro e w' ⟨rfl, ⟨nd, rfl⟩⟩; refine ⟨_, rfl, ?_⟩; (try (rw [drewN_self wc]; generalize hq_ : World.drewN wc _ = wc; have n0_ : Aside0 (wc.heap[gb132]? = some (.cells #[.int .i64 a0_0, .int .i64 a0_1] 24 (0, 0))) := ⟨by rw [← hq_]; exact (bz BK132.out)⟩; have n1_ : Aside0 (wc.heap[gb133]? = some (.cells #[.int .i64 a1_0, .int .i64 a1_1] 24 (0, 0))) := ⟨by rw [← hq_]; exact (bz BK133.out)⟩; have n2_ : Aside0 (wc.heap[gb134]? = some (.cells #[.int .i64 0, .int .i64 0] 24 (0, 0))) := ⟨by rw [← hq_]; exact (bz BK134.out)⟩; have n3_ : Aside0 (wc.heap[gb137]? = some (.cells #[.int .i64 t135, .int .i64 t136] 24 (0, 0))) := ⟨by rw [← hq_]; exact (bz BK137.out)⟩; have n4_ : Aside0 (Below w.heap.size w wc) := ⟨by rw [← hq_]; exact (hz4 HB.out GE132.out GE133.out GE134.out GE137.out)⟩; clear BK132 BK133 BK134 BK137 HB hq_; have BK132 := n0_; have BK133 := n1_; have BK134 := n2_; have BK137 := n3_; have HB := n4_; clear n0_ n1_ n2_ n3_ n4_; (try have hcz60_0 : wc.cell? ⟨gb137, 0, none⟩ = some (.int .i64 t135) := (blk_cell BK137.out 0).trans rfl); (try have hcz60_1 : wc.cell? ⟨gb137, 1, none⟩ = some (.int .i64 t136) := (blk_cell BK137.out 1).trans rfl); (try have hfz60_0 := blk_frozen BK137.out 0); (try have hfz60_1 := blk_frozen BK137.out 1); (try have hcz63_0 : wc.cell? ⟨gb132, 0, none⟩ = some (.int .i64 a0_0) := (blk_cell BK132.out 0).trans rfl); (try have hcz63_1 : wc.cell? ⟨gb132, 1, none⟩ = some (.int .i64 a0_1) := (blk_cell BK132.out 1).trans rfl); (try have hfz63_0 := blk_frozen BK132.out 0); (try have hfz63_1 := blk_frozen BK132.out 1)))) | ((with_reducible refine gate_callee (f := 57) rfl ?_); refine goesL_ (some 48) rfl rfl Try.func57 (by kernel_rfl) rfl #[.slice A2 l2.length c2, .int .i64 t136] rfl mz ?_; (with_reducible refine (spec_l8Up.calls kj4 _ _ l2 t136 t145 _ ?side1 ?side2 A56.out).mono ?_); (case side1 => exact Kd.C_below HR2.out (hz4 HB.out GE132.out GE133.out GE134.out GE137.out)); (case side2 => exact HC2.out); rintro e w' ⟨rfl, ⟨nd, rfl⟩⟩; refine ⟨_, rfl, ?_⟩; have hnb64 := NB134_133.out; have hnc64 := NB133_134.out; have hcz65_0 : wc.cell? ⟨gb134, 0, none⟩ = some (.int .i64 0) := (blk_cell BK134.out 0).trans rfl; have hcz65_1 : wc.cell? ⟨gb134, 1, none⟩ = some (.int .i64 0) := (blk_cell BK134.out 1).trans rfl; have hfz65_0 := blk_frozen BK134.out 0; have hfz65_1 := blk_frozen BK134.out 1))
      refine bodyPost_ret (results_cell_row rfl _ _ gb134 24 #[.int .i64 t144, .int .i64 t145] (0, 0) _ rfl (by (with_reducible repeat (first | refine blk_drewN ?_ _ | refine blk_drew ?_ | refine blk_alloc ?_ _)); refine blk_put (cs := #[.int .i64 t144, .int .i64 0]) ?_ 1 _ rfl; (with_reducible repeat (first | refine blk_drewN ?_ _ | refine blk_drew ?_ | refine blk_alloc ?_ _)); refine blk_put (cs := #[.int .i64 0, .int .i64 0]) ?_ 0 _ rfl; (with_reducible repeat (first | refine blk_drewN ?_ _ | refine blk_drew ?_ | refine blk_alloc ?_ _)); refine blk_far ?_ NB134_137.out _; (with_reducible repeat (first | refine blk_drewN ?_ _ | refine blk_drew ?_ | refine blk_alloc ?_ _)); refine blk_far ?_ NB134_137.out _; (with_reducible repeat (first | refine blk_drewN ?_ _ | refine blk_drew ?_ | refine blk_alloc ?_ _)); exact BK134.out) Try.underlying24 rfl (by kernel_rfl)) rfl ?_
      exact ⟨by first | rfl | (simp [errW_none, errW_some] <;> rfl) | (simp [*, errW_none, errW_some] <;> rfl), hz4 HB.out GE132.out GE133.out GE134.out GE137.out⟩
     ·rw [if_neg c55] at H
      have c55b0 : decide (a0_1 < t136) = false := decide_eq_false c55
      clear c55
      simp only [Option.some.injEq, Prod.mk.injEq] at H
      obtain ⟨rfl, rfl⟩ := H
      have hnb66 := NB137_132.out
      have hnc66 := NB132_137.out
      have hnb67 := NB137_133.out
      have hnc67 := NB133_137.out
      have hnb68 := NB137_134.out
      have hnc68 := NB134_137.out
      have hcz69_0 : wc.cell? ⟨gb137, 0, none⟩ = some (.int .i64 t135) := (blk_cell BK137.out 0).trans rfl
      have hcz69_1 : wc.cell? ⟨gb137, 1, none⟩ = some (.int .i64 t136) := (blk_cell BK137.out 1).trans rfl
      have hfz69_0 := blk_frozen BK137.out 0
      have hfz69_1 := blk_frozen BK137.out 1
      have hnb70 := NB132_133.out
      have hnc70 := NB133_132.out
      have hnb71 := NB132_134.out
      have hnc71 := NB134_132.out
      have hcz72_0 : wc.cell? ⟨gb132, 0, none⟩ = some (.int .i64 a0_0) := (blk_cell BK132.out 0).trans rfl
      have hcz72_1 : wc.cell? ⟨gb132, 1, none⟩ = some (.int .i64 a0_1) := (blk_cell BK132.out 1).trans rfl
      have hfz72_0 := blk_frozen BK132.out 0
      have hfz72_1 := blk_frozen BK132.out 1
      go_wp2_with (first | ((with_reducible refine gate_callee (f := 56) rfl ?_); refine goesL_ (some 38) rfl rfl Try.func56 (by kernel_rfl) rfl #[.slice A2 l2.length c2, .int .i64 t135] rfl mz ?_; (with_reducible refine (spec_l8Down.calls kj4 _ _ l2 t135 t144 _ ?side1 ?side2 A54.out).mono ?_); (case side1 => repeat (first | exact (Kd.C_below HR2.out HB.out) | (with_reducible refine Kd.C_alloc ?_ _) | (with_reducible refine Kd.C_drewN ?_ _) | (with_reducible refine Kd.C_drew ?_))); (case side2 => exact HC2.out); rintro e w' ⟨rfl, ⟨nd, rfl⟩⟩; refine ⟨_, rfl, ?_⟩; (try (rw [drewN_self wc]; generalize hq_ : World.drewN wc _ = wc; have n0_ : Aside0 (wc.heap[gb132]? = some (.cells #[.int .i64 a0_0, .int .i64 a0_1] 24 (0, 0))) := ⟨by rw [← hq_]; exact (bz BK132.out)⟩; have n1_ : Aside0 (wc.heap[gb133]? = some (.cells #[.int .i64 a1_0, .int .i64 a1_1] 24 (0, 0))) := ⟨by rw [← hq_]; exact (bz BK133.out)⟩; have n2_ : Aside0 (wc.heap[gb134]? = some (.cells #[.int .i64 0, .int .i64 0] 24 (0, 0))) := ⟨by rw [← hq_]; exact (bz BK134.out)⟩; have n3_ : Aside0 (wc.heap[gb137]? = some (.cells #[.int .i64 t135, .int .i64 t136] 24 (0, 0))) := ⟨by rw [← hq_]; exact (bz BK137.out)⟩; have n4_ : Aside0 (Below w.heap.size w wc) := ⟨by rw [← hq_]; exact (hz4 HB.out GE132.out GE133.out GE134.out GE137.out)⟩; clear BK132 BK133 BK134 BK137 HB hq_; have BK132 := n0_; have BK133 := n1_; have BK134 := n2_; have BK137 := n3_; have HB := n4_; clear n0_ n1_ n2_ n3_ n4_; (try have hcz69_0 : wc.cell? ⟨gb137, 0, none⟩ = some (.int .i64 t135) := (blk_cell BK137.out 0).trans rfl); (try have hcz69_1 : wc.cell? ⟨gb137, 1, none⟩ = some (.int .i64 t136) := (blk_cell BK137.out 1).trans rfl); (try have hfz69_0 := blk_frozen BK137.out 0); (try have hfz69_1 := blk_frozen BK137.out 1); (try have hcz72_0 : wc.cell? ⟨gb132, 0, none⟩ = some (.int .i64 a0_0) := (blk_cell BK132.out 0).trans rfl); (try have hcz72_1 : wc.cell? ⟨gb132, 1, none⟩ = some (.int .i64 a0_1) := (blk_cell BK132.out 1).trans rfl); (try have hfz72_0 := blk_frozen BK132.out 0); (try have hfz72_1 := blk_frozen BK132.out 1))); have hnb73 := NB134_133.out; have hnc73 := NB133_134.out; have hcz74_0 : wc.cell? ⟨gb134, 0, none⟩ = some (.int .i64 0) := (blk_cell BK134.out 0).trans rfl; have hcz74_1 : wc.cell? ⟨gb134, 1, none⟩ = some (.int .i64 0) := (blk_cell BK134.out 1).trans rfl; have hfz74_0 := blk_frozen BK134.out 0; have hfz74_1 := blk_frozen BK134.out 1))
      refine bodyPost_ret (results_cell_row rfl _ _ gb134 24 #[.int .i64 t144, .int .i64 t136] (0, 0) _ rfl (by (with_reducible repeat (first | refine blk_drewN ?_ _ | refine blk_drew ?_ | refine blk_alloc ?_ _)); refine blk_put (cs := #[.int .i64 t144, .int .i64 0]) ?_ 1 _ rfl; (with_reducible repeat (first | refine blk_drewN ?_ _ | refine blk_drew ?_ | refine blk_alloc ?_ _)); refine blk_put (cs := #[.int .i64 0, .int .i64 0]) ?_ 0 _ rfl; (with_reducible repeat (first | refine blk_drewN ?_ _ | refine blk_drew ?_ | refine blk_alloc ?_ _)); refine blk_far ?_ NB134_137.out _; (with_reducible repeat (first | refine blk_drewN ?_ _ | refine blk_drew ?_ | refine blk_alloc ?_ _)); exact BK134.out) Try.underlying24 rfl (by kernel_rfl)) rfl ?_
      exact ⟨by first | rfl | (simp [errW_none, errW_some] <;> rfl) | (simp [*, errW_none, errW_some] <;> rfl), hz4 HB.out GE132.out GE133.out GE134.out GE137.out⟩
    ·rw [if_neg c53] at H
     have c53b0 : decide (t135 < a0_0) = false := decide_eq_false c53
     clear c53
     by_cases c75 : t136 > a0_1
     ·rw [if_pos c75] at H
      have c75b0 : decide (a0_1 < t136) = true := decide_eq_true c75
      clear c75
      replace H := Option.bind_eq_some_iff.mp H
      obtain ⟨t146, A760, H⟩ := H
      replace H : (some (t135, t146)) = some (r1, r2) := H
      have A76 := Aside0.mk A760
      clear A760
      simp only [Option.some.injEq, Prod.mk.injEq] at H
      obtain ⟨rfl, rfl⟩ := H
      have hnb77 := NB137_132.out
      have hnc77 := NB132_137.out
      have hnb78 := NB137_133.out
      have hnc78 := NB133_137.out
      have hnb79 := NB137_134.out
      have hnc79 := NB134_137.out
      have hcz80_0 : wc.cell? ⟨gb137, 0, none⟩ = some (.int .i64 t135) := (blk_cell BK137.out 0).trans rfl
      have hcz80_1 : wc.cell? ⟨gb137, 1, none⟩ = some (.int .i64 t136) := (blk_cell BK137.out 1).trans rfl
      have hfz80_0 := blk_frozen BK137.out 0
      have hfz80_1 := blk_frozen BK137.out 1
      have hnb81 := NB132_133.out
      have hnc81 := NB133_132.out
      have hnb82 := NB132_134.out
      have hnc82 := NB134_132.out
      have hcz83_0 : wc.cell? ⟨gb132, 0, none⟩ = some (.int .i64 a0_0) := (blk_cell BK132.out 0).trans rfl
      have hcz83_1 : wc.cell? ⟨gb132, 1, none⟩ = some (.int .i64 a0_1) := (blk_cell BK132.out 1).trans rfl
      have hfz83_0 := blk_frozen BK132.out 0
      have hfz83_1 := blk_frozen BK132.out 1
      go_wp2_with (first | ((with_reducible refine gate_callee (f := 57) rfl ?_); refine goesL_ (some 48) rfl rfl Try.func57 (by kernel_rfl) rfl #[.slice A2 l2.length c2, .int .i64 t136] rfl mz ?_; (with_reducible refine (spec_l8Up.calls kj4 _ _ l2 t136 t146 _ ?side1 ?side2 A76.out).mono ?_); (case side1 => repeat (first | exact (Kd.C_below HR2.out HB.out) | (with_reducible refine Kd.C_alloc ?_ _) | (with_reducible refine Kd.C_drewN ?_ _) | (with_reducible refine Kd.C_drew ?_))); (case side2 => exact HC2.out); rintro e w' ⟨rfl, ⟨nd, rfl⟩⟩; refine ⟨_, rfl, ?_⟩; (try (rw [drewN_self wc]; generalize hq_ : World.drewN wc _ = wc; have n0_ : Aside0 (wc.heap[gb132]? = some (.cells #[.int .i64 a0_0, .int .i64 a0_1] 24 (0, 0))) := ⟨by rw [← hq_]; exact (bz BK132.out)⟩; have n1_ : Aside0 (wc.heap[gb133]? = some (.cells #[.int .i64 a1_0, .int .i64 a1_1] 24 (0, 0))) := ⟨by rw [← hq_]; exact (bz BK133.out)⟩; have n2_ : Aside0 (wc.heap[gb134]? = some (.cells #[.int .i64 0, .int .i64 0] 24 (0, 0))) := ⟨by rw [← hq_]; exact (bz BK134.out)⟩; have n3_ : Aside0 (wc.heap[gb137]? = some (.cells #[.int .i64 t135, .int .i64 t136] 24 (0, 0))) := ⟨by rw [← hq_]; exact (bz BK137.out)⟩; have n4_ : Aside0 (Below w.heap.size w wc) := ⟨by rw [← hq_]; exact (hz4 HB.out GE132.out GE133.out GE134.out GE137.out)⟩; clear BK132 BK133 BK134 BK137 HB hq_; have BK132 := n0_; have BK133 := n1_; have BK134 := n2_; have BK137 := n3_; have HB := n4_; clear n0_ n1_ n2_ n3_ n4_; (try have hcz80_0 : wc.cell? ⟨gb137, 0, none⟩ = some (.int .i64 t135) := (blk_cell BK137.out 0).trans rfl); (try have hcz80_1 : wc.cell? ⟨gb137, 1, none⟩ = some (.int .i64 t136) := (blk_cell BK137.out 1).trans rfl); (try have hfz80_0 := blk_frozen BK137.out 0); (try have hfz80_1 := blk_frozen BK137.out 1); (try have hcz83_0 : wc.cell? ⟨gb132, 0, none⟩ = some (.int .i64 a0_0) := (blk_cell BK132.out 0).trans rfl); (try have hcz83_1 : wc.cell? ⟨gb132, 1, none⟩ = some (.int .i64 a0_1) := (blk_cell BK132.out 1).trans rfl); (try have hfz83_0 := blk_frozen BK132.out 0); (try have hfz83_1 := blk_frozen BK132.out 1))); have hnb84 := NB134_133.out; have hnc84 := NB133_134.out; have hcz85_0 : wc.cell? ⟨gb134, 0, none⟩ = some (.int .i64 0) := (blk_cell BK134.out 0).trans rfl; have hcz85_1 : wc.cell? ⟨gb134, 1, none⟩ = some (.int .i64 0) := (blk_cell BK134.out 1).trans rfl; have hfz85_0 := blk_frozen BK134.out 0; have hfz85_1 := blk_frozen BK134.out 1))
      refine bodyPost_ret (results_cell_row rfl _ _ gb134 24 #[.int .i64 t135, .int .i64 t146] (0, 0) _ rfl (by (with_reducible repeat (first | refine blk_drewN ?_ _ | refine blk_drew ?_ | refine blk_alloc ?_ _)); refine blk_put (cs := #[.int .i64 t135, .int .i64 0]) ?_ 1 _ rfl; (with_reducible repeat (first | refine blk_drewN ?_ _ | refine blk_drew ?_ | refine blk_alloc ?_ _)); refine blk_put (cs := #[.int .i64 0, .int .i64 0]) ?_ 0 _ rfl; (with_reducible repeat (first | refine blk_drewN ?_ _ | refine blk_drew ?_ | refine blk_alloc ?_ _)); refine blk_far ?_ NB134_137.out _; (with_reducible repeat (first | refine blk_drewN ?_ _ | refine blk_drew ?_ | refine blk_alloc ?_ _)); exact BK134.out) Try.underlying24 rfl (by kernel_rfl)) rfl ?_
      exact ⟨by first | rfl | (simp [errW_none, errW_some] <;> rfl) | (simp [*, errW_none, errW_some] <;> rfl), hz4 HB.out GE132.out GE133.out GE134.out GE137.out⟩
     ·rw [if_neg c75] at H
      have c75b0 : decide (a0_1 < t136) = false := decide_eq_false c75
      clear c75
      simp only [Option.some.injEq, Prod.mk.injEq] at H
      obtain ⟨rfl, rfl⟩ := H
      have hnb86 := NB137_132.out
      have hnc86 := NB132_137.out
      have hnb87 := NB137_133.out
      have hnc87 := NB133_137.out
      have hnb88 := NB137_134.out
      have hnc88 := NB134_137.out
      have hcz89_0 : wc.cell? ⟨gb137, 0, none⟩ = some (.int .i64 t135) := (blk_cell BK137.out 0).trans rfl
      have hcz89_1 : wc.cell? ⟨gb137, 1, none⟩ = some (.int .i64 t136) := (blk_cell BK137.out 1).trans rfl
      have hfz89_0 := blk_frozen BK137.out 0
      have hfz89_1 := blk_frozen BK137.out 1
      have hnb90 := NB132_133.out
      have hnc90 := NB133_132.out
      have hnb91 := NB132_134.out
      have hnc91 := NB134_132.out
      have hcz92_0 : wc.cell? ⟨gb132, 0, none⟩ = some (.int .i64 a0_0) := (blk_cell BK132.out 0).trans rfl
      have hcz92_1 : wc.cell? ⟨gb132, 1, none⟩ = some (.int .i64 a0_1) := (blk_cell BK132.out 1).trans rfl
      have hfz92_0 := blk_frozen BK132.out 0
      have hfz92_1 := blk_frozen BK132.out 1
      have hnb93 := NB134_133.out
      have hnc93 := NB133_134.out
      have hcz94_0 : wc.cell? ⟨gb134, 0, none⟩ = some (.int .i64 0) := (blk_cell BK134.out 0).trans rfl
      have hcz94_1 : wc.cell? ⟨gb134, 1, none⟩ = some (.int .i64 0) := (blk_cell BK134.out 1).trans rfl
      have hfz94_0 := blk_frozen BK134.out 0
      have hfz94_1 := blk_frozen BK134.out 1
      go_wp2
      refine bodyPost_ret (results_cell_row rfl _ _ gb134 24 #[.int .i64 t135, .int .i64 t136] (0, 0) _ rfl (by (with_reducible repeat (first | refine blk_drewN ?_ _ | refine blk_drew ?_ | refine blk_alloc ?_ _)); refine blk_put (cs := #[.int .i64 t135, .int .i64 0]) ?_ 1 _ rfl; (with_reducible repeat (first | refine blk_drewN ?_ _ | refine blk_drew ?_ | refine blk_alloc ?_ _)); refine blk_put (cs := #[.int .i64 0, .int .i64 0]) ?_ 0 _ rfl; (with_reducible repeat (first | refine blk_drewN ?_ _ | refine blk_drew ?_ | refine blk_alloc ?_ _)); exact BK134.out) Try.underlying24 rfl (by kernel_rfl)) rfl ?_
      exact ⟨by first | rfl | (simp [errW_none, errW_some] <;> rfl) | (simp [*, errW_none, errW_some] <;> rfl), hz4 HB.out GE132.out GE133.out GE134.out GE137.out⟩

end Go.Proofs.Ytlipfemjlicbbaa.PFnExactRangeWiden
