/- Written by this session's own driver (wip/dprint.py): the functions that the law FnExactValWiden reaches, as Lean functions, each with its contract. -/
import Derived.Test.YtnmccgjdnceheaaPFnExactValWidenx0
import Derived.Test.YtnmccgjdnceheaaPFnExactValWidenx14
import Derived.Test.YtnmccgjdnceheaaPFnExactValWidenx16
import Derived.Test.YtnmccgjdnceheaaPFnExactValWidenx18
import Derived.Test.YtnmccgjdnceheaaPFnExactValWidenx19
import Derived.Test.YtnmccgjdnceheaaPFnExactValWidenx20
import Derived.Test.YtnmccgjdnceheaaSv
namespace Go.Proofs.Ytnmccgjdnceheaa.PFnExactValWiden
open Go.RowKit Go.Proofs.YtnmccgjdnceheaaV.PrintWords Go.Proofs.YtnmccgjdnceheaaV.PrintLast Go.Proofs.YtnmccgjdnceheaaV.PrintMore Go.Proofs.YtnmccgjdnceheaaSv
attribute [local go_sem] max2_int min2_int max_two min_two max_three min_three max_four min_four   -- for this text's walks alone
set_option linter.unusedVariables false
set_option linter.unusedSimpArgs false

/-! ### impl_ValWiden: function 27 -/
def impl_ValWiden.j0 : Nat → List Int → Bool → Int → Int → Int → Int → Int → Int → Int → Int → Option (Int × Int × Int × Int)
 | 0, _, _, _, _, _, _, _, _, _, _ => none
 | k + 1, x2, x22, x430000, x430001, x430002, x430003, x431000, x431001, x431002, x431003 => if x22 = true then ((impl_ValJoin.f k x430000 x430001 x430002 x430003 x431000 x431001 x431002 x431003).bind fun bt436 => (some (bt436.1, bt436.2.1, bt436.2.2.1, bt436.2.2.2))) else ((impl_Val_span.f x430000 x430001 x430002 x430003).bind fun bt440 => ((impl_Val_span.f x431000 x431001 x431002 x431003).bind fun bt442 => ((impl_RangeWiden.f k bt440.1 bt440.2 bt442.1 bt442.2 x2).bind fun bt444 => ((impl_Val_rest.f x430000 x430001 x430002 x430003).bind fun bt446 => ((impl_Val_rest.f x431000 x431001 x431002 x431003).bind fun bt448 => ((impl_RestJoin.f k bt446.1 bt446.2 bt448.1 bt448.2).bind fun bt450 => ((impl_ValMake.f k bt444.1 bt444.2 bt450.1 bt450.2).bind fun bt452 => (some (bt452.1, bt452.2.1, bt452.2.2.1, bt452.2.2.2)))))))))
def impl_ValWiden.f (k : Nat) (a0_0 : Int) (a0_1 : Int) (a0_2 : Int) (a0_3 : Int) (a1_0 : Int) (a1_1 : Int) (a1_2 : Int) (a1_3 : Int) (l2 : List Int) : Option (Int × Int × Int × Int) := (impl_ValOk.f k a0_0 a0_1 a0_2 a0_3).bind fun t432 => (if t432 = true then ((impl_ValOk.f k a1_0 a1_1 a1_2 a1_3).bind fun t433 => (if t433 = true then ((impl_Val_none.f a0_0 a0_1 a0_2 a0_3).bind fun t434 => (if t434 = true then (impl_ValWiden.j0 k l2 true a0_0 a0_1 a0_2 a0_3 a1_0 a1_1 a1_2 a1_3) else ((impl_Val_none.f a1_0 a1_1 a1_2 a1_3).bind fun t435 => (impl_ValWiden.j0 k l2 t435 a0_0 a0_1 a0_2 a0_3 a1_0 a1_1 a1_2 a1_3)))) else (impl_ValWiden.j0 k l2 true a0_0 a0_1 a0_2 a0_3 a1_0 a1_1 a1_2 a1_3))) else (impl_ValWiden.j0 k l2 true a0_0 a0_1 a0_2 a0_3 a1_0 a1_1 a1_2 a1_3))
theorem impl_ValWiden.mono_l : ∀ k, (∀ y0 y1 y2 y3 y4 y5 y6 y7 y8 y9, LeO (impl_ValWiden.j0 k y0 y1 y2 y3 y4 y5 y6 y7 y8 y9) (impl_ValWiden.j0 (k + 1) y0 y1 y2 y3 y4 y5 y6 y7 y8 y9))
 | 0 => fun _ _ _ _ _ _ _ _ _ _ r h => by simp [impl_ValWiden.j0] at h
 | k + 1 => by
  have ih0 := impl_ValWiden.mono_l k
  ·intro y0 y1 y2 y3 y4 y5 y6 y7 y8 y9
   unfold impl_ValWiden.j0
   repeat' first
   | (with_reducible exact ih0 _ _ _ _ _ _ _ _ _ _)
   | (with_reducible exact impl_RangeWiden.mono _ _ _ _ _ _)
   | (with_reducible exact impl_RestJoin.mono _ _ _ _ _)
   | (with_reducible exact impl_ValJoin.mono _ _ _ _ _ _ _ _ _)
   | (with_reducible exact impl_ValMake.mono _ _ _ _ _)
   | (with_reducible exact impl_ValOk.mono _ _ _ _ _)
   | (with_reducible exact LeO.refl _)
   | (with_reducible exact LeO.none _)
   | (with_reducible refine LeO.ite ?_ ?_)
   | (with_reducible refine LeO.bind ?_ (fun _ => ?_))
   | exact ih0 _ _ _ _ _ _ _ _ _ _
   | exact impl_RangeWiden.mono _ _ _ _ _ _
   | exact impl_RestJoin.mono _ _ _ _ _
   | exact impl_ValJoin.mono _ _ _ _ _ _ _ _ _
   | exact impl_ValMake.mono _ _ _ _ _
   | exact impl_ValOk.mono _ _ _ _ _
   | exact LeO.none _
   | refine LeO.ite ?_ ?_
   | refine LeO.bind ?_ (fun _ => ?_)
theorem impl_ValWiden.mono : ∀ a0 a1 a2 a3 a4 a5 a6 a7 a8 k, LeO (impl_ValWiden.f k a0 a1 a2 a3 a4 a5 a6 a7 a8) (impl_ValWiden.f (k + 1) a0 a1 a2 a3 a4 a5 a6 a7 a8) := by
 intro a0 a1 a2 a3 a4 a5 a6 a7 a8 k
 have ih0 := impl_ValWiden.mono_l k
 unfold impl_ValWiden.f
 repeat' first
   | (with_reducible exact ih0 _ _ _ _ _ _ _ _ _ _)
   | (with_reducible exact impl_RangeWiden.mono _ _ _ _ _ _)
   | (with_reducible exact impl_RestJoin.mono _ _ _ _ _)
   | (with_reducible exact impl_ValJoin.mono _ _ _ _ _ _ _ _ _)
   | (with_reducible exact impl_ValMake.mono _ _ _ _ _)
   | (with_reducible exact impl_ValOk.mono _ _ _ _ _)
   | (with_reducible exact LeO.refl _)
   | (with_reducible exact LeO.none _)
   | (with_reducible refine LeO.ite ?_ ?_)
   | (with_reducible refine LeO.bind ?_ (fun _ => ?_))
   | exact ih0 _ _ _ _ _ _ _ _ _ _
   | exact impl_RangeWiden.mono _ _ _ _ _ _
   | exact impl_RestJoin.mono _ _ _ _ _
   | exact impl_ValJoin.mono _ _ _ _ _ _ _ _ _
   | exact impl_ValMake.mono _ _ _ _ _
   | exact impl_ValOk.mono _ _ _ _ _
   | exact LeO.none _
   | refine LeO.ite ?_ ?_
   | refine LeO.bind ?_ (fun _ => ?_)
def impl_ValWiden.T3 : Bool × List (List Nat × List Nat) := (true, [([], []), ([0], [0]), ([], []), ([2, 1], [2]), ([], []), ([1, 3, 4, 3], [1, 3, 4]), ([], []), ([6, 5], [6]), ([], []), ([8, 7], [8]), ([7, 9, 9], [7, 9]), ([5, 10, 10], [5, 10]), ([11, 11, 0, 1, 2, 3, 4, 5, 6, 7, 8, 9, 10, 11], [11])])
def impl_ValWiden.B3 : List Nat := [0, 1, 0, 7, 0, 31, 0, 127, 0, 511, 1023, 2047, 4095]
theorem impl_ValWiden.tab3 : rtab .any (opsOf Try.f27 3) = impl_ValWiden.T3 := by kernel_rfl
theorem impl_ValWiden.bits3 : waitsOk impl_ValWiden.T3.2 impl_ValWiden.B3 = true := by kernel_rfl
set_option maxHeartbeats 8000000 in
set_option maxRecDepth 100000 in
theorem impl_ValWiden.calls (k : Nat) (a0_0 : Int) (a0_1 : Int) (a0_2 : Int) (a0_3 : Int) (a1_0 : Int) (a1_1 : Int) (a1_2 : Int) (a1_3 : Int) (A2 : Option Addr) (c2 : Nat) (l2 : List Int) (r1 : Int) (r2 : Int) (r3 : Int) (r4 : Int) (w : World) (hr2 : Kd.C (Kd.int .i64) w A2 l2.length l2) (hc2 : l2.length ≤ c2) (h : impl_ValWiden.f k a0_0 a0_1 a0_2 a0_3 a1_0 a1_1 a1_2 a1_3 l2 = some (r1, r2, r3, r4)) :
  Calls Try.prog 27 #[.agg #[.int .i64 a0_0, .int .i64 a0_1, .int .i64 a0_2, .int .i64 a0_3], .agg #[.int .i64 a1_0, .int .i64 a1_1, .int .i64 a1_2, .int .i64 a1_3], .slice A2 l2.length c2] w fun e w' => e = .returned (.agg #[.int .i64 r1, .int .i64 r2, .int .i64 r3, .int .i64 r4]) ∧ Below w.heap.size w w' := by
 have hu25 := Try.underlying25
 have HR2 := am hr2
 have HC2 := am hc2
 clear hr2 hc2
 have HB := am (Below.refl w.heap.size w)
 have H : ((impl_ValOk.f k a0_0 a0_1 a0_2 a0_3).bind fun t432 => (if t432 = true then ((impl_ValOk.f k a1_0 a1_1 a1_2 a1_3).bind fun t433 => (if t433 = true then ((impl_Val_none.f a0_0 a0_1 a0_2 a0_3).bind fun t434 => (if t434 = true then (impl_ValWiden.j0 k l2 true a0_0 a0_1 a0_2 a0_3 a1_0 a1_1 a1_2 a1_3) else ((impl_Val_none.f a1_0 a1_1 a1_2 a1_3).bind fun t435 => (impl_ValWiden.j0 k l2 t435 a0_0 a0_1 a0_2 a0_3 a1_0 a1_1 a1_2 a1_3)))) else (impl_ValWiden.j0 k l2 true a0_0 a0_1 a0_2 a0_3 a1_0 a1_1 a1_2 a1_3))) else (impl_ValWiden.j0 k l2 true a0_0 a0_1 a0_2 a0_3 a1_0 a1_1 a1_2 a1_3))) = some (r1, r2, r3, r4) := h
 clear h
 have HC4 := am H
 clear H
 go_enter Try.func27, Try.ntmps27
 go_upto_region 1 with (first | ((with_reducible refine gate_dst (N := 3) rfl ?_); refine box_event ?hg (N := 3) ?hd (cs := #[.int .i64 a0_0, .int .i64 a0_1, .int .i64 a0_2, .int .i64 a0_3]) (t := 25) ?hr ?_; (case hd => rfl); (case hg => rfl); (case hr => first | (go_simp; done) | (go_simp; rfl)); intro gb429 hg w5 hbox hb; have n0_ := am (below_step (Y0 HB) hb); have n1_ := am (hbox); have n2_ := am ((by rw [hg]; exact (below_size (Y0 HB)) : w.heap.size ≤ gb429)); have n3_ := am ((by rw [hg]; exact (below_size (Y0 HB)) : w.heap.size ≤ gb429)); clear HB; have HB := n0_; have BK429 := n1_; have GW429 := n2_; have GE429 := n3_; clear n0_ n1_ n2_ n3_; clear hb hbox hg) | ((with_reducible refine gate_dst (N := 4) rfl ?_); refine box_event ?hg (N := 4) ?hd (cs := #[.int .i64 a1_0, .int .i64 a1_1, .int .i64 a1_2, .int .i64 a1_3]) (t := 25) ?hr ?_; (case hd => rfl); (case hg => rfl); (case hr => first | (go_simp; done) | (go_simp; rfl)); intro gb430 hg w6 hbox hb; have n0_ := am (blk_below (g := gb429) (o := b4 a0_0 a0_1 a0_2 a0_3 25) (Z BK429) hb); have n1_ := am (below_step (Y1 HB GE429) hb); have n2_ := am (hbox); have n3_ := am ((by rw [hg]; exact (below_size (Y1 HB GE429)) : w.heap.size ≤ gb430)); have n4_ := am ((by rw [hg]; exact (below_size (Y1 HB GE429)) : w.heap.size ≤ gb430)); have n5_ := am ((nl (o := b4 a0_0 a0_1 a0_2 a0_3 25) hg (Z BK429) : gb429 ≠ gb430)); have n6_ := am ((ng (o := b4 a0_0 a0_1 a0_2 a0_3 25) hg (Z BK429) : gb430 ≠ gb429)); clear BK429; clear HB; have BK429 := n0_; have HB := n1_; have BK430 := n2_; have GW430 := n3_; have GE430 := n4_; have NB429_430 := n5_; have NB430_429 := n6_; clear n0_ n1_ n2_ n3_ n4_ n5_ n6_; clear hb hbox hg) | ((with_reducible refine gate_dst (N := 6) rfl ?_); refine box_event ?hg (N := 6) ?hd (cs := #[.int .i64 0, .int .i64 0, .int .i64 0, .int .i64 0]) (t := 25) ?hr ?_; (case hd => rfl); (case hg => rfl); (case hr => first | (go_simp; done) | (go_simp; rfl)); intro gb431 hg w7 hbox hb; have n0_ := am (blk_below (g := gb429) (o := b4 a0_0 a0_1 a0_2 a0_3 25) (Z BK429) hb); have n1_ := am (blk_below (g := gb430) (o := b4 a1_0 a1_1 a1_2 a1_3 25) (Z BK430) hb); have n2_ := am (below_step (Y2 HB GE429 GE430) hb); have n3_ := am (hbox); have n4_ := am ((by rw [hg]; exact (below_size (Y2 HB GE429 GE430)) : w.heap.size ≤ gb431)); have n5_ := am ((by rw [hg]; exact (below_size (Y2 HB GE429 GE430)) : w.heap.size ≤ gb431)); have n6_ := am ((nl (o := b4 a0_0 a0_1 a0_2 a0_3 25) hg (Z BK429) : gb429 ≠ gb431)); have n7_ := am ((ng (o := b4 a0_0 a0_1 a0_2 a0_3 25) hg (Z BK429) : gb431 ≠ gb429)); have n8_ := am ((nl (o := b4 a1_0 a1_1 a1_2 a1_3 25) hg (Z BK430) : gb430 ≠ gb431)); have n9_ := am ((ng (o := b4 a1_0 a1_1 a1_2 a1_3 25) hg (Z BK430) : gb431 ≠ gb430)); clear BK429; clear BK430; clear HB; have BK429 := n0_; have BK430 := n1_; have HB := n2_; have BK431 := n3_; have GW431 := n4_; have GE431 := n5_; have NB429_431 := n6_; have NB431_429 := n7_; have NB430_431 := n8_; have NB431_430 := n9_; clear n0_ n1_ n2_ n3_ n4_ n5_ n6_ n7_ n8_ n9_; clear hb hbox hg))
 (try simp only [Act.put, List.setIfInBounds_toArray, List.set_cons_zero, List.set_cons_succ])
 go_cut [22] (fun v22 wc => ∃ (kq : Nat) (x22_3 : Bool), v22 = .bool x22_3 ∧ Aside0 (impl_ValWiden.j0 kq l2 x22_3 a0_0 a0_1 a0_2 a0_3 a1_0 a1_1 a1_2 a1_3 = some (r1, r2, r3, r4)) ∧ Aside0 (kq ≤ k) ∧ Aside0 (wc.heap[gb429]? = some (.cells #[.int .i64 a0_0, .int .i64 a0_1, .int .i64 a0_2, .int .i64 a0_3] 25 (0, 0))) ∧ Aside0 (wc.heap[gb430]? = some (.cells #[.int .i64 a1_0, .int .i64 a1_1, .int .i64 a1_2, .int .i64 a1_3] 25 (0, 0))) ∧ Aside0 (wc.heap[gb431]? = some (.cells #[.int .i64 0, .int .i64 0, .int .i64 0, .int .i64 0] 25 (0, 0))) ∧ Aside0 (Below w.heap.size w wc))
 case first =>
  have H := HC4.out
  clear HC4
  replace H := Option.bind_eq_some_iff.mp H
  obtain ⟨t432, A80, H⟩ := H
  replace H : (if t432 = true then ((impl_ValOk.f k a1_0 a1_1 a1_2 a1_3).bind fun t433 => (if t433 = true then ((impl_Val_none.f a0_0 a0_1 a0_2 a0_3).bind fun t434 => (if t434 = true then (impl_ValWiden.j0 k l2 true a0_0 a0_1 a0_2 a0_3 a1_0 a1_1 a1_2 a1_3) else ((impl_Val_none.f a1_0 a1_1 a1_2 a1_3).bind fun t435 => (impl_ValWiden.j0 k l2 t435 a0_0 a0_1 a0_2 a0_3 a1_0 a1_1 a1_2 a1_3)))) else (impl_ValWiden.j0 k l2 true a0_0 a0_1 a0_2 a0_3 a1_0 a1_1 a1_2 a1_3))) else (impl_ValWiden.j0 k l2 true a0_0 a0_1 a0_2 a0_3 a1_0 a1_1 a1_2 a1_3)) = some (r1, r2, r3, r4) := H
  have A8 := am A80
  clear A80
  by_cases c9 : t432 = true
  ·subst c9
   have H1 : ((impl_ValOk.f k a1_0 a1_1 a1_2 a1_3).bind fun t433 => (if t433 = true then ((impl_Val_none.f a0_0 a0_1 a0_2 a0_3).bind fun t434 => (if t434 = true then (impl_ValWiden.j0 k l2 true a0_0 a0_1 a0_2 a0_3 a1_0 a1_1 a1_2 a1_3) else ((impl_Val_none.f a1_0 a1_1 a1_2 a1_3).bind fun t435 => (impl_ValWiden.j0 k l2 t435 a0_0 a0_1 a0_2 a0_3 a1_0 a1_1 a1_2 a1_3)))) else (impl_ValWiden.j0 k l2 true a0_0 a0_1 a0_2 a0_3 a1_0 a1_1 a1_2 a1_3))) = some (r1, r2, r3, r4) := by rw [if_pos rfl] at H; exact H
   clear H
   have H := H1
   clear H1
   replace H := Option.bind_eq_some_iff.mp H
   obtain ⟨t433, A100, H⟩ := H
   replace H : (if t433 = true then ((impl_Val_none.f a0_0 a0_1 a0_2 a0_3).bind fun t434 => (if t434 = true then (impl_ValWiden.j0 k l2 true a0_0 a0_1 a0_2 a0_3 a1_0 a1_1 a1_2 a1_3) else ((impl_Val_none.f a1_0 a1_1 a1_2 a1_3).bind fun t435 => (impl_ValWiden.j0 k l2 t435 a0_0 a0_1 a0_2 a0_3 a1_0 a1_1 a1_2 a1_3)))) else (impl_ValWiden.j0 k l2 true a0_0 a0_1 a0_2 a0_3 a1_0 a1_1 a1_2 a1_3)) = some (r1, r2, r3, r4) := H
   have A10 := am A100
   clear A100
   by_cases c11 : t433 = true
   ·subst c11
    have H1 : ((impl_Val_none.f a0_0 a0_1 a0_2 a0_3).bind fun t434 => (if t434 = true then (impl_ValWiden.j0 k l2 true a0_0 a0_1 a0_2 a0_3 a1_0 a1_1 a1_2 a1_3) else ((impl_Val_none.f a1_0 a1_1 a1_2 a1_3).bind fun t435 => (impl_ValWiden.j0 k l2 t435 a0_0 a0_1 a0_2 a0_3 a1_0 a1_1 a1_2 a1_3)))) = some (r1, r2, r3, r4) := by rw [if_pos rfl] at H; exact H
    clear H
    have H := H1
    clear H1
    replace H := Option.bind_eq_some_iff.mp H
    obtain ⟨t434, A120, H⟩ := H
    replace H : (if t434 = true then (impl_ValWiden.j0 k l2 true a0_0 a0_1 a0_2 a0_3 a1_0 a1_1 a1_2 a1_3) else ((impl_Val_none.f a1_0 a1_1 a1_2 a1_3).bind fun t435 => (impl_ValWiden.j0 k l2 t435 a0_0 a0_1 a0_2 a0_3 a1_0 a1_1 a1_2 a1_3))) = some (r1, r2, r3, r4) := H
    have A12 := am A120
    clear A120
    by_cases c13 : t434 = true
    ·subst c13
     have H1 : (impl_ValWiden.j0 k l2 true a0_0 a0_1 a0_2 a0_3 a1_0 a1_1 a1_2 a1_3) = some (r1, r2, r3, r4) := by rw [if_pos rfl] at H; exact H
     clear H
     have H := H1
     clear H1
     have H' := am H
     clear H
     have hnb14 := NB429_430.out
     have hnc14 := NB430_429.out
     have hnb15 := NB429_431.out
     have hnc15 := NB431_429.out
     have hcz16_0 : w7.cell? ⟨gb429, 0, none⟩ = some (.int .i64 a0_0) := bc BK429 0
     have hcz16_1 : w7.cell? ⟨gb429, 1, none⟩ = some (.int .i64 a0_1) := bc BK429 1
     have hcz16_2 : w7.cell? ⟨gb429, 2, none⟩ = some (.int .i64 a0_2) := bc BK429 2
     have hcz16_3 : w7.cell? ⟨gb429, 3, none⟩ = some (.int .i64 a0_3) := bc BK429 3
     have hfz16_0 := blk_frozen BK429.out 0
     have hfz16_1 := blk_frozen BK429.out 1
     have hfz16_2 := blk_frozen BK429.out 2
     have hfz16_3 := blk_frozen BK429.out 3
     go_wp2_with (first | ((with_reducible refine gate_callee (f := 63) rfl ?_); refine goesL_ (some 8) rfl rfl Try.func63 (by kernel_rfl) rfl #[.agg #[.int .i64 a0_0, .int .i64 a0_1, .int .i64 a0_2, .int .i64 a0_3]] rfl mz ?_; (with_reducible refine (impl_ValOk.calls k a0_0 a0_1 a0_2 a0_3 true _ A8.out).mono ?_); rintro e w17 ⟨rfl, hb⟩; refine ⟨_, rfl, ?_⟩; have n0_ := am (blk_below (g := gb429) (o := b4 a0_0 a0_1 a0_2 a0_3 25) (Z BK429) hb); have n1_ := am (blk_below (g := gb430) (o := b4 a1_0 a1_1 a1_2 a1_3 25) (Z BK430) hb); have n2_ := am (blk_below (g := gb431) (o := b4 0 0 0 0 25) (Z BK431) hb); have n3_ := am (below_step (Y3 HB GE429 GE430 GE431) hb); clear BK429; clear BK430; clear BK431; clear HB; have BK429 := n0_; have BK430 := n1_; have BK431 := n2_; have HB := n3_; clear n0_ n1_ n2_ n3_; (try clear hb); (try clear hb2); (try clear hk); (try clear hi); have hnb18 := NB430_431.out; have hnc18 := NB431_430.out; have hcz19_0 : w17.cell? ⟨gb430, 0, none⟩ = some (.int .i64 a1_0) := bc BK430 0; have hcz19_1 : w17.cell? ⟨gb430, 1, none⟩ = some (.int .i64 a1_1) := bc BK430 1; have hcz19_2 : w17.cell? ⟨gb430, 2, none⟩ = some (.int .i64 a1_2) := bc BK430 2; have hcz19_3 : w17.cell? ⟨gb430, 3, none⟩ = some (.int .i64 a1_3) := bc BK430 3; have hfz19_0 := blk_frozen BK430.out 0; have hfz19_1 := blk_frozen BK430.out 1; have hfz19_2 := blk_frozen BK430.out 2; have hfz19_3 := blk_frozen BK430.out 3) | (go_at_call 63; (with_reducible refine (impl_ValOk.calls k a1_0 a1_1 a1_2 a1_3 true _ A10.out).mono ?_); rintro e w20 ⟨rfl, hb⟩; have n0_ := am (blk_below (g := gb429) (o := b4 a0_0 a0_1 a0_2 a0_3 25) (Z BK429) hb); have n1_ := am (blk_below (g := gb430) (o := b4 a1_0 a1_1 a1_2 a1_3 25) (Z BK430) hb); have n2_ := am (blk_below (g := gb431) (o := b4 0 0 0 0 25) (Z BK431) hb); have n3_ := am (below_step (Y3 HB GE429 GE430 GE431) hb); clear BK429; clear BK430; clear BK431; clear HB; have BK429 := n0_; have BK430 := n1_; have BK431 := n2_; have HB := n3_; clear n0_ n1_ n2_ n3_; (try clear hb); (try clear hb2); (try clear hk); (try clear hi); have hcz21_0 : w20.cell? ⟨gb429, 0, none⟩ = some (.int .i64 a0_0) := bc BK429 0; have hcz21_1 : w20.cell? ⟨gb429, 1, none⟩ = some (.int .i64 a0_1) := bc BK429 1; have hcz21_2 : w20.cell? ⟨gb429, 2, none⟩ = some (.int .i64 a0_2) := bc BK429 2; have hcz21_3 : w20.cell? ⟨gb429, 3, none⟩ = some (.int .i64 a0_3) := bc BK429 3; have hfz21_0 := blk_frozen BK429.out 0; have hfz21_1 := blk_frozen BK429.out 1; have hfz21_2 := blk_frozen BK429.out 2; have hfz21_3 := blk_frozen BK429.out 3) | (go_at_call 70; (with_reducible refine (impl_Val_none.calls a0_0 a0_1 a0_2 a0_3 true _ A12.out).mono ?_); rintro e w22 ⟨rfl, hb⟩; have n0_ := am (blk_below (g := gb429) (o := b4 a0_0 a0_1 a0_2 a0_3 25) (Z BK429) hb); have n1_ := am (blk_below (g := gb430) (o := b4 a1_0 a1_1 a1_2 a1_3 25) (Z BK430) hb); have n2_ := am (blk_below (g := gb431) (o := b4 0 0 0 0 25) (Z BK431) hb); have n3_ := am (below_step (Y3 HB GE429 GE430 GE431) hb); clear BK429; clear BK430; clear BK431; clear HB; have BK429 := n0_; have BK430 := n1_; have BK431 := n2_; have HB := n3_; clear n0_ n1_ n2_ n3_; (try clear hb); (try clear hb2); (try clear hk); (try clear hi)))
     go_meet
     case rel => exact ⟨_, (true), (by first | rfl | (simp; done) | (simp [*]; done)), H', ⟨by first | omega | exact Nat.le_refl _⟩, ⟨Z BK429⟩, ⟨Z BK430⟩, ⟨Z BK431⟩, ⟨Y3 HB GE429 GE430 GE431⟩⟩
    ·replace c13 := Bool.eq_false_iff.mpr c13
     subst c13
     have H1 : ((impl_Val_none.f a1_0 a1_1 a1_2 a1_3).bind fun t435 => (impl_ValWiden.j0 k l2 t435 a0_0 a0_1 a0_2 a0_3 a1_0 a1_1 a1_2 a1_3)) = some (r1, r2, r3, r4) := by rw [if_neg (show ¬ (false = true) by decide)] at H; exact H
     clear H
     have H := H1
     clear H1
     replace H := Option.bind_eq_some_iff.mp H
     obtain ⟨t435, A230, H⟩ := H
     replace H : (impl_ValWiden.j0 k l2 t435 a0_0 a0_1 a0_2 a0_3 a1_0 a1_1 a1_2 a1_3) = some (r1, r2, r3, r4) := H
     have A23 := am A230
     clear A230
     have H' := am H
     clear H
     have hnb24 := NB429_430.out
     have hnc24 := NB430_429.out
     have hnb25 := NB429_431.out
     have hnc25 := NB431_429.out
     have hcz26_0 : w7.cell? ⟨gb429, 0, none⟩ = some (.int .i64 a0_0) := bc BK429 0
     have hcz26_1 : w7.cell? ⟨gb429, 1, none⟩ = some (.int .i64 a0_1) := bc BK429 1
     have hcz26_2 : w7.cell? ⟨gb429, 2, none⟩ = some (.int .i64 a0_2) := bc BK429 2
     have hcz26_3 : w7.cell? ⟨gb429, 3, none⟩ = some (.int .i64 a0_3) := bc BK429 3
     have hfz26_0 := blk_frozen BK429.out 0
     have hfz26_1 := blk_frozen BK429.out 1
     have hfz26_2 := blk_frozen BK429.out 2
     have hfz26_3 := blk_frozen BK429.out 3
     go_wp2_with (first | ((with_reducible refine gate_callee (f := 63) rfl ?_); refine goesL_ (some 8) rfl rfl Try.func63 (by kernel_rfl) rfl #[.agg #[.int .i64 a0_0, .int .i64 a0_1, .int .i64 a0_2, .int .i64 a0_3]] rfl mz ?_; (with_reducible refine (impl_ValOk.calls k a0_0 a0_1 a0_2 a0_3 true _ A8.out).mono ?_); rintro e w27 ⟨rfl, hb⟩; refine ⟨_, rfl, ?_⟩; have n0_ := am (blk_below (g := gb429) (o := b4 a0_0 a0_1 a0_2 a0_3 25) (Z BK429) hb); have n1_ := am (blk_below (g := gb430) (o := b4 a1_0 a1_1 a1_2 a1_3 25) (Z BK430) hb); have n2_ := am (blk_below (g := gb431) (o := b4 0 0 0 0 25) (Z BK431) hb); have n3_ := am (below_step (Y3 HB GE429 GE430 GE431) hb); clear BK429; clear BK430; clear BK431; clear HB; have BK429 := n0_; have BK430 := n1_; have BK431 := n2_; have HB := n3_; clear n0_ n1_ n2_ n3_; (try clear hb); (try clear hb2); (try clear hk); (try clear hi); have hnb28 := NB430_431.out; have hnc28 := NB431_430.out; have hcz29_0 : w27.cell? ⟨gb430, 0, none⟩ = some (.int .i64 a1_0) := bc BK430 0; have hcz29_1 : w27.cell? ⟨gb430, 1, none⟩ = some (.int .i64 a1_1) := bc BK430 1; have hcz29_2 : w27.cell? ⟨gb430, 2, none⟩ = some (.int .i64 a1_2) := bc BK430 2; have hcz29_3 : w27.cell? ⟨gb430, 3, none⟩ = some (.int .i64 a1_3) := bc BK430 3; have hfz29_0 := blk_frozen BK430.out 0; have hfz29_1 := blk_frozen BK430.out 1; have hfz29_2 := blk_frozen BK430.out 2; have hfz29_3 := blk_frozen BK430.out 3) | (go_at_call 63; (with_reducible refine (impl_ValOk.calls k a1_0 a1_1 a1_2 a1_3 true _ A10.out).mono ?_); rintro e w30 ⟨rfl, hb⟩; have n0_ := am (blk_below (g := gb429) (o := b4 a0_0 a0_1 a0_2 a0_3 25) (Z BK429) hb); have n1_ := am (blk_below (g := gb430) (o := b4 a1_0 a1_1 a1_2 a1_3 25) (Z BK430) hb); have n2_ := am (blk_below (g := gb431) (o := b4 0 0 0 0 25) (Z BK431) hb); have n3_ := am (below_step (Y3 HB GE429 GE430 GE431) hb); clear BK429; clear BK430; clear BK431; clear HB; have BK429 := n0_; have BK430 := n1_; have BK431 := n2_; have HB := n3_; clear n0_ n1_ n2_ n3_; (try clear hb); (try clear hb2); (try clear hk); (try clear hi); have hcz31_0 : w30.cell? ⟨gb429, 0, none⟩ = some (.int .i64 a0_0) := bc BK429 0; have hcz31_1 : w30.cell? ⟨gb429, 1, none⟩ = some (.int .i64 a0_1) := bc BK429 1; have hcz31_2 : w30.cell? ⟨gb429, 2, none⟩ = some (.int .i64 a0_2) := bc BK429 2; have hcz31_3 : w30.cell? ⟨gb429, 3, none⟩ = some (.int .i64 a0_3) := bc BK429 3; have hfz31_0 := blk_frozen BK429.out 0; have hfz31_1 := blk_frozen BK429.out 1; have hfz31_2 := blk_frozen BK429.out 2; have hfz31_3 := blk_frozen BK429.out 3) | (go_at_call 70; (with_reducible refine (impl_Val_none.calls a0_0 a0_1 a0_2 a0_3 false _ A12.out).mono ?_); rintro e w32 ⟨rfl, hb⟩; have n0_ := am (blk_below (g := gb429) (o := b4 a0_0 a0_1 a0_2 a0_3 25) (Z BK429) hb); have n1_ := am (blk_below (g := gb430) (o := b4 a1_0 a1_1 a1_2 a1_3 25) (Z BK430) hb); have n2_ := am (blk_below (g := gb431) (o := b4 0 0 0 0 25) (Z BK431) hb); have n3_ := am (below_step (Y3 HB GE429 GE430 GE431) hb); clear BK429; clear BK430; clear BK431; clear HB; have BK429 := n0_; have BK430 := n1_; have BK431 := n2_; have HB := n3_; clear n0_ n1_ n2_ n3_; (try clear hb); (try clear hb2); (try clear hk); (try clear hi); have hcz33_0 : w32.cell? ⟨gb430, 0, none⟩ = some (.int .i64 a1_0) := bc BK430 0; have hcz33_1 : w32.cell? ⟨gb430, 1, none⟩ = some (.int .i64 a1_1) := bc BK430 1; have hcz33_2 : w32.cell? ⟨gb430, 2, none⟩ = some (.int .i64 a1_2) := bc BK430 2; have hcz33_3 : w32.cell? ⟨gb430, 3, none⟩ = some (.int .i64 a1_3) := bc BK430 3; have hfz33_0 := blk_frozen BK430.out 0; have hfz33_1 := blk_frozen BK430.out 1; have hfz33_2 := blk_frozen BK430.out 2; have hfz33_3 := blk_frozen BK430.out 3) | (go_at_call 70; (with_reducible refine (impl_Val_none.calls a1_0 a1_1 a1_2 a1_3 t435 _ A23.out).mono ?_); rintro e w34 ⟨rfl, hb⟩; have n0_ := am (blk_below (g := gb429) (o := b4 a0_0 a0_1 a0_2 a0_3 25) (Z BK429) hb); have n1_ := am (blk_below (g := gb430) (o := b4 a1_0 a1_1 a1_2 a1_3 25) (Z BK430) hb); have n2_ := am (blk_below (g := gb431) (o := b4 0 0 0 0 25) (Z BK431) hb); have n3_ := am (below_step (Y3 HB GE429 GE430 GE431) hb); clear BK429; clear BK430; clear BK431; clear HB; have BK429 := n0_; have BK430 := n1_; have BK431 := n2_; have HB := n3_; clear n0_ n1_ n2_ n3_; (try clear hb); (try clear hb2); (try clear hk); (try clear hi)))
     go_meet
     case rel => exact ⟨_, (t435), (by first | rfl | (simp; done) | (simp [*]; done)), H', ⟨by first | omega | exact Nat.le_refl _⟩, ⟨Z BK429⟩, ⟨Z BK430⟩, ⟨Z BK431⟩, ⟨Y3 HB GE429 GE430 GE431⟩⟩
   ·replace c11 := Bool.eq_false_iff.mpr c11
    subst c11
    have H1 : (impl_ValWiden.j0 k l2 true a0_0 a0_1 a0_2 a0_3 a1_0 a1_1 a1_2 a1_3) = some (r1, r2, r3, r4) := by rw [if_neg (show ¬ (false = true) by decide)] at H; exact H
    clear H
    have H := H1
    clear H1
    have H' := am H
    clear H
    have hnb35 := NB429_430.out
    have hnc35 := NB430_429.out
    have hnb36 := NB429_431.out
    have hnc36 := NB431_429.out
    have hcz37_0 : w7.cell? ⟨gb429, 0, none⟩ = some (.int .i64 a0_0) := bc BK429 0
    have hcz37_1 : w7.cell? ⟨gb429, 1, none⟩ = some (.int .i64 a0_1) := bc BK429 1
    have hcz37_2 : w7.cell? ⟨gb429, 2, none⟩ = some (.int .i64 a0_2) := bc BK429 2
    have hcz37_3 : w7.cell? ⟨gb429, 3, none⟩ = some (.int .i64 a0_3) := bc BK429 3
    have hfz37_0 := blk_frozen BK429.out 0
    have hfz37_1 := blk_frozen BK429.out 1
    have hfz37_2 := blk_frozen BK429.out 2
    have hfz37_3 := blk_frozen BK429.out 3
    go_wp2_with (first | ((with_reducible refine gate_callee (f := 63) rfl ?_); refine goesL_ (some 8) rfl rfl Try.func63 (by kernel_rfl) rfl #[.agg #[.int .i64 a0_0, .int .i64 a0_1, .int .i64 a0_2, .int .i64 a0_3]] rfl mz ?_; (with_reducible refine (impl_ValOk.calls k a0_0 a0_1 a0_2 a0_3 true _ A8.out).mono ?_); rintro e w38 ⟨rfl, hb⟩; refine ⟨_, rfl, ?_⟩; have n0_ := am (blk_below (g := gb429) (o := b4 a0_0 a0_1 a0_2 a0_3 25) (Z BK429) hb); have n1_ := am (blk_below (g := gb430) (o := b4 a1_0 a1_1 a1_2 a1_3 25) (Z BK430) hb); have n2_ := am (blk_below (g := gb431) (o := b4 0 0 0 0 25) (Z BK431) hb); have n3_ := am (below_step (Y3 HB GE429 GE430 GE431) hb); clear BK429; clear BK430; clear BK431; clear HB; have BK429 := n0_; have BK430 := n1_; have BK431 := n2_; have HB := n3_; clear n0_ n1_ n2_ n3_; (try clear hb); (try clear hb2); (try clear hk); (try clear hi); have hnb39 := NB430_431.out; have hnc39 := NB431_430.out; have hcz40_0 : w38.cell? ⟨gb430, 0, none⟩ = some (.int .i64 a1_0) := bc BK430 0; have hcz40_1 : w38.cell? ⟨gb430, 1, none⟩ = some (.int .i64 a1_1) := bc BK430 1; have hcz40_2 : w38.cell? ⟨gb430, 2, none⟩ = some (.int .i64 a1_2) := bc BK430 2; have hcz40_3 : w38.cell? ⟨gb430, 3, none⟩ = some (.int .i64 a1_3) := bc BK430 3; have hfz40_0 := blk_frozen BK430.out 0; have hfz40_1 := blk_frozen BK430.out 1; have hfz40_2 := blk_frozen BK430.out 2; have hfz40_3 := blk_frozen BK430.out 3) | (go_at_call 63; (with_reducible refine (impl_ValOk.calls k a1_0 a1_1 a1_2 a1_3 false _ A10.out).mono ?_); rintro e w41 ⟨rfl, hb⟩; have n0_ := am (blk_below (g := gb429) (o := b4 a0_0 a0_1 a0_2 a0_3 25) (Z BK429) hb); have n1_ := am (blk_below (g := gb430) (o := b4 a1_0 a1_1 a1_2 a1_3 25) (Z BK430) hb); have n2_ := am (blk_below (g := gb431) (o := b4 0 0 0 0 25) (Z BK431) hb); have n3_ := am (below_step (Y3 HB GE429 GE430 GE431) hb); clear BK429; clear BK430; clear BK431; clear HB; have BK429 := n0_; have BK430 := n1_; have BK431 := n2_; have HB := n3_; clear n0_ n1_ n2_ n3_; (try clear hb); (try clear hb2); (try clear hk); (try clear hi)))
    go_meet
    case rel => exact ⟨_, (true), (by first | rfl | (simp; done) | (simp [*]; done)), H', ⟨by first | omega | exact Nat.le_refl _⟩, ⟨Z BK429⟩, ⟨Z BK430⟩, ⟨Z BK431⟩, ⟨Y3 HB GE429 GE430 GE431⟩⟩
  ·replace c9 := Bool.eq_false_iff.mpr c9
   subst c9
   have H1 : (impl_ValWiden.j0 k l2 true a0_0 a0_1 a0_2 a0_3 a1_0 a1_1 a1_2 a1_3) = some (r1, r2, r3, r4) := by rw [if_neg (show ¬ (false = true) by decide)] at H; exact H
   clear H
   have H := H1
   clear H1
   have H' := am H
   clear H
   have hnb42 := NB429_430.out
   have hnc42 := NB430_429.out
   have hnb43 := NB429_431.out
   have hnc43 := NB431_429.out
   have hcz44_0 : w7.cell? ⟨gb429, 0, none⟩ = some (.int .i64 a0_0) := bc BK429 0
   have hcz44_1 : w7.cell? ⟨gb429, 1, none⟩ = some (.int .i64 a0_1) := bc BK429 1
   have hcz44_2 : w7.cell? ⟨gb429, 2, none⟩ = some (.int .i64 a0_2) := bc BK429 2
   have hcz44_3 : w7.cell? ⟨gb429, 3, none⟩ = some (.int .i64 a0_3) := bc BK429 3
   have hfz44_0 := blk_frozen BK429.out 0
   have hfz44_1 := blk_frozen BK429.out 1
   have hfz44_2 := blk_frozen BK429.out 2
   have hfz44_3 := blk_frozen BK429.out 3
   go_wp2_with (first | ((with_reducible refine gate_callee (f := 63) rfl ?_); refine goesL_ (some 8) rfl rfl Try.func63 (by kernel_rfl) rfl #[.agg #[.int .i64 a0_0, .int .i64 a0_1, .int .i64 a0_2, .int .i64 a0_3]] rfl mz ?_; (with_reducible refine (impl_ValOk.calls k a0_0 a0_1 a0_2 a0_3 false _ A8.out).mono ?_); rintro e w45 ⟨rfl, hb⟩; refine ⟨_, rfl, ?_⟩; have n0_ := am (blk_below (g := gb429) (o := b4 a0_0 a0_1 a0_2 a0_3 25) (Z BK429) hb); have n1_ := am (blk_below (g := gb430) (o := b4 a1_0 a1_1 a1_2 a1_3 25) (Z BK430) hb); have n2_ := am (blk_below (g := gb431) (o := b4 0 0 0 0 25) (Z BK431) hb); have n3_ := am (below_step (Y3 HB GE429 GE430 GE431) hb); clear BK429; clear BK430; clear BK431; clear HB; have BK429 := n0_; have BK430 := n1_; have BK431 := n2_; have HB := n3_; clear n0_ n1_ n2_ n3_; (try clear hb); (try clear hb2); (try clear hk); (try clear hi)))
   go_meet
   case rel => exact ⟨_, (true), (by first | rfl | (simp; done) | (simp [*]; done)), H', ⟨by first | omega | exact Nat.le_refl _⟩, ⟨Z BK429⟩, ⟨Z BK430⟩, ⟨Z BK431⟩, ⟨Y3 HB GE429 GE430 GE431⟩⟩
 case rest =>
  clear HC4
  try clear c1
  try clear c2
  try clear p2
  try clear c3
  try clear c4
  try clear c6
  try clear c9
  try clear c11
  try clear c13
  try clear c14
  try clear c15
  try clear c18
  try clear c24
  try clear c25
  try clear c27
  try clear c28
  try clear c35
  try clear c36
  try clear c39
  try clear c42
  try clear c43
  try clear hcz16_0
  try clear hcz16_1
  try clear hcz16_2
  try clear hcz16_3
  try clear hcz19_0
  try clear hcz19_1
  try clear hcz19_2
  try clear hcz19_3
  try clear hcz21_0
  try clear hcz21_1
  try clear hcz21_2
  try clear hcz21_3
  try clear hcz26_0
  try clear hcz26_1
  try clear hcz26_2
  try clear hcz26_3
  try clear hcz29_0
  try clear hcz29_1
  try clear hcz29_2
  try clear hcz29_3
  try clear hcz31_0
  try clear hcz31_1
  try clear hcz31_2
  try clear hcz31_3
  try clear hcz33_0
  try clear hcz33_1
  try clear hcz33_2
  try clear hcz33_3
  try clear hcz37_0
  try clear hcz37_1
  try clear hcz37_2
  try clear hcz37_3
  try clear hcz40_0
  try clear hcz40_1
  try clear hcz40_2
  try clear hcz40_3
  try clear hcz44_0
  try clear hcz44_1
  try clear hcz44_2
  try clear hcz44_3
  try clear hfz16_0
  try clear hfz16_1
  try clear hfz16_2
  try clear hfz16_3
  try clear hfz19_0
  try clear hfz19_1
  try clear hfz19_2
  try clear hfz19_3
  try clear hfz21_0
  try clear hfz21_1
  try clear hfz21_2
  try clear hfz21_3
  try clear hfz26_0
  try clear hfz26_1
  try clear hfz26_2
  try clear hfz26_3
  try clear hfz29_0
  try clear hfz29_1
  try clear hfz29_2
  try clear hfz29_3
  try clear hfz31_0
  try clear hfz31_1
  try clear hfz31_2
  try clear hfz31_3
  try clear hfz33_0
  try clear hfz33_1
  try clear hfz33_2
  try clear hfz33_3
  try clear hfz37_0
  try clear hfz37_1
  try clear hfz37_2
  try clear hfz37_3
  try clear hfz40_0
  try clear hfz40_1
  try clear hfz40_2
  try clear hfz40_3
  try clear hfz44_0
  try clear hfz44_1
  try clear hfz44_2
  try clear hfz44_3
  obtain ⟨kq, x22_3, rfl, HA, HJ3, BK429, BK430, BK431, HB⟩ := hcut
  cases kq with
  | zero => exact absurd HA.out (by simp [impl_ValWiden.j0])
  | succ kj3 =>
   have H := HA.out
   clear HA
   simp only [impl_ValWiden.j0] at H
   by_cases c46 : x22_3 = true
   ·subst c46
    have H1 : ((impl_ValJoin.f kj3 a0_0 a0_1 a0_2 a0_3 a1_0 a1_1 a1_2 a1_3).bind fun bt436 => (some (bt436.1, bt436.2.1, bt436.2.2.1, bt436.2.2.2))) = some (r1, r2, r3, r4) := by rw [if_pos rfl] at H; exact H
    clear H
    have H := H1
    clear H1
    replace H := Option.bind_eq_some_iff.mp H
    obtain ⟨⟨t436, t437, t438, t439⟩, A470, H⟩ := H
    replace H : (some (t436, t437, t438, t439)) = some (r1, r2, r3, r4) := H
    have A47 := am A470
    clear A470
    simp only [Option.some.injEq, Prod.mk.injEq] at H
    obtain ⟨rfl, rfl, rfl, rfl⟩ := H
    have hnb48 := NB429_430.out
    have hnc48 := NB430_429.out
    have hnb49 := NB429_431.out
    have hnc49 := NB431_429.out
    have hcz50_0 : wc.cell? ⟨gb429, 0, none⟩ = some (.int .i64 a0_0) := bc BK429 0
    have hcz50_1 : wc.cell? ⟨gb429, 1, none⟩ = some (.int .i64 a0_1) := bc BK429 1
    have hcz50_2 : wc.cell? ⟨gb429, 2, none⟩ = some (.int .i64 a0_2) := bc BK429 2
    have hcz50_3 : wc.cell? ⟨gb429, 3, none⟩ = some (.int .i64 a0_3) := bc BK429 3
    have hfz50_0 := blk_frozen BK429.out 0
    have hfz50_1 := blk_frozen BK429.out 1
    have hfz50_2 := blk_frozen BK429.out 2
    have hfz50_3 := blk_frozen BK429.out 3
    have hnb51 := NB430_431.out
    have hnc51 := NB431_430.out
    have hcz52_0 : wc.cell? ⟨gb430, 0, none⟩ = some (.int .i64 a1_0) := bc BK430 0
    have hcz52_1 : wc.cell? ⟨gb430, 1, none⟩ = some (.int .i64 a1_1) := bc BK430 1
    have hcz52_2 : wc.cell? ⟨gb430, 2, none⟩ = some (.int .i64 a1_2) := bc BK430 2
    have hcz52_3 : wc.cell? ⟨gb430, 3, none⟩ = some (.int .i64 a1_3) := bc BK430 3
    have hfz52_0 := blk_frozen BK430.out 0
    have hfz52_1 := blk_frozen BK430.out 1
    have hfz52_2 := blk_frozen BK430.out 2
    have hfz52_3 := blk_frozen BK430.out 3
    go_wp2_with (first | ((with_reducible refine gate_callee (f := 21) rfl ?_); refine goesL_ (some 25) rfl rfl Try.func21 (by kernel_rfl) rfl #[.agg #[.int .i64 a0_0, .int .i64 a0_1, .int .i64 a0_2, .int .i64 a0_3], .agg #[.int .i64 a1_0, .int .i64 a1_1, .int .i64 a1_2, .int .i64 a1_3]] rfl mz ?_; (with_reducible refine (impl_ValJoin.calls kj3 a0_0 a0_1 a0_2 a0_3 a1_0 a1_1 a1_2 a1_3 t436 t437 t438 t439 _ A47.out).mono ?_); rintro e w53 ⟨rfl, hb⟩; refine ⟨_, rfl, ?_⟩; have n0_ := am (blk_below (g := gb429) (o := b4 a0_0 a0_1 a0_2 a0_3 25) (Z BK429) hb); have n1_ := am (blk_below (g := gb430) (o := b4 a1_0 a1_1 a1_2 a1_3 25) (Z BK430) hb); have n2_ := am (blk_below (g := gb431) (o := b4 0 0 0 0 25) (Z BK431) hb); have n3_ := am (below_step (Y3 HB GE429 GE430 GE431) hb); clear BK429; clear BK430; clear BK431; clear HB; have BK429 := n0_; have BK430 := n1_; have BK431 := n2_; have HB := n3_; clear n0_ n1_ n2_ n3_; (try clear hb); (try clear hb2); (try clear hk); (try clear hi); have hcz54_0 : w53.cell? ⟨gb431, 0, none⟩ = some (.int .i64 0) := bc BK431 0; have hcz54_1 : w53.cell? ⟨gb431, 1, none⟩ = some (.int .i64 0) := bc BK431 1; have hcz54_2 : w53.cell? ⟨gb431, 2, none⟩ = some (.int .i64 0) := bc BK431 2; have hcz54_3 : w53.cell? ⟨gb431, 3, none⟩ = some (.int .i64 0) := bc BK431 3; have hfz54_0 := blk_frozen BK431.out 0; have hfz54_1 := blk_frozen BK431.out 1; have hfz54_2 := blk_frozen BK431.out 2; have hfz54_3 := blk_frozen BK431.out 3))
    refine bodyPost_ret (results_cell_row rfl _ _ gb431 25 #[.int .i64 t436, .int .i64 t437, .int .i64 t438, .int .i64 t439] (0, 0) _ rfl (by (with_reducible repeat (first | refine blk_drewN ?_ _ | refine blk_drew ?_ | refine blk_alloc ?_ _)); refine blk_put (cs := #[.int .i64 t436, .int .i64 t437, .int .i64 t438, .int .i64 0]) ?_ 3 _ rfl; (with_reducible repeat (first | refine blk_drewN ?_ _ | refine blk_drew ?_ | refine blk_alloc ?_ _)); refine blk_put (cs := #[.int .i64 t436, .int .i64 t437, .int .i64 0, .int .i64 0]) ?_ 2 _ rfl; (with_reducible repeat (first | refine blk_drewN ?_ _ | refine blk_drew ?_ | refine blk_alloc ?_ _)); refine blk_put (cs := #[.int .i64 t436, .int .i64 0, .int .i64 0, .int .i64 0]) ?_ 1 _ rfl; (with_reducible repeat (first | refine blk_drewN ?_ _ | refine blk_drew ?_ | refine blk_alloc ?_ _)); refine blk_put (cs := #[.int .i64 0, .int .i64 0, .int .i64 0, .int .i64 0]) ?_ 0 _ rfl; (with_reducible repeat (first | refine blk_drewN ?_ _ | refine blk_drew ?_ | refine blk_alloc ?_ _)); exact BK431.out) Try.underlying25 rfl (by kernel_rfl)) rfl ?_
    exact ⟨by first | rfl | (simp [errW_none, errW_some] <;> rfl) | (simp [*, errW_none, errW_some] <;> rfl), Y3 HB GE429 GE430 GE431⟩
   ·replace c46 := Bool.eq_false_iff.mpr c46
    subst c46
    have H1 : ((impl_Val_span.f a0_0 a0_1 a0_2 a0_3).bind fun bt440 => ((impl_Val_span.f a1_0 a1_1 a1_2 a1_3).bind fun bt442 => ((impl_RangeWiden.f kj3 bt440.1 bt440.2 bt442.1 bt442.2 l2).bind fun bt444 => ((impl_Val_rest.f a0_0 a0_1 a0_2 a0_3).bind fun bt446 => ((impl_Val_rest.f a1_0 a1_1 a1_2 a1_3).bind fun bt448 => ((impl_RestJoin.f kj3 bt446.1 bt446.2 bt448.1 bt448.2).bind fun bt450 => ((impl_ValMake.f kj3 bt444.1 bt444.2 bt450.1 bt450.2).bind fun bt452 => (some (bt452.1, bt452.2.1, bt452.2.2.1, bt452.2.2.2))))))))) = some (r1, r2, r3, r4) := by rw [if_neg (show ¬ (false = true) by decide)] at H; exact H
    clear H
    have H := H1
    clear H1
    replace H := Option.bind_eq_some_iff.mp H
    obtain ⟨⟨t440, t441⟩, A550, H⟩ := H
    replace H : ((impl_Val_span.f a1_0 a1_1 a1_2 a1_3).bind fun bt442 => ((impl_RangeWiden.f kj3 t440 t441 bt442.1 bt442.2 l2).bind fun bt444 => ((impl_Val_rest.f a0_0 a0_1 a0_2 a0_3).bind fun bt446 => ((impl_Val_rest.f a1_0 a1_1 a1_2 a1_3).bind fun bt448 => ((impl_RestJoin.f kj3 bt446.1 bt446.2 bt448.1 bt448.2).bind fun bt450 => ((impl_ValMake.f kj3 bt444.1 bt444.2 bt450.1 bt450.2).bind fun bt452 => (some (bt452.1, bt452.2.1, bt452.2.2.1, bt452.2.2.2)))))))) = some (r1, r2, r3, r4) := H
    have A55 := am A550
    clear A550
    replace H := Option.bind_eq_some_iff.mp H
    obtain ⟨⟨t442, t443⟩, A560, H⟩ := H
    replace H : ((impl_RangeWiden.f kj3 t440 t441 t442 t443 l2).bind fun bt444 => ((impl_Val_rest.f a0_0 a0_1 a0_2 a0_3).bind fun bt446 => ((impl_Val_rest.f a1_0 a1_1 a1_2 a1_3).bind fun bt448 => ((impl_RestJoin.f kj3 bt446.1 bt446.2 bt448.1 bt448.2).bind fun bt450 => ((impl_ValMake.f kj3 bt444.1 bt444.2 bt450.1 bt450.2).bind fun bt452 => (some (bt452.1, bt452.2.1, bt452.2.2.1, bt452.2.2.2))))))) = some (r1, r2, r3, r4) := H
    have A56 := am A560
    clear A560
    replace H := Option.bind_eq_some_iff.mp H
    obtain ⟨⟨t444, t445⟩, A570, H⟩ := H
    replace H : ((impl_Val_rest.f a0_0 a0_1 a0_2 a0_3).bind fun bt446 => ((impl_Val_rest.f a1_0 a1_1 a1_2 a1_3).bind fun bt448 => ((impl_RestJoin.f kj3 bt446.1 bt446.2 bt448.1 bt448.2).bind fun bt450 => ((impl_ValMake.f kj3 t444 t445 bt450.1 bt450.2).bind fun bt452 => (some (bt452.1, bt452.2.1, bt452.2.2.1, bt452.2.2.2)))))) = some (r1, r2, r3, r4) := H
    have A57 := am A570
    clear A570
    replace H := Option.bind_eq_some_iff.mp H
    obtain ⟨⟨t446, t447⟩, A580, H⟩ := H
    replace H : ((impl_Val_rest.f a1_0 a1_1 a1_2 a1_3).bind fun bt448 => ((impl_RestJoin.f kj3 t446 t447 bt448.1 bt448.2).bind fun bt450 => ((impl_ValMake.f kj3 t444 t445 bt450.1 bt450.2).bind fun bt452 => (some (bt452.1, bt452.2.1, bt452.2.2.1, bt452.2.2.2))))) = some (r1, r2, r3, r4) := H
    have A58 := am A580
    clear A580
    replace H := Option.bind_eq_some_iff.mp H
    obtain ⟨⟨t448, t449⟩, A590, H⟩ := H
    replace H : ((impl_RestJoin.f kj3 t446 t447 t448 t449).bind fun bt450 => ((impl_ValMake.f kj3 t444 t445 bt450.1 bt450.2).bind fun bt452 => (some (bt452.1, bt452.2.1, bt452.2.2.1, bt452.2.2.2)))) = some (r1, r2, r3, r4) := H
    have A59 := am A590
    clear A590
    replace H := Option.bind_eq_some_iff.mp H
    obtain ⟨⟨t450, t451⟩, A600, H⟩ := H
    replace H : ((impl_ValMake.f kj3 t444 t445 t450 t451).bind fun bt452 => (some (bt452.1, bt452.2.1, bt452.2.2.1, bt452.2.2.2))) = some (r1, r2, r3, r4) := H
    have A60 := am A600
    clear A600
    replace H := Option.bind_eq_some_iff.mp H
    obtain ⟨⟨t452, t453, t454, t455⟩, A610, H⟩ := H
    replace H : (some (t452, t453, t454, t455)) = some (r1, r2, r3, r4) := H
    have A61 := am A610
    clear A610
    simp only [Option.some.injEq, Prod.mk.injEq] at H
    obtain ⟨rfl, rfl, rfl, rfl⟩ := H
    try go_wp2
    have n0_ := am (blk_drew BK429.out)
    have n1_ := am (blk_drew BK430.out)
    have n2_ := am (blk_drew BK431.out)
    have n3_ := am (below_drew1 HB.out)
    clear BK429
    clear BK430
    clear BK431
    clear HB
    have BK429 := n0_
    have BK430 := n1_
    have BK431 := n2_
    have HB := n3_
    clear n0_ n1_ n2_ n3_
    refine start_ (n := 13) (S := fun w' => w'.cell? ⟨gb429, 0, none⟩ = some (.int .i64 a0_0) ∧ w'.cell? ⟨gb429, 1, none⟩ = some (.int .i64 a0_1) ∧ w'.cell? ⟨gb429, 2, none⟩ = some (.int .i64 a0_2) ∧ w'.cell? ⟨gb429, 3, none⟩ = some (.int .i64 a0_3) ∧ w'.cell? ⟨gb430, 0, none⟩ = some (.int .i64 a1_0) ∧ w'.cell? ⟨gb430, 1, none⟩ = some (.int .i64 a1_1) ∧ w'.cell? ⟨gb430, 2, none⟩ = some (.int .i64 a1_2) ∧ w'.cell? ⟨gb430, 3, none⟩ = some (.int .i64 a1_3)) (ds := []) #[F, F, F, F, F, F, F, F, F, F, F, F, F] (by kernel_rfl) rfl rfl ⟨bc BK429 0, bc BK429 1, bc BK429 2, bc BK429 3, bc BK430 0, bc BK430 1, bc BK430 2, bc BK430 3⟩ (fun hHeld => ?_); refine with_tabW impl_ValWiden.tab3 impl_ValWiden.bits3 (fun HT_ HW_ => ?_)
    generalize wc.drew = w62 at BK429 BK430 BK431 HB hHeld ⊢
    refine pure_ (i := 4) (N := some 30) (v := ?_) (a' := ?_) #[F, F, F, F, T, F, F, F, F, F, F, F, F] rfl rfl (any_of HT_.out (by kernel_rfl)) (fun _ _ _ h => h) (Or.inl ⟨by rfl, ?_⟩) ?_ ?_
    rotate_left
    ·exact gz
    rotate_left
    ·exact pz
    refine take_ (i := 0) (N := some 26) (v := ?_) (a' := ?_) #[T, F, F, F, T, F, F, F, F, F, F, F, F] rfl rfl (take_ofW HT_.out HW_.out (by kernel_rfl)) (fun _ _ _ h => h) (Or.inl ⟨by rfl, ?_⟩) hHeld ?_ ?_
    rotate_left
    ·rintro w' ⟨s0, s1, s2, s3, s4, s5, s6, s7⟩
     go_simp
     with_reducible rfl
    rotate_left
    ·exact pz
    refine take_ (i := 2) (N := some 28) (v := ?_) (a' := ?_) #[T, F, T, F, T, F, F, F, F, F, F, F, F] rfl rfl (take_ofW HT_.out HW_.out (by kernel_rfl)) (fun _ _ _ h => h) (Or.inl ⟨by rfl, ?_⟩) hHeld ?_ ?_
    rotate_left
    ·rintro w' ⟨s0, s1, s2, s3, s4, s5, s6, s7⟩
     go_simp
     with_reducible rfl
    rotate_left
    ·exact pz
    refine take_ (i := 6) (N := some 32) (v := ?_) (a' := ?_) #[T, F, T, F, T, F, T, F, F, F, F, F, F] rfl rfl (take_ofW HT_.out HW_.out (by kernel_rfl)) (fun _ _ _ h => h) (Or.inl ⟨by rfl, ?_⟩) hHeld ?_ ?_
    rotate_left
    ·rintro w' ⟨s0, s1, s2, s3, s4, s5, s6, s7⟩
     go_simp
     with_reducible rfl
    rotate_left
    ·exact pz
    refine take_ (i := 8) (N := some 34) (v := ?_) (a' := ?_) #[T, F, T, F, T, F, T, F, T, F, F, F, F] rfl rfl (take_ofW HT_.out HW_.out (by kernel_rfl)) (fun _ _ _ h => h) (Or.inl ⟨by rfl, ?_⟩) hHeld ?_ ?_
    rotate_left
    ·rintro w' ⟨s0, s1, s2, s3, s4, s5, s6, s7⟩
     go_simp
     with_reducible rfl
    rotate_left
    ·exact pz
    refine one_ (i := 1) (N := some 27) #[T, T, T, F, T, F, T, F, T, F, F, F, F] rfl rfl (one_of HT_.out (by kernel_rfl)) (by decide) (fun K hK => ?_)
    refine goes_ Try.func65 (by kernel_rfl) rfl #[.agg #[.int .i64 a0_0, .int .i64 a0_1, .int .i64 a0_2, .int .i64 a0_3]] (by rfl) rfl rfl mz ?_
    with_reducible refine (impl_Val_span.calls a0_0 a0_1 a0_2 a0_3 t440 t441 _ A55.out).mono ?_
    rintro e w63 ⟨rfl, hb⟩
    refine ⟨_, rfl, ?_⟩
    have n0_ := am (blk_below (g := gb429) (o := b4 a0_0 a0_1 a0_2 a0_3 25) (Z BK429) hb)
    have n1_ := am (blk_below (g := gb430) (o := b4 a1_0 a1_1 a1_2 a1_3 25) (Z BK430) hb)
    have n2_ := am (blk_below (g := gb431) (o := b4 0 0 0 0 25) (Z BK431) hb)
    have n3_ := am (below_step (Y3 HB GE429 GE430 GE431) hb)
    clear BK429
    clear BK430
    clear BK431
    clear HB
    have BK429 := n0_
    have BK430 := n1_
    have BK431 := n2_
    have HB := n3_
    clear n0_ n1_ n2_ n3_
    (try clear hb)
    (try clear hb2)
    (try clear hk)
    (try clear hi)
    refine hK.out _ _ ⟨bc BK429 0, bc BK429 1, bc BK429 2, bc BK429 3, bc BK430 0, bc BK430 1, bc BK430 2, bc BK430 3⟩ (fun hHeld => ?_)
    clear hK K
    refine norm_ (a' := ?_) ?_ ?_
    rotate_left
    ·show Act.put _ (some 27) _ = _
     simp only [Act.put, List.setIfInBounds_toArray, List.set_cons_zero, List.set_cons_succ, i64_w, i32_w]
     rfl
    refine one_ (i := 3) (N := some 29) #[T, T, T, T, T, F, T, F, T, F, F, F, F] rfl rfl (one_of HT_.out (by kernel_rfl)) (by decide) (fun K hK => ?_)
    refine goes_ Try.func65 (by kernel_rfl) rfl #[.agg #[.int .i64 a1_0, .int .i64 a1_1, .int .i64 a1_2, .int .i64 a1_3]] (by rfl) rfl rfl mz ?_
    with_reducible refine (impl_Val_span.calls a1_0 a1_1 a1_2 a1_3 t442 t443 _ A56.out).mono ?_
    rintro e w64 ⟨rfl, hb⟩
    refine ⟨_, rfl, ?_⟩
    have n0_ := am (blk_below (g := gb429) (o := b4 a0_0 a0_1 a0_2 a0_3 25) (Z BK429) hb)
    have n1_ := am (blk_below (g := gb430) (o := b4 a1_0 a1_1 a1_2 a1_3 25) (Z BK430) hb)
    have n2_ := am (blk_below (g := gb431) (o := b4 0 0 0 0 25) (Z BK431) hb)
    have n3_ := am (below_step (Y3 HB GE429 GE430 GE431) hb)
    clear BK429
    clear BK430
    clear BK431
    clear HB
    have BK429 := n0_
    have BK430 := n1_
    have BK431 := n2_
    have HB := n3_
    clear n0_ n1_ n2_ n3_
    (try clear hb)
    (try clear hb2)
    (try clear hk)
    (try clear hi)
    refine hK.out _ _ ⟨bc BK429 0, bc BK429 1, bc BK429 2, bc BK429 3, bc BK430 0, bc BK430 1, bc BK430 2, bc BK430 3⟩ (fun hHeld => ?_)
    clear hK K
    refine norm_ (a' := ?_) ?_ ?_
    rotate_left
    ·show Act.put _ (some 29) _ = _
     simp only [Act.put, List.setIfInBounds_toArray, List.set_cons_zero, List.set_cons_succ, i64_w, i32_w]
     rfl
    refine one_ (i := 5) (N := some 31) #[T, T, T, T, T, T, T, F, T, F, F, F, F] rfl rfl (one_of HT_.out (by kernel_rfl)) (by decide) (fun K hK => ?_)
    refine goes_ Try.func85 (by kernel_rfl) rfl #[.agg #[.int .i64 t440, .int .i64 t441], .agg #[.int .i64 t442, .int .i64 t443], .slice A2 l2.length c2] (by rfl) rfl rfl mz ?_
    with_reducible refine (impl_RangeWiden.calls kj3 t440 t441 t442 t443 _ _ l2 t444 t445 _ ?side1 ?side2 A57.out).mono ?_
    (case side1 => repeat (first | exact (Kd.C_below HR2.out HB.out) | (with_reducible refine Kd.C_alloc ?_ _) | (with_reducible refine Kd.C_drewN ?_ _) | (with_reducible refine Kd.C_drew ?_)))
    (case side2 => exact HC2.out)
    rintro e w65 ⟨rfl, hb⟩
    refine ⟨_, rfl, ?_⟩
    have n0_ := am (blk_below (g := gb429) (o := b4 a0_0 a0_1 a0_2 a0_3 25) (Z BK429) hb)
    have n1_ := am (blk_below (g := gb430) (o := b4 a1_0 a1_1 a1_2 a1_3 25) (Z BK430) hb)
    have n2_ := am (blk_below (g := gb431) (o := b4 0 0 0 0 25) (Z BK431) hb)
    have n3_ := am (below_step (Y3 HB GE429 GE430 GE431) hb)
    clear BK429
    clear BK430
    clear BK431
    clear HB
    have BK429 := n0_
    have BK430 := n1_
    have BK431 := n2_
    have HB := n3_
    clear n0_ n1_ n2_ n3_
    (try clear hb)
    (try clear hb2)
    (try clear hk)
    (try clear hi)
    refine hK.out _ _ ⟨bc BK429 0, bc BK429 1, bc BK429 2, bc BK429 3, bc BK430 0, bc BK430 1, bc BK430 2, bc BK430 3⟩ (fun hHeld => ?_)
    clear hK K
    refine norm_ (a' := ?_) ?_ ?_
    rotate_left
    ·show Act.put _ (some 31) _ = _
     simp only [Act.put, List.setIfInBounds_toArray, List.set_cons_zero, List.set_cons_succ, i64_w, i32_w]
     rfl
    refine one_ (i := 7) (N := some 33) #[T, T, T, T, T, T, T, T, T, F, F, F, F] rfl rfl (one_of HT_.out (by kernel_rfl)) (by decide) (fun K hK => ?_)
    refine goes_ Try.func67 (by kernel_rfl) rfl #[.agg #[.int .i64 a0_0, .int .i64 a0_1, .int .i64 a0_2, .int .i64 a0_3]] (by rfl) rfl rfl mz ?_
    with_reducible refine (impl_Val_rest.calls a0_0 a0_1 a0_2 a0_3 t446 t447 _ A58.out).mono ?_
    rintro e w66 ⟨rfl, hb⟩
    refine ⟨_, rfl, ?_⟩
    have n0_ := am (blk_below (g := gb429) (o := b4 a0_0 a0_1 a0_2 a0_3 25) (Z BK429) hb)
    have n1_ := am (blk_below (g := gb430) (o := b4 a1_0 a1_1 a1_2 a1_3 25) (Z BK430) hb)
    have n2_ := am (blk_below (g := gb431) (o := b4 0 0 0 0 25) (Z BK431) hb)
    have n3_ := am (below_step (Y3 HB GE429 GE430 GE431) hb)
    clear BK429
    clear BK430
    clear BK431
    clear HB
    have BK429 := n0_
    have BK430 := n1_
    have BK431 := n2_
    have HB := n3_
    clear n0_ n1_ n2_ n3_
    (try clear hb)
    (try clear hb2)
    (try clear hk)
    (try clear hi)
    refine hK.out _ _ ⟨bc BK429 0, bc BK429 1, bc BK429 2, bc BK429 3, bc BK430 0, bc BK430 1, bc BK430 2, bc BK430 3⟩ (fun hHeld => ?_)
    clear hK K
    refine norm_ (a' := ?_) ?_ ?_
    rotate_left
    ·show Act.put _ (some 33) _ = _
     simp only [Act.put, List.setIfInBounds_toArray, List.set_cons_zero, List.set_cons_succ, i64_w, i32_w]
     rfl
    refine one_ (i := 9) (N := some 35) #[T, T, T, T, T, T, T, T, T, T, F, F, F] rfl rfl (one_of HT_.out (by kernel_rfl)) (by decide) (fun K hK => ?_)
    refine goes_ Try.func67 (by kernel_rfl) rfl #[.agg #[.int .i64 a1_0, .int .i64 a1_1, .int .i64 a1_2, .int .i64 a1_3]] (by rfl) rfl rfl mz ?_
    with_reducible refine (impl_Val_rest.calls a1_0 a1_1 a1_2 a1_3 t448 t449 _ A59.out).mono ?_
    rintro e w67 ⟨rfl, hb⟩
    refine ⟨_, rfl, ?_⟩
    have n0_ := am (blk_below (g := gb429) (o := b4 a0_0 a0_1 a0_2 a0_3 25) (Z BK429) hb)
    have n1_ := am (blk_below (g := gb430) (o := b4 a1_0 a1_1 a1_2 a1_3 25) (Z BK430) hb)
    have n2_ := am (blk_below (g := gb431) (o := b4 0 0 0 0 25) (Z BK431) hb)
    have n3_ := am (below_step (Y3 HB GE429 GE430 GE431) hb)
    clear BK429
    clear BK430
    clear BK431
    clear HB
    have BK429 := n0_
    have BK430 := n1_
    have BK431 := n2_
    have HB := n3_
    clear n0_ n1_ n2_ n3_
    (try clear hb)
    (try clear hb2)
    (try clear hk)
    (try clear hi)
    refine hK.out _ _ ⟨bc BK429 0, bc BK429 1, bc BK429 2, bc BK429 3, bc BK430 0, bc BK430 1, bc BK430 2, bc BK430 3⟩ (fun hHeld => ?_)
    clear hK K
    refine norm_ (a' := ?_) ?_ ?_
    rotate_left
    ·show Act.put _ (some 35) _ = _
     simp only [Act.put, List.setIfInBounds_toArray, List.set_cons_zero, List.set_cons_succ, i64_w, i32_w]
     rfl
    refine one_ (i := 10) (N := some 36) #[T, T, T, T, T, T, T, T, T, T, T, F, F] rfl rfl (one_of HT_.out (by kernel_rfl)) (by decide) (fun K hK => ?_)
    refine goes_ Try.func79 (by kernel_rfl) rfl #[.agg #[.int .i64 t446, .int .i64 t447], .agg #[.int .i64 t448, .int .i64 t449]] (by rfl) rfl rfl mz ?_
    with_reducible refine (impl_RestJoin.calls kj3 t446 t447 t448 t449 t450 t451 _ A60.out).mono ?_
    rintro e w68 ⟨rfl, hb⟩
    refine ⟨_, rfl, ?_⟩
    have n0_ := am (blk_below (g := gb429) (o := b4 a0_0 a0_1 a0_2 a0_3 25) (Z BK429) hb)
    have n1_ := am (blk_below (g := gb430) (o := b4 a1_0 a1_1 a1_2 a1_3 25) (Z BK430) hb)
    have n2_ := am (blk_below (g := gb431) (o := b4 0 0 0 0 25) (Z BK431) hb)
    have n3_ := am (below_step (Y3 HB GE429 GE430 GE431) hb)
    clear BK429
    clear BK430
    clear BK431
    clear HB
    have BK429 := n0_
    have BK430 := n1_
    have BK431 := n2_
    have HB := n3_
    clear n0_ n1_ n2_ n3_
    (try clear hb)
    (try clear hb2)
    (try clear hk)
    (try clear hi)
    refine hK.out _ _ ⟨bc BK429 0, bc BK429 1, bc BK429 2, bc BK429 3, bc BK430 0, bc BK430 1, bc BK430 2, bc BK430 3⟩ (fun hHeld => ?_)
    clear hK K
    refine norm_ (a' := ?_) ?_ ?_
    rotate_left
    ·show Act.put _ (some 36) _ = _
     simp only [Act.put, List.setIfInBounds_toArray, List.set_cons_zero, List.set_cons_succ, i64_w, i32_w]
     rfl
    refine one_ (i := 11) (N := some 37) #[T, T, T, T, T, T, T, T, T, T, T, T, F] rfl rfl (one_of HT_.out (by kernel_rfl)) (by decide) (fun K hK => ?_)
    refine goes_ Try.func77 (by kernel_rfl) rfl #[.agg #[.int .i64 t444, .int .i64 t445], .agg #[.int .i64 t450, .int .i64 t451]] (by rfl) rfl rfl mz ?_
    with_reducible refine (impl_ValMake.calls kj3 t444 t445 t450 t451 t452 t453 t454 t455 _ A61.out).mono ?_
    rintro e w69 ⟨rfl, hb⟩
    refine ⟨_, rfl, ?_⟩
    have n0_ := am (blk_below (g := gb429) (o := b4 a0_0 a0_1 a0_2 a0_3 25) (Z BK429) hb)
    have n1_ := am (blk_below (g := gb430) (o := b4 a1_0 a1_1 a1_2 a1_3 25) (Z BK430) hb)
    have n2_ := am (blk_below (g := gb431) (o := b4 0 0 0 0 25) (Z BK431) hb)
    have n3_ := am (below_step (Y3 HB GE429 GE430 GE431) hb)
    clear BK429
    clear BK430
    clear BK431
    clear HB
    have BK429 := n0_
    have BK430 := n1_
    have BK431 := n2_
    have HB := n3_
    clear n0_ n1_ n2_ n3_
    (try clear hb)
    (try clear hb2)
    (try clear hk)
    (try clear hi)
    refine hK.out _ _ ⟨bc BK429 0, bc BK429 1, bc BK429 2, bc BK429 3, bc BK430 0, bc BK430 1, bc BK430 2, bc BK430 3⟩ (fun hHeld => ?_)
    clear hK K
    refine norm_ (a' := ?_) ?_ ?_
    rotate_left
    ·show Act.put _ (some 37) _ = _
     simp only [Act.put, List.setIfInBounds_toArray, List.set_cons_zero, List.set_cons_succ, i64_w, i32_w]
     rfl
    refine one_ (i := 12) (N := none) #[T, T, T, T, T, T, T, T, T, T, T, T, T] rfl rfl (one_of HT_.out (by kernel_rfl)) (by decide) (fun K hK => ?_)
    have hs70 : w69.cell? ⟨gb431, 0, none⟩ = some (.int .i64 0) := bc BK431 0
    have hfs70 := blk_frozen BK431.out 0
    have hns70_0 := NB429_431.out
    have hns70_1 := NB430_431.out
    have hms70_0 := NB431_429.out
    have hms70_1 := NB431_430.out
    have hs71 : w69.cell? ⟨gb431, 1, none⟩ = some (.int .i64 0) := bc BK431 1
    have hfs71 := blk_frozen BK431.out 1
    have hns71_0 := NB429_431.out
    have hns71_1 := NB430_431.out
    have hms71_0 := NB431_429.out
    have hms71_1 := NB431_430.out
    have hs72 : w69.cell? ⟨gb431, 2, none⟩ = some (.int .i64 0) := bc BK431 2
    have hfs72 := blk_frozen BK431.out 2
    have hns72_0 := NB429_431.out
    have hns72_1 := NB430_431.out
    have hms72_0 := NB431_429.out
    have hms72_1 := NB431_430.out
    have hs73 : w69.cell? ⟨gb431, 3, none⟩ = some (.int .i64 0) := bc BK431 3
    have hfs73 := blk_frozen BK431.out 3
    have hns73_0 := NB429_431.out
    have hns73_1 := NB430_431.out
    have hms73_0 := NB431_429.out
    have hms73_1 := NB431_430.out
    refine skip_ (w1 := ?_) (by rfl) rfl ?_ ?_
    rotate_left
    ·go_simp
     rfl
    refine hK.out _ _ ⟨((cell_far (p := ⟨gb431, _, none⟩) NB429_431.out _).trans (((cell_far (p := ⟨gb431, _, none⟩) NB429_431.out _).trans (((cell_far (p := ⟨gb431, _, none⟩) NB429_431.out _).trans (((cell_far (p := ⟨gb431, _, none⟩) NB429_431.out _).trans (hHeld.1)))))))), ((cell_far (p := ⟨gb431, _, none⟩) NB429_431.out _).trans (((cell_far (p := ⟨gb431, _, none⟩) NB429_431.out _).trans (((cell_far (p := ⟨gb431, _, none⟩) NB429_431.out _).trans (((cell_far (p := ⟨gb431, _, none⟩) NB429_431.out _).trans (hHeld.2.1)))))))), ((cell_far (p := ⟨gb431, _, none⟩) NB429_431.out _).trans (((cell_far (p := ⟨gb431, _, none⟩) NB429_431.out _).trans (((cell_far (p := ⟨gb431, _, none⟩) NB429_431.out _).trans (((cell_far (p := ⟨gb431, _, none⟩) NB429_431.out _).trans (hHeld.2.2.1)))))))), ((cell_far (p := ⟨gb431, _, none⟩) NB429_431.out _).trans (((cell_far (p := ⟨gb431, _, none⟩) NB429_431.out _).trans (((cell_far (p := ⟨gb431, _, none⟩) NB429_431.out _).trans (((cell_far (p := ⟨gb431, _, none⟩) NB429_431.out _).trans (hHeld.2.2.2.1)))))))), ((cell_far (p := ⟨gb431, _, none⟩) NB430_431.out _).trans (((cell_far (p := ⟨gb431, _, none⟩) NB430_431.out _).trans (((cell_far (p := ⟨gb431, _, none⟩) NB430_431.out _).trans (((cell_far (p := ⟨gb431, _, none⟩) NB430_431.out _).trans (hHeld.2.2.2.2.1)))))))), ((cell_far (p := ⟨gb431, _, none⟩) NB430_431.out _).trans (((cell_far (p := ⟨gb431, _, none⟩) NB430_431.out _).trans (((cell_far (p := ⟨gb431, _, none⟩) NB430_431.out _).trans (((cell_far (p := ⟨gb431, _, none⟩) NB430_431.out _).trans (hHeld.2.2.2.2.2.1)))))))), ((cell_far (p := ⟨gb431, _, none⟩) NB430_431.out _).trans (((cell_far (p := ⟨gb431, _, none⟩) NB430_431.out _).trans (((cell_far (p := ⟨gb431, _, none⟩) NB430_431.out _).trans (((cell_far (p := ⟨gb431, _, none⟩) NB430_431.out _).trans (hHeld.2.2.2.2.2.2.1)))))))), ((cell_far (p := ⟨gb431, _, none⟩) NB430_431.out _).trans (((cell_far (p := ⟨gb431, _, none⟩) NB430_431.out _).trans (((cell_far (p := ⟨gb431, _, none⟩) NB430_431.out _).trans (((cell_far (p := ⟨gb431, _, none⟩) NB430_431.out _).trans (hHeld.2.2.2.2.2.2.2))))))))⟩ (fun hHeld => ?_)
    clear hK K
    refine done_ (done_of HT_.out (by kernel_rfl)) ?_
    try go_wp2
    refine bodyPost_ret (results_cell_row rfl _ _ gb431 25 #[.int .i64 t452, .int .i64 t453, .int .i64 t454, .int .i64 t455] (0, 0) _ rfl (by (with_reducible repeat (first | refine blk_drewN ?_ _ | refine blk_drew ?_ | refine blk_alloc ?_ _)); refine blk_put (cs := #[.int .i64 t452, .int .i64 t453, .int .i64 t454, .int .i64 0]) ?_ 3 _ rfl; (with_reducible repeat (first | refine blk_drewN ?_ _ | refine blk_drew ?_ | refine blk_alloc ?_ _)); refine blk_put (cs := #[.int .i64 t452, .int .i64 t453, .int .i64 0, .int .i64 0]) ?_ 2 _ rfl; (with_reducible repeat (first | refine blk_drewN ?_ _ | refine blk_drew ?_ | refine blk_alloc ?_ _)); refine blk_put (cs := #[.int .i64 t452, .int .i64 0, .int .i64 0, .int .i64 0]) ?_ 1 _ rfl; (with_reducible repeat (first | refine blk_drewN ?_ _ | refine blk_drew ?_ | refine blk_alloc ?_ _)); refine blk_put (cs := #[.int .i64 0, .int .i64 0, .int .i64 0, .int .i64 0]) ?_ 0 _ rfl; (with_reducible repeat (first | refine blk_drewN ?_ _ | refine blk_drew ?_ | refine blk_alloc ?_ _)); exact BK431.out) Try.underlying25 rfl (by kernel_rfl)) rfl ?_
    exact ⟨by first | rfl | (simp [errW_none, errW_some] <;> rfl) | (simp [*, errW_none, errW_some] <;> rfl), Y3 HB GE429 GE430 GE431⟩

/-! ### laws_eqIntS: function 28 -/
def laws_eqIntS.l0 : Nat → List Int → List Int → Int → Option (Bool)
 | 0, _, _, _ => none
 | k + 1, x0, x1, x5 => if x5 < (x0.length : Int) then (if 0 ≤ x5 then (if x5 < (x1.length : Int) then (if (rd x0 x5) = (rd x1 x5) then (laws_eqIntS.l0 k x0 x1 (wrap64 (x5 + 1))) else (some false)) else (none)) else (none)) else (some true)
def laws_eqIntS.f (k : Nat) (l0 : List Int) (l1 : List Int) : Option (Bool) := if (l0.length : Int) = (l1.length : Int) then (laws_eqIntS.l0 k l0 l1 0) else (some false)
theorem laws_eqIntS.mono_l : ∀ k, (∀ y0 y1 y2, LeO (laws_eqIntS.l0 k y0 y1 y2) (laws_eqIntS.l0 (k + 1) y0 y1 y2))
 | 0 => fun _ _ _ r h => by simp [laws_eqIntS.l0] at h
 | k + 1 => by
  have ih0 := laws_eqIntS.mono_l k
  ·intro y0 y1 y2
   unfold laws_eqIntS.l0
   repeat' first
   | (with_reducible exact ih0 _ _ _)
   | (with_reducible exact LeO.refl _)
   | (with_reducible exact LeO.none _)
   | (with_reducible refine LeO.ite ?_ ?_)
   | (with_reducible refine LeO.bind ?_ (fun _ => ?_))
   | exact ih0 _ _ _
   | exact LeO.none _
   | refine LeO.ite ?_ ?_
   | refine LeO.bind ?_ (fun _ => ?_)
theorem laws_eqIntS.mono : ∀ a0 a1 k, LeO (laws_eqIntS.f k a0 a1) (laws_eqIntS.f (k + 1) a0 a1) := by
 intro a0 a1 k
 have ih0 := laws_eqIntS.mono_l k
 unfold laws_eqIntS.f
 repeat' first
   | (with_reducible exact ih0 _ _ _)
   | (with_reducible exact LeO.refl _)
   | (with_reducible exact LeO.none _)
   | (with_reducible refine LeO.ite ?_ ?_)
   | (with_reducible refine LeO.bind ?_ (fun _ => ?_))
   | exact ih0 _ _ _
   | exact LeO.none _
   | refine LeO.ite ?_ ?_
   | refine LeO.bind ?_ (fun _ => ?_)
set_option maxHeartbeats 8000000 in
set_option maxRecDepth 100000 in
theorem laws_eqIntS.calls (k : Nat) (A0 : Option Addr) (c0 : Nat) (l0 : List Int) (A1 : Option Addr) (c1 : Nat) (l1 : List Int) (r : Bool) (w : World) (hr0 : Kd.C (Kd.int .i64) w A0 l0.length l0) (hc0 : l0.length ≤ c0) (hr1 : Kd.C (Kd.int .i64) w A1 l1.length l1) (hc1 : l1.length ≤ c1) (h : laws_eqIntS.f k l0 l1 = some r) :
  Calls Try.prog 28 #[.slice A0 l0.length c0, .slice A1 l1.length c1] w fun e w' => e = .returned (.bool r) ∧ Drawn0 w w' := by
 have HR0 := am hr0
 have HC0 := am hc0
 clear hr0 hc0
 have HR1 := am hr1
 have HC1 := am hc1
 clear hr1 hc1
 have H : (if (l0.length : Int) = (l1.length : Int) then (laws_eqIntS.l0 k l0 l1 0) else (some false)) = some r := h
 clear h
 by_cases c3 : (l0.length : Int) = (l1.length : Int)
 ·rw [if_pos c3] at H
  have c3b0 : ((l0.length : Int) == (l1.length : Int)) = true := beq_iff_eq.mpr c3
  have c3b1 : ((l0.length : Int) != (l1.length : Int)) = false := bne_eq_false_iff_eq.mpr c3
  have c3b2 : (l0.length == l1.length) = true := by first | simpa using c3 | (simp at c3 ⊢; omega)
  clear c3
  have H' := am H
  clear H
  go_enter Try.func28, Try.ntmps28
  go_wp2
  repeat (go_quiet (fail); try go_wp2)
  go_loopg [5] k (fun kq v5 w' => ∃ (x5_1 : Int), v5 = .int .i64 x5_1 ∧ Aside0 (laws_eqIntS.l0 kq l0 l1 x5_1 = some r) ∧ Aside0 (kq ≤ k) ∧ Drawn0 w w')
  case atStart => exact ⟨(0), (by first | rfl | (simp; done) | (simp [*]; done)), H', ⟨Nat.le_refl _⟩, by repeat (first | exact Drawn0.refl _ | apply Drawn0.step)⟩
  case round =>
   clear H'
   try clear c1
   try clear c2
   try clear p2
   try clear c3
   try clear c3b0
   try clear c3b1
   try clear c3b2
   obtain ⟨x5_1, rfl, HA, HK1, ⟨m1, rfl⟩⟩ := hrel
   cases gk with
   | zero => exact absurd HA.out (by simp [laws_eqIntS.l0])
   | succ k1 =>
    have H := HA.out
    clear HA
    simp only [laws_eqIntS.l0] at H
    by_cases c4 : x5_1 < (l0.length : Int)
    ·rw [if_pos c4] at H
     have c4b0 : decide (x5_1 < (l0.length : Int)) = true := decide_eq_true c4
     clear c4
     by_cases c5 : 0 ≤ x5_1
     ·rw [if_pos c5] at H
      have c5b0 : decide (0 ≤ x5_1) = true := decide_eq_true c5
      clear c5
      by_cases c6 : x5_1 < (l1.length : Int)
      ·rw [if_pos c6] at H
       have c6b0 : decide (x5_1 < (l1.length : Int)) = true := decide_eq_true c6
       clear c6
       by_cases c7 : (rd l0 x5_1) = (rd l1 x5_1)
       ·rw [if_pos c7] at H
        have c7b0 : ((rd l0 x5_1) == (rd l1 x5_1)) = true := beq_iff_eq.mpr c7
        have c7b1 : ((rd l0 x5_1) != (rd l1 x5_1)) = false := bne_eq_false_iff_eq.mpr c7
        clear c7
        have H' := am H
        clear H
        have p456 : 0 ≤ (x5_1 : Int) := oz
        have q456 : x5_1 < (l0.length : Int) := oz
        obtain ⟨ad456, e456, hx456_0⟩ := Kd.at_int HR0.out x5_1 p456 q456
        cases e456
        replace p456 := eq_true p456
        replace q456 := eq_true q456
        have p457 : 0 ≤ (x5_1 : Int) := oz
        have q457 : x5_1 < (l1.length : Int) := oz
        obtain ⟨ad457, e457, hx457_0⟩ := Kd.at_int HR1.out x5_1 p457 q457
        cases e457
        replace p457 := eq_true p457
        replace q457 := eq_true q457
        go_wp2
        repeat (go_quiet (fail); try go_wp2)
        go_roundg k1
        case measure => have := HK1.out; omega
        case rel => exact ⟨(wrap64 (x5_1 + 1)), (by first | rfl | (simp; done) | (simp [*]; done)), H', ⟨by have := HK1.out; omega⟩, by repeat (first | exact Drawn0.refl _ | apply Drawn0.step)⟩
       ·rw [if_neg c7] at H
        have c7b0 : ((rd l0 x5_1) == (rd l1 x5_1)) = false := beq_eq_false_iff_ne.mpr c7
        have c7b1 : ((rd l0 x5_1) != (rd l1 x5_1)) = true := bne_iff_ne.mpr c7
        obtain rfl := Option.some.inj H
        have p456 : 0 ≤ (x5_1 : Int) := oz
        have q456 : x5_1 < (l0.length : Int) := oz
        obtain ⟨ad456, e456, hx456_0⟩ := Kd.at_int HR0.out x5_1 p456 q456
        cases e456
        replace p456 := eq_true p456
        replace q456 := eq_true q456
        have p457 : 0 ≤ (x5_1 : Int) := oz
        have q457 : x5_1 < (l1.length : Int) := oz
        obtain ⟨ad457, e457, hx457_0⟩ := Kd.at_int HR1.out x5_1 p457 q457
        cases e457
        replace p457 := eq_true p457
        replace q457 := eq_true q457
        go_wp2
        repeat (go_quiet (fail); try go_wp2)
        go_ret
        exact ⟨by first | rfl | (simp; done) | (simp [*]; done), by repeat (first | exact Drawn0.refl _ | apply Drawn0.step)⟩
      ·rw [if_neg c6] at H
       exact absurd H (by simp)
     ·rw [if_neg c5] at H
      exact absurd H (by simp)
    ·rw [if_neg c4] at H
     have c4b0 : decide (x5_1 < (l0.length : Int)) = false := decide_eq_false c4
     clear c4
     obtain rfl := Option.some.inj H
     go_wp2
     repeat (go_quiet (fail); try go_wp2)
     go_ret
     exact ⟨by first | rfl | (simp; done) | (simp [*]; done), by repeat (first | exact Drawn0.refl _ | apply Drawn0.step)⟩
 ·rw [if_neg c3] at H
  have c3b0 : ((l0.length : Int) == (l1.length : Int)) = false := beq_eq_false_iff_ne.mpr c3
  have c3b1 : ((l0.length : Int) != (l1.length : Int)) = true := bne_iff_ne.mpr c3
  have c3b2 : (l0.length == l1.length) = false := by first | simpa using c3 | (simp at c3 ⊢; omega)
  obtain rfl := Option.some.inj H
  go_enter Try.func28, Try.ntmps28
  go_wp2
  repeat (go_quiet (fail); try go_wp2)
  go_ret
  exact ⟨by first | rfl | (simp; done) | (simp [*]; done), by repeat (first | exact Drawn0.refl _ | apply Drawn0.step)⟩

end Go.Proofs.Ytnmccgjdnceheaa.PFnExactValWiden
