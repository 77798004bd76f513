/- Written by this session's own driver (wip/dprint.py): the functions that the law FnExactValIn reaches, as Lean functions, each with its contract. -/
import Derived.Test.YtnmccgjdnceheaaPFnExactValInx0
import Derived.Test.YtnmccgjdnceheaaPFnExactValInx3
import Derived.Test.YtnmccgjdnceheaaPFnExactValInx10
import Derived.Test.YtnmccgjdnceheaaPFnExactValInx11
import Derived.Test.YtnmccgjdnceheaaSq
namespace Go.Proofs.Ytnmccgjdnceheaa.PFnExactValIn
open Go.RowKit Go.Proofs.YtnmccgjdnceheaaW.PrintWords Go.Proofs.YtnmccgjdnceheaaW.PrintLast Go.Proofs.YtnmccgjdnceheaaW.PrintMore Go.Proofs.YtnmccgjdnceheaaSq
attribute [local go_sem] max2_int min2_int max_two min_two max_three min_three max_four min_four   -- for this text's walks alone
set_option linter.unusedVariables false
set_option linter.unusedSimpArgs false

attribute [local go_sem high] eqA90
/-! ### impl_RangeIn: function 71 -/
def impl_RangeIn.f (a0_0 : Int) (a0_1 : Int) (a1_0 : Int) (a1_1 : Int) : Option (Bool) := (impl_RangeOk.f a0_0 a0_1).bind fun t268 => (if t268 = true then ((impl_RangeOk.f a1_0 a1_1).bind fun t269 => (if t269 = true then ((impl_Range_empty.f a0_0 a0_1).bind fun t270 => (if t270 = true then (some true) else (if a1_0 ≤ a0_0 then (some (decide (a0_1 ≤ a1_1))) else (some false)))) else (some false))) else (some false))
set_option maxHeartbeats 8000000 in
set_option maxRecDepth 100000 in
theorem impl_RangeIn.calls (a0_0 : Int) (a0_1 : Int) (a1_0 : Int) (a1_1 : Int) (r : Bool) (w : World) (h : impl_RangeIn.f a0_0 a0_1 a1_0 a1_1 = some r) :
  Calls Try.prog 71 #[.agg #[.int .i64 a0_0, .int .i64 a0_1], .agg #[.int .i64 a1_0, .int .i64 a1_1]] w fun e w' => e = .returned (.bool r) ∧ Below w.heap.size w w' := by
 have hu86 := Try.underlying86
 have HB := Aside0.mk (Below.refl w.heap.size w)
 have H : ((impl_RangeOk.f a0_0 a0_1).bind fun t268 => (if t268 = true then ((impl_RangeOk.f a1_0 a1_1).bind fun t269 => (if t269 = true then ((impl_Range_empty.f a0_0 a0_1).bind fun t270 => (if t270 = true then (some true) else (if a1_0 ≤ a0_0 then (some (decide (a0_1 ≤ a1_1))) else (some false)))) else (some false))) else (some false))) = some r := h
 clear h
 replace H := Option.bind_eq_some_iff.mp H
 obtain ⟨t268, A30, H⟩ := H
 replace H : (if t268 = true then ((impl_RangeOk.f a1_0 a1_1).bind fun t269 => (if t269 = true then ((impl_Range_empty.f a0_0 a0_1).bind fun t270 => (if t270 = true then (some true) else (if a1_0 ≤ a0_0 then (some (decide (a0_1 ≤ a1_1))) else (some false)))) else (some false))) else (some false)) = some r := H
 have A3 := Aside0.mk A30
 clear A30
 by_cases c4 : t268 = true
 ·subst c4
  have H1 : ((impl_RangeOk.f a1_0 a1_1).bind fun t269 => (if t269 = true then ((impl_Range_empty.f a0_0 a0_1).bind fun t270 => (if t270 = true then (some true) else (if a1_0 ≤ a0_0 then (some (decide (a0_1 ≤ a1_1))) else (some false)))) else (some false))) = some r := by rw [if_pos rfl] at H; exact H
  clear H
  have H := H1
  clear H1
  replace H := Option.bind_eq_some_iff.mp H
  obtain ⟨t269, A50, H⟩ := H
  replace H : (if t269 = true then ((impl_Range_empty.f a0_0 a0_1).bind fun t270 => (if t270 = true then (some true) else (if a1_0 ≤ a0_0 then (some (decide (a0_1 ≤ a1_1))) else (some false)))) else (some false)) = some r := H
  have A5 := Aside0.mk A50
  clear A50
  by_cases c6 : t269 = true
  ·subst c6
   have H1 : ((impl_Range_empty.f a0_0 a0_1).bind fun t270 => (if t270 = true then (some true) else (if a1_0 ≤ a0_0 then (some (decide (a0_1 ≤ a1_1))) else (some false)))) = some r := by rw [if_pos rfl] at H; exact H
   clear H
   have H := H1
   clear H1
   replace H := Option.bind_eq_some_iff.mp H
   obtain ⟨t270, A70, H⟩ := H
   replace H : (if t270 = true then (some true) else (if a1_0 ≤ a0_0 then (some (decide (a0_1 ≤ a1_1))) else (some false))) = some r := H
   have A7 := Aside0.mk A70
   clear A70
   by_cases c8 : t270 = true
   ·subst c8
    have H1 : (some true) = some r := by rw [if_pos rfl] at H; exact H
    clear H
    have H := H1
    clear H1
    obtain rfl := Option.some.inj H
    go_enter Try.func71, Try.ntmps71
    go_wp2_with (first | ((with_reducible refine gate_dst (N := 2) rfl ?_); refine box_event ?hg (N := 2) ?hd (cs := #[.int .i64 a0_0, .int .i64 a0_1]) (t := 86) ?hr ?_; (case hd => rfl); (case hg => rfl); (case hr => first | (go_simp; done) | (go_simp; rfl)); intro gb266 hg w9 hbox hb; have n0_ := Aside0.mk (below_step (hz HB.out) hb); have n1_ := Aside0.mk (hbox); have n2_ := Aside0.mk ((by rw [hg]; exact (below_size (hz HB.out)) : w.heap.size ≤ gb266)); have n3_ := Aside0.mk ((by rw [hg]; exact (below_size (hz HB.out)) : w.heap.size ≤ gb266)); clear HB; have HB := n0_; have BK266 := n1_; have GW266 := n2_; have GE266 := n3_; clear n0_ n1_ n2_ n3_; clear hb hbox hg) | ((with_reducible refine gate_dst (N := 3) rfl ?_); refine box_event ?hg (N := 3) ?hd (cs := #[.int .i64 a1_0, .int .i64 a1_1]) (t := 86) ?hr ?_; (case hd => rfl); (case hg => rfl); (case hr => first | (go_simp; done) | (go_simp; rfl)); intro gb267 hg w10 hbox hb; have n0_ := Aside0.mk (blk_below (g := gb266) (o := .cells #[.int .i64 a0_0, .int .i64 a0_1] 86 (0, 0)) (bz BK266.out) hb); have n1_ := Aside0.mk (below_step (hz1 HB.out GE266.out) hb); have n2_ := Aside0.mk (hbox); have n3_ := Aside0.mk ((by rw [hg]; exact (below_size (hz1 HB.out GE266.out)) : w.heap.size ≤ gb267)); have n4_ := Aside0.mk ((by rw [hg]; exact (below_size (hz1 HB.out GE266.out)) : w.heap.size ≤ gb267)); have n5_ := Aside0.mk ((by rw [hg]; exact Nat.ne_of_lt (blk_lt (g := gb266) (o := .cells #[.int .i64 a0_0, .int .i64 a0_1] 86 (0, 0)) (bz BK266.out)) : gb266 ≠ gb267)); have n6_ := Aside0.mk ((by rw [hg]; exact Nat.ne_of_gt (blk_lt (g := gb266) (o := .cells #[.int .i64 a0_0, .int .i64 a0_1] 86 (0, 0)) (bz BK266.out)) : gb267 ≠ gb266)); clear BK266; clear HB; have BK266 := n0_; have HB := n1_; have BK267 := n2_; have GW267 := n3_; have GE267 := n4_; have NB266_267 := n5_; have NB267_266 := n6_; clear n0_ n1_ n2_ n3_ n4_ n5_ n6_; clear hb hbox hg; have hnb11 := NB266_267.out; have hnc11 := NB267_266.out; have hcz12_0 : w10.cell? ⟨gb266, 0, none⟩ = some (.int .i64 a0_0) := (blk_cell BK266.out 0).trans rfl; have hcz12_1 : w10.cell? ⟨gb266, 1, none⟩ = some (.int .i64 a0_1) := (blk_cell BK266.out 1).trans rfl; have hfz12_0 := blk_frozen BK266.out 0; have hfz12_1 := blk_frozen BK266.out 1) | ((with_reducible refine gate_callee (f := 120) rfl ?_); refine goesL_ (some 6) rfl rfl Try.func120 (by kernel_rfl) rfl #[.agg #[.int .i64 a0_0, .int .i64 a0_1]] rfl mz ?_; (with_reducible refine (impl_RangeOk.calls a0_0 a0_1 true _ A3.out).mono ?_); rintro e w13 ⟨rfl, hb⟩; refine ⟨_, rfl, ?_⟩; have n0_ := Aside0.mk (blk_below (g := gb266) (o := .cells #[.int .i64 a0_0, .int .i64 a0_1] 86 (0, 0)) (bz BK266.out) hb); have n1_ := Aside0.mk (blk_below (g := gb267) (o := .cells #[.int .i64 a1_0, .int .i64 a1_1] 86 (0, 0)) (bz BK267.out) hb); have n2_ := Aside0.mk (below_step (hz2 HB.out GE266.out GE267.out) hb); clear BK266; clear BK267; clear HB; have BK266 := n0_; have BK267 := n1_; have HB := n2_; clear n0_ n1_ n2_; (try clear hb); (try clear hb2); (try clear hk); (try clear hi); have hcz14_0 : w13.cell? ⟨gb267, 0, none⟩ = some (.int .i64 a1_0) := (blk_cell BK267.out 0).trans rfl; have hcz14_1 : w13.cell? ⟨gb267, 1, none⟩ = some (.int .i64 a1_1) := (blk_cell BK267.out 1).trans rfl; have hfz14_0 := blk_frozen BK267.out 0; have hfz14_1 := blk_frozen BK267.out 1) | (go_at_call 120; (with_reducible refine (impl_RangeOk.calls a1_0 a1_1 true _ A5.out).mono ?_); rintro e w15 ⟨rfl, hb⟩; have n0_ := Aside0.mk (blk_below (g := gb266) (o := .cells #[.int .i64 a0_0, .int .i64 a0_1] 86 (0, 0)) (bz BK266.out) hb); have n1_ := Aside0.mk (blk_below (g := gb267) (o := .cells #[.int .i64 a1_0, .int .i64 a1_1] 86 (0, 0)) (bz BK267.out) hb); have n2_ := Aside0.mk (below_step (hz2 HB.out GE266.out GE267.out) hb); clear BK266; clear BK267; clear HB; have BK266 := n0_; have BK267 := n1_; have HB := n2_; clear n0_ n1_ n2_; (try clear hb); (try clear hb2); (try clear hk); (try clear hi); have hcz16_0 : w15.cell? ⟨gb266, 0, none⟩ = some (.int .i64 a0_0) := (blk_cell BK266.out 0).trans rfl; have hcz16_1 : w15.cell? ⟨gb266, 1, none⟩ = some (.int .i64 a0_1) := (blk_cell BK266.out 1).trans rfl; have hfz16_0 := blk_frozen BK266.out 0; have hfz16_1 := blk_frozen BK266.out 1) | ((with_reducible refine gate_callee (f := 124) rfl ?_); refine goesL_ (some 14) rfl rfl Try.func124 (by kernel_rfl) rfl #[.agg #[.int .i64 a0_0, .int .i64 a0_1]] rfl mz ?_; (with_reducible refine (impl_Range_empty.calls a0_0 a0_1 true _ A7.out).mono ?_); rintro e w17 ⟨rfl, hb⟩; refine ⟨_, rfl, ?_⟩; have n0_ := Aside0.mk (blk_below (g := gb266) (o := .cells #[.int .i64 a0_0, .int .i64 a0_1] 86 (0, 0)) (bz BK266.out) hb); have n1_ := Aside0.mk (blk_below (g := gb267) (o := .cells #[.int .i64 a1_0, .int .i64 a1_1] 86 (0, 0)) (bz BK267.out) hb); have n2_ := Aside0.mk (below_step (hz2 HB.out GE266.out GE267.out) hb); clear BK266; clear BK267; clear HB; have BK266 := n0_; have BK267 := n1_; have HB := n2_; clear n0_ n1_ n2_; (try clear hb); (try clear hb2); (try clear hk); (try clear hi)))
    go_ret
    exact ⟨by first | rfl | (simp [errW_none, errW_some] <;> rfl) | (simp [*, errW_none, errW_some] <;> rfl), hz2 HB.out GE266.out GE267.out⟩
   ·replace c8 := Bool.eq_false_iff.mpr c8
    subst c8
    have H1 : (if a1_0 ≤ a0_0 then (some (decide (a0_1 ≤ a1_1))) else (some false)) = some r := by rw [if_neg (show ¬ (false = true) by decide)] at H; exact H
    clear H
    have H := H1
    clear H1
    by_cases c18 : a1_0 ≤ a0_0
    ·rw [if_pos c18] at H
     have c18b0 : decide (a1_0 ≤ a0_0) = true := decide_eq_true c18
     clear c18
     obtain rfl := Option.some.inj H
     go_enter Try.func71, Try.ntmps71
     go_wp2_with (first | ((with_reducible refine gate_dst (N := 2) rfl ?_); refine box_event ?hg (N := 2) ?hd (cs := #[.int .i64 a0_0, .int .i64 a0_1]) (t := 86) ?hr ?_; (case hd => rfl); (case hg => rfl); (case hr => first | (go_simp; done) | (go_simp; rfl)); intro gb266 hg w19 hbox hb; have n0_ := Aside0.mk (below_step (hz HB.out) hb); have n1_ := Aside0.mk (hbox); have n2_ := Aside0.mk ((by rw [hg]; exact (below_size (hz HB.out)) : w.heap.size ≤ gb266)); have n3_ := Aside0.mk ((by rw [hg]; exact (below_size (hz HB.out)) : w.heap.size ≤ gb266)); clear HB; have HB := n0_; have BK266 := n1_; have GW266 := n2_; have GE266 := n3_; clear n0_ n1_ n2_ n3_; clear hb hbox hg) | ((with_reducible refine gate_dst (N := 3) rfl ?_); refine box_event ?hg (N := 3) ?hd (cs := #[.int .i64 a1_0, .int .i64 a1_1]) (t := 86) ?hr ?_; (case hd => rfl); (case hg => rfl); (case hr => first | (go_simp; done) | (go_simp; rfl)); intro gb267 hg w20 hbox hb; have n0_ := Aside0.mk (blk_below (g := gb266) (o := .cells #[.int .i64 a0_0, .int .i64 a0_1] 86 (0, 0)) (bz BK266.out) hb); have n1_ := Aside0.mk (below_step (hz1 HB.out GE266.out) hb); have n2_ := Aside0.mk (hbox); have n3_ := Aside0.mk ((by rw [hg]; exact (below_size (hz1 HB.out GE266.out)) : w.heap.size ≤ gb267)); have n4_ := Aside0.mk ((by rw [hg]; exact (below_size (hz1 HB.out GE266.out)) : w.heap.size ≤ gb267)); have n5_ := Aside0.mk ((by rw [hg]; exact Nat.ne_of_lt (blk_lt (g := gb266) (o := .cells #[.int .i64 a0_0, .int .i64 a0_1] 86 (0, 0)) (bz BK266.out)) : gb266 ≠ gb267)); have n6_ := Aside0.mk ((by rw [hg]; exact Nat.ne_of_gt (blk_lt (g := gb266) (o := .cells #[.int .i64 a0_0, .int .i64 a0_1] 86 (0, 0)) (bz BK266.out)) : gb267 ≠ gb266)); clear BK266; clear HB; have BK266 := n0_; have HB := n1_; have BK267 := n2_; have GW267 := n3_; have GE267 := n4_; have NB266_267 := n5_; have NB267_266 := n6_; clear n0_ n1_ n2_ n3_ n4_ n5_ n6_; clear hb hbox hg; have hnb21 := NB266_267.out; have hnc21 := NB267_266.out; have hcz22_0 : w20.cell? ⟨gb266, 0, none⟩ = some (.int .i64 a0_0) := (blk_cell BK266.out 0).trans rfl; have hcz22_1 : w20.cell? ⟨gb266, 1, none⟩ = some (.int .i64 a0_1) := (blk_cell BK266.out 1).trans rfl; have hfz22_0 := blk_frozen BK266.out 0; have hfz22_1 := blk_frozen BK266.out 1) | ((with_reducible refine gate_callee (f := 120) rfl ?_); refine goesL_ (some 6) rfl rfl Try.func120 (by kernel_rfl) rfl #[.agg #[.int .i64 a0_0, .int .i64 a0_1]] rfl mz ?_; (with_reducible refine (impl_RangeOk.calls a0_0 a0_1 true _ A3.out).mono ?_); rintro e w23 ⟨rfl, hb⟩; refine ⟨_, rfl, ?_⟩; have n0_ := Aside0.mk (blk_below (g := gb266) (o := .cells #[.int .i64 a0_0, .int .i64 a0_1] 86 (0, 0)) (bz BK266.out) hb); have n1_ := Aside0.mk (blk_below (g := gb267) (o := .cells #[.int .i64 a1_0, .int .i64 a1_1] 86 (0, 0)) (bz BK267.out) hb); have n2_ := Aside0.mk (below_step (hz2 HB.out GE266.out GE267.out) hb); clear BK266; clear BK267; clear HB; have BK266 := n0_; have BK267 := n1_; have HB := n2_; clear n0_ n1_ n2_; (try clear hb); (try clear hb2); (try clear hk); (try clear hi); have hcz24_0 : w23.cell? ⟨gb267, 0, none⟩ = some (.int .i64 a1_0) := (blk_cell BK267.out 0).trans rfl; have hcz24_1 : w23.cell? ⟨gb267, 1, none⟩ = some (.int .i64 a1_1) := (blk_cell BK267.out 1).trans rfl; have hfz24_0 := blk_frozen BK267.out 0; have hfz24_1 := blk_frozen BK267.out 1) | (go_at_call 120; (with_reducible refine (impl_RangeOk.calls a1_0 a1_1 true _ A5.out).mono ?_); rintro e w25 ⟨rfl, hb⟩; have n0_ := Aside0.mk (blk_below (g := gb266) (o := .cells #[.int .i64 a0_0, .int .i64 a0_1] 86 (0, 0)) (bz BK266.out) hb); have n1_ := Aside0.mk (blk_below (g := gb267) (o := .cells #[.int .i64 a1_0, .int .i64 a1_1] 86 (0, 0)) (bz BK267.out) hb); have n2_ := Aside0.mk (below_step (hz2 HB.out GE266.out GE267.out) hb); clear BK266; clear BK267; clear HB; have BK266 := n0_; have BK267 := n1_; have HB := n2_; clear n0_ n1_ n2_; (try clear hb); (try clear hb2); (try clear hk); (try clear hi); have hcz26_0 : w25.cell? ⟨gb266, 0, none⟩ = some (.int .i64 a0_0) := (blk_cell BK266.out 0).trans rfl; have hcz26_1 : w25.cell? ⟨gb266, 1, none⟩ = some (.int .i64 a0_1) := (blk_cell BK266.out 1).trans rfl; have hfz26_0 := blk_frozen BK266.out 0; have hfz26_1 := blk_frozen BK266.out 1) | ((with_reducible refine gate_callee (f := 124) rfl ?_); refine goesL_ (some 14) rfl rfl Try.func124 (by kernel_rfl) rfl #[.agg #[.int .i64 a0_0, .int .i64 a0_1]] rfl mz ?_; (with_reducible refine (impl_Range_empty.calls a0_0 a0_1 false _ A7.out).mono ?_); rintro e w27 ⟨rfl, hb⟩; refine ⟨_, rfl, ?_⟩; have n0_ := Aside0.mk (blk_below (g := gb266) (o := .cells #[.int .i64 a0_0, .int .i64 a0_1] 86 (0, 0)) (bz BK266.out) hb); have n1_ := Aside0.mk (blk_below (g := gb267) (o := .cells #[.int .i64 a1_0, .int .i64 a1_1] 86 (0, 0)) (bz BK267.out) hb); have n2_ := Aside0.mk (below_step (hz2 HB.out GE266.out GE267.out) hb); clear BK266; clear BK267; clear HB; have BK266 := n0_; have BK267 := n1_; have HB := n2_; clear n0_ n1_ n2_; (try clear hb); (try clear hb2); (try clear hk); (try clear hi); have hcz28_0 : w27.cell? ⟨gb267, 0, none⟩ = some (.int .i64 a1_0) := (blk_cell BK267.out 0).trans rfl; have hcz28_1 : w27.cell? ⟨gb267, 1, none⟩ = some (.int .i64 a1_1) := (blk_cell BK267.out 1).trans rfl; have hfz28_0 := blk_frozen BK267.out 0; have hfz28_1 := blk_frozen BK267.out 1; have hcz29_0 : w27.cell? ⟨gb266, 0, none⟩ = some (.int .i64 a0_0) := (blk_cell BK266.out 0).trans rfl; have hcz29_1 : w27.cell? ⟨gb266, 1, none⟩ = some (.int .i64 a0_1) := (blk_cell BK266.out 1).trans rfl; have hfz29_0 := blk_frozen BK266.out 0; have hfz29_1 := blk_frozen BK266.out 1))
     go_ret
     exact ⟨by first | rfl | (simp [errW_none, errW_some] <;> rfl) | (simp [*, errW_none, errW_some] <;> rfl), hz2 HB.out GE266.out GE267.out⟩
    ·rw [if_neg c18] at H
     have c18b0 : decide (a1_0 ≤ a0_0) = false := decide_eq_false c18
     clear c18
     obtain rfl := Option.some.inj H
     go_enter Try.func71, Try.ntmps71
     go_wp2_with (first | ((with_reducible refine gate_dst (N := 2) rfl ?_); refine box_event ?hg (N := 2) ?hd (cs := #[.int .i64 a0_0, .int .i64 a0_1]) (t := 86) ?hr ?_; (case hd => rfl); (case hg => rfl); (case hr => first | (go_simp; done) | (go_simp; rfl)); intro gb266 hg w30 hbox hb; have n0_ := Aside0.mk (below_step (hz HB.out) hb); have n1_ := Aside0.mk (hbox); have n2_ := Aside0.mk ((by rw [hg]; exact (below_size (hz HB.out)) : w.heap.size ≤ gb266)); have n3_ := Aside0.mk ((by rw [hg]; exact (below_size (hz HB.out)) : w.heap.size ≤ gb266)); clear HB; have HB := n0_; have BK266 := n1_; have GW266 := n2_; have GE266 := n3_; clear n0_ n1_ n2_ n3_; clear hb hbox hg) | ((with_reducible refine gate_dst (N := 3) rfl ?_); refine box_event ?hg (N := 3) ?hd (cs := #[.int .i64 a1_0, .int .i64 a1_1]) (t := 86) ?hr ?_; (case hd => rfl); (case hg => rfl); (case hr => first | (go_simp; done) | (go_simp; rfl)); intro gb267 hg w31 hbox hb; have n0_ := Aside0.mk (blk_below (g := gb266) (o := .cells #[.int .i64 a0_0, .int .i64 a0_1] 86 (0, 0)) (bz BK266.out) hb); have n1_ := Aside0.mk (below_step (hz1 HB.out GE266.out) hb); have n2_ := Aside0.mk (hbox); have n3_ := Aside0.mk ((by rw [hg]; exact (below_size (hz1 HB.out GE266.out)) : w.heap.size ≤ gb267)); have n4_ := Aside0.mk ((by rw [hg]; exact (below_size (hz1 HB.out GE266.out)) : w.heap.size ≤ gb267)); have n5_ := Aside0.mk ((by rw [hg]; exact Nat.ne_of_lt (blk_lt (g := gb266) (o := .cells #[.int .i64 a0_0, .int .i64 a0_1] 86 (0, 0)) (bz BK266.out)) : gb266 ≠ gb267)); have n6_ := Aside0.mk ((by rw [hg]; exact Nat.ne_of_gt (blk_lt (g := gb266) (o := .cells #[.int .i64 a0_0, .int .i64 a0_1] 86 (0, 0)) (bz BK266.out)) : gb267 ≠ gb266)); clear BK266; clear HB; have BK266 := n0_; have HB := n1_; have BK267 := n2_; have GW267 := n3_; have GE267 := n4_; have NB266_267 := n5_; have NB267_266 := n6_; clear n0_ n1_ n2_ n3_ n4_ n5_ n6_; clear hb hbox hg; have hnb32 := NB266_267.out; have hnc32 := NB267_266.out; have hcz33_0 : w31.cell? ⟨gb266, 0, none⟩ = some (.int .i64 a0_0) := (blk_cell BK266.out 0).trans rfl; have hcz33_1 : w31.cell? ⟨gb266, 1, none⟩ = some (.int .i64 a0_1) := (blk_cell BK266.out 1).trans rfl; have hfz33_0 := blk_frozen BK266.out 0; have hfz33_1 := blk_frozen BK266.out 1) | ((with_reducible refine gate_callee (f := 120) rfl ?_); refine goesL_ (some 6) rfl rfl Try.func120 (by kernel_rfl) rfl #[.agg #[.int .i64 a0_0, .int .i64 a0_1]] rfl mz ?_; (with_reducible refine (impl_RangeOk.calls a0_0 a0_1 true _ A3.out).mono ?_); rintro e w34 ⟨rfl, hb⟩; refine ⟨_, rfl, ?_⟩; have n0_ := Aside0.mk (blk_below (g := gb266) (o := .cells #[.int .i64 a0_0, .int .i64 a0_1] 86 (0, 0)) (bz BK266.out) hb); have n1_ := Aside0.mk (blk_below (g := gb267) (o := .cells #[.int .i64 a1_0, .int .i64 a1_1] 86 (0, 0)) (bz BK267.out) hb); have n2_ := Aside0.mk (below_step (hz2 HB.out GE266.out GE267.out) hb); clear BK266; clear BK267; clear HB; have BK266 := n0_; have BK267 := n1_; have HB := n2_; clear n0_ n1_ n2_; (try clear hb); (try clear hb2); (try clear hk); (try clear hi); have hcz35_0 : w34.cell? ⟨gb267, 0, none⟩ = some (.int .i64 a1_0) := (blk_cell BK267.out 0).trans rfl; have hcz35_1 : w34.cell? ⟨gb267, 1, none⟩ = some (.int .i64 a1_1) := (blk_cell BK267.out 1).trans rfl; have hfz35_0 := blk_frozen BK267.out 0; have hfz35_1 := blk_frozen BK267.out 1) | (go_at_call 120; (with_reducible refine (impl_RangeOk.calls a1_0 a1_1 true _ A5.out).mono ?_); rintro e w36 ⟨rfl, hb⟩; have n0_ := Aside0.mk (blk_below (g := gb266) (o := .cells #[.int .i64 a0_0, .int .i64 a0_1] 86 (0, 0)) (bz BK266.out) hb); have n1_ := Aside0.mk (blk_below (g := gb267) (o := .cells #[.int .i64 a1_0, .int .i64 a1_1] 86 (0, 0)) (bz BK267.out) hb); have n2_ := Aside0.mk (below_step (hz2 HB.out GE266.out GE267.out) hb); clear BK266; clear BK267; clear HB; have BK266 := n0_; have BK267 := n1_; have HB := n2_; clear n0_ n1_ n2_; (try clear hb); (try clear hb2); (try clear hk); (try clear hi); have hcz37_0 : w36.cell? ⟨gb266, 0, none⟩ = some (.int .i64 a0_0) := (blk_cell BK266.out 0).trans rfl; have hcz37_1 : w36.cell? ⟨gb266, 1, none⟩ = some (.int .i64 a0_1) := (blk_cell BK266.out 1).trans rfl; have hfz37_0 := blk_frozen BK266.out 0; have hfz37_1 := blk_frozen BK266.out 1) | ((with_reducible refine gate_callee (f := 124) rfl ?_); refine goesL_ (some 14) rfl rfl Try.func124 (by kernel_rfl) rfl #[.agg #[.int .i64 a0_0, .int .i64 a0_1]] rfl mz ?_; (with_reducible refine (impl_Range_empty.calls a0_0 a0_1 false _ A7.out).mono ?_); rintro e w38 ⟨rfl, hb⟩; refine ⟨_, rfl, ?_⟩; have n0_ := Aside0.mk (blk_below (g := gb266) (o := .cells #[.int .i64 a0_0, .int .i64 a0_1] 86 (0, 0)) (bz BK266.out) hb); have n1_ := Aside0.mk (blk_below (g := gb267) (o := .cells #[.int .i64 a1_0, .int .i64 a1_1] 86 (0, 0)) (bz BK267.out) hb); have n2_ := Aside0.mk (below_step (hz2 HB.out GE266.out GE267.out) hb); clear BK266; clear BK267; clear HB; have BK266 := n0_; have BK267 := n1_; have HB := n2_; clear n0_ n1_ n2_; (try clear hb); (try clear hb2); (try clear hk); (try clear hi); have hcz39_0 : w38.cell? ⟨gb267, 0, none⟩ = some (.int .i64 a1_0) := (blk_cell BK267.out 0).trans rfl; have hcz39_1 : w38.cell? ⟨gb267, 1, none⟩ = some (.int .i64 a1_1) := (blk_cell BK267.out 1).trans rfl; have hfz39_0 := blk_frozen BK267.out 0; have hfz39_1 := blk_frozen BK267.out 1; have hcz40_0 : w38.cell? ⟨gb266, 0, none⟩ = some (.int .i64 a0_0) := (blk_cell BK266.out 0).trans rfl; have hcz40_1 : w38.cell? ⟨gb266, 1, none⟩ = some (.int .i64 a0_1) := (blk_cell BK266.out 1).trans rfl; have hfz40_0 := blk_frozen BK266.out 0; have hfz40_1 := blk_frozen BK266.out 1))
     go_ret
     exact ⟨by first | rfl | (simp [errW_none, errW_some] <;> rfl) | (simp [*, errW_none, errW_some] <;> rfl), hz2 HB.out GE266.out GE267.out⟩
  ·replace c6 := Bool.eq_false_iff.mpr c6
   subst c6
   have H1 : (some false) = some r := by rw [if_neg (show ¬ (false = true) by decide)] at H; exact H
   clear H
   have H := H1
   clear H1
   obtain rfl := Option.some.inj H
   go_enter Try.func71, Try.ntmps71
   go_wp2_with (first | ((with_reducible refine gate_dst (N := 2) rfl ?_); refine box_event ?hg (N := 2) ?hd (cs := #[.int .i64 a0_0, .int .i64 a0_1]) (t := 86) ?hr ?_; (case hd => rfl); (case hg => rfl); (case hr => first | (go_simp; done) | (go_simp; rfl)); intro gb266 hg w41 hbox hb; have n0_ := Aside0.mk (below_step (hz HB.out) hb); have n1_ := Aside0.mk (hbox); have n2_ := Aside0.mk ((by rw [hg]; exact (below_size (hz HB.out)) : w.heap.size ≤ gb266)); have n3_ := Aside0.mk ((by rw [hg]; exact (below_size (hz HB.out)) : w.heap.size ≤ gb266)); clear HB; have HB := n0_; have BK266 := n1_; have GW266 := n2_; have GE266 := n3_; clear n0_ n1_ n2_ n3_; clear hb hbox hg) | ((with_reducible refine gate_dst (N := 3) rfl ?_); refine box_event ?hg (N := 3) ?hd (cs := #[.int .i64 a1_0, .int .i64 a1_1]) (t := 86) ?hr ?_; (case hd => rfl); (case hg => rfl); (case hr => first | (go_simp; done) | (go_simp; rfl)); intro gb267 hg w42 hbox hb; have n0_ := Aside0.mk (blk_below (g := gb266) (o := .cells #[.int .i64 a0_0, .int .i64 a0_1] 86 (0, 0)) (bz BK266.out) hb); have n1_ := Aside0.mk (below_step (hz1 HB.out GE266.out) hb); have n2_ := Aside0.mk (hbox); have n3_ := Aside0.mk ((by rw [hg]; exact (below_size (hz1 HB.out GE266.out)) : w.heap.size ≤ gb267)); have n4_ := Aside0.mk ((by rw [hg]; exact (below_size (hz1 HB.out GE266.out)) : w.heap.size ≤ gb267)); have n5_ := Aside0.mk ((by rw [hg]; exact Nat.ne_of_lt (blk_lt (g := gb266) (o := .cells #[.int .i64 a0_0, .int .i64 a0_1] 86 (0, 0)) (bz BK266.out)) : gb266 ≠ gb267)); have n6_ := Aside0.mk ((by rw [hg]; exact Nat.ne_of_gt (blk_lt (g := gb266) (o := .cells #[.int .i64 a0_0, .int .i64 a0_1] 86 (0, 0)) (bz BK266.out)) : gb267 ≠ gb266)); clear BK266; clear HB; have BK266 := n0_; have HB := n1_; have BK267 := n2_; have GW267 := n3_; have GE267 := n4_; have NB266_267 := n5_; have NB267_266 := n6_; clear n0_ n1_ n2_ n3_ n4_ n5_ n6_; clear hb hbox hg; have hnb43 := NB266_267.out; have hnc43 := NB267_266.out; have hcz44_0 : w42.cell? ⟨gb266, 0, none⟩ = some (.int .i64 a0_0) := (blk_cell BK266.out 0).trans rfl; have hcz44_1 : w42.cell? ⟨gb266, 1, none⟩ = some (.int .i64 a0_1) := (blk_cell BK266.out 1).trans rfl; have hfz44_0 := blk_frozen BK266.out 0; have hfz44_1 := blk_frozen BK266.out 1) | ((with_reducible refine gate_callee (f := 120) rfl ?_); refine goesL_ (some 6) rfl rfl Try.func120 (by kernel_rfl) rfl #[.agg #[.int .i64 a0_0, .int .i64 a0_1]] rfl mz ?_; (with_reducible refine (impl_RangeOk.calls a0_0 a0_1 true _ A3.out).mono ?_); rintro e w45 ⟨rfl, hb⟩; refine ⟨_, rfl, ?_⟩; have n0_ := Aside0.mk (blk_below (g := gb266) (o := .cells #[.int .i64 a0_0, .int .i64 a0_1] 86 (0, 0)) (bz BK266.out) hb); have n1_ := Aside0.mk (blk_below (g := gb267) (o := .cells #[.int .i64 a1_0, .int .i64 a1_1] 86 (0, 0)) (bz BK267.out) hb); have n2_ := Aside0.mk (below_step (hz2 HB.out GE266.out GE267.out) hb); clear BK266; clear BK267; clear HB; have BK266 := n0_; have BK267 := n1_; have HB := n2_; clear n0_ n1_ n2_; (try clear hb); (try clear hb2); (try clear hk); (try clear hi); have hcz46_0 : w45.cell? ⟨gb267, 0, none⟩ = some (.int .i64 a1_0) := (blk_cell BK267.out 0).trans rfl; have hcz46_1 : w45.cell? ⟨gb267, 1, none⟩ = some (.int .i64 a1_1) := (blk_cell BK267.out 1).trans rfl; have hfz46_0 := blk_frozen BK267.out 0; have hfz46_1 := blk_frozen BK267.out 1) | (go_at_call 120; (with_reducible refine (impl_RangeOk.calls a1_0 a1_1 false _ A5.out).mono ?_); rintro e w47 ⟨rfl, hb⟩; have n0_ := Aside0.mk (blk_below (g := gb266) (o := .cells #[.int .i64 a0_0, .int .i64 a0_1] 86 (0, 0)) (bz BK266.out) hb); have n1_ := Aside0.mk (blk_below (g := gb267) (o := .cells #[.int .i64 a1_0, .int .i64 a1_1] 86 (0, 0)) (bz BK267.out) hb); have n2_ := Aside0.mk (below_step (hz2 HB.out GE266.out GE267.out) hb); clear BK266; clear BK267; clear HB; have BK266 := n0_; have BK267 := n1_; have HB := n2_; clear n0_ n1_ n2_; (try clear hb); (try clear hb2); (try clear hk); (try clear hi)))
   go_ret
   exact ⟨by first | rfl | (simp [errW_none, errW_some] <;> rfl) | (simp [*, errW_none, errW_some] <;> rfl), hz2 HB.out GE266.out GE267.out⟩
 ·replace c4 := Bool.eq_false_iff.mpr c4
  subst c4
  have H1 : (some false) = some r := by rw [if_neg (show ¬ (false = true) by decide)] at H; exact H
  clear H
  have H := H1
  clear H1
  obtain rfl := Option.some.inj H
  go_enter Try.func71, Try.ntmps71
  go_wp2_with (first | ((with_reducible refine gate_dst (N := 2) rfl ?_); refine box_event ?hg (N := 2) ?hd (cs := #[.int .i64 a0_0, .int .i64 a0_1]) (t := 86) ?hr ?_; (case hd => rfl); (case hg => rfl); (case hr => first | (go_simp; done) | (go_simp; rfl)); intro gb266 hg w48 hbox hb; have n0_ := Aside0.mk (below_step (hz HB.out) hb); have n1_ := Aside0.mk (hbox); have n2_ := Aside0.mk ((by rw [hg]; exact (below_size (hz HB.out)) : w.heap.size ≤ gb266)); have n3_ := Aside0.mk ((by rw [hg]; exact (below_size (hz HB.out)) : w.heap.size ≤ gb266)); clear HB; have HB := n0_; have BK266 := n1_; have GW266 := n2_; have GE266 := n3_; clear n0_ n1_ n2_ n3_; clear hb hbox hg) | ((with_reducible refine gate_dst (N := 3) rfl ?_); refine box_event ?hg (N := 3) ?hd (cs := #[.int .i64 a1_0, .int .i64 a1_1]) (t := 86) ?hr ?_; (case hd => rfl); (case hg => rfl); (case hr => first | (go_simp; done) | (go_simp; rfl)); intro gb267 hg w49 hbox hb; have n0_ := Aside0.mk (blk_below (g := gb266) (o := .cells #[.int .i64 a0_0, .int .i64 a0_1] 86 (0, 0)) (bz BK266.out) hb); have n1_ := Aside0.mk (below_step (hz1 HB.out GE266.out) hb); have n2_ := Aside0.mk (hbox); have n3_ := Aside0.mk ((by rw [hg]; exact (below_size (hz1 HB.out GE266.out)) : w.heap.size ≤ gb267)); have n4_ := Aside0.mk ((by rw [hg]; exact (below_size (hz1 HB.out GE266.out)) : w.heap.size ≤ gb267)); have n5_ := Aside0.mk ((by rw [hg]; exact Nat.ne_of_lt (blk_lt (g := gb266) (o := .cells #[.int .i64 a0_0, .int .i64 a0_1] 86 (0, 0)) (bz BK266.out)) : gb266 ≠ gb267)); have n6_ := Aside0.mk ((by rw [hg]; exact Nat.ne_of_gt (blk_lt (g := gb266) (o := .cells #[.int .i64 a0_0, .int .i64 a0_1] 86 (0, 0)) (bz BK266.out)) : gb267 ≠ gb266)); clear BK266; clear HB; have BK266 := n0_; have HB := n1_; have BK267 := n2_; have GW267 := n3_; have GE267 := n4_; have NB266_267 := n5_; have NB267_266 := n6_; clear n0_ n1_ n2_ n3_ n4_ n5_ n6_; clear hb hbox hg; have hnb50 := NB266_267.out; have hnc50 := NB267_266.out; have hcz51_0 : w49.cell? ⟨gb266, 0, none⟩ = some (.int .i64 a0_0) := (blk_cell BK266.out 0).trans rfl; have hcz51_1 : w49.cell? ⟨gb266, 1, none⟩ = some (.int .i64 a0_1) := (blk_cell BK266.out 1).trans rfl; have hfz51_0 := blk_frozen BK266.out 0; have hfz51_1 := blk_frozen BK266.out 1) | ((with_reducible refine gate_callee (f := 120) rfl ?_); refine goesL_ (some 6) rfl rfl Try.func120 (by kernel_rfl) rfl #[.agg #[.int .i64 a0_0, .int .i64 a0_1]] rfl mz ?_; (with_reducible refine (impl_RangeOk.calls a0_0 a0_1 false _ A3.out).mono ?_); rintro e w52 ⟨rfl, hb⟩; refine ⟨_, rfl, ?_⟩; have n0_ := Aside0.mk (blk_below (g := gb266) (o := .cells #[.int .i64 a0_0, .int .i64 a0_1] 86 (0, 0)) (bz BK266.out) hb); have n1_ := Aside0.mk (blk_below (g := gb267) (o := .cells #[.int .i64 a1_0, .int .i64 a1_1] 86 (0, 0)) (bz BK267.out) hb); have n2_ := Aside0.mk (below_step (hz2 HB.out GE266.out GE267.out) hb); clear BK266; clear BK267; clear HB; have BK266 := n0_; have BK267 := n1_; have HB := n2_; clear n0_ n1_ n2_; (try clear hb); (try clear hb2); (try clear hk); (try clear hi)))
  go_ret
  exact ⟨by first | rfl | (simp [errW_none, errW_some] <;> rfl) | (simp [*, errW_none, errW_some] <;> rfl), hz2 HB.out GE266.out GE267.out⟩

/-! ### impl_RestIn: function 72 -/
def impl_RestIn.j0 : Nat → Bool → Int → Int → Int → Int → Option (Bool)
 | 0, _, _, _, _, _ => none
 | k + 1, x12, x272000, x272001, x273000, x273001 => if x12 = true then (some false) else (if x273000 = 0 then (some (x272000 == x273000 && (x272001 == x273001))) else (if (Int.tmod x272000 x273000) = 0 then ((impl_restMod.f x272001 x273000).bind fun t275 => (some (t275 == x273001))) else (some false)))
def impl_RestIn.f (k : Nat) (a0_0 : Int) (a0_1 : Int) (a1_0 : Int) (a1_1 : Int) : Option (Bool) := (impl_RestOk.f a0_0 a0_1).bind fun t273 => (if t273 = true then ((impl_RestOk.f a1_0 a1_1).bind fun t274 => (impl_RestIn.j0 k (!t274) a0_0 a0_1 a1_0 a1_1)) else (impl_RestIn.j0 k true a0_0 a0_1 a1_0 a1_1))
theorem impl_RestIn.mono_l : ∀ k, (∀ y0 y1 y2 y3 y4, LeO (impl_RestIn.j0 k y0 y1 y2 y3 y4) (impl_RestIn.j0 (k + 1) y0 y1 y2 y3 y4))
 | 0 => fun _ _ _ _ _ r h => by simp [impl_RestIn.j0] at h
 | k + 1 => by
  have ih0 := impl_RestIn.mono_l k
  ·intro y0 y1 y2 y3 y4
   unfold impl_RestIn.j0
   repeat' first
   | (with_reducible exact ih0 _ _ _ _ _)
   | (with_reducible exact LeO.refl _)
   | (with_reducible exact LeO.none _)
   | (with_reducible refine LeO.ite ?_ ?_)
   | (with_reducible refine LeO.bind ?_ (fun _ => ?_))
   | exact ih0 _ _ _ _ _
   | exact LeO.none _
   | refine LeO.ite ?_ ?_
   | refine LeO.bind ?_ (fun _ => ?_)
theorem impl_RestIn.mono : ∀ a0 a1 a2 a3 k, LeO (impl_RestIn.f k a0 a1 a2 a3) (impl_RestIn.f (k + 1) a0 a1 a2 a3) := by
 intro a0 a1 a2 a3 k
 have ih0 := impl_RestIn.mono_l k
 unfold impl_RestIn.f
 repeat' first
   | (with_reducible exact ih0 _ _ _ _ _)
   | (with_reducible exact LeO.refl _)
   | (with_reducible exact LeO.none _)
   | (with_reducible refine LeO.ite ?_ ?_)
   | (with_reducible refine LeO.bind ?_ (fun _ => ?_))
   | exact ih0 _ _ _ _ _
   | exact LeO.none _
   | refine LeO.ite ?_ ?_
   | refine LeO.bind ?_ (fun _ => ?_)
set_option maxHeartbeats 8000000 in
set_option maxRecDepth 100000 in
theorem impl_RestIn.calls (k : Nat) (a0_0 : Int) (a0_1 : Int) (a1_0 : Int) (a1_1 : Int) (r : Bool) (w : World) (h : impl_RestIn.f k a0_0 a0_1 a1_0 a1_1 = some r) :
  Calls Try.prog 72 #[.agg #[.int .i64 a0_0, .int .i64 a0_1], .agg #[.int .i64 a1_0, .int .i64 a1_1]] w fun e w' => e = .returned (.bool r) ∧ Below w.heap.size w w' := by
 have hu90 := Try.underlying90
 have HB := Aside0.mk (Below.refl w.heap.size w)
 have H : ((impl_RestOk.f a0_0 a0_1).bind fun t273 => (if t273 = true then ((impl_RestOk.f a1_0 a1_1).bind fun t274 => (impl_RestIn.j0 k (!t274) a0_0 a0_1 a1_0 a1_1)) else (impl_RestIn.j0 k true a0_0 a0_1 a1_0 a1_1))) = some r := h
 clear h
 have HC3 := Aside0.mk H
 clear H
 go_enter Try.func72, Try.ntmps72
 go_upto_region 1 with (first | ((with_reducible refine gate_dst (N := 2) rfl ?_); refine box_event ?hg (N := 2) ?hd (cs := #[.int .i64 a0_0, .int .i64 a0_1]) (t := 90) ?hr ?_; (case hd => rfl); (case hg => rfl); (case hr => first | (go_simp; done) | (go_simp; rfl)); intro gb271 hg w4 hbox hb; have n0_ := Aside0.mk (below_step (hz HB.out) hb); have n1_ := Aside0.mk (hbox); have n2_ := Aside0.mk ((by rw [hg]; exact (below_size (hz HB.out)) : w.heap.size ≤ gb271)); have n3_ := Aside0.mk ((by rw [hg]; exact (below_size (hz HB.out)) : w.heap.size ≤ gb271)); clear HB; have HB := n0_; have BK271 := n1_; have GW271 := n2_; have GE271 := n3_; clear n0_ n1_ n2_ n3_; clear hb hbox hg) | ((with_reducible refine gate_dst (N := 3) rfl ?_); refine box_event ?hg (N := 3) ?hd (cs := #[.int .i64 a1_0, .int .i64 a1_1]) (t := 90) ?hr ?_; (case hd => rfl); (case hg => rfl); (case hr => first | (go_simp; done) | (go_simp; rfl)); intro gb272 hg w5 hbox hb; have n0_ := Aside0.mk (blk_below (g := gb271) (o := .cells #[.int .i64 a0_0, .int .i64 a0_1] 90 (0, 0)) (bz BK271.out) hb); have n1_ := Aside0.mk (below_step (hz1 HB.out GE271.out) hb); have n2_ := Aside0.mk (hbox); have n3_ := Aside0.mk ((by rw [hg]; exact (below_size (hz1 HB.out GE271.out)) : w.heap.size ≤ gb272)); have n4_ := Aside0.mk ((by rw [hg]; exact (below_size (hz1 HB.out GE271.out)) : w.heap.size ≤ gb272)); have n5_ := Aside0.mk ((by rw [hg]; exact Nat.ne_of_lt (blk_lt (g := gb271) (o := .cells #[.int .i64 a0_0, .int .i64 a0_1] 90 (0, 0)) (bz BK271.out)) : gb271 ≠ gb272)); have n6_ := Aside0.mk ((by rw [hg]; exact Nat.ne_of_gt (blk_lt (g := gb271) (o := .cells #[.int .i64 a0_0, .int .i64 a0_1] 90 (0, 0)) (bz BK271.out)) : gb272 ≠ gb271)); clear BK271; clear HB; have BK271 := n0_; have HB := n1_; have BK272 := n2_; have GW272 := n3_; have GE272 := n4_; have NB271_272 := n5_; have NB272_271 := n6_; clear n0_ n1_ n2_ n3_ n4_ n5_ n6_; clear hb hbox hg))
 repeat (go_quiet (first | ((with_reducible refine gate_dst (N := 2) rfl ?_); refine box_event ?hg (N := 2) ?hd (cs := #[.int .i64 a0_0, .int .i64 a0_1]) (t := 90) ?hr ?_; (case hd => rfl); (case hg => rfl); (case hr => first | (go_simp; done) | (go_simp; rfl)); intro gb271 hg w4 hbox hb; have n0_ := Aside0.mk (below_step (hz HB.out) hb); have n1_ := Aside0.mk (hbox); have n2_ := Aside0.mk ((by rw [hg]; exact (below_size (hz HB.out)) : w.heap.size ≤ gb271)); have n3_ := Aside0.mk ((by rw [hg]; exact (below_size (hz HB.out)) : w.heap.size ≤ gb271)); clear HB; have HB := n0_; have BK271 := n1_; have GW271 := n2_; have GE271 := n3_; clear n0_ n1_ n2_ n3_; clear hb hbox hg) | ((with_reducible refine gate_dst (N := 3) rfl ?_); refine box_event ?hg (N := 3) ?hd (cs := #[.int .i64 a1_0, .int .i64 a1_1]) (t := 90) ?hr ?_; (case hd => rfl); (case hg => rfl); (case hr => first | (go_simp; done) | (go_simp; rfl)); intro gb272 hg w5 hbox hb; have n0_ := Aside0.mk (blk_below (g := gb271) (o := .cells #[.int .i64 a0_0, .int .i64 a0_1] 90 (0, 0)) (bz BK271.out) hb); have n1_ := Aside0.mk (below_step (hz1 HB.out GE271.out) hb); have n2_ := Aside0.mk (hbox); have n3_ := Aside0.mk ((by rw [hg]; exact (below_size (hz1 HB.out GE271.out)) : w.heap.size ≤ gb272)); have n4_ := Aside0.mk ((by rw [hg]; exact (below_size (hz1 HB.out GE271.out)) : w.heap.size ≤ gb272)); have n5_ := Aside0.mk ((by rw [hg]; exact Nat.ne_of_lt (blk_lt (g := gb271) (o := .cells #[.int .i64 a0_0, .int .i64 a0_1] 90 (0, 0)) (bz BK271.out)) : gb271 ≠ gb272)); have n6_ := Aside0.mk ((by rw [hg]; exact Nat.ne_of_gt (blk_lt (g := gb271) (o := .cells #[.int .i64 a0_0, .int .i64 a0_1] 90 (0, 0)) (bz BK271.out)) : gb272 ≠ gb271)); clear BK271; clear HB; have BK271 := n0_; have HB := n1_; have BK272 := n2_; have GW272 := n3_; have GE272 := n4_; have NB271_272 := n5_; have NB272_271 := n6_; clear n0_ n1_ n2_ n3_ n4_ n5_ n6_; clear hb hbox hg)); go_upto_region 1 with (first | ((with_reducible refine gate_dst (N := 2) rfl ?_); refine box_event ?hg (N := 2) ?hd (cs := #[.int .i64 a0_0, .int .i64 a0_1]) (t := 90) ?hr ?_; (case hd => rfl); (case hg => rfl); (case hr => first | (go_simp; done) | (go_simp; rfl)); intro gb271 hg w4 hbox hb; have n0_ := Aside0.mk (below_step (hz HB.out) hb); have n1_ := Aside0.mk (hbox); have n2_ := Aside0.mk ((by rw [hg]; exact (below_size (hz HB.out)) : w.heap.size ≤ gb271)); have n3_ := Aside0.mk ((by rw [hg]; exact (below_size (hz HB.out)) : w.heap.size ≤ gb271)); clear HB; have HB := n0_; have BK271 := n1_; have GW271 := n2_; have GE271 := n3_; clear n0_ n1_ n2_ n3_; clear hb hbox hg) | ((with_reducible refine gate_dst (N := 3) rfl ?_); refine box_event ?hg (N := 3) ?hd (cs := #[.int .i64 a1_0, .int .i64 a1_1]) (t := 90) ?hr ?_; (case hd => rfl); (case hg => rfl); (case hr => first | (go_simp; done) | (go_simp; rfl)); intro gb272 hg w5 hbox hb; have n0_ := Aside0.mk (blk_below (g := gb271) (o := .cells #[.int .i64 a0_0, .int .i64 a0_1] 90 (0, 0)) (bz BK271.out) hb); have n1_ := Aside0.mk (below_step (hz1 HB.out GE271.out) hb); have n2_ := Aside0.mk (hbox); have n3_ := Aside0.mk ((by rw [hg]; exact (below_size (hz1 HB.out GE271.out)) : w.heap.size ≤ gb272)); have n4_ := Aside0.mk ((by rw [hg]; exact (below_size (hz1 HB.out GE271.out)) : w.heap.size ≤ gb272)); have n5_ := Aside0.mk ((by rw [hg]; exact Nat.ne_of_lt (blk_lt (g := gb271) (o := .cells #[.int .i64 a0_0, .int .i64 a0_1] 90 (0, 0)) (bz BK271.out)) : gb271 ≠ gb272)); have n6_ := Aside0.mk ((by rw [hg]; exact Nat.ne_of_gt (blk_lt (g := gb271) (o := .cells #[.int .i64 a0_0, .int .i64 a0_1] 90 (0, 0)) (bz BK271.out)) : gb272 ≠ gb271)); clear BK271; clear HB; have BK271 := n0_; have HB := n1_; have BK272 := n2_; have GW272 := n3_; have GE272 := n4_; have NB271_272 := n5_; have NB272_271 := n6_; clear n0_ n1_ n2_ n3_ n4_ n5_ n6_; clear hb hbox hg)))
 (try simp only [Act.put, List.setIfInBounds_toArray, List.set_cons_zero, List.set_cons_succ])
 go_cut [12] (fun v12 wc => ∃ (kq : Nat) (x12_2 : Bool), v12 = .bool x12_2 ∧ Aside0 (impl_RestIn.j0 kq x12_2 a0_0 a0_1 a1_0 a1_1 = some r) ∧ Aside0 (kq ≤ k) ∧ Aside0 (wc.heap[gb271]? = some (.cells #[.int .i64 a0_0, .int .i64 a0_1] 90 (0, 0))) ∧ Aside0 (wc.heap[gb272]? = some (.cells #[.int .i64 a1_0, .int .i64 a1_1] 90 (0, 0))) ∧ Aside0 (Below w.heap.size w wc))
 case first =>
  have H := HC3.out
  clear HC3
  replace H := Option.bind_eq_some_iff.mp H
  obtain ⟨t273, A60, H⟩ := H
  replace H : (if t273 = true then ((impl_RestOk.f a1_0 a1_1).bind fun t274 => (impl_RestIn.j0 k (!t274) a0_0 a0_1 a1_0 a1_1)) else (impl_RestIn.j0 k true a0_0 a0_1 a1_0 a1_1)) = some r := H
  have A6 := Aside0.mk A60
  clear A60
  by_cases c7 : t273 = true
  ·subst c7
   have H1 : ((impl_RestOk.f a1_0 a1_1).bind fun t274 => (impl_RestIn.j0 k (!t274) a0_0 a0_1 a1_0 a1_1)) = some r := by rw [if_pos rfl] at H; exact H
   clear H
   have H := H1
   clear H1
   replace H := Option.bind_eq_some_iff.mp H
   obtain ⟨t274, A80, H⟩ := H
   replace H : (impl_RestIn.j0 k (!t274) a0_0 a0_1 a1_0 a1_1) = some r := H
   have A8 := Aside0.mk A80
   clear A80
   have H' := Aside0.mk H
   clear H
   have hnb9 := NB271_272.out
   have hnc9 := NB272_271.out
   have hcz10_0 : w5.cell? ⟨gb271, 0, none⟩ = some (.int .i64 a0_0) := (blk_cell BK271.out 0).trans rfl
   have hcz10_1 : w5.cell? ⟨gb271, 1, none⟩ = some (.int .i64 a0_1) := (blk_cell BK271.out 1).trans rfl
   have hfz10_0 := blk_frozen BK271.out 0
   have hfz10_1 := blk_frozen BK271.out 1
   go_wp2_with (first | (go_at_call 121; (with_reducible refine (impl_RestOk.calls a0_0 a0_1 true _ A6.out).mono ?_); rintro e w11 ⟨rfl, hb⟩; have n0_ := Aside0.mk (blk_below (g := gb271) (o := .cells #[.int .i64 a0_0, .int .i64 a0_1] 90 (0, 0)) (bz BK271.out) hb); have n1_ := Aside0.mk (blk_below (g := gb272) (o := .cells #[.int .i64 a1_0, .int .i64 a1_1] 90 (0, 0)) (bz BK272.out) hb); have n2_ := Aside0.mk (below_step (hz2 HB.out GE271.out GE272.out) hb); clear BK271; clear BK272; clear HB; have BK271 := n0_; have BK272 := n1_; have HB := n2_; clear n0_ n1_ n2_; (try clear hb); (try clear hb2); (try clear hk); (try clear hi); have hcz12_0 : w11.cell? ⟨gb272, 0, none⟩ = some (.int .i64 a1_0) := (blk_cell BK272.out 0).trans rfl; have hcz12_1 : w11.cell? ⟨gb272, 1, none⟩ = some (.int .i64 a1_1) := (blk_cell BK272.out 1).trans rfl; have hfz12_0 := blk_frozen BK272.out 0; have hfz12_1 := blk_frozen BK272.out 1) | (go_at_call 121; (with_reducible refine (impl_RestOk.calls a1_0 a1_1 t274 _ A8.out).mono ?_); rintro e w13 ⟨rfl, hb⟩; have n0_ := Aside0.mk (blk_below (g := gb271) (o := .cells #[.int .i64 a0_0, .int .i64 a0_1] 90 (0, 0)) (bz BK271.out) hb); have n1_ := Aside0.mk (blk_below (g := gb272) (o := .cells #[.int .i64 a1_0, .int .i64 a1_1] 90 (0, 0)) (bz BK272.out) hb); have n2_ := Aside0.mk (below_step (hz2 HB.out GE271.out GE272.out) hb); clear BK271; clear BK272; clear HB; have BK271 := n0_; have BK272 := n1_; have HB := n2_; clear n0_ n1_ n2_; (try clear hb); (try clear hb2); (try clear hk); (try clear hi)))
   try have hcz12_0 : w11.cell? ⟨gb272, 0, none⟩ = some (.int .i64 a1_0) := (blk_cell BK272.out 0).trans rfl
   try have hcz12_1 : w11.cell? ⟨gb272, 1, none⟩ = some (.int .i64 a1_1) := (blk_cell BK272.out 1).trans rfl
   try have hfz12_0 := blk_frozen BK272.out 0
   try have hfz12_1 := blk_frozen BK272.out 1
   repeat (go_quiet (first | (go_at_call 121; (with_reducible refine (impl_RestOk.calls a0_0 a0_1 true _ A6.out).mono ?_); rintro e w11 ⟨rfl, hb⟩; have n0_ := Aside0.mk (blk_below (g := gb271) (o := .cells #[.int .i64 a0_0, .int .i64 a0_1] 90 (0, 0)) (bz BK271.out) hb); have n1_ := Aside0.mk (blk_below (g := gb272) (o := .cells #[.int .i64 a1_0, .int .i64 a1_1] 90 (0, 0)) (bz BK272.out) hb); have n2_ := Aside0.mk (below_step (hz2 HB.out GE271.out GE272.out) hb); clear BK271; clear BK272; clear HB; have BK271 := n0_; have BK272 := n1_; have HB := n2_; clear n0_ n1_ n2_; (try clear hb); (try clear hb2); (try clear hk); (try clear hi); (try (have hcz12_0 : w11.cell? ⟨gb272, 0, none⟩ = some (.int .i64 a1_0) := (blk_cell BK272.out 0).trans rfl; have hcz12_1 : w11.cell? ⟨gb272, 1, none⟩ = some (.int .i64 a1_1) := (blk_cell BK272.out 1).trans rfl; have hfz12_0 := blk_frozen BK272.out 0; have hfz12_1 := blk_frozen BK272.out 1))) | (go_at_call 121; (with_reducible refine (impl_RestOk.calls a1_0 a1_1 t274 _ A8.out).mono ?_); rintro e w13 ⟨rfl, hb⟩; have n0_ := Aside0.mk (blk_below (g := gb271) (o := .cells #[.int .i64 a0_0, .int .i64 a0_1] 90 (0, 0)) (bz BK271.out) hb); have n1_ := Aside0.mk (blk_below (g := gb272) (o := .cells #[.int .i64 a1_0, .int .i64 a1_1] 90 (0, 0)) (bz BK272.out) hb); have n2_ := Aside0.mk (below_step (hz2 HB.out GE271.out GE272.out) hb); clear BK271; clear BK272; clear HB; have BK271 := n0_; have BK272 := n1_; have HB := n2_; clear n0_ n1_ n2_; (try clear hb); (try clear hb2); (try clear hk); (try clear hi))); try go_wp2_with (first | (go_at_call 121; (with_reducible refine (impl_RestOk.calls a0_0 a0_1 true _ A6.out).mono ?_); rintro e w11 ⟨rfl, hb⟩; have n0_ := Aside0.mk (blk_below (g := gb271) (o := .cells #[.int .i64 a0_0, .int .i64 a0_1] 90 (0, 0)) (bz BK271.out) hb); have n1_ := Aside0.mk (blk_below (g := gb272) (o := .cells #[.int .i64 a1_0, .int .i64 a1_1] 90 (0, 0)) (bz BK272.out) hb); have n2_ := Aside0.mk (below_step (hz2 HB.out GE271.out GE272.out) hb); clear BK271; clear BK272; clear HB; have BK271 := n0_; have BK272 := n1_; have HB := n2_; clear n0_ n1_ n2_; (try clear hb); (try clear hb2); (try clear hk); (try clear hi); (try (have hcz12_0 : w11.cell? ⟨gb272, 0, none⟩ = some (.int .i64 a1_0) := (blk_cell BK272.out 0).trans rfl; have hcz12_1 : w11.cell? ⟨gb272, 1, none⟩ = some (.int .i64 a1_1) := (blk_cell BK272.out 1).trans rfl; have hfz12_0 := blk_frozen BK272.out 0; have hfz12_1 := blk_frozen BK272.out 1))) | (go_at_call 121; (with_reducible refine (impl_RestOk.calls a1_0 a1_1 t274 _ A8.out).mono ?_); rintro e w13 ⟨rfl, hb⟩; have n0_ := Aside0.mk (blk_below (g := gb271) (o := .cells #[.int .i64 a0_0, .int .i64 a0_1] 90 (0, 0)) (bz BK271.out) hb); have n1_ := Aside0.mk (blk_below (g := gb272) (o := .cells #[.int .i64 a1_0, .int .i64 a1_1] 90 (0, 0)) (bz BK272.out) hb); have n2_ := Aside0.mk (below_step (hz2 HB.out GE271.out GE272.out) hb); clear BK271; clear BK272; clear HB; have BK271 := n0_; have BK272 := n1_; have HB := n2_; clear n0_ n1_ n2_; (try clear hb); (try clear hb2); (try clear hk); (try clear hi))))
   go_meet
   case rel => exact ⟨_, (!t274), (by first | rfl | (simp; done) | (simp [*]; done)), H', ⟨by first | omega | exact Nat.le_refl _⟩, ⟨bz BK271.out⟩, ⟨bz BK272.out⟩, ⟨hz2 HB.out GE271.out GE272.out⟩⟩
  ·replace c7 := Bool.eq_false_iff.mpr c7
   subst c7
   have H1 : (impl_RestIn.j0 k true a0_0 a0_1 a1_0 a1_1) = some r := by rw [if_neg (show ¬ (false = true) by decide)] at H; exact H
   clear H
   have H := H1
   clear H1
   have H' := Aside0.mk H
   clear H
   have hnb14 := NB271_272.out
   have hnc14 := NB272_271.out
   have hcz15_0 : w5.cell? ⟨gb271, 0, none⟩ = some (.int .i64 a0_0) := (blk_cell BK271.out 0).trans rfl
   have hcz15_1 : w5.cell? ⟨gb271, 1, none⟩ = some (.int .i64 a0_1) := (blk_cell BK271.out 1).trans rfl
   have hfz15_0 := blk_frozen BK271.out 0
   have hfz15_1 := blk_frozen BK271.out 1
   go_wp2_with (first | (go_at_call 121; (with_reducible refine (impl_RestOk.calls a0_0 a0_1 false _ A6.out).mono ?_); rintro e w16 ⟨rfl, hb⟩; have n0_ := Aside0.mk (blk_below (g := gb271) (o := .cells #[.int .i64 a0_0, .int .i64 a0_1] 90 (0, 0)) (bz BK271.out) hb); have n1_ := Aside0.mk (blk_below (g := gb272) (o := .cells #[.int .i64 a1_0, .int .i64 a1_1] 90 (0, 0)) (bz BK272.out) hb); have n2_ := Aside0.mk (below_step (hz2 HB.out GE271.out GE272.out) hb); clear BK271; clear BK272; clear HB; have BK271 := n0_; have BK272 := n1_; have HB := n2_; clear n0_ n1_ n2_; (try clear hb); (try clear hb2); (try clear hk); (try clear hi)))
   repeat (go_quiet (first | (go_at_call 121; (with_reducible refine (impl_RestOk.calls a0_0 a0_1 false _ A6.out).mono ?_); rintro e w16 ⟨rfl, hb⟩; have n0_ := Aside0.mk (blk_below (g := gb271) (o := .cells #[.int .i64 a0_0, .int .i64 a0_1] 90 (0, 0)) (bz BK271.out) hb); have n1_ := Aside0.mk (blk_below (g := gb272) (o := .cells #[.int .i64 a1_0, .int .i64 a1_1] 90 (0, 0)) (bz BK272.out) hb); have n2_ := Aside0.mk (below_step (hz2 HB.out GE271.out GE272.out) hb); clear BK271; clear BK272; clear HB; have BK271 := n0_; have BK272 := n1_; have HB := n2_; clear n0_ n1_ n2_; (try clear hb); (try clear hb2); (try clear hk); (try clear hi))); try go_wp2_with (first | (go_at_call 121; (with_reducible refine (impl_RestOk.calls a0_0 a0_1 false _ A6.out).mono ?_); rintro e w16 ⟨rfl, hb⟩; have n0_ := Aside0.mk (blk_below (g := gb271) (o := .cells #[.int .i64 a0_0, .int .i64 a0_1] 90 (0, 0)) (bz BK271.out) hb); have n1_ := Aside0.mk (blk_below (g := gb272) (o := .cells #[.int .i64 a1_0, .int .i64 a1_1] 90 (0, 0)) (bz BK272.out) hb); have n2_ := Aside0.mk (below_step (hz2 HB.out GE271.out GE272.out) hb); clear BK271; clear BK272; clear HB; have BK271 := n0_; have BK272 := n1_; have HB := n2_; clear n0_ n1_ n2_; (try clear hb); (try clear hb2); (try clear hk); (try clear hi))))
   go_meet
   case rel => exact ⟨_, (true), (by first | rfl | (simp; done) | (simp [*]; done)), H', ⟨by first | omega | exact Nat.le_refl _⟩, ⟨bz BK271.out⟩, ⟨bz BK272.out⟩, ⟨hz2 HB.out GE271.out GE272.out⟩⟩
 case rest =>
  clear HC3
  try clear c1
  try clear p2
  try clear c7
  try clear c9
  try clear c14
  try clear hcz10_0
  try clear hcz10_1
  try clear hcz12_0
  try clear hcz12_1
  try clear hcz15_0
  try clear hcz15_1
  try clear hfz10_0
  try clear hfz10_1
  try clear hfz12_0
  try clear hfz12_1
  try clear hfz15_0
  try clear hfz15_1
  obtain ⟨kq, x12_2, rfl, HA, HJ2, BK271, BK272, HB⟩ := hcut
  cases kq with
  | zero => exact absurd HA.out (by simp [impl_RestIn.j0])
  | succ kj2 =>
   have H := HA.out
   clear HA
   simp only [impl_RestIn.j0] at H
   by_cases c17 : x12_2 = true
   ·subst c17
    have H1 : (some false) = some r := by rw [if_pos rfl] at H; exact H
    clear H
    have H := H1
    clear H1
    obtain rfl := Option.some.inj H
    go_wp2
    repeat (go_quiet (fail); try go_wp2)
    go_ret
    exact ⟨by first | rfl | (simp [errW_none, errW_some] <;> rfl) | (simp [*, errW_none, errW_some] <;> rfl), hz2 HB.out GE271.out GE272.out⟩
   ·replace c17 := Bool.eq_false_iff.mpr c17
    subst c17
    have H1 : (if a1_0 = 0 then (some (a0_0 == a1_0 && (a0_1 == a1_1))) else (if (Int.tmod a0_0 a1_0) = 0 then ((impl_restMod.f a0_1 a1_0).bind fun t275 => (some (t275 == a1_1))) else (some false))) = some r := by rw [if_neg (show ¬ (false = true) by decide)] at H; exact H
    clear H
    have H := H1
    clear H1
    by_cases c18 : a1_0 = 0
    ·rw [if_pos c18] at H
     have c18b0 : (a1_0 == 0) = true := beq_iff_eq.mpr c18
     have c18b1 : (a1_0 != 0) = false := bne_eq_false_iff_eq.mpr c18
     clear c18
     obtain rfl := Option.some.inj H
     have hnb19 := NB272_271.out
     have hnc19 := NB271_272.out
     have hcz20_0 : wc.cell? ⟨gb272, 0, none⟩ = some (.int .i64 a1_0) := (blk_cell BK272.out 0).trans rfl
     have hcz20_1 : wc.cell? ⟨gb272, 1, none⟩ = some (.int .i64 a1_1) := (blk_cell BK272.out 1).trans rfl
     have hfz20_0 := blk_frozen BK272.out 0
     have hfz20_1 := blk_frozen BK272.out 1
     have hcz21_0 : wc.cell? ⟨gb271, 0, none⟩ = some (.int .i64 a0_0) := (blk_cell BK271.out 0).trans rfl
     have hcz21_1 : wc.cell? ⟨gb271, 1, none⟩ = some (.int .i64 a0_1) := (blk_cell BK271.out 1).trans rfl
     have hfz21_0 := blk_frozen BK271.out 0
     have hfz21_1 := blk_frozen BK271.out 1
     go_wp2
     repeat (go_quiet (fail); try go_wp2)
     go_ret
     exact ⟨by first | rfl | (simp [errW_none, errW_some] <;> rfl) | (simp [*, errW_none, errW_some] <;> rfl), hz2 HB.out GE271.out GE272.out⟩
    ·rw [if_neg c18] at H
     have c18b0 : (a1_0 == 0) = false := beq_eq_false_iff_ne.mpr c18
     have c18b1 : (a1_0 != 0) = true := bne_iff_ne.mpr c18
     by_cases c22 : (Int.tmod a0_0 a1_0) = 0
     ·rw [if_pos c22] at H
      have c22b0 : ((Int.tmod a0_0 a1_0) == 0) = true := beq_iff_eq.mpr c22
      have c22b1 : ((Int.tmod a0_0 a1_0) != 0) = false := bne_eq_false_iff_eq.mpr c22
      clear c22
      replace H := Option.bind_eq_some_iff.mp H
      obtain ⟨t275, A230, H⟩ := H
      replace H : (some (t275 == a1_1)) = some r := H
      have A23 := Aside0.mk A230
      clear A230
      obtain rfl := Option.some.inj H
      have hnb24 := NB272_271.out
      have hnc24 := NB271_272.out
      have hcz25_0 : wc.cell? ⟨gb272, 0, none⟩ = some (.int .i64 a1_0) := (blk_cell BK272.out 0).trans rfl
      have hcz25_1 : wc.cell? ⟨gb272, 1, none⟩ = some (.int .i64 a1_1) := (blk_cell BK272.out 1).trans rfl
      have hfz25_0 := blk_frozen BK272.out 0
      have hfz25_1 := blk_frozen BK272.out 1
      have hcz26_0 : wc.cell? ⟨gb271, 0, none⟩ = some (.int .i64 a0_0) := (blk_cell BK271.out 0).trans rfl
      have hcz26_1 : wc.cell? ⟨gb271, 1, none⟩ = some (.int .i64 a0_1) := (blk_cell BK271.out 1).trans rfl
      have hfz26_0 := blk_frozen BK271.out 0
      have hfz26_1 := blk_frozen BK271.out 1
      go_wp2_with (first | (go_at_call 122; (with_reducible refine (impl_restMod.calls a0_1 a1_0 t275 _ A23.out).mono ?_); rintro e w' ⟨rfl, ⟨nd, rfl⟩⟩; (try first | exact ⟨rfl, _, World.drewN_drewN _ _ _⟩ | exact ⟨rfl, _, Eq.trans (World.drewN_drewN _ _ _) (congrArg (World.drewN _) (Nat.add_assoc _ _ _))⟩)))
      repeat (go_quiet (first | (go_at_call 122; (with_reducible refine (impl_restMod.calls a0_1 a1_0 t275 _ A23.out).mono ?_); rintro e w' ⟨rfl, ⟨nd, rfl⟩⟩; (try first | exact ⟨rfl, _, World.drewN_drewN _ _ _⟩ | exact ⟨rfl, _, Eq.trans (World.drewN_drewN _ _ _) (congrArg (World.drewN _) (Nat.add_assoc _ _ _))⟩))); try go_wp2_with (first | (go_at_call 122; (with_reducible refine (impl_restMod.calls a0_1 a1_0 t275 _ A23.out).mono ?_); rintro e w' ⟨rfl, ⟨nd, rfl⟩⟩; (try first | exact ⟨rfl, _, World.drewN_drewN _ _ _⟩ | exact ⟨rfl, _, Eq.trans (World.drewN_drewN _ _ _) (congrArg (World.drewN _) (Nat.add_assoc _ _ _))⟩))))
      go_ret
      exact ⟨by first | rfl | (simp [errW_none, errW_some] <;> rfl) | (simp [*, errW_none, errW_some] <;> rfl), hz2 HB.out GE271.out GE272.out⟩
     ·rw [if_neg c22] at H
      have c22b0 : ((Int.tmod a0_0 a1_0) == 0) = false := beq_eq_false_iff_ne.mpr c22
      have c22b1 : ((Int.tmod a0_0 a1_0) != 0) = true := bne_iff_ne.mpr c22
      obtain rfl := Option.some.inj H
      have hnb27 := NB272_271.out
      have hnc27 := NB271_272.out
      have hcz28_0 : wc.cell? ⟨gb272, 0, none⟩ = some (.int .i64 a1_0) := (blk_cell BK272.out 0).trans rfl
      have hcz28_1 : wc.cell? ⟨gb272, 1, none⟩ = some (.int .i64 a1_1) := (blk_cell BK272.out 1).trans rfl
      have hfz28_0 := blk_frozen BK272.out 0
      have hfz28_1 := blk_frozen BK272.out 1
      have hcz29_0 : wc.cell? ⟨gb271, 0, none⟩ = some (.int .i64 a0_0) := (blk_cell BK271.out 0).trans rfl
      have hcz29_1 : wc.cell? ⟨gb271, 1, none⟩ = some (.int .i64 a0_1) := (blk_cell BK271.out 1).trans rfl
      have hfz29_0 := blk_frozen BK271.out 0
      have hfz29_1 := blk_frozen BK271.out 1
      go_wp2
      repeat (go_quiet (fail); try go_wp2)
      go_ret
      exact ⟨by first | rfl | (simp [errW_none, errW_some] <;> rfl) | (simp [*, errW_none, errW_some] <;> rfl), hz2 HB.out GE271.out GE272.out⟩

end Go.Proofs.Ytnmccgjdnceheaa.PFnExactValIn
