/- Written by this session's own driver (wip/dprint.py): the functions that the law FnExactValMeet reaches, as Lean functions, each with its contract. -/
import Derived.Test.YtnmccgjdnceheaaPFnExactValMeetx0
import Derived.Test.YtnmccgjdnceheaaPFnExactValMeetx1
import Derived.Test.YtnmccgjdnceheaaPFnExactValMeetx12
import Derived.Test.YtnmccgjdnceheaaSv
namespace Go.Proofs.Ytnmccgjdnceheaa.PFnExactValMeet
open Go.RowKit Go.Proofs.YtnmccgjdnceheaaV.PrintWords Go.Proofs.YtnmccgjdnceheaaV.PrintLast Go.Proofs.YtnmccgjdnceheaaV.PrintMore Go.Proofs.YtnmccgjdnceheaaSv
attribute [local go_sem] max2_int min2_int max_two min_two max_three min_three max_four min_four   -- for this text's walks alone
set_option linter.unusedVariables false
set_option linter.unusedSimpArgs false

attribute [local go_sem high] eqA25
/-! ### impl_valNone: function 76 -/
def impl_valNone.f  : Option (Int × Int × Int × Int) := some (1, 0, 0, 0)
set_option maxHeartbeats 8000000 in
set_option maxRecDepth 100000 in
theorem impl_valNone.calls  (r1 : Int) (r2 : Int) (r3 : Int) (r4 : Int) (w : World) (h : impl_valNone.f  = some (r1, r2, r3, r4)) :
  Calls Try.prog 76 #[] w fun e w' => e = .returned (.agg #[.int .i64 r1, .int .i64 r2, .int .i64 r3, .int .i64 r4]) ∧ Below w.heap.size w w' := by
 have hu25 := Try.underlying25
 have HB := Aside0.mk (Below.refl w.heap.size w)
 have H : (some (1, 0, 0, 0)) = some (r1, r2, r3, r4) := h
 clear h
 simp only [Option.some.injEq, Prod.mk.injEq] at H
 obtain ⟨rfl, rfl, rfl, rfl⟩ := H
 go_enter Try.func76, Try.ntmps76
 go_wp2_with (first | ((with_reducible refine gate_dst (N := 0) rfl ?_); refine box_event ?hg (N := 0) ?hd (cs := #[.int .i64 0, .int .i64 0, .int .i64 0, .int .i64 0]) (t := 25) ?hr ?_; (case hd => rfl); (case hg => rfl); (case hr => first | (go_simp; done) | (go_simp; rfl)); intro gb262 hg w1 hbox hb; have n0_ := Aside0.mk (below_step (hz HB.out) hb); have n1_ := Aside0.mk (hbox); have n2_ := Aside0.mk ((by rw [hg]; exact (below_size (hz HB.out)) : w.heap.size ≤ gb262)); have n3_ := Aside0.mk ((by rw [hg]; exact (below_size (hz HB.out)) : w.heap.size ≤ gb262)); clear HB; have HB := n0_; have BK262 := n1_; have GW262 := n2_; have GE262 := n3_; clear n0_ n1_ n2_ n3_; clear hb hbox hg; have hcz2_0 : w1.cell? ⟨gb262, 0, none⟩ = some (.int .i64 0) := bc BK262 0; have hcz2_1 : w1.cell? ⟨gb262, 1, none⟩ = some (.int .i64 0) := bc BK262 1; have hcz2_2 : w1.cell? ⟨gb262, 2, none⟩ = some (.int .i64 0) := bc BK262 2; have hcz2_3 : w1.cell? ⟨gb262, 3, none⟩ = some (.int .i64 0) := bc BK262 3; have hfz2_0 := blk_frozen BK262.out 0; have hfz2_1 := blk_frozen BK262.out 1; have hfz2_2 := blk_frozen BK262.out 2; have hfz2_3 := blk_frozen BK262.out 3))
 refine bodyPost_ret (results_cell_row rfl _ _ gb262 25 #[.int .i64 1, .int .i64 0, .int .i64 0, .int .i64 0] (0, 0) _ rfl (by (with_reducible repeat (first | refine blk_drewN ?_ _ | refine blk_drew ?_ | refine blk_alloc ?_ _)); refine blk_put (cs := #[.int .i64 1, .int .i64 0, .int .i64 0, .int .i64 0]) ?_ 3 _ rfl; (with_reducible repeat (first | refine blk_drewN ?_ _ | refine blk_drew ?_ | refine blk_alloc ?_ _)); refine blk_put (cs := #[.int .i64 1, .int .i64 0, .int .i64 0, .int .i64 0]) ?_ 2 _ rfl; (with_reducible repeat (first | refine blk_drewN ?_ _ | refine blk_drew ?_ | refine blk_alloc ?_ _)); refine blk_put (cs := #[.int .i64 1, .int .i64 0, .int .i64 0, .int .i64 0]) ?_ 1 _ rfl; (with_reducible repeat (first | refine blk_drewN ?_ _ | refine blk_drew ?_ | refine blk_alloc ?_ _)); refine blk_put (cs := #[.int .i64 0, .int .i64 0, .int .i64 0, .int .i64 0]) ?_ 0 _ rfl; (with_reducible repeat (first | refine blk_drewN ?_ _ | refine blk_drew ?_ | refine blk_alloc ?_ _)); exact BK262.out) Try.underlying25 rfl (by kernel_rfl)) rfl ?_
 exact ⟨by first | rfl | (simp [errW_none, errW_some] <;> rfl) | (simp [*, errW_none, errW_some] <;> rfl), hz1 HB.out GE262.out⟩

/-! ### impl_RestOk: function 121 -/
def impl_RestOk.f (a0_0 : Int) (a0_1 : Int) : Option (Bool) := if a0_0 = 0 then ((impl_NumOk.f a0_1).bind fun t264 => (some t264)) else (if a0_0 ≥ 1 then (if a0_0 ≤ 65536 then (if a0_1 ≥ 0 then (some (decide (a0_1 < a0_0))) else (some false)) else (some false)) else (some false))
set_option maxHeartbeats 8000000 in
set_option maxRecDepth 100000 in
theorem impl_RestOk.calls (a0_0 : Int) (a0_1 : Int) (r : Bool) (w : World) (h : impl_RestOk.f a0_0 a0_1 = some r) :
  Calls Try.prog 121 #[.agg #[.int .i64 a0_0, .int .i64 a0_1]] w fun e w' => e = .returned (.bool r) ∧ Below w.heap.size w w' := by
 have hu90 := Try.underlying90
 have HB := Aside0.mk (Below.refl w.heap.size w)
 have H : (if a0_0 = 0 then ((impl_NumOk.f a0_1).bind fun t264 => (some t264)) else (if a0_0 ≥ 1 then (if a0_0 ≤ 65536 then (if a0_1 ≥ 0 then (some (decide (a0_1 < a0_0))) else (some false)) else (some false)) else (some false))) = some r := h
 clear h
 by_cases c2 : a0_0 = 0
 ·rw [if_pos c2] at H
  have c2b0 : (a0_0 == 0) = true := beq_iff_eq.mpr c2
  have c2b1 : (a0_0 != 0) = false := bne_eq_false_iff_eq.mpr c2
  clear c2
  replace H := Option.bind_eq_some_iff.mp H
  obtain ⟨t264, A30, H⟩ := H
  replace H : (some t264) = some r := H
  have A3 := Aside0.mk A30
  clear A30
  obtain rfl := Option.some.inj H
  go_enter Try.func121, Try.ntmps121
  go_wp2_with (first | ((with_reducible refine gate_dst (N := 1) rfl ?_); refine box_event ?hg (N := 1) ?hd (cs := #[.int .i64 a0_0, .int .i64 a0_1]) (t := 90) ?hr ?_; (case hd => rfl); (case hg => rfl); (case hr => first | (go_simp; done) | (go_simp; rfl)); intro gb263 hg w4 hbox hb; have n0_ := Aside0.mk (below_step (hz HB.out) hb); have n1_ := Aside0.mk (hbox); have n2_ := Aside0.mk ((by rw [hg]; exact (below_size (hz HB.out)) : w.heap.size ≤ gb263)); have n3_ := Aside0.mk ((by rw [hg]; exact (below_size (hz HB.out)) : w.heap.size ≤ gb263)); clear HB; have HB := n0_; have BK263 := n1_; have GW263 := n2_; have GE263 := n3_; clear n0_ n1_ n2_ n3_; clear hb hbox hg; have hcz5_0 : w4.cell? ⟨gb263, 0, none⟩ = some (.int .i64 a0_0) := bc BK263 0; have hcz5_1 : w4.cell? ⟨gb263, 1, none⟩ = some (.int .i64 a0_1) := bc BK263 1; have hfz5_0 := blk_frozen BK263.out 0; have hfz5_1 := blk_frozen BK263.out 1) | ((with_reducible refine gate_callee (f := 95) rfl ?_); refine goesL_ (some 8) rfl rfl Try.func95 (by kernel_rfl) rfl #[.int .i64 a0_1] rfl mz ?_; (with_reducible refine (impl_NumOk.calls a0_1 t264 _ A3.out).mono ?_); rintro e w' ⟨rfl, ⟨nd, rfl⟩⟩; refine ⟨_, rfl, ?_⟩))
  go_ret
  exact ⟨by first | rfl | (simp [errW_none, errW_some] <;> rfl) | (simp [*, errW_none, errW_some] <;> rfl), hz1 HB.out GE263.out⟩
 ·rw [if_neg c2] at H
  have c2b0 : (a0_0 == 0) = false := beq_eq_false_iff_ne.mpr c2
  have c2b1 : (a0_0 != 0) = true := bne_iff_ne.mpr c2
  by_cases c6 : a0_0 ≥ 1
  ·rw [if_pos c6] at H
   have c6b0 : decide (1 ≤ a0_0) = true := decide_eq_true c6
   clear c6
   by_cases c7 : a0_0 ≤ 65536
   ·rw [if_pos c7] at H
    have c7b0 : decide (a0_0 ≤ 65536) = true := decide_eq_true c7
    clear c7
    by_cases c8 : a0_1 ≥ 0
    ·rw [if_pos c8] at H
     have c8b0 : decide (0 ≤ a0_1) = true := decide_eq_true c8
     clear c8
     obtain rfl := Option.some.inj H
     go_enter Try.func121, Try.ntmps121
     go_wp2_with (first | ((with_reducible refine gate_dst (N := 1) rfl ?_); refine box_event ?hg (N := 1) ?hd (cs := #[.int .i64 a0_0, .int .i64 a0_1]) (t := 90) ?hr ?_; (case hd => rfl); (case hg => rfl); (case hr => first | (go_simp; done) | (go_simp; rfl)); intro gb263 hg w9 hbox hb; have n0_ := Aside0.mk (below_step (hz HB.out) hb); have n1_ := Aside0.mk (hbox); have n2_ := Aside0.mk ((by rw [hg]; exact (below_size (hz HB.out)) : w.heap.size ≤ gb263)); have n3_ := Aside0.mk ((by rw [hg]; exact (below_size (hz HB.out)) : w.heap.size ≤ gb263)); clear HB; have HB := n0_; have BK263 := n1_; have GW263 := n2_; have GE263 := n3_; clear n0_ n1_ n2_ n3_; clear hb hbox hg; have hcz10_0 : w9.cell? ⟨gb263, 0, none⟩ = some (.int .i64 a0_0) := bc BK263 0; have hcz10_1 : w9.cell? ⟨gb263, 1, none⟩ = some (.int .i64 a0_1) := bc BK263 1; have hfz10_0 := blk_frozen BK263.out 0; have hfz10_1 := blk_frozen BK263.out 1))
     go_ret
     exact ⟨by first | rfl | (simp [errW_none, errW_some] <;> rfl) | (simp [*, errW_none, errW_some] <;> rfl), hz1 HB.out GE263.out⟩
    ·rw [if_neg c8] at H
     have c8b0 : decide (0 ≤ a0_1) = false := decide_eq_false c8
     clear c8
     obtain rfl := Option.some.inj H
     go_enter Try.func121, Try.ntmps121
     go_wp2_with (first | ((with_reducible refine gate_dst (N := 1) rfl ?_); refine box_event ?hg (N := 1) ?hd (cs := #[.int .i64 a0_0, .int .i64 a0_1]) (t := 90) ?hr ?_; (case hd => rfl); (case hg => rfl); (case hr => first | (go_simp; done) | (go_simp; rfl)); intro gb263 hg w11 hbox hb; have n0_ := Aside0.mk (below_step (hz HB.out) hb); have n1_ := Aside0.mk (hbox); have n2_ := Aside0.mk ((by rw [hg]; exact (below_size (hz HB.out)) : w.heap.size ≤ gb263)); have n3_ := Aside0.mk ((by rw [hg]; exact (below_size (hz HB.out)) : w.heap.size ≤ gb263)); clear HB; have HB := n0_; have BK263 := n1_; have GW263 := n2_; have GE263 := n3_; clear n0_ n1_ n2_ n3_; clear hb hbox hg; have hcz12_0 : w11.cell? ⟨gb263, 0, none⟩ = some (.int .i64 a0_0) := bc BK263 0; have hcz12_1 : w11.cell? ⟨gb263, 1, none⟩ = some (.int .i64 a0_1) := bc BK263 1; have hfz12_0 := blk_frozen BK263.out 0; have hfz12_1 := blk_frozen BK263.out 1))
     go_ret
     exact ⟨by first | rfl | (simp [errW_none, errW_some] <;> rfl) | (simp [*, errW_none, errW_some] <;> rfl), hz1 HB.out GE263.out⟩
   ·rw [if_neg c7] at H
    have c7b0 : decide (a0_0 ≤ 65536) = false := decide_eq_false c7
    clear c7
    obtain rfl := Option.some.inj H
    go_enter Try.func121, Try.ntmps121
    go_wp2_with (first | ((with_reducible refine gate_dst (N := 1) rfl ?_); refine box_event ?hg (N := 1) ?hd (cs := #[.int .i64 a0_0, .int .i64 a0_1]) (t := 90) ?hr ?_; (case hd => rfl); (case hg => rfl); (case hr => first | (go_simp; done) | (go_simp; rfl)); intro gb263 hg w13 hbox hb; have n0_ := Aside0.mk (below_step (hz HB.out) hb); have n1_ := Aside0.mk (hbox); have n2_ := Aside0.mk ((by rw [hg]; exact (below_size (hz HB.out)) : w.heap.size ≤ gb263)); have n3_ := Aside0.mk ((by rw [hg]; exact (below_size (hz HB.out)) : w.heap.size ≤ gb263)); clear HB; have HB := n0_; have BK263 := n1_; have GW263 := n2_; have GE263 := n3_; clear n0_ n1_ n2_ n3_; clear hb hbox hg; have hcz14_0 : w13.cell? ⟨gb263, 0, none⟩ = some (.int .i64 a0_0) := bc BK263 0; have hcz14_1 : w13.cell? ⟨gb263, 1, none⟩ = some (.int .i64 a0_1) := bc BK263 1; have hfz14_0 := blk_frozen BK263.out 0; have hfz14_1 := blk_frozen BK263.out 1))
    go_ret
    exact ⟨by first | rfl | (simp [errW_none, errW_some] <;> rfl) | (simp [*, errW_none, errW_some] <;> rfl), hz1 HB.out GE263.out⟩
  ·rw [if_neg c6] at H
   have c6b0 : decide (1 ≤ a0_0) = false := decide_eq_false c6
   clear c6
   obtain rfl := Option.some.inj H
   go_enter Try.func121, Try.ntmps121
   go_wp2_with (first | ((with_reducible refine gate_dst (N := 1) rfl ?_); refine box_event ?hg (N := 1) ?hd (cs := #[.int .i64 a0_0, .int .i64 a0_1]) (t := 90) ?hr ?_; (case hd => rfl); (case hg => rfl); (case hr => first | (go_simp; done) | (go_simp; rfl)); intro gb263 hg w15 hbox hb; have n0_ := Aside0.mk (below_step (hz HB.out) hb); have n1_ := Aside0.mk (hbox); have n2_ := Aside0.mk ((by rw [hg]; exact (below_size (hz HB.out)) : w.heap.size ≤ gb263)); have n3_ := Aside0.mk ((by rw [hg]; exact (below_size (hz HB.out)) : w.heap.size ≤ gb263)); clear HB; have HB := n0_; have BK263 := n1_; have GW263 := n2_; have GE263 := n3_; clear n0_ n1_ n2_ n3_; clear hb hbox hg; have hcz16_0 : w15.cell? ⟨gb263, 0, none⟩ = some (.int .i64 a0_0) := bc BK263 0; have hcz16_1 : w15.cell? ⟨gb263, 1, none⟩ = some (.int .i64 a0_1) := bc BK263 1; have hfz16_0 := blk_frozen BK263.out 0; have hfz16_1 := blk_frozen BK263.out 1))
   go_ret
   exact ⟨by first | rfl | (simp [errW_none, errW_some] <;> rfl) | (simp [*, errW_none, errW_some] <;> rfl), hz1 HB.out GE263.out⟩

/-! ### impl_restMod: function 122 -/
def impl_restMod.f (a0 : Int) (a1 : Int) : Option (Int) := if a1 = 0 then (none) else (if (Int.tmod a0 a1) < 0 then (some (wrap64 ((Int.tmod a0 a1) + a1))) else (some (Int.tmod a0 a1)))
set_option maxHeartbeats 8000000 in
set_option maxRecDepth 100000 in
theorem impl_restMod.calls (a0 : Int) (a1 : Int) (r : Int) (w : World) (h : impl_restMod.f a0 a1 = some r) :
  Calls Try.prog 122 #[.int .i64 a0, .int .i64 a1] w fun e w' => e = .returned (.int .i64 r) ∧ Drawn0 w w' := by
 have H : (if a1 = 0 then (none) else (if (Int.tmod a0 a1) < 0 then (some (wrap64 ((Int.tmod a0 a1) + a1))) else (some (Int.tmod a0 a1)))) = some r := h
 clear h
 by_cases c3 : a1 = 0
 ·rw [if_pos c3] at H
  exact absurd H (by simp)
 ·rw [if_neg c3] at H
  have c3b0 : (a1 == 0) = false := beq_eq_false_iff_ne.mpr c3
  have c3b1 : (a1 != 0) = true := bne_iff_ne.mpr c3
  by_cases c4 : (Int.tmod a0 a1) < 0
  ·rw [if_pos c4] at H
   have c4b0 : decide ((Int.tmod a0 a1) < 0) = true := decide_eq_true c4
   clear c4
   obtain rfl := Option.some.inj H
   go_enter Try.func122, Try.ntmps122
   go_wp2
   go_ret
   exact ⟨by first | rfl | (simp; done) | (simp [*]; done), by repeat (first | exact Drawn0.refl _ | apply Drawn0.step)⟩
  ·rw [if_neg c4] at H
   have c4b0 : decide ((Int.tmod a0 a1) < 0) = false := decide_eq_false c4
   clear c4
   obtain rfl := Option.some.inj H
   go_enter Try.func122, Try.ntmps122
   go_wp2
   go_ret
   exact ⟨by first | rfl | (simp; done) | (simp [*]; done), by repeat (first | exact Drawn0.refl _ | apply Drawn0.step)⟩

/-! ### impl_Range_empty: function 124 -/
def impl_Range_empty.f (a0_0 : Int) (a0_1 : Int) : Option (Bool) := some (decide (a0_0 > a0_1))
set_option maxHeartbeats 8000000 in
set_option maxRecDepth 100000 in
theorem impl_Range_empty.calls (a0_0 : Int) (a0_1 : Int) (r : Bool) (w : World) (h : impl_Range_empty.f a0_0 a0_1 = some r) :
  Calls Try.prog 124 #[.agg #[.int .i64 a0_0, .int .i64 a0_1]] w fun e w' => e = .returned (.bool r) ∧ Below w.heap.size w w' := by
 have hu86 := Try.underlying86
 have HB := Aside0.mk (Below.refl w.heap.size w)
 have H : (some (decide (a0_0 > a0_1))) = some r := h
 clear h
 obtain rfl := Option.some.inj H
 go_enter Try.func124, Try.ntmps124
 go_wp2_with (first | ((with_reducible refine gate_dst (N := 1) rfl ?_); refine box_event ?hg (N := 1) ?hd (cs := #[.int .i64 a0_0, .int .i64 a0_1]) (t := 86) ?hr ?_; (case hd => rfl); (case hg => rfl); (case hr => first | (go_simp; done) | (go_simp; rfl)); intro gb265 hg w2 hbox hb; have n0_ := Aside0.mk (below_step (hz HB.out) hb); have n1_ := Aside0.mk (hbox); have n2_ := Aside0.mk ((by rw [hg]; exact (below_size (hz HB.out)) : w.heap.size ≤ gb265)); have n3_ := Aside0.mk ((by rw [hg]; exact (below_size (hz HB.out)) : w.heap.size ≤ gb265)); clear HB; have HB := n0_; have BK265 := n1_; have GW265 := n2_; have GE265 := n3_; clear n0_ n1_ n2_ n3_; clear hb hbox hg; have hcz3_0 : w2.cell? ⟨gb265, 0, none⟩ = some (.int .i64 a0_0) := bc BK265 0; have hcz3_1 : w2.cell? ⟨gb265, 1, none⟩ = some (.int .i64 a0_1) := bc BK265 1; have hfz3_0 := blk_frozen BK265.out 0; have hfz3_1 := blk_frozen BK265.out 1))
 go_ret
 exact ⟨by first | rfl | (simp [errW_none, errW_some] <;> rfl) | (simp [*, errW_none, errW_some] <;> rfl), hz1 HB.out GE265.out⟩

/-! ### impl_valOne: function 131 -/
def impl_valOne.f (a0 : Int) : Option (Int × Int × Int × Int) := some (a0, a0, 0, a0)
set_option maxHeartbeats 8000000 in
set_option maxRecDepth 100000 in
theorem impl_valOne.calls (a0 : Int) (r1 : Int) (r2 : Int) (r3 : Int) (r4 : Int) (w : World) (h : impl_valOne.f a0 = some (r1, r2, r3, r4)) :
  Calls Try.prog 131 #[.int .i64 a0] w fun e w' => e = .returned (.agg #[.int .i64 r1, .int .i64 r2, .int .i64 r3, .int .i64 r4]) ∧ Below w.heap.size w w' := by
 have hu25 := Try.underlying25
 have HB := Aside0.mk (Below.refl w.heap.size w)
 have H : (some (a0, a0, 0, a0)) = some (r1, r2, r3, r4) := h
 clear h
 simp only [Option.some.injEq, Prod.mk.injEq] at H
 obtain ⟨rfl, rfl, rfl, rfl⟩ := H
 go_enter Try.func131, Try.ntmps131
 go_wp2_with (first | ((with_reducible refine gate_dst (N := 2) rfl ?_); refine box_event ?hg (N := 2) ?hd (cs := #[.int .i64 0, .int .i64 0, .int .i64 0, .int .i64 0]) (t := 25) ?hr ?_; (case hd => rfl); (case hg => rfl); (case hr => first | (go_simp; done) | (go_simp; rfl)); intro gb266 hg w2 hbox hb; have n0_ := Aside0.mk (below_step (hz HB.out) hb); have n1_ := Aside0.mk (hbox); have n2_ := Aside0.mk ((by rw [hg]; exact (below_size (hz HB.out)) : w.heap.size ≤ gb266)); have n3_ := Aside0.mk ((by rw [hg]; exact (below_size (hz HB.out)) : w.heap.size ≤ gb266)); clear HB; have HB := n0_; have BK266 := n1_; have GW266 := n2_; have GE266 := n3_; clear n0_ n1_ n2_ n3_; clear hb hbox hg; have hcz3_0 : w2.cell? ⟨gb266, 0, none⟩ = some (.int .i64 0) := bc BK266 0; have hcz3_1 : w2.cell? ⟨gb266, 1, none⟩ = some (.int .i64 0) := bc BK266 1; have hcz3_2 : w2.cell? ⟨gb266, 2, none⟩ = some (.int .i64 0) := bc BK266 2; have hcz3_3 : w2.cell? ⟨gb266, 3, none⟩ = some (.int .i64 0) := bc BK266 3; have hfz3_0 := blk_frozen BK266.out 0; have hfz3_1 := blk_frozen BK266.out 1; have hfz3_2 := blk_frozen BK266.out 2; have hfz3_3 := blk_frozen BK266.out 3))
 refine bodyPost_ret (results_cell_row rfl _ _ gb266 25 #[.int .i64 a0, .int .i64 a0, .int .i64 0, .int .i64 a0] (0, 0) _ rfl (by (with_reducible repeat (first | refine blk_drewN ?_ _ | refine blk_drew ?_ | refine blk_alloc ?_ _)); refine blk_put (cs := #[.int .i64 a0, .int .i64 a0, .int .i64 0, .int .i64 0]) ?_ 3 _ rfl; (with_reducible repeat (first | refine blk_drewN ?_ _ | refine blk_drew ?_ | refine blk_alloc ?_ _)); refine blk_put (cs := #[.int .i64 a0, .int .i64 a0, .int .i64 0, .int .i64 0]) ?_ 2 _ rfl; (with_reducible repeat (first | refine blk_drewN ?_ _ | refine blk_drew ?_ | refine blk_alloc ?_ _)); refine blk_put (cs := #[.int .i64 a0, .int .i64 0, .int .i64 0, .int .i64 0]) ?_ 1 _ rfl; (with_reducible repeat (first | refine blk_drewN ?_ _ | refine blk_drew ?_ | refine blk_alloc ?_ _)); refine blk_put (cs := #[.int .i64 0, .int .i64 0, .int .i64 0, .int .i64 0]) ?_ 0 _ rfl; (with_reducible repeat (first | refine blk_drewN ?_ _ | refine blk_drew ?_ | refine blk_alloc ?_ _)); exact BK266.out) Try.underlying25 rfl (by kernel_rfl)) rfl ?_
 exact ⟨by first | rfl | (simp [errW_none, errW_some] <;> rfl) | (simp [*, errW_none, errW_some] <;> rfl), hz1 HB.out GE266.out⟩

/-! ### impl_ValMake: function 77 -/
def impl_ValMake.j0 : Nat → Bool → Int → Int → Int → Int → Option (Int × Int × Int × Int)
 | 0, _, _, _, _, _ => none
 | k + 1, x18, x268000, x268001, x269000, x269001 => if x18 = true then ((impl_valNone.f).bind fun bt273 => (some (bt273.1, bt273.2.1, bt273.2.2.1, bt273.2.2.2))) else (if x269000 = 0 then ((impl_RangeHas.f x268000 x268001 x269001).bind fun t277 => (if t277 = true then ((impl_valOne.f x269001).bind fun bt278 => (some (bt278.1, bt278.2.1, bt278.2.2.1, bt278.2.2.2))) else ((impl_valNone.f).bind fun bt282 => (some (bt282.1, bt282.2.1, bt282.2.2.1, bt282.2.2.2))))) else ((impl_restMod.f (wrap64 (x269001 - x268000)) x269000).bind fun t286 => ((impl_restMod.f (wrap64 (x268001 - x269001)) x269000).bind fun t287 => (if (wrap64 (x268000 + t286)) > (wrap64 (x268001 - t287)) then ((impl_valNone.f).bind fun bt288 => (some (bt288.1, bt288.2.1, bt288.2.2.1, bt288.2.2.2))) else (if (wrap64 (x268000 + t286)) = (wrap64 (x268001 - t287)) then ((impl_valOne.f (wrap64 (x268000 + t286))).bind fun bt292 => (some (bt292.1, bt292.2.1, bt292.2.2.1, bt292.2.2.2))) else (some (wrap64 (x268000 + t286), wrap64 (x268001 - t287), x269000, x269001)))))))
def impl_ValMake.f (k : Nat) (a0_0 : Int) (a0_1 : Int) (a1_0 : Int) (a1_1 : Int) : Option (Int × Int × Int × Int) := (impl_RangeOk.f a0_0 a0_1).bind fun t270 => (if t270 = true then ((impl_RestOk.f a1_0 a1_1).bind fun t271 => (if t271 = true then ((impl_Range_empty.f a0_0 a0_1).bind fun t272 => (impl_ValMake.j0 k t272 a0_0 a0_1 a1_0 a1_1)) else (impl_ValMake.j0 k true a0_0 a0_1 a1_0 a1_1))) else (impl_ValMake.j0 k true a0_0 a0_1 a1_0 a1_1))
theorem impl_ValMake.mono_l : ∀ k, (∀ y0 y1 y2 y3 y4, LeO (impl_ValMake.j0 k y0 y1 y2 y3 y4) (impl_ValMake.j0 (k + 1) y0 y1 y2 y3 y4))
 | 0 => fun _ _ _ _ _ r h => by simp [impl_ValMake.j0] at h
 | k + 1 => by
  have ih0 := impl_ValMake.mono_l k
  ·intro y0 y1 y2 y3 y4
   unfold impl_ValMake.j0
   repeat' first
   | (with_reducible exact ih0 _ _ _ _ _)
   | (with_reducible exact LeO.refl _)
   | (with_reducible exact LeO.none _)
   | (with_reducible refine LeO.ite ?_ ?_)
   | (with_reducible refine LeO.bind ?_ (fun _ => ?_))
   | exact ih0 _ _ _ _ _
   | exact LeO.none _
   | refine LeO.ite ?_ ?_
   | refine LeO.bind ?_ (fun _ => ?_)
theorem impl_ValMake.mono : ∀ a0 a1 a2 a3 k, LeO (impl_ValMake.f k a0 a1 a2 a3) (impl_ValMake.f (k + 1) a0 a1 a2 a3) := by
 intro a0 a1 a2 a3 k
 have ih0 := impl_ValMake.mono_l k
 unfold impl_ValMake.f
 repeat' first
   | (with_reducible exact ih0 _ _ _ _ _)
   | (with_reducible exact LeO.refl _)
   | (with_reducible exact LeO.none _)
   | (with_reducible refine LeO.ite ?_ ?_)
   | (with_reducible refine LeO.bind ?_ (fun _ => ?_))
   | exact ih0 _ _ _ _ _
   | exact LeO.none _
   | refine LeO.ite ?_ ?_
   | refine LeO.bind ?_ (fun _ => ?_)
set_option maxHeartbeats 8000000 in
set_option maxRecDepth 100000 in
theorem impl_ValMake.calls (k : Nat) (a0_0 : Int) (a0_1 : Int) (a1_0 : Int) (a1_1 : Int) (r1 : Int) (r2 : Int) (r3 : Int) (r4 : Int) (w : World) (h : impl_ValMake.f k a0_0 a0_1 a1_0 a1_1 = some (r1, r2, r3, r4)) :
  Calls Try.prog 77 #[.agg #[.int .i64 a0_0, .int .i64 a0_1], .agg #[.int .i64 a1_0, .int .i64 a1_1]] w fun e w' => e = .returned (.agg #[.int .i64 r1, .int .i64 r2, .int .i64 r3, .int .i64 r4]) ∧ Below w.heap.size w w' := by
 have hu86 := Try.underlying86
 have hu90 := Try.underlying90
 have hu25 := Try.underlying25
 have HB := Aside0.mk (Below.refl w.heap.size w)
 have H : ((impl_RangeOk.f a0_0 a0_1).bind fun t270 => (if t270 = true then ((impl_RestOk.f a1_0 a1_1).bind fun t271 => (if t271 = true then ((impl_Range_empty.f a0_0 a0_1).bind fun t272 => (impl_ValMake.j0 k t272 a0_0 a0_1 a1_0 a1_1)) else (impl_ValMake.j0 k true a0_0 a0_1 a1_0 a1_1))) else (impl_ValMake.j0 k true a0_0 a0_1 a1_0 a1_1))) = some (r1, r2, r3, r4) := h
 clear h
 have HC3 := Aside0.mk H
 clear H
 go_enter Try.func77, Try.ntmps77
 go_upto_region 1 with (first | ((with_reducible refine gate_dst (N := 2) rfl ?_); refine box_event ?hg (N := 2) ?hd (cs := #[.int .i64 a0_0, .int .i64 a0_1]) (t := 86) ?hr ?_; (case hd => rfl); (case hg => rfl); (case hr => first | (go_simp; done) | (go_simp; rfl)); intro gb267 hg w4 hbox hb; have n0_ := Aside0.mk (below_step (hz HB.out) hb); have n1_ := Aside0.mk (hbox); have n2_ := Aside0.mk ((by rw [hg]; exact (below_size (hz HB.out)) : w.heap.size ≤ gb267)); have n3_ := Aside0.mk ((by rw [hg]; exact (below_size (hz HB.out)) : w.heap.size ≤ gb267)); clear HB; have HB := n0_; have BK267 := n1_; have GW267 := n2_; have GE267 := n3_; clear n0_ n1_ n2_ n3_; clear hb hbox hg) | ((with_reducible refine gate_dst (N := 3) rfl ?_); refine box_event ?hg (N := 3) ?hd (cs := #[.int .i64 a1_0, .int .i64 a1_1]) (t := 90) ?hr ?_; (case hd => rfl); (case hg => rfl); (case hr => first | (go_simp; done) | (go_simp; rfl)); intro gb268 hg w5 hbox hb; have n0_ := Aside0.mk (blk_below (g := gb267) (o := b2 a0_0 a0_1 86) (bz BK267.out) hb); have n1_ := Aside0.mk (below_step (hz1 HB.out GE267.out) hb); have n2_ := Aside0.mk (hbox); have n3_ := Aside0.mk ((by rw [hg]; exact (below_size (hz1 HB.out GE267.out)) : w.heap.size ≤ gb268)); have n4_ := Aside0.mk ((by rw [hg]; exact (below_size (hz1 HB.out GE267.out)) : w.heap.size ≤ gb268)); have n5_ := Aside0.mk ((by rw [hg]; exact Nat.ne_of_lt (blk_lt (g := gb267) (o := b2 a0_0 a0_1 86) (bz BK267.out)) : gb267 ≠ gb268)); have n6_ := Aside0.mk ((by rw [hg]; exact Nat.ne_of_gt (blk_lt (g := gb267) (o := b2 a0_0 a0_1 86) (bz BK267.out)) : gb268 ≠ gb267)); clear BK267; clear HB; have BK267 := n0_; have HB := n1_; have BK268 := n2_; have GW268 := n3_; have GE268 := n4_; have NB267_268 := n5_; have NB268_267 := n6_; clear n0_ n1_ n2_ n3_ n4_ n5_ n6_; clear hb hbox hg) | ((with_reducible refine gate_dst (N := 4) rfl ?_); refine box_event ?hg (N := 4) ?hd (cs := #[.int .i64 0, .int .i64 0, .int .i64 0, .int .i64 0]) (t := 25) ?hr ?_; (case hd => rfl); (case hg => rfl); (case hr => first | (go_simp; done) | (go_simp; rfl)); intro gb269 hg w6 hbox hb; have n0_ := Aside0.mk (blk_below (g := gb267) (o := b2 a0_0 a0_1 86) (bz BK267.out) hb); have n1_ := Aside0.mk (blk_below (g := gb268) (o := b2 a1_0 a1_1 90) (bz BK268.out) hb); have n2_ := Aside0.mk (below_step (hz2 HB.out GE267.out GE268.out) hb); have n3_ := Aside0.mk (hbox); have n4_ := Aside0.mk ((by rw [hg]; exact (below_size (hz2 HB.out GE267.out GE268.out)) : w.heap.size ≤ gb269)); have n5_ := Aside0.mk ((by rw [hg]; exact (below_size (hz2 HB.out GE267.out GE268.out)) : w.heap.size ≤ gb269)); have n6_ := Aside0.mk ((by rw [hg]; exact Nat.ne_of_lt (blk_lt (g := gb267) (o := b2 a0_0 a0_1 86) (bz BK267.out)) : gb267 ≠ gb269)); have n7_ := Aside0.mk ((by rw [hg]; exact Nat.ne_of_gt (blk_lt (g := gb267) (o := b2 a0_0 a0_1 86) (bz BK267.out)) : gb269 ≠ gb267)); have n8_ := Aside0.mk ((by rw [hg]; exact Nat.ne_of_lt (blk_lt (g := gb268) (o := b2 a1_0 a1_1 90) (bz BK268.out)) : gb268 ≠ gb269)); have n9_ := Aside0.mk ((by rw [hg]; exact Nat.ne_of_gt (blk_lt (g := gb268) (o := b2 a1_0 a1_1 90) (bz BK268.out)) : gb269 ≠ gb268)); clear BK267; clear BK268; clear HB; have BK267 := n0_; have BK268 := n1_; have HB := n2_; have BK269 := n3_; have GW269 := n4_; have GE269 := n5_; have NB267_269 := n6_; have NB269_267 := n7_; have NB268_269 := n8_; have NB269_268 := n9_; clear n0_ n1_ n2_ n3_ n4_ n5_ n6_ n7_ n8_ n9_; clear hb hbox hg))
 repeat (go_quiet (first | ((with_reducible refine gate_dst (N := 2) rfl ?_); refine box_event ?hg (N := 2) ?hd (cs := #[.int .i64 a0_0, .int .i64 a0_1]) (t := 86) ?hr ?_; (case hd => rfl); (case hg => rfl); (case hr => first | (go_simp; done) | (go_simp; rfl)); intro gb267 hg w4 hbox hb; have n0_ := Aside0.mk (below_step (hz HB.out) hb); have n1_ := Aside0.mk (hbox); have n2_ := Aside0.mk ((by rw [hg]; exact (below_size (hz HB.out)) : w.heap.size ≤ gb267)); have n3_ := Aside0.mk ((by rw [hg]; exact (below_size (hz HB.out)) : w.heap.size ≤ gb267)); clear HB; have HB := n0_; have BK267 := n1_; have GW267 := n2_; have GE267 := n3_; clear n0_ n1_ n2_ n3_; clear hb hbox hg) | ((with_reducible refine gate_dst (N := 3) rfl ?_); refine box_event ?hg (N := 3) ?hd (cs := #[.int .i64 a1_0, .int .i64 a1_1]) (t := 90) ?hr ?_; (case hd => rfl); (case hg => rfl); (case hr => first | (go_simp; done) | (go_simp; rfl)); intro gb268 hg w5 hbox hb; have n0_ := Aside0.mk (blk_below (g := gb267) (o := b2 a0_0 a0_1 86) (bz BK267.out) hb); have n1_ := Aside0.mk (below_step (hz1 HB.out GE267.out) hb); have n2_ := Aside0.mk (hbox); have n3_ := Aside0.mk ((by rw [hg]; exact (below_size (hz1 HB.out GE267.out)) : w.heap.size ≤ gb268)); have n4_ := Aside0.mk ((by rw [hg]; exact (below_size (hz1 HB.out GE267.out)) : w.heap.size ≤ gb268)); have n5_ := Aside0.mk ((by rw [hg]; exact Nat.ne_of_lt (blk_lt (g := gb267) (o := b2 a0_0 a0_1 86) (bz BK267.out)) : gb267 ≠ gb268)); have n6_ := Aside0.mk ((by rw [hg]; exact Nat.ne_of_gt (blk_lt (g := gb267) (o := b2 a0_0 a0_1 86) (bz BK267.out)) : gb268 ≠ gb267)); clear BK267; clear HB; have BK267 := n0_; have HB := n1_; have BK268 := n2_; have GW268 := n3_; have GE268 := n4_; have NB267_268 := n5_; have NB268_267 := n6_; clear n0_ n1_ n2_ n3_ n4_ n5_ n6_; clear hb hbox hg) | ((with_reducible refine gate_dst (N := 4) rfl ?_); refine box_event ?hg (N := 4) ?hd (cs := #[.int .i64 0, .int .i64 0, .int .i64 0, .int .i64 0]) (t := 25) ?hr ?_; (case hd => rfl); (case hg => rfl); (case hr => first | (go_simp; done) | (go_simp; rfl)); intro gb269 hg w6 hbox hb; have n0_ := Aside0.mk (blk_below (g := gb267) (o := b2 a0_0 a0_1 86) (bz BK267.out) hb); have n1_ := Aside0.mk (blk_below (g := gb268) (o := b2 a1_0 a1_1 90) (bz BK268.out) hb); have n2_ := Aside0.mk (below_step (hz2 HB.out GE267.out GE268.out) hb); have n3_ := Aside0.mk (hbox); have n4_ := Aside0.mk ((by rw [hg]; exact (below_size (hz2 HB.out GE267.out GE268.out)) : w.heap.size ≤ gb269)); have n5_ := Aside0.mk ((by rw [hg]; exact (below_size (hz2 HB.out GE267.out GE268.out)) : w.heap.size ≤ gb269)); have n6_ := Aside0.mk ((by rw [hg]; exact Nat.ne_of_lt (blk_lt (g := gb267) (o := b2 a0_0 a0_1 86) (bz BK267.out)) : gb267 ≠ gb269)); have n7_ := Aside0.mk ((by rw [hg]; exact Nat.ne_of_gt (blk_lt (g := gb267) (o := b2 a0_0 a0_1 86) (bz BK267.out)) : gb269 ≠ gb267)); have n8_ := Aside0.mk ((by rw [hg]; exact Nat.ne_of_lt (blk_lt (g := gb268) (o := b2 a1_0 a1_1 90) (bz BK268.out)) : gb268 ≠ gb269)); have n9_ := Aside0.mk ((by rw [hg]; exact Nat.ne_of_gt (blk_lt (g := gb268) (o := b2 a1_0 a1_1 90) (bz BK268.out)) : gb269 ≠ gb268)); clear BK267; clear BK268; clear HB; have BK267 := n0_; have BK268 := n1_; have HB := n2_; have BK269 := n3_; have GW269 := n4_; have GE269 := n5_; have NB267_269 := n6_; have NB269_267 := n7_; have NB268_269 := n8_; have NB269_268 := n9_; clear n0_ n1_ n2_ n3_ n4_ n5_ n6_ n7_ n8_ n9_; clear hb hbox hg)); go_upto_region 1 with (first | ((with_reducible refine gate_dst (N := 2) rfl ?_); refine box_event ?hg (N := 2) ?hd (cs := #[.int .i64 a0_0, .int .i64 a0_1]) (t := 86) ?hr ?_; (case hd => rfl); (case hg => rfl); (case hr => first | (go_simp; done) | (go_simp; rfl)); intro gb267 hg w4 hbox hb; have n0_ := Aside0.mk (below_step (hz HB.out) hb); have n1_ := Aside0.mk (hbox); have n2_ := Aside0.mk ((by rw [hg]; exact (below_size (hz HB.out)) : w.heap.size ≤ gb267)); have n3_ := Aside0.mk ((by rw [hg]; exact (below_size (hz HB.out)) : w.heap.size ≤ gb267)); clear HB; have HB := n0_; have BK267 := n1_; have GW267 := n2_; have GE267 := n3_; clear n0_ n1_ n2_ n3_; clear hb hbox hg) | ((with_reducible refine gate_dst (N := 3) rfl ?_); refine box_event ?hg (N := 3) ?hd (cs := #[.int .i64 a1_0, .int .i64 a1_1]) (t := 90) ?hr ?_; (case hd => rfl); (case hg => rfl); (case hr => first | (go_simp; done) | (go_simp; rfl)); intro gb268 hg w5 hbox hb; have n0_ := Aside0.mk (blk_below (g := gb267) (o := b2 a0_0 a0_1 86) (bz BK267.out) hb); have n1_ := Aside0.mk (below_step (hz1 HB.out GE267.out) hb); have n2_ := Aside0.mk (hbox); have n3_ := Aside0.mk ((by rw [hg]; exact (below_size (hz1 HB.out GE267.out)) : w.heap.size ≤ gb268)); have n4_ := Aside0.mk ((by rw [hg]; exact (below_size (hz1 HB.out GE267.out)) : w.heap.size ≤ gb268)); have n5_ := Aside0.mk ((by rw [hg]; exact Nat.ne_of_lt (blk_lt (g := gb267) (o := b2 a0_0 a0_1 86) (bz BK267.out)) : gb267 ≠ gb268)); have n6_ := Aside0.mk ((by rw [hg]; exact Nat.ne_of_gt (blk_lt (g := gb267) (o := b2 a0_0 a0_1 86) (bz BK267.out)) : gb268 ≠ gb267)); clear BK267; clear HB; have BK267 := n0_; have HB := n1_; have BK268 := n2_; have GW268 := n3_; have GE268 := n4_; have NB267_268 := n5_; have NB268_267 := n6_; clear n0_ n1_ n2_ n3_ n4_ n5_ n6_; clear hb hbox hg) | ((with_reducible refine gate_dst (N := 4) rfl ?_); refine box_event ?hg (N := 4) ?hd (cs := #[.int .i64 0, .int .i64 0, .int .i64 0, .int .i64 0]) (t := 25) ?hr ?_; (case hd => rfl); (case hg => rfl); (case hr => first | (go_simp; done) | (go_simp; rfl)); intro gb269 hg w6 hbox hb; have n0_ := Aside0.mk (blk_below (g := gb267) (o := b2 a0_0 a0_1 86) (bz BK267.out) hb); have n1_ := Aside0.mk (blk_below (g := gb268) (o := b2 a1_0 a1_1 90) (bz BK268.out) hb); have n2_ := Aside0.mk (below_step (hz2 HB.out GE267.out GE268.out) hb); have n3_ := Aside0.mk (hbox); have n4_ := Aside0.mk ((by rw [hg]; exact (below_size (hz2 HB.out GE267.out GE268.out)) : w.heap.size ≤ gb269)); have n5_ := Aside0.mk ((by rw [hg]; exact (below_size (hz2 HB.out GE267.out GE268.out)) : w.heap.size ≤ gb269)); have n6_ := Aside0.mk ((by rw [hg]; exact Nat.ne_of_lt (blk_lt (g := gb267) (o := b2 a0_0 a0_1 86) (bz BK267.out)) : gb267 ≠ gb269)); have n7_ := Aside0.mk ((by rw [hg]; exact Nat.ne_of_gt (blk_lt (g := gb267) (o := b2 a0_0 a0_1 86) (bz BK267.out)) : gb269 ≠ gb267)); have n8_ := Aside0.mk ((by rw [hg]; exact Nat.ne_of_lt (blk_lt (g := gb268) (o := b2 a1_0 a1_1 90) (bz BK268.out)) : gb268 ≠ gb269)); have n9_ := Aside0.mk ((by rw [hg]; exact Nat.ne_of_gt (blk_lt (g := gb268) (o := b2 a1_0 a1_1 90) (bz BK268.out)) : gb269 ≠ gb268)); clear BK267; clear BK268; clear HB; have BK267 := n0_; have BK268 := n1_; have HB := n2_; have BK269 := n3_; have GW269 := n4_; have GE269 := n5_; have NB267_269 := n6_; have NB269_267 := n7_; have NB268_269 := n8_; have NB269_268 := n9_; clear n0_ n1_ n2_ n3_ n4_ n5_ n6_ n7_ n8_ n9_; clear hb hbox hg)))
 (try simp only [Act.put, List.setIfInBounds_toArray, List.set_cons_zero, List.set_cons_succ])
 go_cut [18] (fun v18 wc => ∃ (kq : Nat) (x18_2 : Bool), v18 = .bool x18_2 ∧ Aside0 (impl_ValMake.j0 kq x18_2 a0_0 a0_1 a1_0 a1_1 = some (r1, r2, r3, r4)) ∧ Aside0 (kq ≤ k) ∧ Aside0 (wc.heap[gb267]? = some (.cells #[.int .i64 a0_0, .int .i64 a0_1] 86 (0, 0))) ∧ Aside0 (wc.heap[gb268]? = some (.cells #[.int .i64 a1_0, .int .i64 a1_1] 90 (0, 0))) ∧ Aside0 (wc.heap[gb269]? = some (.cells #[.int .i64 0, .int .i64 0, .int .i64 0, .int .i64 0] 25 (0, 0))) ∧ Aside0 (Below w.heap.size w wc))
 case first =>
  have H := HC3.out
  clear HC3
  replace H := Option.bind_eq_some_iff.mp H
  obtain ⟨t270, A70, H⟩ := H
  replace H : (if t270 = true then ((impl_RestOk.f a1_0 a1_1).bind fun t271 => (if t271 = true then ((impl_Range_empty.f a0_0 a0_1).bind fun t272 => (impl_ValMake.j0 k t272 a0_0 a0_1 a1_0 a1_1)) else (impl_ValMake.j0 k true a0_0 a0_1 a1_0 a1_1))) else (impl_ValMake.j0 k true a0_0 a0_1 a1_0 a1_1)) = some (r1, r2, r3, r4) := H
  have A7 := Aside0.mk A70
  clear A70
  by_cases c8 : t270 = true
  ·subst c8
   have H1 : ((impl_RestOk.f a1_0 a1_1).bind fun t271 => (if t271 = true then ((impl_Range_empty.f a0_0 a0_1).bind fun t272 => (impl_ValMake.j0 k t272 a0_0 a0_1 a1_0 a1_1)) else (impl_ValMake.j0 k true a0_0 a0_1 a1_0 a1_1))) = some (r1, r2, r3, r4) := by rw [if_pos rfl] at H; exact H
   clear H
   have H := H1
   clear H1
   replace H := Option.bind_eq_some_iff.mp H
   obtain ⟨t271, A90, H⟩ := H
   replace H : (if t271 = true then ((impl_Range_empty.f a0_0 a0_1).bind fun t272 => (impl_ValMake.j0 k t272 a0_0 a0_1 a1_0 a1_1)) else (impl_ValMake.j0 k true a0_0 a0_1 a1_0 a1_1)) = some (r1, r2, r3, r4) := H
   have A9 := Aside0.mk A90
   clear A90
   by_cases c10 : t271 = true
   ·subst c10
    have H1 : ((impl_Range_empty.f a0_0 a0_1).bind fun t272 => (impl_ValMake.j0 k t272 a0_0 a0_1 a1_0 a1_1)) = some (r1, r2, r3, r4) := by rw [if_pos rfl] at H; exact H
    clear H
    have H := H1
    clear H1
    replace H := Option.bind_eq_some_iff.mp H
    obtain ⟨t272, A110, H⟩ := H
    replace H : (impl_ValMake.j0 k t272 a0_0 a0_1 a1_0 a1_1) = some (r1, r2, r3, r4) := H
    have A11 := Aside0.mk A110
    clear A110
    have H' := Aside0.mk H
    clear H
    have hnb12 := NB267_268.out
    have hnc12 := NB268_267.out
    have hnb13 := NB267_269.out
    have hnc13 := NB269_267.out
    have hcz14_0 : w6.cell? ⟨gb267, 0, none⟩ = some (.int .i64 a0_0) := bc BK267 0
    have hcz14_1 : w6.cell? ⟨gb267, 1, none⟩ = some (.int .i64 a0_1) := bc BK267 1
    have hfz14_0 := blk_frozen BK267.out 0
    have hfz14_1 := blk_frozen BK267.out 1
    go_wp2_with (first | (go_at_call 120; (with_reducible refine (impl_RangeOk.calls a0_0 a0_1 true _ A7.out).mono ?_); rintro e w15 ⟨rfl, hb⟩; have n0_ := Aside0.mk (blk_below (g := gb267) (o := b2 a0_0 a0_1 86) (bz BK267.out) hb); have n1_ := Aside0.mk (blk_below (g := gb268) (o := b2 a1_0 a1_1 90) (bz BK268.out) hb); have n2_ := Aside0.mk (blk_below (g := gb269) (o := b4 0 0 0 0 25) (bz BK269.out) hb); have n3_ := Aside0.mk (below_step (hz3 HB.out GE267.out GE268.out GE269.out) hb); clear BK267; clear BK268; clear BK269; clear HB; have BK267 := n0_; have BK268 := n1_; have BK269 := n2_; have HB := n3_; clear n0_ n1_ n2_ n3_; (try clear hb); (try clear hb2); (try clear hk); (try clear hi); have hnb16 := NB268_269.out; have hnc16 := NB269_268.out; have hcz17_0 : w15.cell? ⟨gb268, 0, none⟩ = some (.int .i64 a1_0) := bc BK268 0; have hcz17_1 : w15.cell? ⟨gb268, 1, none⟩ = some (.int .i64 a1_1) := bc BK268 1; have hfz17_0 := blk_frozen BK268.out 0; have hfz17_1 := blk_frozen BK268.out 1) | (go_at_call 121; (with_reducible refine (impl_RestOk.calls a1_0 a1_1 true _ A9.out).mono ?_); rintro e w18 ⟨rfl, hb⟩; have n0_ := Aside0.mk (blk_below (g := gb267) (o := b2 a0_0 a0_1 86) (bz BK267.out) hb); have n1_ := Aside0.mk (blk_below (g := gb268) (o := b2 a1_0 a1_1 90) (bz BK268.out) hb); have n2_ := Aside0.mk (blk_below (g := gb269) (o := b4 0 0 0 0 25) (bz BK269.out) hb); have n3_ := Aside0.mk (below_step (hz3 HB.out GE267.out GE268.out GE269.out) hb); clear BK267; clear BK268; clear BK269; clear HB; have BK267 := n0_; have BK268 := n1_; have BK269 := n2_; have HB := n3_; clear n0_ n1_ n2_ n3_; (try clear hb); (try clear hb2); (try clear hk); (try clear hi); have hcz19_0 : w18.cell? ⟨gb267, 0, none⟩ = some (.int .i64 a0_0) := bc BK267 0; have hcz19_1 : w18.cell? ⟨gb267, 1, none⟩ = some (.int .i64 a0_1) := bc BK267 1; have hfz19_0 := blk_frozen BK267.out 0; have hfz19_1 := blk_frozen BK267.out 1) | (go_at_call 124; (with_reducible refine (impl_Range_empty.calls a0_0 a0_1 t272 _ A11.out).mono ?_); rintro e w20 ⟨rfl, hb⟩; have n0_ := Aside0.mk (blk_below (g := gb267) (o := b2 a0_0 a0_1 86) (bz BK267.out) hb); have n1_ := Aside0.mk (blk_below (g := gb268) (o := b2 a1_0 a1_1 90) (bz BK268.out) hb); have n2_ := Aside0.mk (blk_below (g := gb269) (o := b4 0 0 0 0 25) (bz BK269.out) hb); have n3_ := Aside0.mk (below_step (hz3 HB.out GE267.out GE268.out GE269.out) hb); clear BK267; clear BK268; clear BK269; clear HB; have BK267 := n0_; have BK268 := n1_; have BK269 := n2_; have HB := n3_; clear n0_ n1_ n2_ n3_; (try clear hb); (try clear hb2); (try clear hk); (try clear hi)))
    try have hnb16 := NB268_269.out
    try have hnc16 := NB269_268.out
    try have hcz17_0 : w15.cell? ⟨gb268, 0, none⟩ = some (.int .i64 a1_0) := bc BK268 0
    try have hcz17_1 : w15.cell? ⟨gb268, 1, none⟩ = some (.int .i64 a1_1) := bc BK268 1
    try have hfz17_0 := blk_frozen BK268.out 0
    try have hfz17_1 := blk_frozen BK268.out 1
    try have hcz19_0 : w18.cell? ⟨gb267, 0, none⟩ = some (.int .i64 a0_0) := bc BK267 0
    try have hcz19_1 : w18.cell? ⟨gb267, 1, none⟩ = some (.int .i64 a0_1) := bc BK267 1
    try have hfz19_0 := blk_frozen BK267.out 0
    try have hfz19_1 := blk_frozen BK267.out 1
    repeat (go_quiet (first | (go_at_call 120; (with_reducible refine (impl_RangeOk.calls a0_0 a0_1 true _ A7.out).mono ?_); rintro e w15 ⟨rfl, hb⟩; have n0_ := Aside0.mk (blk_below (g := gb267) (o := b2 a0_0 a0_1 86) (bz BK267.out) hb); have n1_ := Aside0.mk (blk_below (g := gb268) (o := b2 a1_0 a1_1 90) (bz BK268.out) hb); have n2_ := Aside0.mk (blk_below (g := gb269) (o := b4 0 0 0 0 25) (bz BK269.out) hb); have n3_ := Aside0.mk (below_step (hz3 HB.out GE267.out GE268.out GE269.out) hb); clear BK267; clear BK268; clear BK269; clear HB; have BK267 := n0_; have BK268 := n1_; have BK269 := n2_; have HB := n3_; clear n0_ n1_ n2_ n3_; (try clear hb); (try clear hb2); (try clear hk); (try clear hi); (try (have hnb16 := NB268_269.out; have hnc16 := NB269_268.out; have hcz17_0 : w15.cell? ⟨gb268, 0, none⟩ = some (.int .i64 a1_0) := bc BK268 0; have hcz17_1 : w15.cell? ⟨gb268, 1, none⟩ = some (.int .i64 a1_1) := bc BK268 1; have hfz17_0 := blk_frozen BK268.out 0; have hfz17_1 := blk_frozen BK268.out 1))) | (go_at_call 121; (with_reducible refine (impl_RestOk.calls a1_0 a1_1 true _ A9.out).mono ?_); rintro e w18 ⟨rfl, hb⟩; have n0_ := Aside0.mk (blk_below (g := gb267) (o := b2 a0_0 a0_1 86) (bz BK267.out) hb); have n1_ := Aside0.mk (blk_below (g := gb268) (o := b2 a1_0 a1_1 90) (bz BK268.out) hb); have n2_ := Aside0.mk (blk_below (g := gb269) (o := b4 0 0 0 0 25) (bz BK269.out) hb); have n3_ := Aside0.mk (below_step (hz3 HB.out GE267.out GE268.out GE269.out) hb); clear BK267; clear BK268; clear BK269; clear HB; have BK267 := n0_; have BK268 := n1_; have BK269 := n2_; have HB := n3_; clear n0_ n1_ n2_ n3_; (try clear hb); (try clear hb2); (try clear hk); (try clear hi); (try (have hcz19_0 : w18.cell? ⟨gb267, 0, none⟩ = some (.int .i64 a0_0) := bc BK267 0; have hcz19_1 : w18.cell? ⟨gb267, 1, none⟩ = some (.int .i64 a0_1) := bc BK267 1; have hfz19_0 := blk_frozen BK267.out 0; have hfz19_1 := blk_frozen BK267.out 1))) | (go_at_call 124; (with_reducible refine (impl_Range_empty.calls a0_0 a0_1 t272 _ A11.out).mono ?_); rintro e w20 ⟨rfl, hb⟩; have n0_ := Aside0.mk (blk_below (g := gb267) (o := b2 a0_0 a0_1 86) (bz BK267.out) hb); have n1_ := Aside0.mk (blk_below (g := gb268) (o := b2 a1_0 a1_1 90) (bz BK268.out) hb); have n2_ := Aside0.mk (blk_below (g := gb269) (o := b4 0 0 0 0 25) (bz BK269.out) hb); have n3_ := Aside0.mk (below_step (hz3 HB.out GE267.out GE268.out GE269.out) hb); clear BK267; clear BK268; clear BK269; clear HB; have BK267 := n0_; have BK268 := n1_; have BK269 := n2_; have HB := n3_; clear n0_ n1_ n2_ n3_; (try clear hb); (try clear hb2); (try clear hk); (try clear hi))); try go_wp2_with (first | (go_at_call 120; (with_reducible refine (impl_RangeOk.calls a0_0 a0_1 true _ A7.out).mono ?_); rintro e w15 ⟨rfl, hb⟩; have n0_ := Aside0.mk (blk_below (g := gb267) (o := b2 a0_0 a0_1 86) (bz BK267.out) hb); have n1_ := Aside0.mk (blk_below (g := gb268) (o := b2 a1_0 a1_1 90) (bz BK268.out) hb); have n2_ := Aside0.mk (blk_below (g := gb269) (o := b4 0 0 0 0 25) (bz BK269.out) hb); have n3_ := Aside0.mk (below_step (hz3 HB.out GE267.out GE268.out GE269.out) hb); clear BK267; clear BK268; clear BK269; clear HB; have BK267 := n0_; have BK268 := n1_; have BK269 := n2_; have HB := n3_; clear n0_ n1_ n2_ n3_; (try clear hb); (try clear hb2); (try clear hk); (try clear hi); (try (have hnb16 := NB268_269.out; have hnc16 := NB269_268.out; have hcz17_0 : w15.cell? ⟨gb268, 0, none⟩ = some (.int .i64 a1_0) := bc BK268 0; have hcz17_1 : w15.cell? ⟨gb268, 1, none⟩ = some (.int .i64 a1_1) := bc BK268 1; have hfz17_0 := blk_frozen BK268.out 0; have hfz17_1 := blk_frozen BK268.out 1))) | (go_at_call 121; (with_reducible refine (impl_RestOk.calls a1_0 a1_1 true _ A9.out).mono ?_); rintro e w18 ⟨rfl, hb⟩; have n0_ := Aside0.mk (blk_below (g := gb267) (o := b2 a0_0 a0_1 86) (bz BK267.out) hb); have n1_ := Aside0.mk (blk_below (g := gb268) (o := b2 a1_0 a1_1 90) (bz BK268.out) hb); have n2_ := Aside0.mk (blk_below (g := gb269) (o := b4 0 0 0 0 25) (bz BK269.out) hb); have n3_ := Aside0.mk (below_step (hz3 HB.out GE267.out GE268.out GE269.out) hb); clear BK267; clear BK268; clear BK269; clear HB; have BK267 := n0_; have BK268 := n1_; have BK269 := n2_; have HB := n3_; clear n0_ n1_ n2_ n3_; (try clear hb); (try clear hb2); (try clear hk); (try clear hi); (try (have hcz19_0 : w18.cell? ⟨gb267, 0, none⟩ = some (.int .i64 a0_0) := bc BK267 0; have hcz19_1 : w18.cell? ⟨gb267, 1, none⟩ = some (.int .i64 a0_1) := bc BK267 1; have hfz19_0 := blk_frozen BK267.out 0; have hfz19_1 := blk_frozen BK267.out 1))) | (go_at_call 124; (with_reducible refine (impl_Range_empty.calls a0_0 a0_1 t272 _ A11.out).mono ?_); rintro e w20 ⟨rfl, hb⟩; have n0_ := Aside0.mk (blk_below (g := gb267) (o := b2 a0_0 a0_1 86) (bz BK267.out) hb); have n1_ := Aside0.mk (blk_below (g := gb268) (o := b2 a1_0 a1_1 90) (bz BK268.out) hb); have n2_ := Aside0.mk (blk_below (g := gb269) (o := b4 0 0 0 0 25) (bz BK269.out) hb); have n3_ := Aside0.mk (below_step (hz3 HB.out GE267.out GE268.out GE269.out) hb); clear BK267; clear BK268; clear BK269; clear HB; have BK267 := n0_; have BK268 := n1_; have BK269 := n2_; have HB := n3_; clear n0_ n1_ n2_ n3_; (try clear hb); (try clear hb2); (try clear hk); (try clear hi))))
    go_meet
    case rel => exact ⟨_, (t272), (by first | rfl | (simp; done) | (simp [*]; done)), H', ⟨by first | omega | exact Nat.le_refl _⟩, ⟨bz BK267.out⟩, ⟨bz BK268.out⟩, ⟨bz BK269.out⟩, ⟨hz3 HB.out GE267.out GE268.out GE269.out⟩⟩
   ·replace c10 := Bool.eq_false_iff.mpr c10
    subst c10
    have H1 : (impl_ValMake.j0 k true a0_0 a0_1 a1_0 a1_1) = some (r1, r2, r3, r4) := by rw [if_neg (show ¬ (false = true) by decide)] at H; exact H
    clear H
    have H := H1
    clear H1
    have H' := Aside0.mk H
    clear H
    have hnb21 := NB267_268.out
    have hnc21 := NB268_267.out
    have hnb22 := NB267_269.out
    have hnc22 := NB269_267.out
    have hcz23_0 : w6.cell? ⟨gb267, 0, none⟩ = some (.int .i64 a0_0) := bc BK267 0
    have hcz23_1 : w6.cell? ⟨gb267, 1, none⟩ = some (.int .i64 a0_1) := bc BK267 1
    have hfz23_0 := blk_frozen BK267.out 0
    have hfz23_1 := blk_frozen BK267.out 1
    go_wp2_with (first | (go_at_call 120; (with_reducible refine (impl_RangeOk.calls a0_0 a0_1 true _ A7.out).mono ?_); rintro e w24 ⟨rfl, hb⟩; have n0_ := Aside0.mk (blk_below (g := gb267) (o := b2 a0_0 a0_1 86) (bz BK267.out) hb); have n1_ := Aside0.mk (blk_below (g := gb268) (o := b2 a1_0 a1_1 90) (bz BK268.out) hb); have n2_ := Aside0.mk (blk_below (g := gb269) (o := b4 0 0 0 0 25) (bz BK269.out) hb); have n3_ := Aside0.mk (below_step (hz3 HB.out GE267.out GE268.out GE269.out) hb); clear BK267; clear BK268; clear BK269; clear HB; have BK267 := n0_; have BK268 := n1_; have BK269 := n2_; have HB := n3_; clear n0_ n1_ n2_ n3_; (try clear hb); (try clear hb2); (try clear hk); (try clear hi); have hnb25 := NB268_269.out; have hnc25 := NB269_268.out; have hcz26_0 : w24.cell? ⟨gb268, 0, none⟩ = some (.int .i64 a1_0) := bc BK268 0; have hcz26_1 : w24.cell? ⟨gb268, 1, none⟩ = some (.int .i64 a1_1) := bc BK268 1; have hfz26_0 := blk_frozen BK268.out 0; have hfz26_1 := blk_frozen BK268.out 1) | (go_at_call 121; (with_reducible refine (impl_RestOk.calls a1_0 a1_1 false _ A9.out).mono ?_); rintro e w27 ⟨rfl, hb⟩; have n0_ := Aside0.mk (blk_below (g := gb267) (o := b2 a0_0 a0_1 86) (bz BK267.out) hb); have n1_ := Aside0.mk (blk_below (g := gb268) (o := b2 a1_0 a1_1 90) (bz BK268.out) hb); have n2_ := Aside0.mk (blk_below (g := gb269) (o := b4 0 0 0 0 25) (bz BK269.out) hb); have n3_ := Aside0.mk (below_step (hz3 HB.out GE267.out GE268.out GE269.out) hb); clear BK267; clear BK268; clear BK269; clear HB; have BK267 := n0_; have BK268 := n1_; have BK269 := n2_; have HB := n3_; clear n0_ n1_ n2_ n3_; (try clear hb); (try clear hb2); (try clear hk); (try clear hi)))
    try have hnb25 := NB268_269.out
    try have hnc25 := NB269_268.out
    try have hcz26_0 : w24.cell? ⟨gb268, 0, none⟩ = some (.int .i64 a1_0) := bc BK268 0
    try have hcz26_1 : w24.cell? ⟨gb268, 1, none⟩ = some (.int .i64 a1_1) := bc BK268 1
    try have hfz26_0 := blk_frozen BK268.out 0
    try have hfz26_1 := blk_frozen BK268.out 1
    repeat (go_quiet (first | (go_at_call 120; (with_reducible refine (impl_RangeOk.calls a0_0 a0_1 true _ A7.out).mono ?_); rintro e w24 ⟨rfl, hb⟩; have n0_ := Aside0.mk (blk_below (g := gb267) (o := b2 a0_0 a0_1 86) (bz BK267.out) hb); have n1_ := Aside0.mk (blk_below (g := gb268) (o := b2 a1_0 a1_1 90) (bz BK268.out) hb); have n2_ := Aside0.mk (blk_below (g := gb269) (o := b4 0 0 0 0 25) (bz BK269.out) hb); have n3_ := Aside0.mk (below_step (hz3 HB.out GE267.out GE268.out GE269.out) hb); clear BK267; clear BK268; clear BK269; clear HB; have BK267 := n0_; have BK268 := n1_; have BK269 := n2_; have HB := n3_; clear n0_ n1_ n2_ n3_; (try clear hb); (try clear hb2); (try clear hk); (try clear hi); (try (have hnb25 := NB268_269.out; have hnc25 := NB269_268.out; have hcz26_0 : w24.cell? ⟨gb268, 0, none⟩ = some (.int .i64 a1_0) := bc BK268 0; have hcz26_1 : w24.cell? ⟨gb268, 1, none⟩ = some (.int .i64 a1_1) := bc BK268 1; have hfz26_0 := blk_frozen BK268.out 0; have hfz26_1 := blk_frozen BK268.out 1))) | (go_at_call 121; (with_reducible refine (impl_RestOk.calls a1_0 a1_1 false _ A9.out).mono ?_); rintro e w27 ⟨rfl, hb⟩; have n0_ := Aside0.mk (blk_below (g := gb267) (o := b2 a0_0 a0_1 86) (bz BK267.out) hb); have n1_ := Aside0.mk (blk_below (g := gb268) (o := b2 a1_0 a1_1 90) (bz BK268.out) hb); have n2_ := Aside0.mk (blk_below (g := gb269) (o := b4 0 0 0 0 25) (bz BK269.out) hb); have n3_ := Aside0.mk (below_step (hz3 HB.out GE267.out GE268.out GE269.out) hb); clear BK267; clear BK268; clear BK269; clear HB; have BK267 := n0_; have BK268 := n1_; have BK269 := n2_; have HB := n3_; clear n0_ n1_ n2_ n3_; (try clear hb); (try clear hb2); (try clear hk); (try clear hi))); try go_wp2_with (first | (go_at_call 120; (with_reducible refine (impl_RangeOk.calls a0_0 a0_1 true _ A7.out).mono ?_); rintro e w24 ⟨rfl, hb⟩; have n0_ := Aside0.mk (blk_below (g := gb267) (o := b2 a0_0 a0_1 86) (bz BK267.out) hb); have n1_ := Aside0.mk (blk_below (g := gb268) (o := b2 a1_0 a1_1 90) (bz BK268.out) hb); have n2_ := Aside0.mk (blk_below (g := gb269) (o := b4 0 0 0 0 25) (bz BK269.out) hb); have n3_ := Aside0.mk (below_step (hz3 HB.out GE267.out GE268.out GE269.out) hb); clear BK267; clear BK268; clear BK269; clear HB; have BK267 := n0_; have BK268 := n1_; have BK269 := n2_; have HB := n3_; clear n0_ n1_ n2_ n3_; (try clear hb); (try clear hb2); (try clear hk); (try clear hi); (try (have hnb25 := NB268_269.out; have hnc25 := NB269_268.out; have hcz26_0 : w24.cell? ⟨gb268, 0, none⟩ = some (.int .i64 a1_0) := bc BK268 0; have hcz26_1 : w24.cell? ⟨gb268, 1, none⟩ = some (.int .i64 a1_1) := bc BK268 1; have hfz26_0 := blk_frozen BK268.out 0; have hfz26_1 := blk_frozen BK268.out 1))) | (go_at_call 121; (with_reducible refine (impl_RestOk.calls a1_0 a1_1 false _ A9.out).mono ?_); rintro e w27 ⟨rfl, hb⟩; have n0_ := Aside0.mk (blk_below (g := gb267) (o := b2 a0_0 a0_1 86) (bz BK267.out) hb); have n1_ := Aside0.mk (blk_below (g := gb268) (o := b2 a1_0 a1_1 90) (bz BK268.out) hb); have n2_ := Aside0.mk (blk_below (g := gb269) (o := b4 0 0 0 0 25) (bz BK269.out) hb); have n3_ := Aside0.mk (below_step (hz3 HB.out GE267.out GE268.out GE269.out) hb); clear BK267; clear BK268; clear BK269; clear HB; have BK267 := n0_; have BK268 := n1_; have BK269 := n2_; have HB := n3_; clear n0_ n1_ n2_ n3_; (try clear hb); (try clear hb2); (try clear hk); (try clear hi))))
    go_meet
    case rel => exact ⟨_, (true), (by first | rfl | (simp; done) | (simp [*]; done)), H', ⟨by first | omega | exact Nat.le_refl _⟩, ⟨bz BK267.out⟩, ⟨bz BK268.out⟩, ⟨bz BK269.out⟩, ⟨hz3 HB.out GE267.out GE268.out GE269.out⟩⟩
  ·replace c8 := Bool.eq_false_iff.mpr c8
   subst c8
   have H1 : (impl_ValMake.j0 k true a0_0 a0_1 a1_0 a1_1) = some (r1, r2, r3, r4) := by rw [if_neg (show ¬ (false = true) by decide)] at H; exact H
   clear H
   have H := H1
   clear H1
   have H' := Aside0.mk H
   clear H
   have hnb28 := NB267_268.out
   have hnc28 := NB268_267.out
   have hnb29 := NB267_269.out
   have hnc29 := NB269_267.out
   have hcz30_0 : w6.cell? ⟨gb267, 0, none⟩ = some (.int .i64 a0_0) := bc BK267 0
   have hcz30_1 : w6.cell? ⟨gb267, 1, none⟩ = some (.int .i64 a0_1) := bc BK267 1
   have hfz30_0 := blk_frozen BK267.out 0
   have hfz30_1 := blk_frozen BK267.out 1
   go_wp2_with (first | (go_at_call 120; (with_reducible refine (impl_RangeOk.calls a0_0 a0_1 false _ A7.out).mono ?_); rintro e w31 ⟨rfl, hb⟩; have n0_ := Aside0.mk (blk_below (g := gb267) (o := b2 a0_0 a0_1 86) (bz BK267.out) hb); have n1_ := Aside0.mk (blk_below (g := gb268) (o := b2 a1_0 a1_1 90) (bz BK268.out) hb); have n2_ := Aside0.mk (blk_below (g := gb269) (o := b4 0 0 0 0 25) (bz BK269.out) hb); have n3_ := Aside0.mk (below_step (hz3 HB.out GE267.out GE268.out GE269.out) hb); clear BK267; clear BK268; clear BK269; clear HB; have BK267 := n0_; have BK268 := n1_; have BK269 := n2_; have HB := n3_; clear n0_ n1_ n2_ n3_; (try clear hb); (try clear hb2); (try clear hk); (try clear hi)))
   repeat (go_quiet (first | (go_at_call 120; (with_reducible refine (impl_RangeOk.calls a0_0 a0_1 false _ A7.out).mono ?_); rintro e w31 ⟨rfl, hb⟩; have n0_ := Aside0.mk (blk_below (g := gb267) (o := b2 a0_0 a0_1 86) (bz BK267.out) hb); have n1_ := Aside0.mk (blk_below (g := gb268) (o := b2 a1_0 a1_1 90) (bz BK268.out) hb); have n2_ := Aside0.mk (blk_below (g := gb269) (o := b4 0 0 0 0 25) (bz BK269.out) hb); have n3_ := Aside0.mk (below_step (hz3 HB.out GE267.out GE268.out GE269.out) hb); clear BK267; clear BK268; clear BK269; clear HB; have BK267 := n0_; have BK268 := n1_; have BK269 := n2_; have HB := n3_; clear n0_ n1_ n2_ n3_; (try clear hb); (try clear hb2); (try clear hk); (try clear hi))); try go_wp2_with (first | (go_at_call 120; (with_reducible refine (impl_RangeOk.calls a0_0 a0_1 false _ A7.out).mono ?_); rintro e w31 ⟨rfl, hb⟩; have n0_ := Aside0.mk (blk_below (g := gb267) (o := b2 a0_0 a0_1 86) (bz BK267.out) hb); have n1_ := Aside0.mk (blk_below (g := gb268) (o := b2 a1_0 a1_1 90) (bz BK268.out) hb); have n2_ := Aside0.mk (blk_below (g := gb269) (o := b4 0 0 0 0 25) (bz BK269.out) hb); have n3_ := Aside0.mk (below_step (hz3 HB.out GE267.out GE268.out GE269.out) hb); clear BK267; clear BK268; clear BK269; clear HB; have BK267 := n0_; have BK268 := n1_; have BK269 := n2_; have HB := n3_; clear n0_ n1_ n2_ n3_; (try clear hb); (try clear hb2); (try clear hk); (try clear hi))))
   go_meet
   case rel => exact ⟨_, (true), (by first | rfl | (simp; done) | (simp [*]; done)), H', ⟨by first | omega | exact Nat.le_refl _⟩, ⟨bz BK267.out⟩, ⟨bz BK268.out⟩, ⟨bz BK269.out⟩, ⟨hz3 HB.out GE267.out GE268.out GE269.out⟩⟩
 case rest =>
  clear HC3
  try clear c1
  try clear c2
  try clear p2
  try clear c7
  try clear c8
  try clear c10
  try clear c12
  try clear c13
  try clear c16
  try clear c21
  try clear c22
  try clear c25
  try clear c28
  try clear c29
  try clear hcz14_0
  try clear hcz14_1
  try clear hcz17_0
  try clear hcz17_1
  try clear hcz19_0
  try clear hcz19_1
  try clear hcz23_0
  try clear hcz23_1
  try clear hcz26_0
  try clear hcz26_1
  try clear hcz30_0
  try clear hcz30_1
  try clear hfz14_0
  try clear hfz14_1
  try clear hfz17_0
  try clear hfz17_1
  try clear hfz19_0
  try clear hfz19_1
  try clear hfz23_0
  try clear hfz23_1
  try clear hfz26_0
  try clear hfz26_1
  try clear hfz30_0
  try clear hfz30_1
  obtain ⟨kq, x18_2, rfl, HA, HJ2, BK267, BK268, BK269, HB⟩ := hcut
  cases kq with
  | zero => exact absurd HA.out (by simp [impl_ValMake.j0])
  | succ kj2 =>
   have H := HA.out
   clear HA
   simp only [impl_ValMake.j0] at H
   by_cases c32 : x18_2 = true
   ·subst c32
    have H1 : ((impl_valNone.f).bind fun bt273 => (some (bt273.1, bt273.2.1, bt273.2.2.1, bt273.2.2.2))) = some (r1, r2, r3, r4) := by rw [if_pos rfl] at H; exact H
    clear H
    have H := H1
    clear H1
    replace H := Option.bind_eq_some_iff.mp H
    obtain ⟨⟨t273, t274, t275, t276⟩, A330, H⟩ := H
    replace H : (some (t273, t274, t275, t276)) = some (r1, r2, r3, r4) := H
    have A33 := Aside0.mk A330
    clear A330
    simp only [Option.some.injEq, Prod.mk.injEq] at H
    obtain ⟨rfl, rfl, rfl, rfl⟩ := H
    go_wp2_with (first | (go_at_call 76; (with_reducible refine (impl_valNone.calls  t273 t274 t275 t276 _ A33.out).mono ?_); rintro e w34 ⟨rfl, hb⟩; have n0_ := Aside0.mk (blk_below (g := gb267) (o := b2 a0_0 a0_1 86) (bz BK267.out) hb); have n1_ := Aside0.mk (blk_below (g := gb268) (o := b2 a1_0 a1_1 90) (bz BK268.out) hb); have n2_ := Aside0.mk (blk_below (g := gb269) (o := b4 0 0 0 0 25) (bz BK269.out) hb); have n3_ := Aside0.mk (below_step (hz3 HB.out GE267.out GE268.out GE269.out) hb); clear BK267; clear BK268; clear BK269; clear HB; have BK267 := n0_; have BK268 := n1_; have BK269 := n2_; have HB := n3_; clear n0_ n1_ n2_ n3_; (try clear hb); (try clear hb2); (try clear hk); (try clear hi); have hnb35 := NB269_267.out; have hnc35 := NB267_269.out; have hnb36 := NB269_268.out; have hnc36 := NB268_269.out; have hcz37_0 : w34.cell? ⟨gb269, 0, none⟩ = some (.int .i64 0) := bc BK269 0; have hcz37_1 : w34.cell? ⟨gb269, 1, none⟩ = some (.int .i64 0) := bc BK269 1; have hcz37_2 : w34.cell? ⟨gb269, 2, none⟩ = some (.int .i64 0) := bc BK269 2; have hcz37_3 : w34.cell? ⟨gb269, 3, none⟩ = some (.int .i64 0) := bc BK269 3; have hfz37_0 := blk_frozen BK269.out 0; have hfz37_1 := blk_frozen BK269.out 1; have hfz37_2 := blk_frozen BK269.out 2; have hfz37_3 := blk_frozen BK269.out 3))
    try have hnb35 := NB269_267.out
    try have hnc35 := NB267_269.out
    try have hnb36 := NB269_268.out
    try have hnc36 := NB268_269.out
    try have hcz37_0 : w34.cell? ⟨gb269, 0, none⟩ = some (.int .i64 0) := bc BK269 0
    try have hcz37_1 : w34.cell? ⟨gb269, 1, none⟩ = some (.int .i64 0) := bc BK269 1
    try have hcz37_2 : w34.cell? ⟨gb269, 2, none⟩ = some (.int .i64 0) := bc BK269 2
    try have hcz37_3 : w34.cell? ⟨gb269, 3, none⟩ = some (.int .i64 0) := bc BK269 3
    try have hfz37_0 := blk_frozen BK269.out 0
    try have hfz37_1 := blk_frozen BK269.out 1
    try have hfz37_2 := blk_frozen BK269.out 2
    try have hfz37_3 := blk_frozen BK269.out 3
    repeat (go_quiet (first | (go_at_call 76; (with_reducible refine (impl_valNone.calls  t273 t274 t275 t276 _ A33.out).mono ?_); rintro e w34 ⟨rfl, hb⟩; have n0_ := Aside0.mk (blk_below (g := gb267) (o := b2 a0_0 a0_1 86) (bz BK267.out) hb); have n1_ := Aside0.mk (blk_below (g := gb268) (o := b2 a1_0 a1_1 90) (bz BK268.out) hb); have n2_ := Aside0.mk (blk_below (g := gb269) (o := b4 0 0 0 0 25) (bz BK269.out) hb); have n3_ := Aside0.mk (below_step (hz3 HB.out GE267.out GE268.out GE269.out) hb); clear BK267; clear BK268; clear BK269; clear HB; have BK267 := n0_; have BK268 := n1_; have BK269 := n2_; have HB := n3_; clear n0_ n1_ n2_ n3_; (try clear hb); (try clear hb2); (try clear hk); (try clear hi); (try (have hnb35 := NB269_267.out; have hnc35 := NB267_269.out; have hnb36 := NB269_268.out; have hnc36 := NB268_269.out; have hcz37_0 : w34.cell? ⟨gb269, 0, none⟩ = some (.int .i64 0) := bc BK269 0; have hcz37_1 : w34.cell? ⟨gb269, 1, none⟩ = some (.int .i64 0) := bc BK269 1; have hcz37_2 : w34.cell? ⟨gb269, 2, none⟩ = some (.int .i64 0) := bc BK269 2; have hcz37_3 : w34.cell? ⟨gb269, 3, none⟩ = some (.int .i64 0) := bc BK269 3; have hfz37_0 := blk_frozen BK269.out 0; have hfz37_1 := blk_frozen BK269.out 1; have hfz37_2 := blk_frozen BK269.out 2; have hfz37_3 := blk_frozen BK269.out 3)))); try go_wp2_with (first | (go_at_call 76; (with_reducible refine (impl_valNone.calls  t273 t274 t275 t276 _ A33.out).mono ?_); rintro e w34 ⟨rfl, hb⟩; have n0_ := Aside0.mk (blk_below (g := gb267) (o := b2 a0_0 a0_1 86) (bz BK267.out) hb); have n1_ := Aside0.mk (blk_below (g := gb268) (o := b2 a1_0 a1_1 90) (bz BK268.out) hb); have n2_ := Aside0.mk (blk_below (g := gb269) (o := b4 0 0 0 0 25) (bz BK269.out) hb); have n3_ := Aside0.mk (below_step (hz3 HB.out GE267.out GE268.out GE269.out) hb); clear BK267; clear BK268; clear BK269; clear HB; have BK267 := n0_; have BK268 := n1_; have BK269 := n2_; have HB := n3_; clear n0_ n1_ n2_ n3_; (try clear hb); (try clear hb2); (try clear hk); (try clear hi); (try (have hnb35 := NB269_267.out; have hnc35 := NB267_269.out; have hnb36 := NB269_268.out; have hnc36 := NB268_269.out; have hcz37_0 : w34.cell? ⟨gb269, 0, none⟩ = some (.int .i64 0) := bc BK269 0; have hcz37_1 : w34.cell? ⟨gb269, 1, none⟩ = some (.int .i64 0) := bc BK269 1; have hcz37_2 : w34.cell? ⟨gb269, 2, none⟩ = some (.int .i64 0) := bc BK269 2; have hcz37_3 : w34.cell? ⟨gb269, 3, none⟩ = some (.int .i64 0) := bc BK269 3; have hfz37_0 := blk_frozen BK269.out 0; have hfz37_1 := blk_frozen BK269.out 1; have hfz37_2 := blk_frozen BK269.out 2; have hfz37_3 := blk_frozen BK269.out 3)))))
    refine bodyPost_ret (results_cell_row rfl _ _ gb269 25 #[.int .i64 t273, .int .i64 t274, .int .i64 t275, .int .i64 t276] (0, 0) _ rfl (by (with_reducible repeat (first | refine blk_drewN ?_ _ | refine blk_drew ?_ | refine blk_alloc ?_ _)); refine blk_put (cs := #[.int .i64 t273, .int .i64 t274, .int .i64 t275, .int .i64 0]) ?_ 3 _ rfl; (with_reducible repeat (first | refine blk_drewN ?_ _ | refine blk_drew ?_ | refine blk_alloc ?_ _)); refine blk_put (cs := #[.int .i64 t273, .int .i64 t274, .int .i64 0, .int .i64 0]) ?_ 2 _ rfl; (with_reducible repeat (first | refine blk_drewN ?_ _ | refine blk_drew ?_ | refine blk_alloc ?_ _)); refine blk_put (cs := #[.int .i64 t273, .int .i64 0, .int .i64 0, .int .i64 0]) ?_ 1 _ rfl; (with_reducible repeat (first | refine blk_drewN ?_ _ | refine blk_drew ?_ | refine blk_alloc ?_ _)); refine blk_put (cs := #[.int .i64 0, .int .i64 0, .int .i64 0, .int .i64 0]) ?_ 0 _ rfl; (with_reducible repeat (first | refine blk_drewN ?_ _ | refine blk_drew ?_ | refine blk_alloc ?_ _)); exact BK269.out) Try.underlying25 rfl (by kernel_rfl)) rfl ?_
    exact ⟨by first | rfl | (simp [errW_none, errW_some] <;> rfl) | (simp [*, errW_none, errW_some] <;> rfl), hz3 HB.out GE267.out GE268.out GE269.out⟩
   ·replace c32 := Bool.eq_false_iff.mpr c32
    subst c32
    have H1 : (if a1_0 = 0 then ((impl_RangeHas.f a0_0 a0_1 a1_1).bind fun t277 => (if t277 = true then ((impl_valOne.f a1_1).bind fun bt278 => (some (bt278.1, bt278.2.1, bt278.2.2.1, bt278.2.2.2))) else ((impl_valNone.f).bind fun bt282 => (some (bt282.1, bt282.2.1, bt282.2.2.1, bt282.2.2.2))))) else ((impl_restMod.f (wrap64 (a1_1 - a0_0)) a1_0).bind fun t286 => ((impl_restMod.f (wrap64 (a0_1 - a1_1)) a1_0).bind fun t287 => (if (wrap64 (a0_0 + t286)) > (wrap64 (a0_1 - t287)) then ((impl_valNone.f).bind fun bt288 => (some (bt288.1, bt288.2.1, bt288.2.2.1, bt288.2.2.2))) else (if (wrap64 (a0_0 + t286)) = (wrap64 (a0_1 - t287)) then ((impl_valOne.f (wrap64 (a0_0 + t286))).bind fun bt292 => (some (bt292.1, bt292.2.1, bt292.2.2.1, bt292.2.2.2))) else (some (wrap64 (a0_0 + t286), wrap64 (a0_1 - t287), a1_0, a1_1))))))) = some (r1, r2, r3, r4) := by rw [if_neg (show ¬ (false = true) by decide)] at H; exact H
    clear H
    have H := H1
    clear H1
    by_cases c38 : a1_0 = 0
    ·rw [if_pos c38] at H
     have c38b0 : (a1_0 == 0) = true := beq_iff_eq.mpr c38
     have c38b1 : (a1_0 != 0) = false := bne_eq_false_iff_eq.mpr c38
     clear c38
     replace H := Option.bind_eq_some_iff.mp H
     obtain ⟨t277, A390, H⟩ := H
     replace H : (if t277 = true then ((impl_valOne.f a1_1).bind fun bt278 => (some (bt278.1, bt278.2.1, bt278.2.2.1, bt278.2.2.2))) else ((impl_valNone.f).bind fun bt282 => (some (bt282.1, bt282.2.1, bt282.2.2.1, bt282.2.2.2)))) = some (r1, r2, r3, r4) := H
     have A39 := Aside0.mk A390
     clear A390
     by_cases c40 : t277 = true
     ·subst c40
      have H1 : ((impl_valOne.f a1_1).bind fun bt278 => (some (bt278.1, bt278.2.1, bt278.2.2.1, bt278.2.2.2))) = some (r1, r2, r3, r4) := by rw [if_pos rfl] at H; exact H
      clear H
      have H := H1
      clear H1
      replace H := Option.bind_eq_some_iff.mp H
      obtain ⟨⟨t278, t279, t280, t281⟩, A410, H⟩ := H
      replace H : (some (t278, t279, t280, t281)) = some (r1, r2, r3, r4) := H
      have A41 := Aside0.mk A410
      clear A410
      simp only [Option.some.injEq, Prod.mk.injEq] at H
      obtain ⟨rfl, rfl, rfl, rfl⟩ := H
      have hnb42 := NB268_267.out
      have hnc42 := NB267_268.out
      have hnb43 := NB268_269.out
      have hnc43 := NB269_268.out
      have hcz44_0 : wc.cell? ⟨gb268, 0, none⟩ = some (.int .i64 a1_0) := bc BK268 0
      have hcz44_1 : wc.cell? ⟨gb268, 1, none⟩ = some (.int .i64 a1_1) := bc BK268 1
      have hfz44_0 := blk_frozen BK268.out 0
      have hfz44_1 := blk_frozen BK268.out 1
      have hnb45 := NB267_269.out
      have hnc45 := NB269_267.out
      have hcz46_0 : wc.cell? ⟨gb267, 0, none⟩ = some (.int .i64 a0_0) := bc BK267 0
      have hcz46_1 : wc.cell? ⟨gb267, 1, none⟩ = some (.int .i64 a0_1) := bc BK267 1
      have hfz46_0 := blk_frozen BK267.out 0
      have hfz46_1 := blk_frozen BK267.out 1
      go_wp2_with (first | (go_at_call 64; (with_reducible refine (impl_RangeHas.calls a0_0 a0_1 a1_1 true _ A39.out).mono ?_); rintro e w47 ⟨rfl, hb⟩; have n0_ := Aside0.mk (blk_below (g := gb267) (o := b2 a0_0 a0_1 86) (bz BK267.out) hb); have n1_ := Aside0.mk (blk_below (g := gb268) (o := b2 a1_0 a1_1 90) (bz BK268.out) hb); have n2_ := Aside0.mk (blk_below (g := gb269) (o := b4 0 0 0 0 25) (bz BK269.out) hb); have n3_ := Aside0.mk (below_step (hz3 HB.out GE267.out GE268.out GE269.out) hb); clear BK267; clear BK268; clear BK269; clear HB; have BK267 := n0_; have BK268 := n1_; have BK269 := n2_; have HB := n3_; clear n0_ n1_ n2_ n3_; (try clear hb); (try clear hb2); (try clear hk); (try clear hi); have hcz48_0 : w47.cell? ⟨gb268, 0, none⟩ = some (.int .i64 a1_0) := bc BK268 0; have hcz48_1 : w47.cell? ⟨gb268, 1, none⟩ = some (.int .i64 a1_1) := bc BK268 1; have hfz48_0 := blk_frozen BK268.out 0; have hfz48_1 := blk_frozen BK268.out 1) | (go_at_call 131; (with_reducible refine (impl_valOne.calls a1_1 t278 t279 t280 t281 _ A41.out).mono ?_); rintro e w49 ⟨rfl, hb⟩; have n0_ := Aside0.mk (blk_below (g := gb267) (o := b2 a0_0 a0_1 86) (bz BK267.out) hb); have n1_ := Aside0.mk (blk_below (g := gb268) (o := b2 a1_0 a1_1 90) (bz BK268.out) hb); have n2_ := Aside0.mk (blk_below (g := gb269) (o := b4 0 0 0 0 25) (bz BK269.out) hb); have n3_ := Aside0.mk (below_step (hz3 HB.out GE267.out GE268.out GE269.out) hb); clear BK267; clear BK268; clear BK269; clear HB; have BK267 := n0_; have BK268 := n1_; have BK269 := n2_; have HB := n3_; clear n0_ n1_ n2_ n3_; (try clear hb); (try clear hb2); (try clear hk); (try clear hi); have hcz50_0 : w49.cell? ⟨gb269, 0, none⟩ = some (.int .i64 0) := bc BK269 0; have hcz50_1 : w49.cell? ⟨gb269, 1, none⟩ = some (.int .i64 0) := bc BK269 1; have hcz50_2 : w49.cell? ⟨gb269, 2, none⟩ = some (.int .i64 0) := bc BK269 2; have hcz50_3 : w49.cell? ⟨gb269, 3, none⟩ = some (.int .i64 0) := bc BK269 3; have hfz50_0 := blk_frozen BK269.out 0; have hfz50_1 := blk_frozen BK269.out 1; have hfz50_2 := blk_frozen BK269.out 2; have hfz50_3 := blk_frozen BK269.out 3))
      try have hcz48_0 : w47.cell? ⟨gb268, 0, none⟩ = some (.int .i64 a1_0) := bc BK268 0
      try have hcz48_1 : w47.cell? ⟨gb268, 1, none⟩ = some (.int .i64 a1_1) := bc BK268 1
      try have hfz48_0 := blk_frozen BK268.out 0
      try have hfz48_1 := blk_frozen BK268.out 1
      try have hcz50_0 : w49.cell? ⟨gb269, 0, none⟩ = some (.int .i64 0) := bc BK269 0
      try have hcz50_1 : w49.cell? ⟨gb269, 1, none⟩ = some (.int .i64 0) := bc BK269 1
      try have hcz50_2 : w49.cell? ⟨gb269, 2, none⟩ = some (.int .i64 0) := bc BK269 2
      try have hcz50_3 : w49.cell? ⟨gb269, 3, none⟩ = some (.int .i64 0) := bc BK269 3
      try have hfz50_0 := blk_frozen BK269.out 0
      try have hfz50_1 := blk_frozen BK269.out 1
      try have hfz50_2 := blk_frozen BK269.out 2
      try have hfz50_3 := blk_frozen BK269.out 3
      repeat (go_quiet (first | (go_at_call 64; (with_reducible refine (impl_RangeHas.calls a0_0 a0_1 a1_1 true _ A39.out).mono ?_); rintro e w47 ⟨rfl, hb⟩; have n0_ := Aside0.mk (blk_below (g := gb267) (o := b2 a0_0 a0_1 86) (bz BK267.out) hb); have n1_ := Aside0.mk (blk_below (g := gb268) (o := b2 a1_0 a1_1 90) (bz BK268.out) hb); have n2_ := Aside0.mk (blk_below (g := gb269) (o := b4 0 0 0 0 25) (bz BK269.out) hb); have n3_ := Aside0.mk (below_step (hz3 HB.out GE267.out GE268.out GE269.out) hb); clear BK267; clear BK268; clear BK269; clear HB; have BK267 := n0_; have BK268 := n1_; have BK269 := n2_; have HB := n3_; clear n0_ n1_ n2_ n3_; (try clear hb); (try clear hb2); (try clear hk); (try clear hi); (try (have hcz48_0 : w47.cell? ⟨gb268, 0, none⟩ = some (.int .i64 a1_0) := bc BK268 0; have hcz48_1 : w47.cell? ⟨gb268, 1, none⟩ = some (.int .i64 a1_1) := bc BK268 1; have hfz48_0 := blk_frozen BK268.out 0; have hfz48_1 := blk_frozen BK268.out 1))) | (go_at_call 131; (with_reducible refine (impl_valOne.calls a1_1 t278 t279 t280 t281 _ A41.out).mono ?_); rintro e w49 ⟨rfl, hb⟩; have n0_ := Aside0.mk (blk_below (g := gb267) (o := b2 a0_0 a0_1 86) (bz BK267.out) hb); have n1_ := Aside0.mk (blk_below (g := gb268) (o := b2 a1_0 a1_1 90) (bz BK268.out) hb); have n2_ := Aside0.mk (blk_below (g := gb269) (o := b4 0 0 0 0 25) (bz BK269.out) hb); have n3_ := Aside0.mk (below_step (hz3 HB.out GE267.out GE268.out GE269.out) hb); clear BK267; clear BK268; clear BK269; clear HB; have BK267 := n0_; have BK268 := n1_; have BK269 := n2_; have HB := n3_; clear n0_ n1_ n2_ n3_; (try clear hb); (try clear hb2); (try clear hk); (try clear hi); (try (have hcz50_0 : w49.cell? ⟨gb269, 0, none⟩ = some (.int .i64 0) := bc BK269 0; have hcz50_1 : w49.cell? ⟨gb269, 1, none⟩ = some (.int .i64 0) := bc BK269 1; have hcz50_2 : w49.cell? ⟨gb269, 2, none⟩ = some (.int .i64 0) := bc BK269 2; have hcz50_3 : w49.cell? ⟨gb269, 3, none⟩ = some (.int .i64 0) := bc BK269 3; have hfz50_0 := blk_frozen BK269.out 0; have hfz50_1 := blk_frozen BK269.out 1; have hfz50_2 := blk_frozen BK269.out 2; have hfz50_3 := blk_frozen BK269.out 3)))); try go_wp2_with (first | (go_at_call 64; (with_reducible refine (impl_RangeHas.calls a0_0 a0_1 a1_1 true _ A39.out).mono ?_); rintro e w47 ⟨rfl, hb⟩; have n0_ := Aside0.mk (blk_below (g := gb267) (o := b2 a0_0 a0_1 86) (bz BK267.out) hb); have n1_ := Aside0.mk (blk_below (g := gb268) (o := b2 a1_0 a1_1 90) (bz BK268.out) hb); have n2_ := Aside0.mk (blk_below (g := gb269) (o := b4 0 0 0 0 25) (bz BK269.out) hb); have n3_ := Aside0.mk (below_step (hz3 HB.out GE267.out GE268.out GE269.out) hb); clear BK267; clear BK268; clear BK269; clear HB; have BK267 := n0_; have BK268 := n1_; have BK269 := n2_; have HB := n3_; clear n0_ n1_ n2_ n3_; (try clear hb); (try clear hb2); (try clear hk); (try clear hi); (try (have hcz48_0 : w47.cell? ⟨gb268, 0, none⟩ = some (.int .i64 a1_0) := bc BK268 0; have hcz48_1 : w47.cell? ⟨gb268, 1, none⟩ = some (.int .i64 a1_1) := bc BK268 1; have hfz48_0 := blk_frozen BK268.out 0; have hfz48_1 := blk_frozen BK268.out 1))) | (go_at_call 131; (with_reducible refine (impl_valOne.calls a1_1 t278 t279 t280 t281 _ A41.out).mono ?_); rintro e w49 ⟨rfl, hb⟩; have n0_ := Aside0.mk (blk_below (g := gb267) (o := b2 a0_0 a0_1 86) (bz BK267.out) hb); have n1_ := Aside0.mk (blk_below (g := gb268) (o := b2 a1_0 a1_1 90) (bz BK268.out) hb); have n2_ := Aside0.mk (blk_below (g := gb269) (o := b4 0 0 0 0 25) (bz BK269.out) hb); have n3_ := Aside0.mk (below_step (hz3 HB.out GE267.out GE268.out GE269.out) hb); clear BK267; clear BK268; clear BK269; clear HB; have BK267 := n0_; have BK268 := n1_; have BK269 := n2_; have HB := n3_; clear n0_ n1_ n2_ n3_; (try clear hb); (try clear hb2); (try clear hk); (try clear hi); (try (have hcz50_0 : w49.cell? ⟨gb269, 0, none⟩ = some (.int .i64 0) := bc BK269 0; have hcz50_1 : w49.cell? ⟨gb269, 1, none⟩ = some (.int .i64 0) := bc BK269 1; have hcz50_2 : w49.cell? ⟨gb269, 2, none⟩ = some (.int .i64 0) := bc BK269 2; have hcz50_3 : w49.cell? ⟨gb269, 3, none⟩ = some (.int .i64 0) := bc BK269 3; have hfz50_0 := blk_frozen BK269.out 0; have hfz50_1 := blk_frozen BK269.out 1; have hfz50_2 := blk_frozen BK269.out 2; have hfz50_3 := blk_frozen BK269.out 3)))))
      refine bodyPost_ret (results_cell_row rfl _ _ gb269 25 #[.int .i64 t278, .int .i64 t279, .int .i64 t280, .int .i64 t281] (0, 0) _ rfl (by (with_reducible repeat (first | refine blk_drewN ?_ _ | refine blk_drew ?_ | refine blk_alloc ?_ _)); refine blk_put (cs := #[.int .i64 t278, .int .i64 t279, .int .i64 t280, .int .i64 0]) ?_ 3 _ rfl; (with_reducible repeat (first | refine blk_drewN ?_ _ | refine blk_drew ?_ | refine blk_alloc ?_ _)); refine blk_put (cs := #[.int .i64 t278, .int .i64 t279, .int .i64 0, .int .i64 0]) ?_ 2 _ rfl; (with_reducible repeat (first | refine blk_drewN ?_ _ | refine blk_drew ?_ | refine blk_alloc ?_ _)); refine blk_put (cs := #[.int .i64 t278, .int .i64 0, .int .i64 0, .int .i64 0]) ?_ 1 _ rfl; (with_reducible repeat (first | refine blk_drewN ?_ _ | refine blk_drew ?_ | refine blk_alloc ?_ _)); refine blk_put (cs := #[.int .i64 0, .int .i64 0, .int .i64 0, .int .i64 0]) ?_ 0 _ rfl; (with_reducible repeat (first | refine blk_drewN ?_ _ | refine blk_drew ?_ | refine blk_alloc ?_ _)); exact BK269.out) Try.underlying25 rfl (by kernel_rfl)) rfl ?_
      exact ⟨by first | rfl | (simp [errW_none, errW_some] <;> rfl) | (simp [*, errW_none, errW_some] <;> rfl), hz3 HB.out GE267.out GE268.out GE269.out⟩
     ·replace c40 := Bool.eq_false_iff.mpr c40
      subst c40
      have H1 : ((impl_valNone.f).bind fun bt282 => (some (bt282.1, bt282.2.1, bt282.2.2.1, bt282.2.2.2))) = some (r1, r2, r3, r4) := by rw [if_neg (show ¬ (false = true) by decide)] at H; exact H
      clear H
      have H := H1
      clear H1
      replace H := Option.bind_eq_some_iff.mp H
      obtain ⟨⟨t282, t283, t284, t285⟩, A510, H⟩ := H
      replace H : (some (t282, t283, t284, t285)) = some (r1, r2, r3, r4) := H
      have A51 := Aside0.mk A510
      clear A510
      simp only [Option.some.injEq, Prod.mk.injEq] at H
      obtain ⟨rfl, rfl, rfl, rfl⟩ := H
      have hnb52 := NB268_267.out
      have hnc52 := NB267_268.out
      have hnb53 := NB268_269.out
      have hnc53 := NB269_268.out
      have hcz54_0 : wc.cell? ⟨gb268, 0, none⟩ = some (.int .i64 a1_0) := bc BK268 0
      have hcz54_1 : wc.cell? ⟨gb268, 1, none⟩ = some (.int .i64 a1_1) := bc BK268 1
      have hfz54_0 := blk_frozen BK268.out 0
      have hfz54_1 := blk_frozen BK268.out 1
      have hnb55 := NB267_269.out
      have hnc55 := NB269_267.out
      have hcz56_0 : wc.cell? ⟨gb267, 0, none⟩ = some (.int .i64 a0_0) := bc BK267 0
      have hcz56_1 : wc.cell? ⟨gb267, 1, none⟩ = some (.int .i64 a0_1) := bc BK267 1
      have hfz56_0 := blk_frozen BK267.out 0
      have hfz56_1 := blk_frozen BK267.out 1
      go_wp2_with (first | (go_at_call 64; (with_reducible refine (impl_RangeHas.calls a0_0 a0_1 a1_1 false _ A39.out).mono ?_); rintro e w57 ⟨rfl, hb⟩; have n0_ := Aside0.mk (blk_below (g := gb267) (o := b2 a0_0 a0_1 86) (bz BK267.out) hb); have n1_ := Aside0.mk (blk_below (g := gb268) (o := b2 a1_0 a1_1 90) (bz BK268.out) hb); have n2_ := Aside0.mk (blk_below (g := gb269) (o := b4 0 0 0 0 25) (bz BK269.out) hb); have n3_ := Aside0.mk (below_step (hz3 HB.out GE267.out GE268.out GE269.out) hb); clear BK267; clear BK268; clear BK269; clear HB; have BK267 := n0_; have BK268 := n1_; have BK269 := n2_; have HB := n3_; clear n0_ n1_ n2_ n3_; (try clear hb); (try clear hb2); (try clear hk); (try clear hi)) | (go_at_call 76; (with_reducible refine (impl_valNone.calls  t282 t283 t284 t285 _ A51.out).mono ?_); rintro e w58 ⟨rfl, hb⟩; have n0_ := Aside0.mk (blk_below (g := gb267) (o := b2 a0_0 a0_1 86) (bz BK267.out) hb); have n1_ := Aside0.mk (blk_below (g := gb268) (o := b2 a1_0 a1_1 90) (bz BK268.out) hb); have n2_ := Aside0.mk (blk_below (g := gb269) (o := b4 0 0 0 0 25) (bz BK269.out) hb); have n3_ := Aside0.mk (below_step (hz3 HB.out GE267.out GE268.out GE269.out) hb); clear BK267; clear BK268; clear BK269; clear HB; have BK267 := n0_; have BK268 := n1_; have BK269 := n2_; have HB := n3_; clear n0_ n1_ n2_ n3_; (try clear hb); (try clear hb2); (try clear hk); (try clear hi); have hcz59_0 : w58.cell? ⟨gb269, 0, none⟩ = some (.int .i64 0) := bc BK269 0; have hcz59_1 : w58.cell? ⟨gb269, 1, none⟩ = some (.int .i64 0) := bc BK269 1; have hcz59_2 : w58.cell? ⟨gb269, 2, none⟩ = some (.int .i64 0) := bc BK269 2; have hcz59_3 : w58.cell? ⟨gb269, 3, none⟩ = some (.int .i64 0) := bc BK269 3; have hfz59_0 := blk_frozen BK269.out 0; have hfz59_1 := blk_frozen BK269.out 1; have hfz59_2 := blk_frozen BK269.out 2; have hfz59_3 := blk_frozen BK269.out 3))
      try have hcz59_0 : w58.cell? ⟨gb269, 0, none⟩ = some (.int .i64 0) := bc BK269 0
      try have hcz59_1 : w58.cell? ⟨gb269, 1, none⟩ = some (.int .i64 0) := bc BK269 1
      try have hcz59_2 : w58.cell? ⟨gb269, 2, none⟩ = some (.int .i64 0) := bc BK269 2
      try have hcz59_3 : w58.cell? ⟨gb269, 3, none⟩ = some (.int .i64 0) := bc BK269 3
      try have hfz59_0 := blk_frozen BK269.out 0
      try have hfz59_1 := blk_frozen BK269.out 1
      try have hfz59_2 := blk_frozen BK269.out 2
      try have hfz59_3 := blk_frozen BK269.out 3
      repeat (go_quiet (first | (go_at_call 64; (with_reducible refine (impl_RangeHas.calls a0_0 a0_1 a1_1 false _ A39.out).mono ?_); rintro e w57 ⟨rfl, hb⟩; have n0_ := Aside0.mk (blk_below (g := gb267) (o := b2 a0_0 a0_1 86) (bz BK267.out) hb); have n1_ := Aside0.mk (blk_below (g := gb268) (o := b2 a1_0 a1_1 90) (bz BK268.out) hb); have n2_ := Aside0.mk (blk_below (g := gb269) (o := b4 0 0 0 0 25) (bz BK269.out) hb); have n3_ := Aside0.mk (below_step (hz3 HB.out GE267.out GE268.out GE269.out) hb); clear BK267; clear BK268; clear BK269; clear HB; have BK267 := n0_; have BK268 := n1_; have BK269 := n2_; have HB := n3_; clear n0_ n1_ n2_ n3_; (try clear hb); (try clear hb2); (try clear hk); (try clear hi)) | (go_at_call 76; (with_reducible refine (impl_valNone.calls  t282 t283 t284 t285 _ A51.out).mono ?_); rintro e w58 ⟨rfl, hb⟩; have n0_ := Aside0.mk (blk_below (g := gb267) (o := b2 a0_0 a0_1 86) (bz BK267.out) hb); have n1_ := Aside0.mk (blk_below (g := gb268) (o := b2 a1_0 a1_1 90) (bz BK268.out) hb); have n2_ := Aside0.mk (blk_below (g := gb269) (o := b4 0 0 0 0 25) (bz BK269.out) hb); have n3_ := Aside0.mk (below_step (hz3 HB.out GE267.out GE268.out GE269.out) hb); clear BK267; clear BK268; clear BK269; clear HB; have BK267 := n0_; have BK268 := n1_; have BK269 := n2_; have HB := n3_; clear n0_ n1_ n2_ n3_; (try clear hb); (try clear hb2); (try clear hk); (try clear hi); (try (have hcz59_0 : w58.cell? ⟨gb269, 0, none⟩ = some (.int .i64 0) := bc BK269 0; have hcz59_1 : w58.cell? ⟨gb269, 1, none⟩ = some (.int .i64 0) := bc BK269 1; have hcz59_2 : w58.cell? ⟨gb269, 2, none⟩ = some (.int .i64 0) := bc BK269 2; have hcz59_3 : w58.cell? ⟨gb269, 3, none⟩ = some (.int .i64 0) := bc BK269 3; have hfz59_0 := blk_frozen BK269.out 0; have hfz59_1 := blk_frozen BK269.out 1; have hfz59_2 := blk_frozen BK269.out 2; have hfz59_3 := blk_frozen BK269.out 3)))); try go_wp2_with (first | (go_at_call 64; (with_reducible refine (impl_RangeHas.calls a0_0 a0_1 a1_1 false _ A39.out).mono ?_); rintro e w57 ⟨rfl, hb⟩; have n0_ := Aside0.mk (blk_below (g := gb267) (o := b2 a0_0 a0_1 86) (bz BK267.out) hb); have n1_ := Aside0.mk (blk_below (g := gb268) (o := b2 a1_0 a1_1 90) (bz BK268.out) hb); have n2_ := Aside0.mk (blk_below (g := gb269) (o := b4 0 0 0 0 25) (bz BK269.out) hb); have n3_ := Aside0.mk (below_step (hz3 HB.out GE267.out GE268.out GE269.out) hb); clear BK267; clear BK268; clear BK269; clear HB; have BK267 := n0_; have BK268 := n1_; have BK269 := n2_; have HB := n3_; clear n0_ n1_ n2_ n3_; (try clear hb); (try clear hb2); (try clear hk); (try clear hi)) | (go_at_call 76; (with_reducible refine (impl_valNone.calls  t282 t283 t284 t285 _ A51.out).mono ?_); rintro e w58 ⟨rfl, hb⟩; have n0_ := Aside0.mk (blk_below (g := gb267) (o := b2 a0_0 a0_1 86) (bz BK267.out) hb); have n1_ := Aside0.mk (blk_below (g := gb268) (o := b2 a1_0 a1_1 90) (bz BK268.out) hb); have n2_ := Aside0.mk (blk_below (g := gb269) (o := b4 0 0 0 0 25) (bz BK269.out) hb); have n3_ := Aside0.mk (below_step (hz3 HB.out GE267.out GE268.out GE269.out) hb); clear BK267; clear BK268; clear BK269; clear HB; have BK267 := n0_; have BK268 := n1_; have BK269 := n2_; have HB := n3_; clear n0_ n1_ n2_ n3_; (try clear hb); (try clear hb2); (try clear hk); (try clear hi); (try (have hcz59_0 : w58.cell? ⟨gb269, 0, none⟩ = some (.int .i64 0) := bc BK269 0; have hcz59_1 : w58.cell? ⟨gb269, 1, none⟩ = some (.int .i64 0) := bc BK269 1; have hcz59_2 : w58.cell? ⟨gb269, 2, none⟩ = some (.int .i64 0) := bc BK269 2; have hcz59_3 : w58.cell? ⟨gb269, 3, none⟩ = some (.int .i64 0) := bc BK269 3; have hfz59_0 := blk_frozen BK269.out 0; have hfz59_1 := blk_frozen BK269.out 1; have hfz59_2 := blk_frozen BK269.out 2; have hfz59_3 := blk_frozen BK269.out 3)))))
      refine bodyPost_ret (results_cell_row rfl _ _ gb269 25 #[.int .i64 t282, .int .i64 t283, .int .i64 t284, .int .i64 t285] (0, 0) _ rfl (by (with_reducible repeat (first | refine blk_drewN ?_ _ | refine blk_drew ?_ | refine blk_alloc ?_ _)); refine blk_put (cs := #[.int .i64 t282, .int .i64 t283, .int .i64 t284, .int .i64 0]) ?_ 3 _ rfl; (with_reducible repeat (first | refine blk_drewN ?_ _ | refine blk_drew ?_ | refine blk_alloc ?_ _)); refine blk_put (cs := #[.int .i64 t282, .int .i64 t283, .int .i64 0, .int .i64 0]) ?_ 2 _ rfl; (with_reducible repeat (first | refine blk_drewN ?_ _ | refine blk_drew ?_ | refine blk_alloc ?_ _)); refine blk_put (cs := #[.int .i64 t282, .int .i64 0, .int .i64 0, .int .i64 0]) ?_ 1 _ rfl; (with_reducible repeat (first | refine blk_drewN ?_ _ | refine blk_drew ?_ | refine blk_alloc ?_ _)); refine blk_put (cs := #[.int .i64 0, .int .i64 0, .int .i64 0, .int .i64 0]) ?_ 0 _ rfl; (with_reducible repeat (first | refine blk_drewN ?_ _ | refine blk_drew ?_ | refine blk_alloc ?_ _)); exact BK269.out) Try.underlying25 rfl (by kernel_rfl)) rfl ?_
      exact ⟨by first | rfl | (simp [errW_none, errW_some] <;> rfl) | (simp [*, errW_none, errW_some] <;> rfl), hz3 HB.out GE267.out GE268.out GE269.out⟩
    ·rw [if_neg c38] at H
     have c38b0 : (a1_0 == 0) = false := beq_eq_false_iff_ne.mpr c38
     have c38b1 : (a1_0 != 0) = true := bne_iff_ne.mpr c38
     replace H := Option.bind_eq_some_iff.mp H
     obtain ⟨t286, A600, H⟩ := H
     replace H : ((impl_restMod.f (wrap64 (a0_1 - a1_1)) a1_0).bind fun t287 => (if (wrap64 (a0_0 + t286)) > (wrap64 (a0_1 - t287)) then ((impl_valNone.f).bind fun bt288 => (some (bt288.1, bt288.2.1, bt288.2.2.1, bt288.2.2.2))) else (if (wrap64 (a0_0 + t286)) = (wrap64 (a0_1 - t287)) then ((impl_valOne.f (wrap64 (a0_0 + t286))).bind fun bt292 => (some (bt292.1, bt292.2.1, bt292.2.2.1, bt292.2.2.2))) else (some (wrap64 (a0_0 + t286), wrap64 (a0_1 - t287), a1_0, a1_1))))) = some (r1, r2, r3, r4) := H
     have A60 := Aside0.mk A600
     clear A600
     replace H := Option.bind_eq_some_iff.mp H
     obtain ⟨t287, A610, H⟩ := H
     replace H : (if (wrap64 (a0_0 + t286)) > (wrap64 (a0_1 - t287)) then ((impl_valNone.f).bind fun bt288 => (some (bt288.1, bt288.2.1, bt288.2.2.1, bt288.2.2.2))) else (if (wrap64 (a0_0 + t286)) = (wrap64 (a0_1 - t287)) then ((impl_valOne.f (wrap64 (a0_0 + t286))).bind fun bt292 => (some (bt292.1, bt292.2.1, bt292.2.2.1, bt292.2.2.2))) else (some (wrap64 (a0_0 + t286), wrap64 (a0_1 - t287), a1_0, a1_1)))) = some (r1, r2, r3, r4) := H
     have A61 := Aside0.mk A610
     clear A610
     by_cases c62 : (wrap64 (a0_0 + t286)) > (wrap64 (a0_1 - t287))
     ·rw [if_pos c62] at H
      have c62b0 : decide ((wrap64 (a0_1 - t287)) < (wrap64 (a0_0 + t286))) = true := decide_eq_true c62
      clear c62
      replace H := Option.bind_eq_some_iff.mp H
      obtain ⟨⟨t288, t289, t290, t291⟩, A630, H⟩ := H
      replace H : (some (t288, t289, t290, t291)) = some (r1, r2, r3, r4) := H
      have A63 := Aside0.mk A630
      clear A630
      simp only [Option.some.injEq, Prod.mk.injEq] at H
      obtain ⟨rfl, rfl, rfl, rfl⟩ := H
      have hnb64 := NB268_267.out
      have hnc64 := NB267_268.out
      have hnb65 := NB268_269.out
      have hnc65 := NB269_268.out
      have hcz66_0 : wc.cell? ⟨gb268, 0, none⟩ = some (.int .i64 a1_0) := bc BK268 0
      have hcz66_1 : wc.cell? ⟨gb268, 1, none⟩ = some (.int .i64 a1_1) := bc BK268 1
      have hfz66_0 := blk_frozen BK268.out 0
      have hfz66_1 := blk_frozen BK268.out 1
      have hnb67 := NB267_269.out
      have hnc67 := NB269_267.out
      have hcz68_0 : wc.cell? ⟨gb267, 0, none⟩ = some (.int .i64 a0_0) := bc BK267 0
      have hcz68_1 : wc.cell? ⟨gb267, 1, none⟩ = some (.int .i64 a0_1) := bc BK267 1
      have hfz68_0 := blk_frozen BK267.out 0
      have hfz68_1 := blk_frozen BK267.out 1
      go_wp2_with (first | (go_at_call 122; (with_reducible refine (impl_restMod.calls (wrap64 (a1_1 - a0_0)) a1_0 t286 _ A60.out).mono ?_); rintro e w' ⟨rfl, ⟨nd, rfl⟩⟩; (try first | exact ⟨rfl, _, World.drewN_drewN _ _ _⟩ | exact ⟨rfl, _, Eq.trans (World.drewN_drewN _ _ _) (congrArg (World.drewN _) (Nat.add_assoc _ _ _))⟩)) | (go_at_call 122; (with_reducible refine (impl_restMod.calls (wrap64 (a0_1 - a1_1)) a1_0 t287 _ A61.out).mono ?_); rintro e w' ⟨rfl, ⟨nd, rfl⟩⟩; (try first | exact ⟨rfl, _, World.drewN_drewN _ _ _⟩ | exact ⟨rfl, _, Eq.trans (World.drewN_drewN _ _ _) (congrArg (World.drewN _) (Nat.add_assoc _ _ _))⟩)) | (go_at_call 76; (with_reducible refine (impl_valNone.calls  t288 t289 t290 t291 _ A63.out).mono ?_); rintro e w69 ⟨rfl, hb⟩; have n0_ := Aside0.mk (blk_below (g := gb267) (o := b2 a0_0 a0_1 86) (bz BK267.out) hb); have n1_ := Aside0.mk (blk_below (g := gb268) (o := b2 a1_0 a1_1 90) (bz BK268.out) hb); have n2_ := Aside0.mk (blk_below (g := gb269) (o := b4 0 0 0 0 25) (bz BK269.out) hb); have n3_ := Aside0.mk (below_step (hz3 HB.out GE267.out GE268.out GE269.out) hb); clear BK267; clear BK268; clear BK269; clear HB; have BK267 := n0_; have BK268 := n1_; have BK269 := n2_; have HB := n3_; clear n0_ n1_ n2_ n3_; (try clear hb); (try clear hb2); (try clear hk); (try clear hi); have hcz70_0 : w69.cell? ⟨gb269, 0, none⟩ = some (.int .i64 0) := bc BK269 0; have hcz70_1 : w69.cell? ⟨gb269, 1, none⟩ = some (.int .i64 0) := bc BK269 1; have hcz70_2 : w69.cell? ⟨gb269, 2, none⟩ = some (.int .i64 0) := bc BK269 2; have hcz70_3 : w69.cell? ⟨gb269, 3, none⟩ = some (.int .i64 0) := bc BK269 3; have hfz70_0 := blk_frozen BK269.out 0; have hfz70_1 := blk_frozen BK269.out 1; have hfz70_2 := blk_frozen BK269.out 2; have hfz70_3 := blk_frozen BK269.out 3))
      try have hcz70_0 : w69.cell? ⟨gb269, 0, none⟩ = some (.int .i64 0) := bc BK269 0
      try have hcz70_1 : w69.cell? ⟨gb269, 1, none⟩ = some (.int .i64 0) := bc BK269 1
      try have hcz70_2 : w69.cell? ⟨gb269, 2, none⟩ = some (.int .i64 0) := bc BK269 2
      try have hcz70_3 : w69.cell? ⟨gb269, 3, none⟩ = some (.int .i64 0) := bc BK269 3
      try have hfz70_0 := blk_frozen BK269.out 0
      try have hfz70_1 := blk_frozen BK269.out 1
      try have hfz70_2 := blk_frozen BK269.out 2
      try have hfz70_3 := blk_frozen BK269.out 3
      repeat (go_quiet (first | (go_at_call 122; (with_reducible refine (impl_restMod.calls (wrap64 (a1_1 - a0_0)) a1_0 t286 _ A60.out).mono ?_); rintro e w' ⟨rfl, ⟨nd, rfl⟩⟩; (try first | exact ⟨rfl, _, World.drewN_drewN _ _ _⟩ | exact ⟨rfl, _, Eq.trans (World.drewN_drewN _ _ _) (congrArg (World.drewN _) (Nat.add_assoc _ _ _))⟩)) | (go_at_call 122; (with_reducible refine (impl_restMod.calls (wrap64 (a0_1 - a1_1)) a1_0 t287 _ A61.out).mono ?_); rintro e w' ⟨rfl, ⟨nd, rfl⟩⟩; (try first | exact ⟨rfl, _, World.drewN_drewN _ _ _⟩ | exact ⟨rfl, _, Eq.trans (World.drewN_drewN _ _ _) (congrArg (World.drewN _) (Nat.add_assoc _ _ _))⟩)) | (go_at_call 76; (with_reducible refine (impl_valNone.calls  t288 t289 t290 t291 _ A63.out).mono ?_); rintro e w69 ⟨rfl, hb⟩; have n0_ := Aside0.mk (blk_below (g := gb267) (o := b2 a0_0 a0_1 86) (bz BK267.out) hb); have n1_ := Aside0.mk (blk_below (g := gb268) (o := b2 a1_0 a1_1 90) (bz BK268.out) hb); have n2_ := Aside0.mk (blk_below (g := gb269) (o := b4 0 0 0 0 25) (bz BK269.out) hb); have n3_ := Aside0.mk (below_step (hz3 HB.out GE267.out GE268.out GE269.out) hb); clear BK267; clear BK268; clear BK269; clear HB; have BK267 := n0_; have BK268 := n1_; have BK269 := n2_; have HB := n3_; clear n0_ n1_ n2_ n3_; (try clear hb); (try clear hb2); (try clear hk); (try clear hi); (try (have hcz70_0 : w69.cell? ⟨gb269, 0, none⟩ = some (.int .i64 0) := bc BK269 0; have hcz70_1 : w69.cell? ⟨gb269, 1, none⟩ = some (.int .i64 0) := bc BK269 1; have hcz70_2 : w69.cell? ⟨gb269, 2, none⟩ = some (.int .i64 0) := bc BK269 2; have hcz70_3 : w69.cell? ⟨gb269, 3, none⟩ = some (.int .i64 0) := bc BK269 3; have hfz70_0 := blk_frozen BK269.out 0; have hfz70_1 := blk_frozen BK269.out 1; have hfz70_2 := blk_frozen BK269.out 2; have hfz70_3 := blk_frozen BK269.out 3)))); try go_wp2_with (first | (go_at_call 122; (with_reducible refine (impl_restMod.calls (wrap64 (a1_1 - a0_0)) a1_0 t286 _ A60.out).mono ?_); rintro e w' ⟨rfl, ⟨nd, rfl⟩⟩; (try first | exact ⟨rfl, _, World.drewN_drewN _ _ _⟩ | exact ⟨rfl, _, Eq.trans (World.drewN_drewN _ _ _) (congrArg (World.drewN _) (Nat.add_assoc _ _ _))⟩)) | (go_at_call 122; (with_reducible refine (impl_restMod.calls (wrap64 (a0_1 - a1_1)) a1_0 t287 _ A61.out).mono ?_); rintro e w' ⟨rfl, ⟨nd, rfl⟩⟩; (try first | exact ⟨rfl, _, World.drewN_drewN _ _ _⟩ | exact ⟨rfl, _, Eq.trans (World.drewN_drewN _ _ _) (congrArg (World.drewN _) (Nat.add_assoc _ _ _))⟩)) | (go_at_call 76; (with_reducible refine (impl_valNone.calls  t288 t289 t290 t291 _ A63.out).mono ?_); rintro e w69 ⟨rfl, hb⟩; have n0_ := Aside0.mk (blk_below (g := gb267) (o := b2 a0_0 a0_1 86) (bz BK267.out) hb); have n1_ := Aside0.mk (blk_below (g := gb268) (o := b2 a1_0 a1_1 90) (bz BK268.out) hb); have n2_ := Aside0.mk (blk_below (g := gb269) (o := b4 0 0 0 0 25) (bz BK269.out) hb); have n3_ := Aside0.mk (below_step (hz3 HB.out GE267.out GE268.out GE269.out) hb); clear BK267; clear BK268; clear BK269; clear HB; have BK267 := n0_; have BK268 := n1_; have BK269 := n2_; have HB := n3_; clear n0_ n1_ n2_ n3_; (try clear hb); (try clear hb2); (try clear hk); (try clear hi); (try (have hcz70_0 : w69.cell? ⟨gb269, 0, none⟩ = some (.int .i64 0) := bc BK269 0; have hcz70_1 : w69.cell? ⟨gb269, 1, none⟩ = some (.int .i64 0) := bc BK269 1; have hcz70_2 : w69.cell? ⟨gb269, 2, none⟩ = some (.int .i64 0) := bc BK269 2; have hcz70_3 : w69.cell? ⟨gb269, 3, none⟩ = some (.int .i64 0) := bc BK269 3; have hfz70_0 := blk_frozen BK269.out 0; have hfz70_1 := blk_frozen BK269.out 1; have hfz70_2 := blk_frozen BK269.out 2; have hfz70_3 := blk_frozen BK269.out 3)))))
      refine bodyPost_ret (results_cell_row rfl _ _ gb269 25 #[.int .i64 t288, .int .i64 t289, .int .i64 t290, .int .i64 t291] (0, 0) _ rfl (by (with_reducible repeat (first | refine blk_drewN ?_ _ | refine blk_drew ?_ | refine blk_alloc ?_ _)); refine blk_put (cs := #[.int .i64 t288, .int .i64 t289, .int .i64 t290, .int .i64 0]) ?_ 3 _ rfl; (with_reducible repeat (first | refine blk_drewN ?_ _ | refine blk_drew ?_ | refine blk_alloc ?_ _)); refine blk_put (cs := #[.int .i64 t288, .int .i64 t289, .int .i64 0, .int .i64 0]) ?_ 2 _ rfl; (with_reducible repeat (first | refine blk_drewN ?_ _ | refine blk_drew ?_ | refine blk_alloc ?_ _)); refine blk_put (cs := #[.int .i64 t288, .int .i64 0, .int .i64 0, .int .i64 0]) ?_ 1 _ rfl; (with_reducible repeat (first | refine blk_drewN ?_ _ | refine blk_drew ?_ | refine blk_alloc ?_ _)); refine blk_put (cs := #[.int .i64 0, .int .i64 0, .int .i64 0, .int .i64 0]) ?_ 0 _ rfl; (with_reducible repeat (first | refine blk_drewN ?_ _ | refine blk_drew ?_ | refine blk_alloc ?_ _)); exact BK269.out) Try.underlying25 rfl (by kernel_rfl)) rfl ?_
      exact ⟨by first | rfl | (simp [errW_none, errW_some] <;> rfl) | (simp [*, errW_none, errW_some] <;> rfl), hz3 HB.out GE267.out GE268.out GE269.out⟩
     ·rw [if_neg c62] at H
      have c62b0 : decide ((wrap64 (a0_1 - t287)) < (wrap64 (a0_0 + t286))) = false := decide_eq_false c62
      clear c62
      by_cases c71 : (wrap64 (a0_0 + t286)) = (wrap64 (a0_1 - t287))
      ·rw [if_pos c71] at H
       have c71b0 : ((wrap64 (a0_0 + t286)) == (wrap64 (a0_1 - t287))) = true := beq_iff_eq.mpr c71
       have c71b1 : ((wrap64 (a0_0 + t286)) != (wrap64 (a0_1 - t287))) = false := bne_eq_false_iff_eq.mpr c71
       clear c71
       replace H := Option.bind_eq_some_iff.mp H
       obtain ⟨⟨t292, t293, t294, t295⟩, A720, H⟩ := H
       replace H : (some (t292, t293, t294, t295)) = some (r1, r2, r3, r4) := H
       have A72 := Aside0.mk A720
       clear A720
       simp only [Option.some.injEq, Prod.mk.injEq] at H
       obtain ⟨rfl, rfl, rfl, rfl⟩ := H
       have hnb73 := NB268_267.out
       have hnc73 := NB267_268.out
       have hnb74 := NB268_269.out
       have hnc74 := NB269_268.out
       have hcz75_0 : wc.cell? ⟨gb268, 0, none⟩ = some (.int .i64 a1_0) := bc BK268 0
       have hcz75_1 : wc.cell? ⟨gb268, 1, none⟩ = some (.int .i64 a1_1) := bc BK268 1
       have hfz75_0 := blk_frozen BK268.out 0
       have hfz75_1 := blk_frozen BK268.out 1
       have hnb76 := NB267_269.out
       have hnc76 := NB269_267.out
       have hcz77_0 : wc.cell? ⟨gb267, 0, none⟩ = some (.int .i64 a0_0) := bc BK267 0
       have hcz77_1 : wc.cell? ⟨gb267, 1, none⟩ = some (.int .i64 a0_1) := bc BK267 1
       have hfz77_0 := blk_frozen BK267.out 0
       have hfz77_1 := blk_frozen BK267.out 1
       go_wp2_with (first | (go_at_call 122; (with_reducible refine (impl_restMod.calls (wrap64 (a1_1 - a0_0)) a1_0 t286 _ A60.out).mono ?_); rintro e w' ⟨rfl, ⟨nd, rfl⟩⟩; (try first | exact ⟨rfl, _, World.drewN_drewN _ _ _⟩ | exact ⟨rfl, _, Eq.trans (World.drewN_drewN _ _ _) (congrArg (World.drewN _) (Nat.add_assoc _ _ _))⟩)) | (go_at_call 122; (with_reducible refine (impl_restMod.calls (wrap64 (a0_1 - a1_1)) a1_0 t287 _ A61.out).mono ?_); rintro e w' ⟨rfl, ⟨nd, rfl⟩⟩; (try first | exact ⟨rfl, _, World.drewN_drewN _ _ _⟩ | exact ⟨rfl, _, Eq.trans (World.drewN_drewN _ _ _) (congrArg (World.drewN _) (Nat.add_assoc _ _ _))⟩)) | (go_at_call 131; (with_reducible refine (impl_valOne.calls (wrap64 (a0_0 + t286)) t292 t293 t294 t295 _ A72.out).mono ?_); rintro e w78 ⟨rfl, hb⟩; have n0_ := Aside0.mk (blk_below (g := gb267) (o := b2 a0_0 a0_1 86) (bz BK267.out) hb); have n1_ := Aside0.mk (blk_below (g := gb268) (o := b2 a1_0 a1_1 90) (bz BK268.out) hb); have n2_ := Aside0.mk (blk_below (g := gb269) (o := b4 0 0 0 0 25) (bz BK269.out) hb); have n3_ := Aside0.mk (below_step (hz3 HB.out GE267.out GE268.out GE269.out) hb); clear BK267; clear BK268; clear BK269; clear HB; have BK267 := n0_; have BK268 := n1_; have BK269 := n2_; have HB := n3_; clear n0_ n1_ n2_ n3_; (try clear hb); (try clear hb2); (try clear hk); (try clear hi); have hcz79_0 : w78.cell? ⟨gb269, 0, none⟩ = some (.int .i64 0) := bc BK269 0; have hcz79_1 : w78.cell? ⟨gb269, 1, none⟩ = some (.int .i64 0) := bc BK269 1; have hcz79_2 : w78.cell? ⟨gb269, 2, none⟩ = some (.int .i64 0) := bc BK269 2; have hcz79_3 : w78.cell? ⟨gb269, 3, none⟩ = some (.int .i64 0) := bc BK269 3; have hfz79_0 := blk_frozen BK269.out 0; have hfz79_1 := blk_frozen BK269.out 1; have hfz79_2 := blk_frozen BK269.out 2; have hfz79_3 := blk_frozen BK269.out 3))
       try have hcz79_0 : w78.cell? ⟨gb269, 0, none⟩ = some (.int .i64 0) := bc BK269 0
       try have hcz79_1 : w78.cell? ⟨gb269, 1, none⟩ = some (.int .i64 0) := bc BK269 1
       try have hcz79_2 : w78.cell? ⟨gb269, 2, none⟩ = some (.int .i64 0) := bc BK269 2
       try have hcz79_3 : w78.cell? ⟨gb269, 3, none⟩ = some (.int .i64 0) := bc BK269 3
       try have hfz79_0 := blk_frozen BK269.out 0
       try have hfz79_1 := blk_frozen BK269.out 1
       try have hfz79_2 := blk_frozen BK269.out 2
       try have hfz79_3 := blk_frozen BK269.out 3
       repeat (go_quiet (first | (go_at_call 122; (with_reducible refine (impl_restMod.calls (wrap64 (a1_1 - a0_0)) a1_0 t286 _ A60.out).mono ?_); rintro e w' ⟨rfl, ⟨nd, rfl⟩⟩; (try first | exact ⟨rfl, _, World.drewN_drewN _ _ _⟩ | exact ⟨rfl, _, Eq.trans (World.drewN_drewN _ _ _) (congrArg (World.drewN _) (Nat.add_assoc _ _ _))⟩)) | (go_at_call 122; (with_reducible refine (impl_restMod.calls (wrap64 (a0_1 - a1_1)) a1_0 t287 _ A61.out).mono ?_); rintro e w' ⟨rfl, ⟨nd, rfl⟩⟩; (try first | exact ⟨rfl, _, World.drewN_drewN _ _ _⟩ | exact ⟨rfl, _, Eq.trans (World.drewN_drewN _ _ _) (congrArg (World.drewN _) (Nat.add_assoc _ _ _))⟩)) | (go_at_call 131; (with_reducible refine (impl_valOne.calls (wrap64 (a0_0 + t286)) t292 t293 t294 t295 _ A72.out).mono ?_); rintro e w78 ⟨rfl, hb⟩; have n0_ := Aside0.mk (blk_below (g := gb267) (o := b2 a0_0 a0_1 86) (bz BK267.out) hb); have n1_ := Aside0.mk (blk_below (g := gb268) (o := b2 a1_0 a1_1 90) (bz BK268.out) hb); have n2_ := Aside0.mk (blk_below (g := gb269) (o := b4 0 0 0 0 25) (bz BK269.out) hb); have n3_ := Aside0.mk (below_step (hz3 HB.out GE267.out GE268.out GE269.out) hb); clear BK267; clear BK268; clear BK269; clear HB; have BK267 := n0_; have BK268 := n1_; have BK269 := n2_; have HB := n3_; clear n0_ n1_ n2_ n3_; (try clear hb); (try clear hb2); (try clear hk); (try clear hi); (try (have hcz79_0 : w78.cell? ⟨gb269, 0, none⟩ = some (.int .i64 0) := bc BK269 0; have hcz79_1 : w78.cell? ⟨gb269, 1, none⟩ = some (.int .i64 0) := bc BK269 1; have hcz79_2 : w78.cell? ⟨gb269, 2, none⟩ = some (.int .i64 0) := bc BK269 2; have hcz79_3 : w78.cell? ⟨gb269, 3, none⟩ = some (.int .i64 0) := bc BK269 3; have hfz79_0 := blk_frozen BK269.out 0; have hfz79_1 := blk_frozen BK269.out 1; have hfz79_2 := blk_frozen BK269.out 2; have hfz79_3 := blk_frozen BK269.out 3)))); try go_wp2_with (first | (go_at_call 122; (with_reducible refine (impl_restMod.calls (wrap64 (a1_1 - a0_0)) a1_0 t286 _ A60.out).mono ?_); rintro e w' ⟨rfl, ⟨nd, rfl⟩⟩; (try first | exact ⟨rfl, _, World.drewN_drewN _ _ _⟩ | exact ⟨rfl, _, Eq.trans (World.drewN_drewN _ _ _) (congrArg (World.drewN _) (Nat.add_assoc _ _ _))⟩)) | (go_at_call 122; (with_reducible refine (impl_restMod.calls (wrap64 (a0_1 - a1_1)) a1_0 t287 _ A61.out).mono ?_); rintro e w' ⟨rfl, ⟨nd, rfl⟩⟩; (try first | exact ⟨rfl, _, World.drewN_drewN _ _ _⟩ | exact ⟨rfl, _, Eq.trans (World.drewN_drewN _ _ _) (congrArg (World.drewN _) (Nat.add_assoc _ _ _))⟩)) | (go_at_call 131; (with_reducible refine (impl_valOne.calls (wrap64 (a0_0 + t286)) t292 t293 t294 t295 _ A72.out).mono ?_); rintro e w78 ⟨rfl, hb⟩; have n0_ := Aside0.mk (blk_below (g := gb267) (o := b2 a0_0 a0_1 86) (bz BK267.out) hb); have n1_ := Aside0.mk (blk_below (g := gb268) (o := b2 a1_0 a1_1 90) (bz BK268.out) hb); have n2_ := Aside0.mk (blk_below (g := gb269) (o := b4 0 0 0 0 25) (bz BK269.out) hb); have n3_ := Aside0.mk (below_step (hz3 HB.out GE267.out GE268.out GE269.out) hb); clear BK267; clear BK268; clear BK269; clear HB; have BK267 := n0_; have BK268 := n1_; have BK269 := n2_; have HB := n3_; clear n0_ n1_ n2_ n3_; (try clear hb); (try clear hb2); (try clear hk); (try clear hi); (try (have hcz79_0 : w78.cell? ⟨gb269, 0, none⟩ = some (.int .i64 0) := bc BK269 0; have hcz79_1 : w78.cell? ⟨gb269, 1, none⟩ = some (.int .i64 0) := bc BK269 1; have hcz79_2 : w78.cell? ⟨gb269, 2, none⟩ = some (.int .i64 0) := bc BK269 2; have hcz79_3 : w78.cell? ⟨gb269, 3, none⟩ = some (.int .i64 0) := bc BK269 3; have hfz79_0 := blk_frozen BK269.out 0; have hfz79_1 := blk_frozen BK269.out 1; have hfz79_2 := blk_frozen BK269.out 2; have hfz79_3 := blk_frozen BK269.out 3)))))
       refine bodyPost_ret (results_cell_row rfl _ _ gb269 25 #[.int .i64 t292, .int .i64 t293, .int .i64 t294, .int .i64 t295] (0, 0) _ rfl (by (with_reducible repeat (first | refine blk_drewN ?_ _ | refine blk_drew ?_ | refine blk_alloc ?_ _)); refine blk_put (cs := #[.int .i64 t292, .int .i64 t293, .int .i64 t294, .int .i64 0]) ?_ 3 _ rfl; (with_reducible repeat (first | refine blk_drewN ?_ _ | refine blk_drew ?_ | refine blk_alloc ?_ _)); refine blk_put (cs := #[.int .i64 t292, .int .i64 t293, .int .i64 0, .int .i64 0]) ?_ 2 _ rfl; (with_reducible repeat (first | refine blk_drewN ?_ _ | refine blk_drew ?_ | refine blk_alloc ?_ _)); refine blk_put (cs := #[.int .i64 t292, .int .i64 0, .int .i64 0, .int .i64 0]) ?_ 1 _ rfl; (with_reducible repeat (first | refine blk_drewN ?_ _ | refine blk_drew ?_ | refine blk_alloc ?_ _)); refine blk_put (cs := #[.int .i64 0, .int .i64 0, .int .i64 0, .int .i64 0]) ?_ 0 _ rfl; (with_reducible repeat (first | refine blk_drewN ?_ _ | refine blk_drew ?_ | refine blk_alloc ?_ _)); exact BK269.out) Try.underlying25 rfl (by kernel_rfl)) rfl ?_
       exact ⟨by first | rfl | (simp [errW_none, errW_some] <;> rfl) | (simp [*, errW_none, errW_some] <;> rfl), hz3 HB.out GE267.out GE268.out GE269.out⟩
      ·rw [if_neg c71] at H
       have c71b0 : ((wrap64 (a0_0 + t286)) == (wrap64 (a0_1 - t287))) = false := beq_eq_false_iff_ne.mpr c71
       have c71b1 : ((wrap64 (a0_0 + t286)) != (wrap64 (a0_1 - t287))) = true := bne_iff_ne.mpr c71
       simp only [Option.some.injEq, Prod.mk.injEq] at H
       obtain ⟨rfl, rfl, rfl, rfl⟩ := H
       have hnb80 := NB268_267.out
       have hnc80 := NB267_268.out
       have hnb81 := NB268_269.out
       have hnc81 := NB269_268.out
       have hcz82_0 : wc.cell? ⟨gb268, 0, none⟩ = some (.int .i64 a1_0) := bc BK268 0
       have hcz82_1 : wc.cell? ⟨gb268, 1, none⟩ = some (.int .i64 a1_1) := bc BK268 1
       have hfz82_0 := blk_frozen BK268.out 0
       have hfz82_1 := blk_frozen BK268.out 1
       have hnb83 := NB267_269.out
       have hnc83 := NB269_267.out
       have hcz84_0 : wc.cell? ⟨gb267, 0, none⟩ = some (.int .i64 a0_0) := bc BK267 0
       have hcz84_1 : wc.cell? ⟨gb267, 1, none⟩ = some (.int .i64 a0_1) := bc BK267 1
       have hfz84_0 := blk_frozen BK267.out 0
       have hfz84_1 := blk_frozen BK267.out 1
       go_wp2_with (first | (go_at_call 122; (with_reducible refine (impl_restMod.calls (wrap64 (a1_1 - a0_0)) a1_0 t286 _ A60.out).mono ?_); rintro e w' ⟨rfl, ⟨nd, rfl⟩⟩; (try first | exact ⟨rfl, _, World.drewN_drewN _ _ _⟩ | exact ⟨rfl, _, Eq.trans (World.drewN_drewN _ _ _) (congrArg (World.drewN _) (Nat.add_assoc _ _ _))⟩)) | (go_at_call 122; (with_reducible refine (impl_restMod.calls (wrap64 (a0_1 - a1_1)) a1_0 t287 _ A61.out).mono ?_); rintro e w' ⟨rfl, ⟨nd, rfl⟩⟩; (try first | exact ⟨rfl, _, World.drewN_drewN _ _ _⟩ | exact ⟨rfl, _, Eq.trans (World.drewN_drewN _ _ _) (congrArg (World.drewN _) (Nat.add_assoc _ _ _))⟩); have hcz85_0 : wc.cell? ⟨gb269, 0, none⟩ = some (.int .i64 0) := bc BK269 0; have hcz85_1 : wc.cell? ⟨gb269, 1, none⟩ = some (.int .i64 0) := bc BK269 1; have hcz85_2 : wc.cell? ⟨gb269, 2, none⟩ = some (.int .i64 0) := bc BK269 2; have hcz85_3 : wc.cell? ⟨gb269, 3, none⟩ = some (.int .i64 0) := bc BK269 3; have hfz85_0 := blk_frozen BK269.out 0; have hfz85_1 := blk_frozen BK269.out 1; have hfz85_2 := blk_frozen BK269.out 2; have hfz85_3 := blk_frozen BK269.out 3))
       try have hcz85_0 : wc.cell? ⟨gb269, 0, none⟩ = some (.int .i64 0) := bc BK269 0
       try have hcz85_1 : wc.cell? ⟨gb269, 1, none⟩ = some (.int .i64 0) := bc BK269 1
       try have hcz85_2 : wc.cell? ⟨gb269, 2, none⟩ = some (.int .i64 0) := bc BK269 2
       try have hcz85_3 : wc.cell? ⟨gb269, 3, none⟩ = some (.int .i64 0) := bc BK269 3
       try have hfz85_0 := blk_frozen BK269.out 0
       try have hfz85_1 := blk_frozen BK269.out 1
       try have hfz85_2 := blk_frozen BK269.out 2
       try have hfz85_3 := blk_frozen BK269.out 3
       repeat (go_quiet (first | (go_at_call 122; (with_reducible refine (impl_restMod.calls (wrap64 (a1_1 - a0_0)) a1_0 t286 _ A60.out).mono ?_); rintro e w' ⟨rfl, ⟨nd, rfl⟩⟩; (try first | exact ⟨rfl, _, World.drewN_drewN _ _ _⟩ | exact ⟨rfl, _, Eq.trans (World.drewN_drewN _ _ _) (congrArg (World.drewN _) (Nat.add_assoc _ _ _))⟩)) | (go_at_call 122; (with_reducible refine (impl_restMod.calls (wrap64 (a0_1 - a1_1)) a1_0 t287 _ A61.out).mono ?_); rintro e w' ⟨rfl, ⟨nd, rfl⟩⟩; (try first | exact ⟨rfl, _, World.drewN_drewN _ _ _⟩ | exact ⟨rfl, _, Eq.trans (World.drewN_drewN _ _ _) (congrArg (World.drewN _) (Nat.add_assoc _ _ _))⟩); (try (have hcz85_0 : wc.cell? ⟨gb269, 0, none⟩ = some (.int .i64 0) := bc BK269 0; have hcz85_1 : wc.cell? ⟨gb269, 1, none⟩ = some (.int .i64 0) := bc BK269 1; have hcz85_2 : wc.cell? ⟨gb269, 2, none⟩ = some (.int .i64 0) := bc BK269 2; have hcz85_3 : wc.cell? ⟨gb269, 3, none⟩ = some (.int .i64 0) := bc BK269 3; have hfz85_0 := blk_frozen BK269.out 0; have hfz85_1 := blk_frozen BK269.out 1; have hfz85_2 := blk_frozen BK269.out 2; have hfz85_3 := blk_frozen BK269.out 3)))); try go_wp2_with (first | (go_at_call 122; (with_reducible refine (impl_restMod.calls (wrap64 (a1_1 - a0_0)) a1_0 t286 _ A60.out).mono ?_); rintro e w' ⟨rfl, ⟨nd, rfl⟩⟩; (try first | exact ⟨rfl, _, World.drewN_drewN _ _ _⟩ | exact ⟨rfl, _, Eq.trans (World.drewN_drewN _ _ _) (congrArg (World.drewN _) (Nat.add_assoc _ _ _))⟩)) | (go_at_call 122; (with_reducible refine (impl_restMod.calls (wrap64 (a0_1 - a1_1)) a1_0 t287 _ A61.out).mono ?_); rintro e w' ⟨rfl, ⟨nd, rfl⟩⟩; (try first | exact ⟨rfl, _, World.drewN_drewN _ _ _⟩ | exact ⟨rfl, _, Eq.trans (World.drewN_drewN _ _ _) (congrArg (World.drewN _) (Nat.add_assoc _ _ _))⟩); (try (have hcz85_0 : wc.cell? ⟨gb269, 0, none⟩ = some (.int .i64 0) := bc BK269 0; have hcz85_1 : wc.cell? ⟨gb269, 1, none⟩ = some (.int .i64 0) := bc BK269 1; have hcz85_2 : wc.cell? ⟨gb269, 2, none⟩ = some (.int .i64 0) := bc BK269 2; have hcz85_3 : wc.cell? ⟨gb269, 3, none⟩ = some (.int .i64 0) := bc BK269 3; have hfz85_0 := blk_frozen BK269.out 0; have hfz85_1 := blk_frozen BK269.out 1; have hfz85_2 := blk_frozen BK269.out 2; have hfz85_3 := blk_frozen BK269.out 3)))))
       refine bodyPost_ret (results_cell_row rfl _ _ gb269 25 #[.int .i64 (wrap64 (a0_0 + t286)), .int .i64 (wrap64 (a0_1 - t287)), .int .i64 a1_0, .int .i64 a1_1] (0, 0) _ rfl (by (with_reducible repeat (first | refine blk_drewN ?_ _ | refine blk_drew ?_ | refine blk_alloc ?_ _)); refine blk_put (cs := #[.int .i64 (wrap64 (a0_0 + t286)), .int .i64 (wrap64 (a0_1 - t287)), .int .i64 a1_0, .int .i64 0]) ?_ 3 _ rfl; (with_reducible repeat (first | refine blk_drewN ?_ _ | refine blk_drew ?_ | refine blk_alloc ?_ _)); refine blk_put (cs := #[.int .i64 (wrap64 (a0_0 + t286)), .int .i64 (wrap64 (a0_1 - t287)), .int .i64 0, .int .i64 0]) ?_ 2 _ rfl; (with_reducible repeat (first | refine blk_drewN ?_ _ | refine blk_drew ?_ | refine blk_alloc ?_ _)); refine blk_put (cs := #[.int .i64 (wrap64 (a0_0 + t286)), .int .i64 0, .int .i64 0, .int .i64 0]) ?_ 1 _ rfl; (with_reducible repeat (first | refine blk_drewN ?_ _ | refine blk_drew ?_ | refine blk_alloc ?_ _)); refine blk_put (cs := #[.int .i64 0, .int .i64 0, .int .i64 0, .int .i64 0]) ?_ 0 _ rfl; (with_reducible repeat (first | refine blk_drewN ?_ _ | refine blk_drew ?_ | refine blk_alloc ?_ _)); exact BK269.out) Try.underlying25 rfl (by kernel_rfl)) rfl ?_
       exact ⟨by first | rfl | (simp [errW_none, errW_some] <;> rfl) | (simp [*, errW_none, errW_some] <;> rfl), hz3 HB.out GE267.out GE268.out GE269.out⟩

/-! ### impl_ValOk: function 63 -/
def impl_ValOk.f (k : Nat) (a0_0 : Int) (a0_1 : Int) (a0_2 : Int) (a0_3 : Int) : Option (Bool) := (impl_Val_span.f a0_0 a0_1 a0_2 a0_3).bind fun bt297 => ((impl_Val_rest.f a0_0 a0_1 a0_2 a0_3).bind fun bt299 => ((impl_ValMake.f k bt297.1 bt297.2 bt299.1 bt299.2).bind fun bt301 => (some (a0_0 == bt301.1 && (a0_1 == bt301.2.1 && (a0_2 == bt301.2.2.1 && (a0_3 == bt301.2.2.2)))))))
theorem impl_ValOk.mono : ∀ a0 a1 a2 a3 k, LeO (impl_ValOk.f k a0 a1 a2 a3) (impl_ValOk.f (k + 1) a0 a1 a2 a3) := by
 intro a0 a1 a2 a3 k
 unfold impl_ValOk.f
 repeat' first
   | (with_reducible exact impl_ValMake.mono _ _ _ _ _)
   | (with_reducible exact LeO.refl _)
   | (with_reducible exact LeO.none _)
   | (with_reducible refine LeO.ite ?_ ?_)
   | (with_reducible refine LeO.bind ?_ (fun _ => ?_))
   | exact impl_ValMake.mono _ _ _ _ _
   | exact LeO.none _
   | refine LeO.ite ?_ ?_
   | refine LeO.bind ?_ (fun _ => ?_)
def impl_ValOk.T1 : Bool × List (List Nat × List Nat) := (true, [([], []), ([], []), ([1], [1]), ([], []), ([3, 2], [3]), ([2, 4, 4], [2, 4]), ([0, 5], [0, 5]), ([6, 5, 0, 1, 2, 3, 4, 5, 6], [6])])
def impl_ValOk.B1 : List Nat := [0, 0, 2, 0, 14, 30, 63, 127]
theorem impl_ValOk.tab1 : rtab .any (opsOf Try.f63 1) = impl_ValOk.T1 := by kernel_rfl
theorem impl_ValOk.bits1 : waitsOk impl_ValOk.T1.2 impl_ValOk.B1 = true := by kernel_rfl
set_option maxHeartbeats 8000000 in
set_option maxRecDepth 100000 in
theorem impl_ValOk.calls (k : Nat) (a0_0 : Int) (a0_1 : Int) (a0_2 : Int) (a0_3 : Int) (r : Bool) (w : World) (h : impl_ValOk.f k a0_0 a0_1 a0_2 a0_3 = some r) :
  Calls Try.prog 63 #[.agg #[.int .i64 a0_0, .int .i64 a0_1, .int .i64 a0_2, .int .i64 a0_3]] w fun e w' => e = .returned (.bool r) ∧ Below w.heap.size w w' := by
 have hu25 := Try.underlying25
 have HB := Aside0.mk (Below.refl w.heap.size w)
 have H : ((impl_Val_span.f a0_0 a0_1 a0_2 a0_3).bind fun bt297 => ((impl_Val_rest.f a0_0 a0_1 a0_2 a0_3).bind fun bt299 => ((impl_ValMake.f k bt297.1 bt297.2 bt299.1 bt299.2).bind fun bt301 => (some (a0_0 == bt301.1 && (a0_1 == bt301.2.1 && (a0_2 == bt301.2.2.1 && (a0_3 == bt301.2.2.2)))))))) = some r := h
 clear h
 replace H := Option.bind_eq_some_iff.mp H
 obtain ⟨⟨t297, t298⟩, A20, H⟩ := H
 replace H : ((impl_Val_rest.f a0_0 a0_1 a0_2 a0_3).bind fun bt299 => ((impl_ValMake.f k t297 t298 bt299.1 bt299.2).bind fun bt301 => (some (a0_0 == bt301.1 && (a0_1 == bt301.2.1 && (a0_2 == bt301.2.2.1 && (a0_3 == bt301.2.2.2))))))) = some r := H
 have A2 := Aside0.mk A20
 clear A20
 replace H := Option.bind_eq_some_iff.mp H
 obtain ⟨⟨t299, t300⟩, A30, H⟩ := H
 replace H : ((impl_ValMake.f k t297 t298 t299 t300).bind fun bt301 => (some (a0_0 == bt301.1 && (a0_1 == bt301.2.1 && (a0_2 == bt301.2.2.1 && (a0_3 == bt301.2.2.2)))))) = some r := H
 have A3 := Aside0.mk A30
 clear A30
 replace H := Option.bind_eq_some_iff.mp H
 obtain ⟨⟨t301, t302, t303, t304⟩, A40, H⟩ := H
 replace H : (some (a0_0 == t301 && (a0_1 == t302 && (a0_2 == t303 && (a0_3 == t304))))) = some r := H
 have A4 := Aside0.mk A40
 clear A40
 obtain rfl := Option.some.inj H
 go_enter Try.func63, Try.ntmps63
 try go_wp2_with (first | ((with_reducible refine gate_dst (N := 1) rfl ?_); refine box_event ?hg (N := 1) ?hd (cs := #[.int .i64 a0_0, .int .i64 a0_1, .int .i64 a0_2, .int .i64 a0_3]) (t := 25) ?hr ?_; (case hd => rfl); (case hg => rfl); (case hr => first | (go_simp; done) | (go_simp; rfl)); intro gb296 hg w5 hbox hb; have n0_ := Aside0.mk (below_step (hz HB.out) hb); have n1_ := Aside0.mk (hbox); have n2_ := Aside0.mk ((by rw [hg]; exact (below_size (hz HB.out)) : w.heap.size ≤ gb296)); have n3_ := Aside0.mk ((by rw [hg]; exact (below_size (hz HB.out)) : w.heap.size ≤ gb296)); clear HB; have HB := n0_; have BK296 := n1_; have GW296 := n2_; have GE296 := n3_; clear n0_ n1_ n2_ n3_; clear hb hbox hg))
 have n0_ := Aside0.mk (blk_drew BK296.out)
 have n1_ := Aside0.mk (below_drew1 HB.out)
 clear BK296
 clear HB
 have BK296 := n0_
 have HB := n1_
 clear n0_ n1_
 refine start_ (n := 8) (S := fun w' => w'.cell? ⟨gb296, 0, none⟩ = some (.int .i64 a0_0) ∧ w'.cell? ⟨gb296, 1, none⟩ = some (.int .i64 a0_1) ∧ w'.cell? ⟨gb296, 2, none⟩ = some (.int .i64 a0_2) ∧ w'.cell? ⟨gb296, 3, none⟩ = some (.int .i64 a0_3)) (ds := []) #[F, F, F, F, F, F, F, F] (by kernel_rfl) rfl rfl ⟨bc BK296 0, bc BK296 1, bc BK296 2, bc BK296 3⟩ (fun hHeld => ?_); refine with_tabW impl_ValOk.tab1 impl_ValOk.bits1 (fun HT_ HW_ => ?_)
 generalize w5.drew = w6 at BK296 HB hHeld ⊢
 refine take_ (i := 0) (N := some 3) (v := ?_) (a' := ?_) #[T, F, F, F, F, F, F, F] rfl rfl (take_ofW HT_.out HW_.out (by kernel_rfl)) (fun _ _ _ h => h) (Or.inl ⟨by rfl, ?_⟩) hHeld ?_ ?_
 rotate_left
 ·rintro w' ⟨s0, s1, s2, s3⟩
  go_simp
  with_reducible rfl
 rotate_left
 ·exact pz
 refine take_ (i := 1) (N := some 4) (v := ?_) (a' := ?_) #[T, T, F, F, F, F, F, F] rfl rfl (take_ofW HT_.out HW_.out (by kernel_rfl)) (fun _ _ _ h => h) (Or.inl ⟨by rfl, ?_⟩) hHeld ?_ ?_
 rotate_left
 ·rintro w' ⟨s0, s1, s2, s3⟩
  go_simp
  with_reducible rfl
 rotate_left
 ·exact pz
 refine take_ (i := 3) (N := some 6) (v := ?_) (a' := ?_) #[T, T, F, T, F, F, F, F] rfl rfl (take_ofW HT_.out HW_.out (by kernel_rfl)) (fun _ _ _ h => h) (Or.inl ⟨by rfl, ?_⟩) hHeld ?_ ?_
 rotate_left
 ·rintro w' ⟨s0, s1, s2, s3⟩
  go_simp
  with_reducible rfl
 rotate_left
 ·exact pz
 refine one_ (i := 2) (N := some 5) #[T, T, T, T, F, F, F, F] rfl rfl (one_of HT_.out (by kernel_rfl)) (by decide) (fun K hK => ?_)
 refine goes_ Try.func65 (by kernel_rfl) rfl #[.agg #[.int .i64 a0_0, .int .i64 a0_1, .int .i64 a0_2, .int .i64 a0_3]] (by rfl) rfl rfl mz ?_
 with_reducible refine (impl_Val_span.calls a0_0 a0_1 a0_2 a0_3 t297 t298 _ A2.out).mono ?_
 rintro e w7 ⟨rfl, hb⟩
 refine ⟨_, rfl, ?_⟩
 have n0_ := Aside0.mk (blk_below (g := gb296) (o := b4 a0_0 a0_1 a0_2 a0_3 25) (bz BK296.out) hb)
 have n1_ := Aside0.mk (below_step (hz1 HB.out GE296.out) hb)
 clear BK296
 clear HB
 have BK296 := n0_
 have HB := n1_
 clear n0_ n1_
 (try clear hb)
 (try clear hb2)
 (try clear hk)
 (try clear hi)
 refine hK.out _ _ ⟨bc BK296 0, bc BK296 1, bc BK296 2, bc BK296 3⟩ (fun hHeld => ?_)
 clear hK K
 refine norm_ (a' := ?_) ?_ ?_
 rotate_left
 ·show Act.put _ (some 5) _ = _
  simp only [Act.put, List.setIfInBounds_toArray, List.set_cons_zero, List.set_cons_succ, i64_w, i32_w]
  rfl
 refine one_ (i := 4) (N := some 7) #[T, T, T, T, T, F, F, F] rfl rfl (one_of HT_.out (by kernel_rfl)) (by decide) (fun K hK => ?_)
 refine goes_ Try.func67 (by kernel_rfl) rfl #[.agg #[.int .i64 a0_0, .int .i64 a0_1, .int .i64 a0_2, .int .i64 a0_3]] (by rfl) rfl rfl mz ?_
 with_reducible refine (impl_Val_rest.calls a0_0 a0_1 a0_2 a0_3 t299 t300 _ A3.out).mono ?_
 rintro e w8 ⟨rfl, hb⟩
 refine ⟨_, rfl, ?_⟩
 have n0_ := Aside0.mk (blk_below (g := gb296) (o := b4 a0_0 a0_1 a0_2 a0_3 25) (bz BK296.out) hb)
 have n1_ := Aside0.mk (below_step (hz1 HB.out GE296.out) hb)
 clear BK296
 clear HB
 have BK296 := n0_
 have HB := n1_
 clear n0_ n1_
 (try clear hb)
 (try clear hb2)
 (try clear hk)
 (try clear hi)
 refine hK.out _ _ ⟨bc BK296 0, bc BK296 1, bc BK296 2, bc BK296 3⟩ (fun hHeld => ?_)
 clear hK K
 refine norm_ (a' := ?_) ?_ ?_
 rotate_left
 ·show Act.put _ (some 7) _ = _
  simp only [Act.put, List.setIfInBounds_toArray, List.set_cons_zero, List.set_cons_succ, i64_w, i32_w]
  rfl
 refine one_ (i := 5) (N := some 8) #[T, T, T, T, T, T, F, F] rfl rfl (one_of HT_.out (by kernel_rfl)) (by decide) (fun K hK => ?_)
 refine goes_ Try.func77 (by kernel_rfl) rfl #[.agg #[.int .i64 t297, .int .i64 t298], .agg #[.int .i64 t299, .int .i64 t300]] (by rfl) rfl rfl mz ?_
 with_reducible refine (impl_ValMake.calls k t297 t298 t299 t300 t301 t302 t303 t304 _ A4.out).mono ?_
 rintro e w9 ⟨rfl, hb⟩
 refine ⟨_, rfl, ?_⟩
 have n0_ := Aside0.mk (blk_below (g := gb296) (o := b4 a0_0 a0_1 a0_2 a0_3 25) (bz BK296.out) hb)
 have n1_ := Aside0.mk (below_step (hz1 HB.out GE296.out) hb)
 clear BK296
 clear HB
 have BK296 := n0_
 have HB := n1_
 clear n0_ n1_
 (try clear hb)
 (try clear hb2)
 (try clear hk)
 (try clear hi)
 refine hK.out _ _ ⟨bc BK296 0, bc BK296 1, bc BK296 2, bc BK296 3⟩ (fun hHeld => ?_)
 clear hK K
 refine norm_ (a' := ?_) ?_ ?_
 rotate_left
 ·show Act.put _ (some 8) _ = _
  simp only [Act.put, List.setIfInBounds_toArray, List.set_cons_zero, List.set_cons_succ, i64_w, i32_w]
  rfl
 refine pure_ (i := 6) (N := some 9) (v := ?_) (a' := ?_) #[T, T, T, T, T, T, T, F] rfl rfl (any_of HT_.out (by kernel_rfl)) (fun _ _ _ h => h) (Or.inl ⟨by rfl, ?_⟩) ?_ ?_
 rotate_left
 ·exact gz
 rotate_left
 ·exact pz
 refine pure_ (i := 7) (N := some 2) (v := ?_) (a' := ?_) #[T, T, T, T, T, T, T, T] rfl rfl (any_of HT_.out (by kernel_rfl)) (fun _ _ _ h => h) (Or.inl ⟨by rfl, ?_⟩) ?_ ?_
 rotate_left
 ·exact gz
 rotate_left
 ·exact pz
 refine done_ (done_of HT_.out (by kernel_rfl)) ?_
 try go_wp2
 go_ret
 exact ⟨by first | rfl | (simp [errW_none, errW_some] <;> rfl) | (simp [*, errW_none, errW_some] <;> rfl), hz1 HB.out GE296.out⟩

/-! ### impl_Val_none: function 70 -/
def impl_Val_none.f (a0_0 : Int) (a0_1 : Int) (a0_2 : Int) (a0_3 : Int) : Option (Bool) := (impl_valNone.f).bind fun bt306 => (some (a0_0 == bt306.1 && (a0_1 == bt306.2.1 && (a0_2 == bt306.2.2.1 && (a0_3 == bt306.2.2.2)))))
set_option maxHeartbeats 8000000 in
set_option maxRecDepth 100000 in
theorem impl_Val_none.calls (a0_0 : Int) (a0_1 : Int) (a0_2 : Int) (a0_3 : Int) (r : Bool) (w : World) (h : impl_Val_none.f a0_0 a0_1 a0_2 a0_3 = some r) :
  Calls Try.prog 70 #[.agg #[.int .i64 a0_0, .int .i64 a0_1, .int .i64 a0_2, .int .i64 a0_3]] w fun e w' => e = .returned (.bool r) ∧ Below w.heap.size w w' := by
 have hu25 := Try.underlying25
 have HB := Aside0.mk (Below.refl w.heap.size w)
 have H : ((impl_valNone.f).bind fun bt306 => (some (a0_0 == bt306.1 && (a0_1 == bt306.2.1 && (a0_2 == bt306.2.2.1 && (a0_3 == bt306.2.2.2)))))) = some r := h
 clear h
 replace H := Option.bind_eq_some_iff.mp H
 obtain ⟨⟨t306, t307, t308, t309⟩, A20, H⟩ := H
 replace H : (some (a0_0 == t306 && (a0_1 == t307 && (a0_2 == t308 && (a0_3 == t309))))) = some r := H
 have A2 := Aside0.mk A20
 clear A20
 obtain rfl := Option.some.inj H
 go_enter Try.func70, Try.ntmps70
 try go_wp2_with (first | ((with_reducible refine gate_dst (N := 1) rfl ?_); refine box_event ?hg (N := 1) ?hd (cs := #[.int .i64 a0_0, .int .i64 a0_1, .int .i64 a0_2, .int .i64 a0_3]) (t := 25) ?hr ?_; (case hd => rfl); (case hg => rfl); (case hr => first | (go_simp; done) | (go_simp; rfl)); intro gb305 hg w3 hbox hb; have n0_ := Aside0.mk (below_step (hz HB.out) hb); have n1_ := Aside0.mk (hbox); have n2_ := Aside0.mk ((by rw [hg]; exact (below_size (hz HB.out)) : w.heap.size ≤ gb305)); have n3_ := Aside0.mk ((by rw [hg]; exact (below_size (hz HB.out)) : w.heap.size ≤ gb305)); clear HB; have HB := n0_; have BK305 := n1_; have GW305 := n2_; have GE305 := n3_; clear n0_ n1_ n2_ n3_; clear hb hbox hg))
 have n0_ := Aside0.mk (blk_drew BK305.out)
 have n1_ := Aside0.mk (below_drew1 HB.out)
 clear BK305
 clear HB
 have BK305 := n0_
 have HB := n1_
 clear n0_ n1_
 refine start_ (n := 4) (S := fun w' => w'.cell? ⟨gb305, 0, none⟩ = some (.int .i64 a0_0) ∧ w'.cell? ⟨gb305, 1, none⟩ = some (.int .i64 a0_1) ∧ w'.cell? ⟨gb305, 2, none⟩ = some (.int .i64 a0_2) ∧ w'.cell? ⟨gb305, 3, none⟩ = some (.int .i64 a0_3)) (ds := []) #[F, F, F, F] (by kernel_rfl) rfl rfl ⟨bc BK305 0, bc BK305 1, bc BK305 2, bc BK305 3⟩ (fun hHeld => ?_)
 generalize w3.drew = w4 at BK305 HB hHeld ⊢
 refine take_ (i := 0) (N := some 3) (v := ?_) (a' := ?_) #[T, F, F, F] rfl rfl (by kernel_rfl) (fun _ _ _ h => h) (Or.inl ⟨by rfl, ?_⟩) hHeld ?_ ?_
 rotate_left
 ·rintro w' ⟨s0, s1, s2, s3⟩
  go_simp
  with_reducible rfl
 rotate_left
 ·exact pz
 refine one_ (i := 1) (N := some 4) #[T, T, F, F] rfl rfl (by kernel_rfl) (by decide) (fun K hK => ?_)
 refine goes_ Try.func76 (by kernel_rfl) rfl #[] (by rfl) rfl rfl mz ?_
 with_reducible refine (impl_valNone.calls  t306 t307 t308 t309 _ A2.out).mono ?_
 rintro e w5 ⟨rfl, hb⟩
 refine ⟨_, rfl, ?_⟩
 have n0_ := Aside0.mk (blk_below (g := gb305) (o := b4 a0_0 a0_1 a0_2 a0_3 25) (bz BK305.out) hb)
 have n1_ := Aside0.mk (below_step (hz1 HB.out GE305.out) hb)
 clear BK305
 clear HB
 have BK305 := n0_
 have HB := n1_
 clear n0_ n1_
 (try clear hb)
 (try clear hb2)
 (try clear hk)
 (try clear hi)
 refine hK.out _ _ ⟨bc BK305 0, bc BK305 1, bc BK305 2, bc BK305 3⟩ (fun hHeld => ?_)
 clear hK K
 refine norm_ (a' := ?_) ?_ ?_
 rotate_left
 ·show Act.put _ (some 4) _ = _
  simp only [Act.put, List.setIfInBounds_toArray, List.set_cons_zero, List.set_cons_succ, i64_w, i32_w]
  rfl
 refine pure_ (i := 2) (N := some 5) (v := ?_) (a' := ?_) #[T, T, T, F] rfl rfl (by kernel_rfl) (fun _ _ _ h => h) (Or.inl ⟨by rfl, ?_⟩) ?_ ?_
 rotate_left
 ·exact gz
 rotate_left
 ·exact pz
 refine pure_ (i := 3) (N := some 2) (v := ?_) (a' := ?_) #[T, T, T, T] rfl rfl (by kernel_rfl) (fun _ _ _ h => h) (Or.inl ⟨by rfl, ?_⟩) ?_ ?_
 rotate_left
 ·exact gz
 rotate_left
 ·exact pz
 refine done_ (by kernel_rfl) ?_
 try go_wp2
 go_ret
 exact ⟨by first | rfl | (simp [errW_none, errW_some] <;> rfl) | (simp [*, errW_none, errW_some] <;> rfl), hz1 HB.out GE305.out⟩

end Go.Proofs.Ytnmccgjdnceheaa.PFnExactValMeet
