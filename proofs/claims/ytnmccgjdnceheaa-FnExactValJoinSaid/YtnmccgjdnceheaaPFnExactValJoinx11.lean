/- Written by this session's own driver (wip/dprint.py): the functions that the law FnExactValJoin reaches, as Lean functions, each with its contract. -/
import Derived.Test.YtnmccgjdnceheaaPFnExactValJoinx0
import Derived.Test.YtnmccgjdnceheaaPFnExactValJoinx1
import Derived.Test.YtnmccgjdnceheaaPFnExactValJoinx10
import Derived.Test.YtnmccgjdnceheaaSv
namespace Go.Proofs.Ytnmccgjdnceheaa.PFnExactValJoin
open Go.RowKit Go.Proofs.YtnmccgjdnceheaaV.PrintWords Go.Proofs.YtnmccgjdnceheaaV.PrintLast Go.Proofs.YtnmccgjdnceheaaV.PrintMore Go.Proofs.YtnmccgjdnceheaaSv
attribute [local go_sem] max2_int min2_int max_two min_two max_three min_three max_four min_four   -- for this text's walks alone
set_option linter.unusedVariables false
set_option linter.unusedSimpArgs false

attribute [local go_sem high] eqA25
/-! ### impl_valNone: function 76 -/
def impl_valNone.f  : Option (Int × Int × Int × Int) := some (1, 0, 0, 0)
set_option maxHeartbeats 8000000 in
set_option maxRecDepth 100000 in
theorem impl_valNone.calls  (r1 : Int) (r2 : Int) (r3 : Int) (r4 : Int) (w : World) (h : impl_valNone.f  = some (r1, r2, r3, r4)) :
  Calls Try.prog 76 #[] w fun e w' => e = .returned (.agg #[.int .i64 r1, .int .i64 r2, .int .i64 r3, .int .i64 r4]) ∧ Below w.heap.size w w' := by
 have hu25 := Try.underlying25
 have HB := Aside0.mk (Below.refl w.heap.size w)
 have H : (some (1, 0, 0, 0)) = some (r1, r2, r3, r4) := h
 clear h
 simp only [Option.some.injEq, Prod.mk.injEq] at H
 obtain ⟨rfl, rfl, rfl, rfl⟩ := H
 go_enter Try.func76, Try.ntmps76
 go_wp2_with (first | ((with_reducible refine gate_dst (N := 0) rfl ?_); refine box_event ?hg (N := 0) ?hd (cs := #[.int .i64 0, .int .i64 0, .int .i64 0, .int .i64 0]) (t := 25) ?hr ?_; (case hd => rfl); (case hg => rfl); (case hr => first | (go_simp; done) | (go_simp; rfl)); intro gb247 hg w1 hbox hb; have n0_ := Aside0.mk (below_step (hz HB.out) hb); have n1_ := Aside0.mk (hbox); have n2_ := Aside0.mk ((by rw [hg]; exact (below_size (hz HB.out)) : w.heap.size ≤ gb247)); have n3_ := Aside0.mk ((by rw [hg]; exact (below_size (hz HB.out)) : w.heap.size ≤ gb247)); clear HB; have HB := n0_; have BK247 := n1_; have GW247 := n2_; have GE247 := n3_; clear n0_ n1_ n2_ n3_; clear hb hbox hg; have hcz2_0 : w1.cell? ⟨gb247, 0, none⟩ = some (.int .i64 0) := bc BK247 0; have hcz2_1 : w1.cell? ⟨gb247, 1, none⟩ = some (.int .i64 0) := bc BK247 1; have hcz2_2 : w1.cell? ⟨gb247, 2, none⟩ = some (.int .i64 0) := bc BK247 2; have hcz2_3 : w1.cell? ⟨gb247, 3, none⟩ = some (.int .i64 0) := bc BK247 3; have hfz2_0 := blk_frozen BK247.out 0; have hfz2_1 := blk_frozen BK247.out 1; have hfz2_2 := blk_frozen BK247.out 2; have hfz2_3 := blk_frozen BK247.out 3))
 refine bodyPost_ret (results_cell_row rfl _ _ gb247 25 #[.int .i64 1, .int .i64 0, .int .i64 0, .int .i64 0] (0, 0) _ rfl (by (with_reducible repeat (first | refine blk_drewN ?_ _ | refine blk_drew ?_ | refine blk_alloc ?_ _)); refine blk_put (cs := #[.int .i64 1, .int .i64 0, .int .i64 0, .int .i64 0]) ?_ 3 _ rfl; (with_reducible repeat (first | refine blk_drewN ?_ _ | refine blk_drew ?_ | refine blk_alloc ?_ _)); refine blk_put (cs := #[.int .i64 1, .int .i64 0, .int .i64 0, .int .i64 0]) ?_ 2 _ rfl; (with_reducible repeat (first | refine blk_drewN ?_ _ | refine blk_drew ?_ | refine blk_alloc ?_ _)); refine blk_put (cs := #[.int .i64 1, .int .i64 0, .int .i64 0, .int .i64 0]) ?_ 1 _ rfl; (with_reducible repeat (first | refine blk_drewN ?_ _ | refine blk_drew ?_ | refine blk_alloc ?_ _)); refine blk_put (cs := #[.int .i64 0, .int .i64 0, .int .i64 0, .int .i64 0]) ?_ 0 _ rfl; (with_reducible repeat (first | refine blk_drewN ?_ _ | refine blk_drew ?_ | refine blk_alloc ?_ _)); exact BK247.out) Try.underlying25 rfl (by kernel_rfl)) rfl ?_
 exact ⟨by first | rfl | (simp [errW_none, errW_some] <;> rfl) | (simp [*, errW_none, errW_some] <;> rfl), hz1 HB.out GE247.out⟩

/-! ### impl_RestOk: function 121 -/
def impl_RestOk.f (a0_0 : Int) (a0_1 : Int) : Option (Bool) := if a0_0 = 0 then ((impl_NumOk.f a0_1).bind fun t249 => (some t249)) else (if a0_0 ≥ 1 then (if a0_0 ≤ 65536 then (if a0_1 ≥ 0 then (some (decide (a0_1 < a0_0))) else (some false)) else (some false)) else (some false))
set_option maxHeartbeats 8000000 in
set_option maxRecDepth 100000 in
theorem impl_RestOk.calls (a0_0 : Int) (a0_1 : Int) (r : Bool) (w : World) (h : impl_RestOk.f a0_0 a0_1 = some r) :
  Calls Try.prog 121 #[.agg #[.int .i64 a0_0, .int .i64 a0_1]] w fun e w' => e = .returned (.bool r) ∧ Below w.heap.size w w' := by
 have hu90 := Try.underlying90
 have HB := Aside0.mk (Below.refl w.heap.size w)
 have H : (if a0_0 = 0 then ((impl_NumOk.f a0_1).bind fun t249 => (some t249)) else (if a0_0 ≥ 1 then (if a0_0 ≤ 65536 then (if a0_1 ≥ 0 then (some (decide (a0_1 < a0_0))) else (some false)) else (some false)) else (some false))) = some r := h
 clear h
 by_cases c2 : a0_0 = 0
 ·rw [if_pos c2] at H
  have c2b0 : (a0_0 == 0) = true := beq_iff_eq.mpr c2
  have c2b1 : (a0_0 != 0) = false := bne_eq_false_iff_eq.mpr c2
  clear c2
  replace H := Option.bind_eq_some_iff.mp H
  obtain ⟨t249, A30, H⟩ := H
  replace H : (some t249) = some r := H
  have A3 := Aside0.mk A30
  clear A30
  obtain rfl := Option.some.inj H
  go_enter Try.func121, Try.ntmps121
  go_wp2_with (first | ((with_reducible refine gate_dst (N := 1) rfl ?_); refine box_event ?hg (N := 1) ?hd (cs := #[.int .i64 a0_0, .int .i64 a0_1]) (t := 90) ?hr ?_; (case hd => rfl); (case hg => rfl); (case hr => first | (go_simp; done) | (go_simp; rfl)); intro gb248 hg w4 hbox hb; have n0_ := Aside0.mk (below_step (hz HB.out) hb); have n1_ := Aside0.mk (hbox); have n2_ := Aside0.mk ((by rw [hg]; exact (below_size (hz HB.out)) : w.heap.size ≤ gb248)); have n3_ := Aside0.mk ((by rw [hg]; exact (below_size (hz HB.out)) : w.heap.size ≤ gb248)); clear HB; have HB := n0_; have BK248 := n1_; have GW248 := n2_; have GE248 := n3_; clear n0_ n1_ n2_ n3_; clear hb hbox hg; have hcz5_0 : w4.cell? ⟨gb248, 0, none⟩ = some (.int .i64 a0_0) := bc BK248 0; have hcz5_1 : w4.cell? ⟨gb248, 1, none⟩ = some (.int .i64 a0_1) := bc BK248 1; have hfz5_0 := blk_frozen BK248.out 0; have hfz5_1 := blk_frozen BK248.out 1) | ((with_reducible refine gate_callee (f := 95) rfl ?_); refine goesL_ (some 8) rfl rfl Try.func95 (by kernel_rfl) rfl #[.int .i64 a0_1] rfl mz ?_; (with_reducible refine (impl_NumOk.calls a0_1 t249 _ A3.out).mono ?_); rintro e w' ⟨rfl, ⟨nd, rfl⟩⟩; refine ⟨_, rfl, ?_⟩))
  go_ret
  exact ⟨by first | rfl | (simp [errW_none, errW_some] <;> rfl) | (simp [*, errW_none, errW_some] <;> rfl), hz1 HB.out GE248.out⟩
 ·rw [if_neg c2] at H
  have c2b0 : (a0_0 == 0) = false := beq_eq_false_iff_ne.mpr c2
  have c2b1 : (a0_0 != 0) = true := bne_iff_ne.mpr c2
  by_cases c6 : a0_0 ≥ 1
  ·rw [if_pos c6] at H
   have c6b0 : decide (1 ≤ a0_0) = true := decide_eq_true c6
   clear c6
   by_cases c7 : a0_0 ≤ 65536
   ·rw [if_pos c7] at H
    have c7b0 : decide (a0_0 ≤ 65536) = true := decide_eq_true c7
    clear c7
    by_cases c8 : a0_1 ≥ 0
    ·rw [if_pos c8] at H
     have c8b0 : decide (0 ≤ a0_1) = true := decide_eq_true c8
     clear c8
     obtain rfl := Option.some.inj H
     go_enter Try.func121, Try.ntmps121
     go_wp2_with (first | ((with_reducible refine gate_dst (N := 1) rfl ?_); refine box_event ?hg (N := 1) ?hd (cs := #[.int .i64 a0_0, .int .i64 a0_1]) (t := 90) ?hr ?_; (case hd => rfl); (case hg => rfl); (case hr => first | (go_simp; done) | (go_simp; rfl)); intro gb248 hg w9 hbox hb; have n0_ := Aside0.mk (below_step (hz HB.out) hb); have n1_ := Aside0.mk (hbox); have n2_ := Aside0.mk ((by rw [hg]; exact (below_size (hz HB.out)) : w.heap.size ≤ gb248)); have n3_ := Aside0.mk ((by rw [hg]; exact (below_size (hz HB.out)) : w.heap.size ≤ gb248)); clear HB; have HB := n0_; have BK248 := n1_; have GW248 := n2_; have GE248 := n3_; clear n0_ n1_ n2_ n3_; clear hb hbox hg; have hcz10_0 : w9.cell? ⟨gb248, 0, none⟩ = some (.int .i64 a0_0) := bc BK248 0; have hcz10_1 : w9.cell? ⟨gb248, 1, none⟩ = some (.int .i64 a0_1) := bc BK248 1; have hfz10_0 := blk_frozen BK248.out 0; have hfz10_1 := blk_frozen BK248.out 1))
     go_ret
     exact ⟨by first | rfl | (simp [errW_none, errW_some] <;> rfl) | (simp [*, errW_none, errW_some] <;> rfl), hz1 HB.out GE248.out⟩
    ·rw [if_neg c8] at H
     have c8b0 : decide (0 ≤ a0_1) = false := decide_eq_false c8
     clear c8
     obtain rfl := Option.some.inj H
     go_enter Try.func121, Try.ntmps121
     go_wp2_with (first | ((with_reducible refine gate_dst (N := 1) rfl ?_); refine box_event ?hg (N := 1) ?hd (cs := #[.int .i64 a0_0, .int .i64 a0_1]) (t := 90) ?hr ?_; (case hd => rfl); (case hg => rfl); (case hr => first | (go_simp; done) | (go_simp; rfl)); intro gb248 hg w11 hbox hb; have n0_ := Aside0.mk (below_step (hz HB.out) hb); have n1_ := Aside0.mk (hbox); have n2_ := Aside0.mk ((by rw [hg]; exact (below_size (hz HB.out)) : w.heap.size ≤ gb248)); have n3_ := Aside0.mk ((by rw [hg]; exact (below_size (hz HB.out)) : w.heap.size ≤ gb248)); clear HB; have HB := n0_; have BK248 := n1_; have GW248 := n2_; have GE248 := n3_; clear n0_ n1_ n2_ n3_; clear hb hbox hg; have hcz12_0 : w11.cell? ⟨gb248, 0, none⟩ = some (.int .i64 a0_0) := bc BK248 0; have hcz12_1 : w11.cell? ⟨gb248, 1, none⟩ = some (.int .i64 a0_1) := bc BK248 1; have hfz12_0 := blk_frozen BK248.out 0; have hfz12_1 := blk_frozen BK248.out 1))
     go_ret
     exact ⟨by first | rfl | (simp [errW_none, errW_some] <;> rfl) | (simp [*, errW_none, errW_some] <;> rfl), hz1 HB.out GE248.out⟩
   ·rw [if_neg c7] at H
    have c7b0 : decide (a0_0 ≤ 65536) = false := decide_eq_false c7
    clear c7
    obtain rfl := Option.some.inj H
    go_enter Try.func121, Try.ntmps121
    go_wp2_with (first | ((with_reducible refine gate_dst (N := 1) rfl ?_); refine box_event ?hg (N := 1) ?hd (cs := #[.int .i64 a0_0, .int .i64 a0_1]) (t := 90) ?hr ?_; (case hd => rfl); (case hg => rfl); (case hr => first | (go_simp; done) | (go_simp; rfl)); intro gb248 hg w13 hbox hb; have n0_ := Aside0.mk (below_step (hz HB.out) hb); have n1_ := Aside0.mk (hbox); have n2_ := Aside0.mk ((by rw [hg]; exact (below_size (hz HB.out)) : w.heap.size ≤ gb248)); have n3_ := Aside0.mk ((by rw [hg]; exact (below_size (hz HB.out)) : w.heap.size ≤ gb248)); clear HB; have HB := n0_; have BK248 := n1_; have GW248 := n2_; have GE248 := n3_; clear n0_ n1_ n2_ n3_; clear hb hbox hg; have hcz14_0 : w13.cell? ⟨gb248, 0, none⟩ = some (.int .i64 a0_0) := bc BK248 0; have hcz14_1 : w13.cell? ⟨gb248, 1, none⟩ = some (.int .i64 a0_1) := bc BK248 1; have hfz14_0 := blk_frozen BK248.out 0; have hfz14_1 := blk_frozen BK248.out 1))
    go_ret
    exact ⟨by first | rfl | (simp [errW_none, errW_some] <;> rfl) | (simp [*, errW_none, errW_some] <;> rfl), hz1 HB.out GE248.out⟩
  ·rw [if_neg c6] at H
   have c6b0 : decide (1 ≤ a0_0) = false := decide_eq_false c6
   clear c6
   obtain rfl := Option.some.inj H
   go_enter Try.func121, Try.ntmps121
   go_wp2_with (first | ((with_reducible refine gate_dst (N := 1) rfl ?_); refine box_event ?hg (N := 1) ?hd (cs := #[.int .i64 a0_0, .int .i64 a0_1]) (t := 90) ?hr ?_; (case hd => rfl); (case hg => rfl); (case hr => first | (go_simp; done) | (go_simp; rfl)); intro gb248 hg w15 hbox hb; have n0_ := Aside0.mk (below_step (hz HB.out) hb); have n1_ := Aside0.mk (hbox); have n2_ := Aside0.mk ((by rw [hg]; exact (below_size (hz HB.out)) : w.heap.size ≤ gb248)); have n3_ := Aside0.mk ((by rw [hg]; exact (below_size (hz HB.out)) : w.heap.size ≤ gb248)); clear HB; have HB := n0_; have BK248 := n1_; have GW248 := n2_; have GE248 := n3_; clear n0_ n1_ n2_ n3_; clear hb hbox hg; have hcz16_0 : w15.cell? ⟨gb248, 0, none⟩ = some (.int .i64 a0_0) := bc BK248 0; have hcz16_1 : w15.cell? ⟨gb248, 1, none⟩ = some (.int .i64 a0_1) := bc BK248 1; have hfz16_0 := blk_frozen BK248.out 0; have hfz16_1 := blk_frozen BK248.out 1))
   go_ret
   exact ⟨by first | rfl | (simp [errW_none, errW_some] <;> rfl) | (simp [*, errW_none, errW_some] <;> rfl), hz1 HB.out GE248.out⟩

/-! ### impl_restMod: function 122 -/
def impl_restMod.f (a0 : Int) (a1 : Int) : Option (Int) := if a1 = 0 then (none) else (if (Int.tmod a0 a1) < 0 then (some (wrap64 ((Int.tmod a0 a1) + a1))) else (some (Int.tmod a0 a1)))
set_option maxHeartbeats 8000000 in
set_option maxRecDepth 100000 in
theorem impl_restMod.calls (a0 : Int) (a1 : Int) (r : Int) (w : World) (h : impl_restMod.f a0 a1 = some r) :
  Calls Try.prog 122 #[.int .i64 a0, .int .i64 a1] w fun e w' => e = .returned (.int .i64 r) ∧ Drawn0 w w' := by
 have H : (if a1 = 0 then (none) else (if (Int.tmod a0 a1) < 0 then (some (wrap64 ((Int.tmod a0 a1) + a1))) else (some (Int.tmod a0 a1)))) = some r := h
 clear h
 by_cases c3 : a1 = 0
 ·rw [if_pos c3] at H
  exact absurd H (by simp)
 ·rw [if_neg c3] at H
  have c3b0 : (a1 == 0) = false := beq_eq_false_iff_ne.mpr c3
  have c3b1 : (a1 != 0) = true := bne_iff_ne.mpr c3
  by_cases c4 : (Int.tmod a0 a1) < 0
  ·rw [if_pos c4] at H
   have c4b0 : decide ((Int.tmod a0 a1) < 0) = true := decide_eq_true c4
   clear c4
   obtain rfl := Option.some.inj H
   go_enter Try.func122, Try.ntmps122
   go_wp2
   go_ret
   exact ⟨by first | rfl | (simp; done) | (simp [*]; done), by repeat (first | exact Drawn0.refl _ | apply Drawn0.step)⟩
  ·rw [if_neg c4] at H
   have c4b0 : decide ((Int.tmod a0 a1) < 0) = false := decide_eq_false c4
   clear c4
   obtain rfl := Option.some.inj H
   go_enter Try.func122, Try.ntmps122
   go_wp2
   go_ret
   exact ⟨by first | rfl | (simp; done) | (simp [*]; done), by repeat (first | exact Drawn0.refl _ | apply Drawn0.step)⟩

/-! ### impl_Range_empty: function 124 -/
def impl_Range_empty.f (a0_0 : Int) (a0_1 : Int) : Option (Bool) := some (decide (a0_0 > a0_1))
set_option maxHeartbeats 8000000 in
set_option maxRecDepth 100000 in
theorem impl_Range_empty.calls (a0_0 : Int) (a0_1 : Int) (r : Bool) (w : World) (h : impl_Range_empty.f a0_0 a0_1 = some r) :
  Calls Try.prog 124 #[.agg #[.int .i64 a0_0, .int .i64 a0_1]] w fun e w' => e = .returned (.bool r) ∧ Below w.heap.size w w' := by
 have hu86 := Try.underlying86
 have HB := Aside0.mk (Below.refl w.heap.size w)
 have H : (some (decide (a0_0 > a0_1))) = some r := h
 clear h
 obtain rfl := Option.some.inj H
 go_enter Try.func124, Try.ntmps124
 go_wp2_with (first | ((with_reducible refine gate_dst (N := 1) rfl ?_); refine box_event ?hg (N := 1) ?hd (cs := #[.int .i64 a0_0, .int .i64 a0_1]) (t := 86) ?hr ?_; (case hd => rfl); (case hg => rfl); (case hr => first | (go_simp; done) | (go_simp; rfl)); intro gb250 hg w2 hbox hb; have n0_ := Aside0.mk (below_step (hz HB.out) hb); have n1_ := Aside0.mk (hbox); have n2_ := Aside0.mk ((by rw [hg]; exact (below_size (hz HB.out)) : w.heap.size ≤ gb250)); have n3_ := Aside0.mk ((by rw [hg]; exact (below_size (hz HB.out)) : w.heap.size ≤ gb250)); clear HB; have HB := n0_; have BK250 := n1_; have GW250 := n2_; have GE250 := n3_; clear n0_ n1_ n2_ n3_; clear hb hbox hg; have hcz3_0 : w2.cell? ⟨gb250, 0, none⟩ = some (.int .i64 a0_0) := bc BK250 0; have hcz3_1 : w2.cell? ⟨gb250, 1, none⟩ = some (.int .i64 a0_1) := bc BK250 1; have hfz3_0 := blk_frozen BK250.out 0; have hfz3_1 := blk_frozen BK250.out 1))
 go_ret
 exact ⟨by first | rfl | (simp [errW_none, errW_some] <;> rfl) | (simp [*, errW_none, errW_some] <;> rfl), hz1 HB.out GE250.out⟩

/-! ### impl_valOne: function 131 -/
def impl_valOne.f (a0 : Int) : Option (Int × Int × Int × Int) := some (a0, a0, 0, a0)
set_option maxHeartbeats 8000000 in
set_option maxRecDepth 100000 in
theorem impl_valOne.calls (a0 : Int) (r1 : Int) (r2 : Int) (r3 : Int) (r4 : Int) (w : World) (h : impl_valOne.f a0 = some (r1, r2, r3, r4)) :
  Calls Try.prog 131 #[.int .i64 a0] w fun e w' => e = .returned (.agg #[.int .i64 r1, .int .i64 r2, .int .i64 r3, .int .i64 r4]) ∧ Below w.heap.size w w' := by
 have hu25 := Try.underlying25
 have HB := Aside0.mk (Below.refl w.heap.size w)
 have H : (some (a0, a0, 0, a0)) = some (r1, r2, r3, r4) := h
 clear h
 simp only [Option.some.injEq, Prod.mk.injEq] at H
 obtain ⟨rfl, rfl, rfl, rfl⟩ := H
 go_enter Try.func131, Try.ntmps131
 go_wp2_with (first | ((with_reducible refine gate_dst (N := 2) rfl ?_); refine box_event ?hg (N := 2) ?hd (cs := #[.int .i64 0, .int .i64 0, .int .i64 0, .int .i64 0]) (t := 25) ?hr ?_; (case hd => rfl); (case hg => rfl); (case hr => first | (go_simp; done) | (go_simp; rfl)); intro gb251 hg w2 hbox hb; have n0_ := Aside0.mk (below_step (hz HB.out) hb); have n1_ := Aside0.mk (hbox); have n2_ := Aside0.mk ((by rw [hg]; exact (below_size (hz HB.out)) : w.heap.size ≤ gb251)); have n3_ := Aside0.mk ((by rw [hg]; exact (below_size (hz HB.out)) : w.heap.size ≤ gb251)); clear HB; have HB := n0_; have BK251 := n1_; have GW251 := n2_; have GE251 := n3_; clear n0_ n1_ n2_ n3_; clear hb hbox hg; have hcz3_0 : w2.cell? ⟨gb251, 0, none⟩ = some (.int .i64 0) := bc BK251 0; have hcz3_1 : w2.cell? ⟨gb251, 1, none⟩ = some (.int .i64 0) := bc BK251 1; have hcz3_2 : w2.cell? ⟨gb251, 2, none⟩ = some (.int .i64 0) := bc BK251 2; have hcz3_3 : w2.cell? ⟨gb251, 3, none⟩ = some (.int .i64 0) := bc BK251 3; have hfz3_0 := blk_frozen BK251.out 0; have hfz3_1 := blk_frozen BK251.out 1; have hfz3_2 := blk_frozen BK251.out 2; have hfz3_3 := blk_frozen BK251.out 3))
 refine bodyPost_ret (results_cell_row rfl _ _ gb251 25 #[.int .i64 a0, .int .i64 a0, .int .i64 0, .int .i64 a0] (0, 0) _ rfl (by (with_reducible repeat (first | refine blk_drewN ?_ _ | refine blk_drew ?_ | refine blk_alloc ?_ _)); refine blk_put (cs := #[.int .i64 a0, .int .i64 a0, .int .i64 0, .int .i64 0]) ?_ 3 _ rfl; (with_reducible repeat (first | refine blk_drewN ?_ _ | refine blk_drew ?_ | refine blk_alloc ?_ _)); refine blk_put (cs := #[.int .i64 a0, .int .i64 a0, .int .i64 0, .int .i64 0]) ?_ 2 _ rfl; (with_reducible repeat (first | refine blk_drewN ?_ _ | refine blk_drew ?_ | refine blk_alloc ?_ _)); refine blk_put (cs := #[.int .i64 a0, .int .i64 0, .int .i64 0, .int .i64 0]) ?_ 1 _ rfl; (with_reducible repeat (first | refine blk_drewN ?_ _ | refine blk_drew ?_ | refine blk_alloc ?_ _)); refine blk_put (cs := #[.int .i64 0, .int .i64 0, .int .i64 0, .int .i64 0]) ?_ 0 _ rfl; (with_reducible repeat (first | refine blk_drewN ?_ _ | refine blk_drew ?_ | refine blk_alloc ?_ _)); exact BK251.out) Try.underlying25 rfl (by kernel_rfl)) rfl ?_
 exact ⟨by first | rfl | (simp [errW_none, errW_some] <;> rfl) | (simp [*, errW_none, errW_some] <;> rfl), hz1 HB.out GE251.out⟩

/-! ### impl_ValMake: function 77 -/
def impl_ValMake.j0 : Nat → Bool → Int → Int → Int → Int → Option (Int × Int × Int × Int)
 | 0, _, _, _, _, _ => none
 | k + 1, x18, x253000, x253001, x254000, x254001 => if x18 = true then ((impl_valNone.f).bind fun bt258 => (some (bt258.1, bt258.2.1, bt258.2.2.1, bt258.2.2.2))) else (if x254000 = 0 then ((impl_RangeHas.f x253000 x253001 x254001).bind fun t262 => (if t262 = true then ((impl_valOne.f x254001).bind fun bt263 => (some (bt263.1, bt263.2.1, bt263.2.2.1, bt263.2.2.2))) else ((impl_valNone.f).bind fun bt267 => (some (bt267.1, bt267.2.1, bt267.2.2.1, bt267.2.2.2))))) else ((impl_restMod.f (wrap64 (x254001 - x253000)) x254000).bind fun t271 => ((impl_restMod.f (wrap64 (x253001 - x254001)) x254000).bind fun t272 => (if (wrap64 (x253000 + t271)) > (wrap64 (x253001 - t272)) then ((impl_valNone.f).bind fun bt273 => (some (bt273.1, bt273.2.1, bt273.2.2.1, bt273.2.2.2))) else (if (wrap64 (x253000 + t271)) = (wrap64 (x253001 - t272)) then ((impl_valOne.f (wrap64 (x253000 + t271))).bind fun bt277 => (some (bt277.1, bt277.2.1, bt277.2.2.1, bt277.2.2.2))) else (some (wrap64 (x253000 + t271), wrap64 (x253001 - t272), x254000, x254001)))))))
def impl_ValMake.f (k : Nat) (a0_0 : Int) (a0_1 : Int) (a1_0 : Int) (a1_1 : Int) : Option (Int × Int × Int × Int) := (impl_RangeOk.f a0_0 a0_1).bind fun t255 => (if t255 = true then ((impl_RestOk.f a1_0 a1_1).bind fun t256 => (if t256 = true then ((impl_Range_empty.f a0_0 a0_1).bind fun t257 => (impl_ValMake.j0 k t257 a0_0 a0_1 a1_0 a1_1)) else (impl_ValMake.j0 k true a0_0 a0_1 a1_0 a1_1))) else (impl_ValMake.j0 k true a0_0 a0_1 a1_0 a1_1))
theorem impl_ValMake.mono_l : ∀ k, (∀ y0 y1 y2 y3 y4, LeO (impl_ValMake.j0 k y0 y1 y2 y3 y4) (impl_ValMake.j0 (k + 1) y0 y1 y2 y3 y4))
 | 0 => fun _ _ _ _ _ r h => by simp [impl_ValMake.j0] at h
 | k + 1 => by
  have ih0 := impl_ValMake.mono_l k
  ·intro y0 y1 y2 y3 y4
   unfold impl_ValMake.j0
   repeat' first
   | (with_reducible exact ih0 _ _ _ _ _)
   | (with_reducible exact LeO.refl _)
   | (with_reducible exact LeO.none _)
   | (with_reducible refine LeO.ite ?_ ?_)
   | (with_reducible refine LeO.bind ?_ (fun _ => ?_))
   | exact ih0 _ _ _ _ _
   | exact LeO.none _
   | refine LeO.ite ?_ ?_
   | refine LeO.bind ?_ (fun _ => ?_)
theorem impl_ValMake.mono : ∀ a0 a1 a2 a3 k, LeO (impl_ValMake.f k a0 a1 a2 a3) (impl_ValMake.f (k + 1) a0 a1 a2 a3) := by
 intro a0 a1 a2 a3 k
 have ih0 := impl_ValMake.mono_l k
 unfold impl_ValMake.f
 repeat' first
   | (with_reducible exact ih0 _ _ _ _ _)
   | (with_reducible exact LeO.refl _)
   | (with_reducible exact LeO.none _)
   | (with_reducible refine LeO.ite ?_ ?_)
   | (with_reducible refine LeO.bind ?_ (fun _ => ?_))
   | exact ih0 _ _ _ _ _
   | exact LeO.none _
   | refine LeO.ite ?_ ?_
   | refine LeO.bind ?_ (fun _ => ?_)
set_option maxHeartbeats 8000000 in
set_option maxRecDepth 100000 in
theorem impl_ValMake.calls (k : Nat) (a0_0 : Int) (a0_1 : Int) (a1_0 : Int) (a1_1 : Int) (r1 : Int) (r2 : Int) (r3 : Int) (r4 : Int) (w : World) (h : impl_ValMake.f k a0_0 a0_1 a1_0 a1_1 = some (r1, r2, r3, r4)) :
  Calls Try.prog 77 #[.agg #[.int .i64 a0_0, .int .i64 a0_1], .agg #[.int .i64 a1_0, .int .i64 a1_1]] w fun e w' => e = .returned (.agg #[.int .i64 r1, .int .i64 r2, .int .i64 r3, .int .i64 r4]) ∧ Below w.heap.size w w' := by
 have hu86 := Try.underlying86
 have hu90 := Try.underlying90
 have hu25 := Try.underlying25
 have HB := Aside0.mk (Below.refl w.heap.size w)
 have H : ((impl_RangeOk.f a0_0 a0_1).bind fun t255 => (if t255 = true then ((impl_RestOk.f a1_0 a1_1).bind fun t256 => (if t256 = true then ((impl_Range_empty.f a0_0 a0_1).bind fun t257 => (impl_ValMake.j0 k t257 a0_0 a0_1 a1_0 a1_1)) else (impl_ValMake.j0 k true a0_0 a0_1 a1_0 a1_1))) else (impl_ValMake.j0 k true a0_0 a0_1 a1_0 a1_1))) = some (r1, r2, r3, r4) := h
 clear h
 have HC3 := Aside0.mk H
 clear H
 go_enter Try.func77, Try.ntmps77
 go_upto_region 1 with (first | ((with_reducible refine gate_dst (N := 2) rfl ?_); refine box_event ?hg (N := 2) ?hd (cs := #[.int .i64 a0_0, .int .i64 a0_1]) (t := 86) ?hr ?_; (case hd => rfl); (case hg => rfl); (case hr => first | (go_simp; done) | (go_simp; rfl)); intro gb252 hg w4 hbox hb; have n0_ := Aside0.mk (below_step (hz HB.out) hb); have n1_ := Aside0.mk (hbox); have n2_ := Aside0.mk ((by rw [hg]; exact (below_size (hz HB.out)) : w.heap.size ≤ gb252)); have n3_ := Aside0.mk ((by rw [hg]; exact (below_size (hz HB.out)) : w.heap.size ≤ gb252)); clear HB; have HB := n0_; have BK252 := n1_; have GW252 := n2_; have GE252 := n3_; clear n0_ n1_ n2_ n3_; clear hb hbox hg) | ((with_reducible refine gate_dst (N := 3) rfl ?_); refine box_event ?hg (N := 3) ?hd (cs := #[.int .i64 a1_0, .int .i64 a1_1]) (t := 90) ?hr ?_; (case hd => rfl); (case hg => rfl); (case hr => first | (go_simp; done) | (go_simp; rfl)); intro gb253 hg w5 hbox hb; have n0_ := Aside0.mk (blk_below (g := gb252) (o := b2 a0_0 a0_1 86) (bz BK252.out) hb); have n1_ := Aside0.mk (below_step (hz1 HB.out GE252.out) hb); have n2_ := Aside0.mk (hbox); have n3_ := Aside0.mk ((by rw [hg]; exact (below_size (hz1 HB.out GE252.out)) : w.heap.size ≤ gb253)); have n4_ := Aside0.mk ((by rw [hg]; exact (below_size (hz1 HB.out GE252.out)) : w.heap.size ≤ gb253)); have n5_ := Aside0.mk ((by rw [hg]; exact Nat.ne_of_lt (blk_lt (g := gb252) (o := b2 a0_0 a0_1 86) (bz BK252.out)) : gb252 ≠ gb253)); have n6_ := Aside0.mk ((by rw [hg]; exact Nat.ne_of_gt (blk_lt (g := gb252) (o := b2 a0_0 a0_1 86) (bz BK252.out)) : gb253 ≠ gb252)); clear BK252; clear HB; have BK252 := n0_; have HB := n1_; have BK253 := n2_; have GW253 := n3_; have GE253 := n4_; have NB252_253 := n5_; have NB253_252 := n6_; clear n0_ n1_ n2_ n3_ n4_ n5_ n6_; clear hb hbox hg) | ((with_reducible refine gate_dst (N := 4) rfl ?_); refine box_event ?hg (N := 4) ?hd (cs := #[.int .i64 0, .int .i64 0, .int .i64 0, .int .i64 0]) (t := 25) ?hr ?_; (case hd => rfl); (case hg => rfl); (case hr => first | (go_simp; done) | (go_simp; rfl)); intro gb254 hg w6 hbox hb; have n0_ := Aside0.mk (blk_below (g := gb252) (o := b2 a0_0 a0_1 86) (bz BK252.out) hb); have n1_ := Aside0.mk (blk_below (g := gb253) (o := b2 a1_0 a1_1 90) (bz BK253.out) hb); have n2_ := Aside0.mk (below_step (hz2 HB.out GE252.out GE253.out) hb); have n3_ := Aside0.mk (hbox); have n4_ := Aside0.mk ((by rw [hg]; exact (below_size (hz2 HB.out GE252.out GE253.out)) : w.heap.size ≤ gb254)); have n5_ := Aside0.mk ((by rw [hg]; exact (below_size (hz2 HB.out GE252.out GE253.out)) : w.heap.size ≤ gb254)); have n6_ := Aside0.mk ((by rw [hg]; exact Nat.ne_of_lt (blk_lt (g := gb252) (o := b2 a0_0 a0_1 86) (bz BK252.out)) : gb252 ≠ gb254)); have n7_ := Aside0.mk ((by rw [hg]; exact Nat.ne_of_gt (blk_lt (g := gb252) (o := b2 a0_0 a0_1 86) (bz BK252.out)) : gb254 ≠ gb252)); have n8_ := Aside0.mk ((by rw [hg]; exact Nat.ne_of_lt (blk_lt (g := gb253) (o := b2 a1_0 a1_1 90) (bz BK253.out)) : gb253 ≠ gb254)); have n9_ := Aside0.mk ((by rw [hg]; exact Nat.ne_of_gt (blk_lt (g := gb253) (o := b2 a1_0 a1_1 90) (bz BK253.out)) : gb254 ≠ gb253)); clear BK252; clear BK253; clear HB; have BK252 := n0_; have BK253 := n1_; have HB := n2_; have BK254 := n3_; have GW254 := n4_; have GE254 := n5_; have NB252_254 := n6_; have NB254_252 := n7_; have NB253_254 := n8_; have NB254_253 := n9_; clear n0_ n1_ n2_ n3_ n4_ n5_ n6_ n7_ n8_ n9_; clear hb hbox hg))
 repeat (go_quiet (first | ((with_reducible refine gate_dst (N := 2) rfl ?_); refine box_event ?hg (N := 2) ?hd (cs := #[.int .i64 a0_0, .int .i64 a0_1]) (t := 86) ?hr ?_; (case hd => rfl); (case hg => rfl); (case hr => first | (go_simp; done) | (go_simp; rfl)); intro gb252 hg w4 hbox hb; have n0_ := Aside0.mk (below_step (hz HB.out) hb); have n1_ := Aside0.mk (hbox); have n2_ := Aside0.mk ((by rw [hg]; exact (below_size (hz HB.out)) : w.heap.size ≤ gb252)); have n3_ := Aside0.mk ((by rw [hg]; exact (below_size (hz HB.out)) : w.heap.size ≤ gb252)); clear HB; have HB := n0_; have BK252 := n1_; have GW252 := n2_; have GE252 := n3_; clear n0_ n1_ n2_ n3_; clear hb hbox hg) | ((with_reducible refine gate_dst (N := 3) rfl ?_); refine box_event ?hg (N := 3) ?hd (cs := #[.int .i64 a1_0, .int .i64 a1_1]) (t := 90) ?hr ?_; (case hd => rfl); (case hg => rfl); (case hr => first | (go_simp; done) | (go_simp; rfl)); intro gb253 hg w5 hbox hb; have n0_ := Aside0.mk (blk_below (g := gb252) (o := b2 a0_0 a0_1 86) (bz BK252.out) hb); have n1_ := Aside0.mk (below_step (hz1 HB.out GE252.out) hb); have n2_ := Aside0.mk (hbox); have n3_ := Aside0.mk ((by rw [hg]; exact (below_size (hz1 HB.out GE252.out)) : w.heap.size ≤ gb253)); have n4_ := Aside0.mk ((by rw [hg]; exact (below_size (hz1 HB.out GE252.out)) : w.heap.size ≤ gb253)); have n5_ := Aside0.mk ((by rw [hg]; exact Nat.ne_of_lt (blk_lt (g := gb252) (o := b2 a0_0 a0_1 86) (bz BK252.out)) : gb252 ≠ gb253)); have n6_ := Aside0.mk ((by rw [hg]; exact Nat.ne_of_gt (blk_lt (g := gb252) (o := b2 a0_0 a0_1 86) (bz BK252.out)) : gb253 ≠ gb252)); clear BK252; clear HB; have BK252 := n0_; have HB := n1_; have BK253 := n2_; have GW253 := n3_; have GE253 := n4_; have NB252_253 := n5_; have NB253_252 := n6_; clear n0_ n1_ n2_ n3_ n4_ n5_ n6_; clear hb hbox hg) | ((with_reducible refine gate_dst (N := 4) rfl ?_); refine box_event ?hg (N := 4) ?hd (cs := #[.int .i64 0, .int .i64 0, .int .i64 0, .int .i64 0]) (t := 25) ?hr ?_; (case hd => rfl); (case hg => rfl); (case hr => first | (go_simp; done) | (go_simp; rfl)); intro gb254 hg w6 hbox hb; have n0_ := Aside0.mk (blk_below (g := gb252) (o := b2 a0_0 a0_1 86) (bz BK252.out) hb); have n1_ := Aside0.mk (blk_below (g := gb253) (o := b2 a1_0 a1_1 90) (bz BK253.out) hb); have n2_ := Aside0.mk (below_step (hz2 HB.out GE252.out GE253.out) hb); have n3_ := Aside0.mk (hbox); have n4_ := Aside0.mk ((by rw [hg]; exact (below_size (hz2 HB.out GE252.out GE253.out)) : w.heap.size ≤ gb254)); have n5_ := Aside0.mk ((by rw [hg]; exact (below_size (hz2 HB.out GE252.out GE253.out)) : w.heap.size ≤ gb254)); have n6_ := Aside0.mk ((by rw [hg]; exact Nat.ne_of_lt (blk_lt (g := gb252) (o := b2 a0_0 a0_1 86) (bz BK252.out)) : gb252 ≠ gb254)); have n7_ := Aside0.mk ((by rw [hg]; exact Nat.ne_of_gt (blk_lt (g := gb252) (o := b2 a0_0 a0_1 86) (bz BK252.out)) : gb254 ≠ gb252)); have n8_ := Aside0.mk ((by rw [hg]; exact Nat.ne_of_lt (blk_lt (g := gb253) (o := b2 a1_0 a1_1 90) (bz BK253.out)) : gb253 ≠ gb254)); have n9_ := Aside0.mk ((by rw [hg]; exact Nat.ne_of_gt (blk_lt (g := gb253) (o := b2 a1_0 a1_1 90) (bz BK253.out)) : gb254 ≠ gb253)); clear BK252; clear BK253; clear HB; have BK252 := n0_; have BK253 := n1_; have HB := n2_; have BK254 := n3_; have GW254 := n4_; have GE254 := n5_; have NB252_254 := n6_; have NB254_252 := n7_; have NB253_254 := n8_; have NB254_253 := n9_; clear n0_ n1_ n2_ n3_ n4_ n5_ n6_ n7_ n8_ n9_; clear hb hbox hg)); go_upto_region 1 with (first | ((with_reducible refine gate_dst (N := 2) rfl ?_); refine box_event ?hg (N := 2) ?hd (cs := #[.int .i64 a0_0, .int .i64 a0_1]) (t := 86) ?hr ?_; (case hd => rfl); (case hg => rfl); (case hr => first | (go_simp; done) | (go_simp; rfl)); intro gb252 hg w4 hbox hb; have n0_ := Aside0.mk (below_step (hz HB.out) hb); have n1_ := Aside0.mk (hbox); have n2_ := Aside0.mk ((by rw [hg]; exact (below_size (hz HB.out)) : w.heap.size ≤ gb252)); have n3_ := Aside0.mk ((by rw [hg]; exact (below_size (hz HB.out)) : w.heap.size ≤ gb252)); clear HB; have HB := n0_; have BK252 := n1_; have GW252 := n2_; have GE252 := n3_; clear n0_ n1_ n2_ n3_; clear hb hbox hg) | ((with_reducible refine gate_dst (N := 3) rfl ?_); refine box_event ?hg (N := 3) ?hd (cs := #[.int .i64 a1_0, .int .i64 a1_1]) (t := 90) ?hr ?_; (case hd => rfl); (case hg => rfl); (case hr => first | (go_simp; done) | (go_simp; rfl)); intro gb253 hg w5 hbox hb; have n0_ := Aside0.mk (blk_below (g := gb252) (o := b2 a0_0 a0_1 86) (bz BK252.out) hb); have n1_ := Aside0.mk (below_step (hz1 HB.out GE252.out) hb); have n2_ := Aside0.mk (hbox); have n3_ := Aside0.mk ((by rw [hg]; exact (below_size (hz1 HB.out GE252.out)) : w.heap.size ≤ gb253)); have n4_ := Aside0.mk ((by rw [hg]; exact (below_size (hz1 HB.out GE252.out)) : w.heap.size ≤ gb253)); have n5_ := Aside0.mk ((by rw [hg]; exact Nat.ne_of_lt (blk_lt (g := gb252) (o := b2 a0_0 a0_1 86) (bz BK252.out)) : gb252 ≠ gb253)); have n6_ := Aside0.mk ((by rw [hg]; exact Nat.ne_of_gt (blk_lt (g := gb252) (o := b2 a0_0 a0_1 86) (bz BK252.out)) : gb253 ≠ gb252)); clear BK252; clear HB; have BK252 := n0_; have HB := n1_; have BK253 := n2_; have GW253 := n3_; have GE253 := n4_; have NB252_253 := n5_; have NB253_252 := n6_; clear n0_ n1_ n2_ n3_ n4_ n5_ n6_; clear hb hbox hg) | ((with_reducible refine gate_dst (N := 4) rfl ?_); refine box_event ?hg (N := 4) ?hd (cs := #[.int .i64 0, .int .i64 0, .int .i64 0, .int .i64 0]) (t := 25) ?hr ?_; (case hd => rfl); (case hg => rfl); (case hr => first | (go_simp; done) | (go_simp; rfl)); intro gb254 hg w6 hbox hb; have n0_ := Aside0.mk (blk_below (g := gb252) (o := b2 a0_0 a0_1 86) (bz BK252.out) hb); have n1_ := Aside0.mk (blk_below (g := gb253) (o := b2 a1_0 a1_1 90) (bz BK253.out) hb); have n2_ := Aside0.mk (below_step (hz2 HB.out GE252.out GE253.out) hb); have n3_ := Aside0.mk (hbox); have n4_ := Aside0.mk ((by rw [hg]; exact (below_size (hz2 HB.out GE252.out GE253.out)) : w.heap.size ≤ gb254)); have n5_ := Aside0.mk ((by rw [hg]; exact (below_size (hz2 HB.out GE252.out GE253.out)) : w.heap.size ≤ gb254)); have n6_ := Aside0.mk ((by rw [hg]; exact Nat.ne_of_lt (blk_lt (g := gb252) (o := b2 a0_0 a0_1 86) (bz BK252.out)) : gb252 ≠ gb254)); have n7_ := Aside0.mk ((by rw [hg]; exact Nat.ne_of_gt (blk_lt (g := gb252) (o := b2 a0_0 a0_1 86) (bz BK252.out)) : gb254 ≠ gb252)); have n8_ := Aside0.mk ((by rw [hg]; exact Nat.ne_of_lt (blk_lt (g := gb253) (o := b2 a1_0 a1_1 90) (bz BK253.out)) : gb253 ≠ gb254)); have n9_ := Aside0.mk ((by rw [hg]; exact Nat.ne_of_gt (blk_lt (g := gb253) (o := b2 a1_0 a1_1 90) (bz BK253.out)) : gb254 ≠ gb253)); clear BK252; clear BK253; clear HB; have BK252 := n0_; have BK253 := n1_; have HB := n2_; have BK254 := n3_; have GW254 := n4_; have GE254 := n5_; have NB252_254 := n6_; have NB254_252 := n7_; have NB253_254 := n8_; have NB254_253 := n9_; clear n0_ n1_ n2_ n3_ n4_ n5_ n6_ n7_ n8_ n9_; clear hb hbox hg)))
 (try simp only [Act.put, List.setIfInBounds_toArray, List.set_cons_zero, List.set_cons_succ])
 go_cut [18] (fun v18 wc => ∃ (kq : Nat) (x18_2 : Bool), v18 = .bool x18_2 ∧ Aside0 (impl_ValMake.j0 kq x18_2 a0_0 a0_1 a1_0 a1_1 = some (r1, r2, r3, r4)) ∧ Aside0 (kq ≤ k) ∧ Aside0 (wc.heap[gb252]? = some (.cells #[.int .i64 a0_0, .int .i64 a0_1] 86 (0, 0))) ∧ Aside0 (wc.heap[gb253]? = some (.cells #[.int .i64 a1_0, .int .i64 a1_1] 90 (0, 0))) ∧ Aside0 (wc.heap[gb254]? = some (.cells #[.int .i64 0, .int .i64 0, .int .i64 0, .int .i64 0] 25 (0, 0))) ∧ Aside0 (Below w.heap.size w wc))
 case first =>
  have H := HC3.out
  clear HC3
  replace H := Option.bind_eq_some_iff.mp H
  obtain ⟨t255, A70, H⟩ := H
  replace H : (if t255 = true then ((impl_RestOk.f a1_0 a1_1).bind fun t256 => (if t256 = true then ((impl_Range_empty.f a0_0 a0_1).bind fun t257 => (impl_ValMake.j0 k t257 a0_0 a0_1 a1_0 a1_1)) else (impl_ValMake.j0 k true a0_0 a0_1 a1_0 a1_1))) else (impl_ValMake.j0 k true a0_0 a0_1 a1_0 a1_1)) = some (r1, r2, r3, r4) := H
  have A7 := Aside0.mk A70
  clear A70
  by_cases c8 : t255 = true
  ·subst c8
   have H1 : ((impl_RestOk.f a1_0 a1_1).bind fun t256 => (if t256 = true then ((impl_Range_empty.f a0_0 a0_1).bind fun t257 => (impl_ValMake.j0 k t257 a0_0 a0_1 a1_0 a1_1)) else (impl_ValMake.j0 k true a0_0 a0_1 a1_0 a1_1))) = some (r1, r2, r3, r4) := by rw [if_pos rfl] at H; exact H
   clear H
   have H := H1
   clear H1
   replace H := Option.bind_eq_some_iff.mp H
   obtain ⟨t256, A90, H⟩ := H
   replace H : (if t256 = true then ((impl_Range_empty.f a0_0 a0_1).bind fun t257 => (impl_ValMake.j0 k t257 a0_0 a0_1 a1_0 a1_1)) else (impl_ValMake.j0 k true a0_0 a0_1 a1_0 a1_1)) = some (r1, r2, r3, r4) := H
   have A9 := Aside0.mk A90
   clear A90
   by_cases c10 : t256 = true
   ·subst c10
    have H1 : ((impl_Range_empty.f a0_0 a0_1).bind fun t257 => (impl_ValMake.j0 k t257 a0_0 a0_1 a1_0 a1_1)) = some (r1, r2, r3, r4) := by rw [if_pos rfl] at H; exact H
    clear H
    have H := H1
    clear H1
    replace H := Option.bind_eq_some_iff.mp H
    obtain ⟨t257, A110, H⟩ := H
    replace H : (impl_ValMake.j0 k t257 a0_0 a0_1 a1_0 a1_1) = some (r1, r2, r3, r4) := H
    have A11 := Aside0.mk A110
    clear A110
    have H' := Aside0.mk H
    clear H
    have hnb12 := NB252_253.out
    have hnc12 := NB253_252.out
    have hnb13 := NB252_254.out
    have hnc13 := NB254_252.out
    have hcz14_0 : w6.cell? ⟨gb252, 0, none⟩ = some (.int .i64 a0_0) := bc BK252 0
    have hcz14_1 : w6.cell? ⟨gb252, 1, none⟩ = some (.int .i64 a0_1) := bc BK252 1
    have hfz14_0 := blk_frozen BK252.out 0
    have hfz14_1 := blk_frozen BK252.out 1
    go_wp2_with (first | (go_at_call 120; (with_reducible refine (impl_RangeOk.calls a0_0 a0_1 true _ A7.out).mono ?_); rintro e w15 ⟨rfl, hb⟩; have n0_ := Aside0.mk (blk_below (g := gb252) (o := b2 a0_0 a0_1 86) (bz BK252.out) hb); have n1_ := Aside0.mk (blk_below (g := gb253) (o := b2 a1_0 a1_1 90) (bz BK253.out) hb); have n2_ := Aside0.mk (blk_below (g := gb254) (o := b4 0 0 0 0 25) (bz BK254.out) hb); have n3_ := Aside0.mk (below_step (hz3 HB.out GE252.out GE253.out GE254.out) hb); clear BK252; clear BK253; clear BK254; clear HB; have BK252 := n0_; have BK253 := n1_; have BK254 := n2_; have HB := n3_; clear n0_ n1_ n2_ n3_; (try clear hb); (try clear hb2); (try clear hk); (try clear hi); have hnb16 := NB253_254.out; have hnc16 := NB254_253.out; have hcz17_0 : w15.cell? ⟨gb253, 0, none⟩ = some (.int .i64 a1_0) := bc BK253 0; have hcz17_1 : w15.cell? ⟨gb253, 1, none⟩ = some (.int .i64 a1_1) := bc BK253 1; have hfz17_0 := blk_frozen BK253.out 0; have hfz17_1 := blk_frozen BK253.out 1) | (go_at_call 121; (with_reducible refine (impl_RestOk.calls a1_0 a1_1 true _ A9.out).mono ?_); rintro e w18 ⟨rfl, hb⟩; have n0_ := Aside0.mk (blk_below (g := gb252) (o := b2 a0_0 a0_1 86) (bz BK252.out) hb); have n1_ := Aside0.mk (blk_below (g := gb253) (o := b2 a1_0 a1_1 90) (bz BK253.out) hb); have n2_ := Aside0.mk (blk_below (g := gb254) (o := b4 0 0 0 0 25) (bz BK254.out) hb); have n3_ := Aside0.mk (below_step (hz3 HB.out GE252.out GE253.out GE254.out) hb); clear BK252; clear BK253; clear BK254; clear HB; have BK252 := n0_; have BK253 := n1_; have BK254 := n2_; have HB := n3_; clear n0_ n1_ n2_ n3_; (try clear hb); (try clear hb2); (try clear hk); (try clear hi); have hcz19_0 : w18.cell? ⟨gb252, 0, none⟩ = some (.int .i64 a0_0) := bc BK252 0; have hcz19_1 : w18.cell? ⟨gb252, 1, none⟩ = some (.int .i64 a0_1) := bc BK252 1; have hfz19_0 := blk_frozen BK252.out 0; have hfz19_1 := blk_frozen BK252.out 1) | (go_at_call 124; (with_reducible refine (impl_Range_empty.calls a0_0 a0_1 t257 _ A11.out).mono ?_); rintro e w20 ⟨rfl, hb⟩; have n0_ := Aside0.mk (blk_below (g := gb252) (o := b2 a0_0 a0_1 86) (bz BK252.out) hb); have n1_ := Aside0.mk (blk_below (g := gb253) (o := b2 a1_0 a1_1 90) (bz BK253.out) hb); have n2_ := Aside0.mk (blk_below (g := gb254) (o := b4 0 0 0 0 25) (bz BK254.out) hb); have n3_ := Aside0.mk (below_step (hz3 HB.out GE252.out GE253.out GE254.out) hb); clear BK252; clear BK253; clear BK254; clear HB; have BK252 := n0_; have BK253 := n1_; have BK254 := n2_; have HB := n3_; clear n0_ n1_ n2_ n3_; (try clear hb); (try clear hb2); (try clear hk); (try clear hi)))
    try have hnb16 := NB253_254.out
    try have hnc16 := NB254_253.out
    try have hcz17_0 : w15.cell? ⟨gb253, 0, none⟩ = some (.int .i64 a1_0) := bc BK253 0
    try have hcz17_1 : w15.cell? ⟨gb253, 1, none⟩ = some (.int .i64 a1_1) := bc BK253 1
    try have hfz17_0 := blk_frozen BK253.out 0
    try have hfz17_1 := blk_frozen BK253.out 1
    try have hcz19_0 : w18.cell? ⟨gb252, 0, none⟩ = some (.int .i64 a0_0) := bc BK252 0
    try have hcz19_1 : w18.cell? ⟨gb252, 1, none⟩ = some (.int .i64 a0_1) := bc BK252 1
    try have hfz19_0 := blk_frozen BK252.out 0
    try have hfz19_1 := blk_frozen BK252.out 1
    repeat (go_quiet (first | (go_at_call 120; (with_reducible refine (impl_RangeOk.calls a0_0 a0_1 true _ A7.out).mono ?_); rintro e w15 ⟨rfl, hb⟩; have n0_ := Aside0.mk (blk_below (g := gb252) (o := b2 a0_0 a0_1 86) (bz BK252.out) hb); have n1_ := Aside0.mk (blk_below (g := gb253) (o := b2 a1_0 a1_1 90) (bz BK253.out) hb); have n2_ := Aside0.mk (blk_below (g := gb254) (o := b4 0 0 0 0 25) (bz BK254.out) hb); have n3_ := Aside0.mk (below_step (hz3 HB.out GE252.out GE253.out GE254.out) hb); clear BK252; clear BK253; clear BK254; clear HB; have BK252 := n0_; have BK253 := n1_; have BK254 := n2_; have HB := n3_; clear n0_ n1_ n2_ n3_; (try clear hb); (try clear hb2); (try clear hk); (try clear hi); (try (have hnb16 := NB253_254.out; have hnc16 := NB254_253.out; have hcz17_0 : w15.cell? ⟨gb253, 0, none⟩ = some (.int .i64 a1_0) := bc BK253 0; have hcz17_1 : w15.cell? ⟨gb253, 1, none⟩ = some (.int .i64 a1_1) := bc BK253 1; have hfz17_0 := blk_frozen BK253.out 0; have hfz17_1 := blk_frozen BK253.out 1))) | (go_at_call 121; (with_reducible refine (impl_RestOk.calls a1_0 a1_1 true _ A9.out).mono ?_); rintro e w18 ⟨rfl, hb⟩; have n0_ := Aside0.mk (blk_below (g := gb252) (o := b2 a0_0 a0_1 86) (bz BK252.out) hb); have n1_ := Aside0.mk (blk_below (g := gb253) (o := b2 a1_0 a1_1 90) (bz BK253.out) hb); have n2_ := Aside0.mk (blk_below (g := gb254) (o := b4 0 0 0 0 25) (bz BK254.out) hb); have n3_ := Aside0.mk (below_step (hz3 HB.out GE252.out GE253.out GE254.out) hb); clear BK252; clear BK253; clear BK254; clear HB; have BK252 := n0_; have BK253 := n1_; have BK254 := n2_; have HB := n3_; clear n0_ n1_ n2_ n3_; (try clear hb); (try clear hb2); (try clear hk); (try clear hi); (try (have hcz19_0 : w18.cell? ⟨gb252, 0, none⟩ = some (.int .i64 a0_0) := bc BK252 0; have hcz19_1 : w18.cell? ⟨gb252, 1, none⟩ = some (.int .i64 a0_1) := bc BK252 1; have hfz19_0 := blk_frozen BK252.out 0; have hfz19_1 := blk_frozen BK252.out 1))) | (go_at_call 124; (with_reducible refine (impl_Range_empty.calls a0_0 a0_1 t257 _ A11.out).mono ?_); rintro e w20 ⟨rfl, hb⟩; have n0_ := Aside0.mk (blk_below (g := gb252) (o := b2 a0_0 a0_1 86) (bz BK252.out) hb); have n1_ := Aside0.mk (blk_below (g := gb253) (o := b2 a1_0 a1_1 90) (bz BK253.out) hb); have n2_ := Aside0.mk (blk_below (g := gb254) (o := b4 0 0 0 0 25) (bz BK254.out) hb); have n3_ := Aside0.mk (below_step (hz3 HB.out GE252.out GE253.out GE254.out) hb); clear BK252; clear BK253; clear BK254; clear HB; have BK252 := n0_; have BK253 := n1_; have BK254 := n2_; have HB := n3_; clear n0_ n1_ n2_ n3_; (try clear hb); (try clear hb2); (try clear hk); (try clear hi))); try go_wp2_with (first | (go_at_call 120; (with_reducible refine (impl_RangeOk.calls a0_0 a0_1 true _ A7.out).mono ?_); rintro e w15 ⟨rfl, hb⟩; have n0_ := Aside0.mk (blk_below (g := gb252) (o := b2 a0_0 a0_1 86) (bz BK252.out) hb); have n1_ := Aside0.mk (blk_below (g := gb253) (o := b2 a1_0 a1_1 90) (bz BK253.out) hb); have n2_ := Aside0.mk (blk_below (g := gb254) (o := b4 0 0 0 0 25) (bz BK254.out) hb); have n3_ := Aside0.mk (below_step (hz3 HB.out GE252.out GE253.out GE254.out) hb); clear BK252; clear BK253; clear BK254; clear HB; have BK252 := n0_; have BK253 := n1_; have BK254 := n2_; have HB := n3_; clear n0_ n1_ n2_ n3_; (try clear hb); (try clear hb2); (try clear hk); (try clear hi); (try (have hnb16 := NB253_254.out; have hnc16 := NB254_253.out; have hcz17_0 : w15.cell? ⟨gb253, 0, none⟩ = some (.int .i64 a1_0) := bc BK253 0; have hcz17_1 : w15.cell? ⟨gb253, 1, none⟩ = some (.int .i64 a1_1) := bc BK253 1; have hfz17_0 := blk_frozen BK253.out 0; have hfz17_1 := blk_frozen BK253.out 1))) | (go_at_call 121; (with_reducible refine (impl_RestOk.calls a1_0 a1_1 true _ A9.out).mono ?_); rintro e w18 ⟨rfl, hb⟩; have n0_ := Aside0.mk (blk_below (g := gb252) (o := b2 a0_0 a0_1 86) (bz BK252.out) hb); have n1_ := Aside0.mk (blk_below (g := gb253) (o := b2 a1_0 a1_1 90) (bz BK253.out) hb); have n2_ := Aside0.mk (blk_below (g := gb254) (o := b4 0 0 0 0 25) (bz BK254.out) hb); have n3_ := Aside0.mk (below_step (hz3 HB.out GE252.out GE253.out GE254.out) hb); clear BK252; clear BK253; clear BK254; clear HB; have BK252 := n0_; have BK253 := n1_; have BK254 := n2_; have HB := n3_; clear n0_ n1_ n2_ n3_; (try clear hb); (try clear hb2); (try clear hk); (try clear hi); (try (have hcz19_0 : w18.cell? ⟨gb252, 0, none⟩ = some (.int .i64 a0_0) := bc BK252 0; have hcz19_1 : w18.cell? ⟨gb252, 1, none⟩ = some (.int .i64 a0_1) := bc BK252 1; have hfz19_0 := blk_frozen BK252.out 0; have hfz19_1 := blk_frozen BK252.out 1))) | (go_at_call 124; (with_reducible refine (impl_Range_empty.calls a0_0 a0_1 t257 _ A11.out).mono ?_); rintro e w20 ⟨rfl, hb⟩; have n0_ := Aside0.mk (blk_below (g := gb252) (o := b2 a0_0 a0_1 86) (bz BK252.out) hb); have n1_ := Aside0.mk (blk_below (g := gb253) (o := b2 a1_0 a1_1 90) (bz BK253.out) hb); have n2_ := Aside0.mk (blk_below (g := gb254) (o := b4 0 0 0 0 25) (bz BK254.out) hb); have n3_ := Aside0.mk (below_step (hz3 HB.out GE252.out GE253.out GE254.out) hb); clear BK252; clear BK253; clear BK254; clear HB; have BK252 := n0_; have BK253 := n1_; have BK254 := n2_; have HB := n3_; clear n0_ n1_ n2_ n3_; (try clear hb); (try clear hb2); (try clear hk); (try clear hi))))
    go_meet
    case rel => exact ⟨_, (t257), (by first | rfl | (simp; done) | (simp [*]; done)), H', ⟨by first | omega | exact Nat.le_refl _⟩, ⟨bz BK252.out⟩, ⟨bz BK253.out⟩, ⟨bz BK254.out⟩, ⟨hz3 HB.out GE252.out GE253.out GE254.out⟩⟩
   ·replace c10 := Bool.eq_false_iff.mpr c10
    subst c10
    have H1 : (impl_ValMake.j0 k true a0_0 a0_1 a1_0 a1_1) = some (r1, r2, r3, r4) := by rw [if_neg (show ¬ (false = true) by decide)] at H; exact H
    clear H
    have H := H1
    clear H1
    have H' := Aside0.mk H
    clear H
    have hnb21 := NB252_253.out
    have hnc21 := NB253_252.out
    have hnb22 := NB252_254.out
    have hnc22 := NB254_252.out
    have hcz23_0 : w6.cell? ⟨gb252, 0, none⟩ = some (.int .i64 a0_0) := bc BK252 0
    have hcz23_1 : w6.cell? ⟨gb252, 1, none⟩ = some (.int .i64 a0_1) := bc BK252 1
    have hfz23_0 := blk_frozen BK252.out 0
    have hfz23_1 := blk_frozen BK252.out 1
    go_wp2_with (first | (go_at_call 120; (with_reducible refine (impl_RangeOk.calls a0_0 a0_1 true _ A7.out).mono ?_); rintro e w24 ⟨rfl, hb⟩; have n0_ := Aside0.mk (blk_below (g := gb252) (o := b2 a0_0 a0_1 86) (bz BK252.out) hb); have n1_ := Aside0.mk (blk_below (g := gb253) (o := b2 a1_0 a1_1 90) (bz BK253.out) hb); have n2_ := Aside0.mk (blk_below (g := gb254) (o := b4 0 0 0 0 25) (bz BK254.out) hb); have n3_ := Aside0.mk (below_step (hz3 HB.out GE252.out GE253.out GE254.out) hb); clear BK252; clear BK253; clear BK254; clear HB; have BK252 := n0_; have BK253 := n1_; have BK254 := n2_; have HB := n3_; clear n0_ n1_ n2_ n3_; (try clear hb); (try clear hb2); (try clear hk); (try clear hi); have hnb25 := NB253_254.out; have hnc25 := NB254_253.out; have hcz26_0 : w24.cell? ⟨gb253, 0, none⟩ = some (.int .i64 a1_0) := bc BK253 0; have hcz26_1 : w24.cell? ⟨gb253, 1, none⟩ = some (.int .i64 a1_1) := bc BK253 1; have hfz26_0 := blk_frozen BK253.out 0; have hfz26_1 := blk_frozen BK253.out 1) | (go_at_call 121; (with_reducible refine (impl_RestOk.calls a1_0 a1_1 false _ A9.out).mono ?_); rintro e w27 ⟨rfl, hb⟩; have n0_ := Aside0.mk (blk_below (g := gb252) (o := b2 a0_0 a0_1 86) (bz BK252.out) hb); have n1_ := Aside0.mk (blk_below (g := gb253) (o := b2 a1_0 a1_1 90) (bz BK253.out) hb); have n2_ := Aside0.mk (blk_below (g := gb254) (o := b4 0 0 0 0 25) (bz BK254.out) hb); have n3_ := Aside0.mk (below_step (hz3 HB.out GE252.out GE253.out GE254.out) hb); clear BK252; clear BK253; clear BK254; clear HB; have BK252 := n0_; have BK253 := n1_; have BK254 := n2_; have HB := n3_; clear n0_ n1_ n2_ n3_; (try clear hb); (try clear hb2); (try clear hk); (try clear hi)))
    try have hnb25 := NB253_254.out
    try have hnc25 := NB254_253.out
    try have hcz26_0 : w24.cell? ⟨gb253, 0, none⟩ = some (.int .i64 a1_0) := bc BK253 0
    try have hcz26_1 : w24.cell? ⟨gb253, 1, none⟩ = some (.int .i64 a1_1) := bc BK253 1
    try have hfz26_0 := blk_frozen BK253.out 0
    try have hfz26_1 := blk_frozen BK253.out 1
    repeat (go_quiet (first | (go_at_call 120; (with_reducible refine (impl_RangeOk.calls a0_0 a0_1 true _ A7.out).mono ?_); rintro e w24 ⟨rfl, hb⟩; have n0_ := Aside0.mk (blk_below (g := gb252) (o := b2 a0_0 a0_1 86) (bz BK252.out) hb); have n1_ := Aside0.mk (blk_below (g := gb253) (o := b2 a1_0 a1_1 90) (bz BK253.out) hb); have n2_ := Aside0.mk (blk_below (g := gb254) (o := b4 0 0 0 0 25) (bz BK254.out) hb); have n3_ := Aside0.mk (below_step (hz3 HB.out GE252.out GE253.out GE254.out) hb); clear BK252; clear BK253; clear BK254; clear HB; have BK252 := n0_; have BK253 := n1_; have BK254 := n2_; have HB := n3_; clear n0_ n1_ n2_ n3_; (try clear hb); (try clear hb2); (try clear hk); (try clear hi); (try (have hnb25 := NB253_254.out; have hnc25 := NB254_253.out; have hcz26_0 : w24.cell? ⟨gb253, 0, none⟩ = some (.int .i64 a1_0) := bc BK253 0; have hcz26_1 : w24.cell? ⟨gb253, 1, none⟩ = some (.int .i64 a1_1) := bc BK253 1; have hfz26_0 := blk_frozen BK253.out 0; have hfz26_1 := blk_frozen BK253.out 1))) | (go_at_call 121; (with_reducible refine (impl_RestOk.calls a1_0 a1_1 false _ A9.out).mono ?_); rintro e w27 ⟨rfl, hb⟩; have n0_ := Aside0.mk (blk_below (g := gb252) (o := b2 a0_0 a0_1 86) (bz BK252.out) hb); have n1_ := Aside0.mk (blk_below (g := gb253) (o := b2 a1_0 a1_1 90) (bz BK253.out) hb); have n2_ := Aside0.mk (blk_below (g := gb254) (o := b4 0 0 0 0 25) (bz BK254.out) hb); have n3_ := Aside0.mk (below_step (hz3 HB.out GE252.out GE253.out GE254.out) hb); clear BK252; clear BK253; clear BK254; clear HB; have BK252 := n0_; have BK253 := n1_; have BK254 := n2_; have HB := n3_; clear n0_ n1_ n2_ n3_; (try clear hb); (try clear hb2); (try clear hk); (try clear hi))); try go_wp2_with (first | (go_at_call 120; (with_reducible refine (impl_RangeOk.calls a0_0 a0_1 true _ A7.out).mono ?_); rintro e w24 ⟨rfl, hb⟩; have n0_ := Aside0.mk (blk_below (g := gb252) (o := b2 a0_0 a0_1 86) (bz BK252.out) hb); have n1_ := Aside0.mk (blk_below (g := gb253) (o := b2 a1_0 a1_1 90) (bz BK253.out) hb); have n2_ := Aside0.mk (blk_below (g := gb254) (o := b4 0 0 0 0 25) (bz BK254.out) hb); have n3_ := Aside0.mk (below_step (hz3 HB.out GE252.out GE253.out GE254.out) hb); clear BK252; clear BK253; clear BK254; clear HB; have BK252 := n0_; have BK253 := n1_; have BK254 := n2_; have HB := n3_; clear n0_ n1_ n2_ n3_; (try clear hb); (try clear hb2); (try clear hk); (try clear hi); (try (have hnb25 := NB253_254.out; have hnc25 := NB254_253.out; have hcz26_0 : w24.cell? ⟨gb253, 0, none⟩ = some (.int .i64 a1_0) := bc BK253 0; have hcz26_1 : w24.cell? ⟨gb253, 1, none⟩ = some (.int .i64 a1_1) := bc BK253 1; have hfz26_0 := blk_frozen BK253.out 0; have hfz26_1 := blk_frozen BK253.out 1))) | (go_at_call 121; (with_reducible refine (impl_RestOk.calls a1_0 a1_1 false _ A9.out).mono ?_); rintro e w27 ⟨rfl, hb⟩; have n0_ := Aside0.mk (blk_below (g := gb252) (o := b2 a0_0 a0_1 86) (bz BK252.out) hb); have n1_ := Aside0.mk (blk_below (g := gb253) (o := b2 a1_0 a1_1 90) (bz BK253.out) hb); have n2_ := Aside0.mk (blk_below (g := gb254) (o := b4 0 0 0 0 25) (bz BK254.out) hb); have n3_ := Aside0.mk (below_step (hz3 HB.out GE252.out GE253.out GE254.out) hb); clear BK252; clear BK253; clear BK254; clear HB; have BK252 := n0_; have BK253 := n1_; have BK254 := n2_; have HB := n3_; clear n0_ n1_ n2_ n3_; (try clear hb); (try clear hb2); (try clear hk); (try clear hi))))
    go_meet
    case rel => exact ⟨_, (true), (by first | rfl | (simp; done) | (simp [*]; done)), H', ⟨by first | omega | exact Nat.le_refl _⟩, ⟨bz BK252.out⟩, ⟨bz BK253.out⟩, ⟨bz BK254.out⟩, ⟨hz3 HB.out GE252.out GE253.out GE254.out⟩⟩
  ·replace c8 := Bool.eq_false_iff.mpr c8
   subst c8
   have H1 : (impl_ValMake.j0 k true a0_0 a0_1 a1_0 a1_1) = some (r1, r2, r3, r4) := by rw [if_neg (show ¬ (false = true) by decide)] at H; exact H
   clear H
   have H := H1
   clear H1
   have H' := Aside0.mk H
   clear H
   have hnb28 := NB252_253.out
   have hnc28 := NB253_252.out
   have hnb29 := NB252_254.out
   have hnc29 := NB254_252.out
   have hcz30_0 : w6.cell? ⟨gb252, 0, none⟩ = some (.int .i64 a0_0) := bc BK252 0
   have hcz30_1 : w6.cell? ⟨gb252, 1, none⟩ = some (.int .i64 a0_1) := bc BK252 1
   have hfz30_0 := blk_frozen BK252.out 0
   have hfz30_1 := blk_frozen BK252.out 1
   go_wp2_with (first | (go_at_call 120; (with_reducible refine (impl_RangeOk.calls a0_0 a0_1 false _ A7.out).mono ?_); rintro e w31 ⟨rfl, hb⟩; have n0_ := Aside0.mk (blk_below (g := gb252) (o := b2 a0_0 a0_1 86) (bz BK252.out) hb); have n1_ := Aside0.mk (blk_below (g := gb253) (o := b2 a1_0 a1_1 90) (bz BK253.out) hb); have n2_ := Aside0.mk (blk_below (g := gb254) (o := b4 0 0 0 0 25) (bz BK254.out) hb); have n3_ := Aside0.mk (below_step (hz3 HB.out GE252.out GE253.out GE254.out) hb); clear BK252; clear BK253; clear BK254; clear HB; have BK252 := n0_; have BK253 := n1_; have BK254 := n2_; have HB := n3_; clear n0_ n1_ n2_ n3_; (try clear hb); (try clear hb2); (try clear hk); (try clear hi)))
   repeat (go_quiet (first | (go_at_call 120; (with_reducible refine (impl_RangeOk.calls a0_0 a0_1 false _ A7.out).mono ?_); rintro e w31 ⟨rfl, hb⟩; have n0_ := Aside0.mk (blk_below (g := gb252) (o := b2 a0_0 a0_1 86) (bz BK252.out) hb); have n1_ := Aside0.mk (blk_below (g := gb253) (o := b2 a1_0 a1_1 90) (bz BK253.out) hb); have n2_ := Aside0.mk (blk_below (g := gb254) (o := b4 0 0 0 0 25) (bz BK254.out) hb); have n3_ := Aside0.mk (below_step (hz3 HB.out GE252.out GE253.out GE254.out) hb); clear BK252; clear BK253; clear BK254; clear HB; have BK252 := n0_; have BK253 := n1_; have BK254 := n2_; have HB := n3_; clear n0_ n1_ n2_ n3_; (try clear hb); (try clear hb2); (try clear hk); (try clear hi))); try go_wp2_with (first | (go_at_call 120; (with_reducible refine (impl_RangeOk.calls a0_0 a0_1 false _ A7.out).mono ?_); rintro e w31 ⟨rfl, hb⟩; have n0_ := Aside0.mk (blk_below (g := gb252) (o := b2 a0_0 a0_1 86) (bz BK252.out) hb); have n1_ := Aside0.mk (blk_below (g := gb253) (o := b2 a1_0 a1_1 90) (bz BK253.out) hb); have n2_ := Aside0.mk (blk_below (g := gb254) (o := b4 0 0 0 0 25) (bz BK254.out) hb); have n3_ := Aside0.mk (below_step (hz3 HB.out GE252.out GE253.out GE254.out) hb); clear BK252; clear BK253; clear BK254; clear HB; have BK252 := n0_; have BK253 := n1_; have BK254 := n2_; have HB := n3_; clear n0_ n1_ n2_ n3_; (try clear hb); (try clear hb2); (try clear hk); (try clear hi))))
   go_meet
   case rel => exact ⟨_, (true), (by first | rfl | (simp; done) | (simp [*]; done)), H', ⟨by first | omega | exact Nat.le_refl _⟩, ⟨bz BK252.out⟩, ⟨bz BK253.out⟩, ⟨bz BK254.out⟩, ⟨hz3 HB.out GE252.out GE253.out GE254.out⟩⟩
 case rest =>
  clear HC3
  try clear c1
  try clear c2
  try clear p2
  try clear c7
  try clear c8
  try clear c10
  try clear c12
  try clear c13
  try clear c16
  try clear c21
  try clear c22
  try clear c25
  try clear c28
  try clear c29
  try clear hcz14_0
  try clear hcz14_1
  try clear hcz17_0
  try clear hcz17_1
  try clear hcz19_0
  try clear hcz19_1
  try clear hcz23_0
  try clear hcz23_1
  try clear hcz26_0
  try clear hcz26_1
  try clear hcz30_0
  try clear hcz30_1
  try clear hfz14_0
  try clear hfz14_1
  try clear hfz17_0
  try clear hfz17_1
  try clear hfz19_0
  try clear hfz19_1
  try clear hfz23_0
  try clear hfz23_1
  try clear hfz26_0
  try clear hfz26_1
  try clear hfz30_0
  try clear hfz30_1
  obtain ⟨kq, x18_2, rfl, HA, HJ2, BK252, BK253, BK254, HB⟩ := hcut
  cases kq with
  | zero => exact absurd HA.out (by simp [impl_ValMake.j0])
  | succ kj2 =>
   have H := HA.out
   clear HA
   simp only [impl_ValMake.j0] at H
   by_cases c32 : x18_2 = true
   ·subst c32
    have H1 : ((impl_valNone.f).bind fun bt258 => (some (bt258.1, bt258.2.1, bt258.2.2.1, bt258.2.2.2))) = some (r1, r2, r3, r4) := by rw [if_pos rfl] at H; exact H
    clear H
    have H := H1
    clear H1
    replace H := Option.bind_eq_some_iff.mp H
    obtain ⟨⟨t258, t259, t260, t261⟩, A330, H⟩ := H
    replace H : (some (t258, t259, t260, t261)) = some (r1, r2, r3, r4) := H
    have A33 := Aside0.mk A330
    clear A330
    simp only [Option.some.injEq, Prod.mk.injEq] at H
    obtain ⟨rfl, rfl, rfl, rfl⟩ := H
    go_wp2_with (first | (go_at_call 76; (with_reducible refine (impl_valNone.calls  t258 t259 t260 t261 _ A33.out).mono ?_); rintro e w34 ⟨rfl, hb⟩; have n0_ := Aside0.mk (blk_below (g := gb252) (o := b2 a0_0 a0_1 86) (bz BK252.out) hb); have n1_ := Aside0.mk (blk_below (g := gb253) (o := b2 a1_0 a1_1 90) (bz BK253.out) hb); have n2_ := Aside0.mk (blk_below (g := gb254) (o := b4 0 0 0 0 25) (bz BK254.out) hb); have n3_ := Aside0.mk (below_step (hz3 HB.out GE252.out GE253.out GE254.out) hb); clear BK252; clear BK253; clear BK254; clear HB; have BK252 := n0_; have BK253 := n1_; have BK254 := n2_; have HB := n3_; clear n0_ n1_ n2_ n3_; (try clear hb); (try clear hb2); (try clear hk); (try clear hi); have hnb35 := NB254_252.out; have hnc35 := NB252_254.out; have hnb36 := NB254_253.out; have hnc36 := NB253_254.out; have hcz37_0 : w34.cell? ⟨gb254, 0, none⟩ = some (.int .i64 0) := bc BK254 0; have hcz37_1 : w34.cell? ⟨gb254, 1, none⟩ = some (.int .i64 0) := bc BK254 1; have hcz37_2 : w34.cell? ⟨gb254, 2, none⟩ = some (.int .i64 0) := bc BK254 2; have hcz37_3 : w34.cell? ⟨gb254, 3, none⟩ = some (.int .i64 0) := bc BK254 3; have hfz37_0 := blk_frozen BK254.out 0; have hfz37_1 := blk_frozen BK254.out 1; have hfz37_2 := blk_frozen BK254.out 2; have hfz37_3 := blk_frozen BK254.out 3))
    try have hnb35 := NB254_252.out
    try have hnc35 := NB252_254.out
    try have hnb36 := NB254_253.out
    try have hnc36 := NB253_254.out
    try have hcz37_0 : w34.cell? ⟨gb254, 0, none⟩ = some (.int .i64 0) := bc BK254 0
    try have hcz37_1 : w34.cell? ⟨gb254, 1, none⟩ = some (.int .i64 0) := bc BK254 1
    try have hcz37_2 : w34.cell? ⟨gb254, 2, none⟩ = some (.int .i64 0) := bc BK254 2
    try have hcz37_3 : w34.cell? ⟨gb254, 3, none⟩ = some (.int .i64 0) := bc BK254 3
    try have hfz37_0 := blk_frozen BK254.out 0
    try have hfz37_1 := blk_frozen BK254.out 1
    try have hfz37_2 := blk_frozen BK254.out 2
    try have hfz37_3 := blk_frozen BK254.out 3
    repeat (go_quiet (first | (go_at_call 76; (with_reducible refine (impl_valNone.calls  t258 t259 t260 t261 _ A33.out).mono ?_); rintro e w34 ⟨rfl, hb⟩; have n0_ := Aside0.mk (blk_below (g := gb252) (o := b2 a0_0 a0_1 86) (bz BK252.out) hb); have n1_ := Aside0.mk (blk_below (g := gb253) (o := b2 a1_0 a1_1 90) (bz BK253.out) hb); have n2_ := Aside0.mk (blk_below (g := gb254) (o := b4 0 0 0 0 25) (bz BK254.out) hb); have n3_ := Aside0.mk (below_step (hz3 HB.out GE252.out GE253.out GE254.out) hb); clear BK252; clear BK253; clear BK254; clear HB; have BK252 := n0_; have BK253 := n1_; have BK254 := n2_; have HB := n3_; clear n0_ n1_ n2_ n3_; (try clear hb); (try clear hb2); (try clear hk); (try clear hi); (try (have hnb35 := NB254_252.out; have hnc35 := NB252_254.out; have hnb36 := NB254_253.out; have hnc36 := NB253_254.out; have hcz37_0 : w34.cell? ⟨gb254, 0, none⟩ = some (.int .i64 0) := bc BK254 0; have hcz37_1 : w34.cell? ⟨gb254, 1, none⟩ = some (.int .i64 0) := bc BK254 1; have hcz37_2 : w34.cell? ⟨gb254, 2, none⟩ = some (.int .i64 0) := bc BK254 2; have hcz37_3 : w34.cell? ⟨gb254, 3, none⟩ = some (.int .i64 0) := bc BK254 3; have hfz37_0 := blk_frozen BK254.out 0; have hfz37_1 := blk_frozen BK254.out 1; have hfz37_2 := blk_frozen BK254.out 2; have hfz37_3 := blk_frozen BK254.out 3)))); try go_wp2_with (first | (go_at_call 76; (with_reducible refine (impl_valNone.calls  t258 t259 t260 t261 _ A33.out).mono ?_); rintro e w34 ⟨rfl, hb⟩; have n0_ := Aside0.mk (blk_below (g := gb252) (o := b2 a0_0 a0_1 86) (bz BK252.out) hb); have n1_ := Aside0.mk (blk_below (g := gb253) (o := b2 a1_0 a1_1 90) (bz BK253.out) hb); have n2_ := Aside0.mk (blk_below (g := gb254) (o := b4 0 0 0 0 25) (bz BK254.out) hb); have n3_ := Aside0.mk (below_step (hz3 HB.out GE252.out GE253.out GE254.out) hb); clear BK252; clear BK253; clear BK254; clear HB; have BK252 := n0_; have BK253 := n1_; have BK254 := n2_; have HB := n3_; clear n0_ n1_ n2_ n3_; (try clear hb); (try clear hb2); (try clear hk); (try clear hi); (try (have hnb35 := NB254_252.out; have hnc35 := NB252_254.out; have hnb36 := NB254_253.out; have hnc36 := NB253_254.out; have hcz37_0 : w34.cell? ⟨gb254, 0, none⟩ = some (.int .i64 0) := bc BK254 0; have hcz37_1 : w34.cell? ⟨gb254, 1, none⟩ = some (.int .i64 0) := bc BK254 1; have hcz37_2 : w34.cell? ⟨gb254, 2, none⟩ = some (.int .i64 0) := bc BK254 2; have hcz37_3 : w34.cell? ⟨gb254, 3, none⟩ = some (.int .i64 0) := bc BK254 3; have hfz37_0 := blk_frozen BK254.out 0; have hfz37_1 := blk_frozen BK254.out 1; have hfz37_2 := blk_frozen BK254.out 2; have hfz37_3 := blk_frozen BK254.out 3)))))
    refine bodyPost_ret (results_cell_row rfl _ _ gb254 25 #[.int .i64 t258, .int .i64 t259, .int .i64 t260, .int .i64 t261] (0, 0) _ rfl (by (with_reducible repeat (first | refine blk_drewN ?_ _ | refine blk_drew ?_ | refine blk_alloc ?_ _)); refine blk_put (cs := #[.int .i64 t258, .int .i64 t259, .int .i64 t260, .int .i64 0]) ?_ 3 _ rfl; (with_reducible repeat (first | refine blk_drewN ?_ _ | refine blk_drew ?_ | refine blk_alloc ?_ _)); refine blk_put (cs := #[.int .i64 t258, .int .i64 t259, .int .i64 0, .int .i64 0]) ?_ 2 _ rfl; (with_reducible repeat (first | refine blk_drewN ?_ _ | refine blk_drew ?_ | refine blk_alloc ?_ _)); refine blk_put (cs := #[.int .i64 t258, .int .i64 0, .int .i64 0, .int .i64 0]) ?_ 1 _ rfl; (with_reducible repeat (first | refine blk_drewN ?_ _ | refine blk_drew ?_ | refine blk_alloc ?_ _)); refine blk_put (cs := #[.int .i64 0, .int .i64 0, .int .i64 0, .int .i64 0]) ?_ 0 _ rfl; (with_reducible repeat (first | refine blk_drewN ?_ _ | refine blk_drew ?_ | refine blk_alloc ?_ _)); exact BK254.out) Try.underlying25 rfl (by kernel_rfl)) rfl ?_
    exact ⟨by first | rfl | (simp [errW_none, errW_some] <;> rfl) | (simp [*, errW_none, errW_some] <;> rfl), hz3 HB.out GE252.out GE253.out GE254.out⟩
   ·replace c32 := Bool.eq_false_iff.mpr c32
    subst c32
    have H1 : (if a1_0 = 0 then ((impl_RangeHas.f a0_0 a0_1 a1_1).bind fun t262 => (if t262 = true then ((impl_valOne.f a1_1).bind fun bt263 => (some (bt263.1, bt263.2.1, bt263.2.2.1, bt263.2.2.2))) else ((impl_valNone.f).bind fun bt267 => (some (bt267.1, bt267.2.1, bt267.2.2.1, bt267.2.2.2))))) else ((impl_restMod.f (wrap64 (a1_1 - a0_0)) a1_0).bind fun t271 => ((impl_restMod.f (wrap64 (a0_1 - a1_1)) a1_0).bind fun t272 => (if (wrap64 (a0_0 + t271)) > (wrap64 (a0_1 - t272)) then ((impl_valNone.f).bind fun bt273 => (some (bt273.1, bt273.2.1, bt273.2.2.1, bt273.2.2.2))) else (if (wrap64 (a0_0 + t271)) = (wrap64 (a0_1 - t272)) then ((impl_valOne.f (wrap64 (a0_0 + t271))).bind fun bt277 => (some (bt277.1, bt277.2.1, bt277.2.2.1, bt277.2.2.2))) else (some (wrap64 (a0_0 + t271), wrap64 (a0_1 - t272), a1_0, a1_1))))))) = some (r1, r2, r3, r4) := by rw [if_neg (show ¬ (false = true) by decide)] at H; exact H
    clear H
    have H := H1
    clear H1
    by_cases c38 : a1_0 = 0
    ·rw [if_pos c38] at H
     have c38b0 : (a1_0 == 0) = true := beq_iff_eq.mpr c38
     have c38b1 : (a1_0 != 0) = false := bne_eq_false_iff_eq.mpr c38
     clear c38
     replace H := Option.bind_eq_some_iff.mp H
     obtain ⟨t262, A390, H⟩ := H
     replace H : (if t262 = true then ((impl_valOne.f a1_1).bind fun bt263 => (some (bt263.1, bt263.2.1, bt263.2.2.1, bt263.2.2.2))) else ((impl_valNone.f).bind fun bt267 => (some (bt267.1, bt267.2.1, bt267.2.2.1, bt267.2.2.2)))) = some (r1, r2, r3, r4) := H
     have A39 := Aside0.mk A390
     clear A390
     by_cases c40 : t262 = true
     ·subst c40
      have H1 : ((impl_valOne.f a1_1).bind fun bt263 => (some (bt263.1, bt263.2.1, bt263.2.2.1, bt263.2.2.2))) = some (r1, r2, r3, r4) := by rw [if_pos rfl] at H; exact H
      clear H
      have H := H1
      clear H1
      replace H := Option.bind_eq_some_iff.mp H
      obtain ⟨⟨t263, t264, t265, t266⟩, A410, H⟩ := H
      replace H : (some (t263, t264, t265, t266)) = some (r1, r2, r3, r4) := H
      have A41 := Aside0.mk A410
      clear A410
      simp only [Option.some.injEq, Prod.mk.injEq] at H
      obtain ⟨rfl, rfl, rfl, rfl⟩ := H
      have hnb42 := NB253_252.out
      have hnc42 := NB252_253.out
      have hnb43 := NB253_254.out
      have hnc43 := NB254_253.out
      have hcz44_0 : wc.cell? ⟨gb253, 0, none⟩ = some (.int .i64 a1_0) := bc BK253 0
      have hcz44_1 : wc.cell? ⟨gb253, 1, none⟩ = some (.int .i64 a1_1) := bc BK253 1
      have hfz44_0 := blk_frozen BK253.out 0
      have hfz44_1 := blk_frozen BK253.out 1
      have hnb45 := NB252_254.out
      have hnc45 := NB254_252.out
      have hcz46_0 : wc.cell? ⟨gb252, 0, none⟩ = some (.int .i64 a0_0) := bc BK252 0
      have hcz46_1 : wc.cell? ⟨gb252, 1, none⟩ = some (.int .i64 a0_1) := bc BK252 1
      have hfz46_0 := blk_frozen BK252.out 0
      have hfz46_1 := blk_frozen BK252.out 1
      go_wp2_with (first | (go_at_call 64; (with_reducible refine (impl_RangeHas.calls a0_0 a0_1 a1_1 true _ A39.out).mono ?_); rintro e w47 ⟨rfl, hb⟩; have n0_ := Aside0.mk (blk_below (g := gb252) (o := b2 a0_0 a0_1 86) (bz BK252.out) hb); have n1_ := Aside0.mk (blk_below (g := gb253) (o := b2 a1_0 a1_1 90) (bz BK253.out) hb); have n2_ := Aside0.mk (blk_below (g := gb254) (o := b4 0 0 0 0 25) (bz BK254.out) hb); have n3_ := Aside0.mk (below_step (hz3 HB.out GE252.out GE253.out GE254.out) hb); clear BK252; clear BK253; clear BK254; clear HB; have BK252 := n0_; have BK253 := n1_; have BK254 := n2_; have HB := n3_; clear n0_ n1_ n2_ n3_; (try clear hb); (try clear hb2); (try clear hk); (try clear hi); have hcz48_0 : w47.cell? ⟨gb253, 0, none⟩ = some (.int .i64 a1_0) := bc BK253 0; have hcz48_1 : w47.cell? ⟨gb253, 1, none⟩ = some (.int .i64 a1_1) := bc BK253 1; have hfz48_0 := blk_frozen BK253.out 0; have hfz48_1 := blk_frozen BK253.out 1) | (go_at_call 131; (with_reducible refine (impl_valOne.calls a1_1 t263 t264 t265 t266 _ A41.out).mono ?_); rintro e w49 ⟨rfl, hb⟩; have n0_ := Aside0.mk (blk_below (g := gb252) (o := b2 a0_0 a0_1 86) (bz BK252.out) hb); have n1_ := Aside0.mk (blk_below (g := gb253) (o := b2 a1_0 a1_1 90) (bz BK253.out) hb); have n2_ := Aside0.mk (blk_below (g := gb254) (o := b4 0 0 0 0 25) (bz BK254.out) hb); have n3_ := Aside0.mk (below_step (hz3 HB.out GE252.out GE253.out GE254.out) hb); clear BK252; clear BK253; clear BK254; clear HB; have BK252 := n0_; have BK253 := n1_; have BK254 := n2_; have HB := n3_; clear n0_ n1_ n2_ n3_; (try clear hb); (try clear hb2); (try clear hk); (try clear hi); have hcz50_0 : w49.cell? ⟨gb254, 0, none⟩ = some (.int .i64 0) := bc BK254 0; have hcz50_1 : w49.cell? ⟨gb254, 1, none⟩ = some (.int .i64 0) := bc BK254 1; have hcz50_2 : w49.cell? ⟨gb254, 2, none⟩ = some (.int .i64 0) := bc BK254 2; have hcz50_3 : w49.cell? ⟨gb254, 3, none⟩ = some (.int .i64 0) := bc BK254 3; have hfz50_0 := blk_frozen BK254.out 0; have hfz50_1 := blk_frozen BK254.out 1; have hfz50_2 := blk_frozen BK254.out 2; have hfz50_3 := blk_frozen BK254.out 3))
      try have hcz48_0 : w47.cell? ⟨gb253, 0, none⟩ = some (.int .i64 a1_0) := bc BK253 0
      try have hcz48_1 : w47.cell? ⟨gb253, 1, none⟩ = some (.int .i64 a1_1) := bc BK253 1
      try have hfz48_0 := blk_frozen BK253.out 0
      try have hfz48_1 := blk_frozen BK253.out 1
      try have hcz50_0 : w49.cell? ⟨gb254, 0, none⟩ = some (.int .i64 0) := bc BK254 0
      try have hcz50_1 : w49.cell? ⟨gb254, 1, none⟩ = some (.int .i64 0) := bc BK254 1
      try have hcz50_2 : w49.cell? ⟨gb254, 2, none⟩ = some (.int .i64 0) := bc BK254 2
      try have hcz50_3 : w49.cell? ⟨gb254, 3, none⟩ = some (.int .i64 0) := bc BK254 3
      try have hfz50_0 := blk_frozen BK254.out 0
      try have hfz50_1 := blk_frozen BK254.out 1
      try have hfz50_2 := blk_frozen BK254.out 2
      try have hfz50_3 := blk_frozen BK254.out 3
      repeat (go_quiet (first | (go_at_call 64; (with_reducible refine (impl_RangeHas.calls a0_0 a0_1 a1_1 true _ A39.out).mono ?_); rintro e w47 ⟨rfl, hb⟩; have n0_ := Aside0.mk (blk_below (g := gb252) (o := b2 a0_0 a0_1 86) (bz BK252.out) hb); have n1_ := Aside0.mk (blk_below (g := gb253) (o := b2 a1_0 a1_1 90) (bz BK253.out) hb); have n2_ := Aside0.mk (blk_below (g := gb254) (o := b4 0 0 0 0 25) (bz BK254.out) hb); have n3_ := Aside0.mk (below_step (hz3 HB.out GE252.out GE253.out GE254.out) hb); clear BK252; clear BK253; clear BK254; clear HB; have BK252 := n0_; have BK253 := n1_; have BK254 := n2_; have HB := n3_; clear n0_ n1_ n2_ n3_; (try clear hb); (try clear hb2); (try clear hk); (try clear hi); (try (have hcz48_0 : w47.cell? ⟨gb253, 0, none⟩ = some (.int .i64 a1_0) := bc BK253 0; have hcz48_1 : w47.cell? ⟨gb253, 1, none⟩ = some (.int .i64 a1_1) := bc BK253 1; have hfz48_0 := blk_frozen BK253.out 0; have hfz48_1 := blk_frozen BK253.out 1))) | (go_at_call 131; (with_reducible refine (impl_valOne.calls a1_1 t263 t264 t265 t266 _ A41.out).mono ?_); rintro e w49 ⟨rfl, hb⟩; have n0_ := Aside0.mk (blk_below (g := gb252) (o := b2 a0_0 a0_1 86) (bz BK252.out) hb); have n1_ := Aside0.mk (blk_below (g := gb253) (o := b2 a1_0 a1_1 90) (bz BK253.out) hb); have n2_ := Aside0.mk (blk_below (g := gb254) (o := b4 0 0 0 0 25) (bz BK254.out) hb); have n3_ := Aside0.mk (below_step (hz3 HB.out GE252.out GE253.out GE254.out) hb); clear BK252; clear BK253; clear BK254; clear HB; have BK252 := n0_; have BK253 := n1_; have BK254 := n2_; have HB := n3_; clear n0_ n1_ n2_ n3_; (try clear hb); (try clear hb2); (try clear hk); (try clear hi); (try (have hcz50_0 : w49.cell? ⟨gb254, 0, none⟩ = some (.int .i64 0) := bc BK254 0; have hcz50_1 : w49.cell? ⟨gb254, 1, none⟩ = some (.int .i64 0) := bc BK254 1; have hcz50_2 : w49.cell? ⟨gb254, 2, none⟩ = some (.int .i64 0) := bc BK254 2; have hcz50_3 : w49.cell? ⟨gb254, 3, none⟩ = some (.int .i64 0) := bc BK254 3; have hfz50_0 := blk_frozen BK254.out 0; have hfz50_1 := blk_frozen BK254.out 1; have hfz50_2 := blk_frozen BK254.out 2; have hfz50_3 := blk_frozen BK254.out 3)))); try go_wp2_with (first | (go_at_call 64; (with_reducible refine (impl_RangeHas.calls a0_0 a0_1 a1_1 true _ A39.out).mono ?_); rintro e w47 ⟨rfl, hb⟩; have n0_ := Aside0.mk (blk_below (g := gb252) (o := b2 a0_0 a0_1 86) (bz BK252.out) hb); have n1_ := Aside0.mk (blk_below (g := gb253) (o := b2 a1_0 a1_1 90) (bz BK253.out) hb); have n2_ := Aside0.mk (blk_below (g := gb254) (o := b4 0 0 0 0 25) (bz BK254.out) hb); have n3_ := Aside0.mk (below_step (hz3 HB.out GE252.out GE253.out GE254.out) hb); clear BK252; clear BK253; clear BK254; clear HB; have BK252 := n0_; have BK253 := n1_; have BK254 := n2_; have HB := n3_; clear n0_ n1_ n2_ n3_; (try clear hb); (try clear hb2); (try clear hk); (try clear hi); (try (have hcz48_0 : w47.cell? ⟨gb253, 0, none⟩ = some (.int .i64 a1_0) := bc BK253 0; have hcz48_1 : w47.cell? ⟨gb253, 1, none⟩ = some (.int .i64 a1_1) := bc BK253 1; have hfz48_0 := blk_frozen BK253.out 0; have hfz48_1 := blk_frozen BK253.out 1))) | (go_at_call 131; (with_reducible refine (impl_valOne.calls a1_1 t263 t264 t265 t266 _ A41.out).mono ?_); rintro e w49 ⟨rfl, hb⟩; have n0_ := Aside0.mk (blk_below (g := gb252) (o := b2 a0_0 a0_1 86) (bz BK252.out) hb); have n1_ := Aside0.mk (blk_below (g := gb253) (o := b2 a1_0 a1_1 90) (bz BK253.out) hb); have n2_ := Aside0.mk (blk_below (g := gb254) (o := b4 0 0 0 0 25) (bz BK254.out) hb); have n3_ := Aside0.mk (below_step (hz3 HB.out GE252.out GE253.out GE254.out) hb); clear BK252; clear BK253; clear BK254; clear HB; have BK252 := n0_; have BK253 := n1_; have BK254 := n2_; have HB := n3_; clear n0_ n1_ n2_ n3_; (try clear hb); (try clear hb2); (try clear hk); (try clear hi); (try (have hcz50_0 : w49.cell? ⟨gb254, 0, none⟩ = some (.int .i64 0) := bc BK254 0; have hcz50_1 : w49.cell? ⟨gb254, 1, none⟩ = some (.int .i64 0) := bc BK254 1; have hcz50_2 : w49.cell? ⟨gb254, 2, none⟩ = some (.int .i64 0) := bc BK254 2; have hcz50_3 : w49.cell? ⟨gb254, 3, none⟩ = some (.int .i64 0) := bc BK254 3; have hfz50_0 := blk_frozen BK254.out 0; have hfz50_1 := blk_frozen BK254.out 1; have hfz50_2 := blk_frozen BK254.out 2; have hfz50_3 := blk_frozen BK254.out 3)))))
      refine bodyPost_ret (results_cell_row rfl _ _ gb254 25 #[.int .i64 t263, .int .i64 t264, .int .i64 t265, .int .i64 t266] (0, 0) _ rfl (by (with_reducible repeat (first | refine blk_drewN ?_ _ | refine blk_drew ?_ | refine blk_alloc ?_ _)); refine blk_put (cs := #[.int .i64 t263, .int .i64 t264, .int .i64 t265, .int .i64 0]) ?_ 3 _ rfl; (with_reducible repeat (first | refine blk_drewN ?_ _ | refine blk_drew ?_ | refine blk_alloc ?_ _)); refine blk_put (cs := #[.int .i64 t263, .int .i64 t264, .int .i64 0, .int .i64 0]) ?_ 2 _ rfl; (with_reducible repeat (first | refine blk_drewN ?_ _ | refine blk_drew ?_ | refine blk_alloc ?_ _)); refine blk_put (cs := #[.int .i64 t263, .int .i64 0, .int .i64 0, .int .i64 0]) ?_ 1 _ rfl; (with_reducible repeat (first | refine blk_drewN ?_ _ | refine blk_drew ?_ | refine blk_alloc ?_ _)); refine blk_put (cs := #[.int .i64 0, .int .i64 0, .int .i64 0, .int .i64 0]) ?_ 0 _ rfl; (with_reducible repeat (first | refine blk_drewN ?_ _ | refine blk_drew ?_ | refine blk_alloc ?_ _)); exact BK254.out) Try.underlying25 rfl (by kernel_rfl)) rfl ?_
      exact ⟨by first | rfl | (simp [errW_none, errW_some] <;> rfl) | (simp [*, errW_none, errW_some] <;> rfl), hz3 HB.out GE252.out GE253.out GE254.out⟩
     ·replace c40 := Bool.eq_false_iff.mpr c40
      subst c40
      have H1 : ((impl_valNone.f).bind fun bt267 => (some (bt267.1, bt267.2.1, bt267.2.2.1, bt267.2.2.2))) = some (r1, r2, r3, r4) := by rw [if_neg (show ¬ (false = true) by decide)] at H; exact H
      clear H
      have H := H1
      clear H1
      replace H := Option.bind_eq_some_iff.mp H
      obtain ⟨⟨t267, t268, t269, t270⟩, A510, H⟩ := H
      replace H : (some (t267, t268, t269, t270)) = some (r1, r2, r3, r4) := H
      have A51 := Aside0.mk A510
      clear A510
      simp only [Option.some.injEq, Prod.mk.injEq] at H
      obtain ⟨rfl, rfl, rfl, rfl⟩ := H
      have hnb52 := NB253_252.out
      have hnc52 := NB252_253.out
      have hnb53 := NB253_254.out
      have hnc53 := NB254_253.out
      have hcz54_0 : wc.cell? ⟨gb253, 0, none⟩ = some (.int .i64 a1_0) := bc BK253 0
      have hcz54_1 : wc.cell? ⟨gb253, 1, none⟩ = some (.int .i64 a1_1) := bc BK253 1
      have hfz54_0 := blk_frozen BK253.out 0
      have hfz54_1 := blk_frozen BK253.out 1
      have hnb55 := NB252_254.out
      have hnc55 := NB254_252.out
      have hcz56_0 : wc.cell? ⟨gb252, 0, none⟩ = some (.int .i64 a0_0) := bc BK252 0
      have hcz56_1 : wc.cell? ⟨gb252, 1, none⟩ = some (.int .i64 a0_1) := bc BK252 1
      have hfz56_0 := blk_frozen BK252.out 0
      have hfz56_1 := blk_frozen BK252.out 1
      go_wp2_with (first | (go_at_call 64; (with_reducible refine (impl_RangeHas.calls a0_0 a0_1 a1_1 false _ A39.out).mono ?_); rintro e w57 ⟨rfl, hb⟩; have n0_ := Aside0.mk (blk_below (g := gb252) (o := b2 a0_0 a0_1 86) (bz BK252.out) hb); have n1_ := Aside0.mk (blk_below (g := gb253) (o := b2 a1_0 a1_1 90) (bz BK253.out) hb); have n2_ := Aside0.mk (blk_below (g := gb254) (o := b4 0 0 0 0 25) (bz BK254.out) hb); have n3_ := Aside0.mk (below_step (hz3 HB.out GE252.out GE253.out GE254.out) hb); clear BK252; clear BK253; clear BK254; clear HB; have BK252 := n0_; have BK253 := n1_; have BK254 := n2_; have HB := n3_; clear n0_ n1_ n2_ n3_; (try clear hb); (try clear hb2); (try clear hk); (try clear hi)) | (go_at_call 76; (with_reducible refine (impl_valNone.calls  t267 t268 t269 t270 _ A51.out).mono ?_); rintro e w58 ⟨rfl, hb⟩; have n0_ := Aside0.mk (blk_below (g := gb252) (o := b2 a0_0 a0_1 86) (bz BK252.out) hb); have n1_ := Aside0.mk (blk_below (g := gb253) (o := b2 a1_0 a1_1 90) (bz BK253.out) hb); have n2_ := Aside0.mk (blk_below (g := gb254) (o := b4 0 0 0 0 25) (bz BK254.out) hb); have n3_ := Aside0.mk (below_step (hz3 HB.out GE252.out GE253.out GE254.out) hb); clear BK252; clear BK253; clear BK254; clear HB; have BK252 := n0_; have BK253 := n1_; have BK254 := n2_; have HB := n3_; clear n0_ n1_ n2_ n3_; (try clear hb); (try clear hb2); (try clear hk); (try clear hi); have hcz59_0 : w58.cell? ⟨gb254, 0, none⟩ = some (.int .i64 0) := bc BK254 0; have hcz59_1 : w58.cell? ⟨gb254, 1, none⟩ = some (.int .i64 0) := bc BK254 1; have hcz59_2 : w58.cell? ⟨gb254, 2, none⟩ = some (.int .i64 0) := bc BK254 2; have hcz59_3 : w58.cell? ⟨gb254, 3, none⟩ = some (.int .i64 0) := bc BK254 3; have hfz59_0 := blk_frozen BK254.out 0; have hfz59_1 := blk_frozen BK254.out 1; have hfz59_2 := blk_frozen BK254.out 2; have hfz59_3 := blk_frozen BK254.out 3))
      try have hcz59_0 : w58.cell? ⟨gb254, 0, none⟩ = some (.int .i64 0) := bc BK254 0
      try have hcz59_1 : w58.cell? ⟨gb254, 1, none⟩ = some (.int .i64 0) := bc BK254 1
      try have hcz59_2 : w58.cell? ⟨gb254, 2, none⟩ = some (.int .i64 0) := bc BK254 2
      try have hcz59_3 : w58.cell? ⟨gb254, 3, none⟩ = some (.int .i64 0) := bc BK254 3
      try have hfz59_0 := blk_frozen BK254.out 0
      try have hfz59_1 := blk_frozen BK254.out 1
      try have hfz59_2 := blk_frozen BK254.out 2
      try have hfz59_3 := blk_frozen BK254.out 3
      repeat (go_quiet (first | (go_at_call 64; (with_reducible refine (impl_RangeHas.calls a0_0 a0_1 a1_1 false _ A39.out).mono ?_); rintro e w57 ⟨rfl, hb⟩; have n0_ := Aside0.mk (blk_below (g := gb252) (o := b2 a0_0 a0_1 86) (bz BK252.out) hb); have n1_ := Aside0.mk (blk_below (g := gb253) (o := b2 a1_0 a1_1 90) (bz BK253.out) hb); have n2_ := Aside0.mk (blk_below (g := gb254) (o := b4 0 0 0 0 25) (bz BK254.out) hb); have n3_ := Aside0.mk (below_step (hz3 HB.out GE252.out GE253.out GE254.out) hb); clear BK252; clear BK253; clear BK254; clear HB; have BK252 := n0_; have BK253 := n1_; have BK254 := n2_; have HB := n3_; clear n0_ n1_ n2_ n3_; (try clear hb); (try clear hb2); (try clear hk); (try clear hi)) | (go_at_call 76; (with_reducible refine (impl_valNone.calls  t267 t268 t269 t270 _ A51.out).mono ?_); rintro e w58 ⟨rfl, hb⟩; have n0_ := Aside0.mk (blk_below (g := gb252) (o := b2 a0_0 a0_1 86) (bz BK252.out) hb); have n1_ := Aside0.mk (blk_below (g := gb253) (o := b2 a1_0 a1_1 90) (bz BK253.out) hb); have n2_ := Aside0.mk (blk_below (g := gb254) (o := b4 0 0 0 0 25) (bz BK254.out) hb); have n3_ := Aside0.mk (below_step (hz3 HB.out GE252.out GE253.out GE254.out) hb); clear BK252; clear BK253; clear BK254; clear HB; have BK252 := n0_; have BK253 := n1_; have BK254 := n2_; have HB := n3_; clear n0_ n1_ n2_ n3_; (try clear hb); (try clear hb2); (try clear hk); (try clear hi); (try (have hcz59_0 : w58.cell? ⟨gb254, 0, none⟩ = some (.int .i64 0) := bc BK254 0; have hcz59_1 : w58.cell? ⟨gb254, 1, none⟩ = some (.int .i64 0) := bc BK254 1; have hcz59_2 : w58.cell? ⟨gb254, 2, none⟩ = some (.int .i64 0) := bc BK254 2; have hcz59_3 : w58.cell? ⟨gb254, 3, none⟩ = some (.int .i64 0) := bc BK254 3; have hfz59_0 := blk_frozen BK254.out 0; have hfz59_1 := blk_frozen BK254.out 1; have hfz59_2 := blk_frozen BK254.out 2; have hfz59_3 := blk_frozen BK254.out 3)))); try go_wp2_with (first | (go_at_call 64; (with_reducible refine (impl_RangeHas.calls a0_0 a0_1 a1_1 false _ A39.out).mono ?_); rintro e w57 ⟨rfl, hb⟩; have n0_ := Aside0.mk (blk_below (g := gb252) (o := b2 a0_0 a0_1 86) (bz BK252.out) hb); have n1_ := Aside0.mk (blk_below (g := gb253) (o := b2 a1_0 a1_1 90) (bz BK253.out) hb); have n2_ := Aside0.mk (blk_below (g := gb254) (o := b4 0 0 0 0 25) (bz BK254.out) hb); have n3_ := Aside0.mk (below_step (hz3 HB.out GE252.out GE253.out GE254.out) hb); clear BK252; clear BK253; clear BK254; clear HB; have BK252 := n0_; have BK253 := n1_; have BK254 := n2_; have HB := n3_; clear n0_ n1_ n2_ n3_; (try clear hb); (try clear hb2); (try clear hk); (try clear hi)) | (go_at_call 76; (with_reducible refine (impl_valNone.calls  t267 t268 t269 t270 _ A51.out).mono ?_); rintro e w58 ⟨rfl, hb⟩; have n0_ := Aside0.mk (blk_below (g := gb252) (o := b2 a0_0 a0_1 86) (bz BK252.out) hb); have n1_ := Aside0.mk (blk_below (g := gb253) (o := b2 a1_0 a1_1 90) (bz BK253.out) hb); have n2_ := Aside0.mk (blk_below (g := gb254) (o := b4 0 0 0 0 25) (bz BK254.out) hb); have n3_ := Aside0.mk (below_step (hz3 HB.out GE252.out GE253.out GE254.out) hb); clear BK252; clear BK253; clear BK254; clear HB; have BK252 := n0_; have BK253 := n1_; have BK254 := n2_; have HB := n3_; clear n0_ n1_ n2_ n3_; (try clear hb); (try clear hb2); (try clear hk); (try clear hi); (try (have hcz59_0 : w58.cell? ⟨gb254, 0, none⟩ = some (.int .i64 0) := bc BK254 0; have hcz59_1 : w58.cell? ⟨gb254, 1, none⟩ = some (.int .i64 0) := bc BK254 1; have hcz59_2 : w58.cell? ⟨gb254, 2, none⟩ = some (.int .i64 0) := bc BK254 2; have hcz59_3 : w58.cell? ⟨gb254, 3, none⟩ = some (.int .i64 0) := bc BK254 3; have hfz59_0 := blk_frozen BK254.out 0; have hfz59_1 := blk_frozen BK254.out 1; have hfz59_2 := blk_frozen BK254.out 2; have hfz59_3 := blk_frozen BK254.out 3)))))
      refine bodyPost_ret (results_cell_row rfl _ _ gb254 25 #[.int .i64 t267, .int .i64 t268, .int .i64 t269, .int .i64 t270] (0, 0) _ rfl (by (with_reducible repeat (first | refine blk_drewN ?_ _ | refine blk_drew ?_ | refine blk_alloc ?_ _)); refine blk_put (cs := #[.int .i64 t267, .int .i64 t268, .int .i64 t269, .int .i64 0]) ?_ 3 _ rfl; (with_reducible repeat (first | refine blk_drewN ?_ _ | refine blk_drew ?_ | refine blk_alloc ?_ _)); refine blk_put (cs := #[.int .i64 t267, .int .i64 t268, .int .i64 0, .int .i64 0]) ?_ 2 _ rfl; (with_reducible repeat (first | refine blk_drewN ?_ _ | refine blk_drew ?_ | refine blk_alloc ?_ _)); refine blk_put (cs := #[.int .i64 t267, .int .i64 0, .int .i64 0, .int .i64 0]) ?_ 1 _ rfl; (with_reducible repeat (first | refine blk_drewN ?_ _ | refine blk_drew ?_ | refine blk_alloc ?_ _)); refine blk_put (cs := #[.int .i64 0, .int .i64 0, .int .i64 0, .int .i64 0]) ?_ 0 _ rfl; (with_reducible repeat (first | refine blk_drewN ?_ _ | refine blk_drew ?_ | refine blk_alloc ?_ _)); exact BK254.out) Try.underlying25 rfl (by kernel_rfl)) rfl ?_
      exact ⟨by first | rfl | (simp [errW_none, errW_some] <;> rfl) | (simp [*, errW_none, errW_some] <;> rfl), hz3 HB.out GE252.out GE253.out GE254.out⟩
    ·rw [if_neg c38] at H
     have c38b0 : (a1_0 == 0) = false := beq_eq_false_iff_ne.mpr c38
     have c38b1 : (a1_0 != 0) = true := bne_iff_ne.mpr c38
     replace H := Option.bind_eq_some_iff.mp H
     obtain ⟨t271, A600, H⟩ := H
     replace H : ((impl_restMod.f (wrap64 (a0_1 - a1_1)) a1_0).bind fun t272 => (if (wrap64 (a0_0 + t271)) > (wrap64 (a0_1 - t272)) then ((impl_valNone.f).bind fun bt273 => (some (bt273.1, bt273.2.1, bt273.2.2.1, bt273.2.2.2))) else (if (wrap64 (a0_0 + t271)) = (wrap64 (a0_1 - t272)) then ((impl_valOne.f (wrap64 (a0_0 + t271))).bind fun bt277 => (some (bt277.1, bt277.2.1, bt277.2.2.1, bt277.2.2.2))) else (some (wrap64 (a0_0 + t271), wrap64 (a0_1 - t272), a1_0, a1_1))))) = some (r1, r2, r3, r4) := H
     have A60 := Aside0.mk A600
     clear A600
     replace H := Option.bind_eq_some_iff.mp H
     obtain ⟨t272, A610, H⟩ := H
     replace H : (if (wrap64 (a0_0 + t271)) > (wrap64 (a0_1 - t272)) then ((impl_valNone.f).bind fun bt273 => (some (bt273.1, bt273.2.1, bt273.2.2.1, bt273.2.2.2))) else (if (wrap64 (a0_0 + t271)) = (wrap64 (a0_1 - t272)) then ((impl_valOne.f (wrap64 (a0_0 + t271))).bind fun bt277 => (some (bt277.1, bt277.2.1, bt277.2.2.1, bt277.2.2.2))) else (some (wrap64 (a0_0 + t271), wrap64 (a0_1 - t272), a1_0, a1_1)))) = some (r1, r2, r3, r4) := H
     have A61 := Aside0.mk A610
     clear A610
     by_cases c62 : (wrap64 (a0_0 + t271)) > (wrap64 (a0_1 - t272))
     ·rw [if_pos c62] at H
      have c62b0 : decide ((wrap64 (a0_1 - t272)) < (wrap64 (a0_0 + t271))) = true := decide_eq_true c62
      clear c62
      replace H := Option.bind_eq_some_iff.mp H
      obtain ⟨⟨t273, t274, t275, t276⟩, A630, H⟩ := H
      replace H : (some (t273, t274, t275, t276)) = some (r1, r2, r3, r4) := H
      have A63 := Aside0.mk A630
      clear A630
      simp only [Option.some.injEq, Prod.mk.injEq] at H
      obtain ⟨rfl, rfl, rfl, rfl⟩ := H
      have hnb64 := NB253_252.out
      have hnc64 := NB252_253.out
      have hnb65 := NB253_254.out
      have hnc65 := NB254_253.out
      have hcz66_0 : wc.cell? ⟨gb253, 0, none⟩ = some (.int .i64 a1_0) := bc BK253 0
      have hcz66_1 : wc.cell? ⟨gb253, 1, none⟩ = some (.int .i64 a1_1) := bc BK253 1
      have hfz66_0 := blk_frozen BK253.out 0
      have hfz66_1 := blk_frozen BK253.out 1
      have hnb67 := NB252_254.out
      have hnc67 := NB254_252.out
      have hcz68_0 : wc.cell? ⟨gb252, 0, none⟩ = some (.int .i64 a0_0) := bc BK252 0
      have hcz68_1 : wc.cell? ⟨gb252, 1, none⟩ = some (.int .i64 a0_1) := bc BK252 1
      have hfz68_0 := blk_frozen BK252.out 0
      have hfz68_1 := blk_frozen BK252.out 1
      go_wp2_with (first | (go_at_call 122; (with_reducible refine (impl_restMod.calls (wrap64 (a1_1 - a0_0)) a1_0 t271 _ A60.out).mono ?_); rintro e w' ⟨rfl, ⟨nd, rfl⟩⟩; (try first | exact ⟨rfl, _, World.drewN_drewN _ _ _⟩ | exact ⟨rfl, _, Eq.trans (World.drewN_drewN _ _ _) (congrArg (World.drewN _) (Nat.add_assoc _ _ _))⟩)) | (go_at_call 122; (with_reducible refine (impl_restMod.calls (wrap64 (a0_1 - a1_1)) a1_0 t272 _ A61.out).mono ?_); rintro e w' ⟨rfl, ⟨nd, rfl⟩⟩; (try first | exact ⟨rfl, _, World.drewN_drewN _ _ _⟩ | exact ⟨rfl, _, Eq.trans (World.drewN_drewN _ _ _) (congrArg (World.drewN _) (Nat.add_assoc _ _ _))⟩)) | (go_at_call 76; (with_reducible refine (impl_valNone.calls  t273 t274 t275 t276 _ A63.out).mono ?_); rintro e w69 ⟨rfl, hb⟩; have n0_ := Aside0.mk (blk_below (g := gb252) (o := b2 a0_0 a0_1 86) (bz BK252.out) hb); have n1_ := Aside0.mk (blk_below (g := gb253) (o := b2 a1_0 a1_1 90) (bz BK253.out) hb); have n2_ := Aside0.mk (blk_below (g := gb254) (o := b4 0 0 0 0 25) (bz BK254.out) hb); have n3_ := Aside0.mk (below_step (hz3 HB.out GE252.out GE253.out GE254.out) hb); clear BK252; clear BK253; clear BK254; clear HB; have BK252 := n0_; have BK253 := n1_; have BK254 := n2_; have HB := n3_; clear n0_ n1_ n2_ n3_; (try clear hb); (try clear hb2); (try clear hk); (try clear hi); have hcz70_0 : w69.cell? ⟨gb254, 0, none⟩ = some (.int .i64 0) := bc BK254 0; have hcz70_1 : w69.cell? ⟨gb254, 1, none⟩ = some (.int .i64 0) := bc BK254 1; have hcz70_2 : w69.cell? ⟨gb254, 2, none⟩ = some (.int .i64 0) := bc BK254 2; have hcz70_3 : w69.cell? ⟨gb254, 3, none⟩ = some (.int .i64 0) := bc BK254 3; have hfz70_0 := blk_frozen BK254.out 0; have hfz70_1 := blk_frozen BK254.out 1; have hfz70_2 := blk_frozen BK254.out 2; have hfz70_3 := blk_frozen BK254.out 3))
      try have hcz70_0 : w69.cell? ⟨gb254, 0, none⟩ = some (.int .i64 0) := bc BK254 0
      try have hcz70_1 : w69.cell? ⟨gb254, 1, none⟩ = some (.int .i64 0) := bc BK254 1
      try have hcz70_2 : w69.cell? ⟨gb254, 2, none⟩ = some (.int .i64 0) := bc BK254 2
      try have hcz70_3 : w69.cell? ⟨gb254, 3, none⟩ = some (.int .i64 0) := bc BK254 3
      try have hfz70_0 := blk_frozen BK254.out 0
      try have hfz70_1 := blk_frozen BK254.out 1
      try have hfz70_2 := blk_frozen BK254.out 2
      try have hfz70_3 := blk_frozen BK254.out 3
      repeat (go_quiet (first | (go_at_call 122; (with_reducible refine (impl_restMod.calls (wrap64 (a1_1 - a0_0)) a1_0 t271 _ A60.out).mono ?_); rintro e w' ⟨rfl, ⟨nd, rfl⟩⟩; (try first | exact ⟨rfl, _, World.drewN_drewN _ _ _⟩ | exact ⟨rfl, _, Eq.trans (World.drewN_drewN _ _ _) (congrArg (World.drewN _) (Nat.add_assoc _ _ _))⟩)) | (go_at_call 122; (with_reducible refine (impl_restMod.calls (wrap64 (a0_1 - a1_1)) a1_0 t272 _ A61.out).mono ?_); rintro e w' ⟨rfl, ⟨nd, rfl⟩⟩; (try first | exact ⟨rfl, _, World.drewN_drewN _ _ _⟩ | exact ⟨rfl, _, Eq.trans (World.drewN_drewN _ _ _) (congrArg (World.drewN _) (Nat.add_assoc _ _ _))⟩)) | (go_at_call 76; (with_reducible refine (impl_valNone.calls  t273 t274 t275 t276 _ A63.out).mono ?_); rintro e w69 ⟨rfl, hb⟩; have n0_ := Aside0.mk (blk_below (g := gb252) (o := b2 a0_0 a0_1 86) (bz BK252.out) hb); have n1_ := Aside0.mk (blk_below (g := gb253) (o := b2 a1_0 a1_1 90) (bz BK253.out) hb); have n2_ := Aside0.mk (blk_below (g := gb254) (o := b4 0 0 0 0 25) (bz BK254.out) hb); have n3_ := Aside0.mk (below_step (hz3 HB.out GE252.out GE253.out GE254.out) hb); clear BK252; clear BK253; clear BK254; clear HB; have BK252 := n0_; have BK253 := n1_; have BK254 := n2_; have HB := n3_; clear n0_ n1_ n2_ n3_; (try clear hb); (try clear hb2); (try clear hk); (try clear hi); (try (have hcz70_0 : w69.cell? ⟨gb254, 0, none⟩ = some (.int .i64 0) := bc BK254 0; have hcz70_1 : w69.cell? ⟨gb254, 1, none⟩ = some (.int .i64 0) := bc BK254 1; have hcz70_2 : w69.cell? ⟨gb254, 2, none⟩ = some (.int .i64 0) := bc BK254 2; have hcz70_3 : w69.cell? ⟨gb254, 3, none⟩ = some (.int .i64 0) := bc BK254 3; have hfz70_0 := blk_frozen BK254.out 0; have hfz70_1 := blk_frozen BK254.out 1; have hfz70_2 := blk_frozen BK254.out 2; have hfz70_3 := blk_frozen BK254.out 3)))); try go_wp2_with (first | (go_at_call 122; (with_reducible refine (impl_restMod.calls (wrap64 (a1_1 - a0_0)) a1_0 t271 _ A60.out).mono ?_); rintro e w' ⟨rfl, ⟨nd, rfl⟩⟩; (try first | exact ⟨rfl, _, World.drewN_drewN _ _ _⟩ | exact ⟨rfl, _, Eq.trans (World.drewN_drewN _ _ _) (congrArg (World.drewN _) (Nat.add_assoc _ _ _))⟩)) | (go_at_call 122; (with_reducible refine (impl_restMod.calls (wrap64 (a0_1 - a1_1)) a1_0 t272 _ A61.out).mono ?_); rintro e w' ⟨rfl, ⟨nd, rfl⟩⟩; (try first | exact ⟨rfl, _, World.drewN_drewN _ _ _⟩ | exact ⟨rfl, _, Eq.trans (World.drewN_drewN _ _ _) (congrArg (World.drewN _) (Nat.add_assoc _ _ _))⟩)) | (go_at_call 76; (with_reducible refine (impl_valNone.calls  t273 t274 t275 t276 _ A63.out).mono ?_); rintro e w69 ⟨rfl, hb⟩; have n0_ := Aside0.mk (blk_below (g := gb252) (o := b2 a0_0 a0_1 86) (bz BK252.out) hb); have n1_ := Aside0.mk (blk_below (g := gb253) (o := b2 a1_0 a1_1 90) (bz BK253.out) hb); have n2_ := Aside0.mk (blk_below (g := gb254) (o := b4 0 0 0 0 25) (bz BK254.out) hb); have n3_ := Aside0.mk (below_step (hz3 HB.out GE252.out GE253.out GE254.out) hb); clear BK252; clear BK253; clear BK254; clear HB; have BK252 := n0_; have BK253 := n1_; have BK254 := n2_; have HB := n3_; clear n0_ n1_ n2_ n3_; (try clear hb); (try clear hb2); (try clear hk); (try clear hi); (try (have hcz70_0 : w69.cell? ⟨gb254, 0, none⟩ = some (.int .i64 0) := bc BK254 0; have hcz70_1 : w69.cell? ⟨gb254, 1, none⟩ = some (.int .i64 0) := bc BK254 1; have hcz70_2 : w69.cell? ⟨gb254, 2, none⟩ = some (.int .i64 0) := bc BK254 2; have hcz70_3 : w69.cell? ⟨gb254, 3, none⟩ = some (.int .i64 0) := bc BK254 3; have hfz70_0 := blk_frozen BK254.out 0; have hfz70_1 := blk_frozen BK254.out 1; have hfz70_2 := blk_frozen BK254.out 2; have hfz70_3 := blk_frozen BK254.out 3)))))
      refine bodyPost_ret (results_cell_row rfl _ _ gb254 25 #[.int .i64 t273, .int .i64 t274, .int .i64 t275, .int .i64 t276] (0, 0) _ rfl (by (with_reducible repeat (first | refine blk_drewN ?_ _ | refine blk_drew ?_ | refine blk_alloc ?_ _)); refine blk_put (cs := #[.int .i64 t273, .int .i64 t274, .int .i64 t275, .int .i64 0]) ?_ 3 _ rfl; (with_reducible repeat (first | refine blk_drewN ?_ _ | refine blk_drew ?_ | refine blk_alloc ?_ _)); refine blk_put (cs := #[.int .i64 t273, .int .i64 t274, .int .i64 0, .int .i64 0]) ?_ 2 _ rfl; (with_reducible repeat (first | refine blk_drewN ?_ _ | refine blk_drew ?_ | refine blk_alloc ?_ _)); refine blk_put (cs := #[.int .i64 t273, .int .i64 0, .int .i64 0, .int .i64 0]) ?_ 1 _ rfl; (with_reducible repeat (first | refine blk_drewN ?_ _ | refine blk_drew ?_ | refine blk_alloc ?_ _)); refine blk_put (cs := #[.int .i64 0, .int .i64 0, .int .i64 0, .int .i64 0]) ?_ 0 _ rfl; (with_reducible repeat (first | refine blk_drewN ?_ _ | refine blk_drew ?_ | refine blk_alloc ?_ _)); exact BK254.out) Try.underlying25 rfl (by kernel_rfl)) rfl ?_
      exact ⟨by first | rfl | (simp [errW_none, errW_some] <;> rfl) | (simp [*, errW_none, errW_some] <;> rfl), hz3 HB.out GE252.out GE253.out GE254.out⟩
     ·rw [if_neg c62] at H
      have c62b0 : decide ((wrap64 (a0_1 - t272)) < (wrap64 (a0_0 + t271))) = false := decide_eq_false c62
      clear c62
      by_cases c71 : (wrap64 (a0_0 + t271)) = (wrap64 (a0_1 - t272))
      ·rw [if_pos c71] at H
       have c71b0 : ((wrap64 (a0_0 + t271)) == (wrap64 (a0_1 - t272))) = true := beq_iff_eq.mpr c71
       have c71b1 : ((wrap64 (a0_0 + t271)) != (wrap64 (a0_1 - t272))) = false := bne_eq_false_iff_eq.mpr c71
       clear c71
       replace H := Option.bind_eq_some_iff.mp H
       obtain ⟨⟨t277, t278, t279, t280⟩, A720, H⟩ := H
       replace H : (some (t277, t278, t279, t280)) = some (r1, r2, r3, r4) := H
       have A72 := Aside0.mk A720
       clear A720
       simp only [Option.some.injEq, Prod.mk.injEq] at H
       obtain ⟨rfl, rfl, rfl, rfl⟩ := H
       have hnb73 := NB253_252.out
       have hnc73 := NB252_253.out
       have hnb74 := NB253_254.out
       have hnc74 := NB254_253.out
       have hcz75_0 : wc.cell? ⟨gb253, 0, none⟩ = some (.int .i64 a1_0) := bc BK253 0
       have hcz75_1 : wc.cell? ⟨gb253, 1, none⟩ = some (.int .i64 a1_1) := bc BK253 1
       have hfz75_0 := blk_frozen BK253.out 0
       have hfz75_1 := blk_frozen BK253.out 1
       have hnb76 := NB252_254.out
       have hnc76 := NB254_252.out
       have hcz77_0 : wc.cell? ⟨gb252, 0, none⟩ = some (.int .i64 a0_0) := bc BK252 0
       have hcz77_1 : wc.cell? ⟨gb252, 1, none⟩ = some (.int .i64 a0_1) := bc BK252 1
       have hfz77_0 := blk_frozen BK252.out 0
       have hfz77_1 := blk_frozen BK252.out 1
       go_wp2_with (first | (go_at_call 122; (with_reducible refine (impl_restMod.calls (wrap64 (a1_1 - a0_0)) a1_0 t271 _ A60.out).mono ?_); rintro e w' ⟨rfl, ⟨nd, rfl⟩⟩; (try first | exact ⟨rfl, _, World.drewN_drewN _ _ _⟩ | exact ⟨rfl, _, Eq.trans (World.drewN_drewN _ _ _) (congrArg (World.drewN _) (Nat.add_assoc _ _ _))⟩)) | (go_at_call 122; (with_reducible refine (impl_restMod.calls (wrap64 (a0_1 - a1_1)) a1_0 t272 _ A61.out).mono ?_); rintro e w' ⟨rfl, ⟨nd, rfl⟩⟩; (try first | exact ⟨rfl, _, World.drewN_drewN _ _ _⟩ | exact ⟨rfl, _, Eq.trans (World.drewN_drewN _ _ _) (congrArg (World.drewN _) (Nat.add_assoc _ _ _))⟩)) | (go_at_call 131; (with_reducible refine (impl_valOne.calls (wrap64 (a0_0 + t271)) t277 t278 t279 t280 _ A72.out).mono ?_); rintro e w78 ⟨rfl, hb⟩; have n0_ := Aside0.mk (blk_below (g := gb252) (o := b2 a0_0 a0_1 86) (bz BK252.out) hb); have n1_ := Aside0.mk (blk_below (g := gb253) (o := b2 a1_0 a1_1 90) (bz BK253.out) hb); have n2_ := Aside0.mk (blk_below (g := gb254) (o := b4 0 0 0 0 25) (bz BK254.out) hb); have n3_ := Aside0.mk (below_step (hz3 HB.out GE252.out GE253.out GE254.out) hb); clear BK252; clear BK253; clear BK254; clear HB; have BK252 := n0_; have BK253 := n1_; have BK254 := n2_; have HB := n3_; clear n0_ n1_ n2_ n3_; (try clear hb); (try clear hb2); (try clear hk); (try clear hi); have hcz79_0 : w78.cell? ⟨gb254, 0, none⟩ = some (.int .i64 0) := bc BK254 0; have hcz79_1 : w78.cell? ⟨gb254, 1, none⟩ = some (.int .i64 0) := bc BK254 1; have hcz79_2 : w78.cell? ⟨gb254, 2, none⟩ = some (.int .i64 0) := bc BK254 2; have hcz79_3 : w78.cell? ⟨gb254, 3, none⟩ = some (.int .i64 0) := bc BK254 3; have hfz79_0 := blk_frozen BK254.out 0; have hfz79_1 := blk_frozen BK254.out 1; have hfz79_2 := blk_frozen BK254.out 2; have hfz79_3 := blk_frozen BK254.out 3))
       try have hcz79_0 : w78.cell? ⟨gb254, 0, none⟩ = some (.int .i64 0) := bc BK254 0
       try have hcz79_1 : w78.cell? ⟨gb254, 1, none⟩ = some (.int .i64 0) := bc BK254 1
       try have hcz79_2 : w78.cell? ⟨gb254, 2, none⟩ = some (.int .i64 0) := bc BK254 2
       try have hcz79_3 : w78.cell? ⟨gb254, 3, none⟩ = some (.int .i64 0) := bc BK254 3
       try have hfz79_0 := blk_frozen BK254.out 0
       try have hfz79_1 := blk_frozen BK254.out 1
       try have hfz79_2 := blk_frozen BK254.out 2
       try have hfz79_3 := blk_frozen BK254.out 3
       repeat (go_quiet (first | (go_at_call 122; (with_reducible refine (impl_restMod.calls (wrap64 (a1_1 - a0_0)) a1_0 t271 _ A60.out).mono ?_); rintro e w' ⟨rfl, ⟨nd, rfl⟩⟩; (try first | exact ⟨rfl, _, World.drewN_drewN _ _ _⟩ | exact ⟨rfl, _, Eq.trans (World.drewN_drewN _ _ _) (congrArg (World.drewN _) (Nat.add_assoc _ _ _))⟩)) | (go_at_call 122; (with_reducible refine (impl_restMod.calls (wrap64 (a0_1 - a1_1)) a1_0 t272 _ A61.out).mono ?_); rintro e w' ⟨rfl, ⟨nd, rfl⟩⟩; (try first | exact ⟨rfl, _, World.drewN_drewN _ _ _⟩ | exact ⟨rfl, _, Eq.trans (World.drewN_drewN _ _ _) (congrArg (World.drewN _) (Nat.add_assoc _ _ _))⟩)) | (go_at_call 131; (with_reducible refine (impl_valOne.calls (wrap64 (a0_0 + t271)) t277 t278 t279 t280 _ A72.out).mono ?_); rintro e w78 ⟨rfl, hb⟩; have n0_ := Aside0.mk (blk_below (g := gb252) (o := b2 a0_0 a0_1 86) (bz BK252.out) hb); have n1_ := Aside0.mk (blk_below (g := gb253) (o := b2 a1_0 a1_1 90) (bz BK253.out) hb); have n2_ := Aside0.mk (blk_below (g := gb254) (o := b4 0 0 0 0 25) (bz BK254.out) hb); have n3_ := Aside0.mk (below_step (hz3 HB.out GE252.out GE253.out GE254.out) hb); clear BK252; clear BK253; clear BK254; clear HB; have BK252 := n0_; have BK253 := n1_; have BK254 := n2_; have HB := n3_; clear n0_ n1_ n2_ n3_; (try clear hb); (try clear hb2); (try clear hk); (try clear hi); (try (have hcz79_0 : w78.cell? ⟨gb254, 0, none⟩ = some (.int .i64 0) := bc BK254 0; have hcz79_1 : w78.cell? ⟨gb254, 1, none⟩ = some (.int .i64 0) := bc BK254 1; have hcz79_2 : w78.cell? ⟨gb254, 2, none⟩ = some (.int .i64 0) := bc BK254 2; have hcz79_3 : w78.cell? ⟨gb254, 3, none⟩ = some (.int .i64 0) := bc BK254 3; have hfz79_0 := blk_frozen BK254.out 0; have hfz79_1 := blk_frozen BK254.out 1; have hfz79_2 := blk_frozen BK254.out 2; have hfz79_3 := blk_frozen BK254.out 3)))); try go_wp2_with (first | (go_at_call 122; (with_reducible refine (impl_restMod.calls (wrap64 (a1_1 - a0_0)) a1_0 t271 _ A60.out).mono ?_); rintro e w' ⟨rfl, ⟨nd, rfl⟩⟩; (try first | exact ⟨rfl, _, World.drewN_drewN _ _ _⟩ | exact ⟨rfl, _, Eq.trans (World.drewN_drewN _ _ _) (congrArg (World.drewN _) (Nat.add_assoc _ _ _))⟩)) | (go_at_call 122; (with_reducible refine (impl_restMod.calls (wrap64 (a0_1 - a1_1)) a1_0 t272 _ A61.out).mono ?_); rintro e w' ⟨rfl, ⟨nd, rfl⟩⟩; (try first | exact ⟨rfl, _, World.drewN_drewN _ _ _⟩ | exact ⟨rfl, _, Eq.trans (World.drewN_drewN _ _ _) (congrArg (World.drewN _) (Nat.add_assoc _ _ _))⟩)) | (go_at_call 131; (with_reducible refine (impl_valOne.calls (wrap64 (a0_0 + t271)) t277 t278 t279 t280 _ A72.out).mono ?_); rintro e w78 ⟨rfl, hb⟩; have n0_ := Aside0.mk (blk_below (g := gb252) (o := b2 a0_0 a0_1 86) (bz BK252.out) hb); have n1_ := Aside0.mk (blk_below (g := gb253) (o := b2 a1_0 a1_1 90) (bz BK253.out) hb); have n2_ := Aside0.mk (blk_below (g := gb254) (o := b4 0 0 0 0 25) (bz BK254.out) hb); have n3_ := Aside0.mk (below_step (hz3 HB.out GE252.out GE253.out GE254.out) hb); clear BK252; clear BK253; clear BK254; clear HB; have BK252 := n0_; have BK253 := n1_; have BK254 := n2_; have HB := n3_; clear n0_ n1_ n2_ n3_; (try clear hb); (try clear hb2); (try clear hk); (try clear hi); (try (have hcz79_0 : w78.cell? ⟨gb254, 0, none⟩ = some (.int .i64 0) := bc BK254 0; have hcz79_1 : w78.cell? ⟨gb254, 1, none⟩ = some (.int .i64 0) := bc BK254 1; have hcz79_2 : w78.cell? ⟨gb254, 2, none⟩ = some (.int .i64 0) := bc BK254 2; have hcz79_3 : w78.cell? ⟨gb254, 3, none⟩ = some (.int .i64 0) := bc BK254 3; have hfz79_0 := blk_frozen BK254.out 0; have hfz79_1 := blk_frozen BK254.out 1; have hfz79_2 := blk_frozen BK254.out 2; have hfz79_3 := blk_frozen BK254.out 3)))))
       refine bodyPost_ret (results_cell_row rfl _ _ gb254 25 #[.int .i64 t277, .int .i64 t278, .int .i64 t279, .int .i64 t280] (0, 0) _ rfl (by (with_reducible repeat (first | refine blk_drewN ?_ _ | refine blk_drew ?_ | refine blk_alloc ?_ _)); refine blk_put (cs := #[.int .i64 t277, .int .i64 t278, .int .i64 t279, .int .i64 0]) ?_ 3 _ rfl; (with_reducible repeat (first | refine blk_drewN ?_ _ | refine blk_drew ?_ | refine blk_alloc ?_ _)); refine blk_put (cs := #[.int .i64 t277, .int .i64 t278, .int .i64 0, .int .i64 0]) ?_ 2 _ rfl; (with_reducible repeat (first | refine blk_drewN ?_ _ | refine blk_drew ?_ | refine blk_alloc ?_ _)); refine blk_put (cs := #[.int .i64 t277, .int .i64 0, .int .i64 0, .int .i64 0]) ?_ 1 _ rfl; (with_reducible repeat (first | refine blk_drewN ?_ _ | refine blk_drew ?_ | refine blk_alloc ?_ _)); refine blk_put (cs := #[.int .i64 0, .int .i64 0, .int .i64 0, .int .i64 0]) ?_ 0 _ rfl; (with_reducible repeat (first | refine blk_drewN ?_ _ | refine blk_drew ?_ | refine blk_alloc ?_ _)); exact BK254.out) Try.underlying25 rfl (by kernel_rfl)) rfl ?_
       exact ⟨by first | rfl | (simp [errW_none, errW_some] <;> rfl) | (simp [*, errW_none, errW_some] <;> rfl), hz3 HB.out GE252.out GE253.out GE254.out⟩
      ·rw [if_neg c71] at H
       have c71b0 : ((wrap64 (a0_0 + t271)) == (wrap64 (a0_1 - t272))) = false := beq_eq_false_iff_ne.mpr c71
       have c71b1 : ((wrap64 (a0_0 + t271)) != (wrap64 (a0_1 - t272))) = true := bne_iff_ne.mpr c71
       simp only [Option.some.injEq, Prod.mk.injEq] at H
       obtain ⟨rfl, rfl, rfl, rfl⟩ := H
       have hnb80 := NB253_252.out
       have hnc80 := NB252_253.out
       have hnb81 := NB253_254.out
       have hnc81 := NB254_253.out
       have hcz82_0 : wc.cell? ⟨gb253, 0, none⟩ = some (.int .i64 a1_0) := bc BK253 0
       have hcz82_1 : wc.cell? ⟨gb253, 1, none⟩ = some (.int .i64 a1_1) := bc BK253 1
       have hfz82_0 := blk_frozen BK253.out 0
       have hfz82_1 := blk_frozen BK253.out 1
       have hnb83 := NB252_254.out
       have hnc83 := NB254_252.out
       have hcz84_0 : wc.cell? ⟨gb252, 0, none⟩ = some (.int .i64 a0_0) := bc BK252 0
       have hcz84_1 : wc.cell? ⟨gb252, 1, none⟩ = some (.int .i64 a0_1) := bc BK252 1
       have hfz84_0 := blk_frozen BK252.out 0
       have hfz84_1 := blk_frozen BK252.out 1
       go_wp2_with (first | (go_at_call 122; (with_reducible refine (impl_restMod.calls (wrap64 (a1_1 - a0_0)) a1_0 t271 _ A60.out).mono ?_); rintro e w' ⟨rfl, ⟨nd, rfl⟩⟩; (try first | exact ⟨rfl, _, World.drewN_drewN _ _ _⟩ | exact ⟨rfl, _, Eq.trans (World.drewN_drewN _ _ _) (congrArg (World.drewN _) (Nat.add_assoc _ _ _))⟩)) | (go_at_call 122; (with_reducible refine (impl_restMod.calls (wrap64 (a0_1 - a1_1)) a1_0 t272 _ A61.out).mono ?_); rintro e w' ⟨rfl, ⟨nd, rfl⟩⟩; (try first | exact ⟨rfl, _, World.drewN_drewN _ _ _⟩ | exact ⟨rfl, _, Eq.trans (World.drewN_drewN _ _ _) (congrArg (World.drewN _) (Nat.add_assoc _ _ _))⟩); have hcz85_0 : wc.cell? ⟨gb254, 0, none⟩ = some (.int .i64 0) := bc BK254 0; have hcz85_1 : wc.cell? ⟨gb254, 1, none⟩ = some (.int .i64 0) := bc BK254 1; have hcz85_2 : wc.cell? ⟨gb254, 2, none⟩ = some (.int .i64 0) := bc BK254 2; have hcz85_3 : wc.cell? ⟨gb254, 3, none⟩ = some (.int .i64 0) := bc BK254 3; have hfz85_0 := blk_frozen BK254.out 0; have hfz85_1 := blk_frozen BK254.out 1; have hfz85_2 := blk_frozen BK254.out 2; have hfz85_3 := blk_frozen BK254.out 3))
       try have hcz85_0 : wc.cell? ⟨gb254, 0, none⟩ = some (.int .i64 0) := bc BK254 0
       try have hcz85_1 : wc.cell? ⟨gb254, 1, none⟩ = some (.int .i64 0) := bc BK254 1
       try have hcz85_2 : wc.cell? ⟨gb254, 2, none⟩ = some (.int .i64 0) := bc BK254 2
       try have hcz85_3 : wc.cell? ⟨gb254, 3, none⟩ = some (.int .i64 0) := bc BK254 3
       try have hfz85_0 := blk_frozen BK254.out 0
       try have hfz85_1 := blk_frozen BK254.out 1
       try have hfz85_2 := blk_frozen BK254.out 2
       try have hfz85_3 := blk_frozen BK254.out 3
       repeat (go_quiet (first | (go_at_call 122; (with_reducible refine (impl_restMod.calls (wrap64 (a1_1 - a0_0)) a1_0 t271 _ A60.out).mono ?_); rintro e w' ⟨rfl, ⟨nd, rfl⟩⟩; (try first | exact ⟨rfl, _, World.drewN_drewN _ _ _⟩ | exact ⟨rfl, _, Eq.trans (World.drewN_drewN _ _ _) (congrArg (World.drewN _) (Nat.add_assoc _ _ _))⟩)) | (go_at_call 122; (with_reducible refine (impl_restMod.calls (wrap64 (a0_1 - a1_1)) a1_0 t272 _ A61.out).mono ?_); rintro e w' ⟨rfl, ⟨nd, rfl⟩⟩; (try first | exact ⟨rfl, _, World.drewN_drewN _ _ _⟩ | exact ⟨rfl, _, Eq.trans (World.drewN_drewN _ _ _) (congrArg (World.drewN _) (Nat.add_assoc _ _ _))⟩); (try (have hcz85_0 : wc.cell? ⟨gb254, 0, none⟩ = some (.int .i64 0) := bc BK254 0; have hcz85_1 : wc.cell? ⟨gb254, 1, none⟩ = some (.int .i64 0) := bc BK254 1; have hcz85_2 : wc.cell? ⟨gb254, 2, none⟩ = some (.int .i64 0) := bc BK254 2; have hcz85_3 : wc.cell? ⟨gb254, 3, none⟩ = some (.int .i64 0) := bc BK254 3; have hfz85_0 := blk_frozen BK254.out 0; have hfz85_1 := blk_frozen BK254.out 1; have hfz85_2 := blk_frozen BK254.out 2; have hfz85_3 := blk_frozen BK254.out 3)))); try go_wp2_with (first | (go_at_call 122; (with_reducible refine (impl_restMod.calls (wrap64 (a1_1 - a0_0)) a1_0 t271 _ A60.out).mono ?_); rintro e w' ⟨rfl, ⟨nd, rfl⟩⟩; (try first | exact ⟨rfl, _, World.drewN_drewN _ _ _⟩ | exact ⟨rfl, _, Eq.trans (World.drewN_drewN _ _ _) (congrArg (World.drewN _) (Nat.add_assoc _ _ _))⟩)) | (go_at_call 122; (with_reducible refine (impl_restMod.calls (wrap64 (a0_1 - a1_1)) a1_0 t272 _ A61.out).mono ?_); rintro e w' ⟨rfl, ⟨nd, rfl⟩⟩; (try first | exact ⟨rfl, _, World.drewN_drewN _ _ _⟩ | exact ⟨rfl, _, Eq.trans (World.drewN_drewN _ _ _) (congrArg (World.drewN _) (Nat.add_assoc _ _ _))⟩); (try (have hcz85_0 : wc.cell? ⟨gb254, 0, none⟩ = some (.int .i64 0) := bc BK254 0; have hcz85_1 : wc.cell? ⟨gb254, 1, none⟩ = some (.int .i64 0) := bc BK254 1; have hcz85_2 : wc.cell? ⟨gb254, 2, none⟩ = some (.int .i64 0) := bc BK254 2; have hcz85_3 : wc.cell? ⟨gb254, 3, none⟩ = some (.int .i64 0) := bc BK254 3; have hfz85_0 := blk_frozen BK254.out 0; have hfz85_1 := blk_frozen BK254.out 1; have hfz85_2 := blk_frozen BK254.out 2; have hfz85_3 := blk_frozen BK254.out 3)))))
       refine bodyPost_ret (results_cell_row rfl _ _ gb254 25 #[.int .i64 (wrap64 (a0_0 + t271)), .int .i64 (wrap64 (a0_1 - t272)), .int .i64 a1_0, .int .i64 a1_1] (0, 0) _ rfl (by (with_reducible repeat (first | refine blk_drewN ?_ _ | refine blk_drew ?_ | refine blk_alloc ?_ _)); refine blk_put (cs := #[.int .i64 (wrap64 (a0_0 + t271)), .int .i64 (wrap64 (a0_1 - t272)), .int .i64 a1_0, .int .i64 0]) ?_ 3 _ rfl; (with_reducible repeat (first | refine blk_drewN ?_ _ | refine blk_drew ?_ | refine blk_alloc ?_ _)); refine blk_put (cs := #[.int .i64 (wrap64 (a0_0 + t271)), .int .i64 (wrap64 (a0_1 - t272)), .int .i64 0, .int .i64 0]) ?_ 2 _ rfl; (with_reducible repeat (first | refine blk_drewN ?_ _ | refine blk_drew ?_ | refine blk_alloc ?_ _)); refine blk_put (cs := #[.int .i64 (wrap64 (a0_0 + t271)), .int .i64 0, .int .i64 0, .int .i64 0]) ?_ 1 _ rfl; (with_reducible repeat (first | refine blk_drewN ?_ _ | refine blk_drew ?_ | refine blk_alloc ?_ _)); refine blk_put (cs := #[.int .i64 0, .int .i64 0, .int .i64 0, .int .i64 0]) ?_ 0 _ rfl; (with_reducible repeat (first | refine blk_drewN ?_ _ | refine blk_drew ?_ | refine blk_alloc ?_ _)); exact BK254.out) Try.underlying25 rfl (by kernel_rfl)) rfl ?_
       exact ⟨by first | rfl | (simp [errW_none, errW_some] <;> rfl) | (simp [*, errW_none, errW_some] <;> rfl), hz3 HB.out GE252.out GE253.out GE254.out⟩

/-! ### impl_ValOk: function 63 -/
def impl_ValOk.f (k : Nat) (a0_0 : Int) (a0_1 : Int) (a0_2 : Int) (a0_3 : Int) : Option (Bool) := (impl_Val_span.f a0_0 a0_1 a0_2 a0_3).bind fun bt282 => ((impl_Val_rest.f a0_0 a0_1 a0_2 a0_3).bind fun bt284 => ((impl_ValMake.f k bt282.1 bt282.2 bt284.1 bt284.2).bind fun bt286 => (some (a0_0 == bt286.1 && (a0_1 == bt286.2.1 && (a0_2 == bt286.2.2.1 && (a0_3 == bt286.2.2.2)))))))
theorem impl_ValOk.mono : ∀ a0 a1 a2 a3 k, LeO (impl_ValOk.f k a0 a1 a2 a3) (impl_ValOk.f (k + 1) a0 a1 a2 a3) := by
 intro a0 a1 a2 a3 k
 unfold impl_ValOk.f
 repeat' first
   | (with_reducible exact impl_ValMake.mono _ _ _ _ _)
   | (with_reducible exact LeO.refl _)
   | (with_reducible exact LeO.none _)
   | (with_reducible refine LeO.ite ?_ ?_)
   | (with_reducible refine LeO.bind ?_ (fun _ => ?_))
   | exact impl_ValMake.mono _ _ _ _ _
   | exact LeO.none _
   | refine LeO.ite ?_ ?_
   | refine LeO.bind ?_ (fun _ => ?_)
def impl_ValOk.T1 : Bool × List (List Nat × List Nat) := (true, [([], []), ([], []), ([1], [1]), ([], []), ([3, 2], [3]), ([2, 4, 4], [2, 4]), ([0, 5], [0, 5]), ([6, 5, 0, 1, 2, 3, 4, 5, 6], [6])])
def impl_ValOk.B1 : List Nat := [0, 0, 2, 0, 14, 30, 63, 127]
theorem impl_ValOk.tab1 : rtab .any (opsOf Try.f63 1) = impl_ValOk.T1 := by kernel_rfl
theorem impl_ValOk.bits1 : waitsOk impl_ValOk.T1.2 impl_ValOk.B1 = true := by kernel_rfl
set_option maxHeartbeats 8000000 in
set_option maxRecDepth 100000 in
theorem impl_ValOk.calls (k : Nat) (a0_0 : Int) (a0_1 : Int) (a0_2 : Int) (a0_3 : Int) (r : Bool) (w : World) (h : impl_ValOk.f k a0_0 a0_1 a0_2 a0_3 = some r) :
  Calls Try.prog 63 #[.agg #[.int .i64 a0_0, .int .i64 a0_1, .int .i64 a0_2, .int .i64 a0_3]] w fun e w' => e = .returned (.bool r) ∧ Below w.heap.size w w' := by
 have hu25 := Try.underlying25
 have HB := Aside0.mk (Below.refl w.heap.size w)
 have H : ((impl_Val_span.f a0_0 a0_1 a0_2 a0_3).bind fun bt282 => ((impl_Val_rest.f a0_0 a0_1 a0_2 a0_3).bind fun bt284 => ((impl_ValMake.f k bt282.1 bt282.2 bt284.1 bt284.2).bind fun bt286 => (some (a0_0 == bt286.1 && (a0_1 == bt286.2.1 && (a0_2 == bt286.2.2.1 && (a0_3 == bt286.2.2.2)))))))) = some r := h
 clear h
 replace H := Option.bind_eq_some_iff.mp H
 obtain ⟨⟨t282, t283⟩, A20, H⟩ := H
 replace H : ((impl_Val_rest.f a0_0 a0_1 a0_2 a0_3).bind fun bt284 => ((impl_ValMake.f k t282 t283 bt284.1 bt284.2).bind fun bt286 => (some (a0_0 == bt286.1 && (a0_1 == bt286.2.1 && (a0_2 == bt286.2.2.1 && (a0_3 == bt286.2.2.2))))))) = some r := H
 have A2 := Aside0.mk A20
 clear A20
 replace H := Option.bind_eq_some_iff.mp H
 obtain ⟨⟨t284, t285⟩, A30, H⟩ := H
 replace H : ((impl_ValMake.f k t282 t283 t284 t285).bind fun bt286 => (some (a0_0 == bt286.1 && (a0_1 == bt286.2.1 && (a0_2 == bt286.2.2.1 && (a0_3 == bt286.2.2.2)))))) = some r := H
 have A3 := Aside0.mk A30
 clear A30
 replace H := Option.bind_eq_some_iff.mp H
 obtain ⟨⟨t286, t287, t288, t289⟩, A40, H⟩ := H
 replace H : (some (a0_0 == t286 && (a0_1 == t287 && (a0_2 == t288 && (a0_3 == t289))))) = some r := H
 have A4 := Aside0.mk A40
 clear A40
 obtain rfl := Option.some.inj H
 go_enter Try.func63, Try.ntmps63
 try go_wp2_with (first | ((with_reducible refine gate_dst (N := 1) rfl ?_); refine box_event ?hg (N := 1) ?hd (cs := #[.int .i64 a0_0, .int .i64 a0_1, .int .i64 a0_2, .int .i64 a0_3]) (t := 25) ?hr ?_; (case hd => rfl); (case hg => rfl); (case hr => first | (go_simp; done) | (go_simp; rfl)); intro gb281 hg w5 hbox hb; have n0_ := Aside0.mk (below_step (hz HB.out) hb); have n1_ := Aside0.mk (hbox); have n2_ := Aside0.mk ((by rw [hg]; exact (below_size (hz HB.out)) : w.heap.size ≤ gb281)); have n3_ := Aside0.mk ((by rw [hg]; exact (below_size (hz HB.out)) : w.heap.size ≤ gb281)); clear HB; have HB := n0_; have BK281 := n1_; have GW281 := n2_; have GE281 := n3_; clear n0_ n1_ n2_ n3_; clear hb hbox hg))
 have n0_ := Aside0.mk (blk_drew BK281.out)
 have n1_ := Aside0.mk (below_drew1 HB.out)
 clear BK281
 clear HB
 have BK281 := n0_
 have HB := n1_
 clear n0_ n1_
 refine start_ (n := 8) (S := fun w' => w'.cell? ⟨gb281, 0, none⟩ = some (.int .i64 a0_0) ∧ w'.cell? ⟨gb281, 1, none⟩ = some (.int .i64 a0_1) ∧ w'.cell? ⟨gb281, 2, none⟩ = some (.int .i64 a0_2) ∧ w'.cell? ⟨gb281, 3, none⟩ = some (.int .i64 a0_3)) (ds := []) #[F, F, F, F, F, F, F, F] (by kernel_rfl) rfl rfl ⟨bc BK281 0, bc BK281 1, bc BK281 2, bc BK281 3⟩ (fun hHeld => ?_); refine with_tabW impl_ValOk.tab1 impl_ValOk.bits1 (fun HT_ HW_ => ?_)
 generalize w5.drew = w6 at BK281 HB hHeld ⊢
 refine take_ (i := 0) (N := some 3) (v := ?_) (a' := ?_) #[T, F, F, F, F, F, F, F] rfl rfl (take_ofW HT_.out HW_.out (by kernel_rfl)) (fun _ _ _ h => h) (Or.inl ⟨by rfl, ?_⟩) hHeld ?_ ?_
 rotate_left
 ·rintro w' ⟨s0, s1, s2, s3⟩
  go_simp
  with_reducible rfl
 rotate_left
 ·exact pz
 refine take_ (i := 1) (N := some 4) (v := ?_) (a' := ?_) #[T, T, F, F, F, F, F, F] rfl rfl (take_ofW HT_.out HW_.out (by kernel_rfl)) (fun _ _ _ h => h) (Or.inl ⟨by rfl, ?_⟩) hHeld ?_ ?_
 rotate_left
 ·rintro w' ⟨s0, s1, s2, s3⟩
  go_simp
  with_reducible rfl
 rotate_left
 ·exact pz
 refine take_ (i := 3) (N := some 6) (v := ?_) (a' := ?_) #[T, T, F, T, F, F, F, F] rfl rfl (take_ofW HT_.out HW_.out (by kernel_rfl)) (fun _ _ _ h => h) (Or.inl ⟨by rfl, ?_⟩) hHeld ?_ ?_
 rotate_left
 ·rintro w' ⟨s0, s1, s2, s3⟩
  go_simp
  with_reducible rfl
 rotate_left
 ·exact pz
 refine one_ (i := 2) (N := some 5) #[T, T, T, T, F, F, F, F] rfl rfl (one_of HT_.out (by kernel_rfl)) (by decide) (fun K hK => ?_)
 refine goes_ Try.func65 (by kernel_rfl) rfl #[.agg #[.int .i64 a0_0, .int .i64 a0_1, .int .i64 a0_2, .int .i64 a0_3]] (by rfl) rfl rfl mz ?_
 with_reducible refine (impl_Val_span.calls a0_0 a0_1 a0_2 a0_3 t282 t283 _ A2.out).mono ?_
 rintro e w7 ⟨rfl, hb⟩
 refine ⟨_, rfl, ?_⟩
 have n0_ := Aside0.mk (blk_below (g := gb281) (o := b4 a0_0 a0_1 a0_2 a0_3 25) (bz BK281.out) hb)
 have n1_ := Aside0.mk (below_step (hz1 HB.out GE281.out) hb)
 clear BK281
 clear HB
 have BK281 := n0_
 have HB := n1_
 clear n0_ n1_
 (try clear hb)
 (try clear hb2)
 (try clear hk)
 (try clear hi)
 refine hK.out _ _ ⟨bc BK281 0, bc BK281 1, bc BK281 2, bc BK281 3⟩ (fun hHeld => ?_)
 clear hK K
 refine norm_ (a' := ?_) ?_ ?_
 rotate_left
 ·show Act.put _ (some 5) _ = _
  simp only [Act.put, List.setIfInBounds_toArray, List.set_cons_zero, List.set_cons_succ, i64_w, i32_w]
  rfl
 refine one_ (i := 4) (N := some 7) #[T, T, T, T, T, F, F, F] rfl rfl (one_of HT_.out (by kernel_rfl)) (by decide) (fun K hK => ?_)
 refine goes_ Try.func67 (by kernel_rfl) rfl #[.agg #[.int .i64 a0_0, .int .i64 a0_1, .int .i64 a0_2, .int .i64 a0_3]] (by rfl) rfl rfl mz ?_
 with_reducible refine (impl_Val_rest.calls a0_0 a0_1 a0_2 a0_3 t284 t285 _ A3.out).mono ?_
 rintro e w8 ⟨rfl, hb⟩
 refine ⟨_, rfl, ?_⟩
 have n0_ := Aside0.mk (blk_below (g := gb281) (o := b4 a0_0 a0_1 a0_2 a0_3 25) (bz BK281.out) hb)
 have n1_ := Aside0.mk (below_step (hz1 HB.out GE281.out) hb)
 clear BK281
 clear HB
 have BK281 := n0_
 have HB := n1_
 clear n0_ n1_
 (try clear hb)
 (try clear hb2)
 (try clear hk)
 (try clear hi)
 refine hK.out _ _ ⟨bc BK281 0, bc BK281 1, bc BK281 2, bc BK281 3⟩ (fun hHeld => ?_)
 clear hK K
 refine norm_ (a' := ?_) ?_ ?_
 rotate_left
 ·show Act.put _ (some 7) _ = _
  simp only [Act.put, List.setIfInBounds_toArray, List.set_cons_zero, List.set_cons_succ, i64_w, i32_w]
  rfl
 refine one_ (i := 5) (N := some 8) #[T, T, T, T, T, T, F, F] rfl rfl (one_of HT_.out (by kernel_rfl)) (by decide) (fun K hK => ?_)
 refine goes_ Try.func77 (by kernel_rfl) rfl #[.agg #[.int .i64 t282, .int .i64 t283], .agg #[.int .i64 t284, .int .i64 t285]] (by rfl) rfl rfl mz ?_
 with_reducible refine (impl_ValMake.calls k t282 t283 t284 t285 t286 t287 t288 t289 _ A4.out).mono ?_
 rintro e w9 ⟨rfl, hb⟩
 refine ⟨_, rfl, ?_⟩
 have n0_ := Aside0.mk (blk_below (g := gb281) (o := b4 a0_0 a0_1 a0_2 a0_3 25) (bz BK281.out) hb)
 have n1_ := Aside0.mk (below_step (hz1 HB.out GE281.out) hb)
 clear BK281
 clear HB
 have BK281 := n0_
 have HB := n1_
 clear n0_ n1_
 (try clear hb)
 (try clear hb2)
 (try clear hk)
 (try clear hi)
 refine hK.out _ _ ⟨bc BK281 0, bc BK281 1, bc BK281 2, bc BK281 3⟩ (fun hHeld => ?_)
 clear hK K
 refine norm_ (a' := ?_) ?_ ?_
 rotate_left
 ·show Act.put _ (some 8) _ = _
  simp only [Act.put, List.setIfInBounds_toArray, List.set_cons_zero, List.set_cons_succ, i64_w, i32_w]
  rfl
 refine pure_ (i := 6) (N := some 9) (v := ?_) (a' := ?_) #[T, T, T, T, T, T, T, F] rfl rfl (any_of HT_.out (by kernel_rfl)) (fun _ _ _ h => h) (Or.inl ⟨by rfl, ?_⟩) ?_ ?_
 rotate_left
 ·exact gz
 rotate_left
 ·exact pz
 refine pure_ (i := 7) (N := some 2) (v := ?_) (a' := ?_) #[T, T, T, T, T, T, T, T] rfl rfl (any_of HT_.out (by kernel_rfl)) (fun _ _ _ h => h) (Or.inl ⟨by rfl, ?_⟩) ?_ ?_
 rotate_left
 ·exact gz
 rotate_left
 ·exact pz
 refine done_ (done_of HT_.out (by kernel_rfl)) ?_
 try go_wp2
 go_ret
 exact ⟨by first | rfl | (simp [errW_none, errW_some] <;> rfl) | (simp [*, errW_none, errW_some] <;> rfl), hz1 HB.out GE281.out⟩

/-! ### impl_Val_none: function 70 -/
def impl_Val_none.f (a0_0 : Int) (a0_1 : Int) (a0_2 : Int) (a0_3 : Int) : Option (Bool) := (impl_valNone.f).bind fun bt291 => (some (a0_0 == bt291.1 && (a0_1 == bt291.2.1 && (a0_2 == bt291.2.2.1 && (a0_3 == bt291.2.2.2)))))
set_option maxHeartbeats 8000000 in
set_option maxRecDepth 100000 in
theorem impl_Val_none.calls (a0_0 : Int) (a0_1 : Int) (a0_2 : Int) (a0_3 : Int) (r : Bool) (w : World) (h : impl_Val_none.f a0_0 a0_1 a0_2 a0_3 = some r) :
  Calls Try.prog 70 #[.agg #[.int .i64 a0_0, .int .i64 a0_1, .int .i64 a0_2, .int .i64 a0_3]] w fun e w' => e = .returned (.bool r) ∧ Below w.heap.size w w' := by
 have hu25 := Try.underlying25
 have HB := Aside0.mk (Below.refl w.heap.size w)
 have H : ((impl_valNone.f).bind fun bt291 => (some (a0_0 == bt291.1 && (a0_1 == bt291.2.1 && (a0_2 == bt291.2.2.1 && (a0_3 == bt291.2.2.2)))))) = some r := h
 clear h
 replace H := Option.bind_eq_some_iff.mp H
 obtain ⟨⟨t291, t292, t293, t294⟩, A20, H⟩ := H
 replace H : (some (a0_0 == t291 && (a0_1 == t292 && (a0_2 == t293 && (a0_3 == t294))))) = some r := H
 have A2 := Aside0.mk A20
 clear A20
 obtain rfl := Option.some.inj H
 go_enter Try.func70, Try.ntmps70
 try go_wp2_with (first | ((with_reducible refine gate_dst (N := 1) rfl ?_); refine box_event ?hg (N := 1) ?hd (cs := #[.int .i64 a0_0, .int .i64 a0_1, .int .i64 a0_2, .int .i64 a0_3]) (t := 25) ?hr ?_; (case hd => rfl); (case hg => rfl); (case hr => first | (go_simp; done) | (go_simp; rfl)); intro gb290 hg w3 hbox hb; have n0_ := Aside0.mk (below_step (hz HB.out) hb); have n1_ := Aside0.mk (hbox); have n2_ := Aside0.mk ((by rw [hg]; exact (below_size (hz HB.out)) : w.heap.size ≤ gb290)); have n3_ := Aside0.mk ((by rw [hg]; exact (below_size (hz HB.out)) : w.heap.size ≤ gb290)); clear HB; have HB := n0_; have BK290 := n1_; have GW290 := n2_; have GE290 := n3_; clear n0_ n1_ n2_ n3_; clear hb hbox hg))
 have n0_ := Aside0.mk (blk_drew BK290.out)
 have n1_ := Aside0.mk (below_drew1 HB.out)
 clear BK290
 clear HB
 have BK290 := n0_
 have HB := n1_
 clear n0_ n1_
 refine start_ (n := 4) (S := fun w' => w'.cell? ⟨gb290, 0, none⟩ = some (.int .i64 a0_0) ∧ w'.cell? ⟨gb290, 1, none⟩ = some (.int .i64 a0_1) ∧ w'.cell? ⟨gb290, 2, none⟩ = some (.int .i64 a0_2) ∧ w'.cell? ⟨gb290, 3, none⟩ = some (.int .i64 a0_3)) (ds := []) #[F, F, F, F] (by kernel_rfl) rfl rfl ⟨bc BK290 0, bc BK290 1, bc BK290 2, bc BK290 3⟩ (fun hHeld => ?_)
 generalize w3.drew = w4 at BK290 HB hHeld ⊢
 refine take_ (i := 0) (N := some 3) (v := ?_) (a' := ?_) #[T, F, F, F] rfl rfl (by kernel_rfl) (fun _ _ _ h => h) (Or.inl ⟨by rfl, ?_⟩) hHeld ?_ ?_
 rotate_left
 ·rintro w' ⟨s0, s1, s2, s3⟩
  go_simp
  with_reducible rfl
 rotate_left
 ·exact pz
 refine one_ (i := 1) (N := some 4) #[T, T, F, F] rfl rfl (by kernel_rfl) (by decide) (fun K hK => ?_)
 refine goes_ Try.func76 (by kernel_rfl) rfl #[] (by rfl) rfl rfl mz ?_
 with_reducible refine (impl_valNone.calls  t291 t292 t293 t294 _ A2.out).mono ?_
 rintro e w5 ⟨rfl, hb⟩
 refine ⟨_, rfl, ?_⟩
 have n0_ := Aside0.mk (blk_below (g := gb290) (o := b4 a0_0 a0_1 a0_2 a0_3 25) (bz BK290.out) hb)
 have n1_ := Aside0.mk (below_step (hz1 HB.out GE290.out) hb)
 clear BK290
 clear HB
 have BK290 := n0_
 have HB := n1_
 clear n0_ n1_
 (try clear hb)
 (try clear hb2)
 (try clear hk)
 (try clear hi)
 refine hK.out _ _ ⟨bc BK290 0, bc BK290 1, bc BK290 2, bc BK290 3⟩ (fun hHeld => ?_)
 clear hK K
 refine norm_ (a' := ?_) ?_ ?_
 rotate_left
 ·show Act.put _ (some 4) _ = _
  simp only [Act.put, List.setIfInBounds_toArray, List.set_cons_zero, List.set_cons_succ, i64_w, i32_w]
  rfl
 refine pure_ (i := 2) (N := some 5) (v := ?_) (a' := ?_) #[T, T, T, F] rfl rfl (by kernel_rfl) (fun _ _ _ h => h) (Or.inl ⟨by rfl, ?_⟩) ?_ ?_
 rotate_left
 ·exact gz
 rotate_left
 ·exact pz
 refine pure_ (i := 3) (N := some 2) (v := ?_) (a' := ?_) #[T, T, T, T] rfl rfl (by kernel_rfl) (fun _ _ _ h => h) (Or.inl ⟨by rfl, ?_⟩) ?_ ?_
 rotate_left
 ·exact gz
 rotate_left
 ·exact pz
 refine done_ (by kernel_rfl) ?_
 try go_wp2
 go_ret
 exact ⟨by first | rfl | (simp [errW_none, errW_some] <;> rfl) | (simp [*, errW_none, errW_some] <;> rfl), hz1 HB.out GE290.out⟩

end Go.Proofs.Ytnmccgjdnceheaa.PFnExactValJoin
