/- Written by this session's own driver (wip/dprint.py): the functions that the law FnExactValWiden reaches, as Lean functions, each with its contract. -/
import Derived.Test.YtnmccgjdnceheaaPFnExactValWidenx0
import Derived.Test.YtnmccgjdnceheaaPFnExactValWidenx1
import Derived.Test.YtnmccgjdnceheaaPFnExactValWidenx14
import Derived.Test.YtnmccgjdnceheaaPFnExactValWidenx15
import Derived.Test.YtnmccgjdnceheaaSv
namespace Go.Proofs.Ytnmccgjdnceheaa.PFnExactValWiden
open Go.RowKit Go.Proofs.YtnmccgjdnceheaaV.PrintWords Go.Proofs.YtnmccgjdnceheaaV.PrintLast Go.Proofs.YtnmccgjdnceheaaV.PrintMore Go.Proofs.YtnmccgjdnceheaaSv
attribute [local go_sem] max2_int min2_int max_two min_two max_three min_three max_four min_four   -- for this text's walks alone
set_option linter.unusedVariables false
set_option linter.unusedSimpArgs false

attribute [local go_sem high] eqA25
/-! ### impl_RestOk: function 121 -/
def impl_RestOk.f (a0_0 : Int) (a0_1 : Int) : Option (Bool) := if a0_0 = 0 then ((impl_NumOk.f a0_1).bind fun t311 => (some t311)) else (if a0_0 ≥ 1 then (if a0_0 ≤ 65536 then (if a0_1 ≥ 0 then (some (decide (a0_1 < a0_0))) else (some false)) else (some false)) else (some false))
set_option maxHeartbeats 8000000 in
set_option maxRecDepth 100000 in
theorem impl_RestOk.calls (a0_0 : Int) (a0_1 : Int) (r : Bool) (w : World) (h : impl_RestOk.f a0_0 a0_1 = some r) :
  Calls Try.prog 121 #[.agg #[.int .i64 a0_0, .int .i64 a0_1]] w fun e w' => e = .returned (.bool r) ∧ Below w.heap.size w w' := by
 have hu90 := Try.underlying90
 have HB := am (Below.refl w.heap.size w)
 have H : (if a0_0 = 0 then ((impl_NumOk.f a0_1).bind fun t311 => (some t311)) else (if a0_0 ≥ 1 then (if a0_0 ≤ 65536 then (if a0_1 ≥ 0 then (some (decide (a0_1 < a0_0))) else (some false)) else (some false)) else (some false))) = some r := h
 clear h
 by_cases c2 : a0_0 = 0
 ·rw [if_pos c2] at H
  have c2b0 : (a0_0 == 0) = true := beq_iff_eq.mpr c2
  have c2b1 : (a0_0 != 0) = false := bne_eq_false_iff_eq.mpr c2
  clear c2
  replace H := Option.bind_eq_some_iff.mp H
  obtain ⟨t311, A30, H⟩ := H
  replace H : (some t311) = some r := H
  have A3 := am A30
  clear A30
  obtain rfl := Option.some.inj H
  go_enter Try.func121, Try.ntmps121
  go_wp2_with (first | ((with_reducible refine gate_dst (N := 1) rfl ?_); refine box_event ?hg (N := 1) ?hd (cs := #[.int .i64 a0_0, .int .i64 a0_1]) (t := 90) ?hr ?_; (case hd => rfl); (case hg => rfl); (case hr => first | (go_simp; done) | (go_simp; rfl)); intro gb310 hg w4 hbox hb; have n0_ := am (below_step (Y0 HB) hb); have n1_ := am (hbox); have n2_ := am ((by rw [hg]; exact (below_size (Y0 HB)) : w.heap.size ≤ gb310)); have n3_ := am ((by rw [hg]; exact (below_size (Y0 HB)) : w.heap.size ≤ gb310)); clear HB; have HB := n0_; have BK310 := n1_; have GW310 := n2_; have GE310 := n3_; clear n0_ n1_ n2_ n3_; clear hb hbox hg; have hcz5_0 : w4.cell? ⟨gb310, 0, none⟩ = some (.int .i64 a0_0) := bc BK310 0; have hcz5_1 : w4.cell? ⟨gb310, 1, none⟩ = some (.int .i64 a0_1) := bc BK310 1; have hfz5_0 := blk_frozen BK310.out 0; have hfz5_1 := blk_frozen BK310.out 1) | ((with_reducible refine gate_callee (f := 95) rfl ?_); refine goesL_ (some 8) rfl rfl Try.func95 (by kernel_rfl) rfl #[.int .i64 a0_1] rfl mz ?_; (with_reducible refine (impl_NumOk.calls a0_1 t311 _ A3.out).mono ?_); rintro e w' ⟨rfl, ⟨nd, rfl⟩⟩; refine ⟨_, rfl, ?_⟩))
  go_ret
  exact ⟨by first | rfl | (simp [errW_none, errW_some] <;> rfl) | (simp [*, errW_none, errW_some] <;> rfl), Y1 HB GE310⟩
 ·rw [if_neg c2] at H
  have c2b0 : (a0_0 == 0) = false := beq_eq_false_iff_ne.mpr c2
  have c2b1 : (a0_0 != 0) = true := bne_iff_ne.mpr c2
  by_cases c6 : a0_0 ≥ 1
  ·rw [if_pos c6] at H
   have c6b0 : decide (1 ≤ a0_0) = true := decide_eq_true c6
   clear c6
   by_cases c7 : a0_0 ≤ 65536
   ·rw [if_pos c7] at H
    have c7b0 : decide (a0_0 ≤ 65536) = true := decide_eq_true c7
    clear c7
    by_cases c8 : a0_1 ≥ 0
    ·rw [if_pos c8] at H
     have c8b0 : decide (0 ≤ a0_1) = true := decide_eq_true c8
     clear c8
     obtain rfl := Option.some.inj H
     go_enter Try.func121, Try.ntmps121
     go_wp2_with (first | ((with_reducible refine gate_dst (N := 1) rfl ?_); refine box_event ?hg (N := 1) ?hd (cs := #[.int .i64 a0_0, .int .i64 a0_1]) (t := 90) ?hr ?_; (case hd => rfl); (case hg => rfl); (case hr => first | (go_simp; done) | (go_simp; rfl)); intro gb310 hg w9 hbox hb; have n0_ := am (below_step (Y0 HB) hb); have n1_ := am (hbox); have n2_ := am ((by rw [hg]; exact (below_size (Y0 HB)) : w.heap.size ≤ gb310)); have n3_ := am ((by rw [hg]; exact (below_size (Y0 HB)) : w.heap.size ≤ gb310)); clear HB; have HB := n0_; have BK310 := n1_; have GW310 := n2_; have GE310 := n3_; clear n0_ n1_ n2_ n3_; clear hb hbox hg; have hcz10_0 : w9.cell? ⟨gb310, 0, none⟩ = some (.int .i64 a0_0) := bc BK310 0; have hcz10_1 : w9.cell? ⟨gb310, 1, none⟩ = some (.int .i64 a0_1) := bc BK310 1; have hfz10_0 := blk_frozen BK310.out 0; have hfz10_1 := blk_frozen BK310.out 1))
     go_ret
     exact ⟨by first | rfl | (simp [errW_none, errW_some] <;> rfl) | (simp [*, errW_none, errW_some] <;> rfl), Y1 HB GE310⟩
    ·rw [if_neg c8] at H
     have c8b0 : decide (0 ≤ a0_1) = false := decide_eq_false c8
     clear c8
     obtain rfl := Option.some.inj H
     go_enter Try.func121, Try.ntmps121
     go_wp2_with (first | ((with_reducible refine gate_dst (N := 1) rfl ?_); refine box_event ?hg (N := 1) ?hd (cs := #[.int .i64 a0_0, .int .i64 a0_1]) (t := 90) ?hr ?_; (case hd => rfl); (case hg => rfl); (case hr => first | (go_simp; done) | (go_simp; rfl)); intro gb310 hg w11 hbox hb; have n0_ := am (below_step (Y0 HB) hb); have n1_ := am (hbox); have n2_ := am ((by rw [hg]; exact (below_size (Y0 HB)) : w.heap.size ≤ gb310)); have n3_ := am ((by rw [hg]; exact (below_size (Y0 HB)) : w.heap.size ≤ gb310)); clear HB; have HB := n0_; have BK310 := n1_; have GW310 := n2_; have GE310 := n3_; clear n0_ n1_ n2_ n3_; clear hb hbox hg; have hcz12_0 : w11.cell? ⟨gb310, 0, none⟩ = some (.int .i64 a0_0) := bc BK310 0; have hcz12_1 : w11.cell? ⟨gb310, 1, none⟩ = some (.int .i64 a0_1) := bc BK310 1; have hfz12_0 := blk_frozen BK310.out 0; have hfz12_1 := blk_frozen BK310.out 1))
     go_ret
     exact ⟨by first | rfl | (simp [errW_none, errW_some] <;> rfl) | (simp [*, errW_none, errW_some] <;> rfl), Y1 HB GE310⟩
   ·rw [if_neg c7] at H
    have c7b0 : decide (a0_0 ≤ 65536) = false := decide_eq_false c7
    clear c7
    obtain rfl := Option.some.inj H
    go_enter Try.func121, Try.ntmps121
    go_wp2_with (first | ((with_reducible refine gate_dst (N := 1) rfl ?_); refine box_event ?hg (N := 1) ?hd (cs := #[.int .i64 a0_0, .int .i64 a0_1]) (t := 90) ?hr ?_; (case hd => rfl); (case hg => rfl); (case hr => first | (go_simp; done) | (go_simp; rfl)); intro gb310 hg w13 hbox hb; have n0_ := am (below_step (Y0 HB) hb); have n1_ := am (hbox); have n2_ := am ((by rw [hg]; exact (below_size (Y0 HB)) : w.heap.size ≤ gb310)); have n3_ := am ((by rw [hg]; exact (below_size (Y0 HB)) : w.heap.size ≤ gb310)); clear HB; have HB := n0_; have BK310 := n1_; have GW310 := n2_; have GE310 := n3_; clear n0_ n1_ n2_ n3_; clear hb hbox hg; have hcz14_0 : w13.cell? ⟨gb310, 0, none⟩ = some (.int .i64 a0_0) := bc BK310 0; have hcz14_1 : w13.cell? ⟨gb310, 1, none⟩ = some (.int .i64 a0_1) := bc BK310 1; have hfz14_0 := blk_frozen BK310.out 0; have hfz14_1 := blk_frozen BK310.out 1))
    go_ret
    exact ⟨by first | rfl | (simp [errW_none, errW_some] <;> rfl) | (simp [*, errW_none, errW_some] <;> rfl), Y1 HB GE310⟩
  ·rw [if_neg c6] at H
   have c6b0 : decide (1 ≤ a0_0) = false := decide_eq_false c6
   clear c6
   obtain rfl := Option.some.inj H
   go_enter Try.func121, Try.ntmps121
   go_wp2_with (first | ((with_reducible refine gate_dst (N := 1) rfl ?_); refine box_event ?hg (N := 1) ?hd (cs := #[.int .i64 a0_0, .int .i64 a0_1]) (t := 90) ?hr ?_; (case hd => rfl); (case hg => rfl); (case hr => first | (go_simp; done) | (go_simp; rfl)); intro gb310 hg w15 hbox hb; have n0_ := am (below_step (Y0 HB) hb); have n1_ := am (hbox); have n2_ := am ((by rw [hg]; exact (below_size (Y0 HB)) : w.heap.size ≤ gb310)); have n3_ := am ((by rw [hg]; exact (below_size (Y0 HB)) : w.heap.size ≤ gb310)); clear HB; have HB := n0_; have BK310 := n1_; have GW310 := n2_; have GE310 := n3_; clear n0_ n1_ n2_ n3_; clear hb hbox hg; have hcz16_0 : w15.cell? ⟨gb310, 0, none⟩ = some (.int .i64 a0_0) := bc BK310 0; have hcz16_1 : w15.cell? ⟨gb310, 1, none⟩ = some (.int .i64 a0_1) := bc BK310 1; have hfz16_0 := blk_frozen BK310.out 0; have hfz16_1 := blk_frozen BK310.out 1))
   go_ret
   exact ⟨by first | rfl | (simp [errW_none, errW_some] <;> rfl) | (simp [*, errW_none, errW_some] <;> rfl), Y1 HB GE310⟩

/-! ### impl_restMod: function 122 -/
def impl_restMod.f (a0 : Int) (a1 : Int) : Option (Int) := if a1 = 0 then (none) else (if (Int.tmod a0 a1) < 0 then (some (wrap64 ((Int.tmod a0 a1) + a1))) else (some (Int.tmod a0 a1)))
set_option maxHeartbeats 8000000 in
set_option maxRecDepth 100000 in
theorem impl_restMod.calls (a0 : Int) (a1 : Int) (r : Int) (w : World) (h : impl_restMod.f a0 a1 = some r) :
  Calls Try.prog 122 #[.int .i64 a0, .int .i64 a1] w fun e w' => e = .returned (.int .i64 r) ∧ Drawn0 w w' := by
 have H : (if a1 = 0 then (none) else (if (Int.tmod a0 a1) < 0 then (some (wrap64 ((Int.tmod a0 a1) + a1))) else (some (Int.tmod a0 a1)))) = some r := h
 clear h
 by_cases c3 : a1 = 0
 ·rw [if_pos c3] at H
  exact absurd H (by simp)
 ·rw [if_neg c3] at H
  have c3b0 : (a1 == 0) = false := beq_eq_false_iff_ne.mpr c3
  have c3b1 : (a1 != 0) = true := bne_iff_ne.mpr c3
  by_cases c4 : (Int.tmod a0 a1) < 0
  ·rw [if_pos c4] at H
   have c4b0 : decide ((Int.tmod a0 a1) < 0) = true := decide_eq_true c4
   clear c4
   obtain rfl := Option.some.inj H
   go_enter Try.func122, Try.ntmps122
   go_wp2
   go_ret
   exact ⟨by first | rfl | (simp; done) | (simp [*]; done), by repeat (first | exact Drawn0.refl _ | apply Drawn0.step)⟩
  ·rw [if_neg c4] at H
   have c4b0 : decide ((Int.tmod a0 a1) < 0) = false := decide_eq_false c4
   clear c4
   obtain rfl := Option.some.inj H
   go_enter Try.func122, Try.ntmps122
   go_wp2
   go_ret
   exact ⟨by first | rfl | (simp; done) | (simp [*]; done), by repeat (first | exact Drawn0.refl _ | apply Drawn0.step)⟩

/-! ### impl_Range_empty: function 124 -/
def impl_Range_empty.f (a0_0 : Int) (a0_1 : Int) : Option (Bool) := some (decide (a0_0 > a0_1))
set_option maxHeartbeats 8000000 in
set_option maxRecDepth 100000 in
theorem impl_Range_empty.calls (a0_0 : Int) (a0_1 : Int) (r : Bool) (w : World) (h : impl_Range_empty.f a0_0 a0_1 = some r) :
  Calls Try.prog 124 #[.agg #[.int .i64 a0_0, .int .i64 a0_1]] w fun e w' => e = .returned (.bool r) ∧ Below w.heap.size w w' := by
 have hu86 := Try.underlying86
 have HB := am (Below.refl w.heap.size w)
 have H : (some (decide (a0_0 > a0_1))) = some r := h
 clear h
 obtain rfl := Option.some.inj H
 go_enter Try.func124, Try.ntmps124
 go_wp2_with (first | ((with_reducible refine gate_dst (N := 1) rfl ?_); refine box_event ?hg (N := 1) ?hd (cs := #[.int .i64 a0_0, .int .i64 a0_1]) (t := 86) ?hr ?_; (case hd => rfl); (case hg => rfl); (case hr => first | (go_simp; done) | (go_simp; rfl)); intro gb312 hg w2 hbox hb; have n0_ := am (below_step (Y0 HB) hb); have n1_ := am (hbox); have n2_ := am ((by rw [hg]; exact (below_size (Y0 HB)) : w.heap.size ≤ gb312)); have n3_ := am ((by rw [hg]; exact (below_size (Y0 HB)) : w.heap.size ≤ gb312)); clear HB; have HB := n0_; have BK312 := n1_; have GW312 := n2_; have GE312 := n3_; clear n0_ n1_ n2_ n3_; clear hb hbox hg; have hcz3_0 : w2.cell? ⟨gb312, 0, none⟩ = some (.int .i64 a0_0) := bc BK312 0; have hcz3_1 : w2.cell? ⟨gb312, 1, none⟩ = some (.int .i64 a0_1) := bc BK312 1; have hfz3_0 := blk_frozen BK312.out 0; have hfz3_1 := blk_frozen BK312.out 1))
 go_ret
 exact ⟨by first | rfl | (simp [errW_none, errW_some] <;> rfl) | (simp [*, errW_none, errW_some] <;> rfl), Y1 HB GE312⟩

/-! ### impl_valOne: function 131 -/
def impl_valOne.f (a0 : Int) : Option (Int × Int × Int × Int) := some (a0, a0, 0, a0)
set_option maxHeartbeats 8000000 in
set_option maxRecDepth 100000 in
theorem impl_valOne.calls (a0 : Int) (r1 : Int) (r2 : Int) (r3 : Int) (r4 : Int) (w : World) (h : impl_valOne.f a0 = some (r1, r2, r3, r4)) :
  Calls Try.prog 131 #[.int .i64 a0] w fun e w' => e = .returned (.agg #[.int .i64 r1, .int .i64 r2, .int .i64 r3, .int .i64 r4]) ∧ Below w.heap.size w w' := by
 have hu25 := Try.underlying25
 have HB := am (Below.refl w.heap.size w)
 have H : (some (a0, a0, 0, a0)) = some (r1, r2, r3, r4) := h
 clear h
 simp only [Option.some.injEq, Prod.mk.injEq] at H
 obtain ⟨rfl, rfl, rfl, rfl⟩ := H
 go_enter Try.func131, Try.ntmps131
 go_wp2_with (first | ((with_reducible refine gate_dst (N := 2) rfl ?_); refine box_event ?hg (N := 2) ?hd (cs := #[.int .i64 0, .int .i64 0, .int .i64 0, .int .i64 0]) (t := 25) ?hr ?_; (case hd => rfl); (case hg => rfl); (case hr => first | (go_simp; done) | (go_simp; rfl)); intro gb313 hg w2 hbox hb; have n0_ := am (below_step (Y0 HB) hb); have n1_ := am (hbox); have n2_ := am ((by rw [hg]; exact (below_size (Y0 HB)) : w.heap.size ≤ gb313)); have n3_ := am ((by rw [hg]; exact (below_size (Y0 HB)) : w.heap.size ≤ gb313)); clear HB; have HB := n0_; have BK313 := n1_; have GW313 := n2_; have GE313 := n3_; clear n0_ n1_ n2_ n3_; clear hb hbox hg; have hcz3_0 : w2.cell? ⟨gb313, 0, none⟩ = some (.int .i64 0) := bc BK313 0; have hcz3_1 : w2.cell? ⟨gb313, 1, none⟩ = some (.int .i64 0) := bc BK313 1; have hcz3_2 : w2.cell? ⟨gb313, 2, none⟩ = some (.int .i64 0) := bc BK313 2; have hcz3_3 : w2.cell? ⟨gb313, 3, none⟩ = some (.int .i64 0) := bc BK313 3; have hfz3_0 := blk_frozen BK313.out 0; have hfz3_1 := blk_frozen BK313.out 1; have hfz3_2 := blk_frozen BK313.out 2; have hfz3_3 := blk_frozen BK313.out 3))
 refine bodyPost_ret (results_cell_row rfl _ _ gb313 25 #[.int .i64 a0, .int .i64 a0, .int .i64 0, .int .i64 a0] (0, 0) _ rfl (by (with_reducible repeat (first | refine blk_drewN ?_ _ | refine blk_drew ?_ | refine blk_alloc ?_ _)); refine blk_put (cs := #[.int .i64 a0, .int .i64 a0, .int .i64 0, .int .i64 0]) ?_ 3 _ rfl; (with_reducible repeat (first | refine blk_drewN ?_ _ | refine blk_drew ?_ | refine blk_alloc ?_ _)); refine blk_put (cs := #[.int .i64 a0, .int .i64 a0, .int .i64 0, .int .i64 0]) ?_ 2 _ rfl; (with_reducible repeat (first | refine blk_drewN ?_ _ | refine blk_drew ?_ | refine blk_alloc ?_ _)); refine blk_put (cs := #[.int .i64 a0, .int .i64 0, .int .i64 0, .int .i64 0]) ?_ 1 _ rfl; (with_reducible repeat (first | refine blk_drewN ?_ _ | refine blk_drew ?_ | refine blk_alloc ?_ _)); refine blk_put (cs := #[.int .i64 0, .int .i64 0, .int .i64 0, .int .i64 0]) ?_ 0 _ rfl; (with_reducible repeat (first | refine blk_drewN ?_ _ | refine blk_drew ?_ | refine blk_alloc ?_ _)); exact BK313.out) Try.underlying25 rfl (by kernel_rfl)) rfl ?_
 exact ⟨by first | rfl | (simp [errW_none, errW_some] <;> rfl) | (simp [*, errW_none, errW_some] <;> rfl), Y1 HB GE313⟩

/-! ### impl_ValMake: function 77 -/
def impl_ValMake.j0 : Nat → Bool → Int → Int → Int → Int → Option (Int × Int × Int × Int)
 | 0, _, _, _, _, _ => none
 | k + 1, x18, x315000, x315001, x316000, x316001 => if x18 = true then ((impl_valNone.f).bind fun bt320 => (some (bt320.1, bt320.2.1, bt320.2.2.1, bt320.2.2.2))) else (if x316000 = 0 then ((impl_RangeHas.f x315000 x315001 x316001).bind fun t324 => (if t324 = true then ((impl_valOne.f x316001).bind fun bt325 => (some (bt325.1, bt325.2.1, bt325.2.2.1, bt325.2.2.2))) else ((impl_valNone.f).bind fun bt329 => (some (bt329.1, bt329.2.1, bt329.2.2.1, bt329.2.2.2))))) else ((impl_restMod.f (wrap64 (x316001 - x315000)) x316000).bind fun t333 => ((impl_restMod.f (wrap64 (x315001 - x316001)) x316000).bind fun t334 => (if (wrap64 (x315000 + t333)) > (wrap64 (x315001 - t334)) then ((impl_valNone.f).bind fun bt335 => (some (bt335.1, bt335.2.1, bt335.2.2.1, bt335.2.2.2))) else (if (wrap64 (x315000 + t333)) = (wrap64 (x315001 - t334)) then ((impl_valOne.f (wrap64 (x315000 + t333))).bind fun bt339 => (some (bt339.1, bt339.2.1, bt339.2.2.1, bt339.2.2.2))) else (some (wrap64 (x315000 + t333), wrap64 (x315001 - t334), x316000, x316001)))))))
def impl_ValMake.f (k : Nat) (a0_0 : Int) (a0_1 : Int) (a1_0 : Int) (a1_1 : Int) : Option (Int × Int × Int × Int) := (impl_RangeOk.f a0_0 a0_1).bind fun t317 => (if t317 = true then ((impl_RestOk.f a1_0 a1_1).bind fun t318 => (if t318 = true then ((impl_Range_empty.f a0_0 a0_1).bind fun t319 => (impl_ValMake.j0 k t319 a0_0 a0_1 a1_0 a1_1)) else (impl_ValMake.j0 k true a0_0 a0_1 a1_0 a1_1))) else (impl_ValMake.j0 k true a0_0 a0_1 a1_0 a1_1))
theorem impl_ValMake.mono_l : ∀ k, (∀ y0 y1 y2 y3 y4, LeO (impl_ValMake.j0 k y0 y1 y2 y3 y4) (impl_ValMake.j0 (k + 1) y0 y1 y2 y3 y4))
 | 0 => fun _ _ _ _ _ r h => by simp [impl_ValMake.j0] at h
 | k + 1 => by
  have ih0 := impl_ValMake.mono_l k
  ·intro y0 y1 y2 y3 y4
   unfold impl_ValMake.j0
   repeat' first
   | (with_reducible exact ih0 _ _ _ _ _)
   | (with_reducible exact LeO.refl _)
   | (with_reducible exact LeO.none _)
   | (with_reducible refine LeO.ite ?_ ?_)
   | (with_reducible refine LeO.bind ?_ (fun _ => ?_))
   | exact ih0 _ _ _ _ _
   | exact LeO.none _
   | refine LeO.ite ?_ ?_
   | refine LeO.bind ?_ (fun _ => ?_)
theorem impl_ValMake.mono : ∀ a0 a1 a2 a3 k, LeO (impl_ValMake.f k a0 a1 a2 a3) (impl_ValMake.f (k + 1) a0 a1 a2 a3) := by
 intro a0 a1 a2 a3 k
 have ih0 := impl_ValMake.mono_l k
 unfold impl_ValMake.f
 repeat' first
   | (with_reducible exact ih0 _ _ _ _ _)
   | (with_reducible exact LeO.refl _)
   | (with_reducible exact LeO.none _)
   | (with_reducible refine LeO.ite ?_ ?_)
   | (with_reducible refine LeO.bind ?_ (fun _ => ?_))
   | exact ih0 _ _ _ _ _
   | exact LeO.none _
   | refine LeO.ite ?_ ?_
   | refine LeO.bind ?_ (fun _ => ?_)
set_option maxHeartbeats 8000000 in
set_option maxRecDepth 100000 in
theorem impl_ValMake.calls (k : Nat) (a0_0 : Int) (a0_1 : Int) (a1_0 : Int) (a1_1 : Int) (r1 : Int) (r2 : Int) (r3 : Int) (r4 : Int) (w : World) (h : impl_ValMake.f k a0_0 a0_1 a1_0 a1_1 = some (r1, r2, r3, r4)) :
  Calls Try.prog 77 #[.agg #[.int .i64 a0_0, .int .i64 a0_1], .agg #[.int .i64 a1_0, .int .i64 a1_1]] w fun e w' => e = .returned (.agg #[.int .i64 r1, .int .i64 r2, .int .i64 r3, .int .i64 r4]) ∧ Below w.heap.size w w' := by
 have hu86 := Try.underlying86
 have hu90 := Try.underlying90
 have hu25 := Try.underlying25
 have HB := am (Below.refl w.heap.size w)
 have H : ((impl_RangeOk.f a0_0 a0_1).bind fun t317 => (if t317 = true then ((impl_RestOk.f a1_0 a1_1).bind fun t318 => (if t318 = true then ((impl_Range_empty.f a0_0 a0_1).bind fun t319 => (impl_ValMake.j0 k t319 a0_0 a0_1 a1_0 a1_1)) else (impl_ValMake.j0 k true a0_0 a0_1 a1_0 a1_1))) else (impl_ValMake.j0 k true a0_0 a0_1 a1_0 a1_1))) = some (r1, r2, r3, r4) := h
 clear h
 have HC3 := am H
 clear H
 go_enter Try.func77, Try.ntmps77
 go_upto_region 1 with (first | ((with_reducible refine gate_dst (N := 2) rfl ?_); refine box_event ?hg (N := 2) ?hd (cs := #[.int .i64 a0_0, .int .i64 a0_1]) (t := 86) ?hr ?_; (case hd => rfl); (case hg => rfl); (case hr => first | (go_simp; done) | (go_simp; rfl)); intro gb314 hg w4 hbox hb; have n0_ := am (below_step (Y0 HB) hb); have n1_ := am (hbox); have n2_ := am ((by rw [hg]; exact (below_size (Y0 HB)) : w.heap.size ≤ gb314)); have n3_ := am ((by rw [hg]; exact (below_size (Y0 HB)) : w.heap.size ≤ gb314)); clear HB; have HB := n0_; have BK314 := n1_; have GW314 := n2_; have GE314 := n3_; clear n0_ n1_ n2_ n3_; clear hb hbox hg) | ((with_reducible refine gate_dst (N := 3) rfl ?_); refine box_event ?hg (N := 3) ?hd (cs := #[.int .i64 a1_0, .int .i64 a1_1]) (t := 90) ?hr ?_; (case hd => rfl); (case hg => rfl); (case hr => first | (go_simp; done) | (go_simp; rfl)); intro gb315 hg w5 hbox hb; have n0_ := am (blk_below (g := gb314) (o := b2 a0_0 a0_1 86) (Z BK314) hb); have n1_ := am (below_step (Y1 HB GE314) hb); have n2_ := am (hbox); have n3_ := am ((by rw [hg]; exact (below_size (Y1 HB GE314)) : w.heap.size ≤ gb315)); have n4_ := am ((by rw [hg]; exact (below_size (Y1 HB GE314)) : w.heap.size ≤ gb315)); have n5_ := am ((nl (o := b2 a0_0 a0_1 86) hg (Z BK314) : gb314 ≠ gb315)); have n6_ := am ((ng (o := b2 a0_0 a0_1 86) hg (Z BK314) : gb315 ≠ gb314)); clear BK314; clear HB; have BK314 := n0_; have HB := n1_; have BK315 := n2_; have GW315 := n3_; have GE315 := n4_; have NB314_315 := n5_; have NB315_314 := n6_; clear n0_ n1_ n2_ n3_ n4_ n5_ n6_; clear hb hbox hg) | ((with_reducible refine gate_dst (N := 4) rfl ?_); refine box_event ?hg (N := 4) ?hd (cs := #[.int .i64 0, .int .i64 0, .int .i64 0, .int .i64 0]) (t := 25) ?hr ?_; (case hd => rfl); (case hg => rfl); (case hr => first | (go_simp; done) | (go_simp; rfl)); intro gb316 hg w6 hbox hb; have n0_ := am (blk_below (g := gb314) (o := b2 a0_0 a0_1 86) (Z BK314) hb); have n1_ := am (blk_below (g := gb315) (o := b2 a1_0 a1_1 90) (Z BK315) hb); have n2_ := am (below_step (Y2 HB GE314 GE315) hb); have n3_ := am (hbox); have n4_ := am ((by rw [hg]; exact (below_size (Y2 HB GE314 GE315)) : w.heap.size ≤ gb316)); have n5_ := am ((by rw [hg]; exact (below_size (Y2 HB GE314 GE315)) : w.heap.size ≤ gb316)); have n6_ := am ((nl (o := b2 a0_0 a0_1 86) hg (Z BK314) : gb314 ≠ gb316)); have n7_ := am ((ng (o := b2 a0_0 a0_1 86) hg (Z BK314) : gb316 ≠ gb314)); have n8_ := am ((nl (o := b2 a1_0 a1_1 90) hg (Z BK315) : gb315 ≠ gb316)); have n9_ := am ((ng (o := b2 a1_0 a1_1 90) hg (Z BK315) : gb316 ≠ gb315)); clear BK314; clear BK315; clear HB; have BK314 := n0_; have BK315 := n1_; have HB := n2_; have BK316 := n3_; have GW316 := n4_; have GE316 := n5_; have NB314_316 := n6_; have NB316_314 := n7_; have NB315_316 := n8_; have NB316_315 := n9_; clear n0_ n1_ n2_ n3_ n4_ n5_ n6_ n7_ n8_ n9_; clear hb hbox hg))
 repeat (go_quiet (first | ((with_reducible refine gate_dst (N := 2) rfl ?_); refine box_event ?hg (N := 2) ?hd (cs := #[.int .i64 a0_0, .int .i64 a0_1]) (t := 86) ?hr ?_; (case hd => rfl); (case hg => rfl); (case hr => first | (go_simp; done) | (go_simp; rfl)); intro gb314 hg w4 hbox hb; have n0_ := am (below_step (Y0 HB) hb); have n1_ := am (hbox); have n2_ := am ((by rw [hg]; exact (below_size (Y0 HB)) : w.heap.size ≤ gb314)); have n3_ := am ((by rw [hg]; exact (below_size (Y0 HB)) : w.heap.size ≤ gb314)); clear HB; have HB := n0_; have BK314 := n1_; have GW314 := n2_; have GE314 := n3_; clear n0_ n1_ n2_ n3_; clear hb hbox hg) | ((with_reducible refine gate_dst (N := 3) rfl ?_); refine box_event ?hg (N := 3) ?hd (cs := #[.int .i64 a1_0, .int .i64 a1_1]) (t := 90) ?hr ?_; (case hd => rfl); (case hg => rfl); (case hr => first | (go_simp; done) | (go_simp; rfl)); intro gb315 hg w5 hbox hb; have n0_ := am (blk_below (g := gb314) (o := b2 a0_0 a0_1 86) (Z BK314) hb); have n1_ := am (below_step (Y1 HB GE314) hb); have n2_ := am (hbox); have n3_ := am ((by rw [hg]; exact (below_size (Y1 HB GE314)) : w.heap.size ≤ gb315)); have n4_ := am ((by rw [hg]; exact (below_size (Y1 HB GE314)) : w.heap.size ≤ gb315)); have n5_ := am ((nl (o := b2 a0_0 a0_1 86) hg (Z BK314) : gb314 ≠ gb315)); have n6_ := am ((ng (o := b2 a0_0 a0_1 86) hg (Z BK314) : gb315 ≠ gb314)); clear BK314; clear HB; have BK314 := n0_; have HB := n1_; have BK315 := n2_; have GW315 := n3_; have GE315 := n4_; have NB314_315 := n5_; have NB315_314 := n6_; clear n0_ n1_ n2_ n3_ n4_ n5_ n6_; clear hb hbox hg) | ((with_reducible refine gate_dst (N := 4) rfl ?_); refine box_event ?hg (N := 4) ?hd (cs := #[.int .i64 0, .int .i64 0, .int .i64 0, .int .i64 0]) (t := 25) ?hr ?_; (case hd => rfl); (case hg => rfl); (case hr => first | (go_simp; done) | (go_simp; rfl)); intro gb316 hg w6 hbox hb; have n0_ := am (blk_below (g := gb314) (o := b2 a0_0 a0_1 86) (Z BK314) hb); have n1_ := am (blk_below (g := gb315) (o := b2 a1_0 a1_1 90) (Z BK315) hb); have n2_ := am (below_step (Y2 HB GE314 GE315) hb); have n3_ := am (hbox); have n4_ := am ((by rw [hg]; exact (below_size (Y2 HB GE314 GE315)) : w.heap.size ≤ gb316)); have n5_ := am ((by rw [hg]; exact (below_size (Y2 HB GE314 GE315)) : w.heap.size ≤ gb316)); have n6_ := am ((nl (o := b2 a0_0 a0_1 86) hg (Z BK314) : gb314 ≠ gb316)); have n7_ := am ((ng (o := b2 a0_0 a0_1 86) hg (Z BK314) : gb316 ≠ gb314)); have n8_ := am ((nl (o := b2 a1_0 a1_1 90) hg (Z BK315) : gb315 ≠ gb316)); have n9_ := am ((ng (o := b2 a1_0 a1_1 90) hg (Z BK315) : gb316 ≠ gb315)); clear BK314; clear BK315; clear HB; have BK314 := n0_; have BK315 := n1_; have HB := n2_; have BK316 := n3_; have GW316 := n4_; have GE316 := n5_; have NB314_316 := n6_; have NB316_314 := n7_; have NB315_316 := n8_; have NB316_315 := n9_; clear n0_ n1_ n2_ n3_ n4_ n5_ n6_ n7_ n8_ n9_; clear hb hbox hg)); go_upto_region 1 with (first | ((with_reducible refine gate_dst (N := 2) rfl ?_); refine box_event ?hg (N := 2) ?hd (cs := #[.int .i64 a0_0, .int .i64 a0_1]) (t := 86) ?hr ?_; (case hd => rfl); (case hg => rfl); (case hr => first | (go_simp; done) | (go_simp; rfl)); intro gb314 hg w4 hbox hb; have n0_ := am (below_step (Y0 HB) hb); have n1_ := am (hbox); have n2_ := am ((by rw [hg]; exact (below_size (Y0 HB)) : w.heap.size ≤ gb314)); have n3_ := am ((by rw [hg]; exact (below_size (Y0 HB)) : w.heap.size ≤ gb314)); clear HB; have HB := n0_; have BK314 := n1_; have GW314 := n2_; have GE314 := n3_; clear n0_ n1_ n2_ n3_; clear hb hbox hg) | ((with_reducible refine gate_dst (N := 3) rfl ?_); refine box_event ?hg (N := 3) ?hd (cs := #[.int .i64 a1_0, .int .i64 a1_1]) (t := 90) ?hr ?_; (case hd => rfl); (case hg => rfl); (case hr => first | (go_simp; done) | (go_simp; rfl)); intro gb315 hg w5 hbox hb; have n0_ := am (blk_below (g := gb314) (o := b2 a0_0 a0_1 86) (Z BK314) hb); have n1_ := am (below_step (Y1 HB GE314) hb); have n2_ := am (hbox); have n3_ := am ((by rw [hg]; exact (below_size (Y1 HB GE314)) : w.heap.size ≤ gb315)); have n4_ := am ((by rw [hg]; exact (below_size (Y1 HB GE314)) : w.heap.size ≤ gb315)); have n5_ := am ((nl (o := b2 a0_0 a0_1 86) hg (Z BK314) : gb314 ≠ gb315)); have n6_ := am ((ng (o := b2 a0_0 a0_1 86) hg (Z BK314) : gb315 ≠ gb314)); clear BK314; clear HB; have BK314 := n0_; have HB := n1_; have BK315 := n2_; have GW315 := n3_; have GE315 := n4_; have NB314_315 := n5_; have NB315_314 := n6_; clear n0_ n1_ n2_ n3_ n4_ n5_ n6_; clear hb hbox hg) | ((with_reducible refine gate_dst (N := 4) rfl ?_); refine box_event ?hg (N := 4) ?hd (cs := #[.int .i64 0, .int .i64 0, .int .i64 0, .int .i64 0]) (t := 25) ?hr ?_; (case hd => rfl); (case hg => rfl); (case hr => first | (go_simp; done) | (go_simp; rfl)); intro gb316 hg w6 hbox hb; have n0_ := am (blk_below (g := gb314) (o := b2 a0_0 a0_1 86) (Z BK314) hb); have n1_ := am (blk_below (g := gb315) (o := b2 a1_0 a1_1 90) (Z BK315) hb); have n2_ := am (below_step (Y2 HB GE314 GE315) hb); have n3_ := am (hbox); have n4_ := am ((by rw [hg]; exact (below_size (Y2 HB GE314 GE315)) : w.heap.size ≤ gb316)); have n5_ := am ((by rw [hg]; exact (below_size (Y2 HB GE314 GE315)) : w.heap.size ≤ gb316)); have n6_ := am ((nl (o := b2 a0_0 a0_1 86) hg (Z BK314) : gb314 ≠ gb316)); have n7_ := am ((ng (o := b2 a0_0 a0_1 86) hg (Z BK314) : gb316 ≠ gb314)); have n8_ := am ((nl (o := b2 a1_0 a1_1 90) hg (Z BK315) : gb315 ≠ gb316)); have n9_ := am ((ng (o := b2 a1_0 a1_1 90) hg (Z BK315) : gb316 ≠ gb315)); clear BK314; clear BK315; clear HB; have BK314 := n0_; have BK315 := n1_; have HB := n2_; have BK316 := n3_; have GW316 := n4_; have GE316 := n5_; have NB314_316 := n6_; have NB316_314 := n7_; have NB315_316 := n8_; have NB316_315 := n9_; clear n0_ n1_ n2_ n3_ n4_ n5_ n6_ n7_ n8_ n9_; clear hb hbox hg)))
 (try simp only [Act.put, List.setIfInBounds_toArray, List.set_cons_zero, List.set_cons_succ])
 go_cut [18] (fun v18 wc => ∃ (kq : Nat) (x18_2 : Bool), v18 = .bool x18_2 ∧ Aside0 (impl_ValMake.j0 kq x18_2 a0_0 a0_1 a1_0 a1_1 = some (r1, r2, r3, r4)) ∧ Aside0 (kq ≤ k) ∧ Aside0 (wc.heap[gb314]? = some (.cells #[.int .i64 a0_0, .int .i64 a0_1] 86 (0, 0))) ∧ Aside0 (wc.heap[gb315]? = some (.cells #[.int .i64 a1_0, .int .i64 a1_1] 90 (0, 0))) ∧ Aside0 (wc.heap[gb316]? = some (.cells #[.int .i64 0, .int .i64 0, .int .i64 0, .int .i64 0] 25 (0, 0))) ∧ Aside0 (Below w.heap.size w wc))
 case first =>
  have H := HC3.out
  clear HC3
  replace H := Option.bind_eq_some_iff.mp H
  obtain ⟨t317, A70, H⟩ := H
  replace H : (if t317 = true then ((impl_RestOk.f a1_0 a1_1).bind fun t318 => (if t318 = true then ((impl_Range_empty.f a0_0 a0_1).bind fun t319 => (impl_ValMake.j0 k t319 a0_0 a0_1 a1_0 a1_1)) else (impl_ValMake.j0 k true a0_0 a0_1 a1_0 a1_1))) else (impl_ValMake.j0 k true a0_0 a0_1 a1_0 a1_1)) = some (r1, r2, r3, r4) := H
  have A7 := am A70
  clear A70
  by_cases c8 : t317 = true
  ·subst c8
   have H1 : ((impl_RestOk.f a1_0 a1_1).bind fun t318 => (if t318 = true then ((impl_Range_empty.f a0_0 a0_1).bind fun t319 => (impl_ValMake.j0 k t319 a0_0 a0_1 a1_0 a1_1)) else (impl_ValMake.j0 k true a0_0 a0_1 a1_0 a1_1))) = some (r1, r2, r3, r4) := by rw [if_pos rfl] at H; exact H
   clear H
   have H := H1
   clear H1
   replace H := Option.bind_eq_some_iff.mp H
   obtain ⟨t318, A90, H⟩ := H
   replace H : (if t318 = true then ((impl_Range_empty.f a0_0 a0_1).bind fun t319 => (impl_ValMake.j0 k t319 a0_0 a0_1 a1_0 a1_1)) else (impl_ValMake.j0 k true a0_0 a0_1 a1_0 a1_1)) = some (r1, r2, r3, r4) := H
   have A9 := am A90
   clear A90
   by_cases c10 : t318 = true
   ·subst c10
    have H1 : ((impl_Range_empty.f a0_0 a0_1).bind fun t319 => (impl_ValMake.j0 k t319 a0_0 a0_1 a1_0 a1_1)) = some (r1, r2, r3, r4) := by rw [if_pos rfl] at H; exact H
    clear H
    have H := H1
    clear H1
    replace H := Option.bind_eq_some_iff.mp H
    obtain ⟨t319, A110, H⟩ := H
    replace H : (impl_ValMake.j0 k t319 a0_0 a0_1 a1_0 a1_1) = some (r1, r2, r3, r4) := H
    have A11 := am A110
    clear A110
    have H' := am H
    clear H
    have hnb12 := NB314_315.out
    have hnc12 := NB315_314.out
    have hnb13 := NB314_316.out
    have hnc13 := NB316_314.out
    have hcz14_0 : w6.cell? ⟨gb314, 0, none⟩ = some (.int .i64 a0_0) := bc BK314 0
    have hcz14_1 : w6.cell? ⟨gb314, 1, none⟩ = some (.int .i64 a0_1) := bc BK314 1
    have hfz14_0 := blk_frozen BK314.out 0
    have hfz14_1 := blk_frozen BK314.out 1
    go_wp2_with (first | (go_at_call 120; (with_reducible refine (impl_RangeOk.calls a0_0 a0_1 true _ A7.out).mono ?_); rintro e w15 ⟨rfl, hb⟩; have n0_ := am (blk_below (g := gb314) (o := b2 a0_0 a0_1 86) (Z BK314) hb); have n1_ := am (blk_below (g := gb315) (o := b2 a1_0 a1_1 90) (Z BK315) hb); have n2_ := am (blk_below (g := gb316) (o := b4 0 0 0 0 25) (Z BK316) hb); have n3_ := am (below_step (Y3 HB GE314 GE315 GE316) hb); clear BK314; clear BK315; clear BK316; clear HB; have BK314 := n0_; have BK315 := n1_; have BK316 := n2_; have HB := n3_; clear n0_ n1_ n2_ n3_; (try clear hb); (try clear hb2); (try clear hk); (try clear hi); have hnb16 := NB315_316.out; have hnc16 := NB316_315.out; have hcz17_0 : w15.cell? ⟨gb315, 0, none⟩ = some (.int .i64 a1_0) := bc BK315 0; have hcz17_1 : w15.cell? ⟨gb315, 1, none⟩ = some (.int .i64 a1_1) := bc BK315 1; have hfz17_0 := blk_frozen BK315.out 0; have hfz17_1 := blk_frozen BK315.out 1) | (go_at_call 121; (with_reducible refine (impl_RestOk.calls a1_0 a1_1 true _ A9.out).mono ?_); rintro e w18 ⟨rfl, hb⟩; have n0_ := am (blk_below (g := gb314) (o := b2 a0_0 a0_1 86) (Z BK314) hb); have n1_ := am (blk_below (g := gb315) (o := b2 a1_0 a1_1 90) (Z BK315) hb); have n2_ := am (blk_below (g := gb316) (o := b4 0 0 0 0 25) (Z BK316) hb); have n3_ := am (below_step (Y3 HB GE314 GE315 GE316) hb); clear BK314; clear BK315; clear BK316; clear HB; have BK314 := n0_; have BK315 := n1_; have BK316 := n2_; have HB := n3_; clear n0_ n1_ n2_ n3_; (try clear hb); (try clear hb2); (try clear hk); (try clear hi); have hcz19_0 : w18.cell? ⟨gb314, 0, none⟩ = some (.int .i64 a0_0) := bc BK314 0; have hcz19_1 : w18.cell? ⟨gb314, 1, none⟩ = some (.int .i64 a0_1) := bc BK314 1; have hfz19_0 := blk_frozen BK314.out 0; have hfz19_1 := blk_frozen BK314.out 1) | (go_at_call 124; (with_reducible refine (impl_Range_empty.calls a0_0 a0_1 t319 _ A11.out).mono ?_); rintro e w20 ⟨rfl, hb⟩; have n0_ := am (blk_below (g := gb314) (o := b2 a0_0 a0_1 86) (Z BK314) hb); have n1_ := am (blk_below (g := gb315) (o := b2 a1_0 a1_1 90) (Z BK315) hb); have n2_ := am (blk_below (g := gb316) (o := b4 0 0 0 0 25) (Z BK316) hb); have n3_ := am (below_step (Y3 HB GE314 GE315 GE316) hb); clear BK314; clear BK315; clear BK316; clear HB; have BK314 := n0_; have BK315 := n1_; have BK316 := n2_; have HB := n3_; clear n0_ n1_ n2_ n3_; (try clear hb); (try clear hb2); (try clear hk); (try clear hi)))
    try have hnb16 := NB315_316.out
    try have hnc16 := NB316_315.out
    try have hcz17_0 : w15.cell? ⟨gb315, 0, none⟩ = some (.int .i64 a1_0) := bc BK315 0
    try have hcz17_1 : w15.cell? ⟨gb315, 1, none⟩ = some (.int .i64 a1_1) := bc BK315 1
    try have hfz17_0 := blk_frozen BK315.out 0
    try have hfz17_1 := blk_frozen BK315.out 1
    try have hcz19_0 : w18.cell? ⟨gb314, 0, none⟩ = some (.int .i64 a0_0) := bc BK314 0
    try have hcz19_1 : w18.cell? ⟨gb314, 1, none⟩ = some (.int .i64 a0_1) := bc BK314 1
    try have hfz19_0 := blk_frozen BK314.out 0
    try have hfz19_1 := blk_frozen BK314.out 1
    repeat (go_quiet (first | (go_at_call 120; (with_reducible refine (impl_RangeOk.calls a0_0 a0_1 true _ A7.out).mono ?_); rintro e w15 ⟨rfl, hb⟩; have n0_ := am (blk_below (g := gb314) (o := b2 a0_0 a0_1 86) (Z BK314) hb); have n1_ := am (blk_below (g := gb315) (o := b2 a1_0 a1_1 90) (Z BK315) hb); have n2_ := am (blk_below (g := gb316) (o := b4 0 0 0 0 25) (Z BK316) hb); have n3_ := am (below_step (Y3 HB GE314 GE315 GE316) hb); clear BK314; clear BK315; clear BK316; clear HB; have BK314 := n0_; have BK315 := n1_; have BK316 := n2_; have HB := n3_; clear n0_ n1_ n2_ n3_; (try clear hb); (try clear hb2); (try clear hk); (try clear hi); (try (have hnb16 := NB315_316.out; have hnc16 := NB316_315.out; have hcz17_0 : w15.cell? ⟨gb315, 0, none⟩ = some (.int .i64 a1_0) := bc BK315 0; have hcz17_1 : w15.cell? ⟨gb315, 1, none⟩ = some (.int .i64 a1_1) := bc BK315 1; have hfz17_0 := blk_frozen BK315.out 0; have hfz17_1 := blk_frozen BK315.out 1))) | (go_at_call 121; (with_reducible refine (impl_RestOk.calls a1_0 a1_1 true _ A9.out).mono ?_); rintro e w18 ⟨rfl, hb⟩; have n0_ := am (blk_below (g := gb314) (o := b2 a0_0 a0_1 86) (Z BK314) hb); have n1_ := am (blk_below (g := gb315) (o := b2 a1_0 a1_1 90) (Z BK315) hb); have n2_ := am (blk_below (g := gb316) (o := b4 0 0 0 0 25) (Z BK316) hb); have n3_ := am (below_step (Y3 HB GE314 GE315 GE316) hb); clear BK314; clear BK315; clear BK316; clear HB; have BK314 := n0_; have BK315 := n1_; have BK316 := n2_; have HB := n3_; clear n0_ n1_ n2_ n3_; (try clear hb); (try clear hb2); (try clear hk); (try clear hi); (try (have hcz19_0 : w18.cell? ⟨gb314, 0, none⟩ = some (.int .i64 a0_0) := bc BK314 0; have hcz19_1 : w18.cell? ⟨gb314, 1, none⟩ = some (.int .i64 a0_1) := bc BK314 1; have hfz19_0 := blk_frozen BK314.out 0; have hfz19_1 := blk_frozen BK314.out 1))) | (go_at_call 124; (with_reducible refine (impl_Range_empty.calls a0_0 a0_1 t319 _ A11.out).mono ?_); rintro e w20 ⟨rfl, hb⟩; have n0_ := am (blk_below (g := gb314) (o := b2 a0_0 a0_1 86) (Z BK314) hb); have n1_ := am (blk_below (g := gb315) (o := b2 a1_0 a1_1 90) (Z BK315) hb); have n2_ := am (blk_below (g := gb316) (o := b4 0 0 0 0 25) (Z BK316) hb); have n3_ := am (below_step (Y3 HB GE314 GE315 GE316) hb); clear BK314; clear BK315; clear BK316; clear HB; have BK314 := n0_; have BK315 := n1_; have BK316 := n2_; have HB := n3_; clear n0_ n1_ n2_ n3_; (try clear hb); (try clear hb2); (try clear hk); (try clear hi))); try go_wp2_with (first | (go_at_call 120; (with_reducible refine (impl_RangeOk.calls a0_0 a0_1 true _ A7.out).mono ?_); rintro e w15 ⟨rfl, hb⟩; have n0_ := am (blk_below (g := gb314) (o := b2 a0_0 a0_1 86) (Z BK314) hb); have n1_ := am (blk_below (g := gb315) (o := b2 a1_0 a1_1 90) (Z BK315) hb); have n2_ := am (blk_below (g := gb316) (o := b4 0 0 0 0 25) (Z BK316) hb); have n3_ := am (below_step (Y3 HB GE314 GE315 GE316) hb); clear BK314; clear BK315; clear BK316; clear HB; have BK314 := n0_; have BK315 := n1_; have BK316 := n2_; have HB := n3_; clear n0_ n1_ n2_ n3_; (try clear hb); (try clear hb2); (try clear hk); (try clear hi); (try (have hnb16 := NB315_316.out; have hnc16 := NB316_315.out; have hcz17_0 : w15.cell? ⟨gb315, 0, none⟩ = some (.int .i64 a1_0) := bc BK315 0; have hcz17_1 : w15.cell? ⟨gb315, 1, none⟩ = some (.int .i64 a1_1) := bc BK315 1; have hfz17_0 := blk_frozen BK315.out 0; have hfz17_1 := blk_frozen BK315.out 1))) | (go_at_call 121; (with_reducible refine (impl_RestOk.calls a1_0 a1_1 true _ A9.out).mono ?_); rintro e w18 ⟨rfl, hb⟩; have n0_ := am (blk_below (g := gb314) (o := b2 a0_0 a0_1 86) (Z BK314) hb); have n1_ := am (blk_below (g := gb315) (o := b2 a1_0 a1_1 90) (Z BK315) hb); have n2_ := am (blk_below (g := gb316) (o := b4 0 0 0 0 25) (Z BK316) hb); have n3_ := am (below_step (Y3 HB GE314 GE315 GE316) hb); clear BK314; clear BK315; clear BK316; clear HB; have BK314 := n0_; have BK315 := n1_; have BK316 := n2_; have HB := n3_; clear n0_ n1_ n2_ n3_; (try clear hb); (try clear hb2); (try clear hk); (try clear hi); (try (have hcz19_0 : w18.cell? ⟨gb314, 0, none⟩ = some (.int .i64 a0_0) := bc BK314 0; have hcz19_1 : w18.cell? ⟨gb314, 1, none⟩ = some (.int .i64 a0_1) := bc BK314 1; have hfz19_0 := blk_frozen BK314.out 0; have hfz19_1 := blk_frozen BK314.out 1))) | (go_at_call 124; (with_reducible refine (impl_Range_empty.calls a0_0 a0_1 t319 _ A11.out).mono ?_); rintro e w20 ⟨rfl, hb⟩; have n0_ := am (blk_below (g := gb314) (o := b2 a0_0 a0_1 86) (Z BK314) hb); have n1_ := am (blk_below (g := gb315) (o := b2 a1_0 a1_1 90) (Z BK315) hb); have n2_ := am (blk_below (g := gb316) (o := b4 0 0 0 0 25) (Z BK316) hb); have n3_ := am (below_step (Y3 HB GE314 GE315 GE316) hb); clear BK314; clear BK315; clear BK316; clear HB; have BK314 := n0_; have BK315 := n1_; have BK316 := n2_; have HB := n3_; clear n0_ n1_ n2_ n3_; (try clear hb); (try clear hb2); (try clear hk); (try clear hi))))
    go_meet
    case rel => exact ⟨_, (t319), (by first | rfl | (simp; done) | (simp [*]; done)), H', ⟨by first | omega | exact Nat.le_refl _⟩, ⟨Z BK314⟩, ⟨Z BK315⟩, ⟨Z BK316⟩, ⟨Y3 HB GE314 GE315 GE316⟩⟩
   ·replace c10 := Bool.eq_false_iff.mpr c10
    subst c10
    have H1 : (impl_ValMake.j0 k true a0_0 a0_1 a1_0 a1_1) = some (r1, r2, r3, r4) := by rw [if_neg (show ¬ (false = true) by decide)] at H; exact H
    clear H
    have H := H1
    clear H1
    have H' := am H
    clear H
    have hnb21 := NB314_315.out
    have hnc21 := NB315_314.out
    have hnb22 := NB314_316.out
    have hnc22 := NB316_314.out
    have hcz23_0 : w6.cell? ⟨gb314, 0, none⟩ = some (.int .i64 a0_0) := bc BK314 0
    have hcz23_1 : w6.cell? ⟨gb314, 1, none⟩ = some (.int .i64 a0_1) := bc BK314 1
    have hfz23_0 := blk_frozen BK314.out 0
    have hfz23_1 := blk_frozen BK314.out 1
    go_wp2_with (first | (go_at_call 120; (with_reducible refine (impl_RangeOk.calls a0_0 a0_1 true _ A7.out).mono ?_); rintro e w24 ⟨rfl, hb⟩; have n0_ := am (blk_below (g := gb314) (o := b2 a0_0 a0_1 86) (Z BK314) hb); have n1_ := am (blk_below (g := gb315) (o := b2 a1_0 a1_1 90) (Z BK315) hb); have n2_ := am (blk_below (g := gb316) (o := b4 0 0 0 0 25) (Z BK316) hb); have n3_ := am (below_step (Y3 HB GE314 GE315 GE316) hb); clear BK314; clear BK315; clear BK316; clear HB; have BK314 := n0_; have BK315 := n1_; have BK316 := n2_; have HB := n3_; clear n0_ n1_ n2_ n3_; (try clear hb); (try clear hb2); (try clear hk); (try clear hi); have hnb25 := NB315_316.out; have hnc25 := NB316_315.out; have hcz26_0 : w24.cell? ⟨gb315, 0, none⟩ = some (.int .i64 a1_0) := bc BK315 0; have hcz26_1 : w24.cell? ⟨gb315, 1, none⟩ = some (.int .i64 a1_1) := bc BK315 1; have hfz26_0 := blk_frozen BK315.out 0; have hfz26_1 := blk_frozen BK315.out 1) | (go_at_call 121; (with_reducible refine (impl_RestOk.calls a1_0 a1_1 false _ A9.out).mono ?_); rintro e w27 ⟨rfl, hb⟩; have n0_ := am (blk_below (g := gb314) (o := b2 a0_0 a0_1 86) (Z BK314) hb); have n1_ := am (blk_below (g := gb315) (o := b2 a1_0 a1_1 90) (Z BK315) hb); have n2_ := am (blk_below (g := gb316) (o := b4 0 0 0 0 25) (Z BK316) hb); have n3_ := am (below_step (Y3 HB GE314 GE315 GE316) hb); clear BK314; clear BK315; clear BK316; clear HB; have BK314 := n0_; have BK315 := n1_; have BK316 := n2_; have HB := n3_; clear n0_ n1_ n2_ n3_; (try clear hb); (try clear hb2); (try clear hk); (try clear hi)))
    try have hnb25 := NB315_316.out
    try have hnc25 := NB316_315.out
    try have hcz26_0 : w24.cell? ⟨gb315, 0, none⟩ = some (.int .i64 a1_0) := bc BK315 0
    try have hcz26_1 : w24.cell? ⟨gb315, 1, none⟩ = some (.int .i64 a1_1) := bc BK315 1
    try have hfz26_0 := blk_frozen BK315.out 0
    try have hfz26_1 := blk_frozen BK315.out 1
    repeat (go_quiet (first | (go_at_call 120; (with_reducible refine (impl_RangeOk.calls a0_0 a0_1 true _ A7.out).mono ?_); rintro e w24 ⟨rfl, hb⟩; have n0_ := am (blk_below (g := gb314) (o := b2 a0_0 a0_1 86) (Z BK314) hb); have n1_ := am (blk_below (g := gb315) (o := b2 a1_0 a1_1 90) (Z BK315) hb); have n2_ := am (blk_below (g := gb316) (o := b4 0 0 0 0 25) (Z BK316) hb); have n3_ := am (below_step (Y3 HB GE314 GE315 GE316) hb); clear BK314; clear BK315; clear BK316; clear HB; have BK314 := n0_; have BK315 := n1_; have BK316 := n2_; have HB := n3_; clear n0_ n1_ n2_ n3_; (try clear hb); (try clear hb2); (try clear hk); (try clear hi); (try (have hnb25 := NB315_316.out; have hnc25 := NB316_315.out; have hcz26_0 : w24.cell? ⟨gb315, 0, none⟩ = some (.int .i64 a1_0) := bc BK315 0; have hcz26_1 : w24.cell? ⟨gb315, 1, none⟩ = some (.int .i64 a1_1) := bc BK315 1; have hfz26_0 := blk_frozen BK315.out 0; have hfz26_1 := blk_frozen BK315.out 1))) | (go_at_call 121; (with_reducible refine (impl_RestOk.calls a1_0 a1_1 false _ A9.out).mono ?_); rintro e w27 ⟨rfl, hb⟩; have n0_ := am (blk_below (g := gb314) (o := b2 a0_0 a0_1 86) (Z BK314) hb); have n1_ := am (blk_below (g := gb315) (o := b2 a1_0 a1_1 90) (Z BK315) hb); have n2_ := am (blk_below (g := gb316) (o := b4 0 0 0 0 25) (Z BK316) hb); have n3_ := am (below_step (Y3 HB GE314 GE315 GE316) hb); clear BK314; clear BK315; clear BK316; clear HB; have BK314 := n0_; have BK315 := n1_; have BK316 := n2_; have HB := n3_; clear n0_ n1_ n2_ n3_; (try clear hb); (try clear hb2); (try clear hk); (try clear hi))); try go_wp2_with (first | (go_at_call 120; (with_reducible refine (impl_RangeOk.calls a0_0 a0_1 true _ A7.out).mono ?_); rintro e w24 ⟨rfl, hb⟩; have n0_ := am (blk_below (g := gb314) (o := b2 a0_0 a0_1 86) (Z BK314) hb); have n1_ := am (blk_below (g := gb315) (o := b2 a1_0 a1_1 90) (Z BK315) hb); have n2_ := am (blk_below (g := gb316) (o := b4 0 0 0 0 25) (Z BK316) hb); have n3_ := am (below_step (Y3 HB GE314 GE315 GE316) hb); clear BK314; clear BK315; clear BK316; clear HB; have BK314 := n0_; have BK315 := n1_; have BK316 := n2_; have HB := n3_; clear n0_ n1_ n2_ n3_; (try clear hb); (try clear hb2); (try clear hk); (try clear hi); (try (have hnb25 := NB315_316.out; have hnc25 := NB316_315.out; have hcz26_0 : w24.cell? ⟨gb315, 0, none⟩ = some (.int .i64 a1_0) := bc BK315 0; have hcz26_1 : w24.cell? ⟨gb315, 1, none⟩ = some (.int .i64 a1_1) := bc BK315 1; have hfz26_0 := blk_frozen BK315.out 0; have hfz26_1 := blk_frozen BK315.out 1))) | (go_at_call 121; (with_reducible refine (impl_RestOk.calls a1_0 a1_1 false _ A9.out).mono ?_); rintro e w27 ⟨rfl, hb⟩; have n0_ := am (blk_below (g := gb314) (o := b2 a0_0 a0_1 86) (Z BK314) hb); have n1_ := am (blk_below (g := gb315) (o := b2 a1_0 a1_1 90) (Z BK315) hb); have n2_ := am (blk_below (g := gb316) (o := b4 0 0 0 0 25) (Z BK316) hb); have n3_ := am (below_step (Y3 HB GE314 GE315 GE316) hb); clear BK314; clear BK315; clear BK316; clear HB; have BK314 := n0_; have BK315 := n1_; have BK316 := n2_; have HB := n3_; clear n0_ n1_ n2_ n3_; (try clear hb); (try clear hb2); (try clear hk); (try clear hi))))
    go_meet
    case rel => exact ⟨_, (true), (by first | rfl | (simp; done) | (simp [*]; done)), H', ⟨by first | omega | exact Nat.le_refl _⟩, ⟨Z BK314⟩, ⟨Z BK315⟩, ⟨Z BK316⟩, ⟨Y3 HB GE314 GE315 GE316⟩⟩
  ·replace c8 := Bool.eq_false_iff.mpr c8
   subst c8
   have H1 : (impl_ValMake.j0 k true a0_0 a0_1 a1_0 a1_1) = some (r1, r2, r3, r4) := by rw [if_neg (show ¬ (false = true) by decide)] at H; exact H
   clear H
   have H := H1
   clear H1
   have H' := am H
   clear H
   have hnb28 := NB314_315.out
   have hnc28 := NB315_314.out
   have hnb29 := NB314_316.out
   have hnc29 := NB316_314.out
   have hcz30_0 : w6.cell? ⟨gb314, 0, none⟩ = some (.int .i64 a0_0) := bc BK314 0
   have hcz30_1 : w6.cell? ⟨gb314, 1, none⟩ = some (.int .i64 a0_1) := bc BK314 1
   have hfz30_0 := blk_frozen BK314.out 0
   have hfz30_1 := blk_frozen BK314.out 1
   go_wp2_with (first | (go_at_call 120; (with_reducible refine (impl_RangeOk.calls a0_0 a0_1 false _ A7.out).mono ?_); rintro e w31 ⟨rfl, hb⟩; have n0_ := am (blk_below (g := gb314) (o := b2 a0_0 a0_1 86) (Z BK314) hb); have n1_ := am (blk_below (g := gb315) (o := b2 a1_0 a1_1 90) (Z BK315) hb); have n2_ := am (blk_below (g := gb316) (o := b4 0 0 0 0 25) (Z BK316) hb); have n3_ := am (below_step (Y3 HB GE314 GE315 GE316) hb); clear BK314; clear BK315; clear BK316; clear HB; have BK314 := n0_; have BK315 := n1_; have BK316 := n2_; have HB := n3_; clear n0_ n1_ n2_ n3_; (try clear hb); (try clear hb2); (try clear hk); (try clear hi)))
   repeat (go_quiet (first | (go_at_call 120; (with_reducible refine (impl_RangeOk.calls a0_0 a0_1 false _ A7.out).mono ?_); rintro e w31 ⟨rfl, hb⟩; have n0_ := am (blk_below (g := gb314) (o := b2 a0_0 a0_1 86) (Z BK314) hb); have n1_ := am (blk_below (g := gb315) (o := b2 a1_0 a1_1 90) (Z BK315) hb); have n2_ := am (blk_below (g := gb316) (o := b4 0 0 0 0 25) (Z BK316) hb); have n3_ := am (below_step (Y3 HB GE314 GE315 GE316) hb); clear BK314; clear BK315; clear BK316; clear HB; have BK314 := n0_; have BK315 := n1_; have BK316 := n2_; have HB := n3_; clear n0_ n1_ n2_ n3_; (try clear hb); (try clear hb2); (try clear hk); (try clear hi))); try go_wp2_with (first | (go_at_call 120; (with_reducible refine (impl_RangeOk.calls a0_0 a0_1 false _ A7.out).mono ?_); rintro e w31 ⟨rfl, hb⟩; have n0_ := am (blk_below (g := gb314) (o := b2 a0_0 a0_1 86) (Z BK314) hb); have n1_ := am (blk_below (g := gb315) (o := b2 a1_0 a1_1 90) (Z BK315) hb); have n2_ := am (blk_below (g := gb316) (o := b4 0 0 0 0 25) (Z BK316) hb); have n3_ := am (below_step (Y3 HB GE314 GE315 GE316) hb); clear BK314; clear BK315; clear BK316; clear HB; have BK314 := n0_; have BK315 := n1_; have BK316 := n2_; have HB := n3_; clear n0_ n1_ n2_ n3_; (try clear hb); (try clear hb2); (try clear hk); (try clear hi))))
   go_meet
   case rel => exact ⟨_, (true), (by first | rfl | (simp; done) | (simp [*]; done)), H', ⟨by first | omega | exact Nat.le_refl _⟩, ⟨Z BK314⟩, ⟨Z BK315⟩, ⟨Z BK316⟩, ⟨Y3 HB GE314 GE315 GE316⟩⟩
 case rest =>
  clear HC3
  try clear c1
  try clear c2
  try clear p2
  try clear c7
  try clear c8
  try clear c10
  try clear c12
  try clear c13
  try clear c16
  try clear c21
  try clear c22
  try clear c25
  try clear c28
  try clear c29
  try clear hcz14_0
  try clear hcz14_1
  try clear hcz17_0
  try clear hcz17_1
  try clear hcz19_0
  try clear hcz19_1
  try clear hcz23_0
  try clear hcz23_1
  try clear hcz26_0
  try clear hcz26_1
  try clear hcz30_0
  try clear hcz30_1
  try clear hfz14_0
  try clear hfz14_1
  try clear hfz17_0
  try clear hfz17_1
  try clear hfz19_0
  try clear hfz19_1
  try clear hfz23_0
  try clear hfz23_1
  try clear hfz26_0
  try clear hfz26_1
  try clear hfz30_0
  try clear hfz30_1
  obtain ⟨kq, x18_2, rfl, HA, HJ2, BK314, BK315, BK316, HB⟩ := hcut
  cases kq with
  | zero => exact absurd HA.out (by simp [impl_ValMake.j0])
  | succ kj2 =>
   have H := HA.out
   clear HA
   simp only [impl_ValMake.j0] at H
   by_cases c32 : x18_2 = true
   ·subst c32
    have H1 : ((impl_valNone.f).bind fun bt320 => (some (bt320.1, bt320.2.1, bt320.2.2.1, bt320.2.2.2))) = some (r1, r2, r3, r4) := by rw [if_pos rfl] at H; exact H
    clear H
    have H := H1
    clear H1
    replace H := Option.bind_eq_some_iff.mp H
    obtain ⟨⟨t320, t321, t322, t323⟩, A330, H⟩ := H
    replace H : (some (t320, t321, t322, t323)) = some (r1, r2, r3, r4) := H
    have A33 := am A330
    clear A330
    simp only [Option.some.injEq, Prod.mk.injEq] at H
    obtain ⟨rfl, rfl, rfl, rfl⟩ := H
    go_wp2_with (first | (go_at_call 76; (with_reducible refine (impl_valNone.calls  t320 t321 t322 t323 _ A33.out).mono ?_); rintro e w34 ⟨rfl, hb⟩; have n0_ := am (blk_below (g := gb314) (o := b2 a0_0 a0_1 86) (Z BK314) hb); have n1_ := am (blk_below (g := gb315) (o := b2 a1_0 a1_1 90) (Z BK315) hb); have n2_ := am (blk_below (g := gb316) (o := b4 0 0 0 0 25) (Z BK316) hb); have n3_ := am (below_step (Y3 HB GE314 GE315 GE316) hb); clear BK314; clear BK315; clear BK316; clear HB; have BK314 := n0_; have BK315 := n1_; have BK316 := n2_; have HB := n3_; clear n0_ n1_ n2_ n3_; (try clear hb); (try clear hb2); (try clear hk); (try clear hi); have hnb35 := NB316_314.out; have hnc35 := NB314_316.out; have hnb36 := NB316_315.out; have hnc36 := NB315_316.out; have hcz37_0 : w34.cell? ⟨gb316, 0, none⟩ = some (.int .i64 0) := bc BK316 0; have hcz37_1 : w34.cell? ⟨gb316, 1, none⟩ = some (.int .i64 0) := bc BK316 1; have hcz37_2 : w34.cell? ⟨gb316, 2, none⟩ = some (.int .i64 0) := bc BK316 2; have hcz37_3 : w34.cell? ⟨gb316, 3, none⟩ = some (.int .i64 0) := bc BK316 3; have hfz37_0 := blk_frozen BK316.out 0; have hfz37_1 := blk_frozen BK316.out 1; have hfz37_2 := blk_frozen BK316.out 2; have hfz37_3 := blk_frozen BK316.out 3))
    try have hnb35 := NB316_314.out
    try have hnc35 := NB314_316.out
    try have hnb36 := NB316_315.out
    try have hnc36 := NB315_316.out
    try have hcz37_0 : w34.cell? ⟨gb316, 0, none⟩ = some (.int .i64 0) := bc BK316 0
    try have hcz37_1 : w34.cell? ⟨gb316, 1, none⟩ = some (.int .i64 0) := bc BK316 1
    try have hcz37_2 : w34.cell? ⟨gb316, 2, none⟩ = some (.int .i64 0) := bc BK316 2
    try have hcz37_3 : w34.cell? ⟨gb316, 3, none⟩ = some (.int .i64 0) := bc BK316 3
    try have hfz37_0 := blk_frozen BK316.out 0
    try have hfz37_1 := blk_frozen BK316.out 1
    try have hfz37_2 := blk_frozen BK316.out 2
    try have hfz37_3 := blk_frozen BK316.out 3
    repeat (go_quiet (first | (go_at_call 76; (with_reducible refine (impl_valNone.calls  t320 t321 t322 t323 _ A33.out).mono ?_); rintro e w34 ⟨rfl, hb⟩; have n0_ := am (blk_below (g := gb314) (o := b2 a0_0 a0_1 86) (Z BK314) hb); have n1_ := am (blk_below (g := gb315) (o := b2 a1_0 a1_1 90) (Z BK315) hb); have n2_ := am (blk_below (g := gb316) (o := b4 0 0 0 0 25) (Z BK316) hb); have n3_ := am (below_step (Y3 HB GE314 GE315 GE316) hb); clear BK314; clear BK315; clear BK316; clear HB; have BK314 := n0_; have BK315 := n1_; have BK316 := n2_; have HB := n3_; clear n0_ n1_ n2_ n3_; (try clear hb); (try clear hb2); (try clear hk); (try clear hi); (try (have hnb35 := NB316_314.out; have hnc35 := NB314_316.out; have hnb36 := NB316_315.out; have hnc36 := NB315_316.out; have hcz37_0 : w34.cell? ⟨gb316, 0, none⟩ = some (.int .i64 0) := bc BK316 0; have hcz37_1 : w34.cell? ⟨gb316, 1, none⟩ = some (.int .i64 0) := bc BK316 1; have hcz37_2 : w34.cell? ⟨gb316, 2, none⟩ = some (.int .i64 0) := bc BK316 2; have hcz37_3 : w34.cell? ⟨gb316, 3, none⟩ = some (.int .i64 0) := bc BK316 3; have hfz37_0 := blk_frozen BK316.out 0; have hfz37_1 := blk_frozen BK316.out 1; have hfz37_2 := blk_frozen BK316.out 2; have hfz37_3 := blk_frozen BK316.out 3)))); try go_wp2_with (first | (go_at_call 76; (with_reducible refine (impl_valNone.calls  t320 t321 t322 t323 _ A33.out).mono ?_); rintro e w34 ⟨rfl, hb⟩; have n0_ := am (blk_below (g := gb314) (o := b2 a0_0 a0_1 86) (Z BK314) hb); have n1_ := am (blk_below (g := gb315) (o := b2 a1_0 a1_1 90) (Z BK315) hb); have n2_ := am (blk_below (g := gb316) (o := b4 0 0 0 0 25) (Z BK316) hb); have n3_ := am (below_step (Y3 HB GE314 GE315 GE316) hb); clear BK314; clear BK315; clear BK316; clear HB; have BK314 := n0_; have BK315 := n1_; have BK316 := n2_; have HB := n3_; clear n0_ n1_ n2_ n3_; (try clear hb); (try clear hb2); (try clear hk); (try clear hi); (try (have hnb35 := NB316_314.out; have hnc35 := NB314_316.out; have hnb36 := NB316_315.out; have hnc36 := NB315_316.out; have hcz37_0 : w34.cell? ⟨gb316, 0, none⟩ = some (.int .i64 0) := bc BK316 0; have hcz37_1 : w34.cell? ⟨gb316, 1, none⟩ = some (.int .i64 0) := bc BK316 1; have hcz37_2 : w34.cell? ⟨gb316, 2, none⟩ = some (.int .i64 0) := bc BK316 2; have hcz37_3 : w34.cell? ⟨gb316, 3, none⟩ = some (.int .i64 0) := bc BK316 3; have hfz37_0 := blk_frozen BK316.out 0; have hfz37_1 := blk_frozen BK316.out 1; have hfz37_2 := blk_frozen BK316.out 2; have hfz37_3 := blk_frozen BK316.out 3)))))
    refine bodyPost_ret (results_cell_row rfl _ _ gb316 25 #[.int .i64 t320, .int .i64 t321, .int .i64 t322, .int .i64 t323] (0, 0) _ rfl (by (with_reducible repeat (first | refine blk_drewN ?_ _ | refine blk_drew ?_ | refine blk_alloc ?_ _)); refine blk_put (cs := #[.int .i64 t320, .int .i64 t321, .int .i64 t322, .int .i64 0]) ?_ 3 _ rfl; (with_reducible repeat (first | refine blk_drewN ?_ _ | refine blk_drew ?_ | refine blk_alloc ?_ _)); refine blk_put (cs := #[.int .i64 t320, .int .i64 t321, .int .i64 0, .int .i64 0]) ?_ 2 _ rfl; (with_reducible repeat (first | refine blk_drewN ?_ _ | refine blk_drew ?_ | refine blk_alloc ?_ _)); refine blk_put (cs := #[.int .i64 t320, .int .i64 0, .int .i64 0, .int .i64 0]) ?_ 1 _ rfl; (with_reducible repeat (first | refine blk_drewN ?_ _ | refine blk_drew ?_ | refine blk_alloc ?_ _)); refine blk_put (cs := #[.int .i64 0, .int .i64 0, .int .i64 0, .int .i64 0]) ?_ 0 _ rfl; (with_reducible repeat (first | refine blk_drewN ?_ _ | refine blk_drew ?_ | refine blk_alloc ?_ _)); exact BK316.out) Try.underlying25 rfl (by kernel_rfl)) rfl ?_
    exact ⟨by first | rfl | (simp [errW_none, errW_some] <;> rfl) | (simp [*, errW_none, errW_some] <;> rfl), Y3 HB GE314 GE315 GE316⟩
   ·replace c32 := Bool.eq_false_iff.mpr c32
    subst c32
    have H1 : (if a1_0 = 0 then ((impl_RangeHas.f a0_0 a0_1 a1_1).bind fun t324 => (if t324 = true then ((impl_valOne.f a1_1).bind fun bt325 => (some (bt325.1, bt325.2.1, bt325.2.2.1, bt325.2.2.2))) else ((impl_valNone.f).bind fun bt329 => (some (bt329.1, bt329.2.1, bt329.2.2.1, bt329.2.2.2))))) else ((impl_restMod.f (wrap64 (a1_1 - a0_0)) a1_0).bind fun t333 => ((impl_restMod.f (wrap64 (a0_1 - a1_1)) a1_0).bind fun t334 => (if (wrap64 (a0_0 + t333)) > (wrap64 (a0_1 - t334)) then ((impl_valNone.f).bind fun bt335 => (some (bt335.1, bt335.2.1, bt335.2.2.1, bt335.2.2.2))) else (if (wrap64 (a0_0 + t333)) = (wrap64 (a0_1 - t334)) then ((impl_valOne.f (wrap64 (a0_0 + t333))).bind fun bt339 => (some (bt339.1, bt339.2.1, bt339.2.2.1, bt339.2.2.2))) else (some (wrap64 (a0_0 + t333), wrap64 (a0_1 - t334), a1_0, a1_1))))))) = some (r1, r2, r3, r4) := by rw [if_neg (show ¬ (false = true) by decide)] at H; exact H
    clear H
    have H := H1
    clear H1
    by_cases c38 : a1_0 = 0
    ·rw [if_pos c38] at H
     have c38b0 : (a1_0 == 0) = true := beq_iff_eq.mpr c38
     have c38b1 : (a1_0 != 0) = false := bne_eq_false_iff_eq.mpr c38
     clear c38
     replace H := Option.bind_eq_some_iff.mp H
     obtain ⟨t324, A390, H⟩ := H
     replace H : (if t324 = true then ((impl_valOne.f a1_1).bind fun bt325 => (some (bt325.1, bt325.2.1, bt325.2.2.1, bt325.2.2.2))) else ((impl_valNone.f).bind fun bt329 => (some (bt329.1, bt329.2.1, bt329.2.2.1, bt329.2.2.2)))) = some (r1, r2, r3, r4) := H
     have A39 := am A390
     clear A390
     by_cases c40 : t324 = true
     ·subst c40
      have H1 : ((impl_valOne.f a1_1).bind fun bt325 => (some (bt325.1, bt325.2.1, bt325.2.2.1, bt325.2.2.2))) = some (r1, r2, r3, r4) := by rw [if_pos rfl] at H; exact H
      clear H
      have H := H1
      clear H1
      replace H := Option.bind_eq_some_iff.mp H
      obtain ⟨⟨t325, t326, t327, t328⟩, A410, H⟩ := H
      replace H : (some (t325, t326, t327, t328)) = some (r1, r2, r3, r4) := H
      have A41 := am A410
      clear A410
      simp only [Option.some.injEq, Prod.mk.injEq] at H
      obtain ⟨rfl, rfl, rfl, rfl⟩ := H
      have hnb42 := NB315_314.out
      have hnc42 := NB314_315.out
      have hnb43 := NB315_316.out
      have hnc43 := NB316_315.out
      have hcz44_0 : wc.cell? ⟨gb315, 0, none⟩ = some (.int .i64 a1_0) := bc BK315 0
      have hcz44_1 : wc.cell? ⟨gb315, 1, none⟩ = some (.int .i64 a1_1) := bc BK315 1
      have hfz44_0 := blk_frozen BK315.out 0
      have hfz44_1 := blk_frozen BK315.out 1
      have hnb45 := NB314_316.out
      have hnc45 := NB316_314.out
      have hcz46_0 : wc.cell? ⟨gb314, 0, none⟩ = some (.int .i64 a0_0) := bc BK314 0
      have hcz46_1 : wc.cell? ⟨gb314, 1, none⟩ = some (.int .i64 a0_1) := bc BK314 1
      have hfz46_0 := blk_frozen BK314.out 0
      have hfz46_1 := blk_frozen BK314.out 1
      go_wp2_with (first | (go_at_call 64; (with_reducible refine (impl_RangeHas.calls a0_0 a0_1 a1_1 true _ A39.out).mono ?_); rintro e w47 ⟨rfl, hb⟩; have n0_ := am (blk_below (g := gb314) (o := b2 a0_0 a0_1 86) (Z BK314) hb); have n1_ := am (blk_below (g := gb315) (o := b2 a1_0 a1_1 90) (Z BK315) hb); have n2_ := am (blk_below (g := gb316) (o := b4 0 0 0 0 25) (Z BK316) hb); have n3_ := am (below_step (Y3 HB GE314 GE315 GE316) hb); clear BK314; clear BK315; clear BK316; clear HB; have BK314 := n0_; have BK315 := n1_; have BK316 := n2_; have HB := n3_; clear n0_ n1_ n2_ n3_; (try clear hb); (try clear hb2); (try clear hk); (try clear hi); have hcz48_0 : w47.cell? ⟨gb315, 0, none⟩ = some (.int .i64 a1_0) := bc BK315 0; have hcz48_1 : w47.cell? ⟨gb315, 1, none⟩ = some (.int .i64 a1_1) := bc BK315 1; have hfz48_0 := blk_frozen BK315.out 0; have hfz48_1 := blk_frozen BK315.out 1) | (go_at_call 131; (with_reducible refine (impl_valOne.calls a1_1 t325 t326 t327 t328 _ A41.out).mono ?_); rintro e w49 ⟨rfl, hb⟩; have n0_ := am (blk_below (g := gb314) (o := b2 a0_0 a0_1 86) (Z BK314) hb); have n1_ := am (blk_below (g := gb315) (o := b2 a1_0 a1_1 90) (Z BK315) hb); have n2_ := am (blk_below (g := gb316) (o := b4 0 0 0 0 25) (Z BK316) hb); have n3_ := am (below_step (Y3 HB GE314 GE315 GE316) hb); clear BK314; clear BK315; clear BK316; clear HB; have BK314 := n0_; have BK315 := n1_; have BK316 := n2_; have HB := n3_; clear n0_ n1_ n2_ n3_; (try clear hb); (try clear hb2); (try clear hk); (try clear hi); have hcz50_0 : w49.cell? ⟨gb316, 0, none⟩ = some (.int .i64 0) := bc BK316 0; have hcz50_1 : w49.cell? ⟨gb316, 1, none⟩ = some (.int .i64 0) := bc BK316 1; have hcz50_2 : w49.cell? ⟨gb316, 2, none⟩ = some (.int .i64 0) := bc BK316 2; have hcz50_3 : w49.cell? ⟨gb316, 3, none⟩ = some (.int .i64 0) := bc BK316 3; have hfz50_0 := blk_frozen BK316.out 0; have hfz50_1 := blk_frozen BK316.out 1; have hfz50_2 := blk_frozen BK316.out 2; have hfz50_3 := blk_frozen BK316.out 3))
      try have hcz48_0 : w47.cell? ⟨gb315, 0, none⟩ = some (.int .i64 a1_0) := bc BK315 0
      try have hcz48_1 : w47.cell? ⟨gb315, 1, none⟩ = some (.int .i64 a1_1) := bc BK315 1
      try have hfz48_0 := blk_frozen BK315.out 0
      try have hfz48_1 := blk_frozen BK315.out 1
      try have hcz50_0 : w49.cell? ⟨gb316, 0, none⟩ = some (.int .i64 0) := bc BK316 0
      try have hcz50_1 : w49.cell? ⟨gb316, 1, none⟩ = some (.int .i64 0) := bc BK316 1
      try have hcz50_2 : w49.cell? ⟨gb316, 2, none⟩ = some (.int .i64 0) := bc BK316 2
      try have hcz50_3 : w49.cell? ⟨gb316, 3, none⟩ = some (.int .i64 0) := bc BK316 3
      try have hfz50_0 := blk_frozen BK316.out 0
      try have hfz50_1 := blk_frozen BK316.out 1
      try have hfz50_2 := blk_frozen BK316.out 2
      try have hfz50_3 := blk_frozen BK316.out 3
      repeat (go_quiet (first | (go_at_call 64; (with_reducible refine (impl_RangeHas.calls a0_0 a0_1 a1_1 true _ A39.out).mono ?_); rintro e w47 ⟨rfl, hb⟩; have n0_ := am (blk_below (g := gb314) (o := b2 a0_0 a0_1 86) (Z BK314) hb); have n1_ := am (blk_below (g := gb315) (o := b2 a1_0 a1_1 90) (Z BK315) hb); have n2_ := am (blk_below (g := gb316) (o := b4 0 0 0 0 25) (Z BK316) hb); have n3_ := am (below_step (Y3 HB GE314 GE315 GE316) hb); clear BK314; clear BK315; clear BK316; clear HB; have BK314 := n0_; have BK315 := n1_; have BK316 := n2_; have HB := n3_; clear n0_ n1_ n2_ n3_; (try clear hb); (try clear hb2); (try clear hk); (try clear hi); (try (have hcz48_0 : w47.cell? ⟨gb315, 0, none⟩ = some (.int .i64 a1_0) := bc BK315 0; have hcz48_1 : w47.cell? ⟨gb315, 1, none⟩ = some (.int .i64 a1_1) := bc BK315 1; have hfz48_0 := blk_frozen BK315.out 0; have hfz48_1 := blk_frozen BK315.out 1))) | (go_at_call 131; (with_reducible refine (impl_valOne.calls a1_1 t325 t326 t327 t328 _ A41.out).mono ?_); rintro e w49 ⟨rfl, hb⟩; have n0_ := am (blk_below (g := gb314) (o := b2 a0_0 a0_1 86) (Z BK314) hb); have n1_ := am (blk_below (g := gb315) (o := b2 a1_0 a1_1 90) (Z BK315) hb); have n2_ := am (blk_below (g := gb316) (o := b4 0 0 0 0 25) (Z BK316) hb); have n3_ := am (below_step (Y3 HB GE314 GE315 GE316) hb); clear BK314; clear BK315; clear BK316; clear HB; have BK314 := n0_; have BK315 := n1_; have BK316 := n2_; have HB := n3_; clear n0_ n1_ n2_ n3_; (try clear hb); (try clear hb2); (try clear hk); (try clear hi); (try (have hcz50_0 : w49.cell? ⟨gb316, 0, none⟩ = some (.int .i64 0) := bc BK316 0; have hcz50_1 : w49.cell? ⟨gb316, 1, none⟩ = some (.int .i64 0) := bc BK316 1; have hcz50_2 : w49.cell? ⟨gb316, 2, none⟩ = some (.int .i64 0) := bc BK316 2; have hcz50_3 : w49.cell? ⟨gb316, 3, none⟩ = some (.int .i64 0) := bc BK316 3; have hfz50_0 := blk_frozen BK316.out 0; have hfz50_1 := blk_frozen BK316.out 1; have hfz50_2 := blk_frozen BK316.out 2; have hfz50_3 := blk_frozen BK316.out 3)))); try go_wp2_with (first | (go_at_call 64; (with_reducible refine (impl_RangeHas.calls a0_0 a0_1 a1_1 true _ A39.out).mono ?_); rintro e w47 ⟨rfl, hb⟩; have n0_ := am (blk_below (g := gb314) (o := b2 a0_0 a0_1 86) (Z BK314) hb); have n1_ := am (blk_below (g := gb315) (o := b2 a1_0 a1_1 90) (Z BK315) hb); have n2_ := am (blk_below (g := gb316) (o := b4 0 0 0 0 25) (Z BK316) hb); have n3_ := am (below_step (Y3 HB GE314 GE315 GE316) hb); clear BK314; clear BK315; clear BK316; clear HB; have BK314 := n0_; have BK315 := n1_; have BK316 := n2_; have HB := n3_; clear n0_ n1_ n2_ n3_; (try clear hb); (try clear hb2); (try clear hk); (try clear hi); (try (have hcz48_0 : w47.cell? ⟨gb315, 0, none⟩ = some (.int .i64 a1_0) := bc BK315 0; have hcz48_1 : w47.cell? ⟨gb315, 1, none⟩ = some (.int .i64 a1_1) := bc BK315 1; have hfz48_0 := blk_frozen BK315.out 0; have hfz48_1 := blk_frozen BK315.out 1))) | (go_at_call 131; (with_reducible refine (impl_valOne.calls a1_1 t325 t326 t327 t328 _ A41.out).mono ?_); rintro e w49 ⟨rfl, hb⟩; have n0_ := am (blk_below (g := gb314) (o := b2 a0_0 a0_1 86) (Z BK314) hb); have n1_ := am (blk_below (g := gb315) (o := b2 a1_0 a1_1 90) (Z BK315) hb); have n2_ := am (blk_below (g := gb316) (o := b4 0 0 0 0 25) (Z BK316) hb); have n3_ := am (below_step (Y3 HB GE314 GE315 GE316) hb); clear BK314; clear BK315; clear BK316; clear HB; have BK314 := n0_; have BK315 := n1_; have BK316 := n2_; have HB := n3_; clear n0_ n1_ n2_ n3_; (try clear hb); (try clear hb2); (try clear hk); (try clear hi); (try (have hcz50_0 : w49.cell? ⟨gb316, 0, none⟩ = some (.int .i64 0) := bc BK316 0; have hcz50_1 : w49.cell? ⟨gb316, 1, none⟩ = some (.int .i64 0) := bc BK316 1; have hcz50_2 : w49.cell? ⟨gb316, 2, none⟩ = some (.int .i64 0) := bc BK316 2; have hcz50_3 : w49.cell? ⟨gb316, 3, none⟩ = some (.int .i64 0) := bc BK316 3; have hfz50_0 := blk_frozen BK316.out 0; have hfz50_1 := blk_frozen BK316.out 1; have hfz50_2 := blk_frozen BK316.out 2; have hfz50_3 := blk_frozen BK316.out 3)))))
      refine bodyPost_ret (results_cell_row rfl _ _ gb316 25 #[.int .i64 t325, .int .i64 t326, .int .i64 t327, .int .i64 t328] (0, 0) _ rfl (by (with_reducible repeat (first | refine blk_drewN ?_ _ | refine blk_drew ?_ | refine blk_alloc ?_ _)); refine blk_put (cs := #[.int .i64 t325, .int .i64 t326, .int .i64 t327, .int .i64 0]) ?_ 3 _ rfl; (with_reducible repeat (first | refine blk_drewN ?_ _ | refine blk_drew ?_ | refine blk_alloc ?_ _)); refine blk_put (cs := #[.int .i64 t325, .int .i64 t326, .int .i64 0, .int .i64 0]) ?_ 2 _ rfl; (with_reducible repeat (first | refine blk_drewN ?_ _ | refine blk_drew ?_ | refine blk_alloc ?_ _)); refine blk_put (cs := #[.int .i64 t325, .int .i64 0, .int .i64 0, .int .i64 0]) ?_ 1 _ rfl; (with_reducible repeat (first | refine blk_drewN ?_ _ | refine blk_drew ?_ | refine blk_alloc ?_ _)); refine blk_put (cs := #[.int .i64 0, .int .i64 0, .int .i64 0, .int .i64 0]) ?_ 0 _ rfl; (with_reducible repeat (first | refine blk_drewN ?_ _ | refine blk_drew ?_ | refine blk_alloc ?_ _)); exact BK316.out) Try.underlying25 rfl (by kernel_rfl)) rfl ?_
      exact ⟨by first | rfl | (simp [errW_none, errW_some] <;> rfl) | (simp [*, errW_none, errW_some] <;> rfl), Y3 HB GE314 GE315 GE316⟩
     ·replace c40 := Bool.eq_false_iff.mpr c40
      subst c40
      have H1 : ((impl_valNone.f).bind fun bt329 => (some (bt329.1, bt329.2.1, bt329.2.2.1, bt329.2.2.2))) = some (r1, r2, r3, r4) := by rw [if_neg (show ¬ (false = true) by decide)] at H; exact H
      clear H
      have H := H1
      clear H1
      replace H := Option.bind_eq_some_iff.mp H
      obtain ⟨⟨t329, t330, t331, t332⟩, A510, H⟩ := H
      replace H : (some (t329, t330, t331, t332)) = some (r1, r2, r3, r4) := H
      have A51 := am A510
      clear A510
      simp only [Option.some.injEq, Prod.mk.injEq] at H
      obtain ⟨rfl, rfl, rfl, rfl⟩ := H
      have hnb52 := NB315_314.out
      have hnc52 := NB314_315.out
      have hnb53 := NB315_316.out
      have hnc53 := NB316_315.out
      have hcz54_0 : wc.cell? ⟨gb315, 0, none⟩ = some (.int .i64 a1_0) := bc BK315 0
      have hcz54_1 : wc.cell? ⟨gb315, 1, none⟩ = some (.int .i64 a1_1) := bc BK315 1
      have hfz54_0 := blk_frozen BK315.out 0
      have hfz54_1 := blk_frozen BK315.out 1
      have hnb55 := NB314_316.out
      have hnc55 := NB316_314.out
      have hcz56_0 : wc.cell? ⟨gb314, 0, none⟩ = some (.int .i64 a0_0) := bc BK314 0
      have hcz56_1 : wc.cell? ⟨gb314, 1, none⟩ = some (.int .i64 a0_1) := bc BK314 1
      have hfz56_0 := blk_frozen BK314.out 0
      have hfz56_1 := blk_frozen BK314.out 1
      go_wp2_with (first | (go_at_call 64; (with_reducible refine (impl_RangeHas.calls a0_0 a0_1 a1_1 false _ A39.out).mono ?_); rintro e w57 ⟨rfl, hb⟩; have n0_ := am (blk_below (g := gb314) (o := b2 a0_0 a0_1 86) (Z BK314) hb); have n1_ := am (blk_below (g := gb315) (o := b2 a1_0 a1_1 90) (Z BK315) hb); have n2_ := am (blk_below (g := gb316) (o := b4 0 0 0 0 25) (Z BK316) hb); have n3_ := am (below_step (Y3 HB GE314 GE315 GE316) hb); clear BK314; clear BK315; clear BK316; clear HB; have BK314 := n0_; have BK315 := n1_; have BK316 := n2_; have HB := n3_; clear n0_ n1_ n2_ n3_; (try clear hb); (try clear hb2); (try clear hk); (try clear hi)) | (go_at_call 76; (with_reducible refine (impl_valNone.calls  t329 t330 t331 t332 _ A51.out).mono ?_); rintro e w58 ⟨rfl, hb⟩; have n0_ := am (blk_below (g := gb314) (o := b2 a0_0 a0_1 86) (Z BK314) hb); have n1_ := am (blk_below (g := gb315) (o := b2 a1_0 a1_1 90) (Z BK315) hb); have n2_ := am (blk_below (g := gb316) (o := b4 0 0 0 0 25) (Z BK316) hb); have n3_ := am (below_step (Y3 HB GE314 GE315 GE316) hb); clear BK314; clear BK315; clear BK316; clear HB; have BK314 := n0_; have BK315 := n1_; have BK316 := n2_; have HB := n3_; clear n0_ n1_ n2_ n3_; (try clear hb); (try clear hb2); (try clear hk); (try clear hi); have hcz59_0 : w58.cell? ⟨gb316, 0, none⟩ = some (.int .i64 0) := bc BK316 0; have hcz59_1 : w58.cell? ⟨gb316, 1, none⟩ = some (.int .i64 0) := bc BK316 1; have hcz59_2 : w58.cell? ⟨gb316, 2, none⟩ = some (.int .i64 0) := bc BK316 2; have hcz59_3 : w58.cell? ⟨gb316, 3, none⟩ = some (.int .i64 0) := bc BK316 3; have hfz59_0 := blk_frozen BK316.out 0; have hfz59_1 := blk_frozen BK316.out 1; have hfz59_2 := blk_frozen BK316.out 2; have hfz59_3 := blk_frozen BK316.out 3))
      try have hcz59_0 : w58.cell? ⟨gb316, 0, none⟩ = some (.int .i64 0) := bc BK316 0
      try have hcz59_1 : w58.cell? ⟨gb316, 1, none⟩ = some (.int .i64 0) := bc BK316 1
      try have hcz59_2 : w58.cell? ⟨gb316, 2, none⟩ = some (.int .i64 0) := bc BK316 2
      try have hcz59_3 : w58.cell? ⟨gb316, 3, none⟩ = some (.int .i64 0) := bc BK316 3
      try have hfz59_0 := blk_frozen BK316.out 0
      try have hfz59_1 := blk_frozen BK316.out 1
      try have hfz59_2 := blk_frozen BK316.out 2
      try have hfz59_3 := blk_frozen BK316.out 3
      repeat (go_quiet (first | (go_at_call 64; (with_reducible refine (impl_RangeHas.calls a0_0 a0_1 a1_1 false _ A39.out).mono ?_); rintro e w57 ⟨rfl, hb⟩; have n0_ := am (blk_below (g := gb314) (o := b2 a0_0 a0_1 86) (Z BK314) hb); have n1_ := am (blk_below (g := gb315) (o := b2 a1_0 a1_1 90) (Z BK315) hb); have n2_ := am (blk_below (g := gb316) (o := b4 0 0 0 0 25) (Z BK316) hb); have n3_ := am (below_step (Y3 HB GE314 GE315 GE316) hb); clear BK314; clear BK315; clear BK316; clear HB; have BK314 := n0_; have BK315 := n1_; have BK316 := n2_; have HB := n3_; clear n0_ n1_ n2_ n3_; (try clear hb); (try clear hb2); (try clear hk); (try clear hi)) | (go_at_call 76; (with_reducible refine (impl_valNone.calls  t329 t330 t331 t332 _ A51.out).mono ?_); rintro e w58 ⟨rfl, hb⟩; have n0_ := am (blk_below (g := gb314) (o := b2 a0_0 a0_1 86) (Z BK314) hb); have n1_ := am (blk_below (g := gb315) (o := b2 a1_0 a1_1 90) (Z BK315) hb); have n2_ := am (blk_below (g := gb316) (o := b4 0 0 0 0 25) (Z BK316) hb); have n3_ := am (below_step (Y3 HB GE314 GE315 GE316) hb); clear BK314; clear BK315; clear BK316; clear HB; have BK314 := n0_; have BK315 := n1_; have BK316 := n2_; have HB := n3_; clear n0_ n1_ n2_ n3_; (try clear hb); (try clear hb2); (try clear hk); (try clear hi); (try (have hcz59_0 : w58.cell? ⟨gb316, 0, none⟩ = some (.int .i64 0) := bc BK316 0; have hcz59_1 : w58.cell? ⟨gb316, 1, none⟩ = some (.int .i64 0) := bc BK316 1; have hcz59_2 : w58.cell? ⟨gb316, 2, none⟩ = some (.int .i64 0) := bc BK316 2; have hcz59_3 : w58.cell? ⟨gb316, 3, none⟩ = some (.int .i64 0) := bc BK316 3; have hfz59_0 := blk_frozen BK316.out 0; have hfz59_1 := blk_frozen BK316.out 1; have hfz59_2 := blk_frozen BK316.out 2; have hfz59_3 := blk_frozen BK316.out 3)))); try go_wp2_with (first | (go_at_call 64; (with_reducible refine (impl_RangeHas.calls a0_0 a0_1 a1_1 false _ A39.out).mono ?_); rintro e w57 ⟨rfl, hb⟩; have n0_ := am (blk_below (g := gb314) (o := b2 a0_0 a0_1 86) (Z BK314) hb); have n1_ := am (blk_below (g := gb315) (o := b2 a1_0 a1_1 90) (Z BK315) hb); have n2_ := am (blk_below (g := gb316) (o := b4 0 0 0 0 25) (Z BK316) hb); have n3_ := am (below_step (Y3 HB GE314 GE315 GE316) hb); clear BK314; clear BK315; clear BK316; clear HB; have BK314 := n0_; have BK315 := n1_; have BK316 := n2_; have HB := n3_; clear n0_ n1_ n2_ n3_; (try clear hb); (try clear hb2); (try clear hk); (try clear hi)) | (go_at_call 76; (with_reducible refine (impl_valNone.calls  t329 t330 t331 t332 _ A51.out).mono ?_); rintro e w58 ⟨rfl, hb⟩; have n0_ := am (blk_below (g := gb314) (o := b2 a0_0 a0_1 86) (Z BK314) hb); have n1_ := am (blk_below (g := gb315) (o := b2 a1_0 a1_1 90) (Z BK315) hb); have n2_ := am (blk_below (g := gb316) (o := b4 0 0 0 0 25) (Z BK316) hb); have n3_ := am (below_step (Y3 HB GE314 GE315 GE316) hb); clear BK314; clear BK315; clear BK316; clear HB; have BK314 := n0_; have BK315 := n1_; have BK316 := n2_; have HB := n3_; clear n0_ n1_ n2_ n3_; (try clear hb); (try clear hb2); (try clear hk); (try clear hi); (try (have hcz59_0 : w58.cell? ⟨gb316, 0, none⟩ = some (.int .i64 0) := bc BK316 0; have hcz59_1 : w58.cell? ⟨gb316, 1, none⟩ = some (.int .i64 0) := bc BK316 1; have hcz59_2 : w58.cell? ⟨gb316, 2, none⟩ = some (.int .i64 0) := bc BK316 2; have hcz59_3 : w58.cell? ⟨gb316, 3, none⟩ = some (.int .i64 0) := bc BK316 3; have hfz59_0 := blk_frozen BK316.out 0; have hfz59_1 := blk_frozen BK316.out 1; have hfz59_2 := blk_frozen BK316.out 2; have hfz59_3 := blk_frozen BK316.out 3)))))
      refine bodyPost_ret (results_cell_row rfl _ _ gb316 25 #[.int .i64 t329, .int .i64 t330, .int .i64 t331, .int .i64 t332] (0, 0) _ rfl (by (with_reducible repeat (first | refine blk_drewN ?_ _ | refine blk_drew ?_ | refine blk_alloc ?_ _)); refine blk_put (cs := #[.int .i64 t329, .int .i64 t330, .int .i64 t331, .int .i64 0]) ?_ 3 _ rfl; (with_reducible repeat (first | refine blk_drewN ?_ _ | refine blk_drew ?_ | refine blk_alloc ?_ _)); refine blk_put (cs := #[.int .i64 t329, .int .i64 t330, .int .i64 0, .int .i64 0]) ?_ 2 _ rfl; (with_reducible repeat (first | refine blk_drewN ?_ _ | refine blk_drew ?_ | refine blk_alloc ?_ _)); refine blk_put (cs := #[.int .i64 t329, .int .i64 0, .int .i64 0, .int .i64 0]) ?_ 1 _ rfl; (with_reducible repeat (first | refine blk_drewN ?_ _ | refine blk_drew ?_ | refine blk_alloc ?_ _)); refine blk_put (cs := #[.int .i64 0, .int .i64 0, .int .i64 0, .int .i64 0]) ?_ 0 _ rfl; (with_reducible repeat (first | refine blk_drewN ?_ _ | refine blk_drew ?_ | refine blk_alloc ?_ _)); exact BK316.out) Try.underlying25 rfl (by kernel_rfl)) rfl ?_
      exact ⟨by first | rfl | (simp [errW_none, errW_some] <;> rfl) | (simp [*, errW_none, errW_some] <;> rfl), Y3 HB GE314 GE315 GE316⟩
    ·rw [if_neg c38] at H
     have c38b0 : (a1_0 == 0) = false := beq_eq_false_iff_ne.mpr c38
     have c38b1 : (a1_0 != 0) = true := bne_iff_ne.mpr c38
     replace H := Option.bind_eq_some_iff.mp H
     obtain ⟨t333, A600, H⟩ := H
     replace H : ((impl_restMod.f (wrap64 (a0_1 - a1_1)) a1_0).bind fun t334 => (if (wrap64 (a0_0 + t333)) > (wrap64 (a0_1 - t334)) then ((impl_valNone.f).bind fun bt335 => (some (bt335.1, bt335.2.1, bt335.2.2.1, bt335.2.2.2))) else (if (wrap64 (a0_0 + t333)) = (wrap64 (a0_1 - t334)) then ((impl_valOne.f (wrap64 (a0_0 + t333))).bind fun bt339 => (some (bt339.1, bt339.2.1, bt339.2.2.1, bt339.2.2.2))) else (some (wrap64 (a0_0 + t333), wrap64 (a0_1 - t334), a1_0, a1_1))))) = some (r1, r2, r3, r4) := H
     have A60 := am A600
     clear A600
     replace H := Option.bind_eq_some_iff.mp H
     obtain ⟨t334, A610, H⟩ := H
     replace H : (if (wrap64 (a0_0 + t333)) > (wrap64 (a0_1 - t334)) then ((impl_valNone.f).bind fun bt335 => (some (bt335.1, bt335.2.1, bt335.2.2.1, bt335.2.2.2))) else (if (wrap64 (a0_0 + t333)) = (wrap64 (a0_1 - t334)) then ((impl_valOne.f (wrap64 (a0_0 + t333))).bind fun bt339 => (some (bt339.1, bt339.2.1, bt339.2.2.1, bt339.2.2.2))) else (some (wrap64 (a0_0 + t333), wrap64 (a0_1 - t334), a1_0, a1_1)))) = some (r1, r2, r3, r4) := H
     have A61 := am A610
     clear A610
     by_cases c62 : (wrap64 (a0_0 + t333)) > (wrap64 (a0_1 - t334))
     ·rw [if_pos c62] at H
      have c62b0 : decide ((wrap64 (a0_1 - t334)) < (wrap64 (a0_0 + t333))) = true := decide_eq_true c62
      clear c62
      replace H := Option.bind_eq_some_iff.mp H
      obtain ⟨⟨t335, t336, t337, t338⟩, A630, H⟩ := H
      replace H : (some (t335, t336, t337, t338)) = some (r1, r2, r3, r4) := H
      have A63 := am A630
      clear A630
      simp only [Option.some.injEq, Prod.mk.injEq] at H
      obtain ⟨rfl, rfl, rfl, rfl⟩ := H
      have hnb64 := NB315_314.out
      have hnc64 := NB314_315.out
      have hnb65 := NB315_316.out
      have hnc65 := NB316_315.out
      have hcz66_0 : wc.cell? ⟨gb315, 0, none⟩ = some (.int .i64 a1_0) := bc BK315 0
      have hcz66_1 : wc.cell? ⟨gb315, 1, none⟩ = some (.int .i64 a1_1) := bc BK315 1
      have hfz66_0 := blk_frozen BK315.out 0
      have hfz66_1 := blk_frozen BK315.out 1
      have hnb67 := NB314_316.out
      have hnc67 := NB316_314.out
      have hcz68_0 : wc.cell? ⟨gb314, 0, none⟩ = some (.int .i64 a0_0) := bc BK314 0
      have hcz68_1 : wc.cell? ⟨gb314, 1, none⟩ = some (.int .i64 a0_1) := bc BK314 1
      have hfz68_0 := blk_frozen BK314.out 0
      have hfz68_1 := blk_frozen BK314.out 1
      go_wp2_with (first | (go_at_call 122; (with_reducible refine (impl_restMod.calls (wrap64 (a1_1 - a0_0)) a1_0 t333 _ A60.out).mono ?_); rintro e w' ⟨rfl, ⟨nd, rfl⟩⟩; (try first | exact ⟨rfl, _, World.drewN_drewN _ _ _⟩ | exact ⟨rfl, _, Eq.trans (World.drewN_drewN _ _ _) (congrArg (World.drewN _) (Nat.add_assoc _ _ _))⟩)) | (go_at_call 122; (with_reducible refine (impl_restMod.calls (wrap64 (a0_1 - a1_1)) a1_0 t334 _ A61.out).mono ?_); rintro e w' ⟨rfl, ⟨nd, rfl⟩⟩; (try first | exact ⟨rfl, _, World.drewN_drewN _ _ _⟩ | exact ⟨rfl, _, Eq.trans (World.drewN_drewN _ _ _) (congrArg (World.drewN _) (Nat.add_assoc _ _ _))⟩)) | (go_at_call 76; (with_reducible refine (impl_valNone.calls  t335 t336 t337 t338 _ A63.out).mono ?_); rintro e w69 ⟨rfl, hb⟩; have n0_ := am (blk_below (g := gb314) (o := b2 a0_0 a0_1 86) (Z BK314) hb); have n1_ := am (blk_below (g := gb315) (o := b2 a1_0 a1_1 90) (Z BK315) hb); have n2_ := am (blk_below (g := gb316) (o := b4 0 0 0 0 25) (Z BK316) hb); have n3_ := am (below_step (Y3 HB GE314 GE315 GE316) hb); clear BK314; clear BK315; clear BK316; clear HB; have BK314 := n0_; have BK315 := n1_; have BK316 := n2_; have HB := n3_; clear n0_ n1_ n2_ n3_; (try clear hb); (try clear hb2); (try clear hk); (try clear hi); have hcz70_0 : w69.cell? ⟨gb316, 0, none⟩ = some (.int .i64 0) := bc BK316 0; have hcz70_1 : w69.cell? ⟨gb316, 1, none⟩ = some (.int .i64 0) := bc BK316 1; have hcz70_2 : w69.cell? ⟨gb316, 2, none⟩ = some (.int .i64 0) := bc BK316 2; have hcz70_3 : w69.cell? ⟨gb316, 3, none⟩ = some (.int .i64 0) := bc BK316 3; have hfz70_0 := blk_frozen BK316.out 0; have hfz70_1 := blk_frozen BK316.out 1; have hfz70_2 := blk_frozen BK316.out 2; have hfz70_3 := blk_frozen BK316.out 3))
      try have hcz70_0 : w69.cell? ⟨gb316, 0, none⟩ = some (.int .i64 0) := bc BK316 0
      try have hcz70_1 : w69.cell? ⟨gb316, 1, none⟩ = some (.int .i64 0) := bc BK316 1
      try have hcz70_2 : w69.cell? ⟨gb316, 2, none⟩ = some (.int .i64 0) := bc BK316 2
      try have hcz70_3 : w69.cell? ⟨gb316, 3, none⟩ = some (.int .i64 0) := bc BK316 3
      try have hfz70_0 := blk_frozen BK316.out 0
      try have hfz70_1 := blk_frozen BK316.out 1
      try have hfz70_2 := blk_frozen BK316.out 2
      try have hfz70_3 := blk_frozen BK316.out 3
      repeat (go_quiet (first | (go_at_call 122; (with_reducible refine (impl_restMod.calls (wrap64 (a1_1 - a0_0)) a1_0 t333 _ A60.out).mono ?_); rintro e w' ⟨rfl, ⟨nd, rfl⟩⟩; (try first | exact ⟨rfl, _, World.drewN_drewN _ _ _⟩ | exact ⟨rfl, _, Eq.trans (World.drewN_drewN _ _ _) (congrArg (World.drewN _) (Nat.add_assoc _ _ _))⟩)) | (go_at_call 122; (with_reducible refine (impl_restMod.calls (wrap64 (a0_1 - a1_1)) a1_0 t334 _ A61.out).mono ?_); rintro e w' ⟨rfl, ⟨nd, rfl⟩⟩; (try first | exact ⟨rfl, _, World.drewN_drewN _ _ _⟩ | exact ⟨rfl, _, Eq.trans (World.drewN_drewN _ _ _) (congrArg (World.drewN _) (Nat.add_assoc _ _ _))⟩)) | (go_at_call 76; (with_reducible refine (impl_valNone.calls  t335 t336 t337 t338 _ A63.out).mono ?_); rintro e w69 ⟨rfl, hb⟩; have n0_ := am (blk_below (g := gb314) (o := b2 a0_0 a0_1 86) (Z BK314) hb); have n1_ := am (blk_below (g := gb315) (o := b2 a1_0 a1_1 90) (Z BK315) hb); have n2_ := am (blk_below (g := gb316) (o := b4 0 0 0 0 25) (Z BK316) hb); have n3_ := am (below_step (Y3 HB GE314 GE315 GE316) hb); clear BK314; clear BK315; clear BK316; clear HB; have BK314 := n0_; have BK315 := n1_; have BK316 := n2_; have HB := n3_; clear n0_ n1_ n2_ n3_; (try clear hb); (try clear hb2); (try clear hk); (try clear hi); (try (have hcz70_0 : w69.cell? ⟨gb316, 0, none⟩ = some (.int .i64 0) := bc BK316 0; have hcz70_1 : w69.cell? ⟨gb316, 1, none⟩ = some (.int .i64 0) := bc BK316 1; have hcz70_2 : w69.cell? ⟨gb316, 2, none⟩ = some (.int .i64 0) := bc BK316 2; have hcz70_3 : w69.cell? ⟨gb316, 3, none⟩ = some (.int .i64 0) := bc BK316 3; have hfz70_0 := blk_frozen BK316.out 0; have hfz70_1 := blk_frozen BK316.out 1; have hfz70_2 := blk_frozen BK316.out 2; have hfz70_3 := blk_frozen BK316.out 3)))); try go_wp2_with (first | (go_at_call 122; (with_reducible refine (impl_restMod.calls (wrap64 (a1_1 - a0_0)) a1_0 t333 _ A60.out).mono ?_); rintro e w' ⟨rfl, ⟨nd, rfl⟩⟩; (try first | exact ⟨rfl, _, World.drewN_drewN _ _ _⟩ | exact ⟨rfl, _, Eq.trans (World.drewN_drewN _ _ _) (congrArg (World.drewN _) (Nat.add_assoc _ _ _))⟩)) | (go_at_call 122; (with_reducible refine (impl_restMod.calls (wrap64 (a0_1 - a1_1)) a1_0 t334 _ A61.out).mono ?_); rintro e w' ⟨rfl, ⟨nd, rfl⟩⟩; (try first | exact ⟨rfl, _, World.drewN_drewN _ _ _⟩ | exact ⟨rfl, _, Eq.trans (World.drewN_drewN _ _ _) (congrArg (World.drewN _) (Nat.add_assoc _ _ _))⟩)) | (go_at_call 76; (with_reducible refine (impl_valNone.calls  t335 t336 t337 t338 _ A63.out).mono ?_); rintro e w69 ⟨rfl, hb⟩; have n0_ := am (blk_below (g := gb314) (o := b2 a0_0 a0_1 86) (Z BK314) hb); have n1_ := am (blk_below (g := gb315) (o := b2 a1_0 a1_1 90) (Z BK315) hb); have n2_ := am (blk_below (g := gb316) (o := b4 0 0 0 0 25) (Z BK316) hb); have n3_ := am (below_step (Y3 HB GE314 GE315 GE316) hb); clear BK314; clear BK315; clear BK316; clear HB; have BK314 := n0_; have BK315 := n1_; have BK316 := n2_; have HB := n3_; clear n0_ n1_ n2_ n3_; (try clear hb); (try clear hb2); (try clear hk); (try clear hi); (try (have hcz70_0 : w69.cell? ⟨gb316, 0, none⟩ = some (.int .i64 0) := bc BK316 0; have hcz70_1 : w69.cell? ⟨gb316, 1, none⟩ = some (.int .i64 0) := bc BK316 1; have hcz70_2 : w69.cell? ⟨gb316, 2, none⟩ = some (.int .i64 0) := bc BK316 2; have hcz70_3 : w69.cell? ⟨gb316, 3, none⟩ = some (.int .i64 0) := bc BK316 3; have hfz70_0 := blk_frozen BK316.out 0; have hfz70_1 := blk_frozen BK316.out 1; have hfz70_2 := blk_frozen BK316.out 2; have hfz70_3 := blk_frozen BK316.out 3)))))
      refine bodyPost_ret (results_cell_row rfl _ _ gb316 25 #[.int .i64 t335, .int .i64 t336, .int .i64 t337, .int .i64 t338] (0, 0) _ rfl (by (with_reducible repeat (first | refine blk_drewN ?_ _ | refine blk_drew ?_ | refine blk_alloc ?_ _)); refine blk_put (cs := #[.int .i64 t335, .int .i64 t336, .int .i64 t337, .int .i64 0]) ?_ 3 _ rfl; (with_reducible repeat (first | refine blk_drewN ?_ _ | refine blk_drew ?_ | refine blk_alloc ?_ _)); refine blk_put (cs := #[.int .i64 t335, .int .i64 t336, .int .i64 0, .int .i64 0]) ?_ 2 _ rfl; (with_reducible repeat (first | refine blk_drewN ?_ _ | refine blk_drew ?_ | refine blk_alloc ?_ _)); refine blk_put (cs := #[.int .i64 t335, .int .i64 0, .int .i64 0, .int .i64 0]) ?_ 1 _ rfl; (with_reducible repeat (first | refine blk_drewN ?_ _ | refine blk_drew ?_ | refine blk_alloc ?_ _)); refine blk_put (cs := #[.int .i64 0, .int .i64 0, .int .i64 0, .int .i64 0]) ?_ 0 _ rfl; (with_reducible repeat (first | refine blk_drewN ?_ _ | refine blk_drew ?_ | refine blk_alloc ?_ _)); exact BK316.out) Try.underlying25 rfl (by kernel_rfl)) rfl ?_
      exact ⟨by first | rfl | (simp [errW_none, errW_some] <;> rfl) | (simp [*, errW_none, errW_some] <;> rfl), Y3 HB GE314 GE315 GE316⟩
     ·rw [if_neg c62] at H
      have c62b0 : decide ((wrap64 (a0_1 - t334)) < (wrap64 (a0_0 + t333))) = false := decide_eq_false c62
      clear c62
      by_cases c71 : (wrap64 (a0_0 + t333)) = (wrap64 (a0_1 - t334))
      ·rw [if_pos c71] at H
       have c71b0 : ((wrap64 (a0_0 + t333)) == (wrap64 (a0_1 - t334))) = true := beq_iff_eq.mpr c71
       have c71b1 : ((wrap64 (a0_0 + t333)) != (wrap64 (a0_1 - t334))) = false := bne_eq_false_iff_eq.mpr c71
       clear c71
       replace H := Option.bind_eq_some_iff.mp H
       obtain ⟨⟨t339, t340, t341, t342⟩, A720, H⟩ := H
       replace H : (some (t339, t340, t341, t342)) = some (r1, r2, r3, r4) := H
       have A72 := am A720
       clear A720
       simp only [Option.some.injEq, Prod.mk.injEq] at H
       obtain ⟨rfl, rfl, rfl, rfl⟩ := H
       have hnb73 := NB315_314.out
       have hnc73 := NB314_315.out
       have hnb74 := NB315_316.out
       have hnc74 := NB316_315.out
       have hcz75_0 : wc.cell? ⟨gb315, 0, none⟩ = some (.int .i64 a1_0) := bc BK315 0
       have hcz75_1 : wc.cell? ⟨gb315, 1, none⟩ = some (.int .i64 a1_1) := bc BK315 1
       have hfz75_0 := blk_frozen BK315.out 0
       have hfz75_1 := blk_frozen BK315.out 1
       have hnb76 := NB314_316.out
       have hnc76 := NB316_314.out
       have hcz77_0 : wc.cell? ⟨gb314, 0, none⟩ = some (.int .i64 a0_0) := bc BK314 0
       have hcz77_1 : wc.cell? ⟨gb314, 1, none⟩ = some (.int .i64 a0_1) := bc BK314 1
       have hfz77_0 := blk_frozen BK314.out 0
       have hfz77_1 := blk_frozen BK314.out 1
       go_wp2_with (first | (go_at_call 122; (with_reducible refine (impl_restMod.calls (wrap64 (a1_1 - a0_0)) a1_0 t333 _ A60.out).mono ?_); rintro e w' ⟨rfl, ⟨nd, rfl⟩⟩; (try first | exact ⟨rfl, _, World.drewN_drewN _ _ _⟩ | exact ⟨rfl, _, Eq.trans (World.drewN_drewN _ _ _) (congrArg (World.drewN _) (Nat.add_assoc _ _ _))⟩)) | (go_at_call 122; (with_reducible refine (impl_restMod.calls (wrap64 (a0_1 - a1_1)) a1_0 t334 _ A61.out).mono ?_); rintro e w' ⟨rfl, ⟨nd, rfl⟩⟩; (try first | exact ⟨rfl, _, World.drewN_drewN _ _ _⟩ | exact ⟨rfl, _, Eq.trans (World.drewN_drewN _ _ _) (congrArg (World.drewN _) (Nat.add_assoc _ _ _))⟩)) | (go_at_call 131; (with_reducible refine (impl_valOne.calls (wrap64 (a0_0 + t333)) t339 t340 t341 t342 _ A72.out).mono ?_); rintro e w78 ⟨rfl, hb⟩; have n0_ := am (blk_below (g := gb314) (o := b2 a0_0 a0_1 86) (Z BK314) hb); have n1_ := am (blk_below (g := gb315) (o := b2 a1_0 a1_1 90) (Z BK315) hb); have n2_ := am (blk_below (g := gb316) (o := b4 0 0 0 0 25) (Z BK316) hb); have n3_ := am (below_step (Y3 HB GE314 GE315 GE316) hb); clear BK314; clear BK315; clear BK316; clear HB; have BK314 := n0_; have BK315 := n1_; have BK316 := n2_; have HB := n3_; clear n0_ n1_ n2_ n3_; (try clear hb); (try clear hb2); (try clear hk); (try clear hi); have hcz79_0 : w78.cell? ⟨gb316, 0, none⟩ = some (.int .i64 0) := bc BK316 0; have hcz79_1 : w78.cell? ⟨gb316, 1, none⟩ = some (.int .i64 0) := bc BK316 1; have hcz79_2 : w78.cell? ⟨gb316, 2, none⟩ = some (.int .i64 0) := bc BK316 2; have hcz79_3 : w78.cell? ⟨gb316, 3, none⟩ = some (.int .i64 0) := bc BK316 3; have hfz79_0 := blk_frozen BK316.out 0; have hfz79_1 := blk_frozen BK316.out 1; have hfz79_2 := blk_frozen BK316.out 2; have hfz79_3 := blk_frozen BK316.out 3))
       try have hcz79_0 : w78.cell? ⟨gb316, 0, none⟩ = some (.int .i64 0) := bc BK316 0
       try have hcz79_1 : w78.cell? ⟨gb316, 1, none⟩ = some (.int .i64 0) := bc BK316 1
       try have hcz79_2 : w78.cell? ⟨gb316, 2, none⟩ = some (.int .i64 0) := bc BK316 2
       try have hcz79_3 : w78.cell? ⟨gb316, 3, none⟩ = some (.int .i64 0) := bc BK316 3
       try have hfz79_0 := blk_frozen BK316.out 0
       try have hfz79_1 := blk_frozen BK316.out 1
       try have hfz79_2 := blk_frozen BK316.out 2
       try have hfz79_3 := blk_frozen BK316.out 3
       repeat (go_quiet (first | (go_at_call 122; (with_reducible refine (impl_restMod.calls (wrap64 (a1_1 - a0_0)) a1_0 t333 _ A60.out).mono ?_); rintro e w' ⟨rfl, ⟨nd, rfl⟩⟩; (try first | exact ⟨rfl, _, World.drewN_drewN _ _ _⟩ | exact ⟨rfl, _, Eq.trans (World.drewN_drewN _ _ _) (congrArg (World.drewN _) (Nat.add_assoc _ _ _))⟩)) | (go_at_call 122; (with_reducible refine (impl_restMod.calls (wrap64 (a0_1 - a1_1)) a1_0 t334 _ A61.out).mono ?_); rintro e w' ⟨rfl, ⟨nd, rfl⟩⟩; (try first | exact ⟨rfl, _, World.drewN_drewN _ _ _⟩ | exact ⟨rfl, _, Eq.trans (World.drewN_drewN _ _ _) (congrArg (World.drewN _) (Nat.add_assoc _ _ _))⟩)) | (go_at_call 131; (with_reducible refine (impl_valOne.calls (wrap64 (a0_0 + t333)) t339 t340 t341 t342 _ A72.out).mono ?_); rintro e w78 ⟨rfl, hb⟩; have n0_ := am (blk_below (g := gb314) (o := b2 a0_0 a0_1 86) (Z BK314) hb); have n1_ := am (blk_below (g := gb315) (o := b2 a1_0 a1_1 90) (Z BK315) hb); have n2_ := am (blk_below (g := gb316) (o := b4 0 0 0 0 25) (Z BK316) hb); have n3_ := am (below_step (Y3 HB GE314 GE315 GE316) hb); clear BK314; clear BK315; clear BK316; clear HB; have BK314 := n0_; have BK315 := n1_; have BK316 := n2_; have HB := n3_; clear n0_ n1_ n2_ n3_; (try clear hb); (try clear hb2); (try clear hk); (try clear hi); (try (have hcz79_0 : w78.cell? ⟨gb316, 0, none⟩ = some (.int .i64 0) := bc BK316 0; have hcz79_1 : w78.cell? ⟨gb316, 1, none⟩ = some (.int .i64 0) := bc BK316 1; have hcz79_2 : w78.cell? ⟨gb316, 2, none⟩ = some (.int .i64 0) := bc BK316 2; have hcz79_3 : w78.cell? ⟨gb316, 3, none⟩ = some (.int .i64 0) := bc BK316 3; have hfz79_0 := blk_frozen BK316.out 0; have hfz79_1 := blk_frozen BK316.out 1; have hfz79_2 := blk_frozen BK316.out 2; have hfz79_3 := blk_frozen BK316.out 3)))); try go_wp2_with (first | (go_at_call 122; (with_reducible refine (impl_restMod.calls (wrap64 (a1_1 - a0_0)) a1_0 t333 _ A60.out).mono ?_); rintro e w' ⟨rfl, ⟨nd, rfl⟩⟩; (try first | exact ⟨rfl, _, World.drewN_drewN _ _ _⟩ | exact ⟨rfl, _, Eq.trans (World.drewN_drewN _ _ _) (congrArg (World.drewN _) (Nat.add_assoc _ _ _))⟩)) | (go_at_call 122; (with_reducible refine (impl_restMod.calls (wrap64 (a0_1 - a1_1)) a1_0 t334 _ A61.out).mono ?_); rintro e w' ⟨rfl, ⟨nd, rfl⟩⟩; (try first | exact ⟨rfl, _, World.drewN_drewN _ _ _⟩ | exact ⟨rfl, _, Eq.trans (World.drewN_drewN _ _ _) (congrArg (World.drewN _) (Nat.add_assoc _ _ _))⟩)) | (go_at_call 131; (with_reducible refine (impl_valOne.calls (wrap64 (a0_0 + t333)) t339 t340 t341 t342 _ A72.out).mono ?_); rintro e w78 ⟨rfl, hb⟩; have n0_ := am (blk_below (g := gb314) (o := b2 a0_0 a0_1 86) (Z BK314) hb); have n1_ := am (blk_below (g := gb315) (o := b2 a1_0 a1_1 90) (Z BK315) hb); have n2_ := am (blk_below (g := gb316) (o := b4 0 0 0 0 25) (Z BK316) hb); have n3_ := am (below_step (Y3 HB GE314 GE315 GE316) hb); clear BK314; clear BK315; clear BK316; clear HB; have BK314 := n0_; have BK315 := n1_; have BK316 := n2_; have HB := n3_; clear n0_ n1_ n2_ n3_; (try clear hb); (try clear hb2); (try clear hk); (try clear hi); (try (have hcz79_0 : w78.cell? ⟨gb316, 0, none⟩ = some (.int .i64 0) := bc BK316 0; have hcz79_1 : w78.cell? ⟨gb316, 1, none⟩ = some (.int .i64 0) := bc BK316 1; have hcz79_2 : w78.cell? ⟨gb316, 2, none⟩ = some (.int .i64 0) := bc BK316 2; have hcz79_3 : w78.cell? ⟨gb316, 3, none⟩ = some (.int .i64 0) := bc BK316 3; have hfz79_0 := blk_frozen BK316.out 0; have hfz79_1 := blk_frozen BK316.out 1; have hfz79_2 := blk_frozen BK316.out 2; have hfz79_3 := blk_frozen BK316.out 3)))))
       refine bodyPost_ret (results_cell_row rfl _ _ gb316 25 #[.int .i64 t339, .int .i64 t340, .int .i64 t341, .int .i64 t342] (0, 0) _ rfl (by (with_reducible repeat (first | refine blk_drewN ?_ _ | refine blk_drew ?_ | refine blk_alloc ?_ _)); refine blk_put (cs := #[.int .i64 t339, .int .i64 t340, .int .i64 t341, .int .i64 0]) ?_ 3 _ rfl; (with_reducible repeat (first | refine blk_drewN ?_ _ | refine blk_drew ?_ | refine blk_alloc ?_ _)); refine blk_put (cs := #[.int .i64 t339, .int .i64 t340, .int .i64 0, .int .i64 0]) ?_ 2 _ rfl; (with_reducible repeat (first | refine blk_drewN ?_ _ | refine blk_drew ?_ | refine blk_alloc ?_ _)); refine blk_put (cs := #[.int .i64 t339, .int .i64 0, .int .i64 0, .int .i64 0]) ?_ 1 _ rfl; (with_reducible repeat (first | refine blk_drewN ?_ _ | refine blk_drew ?_ | refine blk_alloc ?_ _)); refine blk_put (cs := #[.int .i64 0, .int .i64 0, .int .i64 0, .int .i64 0]) ?_ 0 _ rfl; (with_reducible repeat (first | refine blk_drewN ?_ _ | refine blk_drew ?_ | refine blk_alloc ?_ _)); exact BK316.out) Try.underlying25 rfl (by kernel_rfl)) rfl ?_
       exact ⟨by first | rfl | (simp [errW_none, errW_some] <;> rfl) | (simp [*, errW_none, errW_some] <;> rfl), Y3 HB GE314 GE315 GE316⟩
      ·rw [if_neg c71] at H
       have c71b0 : ((wrap64 (a0_0 + t333)) == (wrap64 (a0_1 - t334))) = false := beq_eq_false_iff_ne.mpr c71
       have c71b1 : ((wrap64 (a0_0 + t333)) != (wrap64 (a0_1 - t334))) = true := bne_iff_ne.mpr c71
       simp only [Option.some.injEq, Prod.mk.injEq] at H
       obtain ⟨rfl, rfl, rfl, rfl⟩ := H
       have hnb80 := NB315_314.out
       have hnc80 := NB314_315.out
       have hnb81 := NB315_316.out
       have hnc81 := NB316_315.out
       have hcz82_0 : wc.cell? ⟨gb315, 0, none⟩ = some (.int .i64 a1_0) := bc BK315 0
       have hcz82_1 : wc.cell? ⟨gb315, 1, none⟩ = some (.int .i64 a1_1) := bc BK315 1
       have hfz82_0 := blk_frozen BK315.out 0
       have hfz82_1 := blk_frozen BK315.out 1
       have hnb83 := NB314_316.out
       have hnc83 := NB316_314.out
       have hcz84_0 : wc.cell? ⟨gb314, 0, none⟩ = some (.int .i64 a0_0) := bc BK314 0
       have hcz84_1 : wc.cell? ⟨gb314, 1, none⟩ = some (.int .i64 a0_1) := bc BK314 1
       have hfz84_0 := blk_frozen BK314.out 0
       have hfz84_1 := blk_frozen BK314.out 1
       go_wp2_with (first | (go_at_call 122; (with_reducible refine (impl_restMod.calls (wrap64 (a1_1 - a0_0)) a1_0 t333 _ A60.out).mono ?_); rintro e w' ⟨rfl, ⟨nd, rfl⟩⟩; (try first | exact ⟨rfl, _, World.drewN_drewN _ _ _⟩ | exact ⟨rfl, _, Eq.trans (World.drewN_drewN _ _ _) (congrArg (World.drewN _) (Nat.add_assoc _ _ _))⟩)) | (go_at_call 122; (with_reducible refine (impl_restMod.calls (wrap64 (a0_1 - a1_1)) a1_0 t334 _ A61.out).mono ?_); rintro e w' ⟨rfl, ⟨nd, rfl⟩⟩; (try first | exact ⟨rfl, _, World.drewN_drewN _ _ _⟩ | exact ⟨rfl, _, Eq.trans (World.drewN_drewN _ _ _) (congrArg (World.drewN _) (Nat.add_assoc _ _ _))⟩); have hcz85_0 : wc.cell? ⟨gb316, 0, none⟩ = some (.int .i64 0) := bc BK316 0; have hcz85_1 : wc.cell? ⟨gb316, 1, none⟩ = some (.int .i64 0) := bc BK316 1; have hcz85_2 : wc.cell? ⟨gb316, 2, none⟩ = some (.int .i64 0) := bc BK316 2; have hcz85_3 : wc.cell? ⟨gb316, 3, none⟩ = some (.int .i64 0) := bc BK316 3; have hfz85_0 := blk_frozen BK316.out 0; have hfz85_1 := blk_frozen BK316.out 1; have hfz85_2 := blk_frozen BK316.out 2; have hfz85_3 := blk_frozen BK316.out 3))
       try have hcz85_0 : wc.cell? ⟨gb316, 0, none⟩ = some (.int .i64 0) := bc BK316 0
       try have hcz85_1 : wc.cell? ⟨gb316, 1, none⟩ = some (.int .i64 0) := bc BK316 1
       try have hcz85_2 : wc.cell? ⟨gb316, 2, none⟩ = some (.int .i64 0) := bc BK316 2
       try have hcz85_3 : wc.cell? ⟨gb316, 3, none⟩ = some (.int .i64 0) := bc BK316 3
       try have hfz85_0 := blk_frozen BK316.out 0
       try have hfz85_1 := blk_frozen BK316.out 1
       try have hfz85_2 := blk_frozen BK316.out 2
       try have hfz85_3 := blk_frozen BK316.out 3
       repeat (go_quiet (first | (go_at_call 122; (with_reducible refine (impl_restMod.calls (wrap64 (a1_1 - a0_0)) a1_0 t333 _ A60.out).mono ?_); rintro e w' ⟨rfl, ⟨nd, rfl⟩⟩; (try first | exact ⟨rfl, _, World.drewN_drewN _ _ _⟩ | exact ⟨rfl, _, Eq.trans (World.drewN_drewN _ _ _) (congrArg (World.drewN _) (Nat.add_assoc _ _ _))⟩)) | (go_at_call 122; (with_reducible refine (impl_restMod.calls (wrap64 (a0_1 - a1_1)) a1_0 t334 _ A61.out).mono ?_); rintro e w' ⟨rfl, ⟨nd, rfl⟩⟩; (try first | exact ⟨rfl, _, World.drewN_drewN _ _ _⟩ | exact ⟨rfl, _, Eq.trans (World.drewN_drewN _ _ _) (congrArg (World.drewN _) (Nat.add_assoc _ _ _))⟩); (try (have hcz85_0 : wc.cell? ⟨gb316, 0, none⟩ = some (.int .i64 0) := bc BK316 0; have hcz85_1 : wc.cell? ⟨gb316, 1, none⟩ = some (.int .i64 0) := bc BK316 1; have hcz85_2 : wc.cell? ⟨gb316, 2, none⟩ = some (.int .i64 0) := bc BK316 2; have hcz85_3 : wc.cell? ⟨gb316, 3, none⟩ = some (.int .i64 0) := bc BK316 3; have hfz85_0 := blk_frozen BK316.out 0; have hfz85_1 := blk_frozen BK316.out 1; have hfz85_2 := blk_frozen BK316.out 2; have hfz85_3 := blk_frozen BK316.out 3)))); try go_wp2_with (first | (go_at_call 122; (with_reducible refine (impl_restMod.calls (wrap64 (a1_1 - a0_0)) a1_0 t333 _ A60.out).mono ?_); rintro e w' ⟨rfl, ⟨nd, rfl⟩⟩; (try first | exact ⟨rfl, _, World.drewN_drewN _ _ _⟩ | exact ⟨rfl, _, Eq.trans (World.drewN_drewN _ _ _) (congrArg (World.drewN _) (Nat.add_assoc _ _ _))⟩)) | (go_at_call 122; (with_reducible refine (impl_restMod.calls (wrap64 (a0_1 - a1_1)) a1_0 t334 _ A61.out).mono ?_); rintro e w' ⟨rfl, ⟨nd, rfl⟩⟩; (try first | exact ⟨rfl, _, World.drewN_drewN _ _ _⟩ | exact ⟨rfl, _, Eq.trans (World.drewN_drewN _ _ _) (congrArg (World.drewN _) (Nat.add_assoc _ _ _))⟩); (try (have hcz85_0 : wc.cell? ⟨gb316, 0, none⟩ = some (.int .i64 0) := bc BK316 0; have hcz85_1 : wc.cell? ⟨gb316, 1, none⟩ = some (.int .i64 0) := bc BK316 1; have hcz85_2 : wc.cell? ⟨gb316, 2, none⟩ = some (.int .i64 0) := bc BK316 2; have hcz85_3 : wc.cell? ⟨gb316, 3, none⟩ = some (.int .i64 0) := bc BK316 3; have hfz85_0 := blk_frozen BK316.out 0; have hfz85_1 := blk_frozen BK316.out 1; have hfz85_2 := blk_frozen BK316.out 2; have hfz85_3 := blk_frozen BK316.out 3)))))
       refine bodyPost_ret (results_cell_row rfl _ _ gb316 25 #[.int .i64 (wrap64 (a0_0 + t333)), .int .i64 (wrap64 (a0_1 - t334)), .int .i64 a1_0, .int .i64 a1_1] (0, 0) _ rfl (by (with_reducible repeat (first | refine blk_drewN ?_ _ | refine blk_drew ?_ | refine blk_alloc ?_ _)); refine blk_put (cs := #[.int .i64 (wrap64 (a0_0 + t333)), .int .i64 (wrap64 (a0_1 - t334)), .int .i64 a1_0, .int .i64 0]) ?_ 3 _ rfl; (with_reducible repeat (first | refine blk_drewN ?_ _ | refine blk_drew ?_ | refine blk_alloc ?_ _)); refine blk_put (cs := #[.int .i64 (wrap64 (a0_0 + t333)), .int .i64 (wrap64 (a0_1 - t334)), .int .i64 0, .int .i64 0]) ?_ 2 _ rfl; (with_reducible repeat (first | refine blk_drewN ?_ _ | refine blk_drew ?_ | refine blk_alloc ?_ _)); refine blk_put (cs := #[.int .i64 (wrap64 (a0_0 + t333)), .int .i64 0, .int .i64 0, .int .i64 0]) ?_ 1 _ rfl; (with_reducible repeat (first | refine blk_drewN ?_ _ | refine blk_drew ?_ | refine blk_alloc ?_ _)); refine blk_put (cs := #[.int .i64 0, .int .i64 0, .int .i64 0, .int .i64 0]) ?_ 0 _ rfl; (with_reducible repeat (first | refine blk_drewN ?_ _ | refine blk_drew ?_ | refine blk_alloc ?_ _)); exact BK316.out) Try.underlying25 rfl (by kernel_rfl)) rfl ?_
       exact ⟨by first | rfl | (simp [errW_none, errW_some] <;> rfl) | (simp [*, errW_none, errW_some] <;> rfl), Y3 HB GE314 GE315 GE316⟩

/-! ### impl_ValOk: function 63 -/
def impl_ValOk.f (k : Nat) (a0_0 : Int) (a0_1 : Int) (a0_2 : Int) (a0_3 : Int) : Option (Bool) := (impl_Val_span.f a0_0 a0_1 a0_2 a0_3).bind fun bt344 => ((impl_Val_rest.f a0_0 a0_1 a0_2 a0_3).bind fun bt346 => ((impl_ValMake.f k bt344.1 bt344.2 bt346.1 bt346.2).bind fun bt348 => (some (a0_0 == bt348.1 && (a0_1 == bt348.2.1 && (a0_2 == bt348.2.2.1 && (a0_3 == bt348.2.2.2)))))))
theorem impl_ValOk.mono : ∀ a0 a1 a2 a3 k, LeO (impl_ValOk.f k a0 a1 a2 a3) (impl_ValOk.f (k + 1) a0 a1 a2 a3) := by
 intro a0 a1 a2 a3 k
 unfold impl_ValOk.f
 repeat' first
   | (with_reducible exact impl_ValMake.mono _ _ _ _ _)
   | (with_reducible exact LeO.refl _)
   | (with_reducible exact LeO.none _)
   | (with_reducible refine LeO.ite ?_ ?_)
   | (with_reducible refine LeO.bind ?_ (fun _ => ?_))
   | exact impl_ValMake.mono _ _ _ _ _
   | exact LeO.none _
   | refine LeO.ite ?_ ?_
   | refine LeO.bind ?_ (fun _ => ?_)
def impl_ValOk.T1 : Bool × List (List Nat × List Nat) := (true, [([], []), ([], []), ([1], [1]), ([], []), ([3, 2], [3]), ([2, 4, 4], [2, 4]), ([0, 5], [0, 5]), ([6, 5, 0, 1, 2, 3, 4, 5, 6], [6])])
def impl_ValOk.B1 : List Nat := [0, 0, 2, 0, 14, 30, 63, 127]
theorem impl_ValOk.tab1 : rtab .any (opsOf Try.f63 1) = impl_ValOk.T1 := by kernel_rfl
theorem impl_ValOk.bits1 : waitsOk impl_ValOk.T1.2 impl_ValOk.B1 = true := by kernel_rfl
set_option maxHeartbeats 8000000 in
set_option maxRecDepth 100000 in
theorem impl_ValOk.calls (k : Nat) (a0_0 : Int) (a0_1 : Int) (a0_2 : Int) (a0_3 : Int) (r : Bool) (w : World) (h : impl_ValOk.f k a0_0 a0_1 a0_2 a0_3 = some r) :
  Calls Try.prog 63 #[.agg #[.int .i64 a0_0, .int .i64 a0_1, .int .i64 a0_2, .int .i64 a0_3]] w fun e w' => e = .returned (.bool r) ∧ Below w.heap.size w w' := by
 have hu25 := Try.underlying25
 have HB := am (Below.refl w.heap.size w)
 have H : ((impl_Val_span.f a0_0 a0_1 a0_2 a0_3).bind fun bt344 => ((impl_Val_rest.f a0_0 a0_1 a0_2 a0_3).bind fun bt346 => ((impl_ValMake.f k bt344.1 bt344.2 bt346.1 bt346.2).bind fun bt348 => (some (a0_0 == bt348.1 && (a0_1 == bt348.2.1 && (a0_2 == bt348.2.2.1 && (a0_3 == bt348.2.2.2)))))))) = some r := h
 clear h
 replace H := Option.bind_eq_some_iff.mp H
 obtain ⟨⟨t344, t345⟩, A20, H⟩ := H
 replace H : ((impl_Val_rest.f a0_0 a0_1 a0_2 a0_3).bind fun bt346 => ((impl_ValMake.f k t344 t345 bt346.1 bt346.2).bind fun bt348 => (some (a0_0 == bt348.1 && (a0_1 == bt348.2.1 && (a0_2 == bt348.2.2.1 && (a0_3 == bt348.2.2.2))))))) = some r := H
 have A2 := am A20
 clear A20
 replace H := Option.bind_eq_some_iff.mp H
 obtain ⟨⟨t346, t347⟩, A30, H⟩ := H
 replace H : ((impl_ValMake.f k t344 t345 t346 t347).bind fun bt348 => (some (a0_0 == bt348.1 && (a0_1 == bt348.2.1 && (a0_2 == bt348.2.2.1 && (a0_3 == bt348.2.2.2)))))) = some r := H
 have A3 := am A30
 clear A30
 replace H := Option.bind_eq_some_iff.mp H
 obtain ⟨⟨t348, t349, t350, t351⟩, A40, H⟩ := H
 replace H : (some (a0_0 == t348 && (a0_1 == t349 && (a0_2 == t350 && (a0_3 == t351))))) = some r := H
 have A4 := am A40
 clear A40
 obtain rfl := Option.some.inj H
 go_enter Try.func63, Try.ntmps63
 try go_wp2_with (first | ((with_reducible refine gate_dst (N := 1) rfl ?_); refine box_event ?hg (N := 1) ?hd (cs := #[.int .i64 a0_0, .int .i64 a0_1, .int .i64 a0_2, .int .i64 a0_3]) (t := 25) ?hr ?_; (case hd => rfl); (case hg => rfl); (case hr => first | (go_simp; done) | (go_simp; rfl)); intro gb343 hg w5 hbox hb; have n0_ := am (below_step (Y0 HB) hb); have n1_ := am (hbox); have n2_ := am ((by rw [hg]; exact (below_size (Y0 HB)) : w.heap.size ≤ gb343)); have n3_ := am ((by rw [hg]; exact (below_size (Y0 HB)) : w.heap.size ≤ gb343)); clear HB; have HB := n0_; have BK343 := n1_; have GW343 := n2_; have GE343 := n3_; clear n0_ n1_ n2_ n3_; clear hb hbox hg))
 have n0_ := am (blk_drew BK343.out)
 have n1_ := am (below_drew1 HB.out)
 clear BK343
 clear HB
 have BK343 := n0_
 have HB := n1_
 clear n0_ n1_
 refine start_ (n := 8) (S := fun w' => w'.cell? ⟨gb343, 0, none⟩ = some (.int .i64 a0_0) ∧ w'.cell? ⟨gb343, 1, none⟩ = some (.int .i64 a0_1) ∧ w'.cell? ⟨gb343, 2, none⟩ = some (.int .i64 a0_2) ∧ w'.cell? ⟨gb343, 3, none⟩ = some (.int .i64 a0_3)) (ds := []) #[F, F, F, F, F, F, F, F] (by kernel_rfl) rfl rfl ⟨bc BK343 0, bc BK343 1, bc BK343 2, bc BK343 3⟩ (fun hHeld => ?_); refine with_tabW impl_ValOk.tab1 impl_ValOk.bits1 (fun HT_ HW_ => ?_)
 generalize w5.drew = w6 at BK343 HB hHeld ⊢
 refine take_ (i := 0) (N := some 3) (v := ?_) (a' := ?_) #[T, F, F, F, F, F, F, F] rfl rfl (take_ofW HT_.out HW_.out (by kernel_rfl)) (fun _ _ _ h => h) (Or.inl ⟨by rfl, ?_⟩) hHeld ?_ ?_
 rotate_left
 ·rintro w' ⟨s0, s1, s2, s3⟩
  go_simp
  with_reducible rfl
 rotate_left
 ·exact pz
 refine take_ (i := 1) (N := some 4) (v := ?_) (a' := ?_) #[T, T, F, F, F, F, F, F] rfl rfl (take_ofW HT_.out HW_.out (by kernel_rfl)) (fun _ _ _ h => h) (Or.inl ⟨by rfl, ?_⟩) hHeld ?_ ?_
 rotate_left
 ·rintro w' ⟨s0, s1, s2, s3⟩
  go_simp
  with_reducible rfl
 rotate_left
 ·exact pz
 refine take_ (i := 3) (N := some 6) (v := ?_) (a' := ?_) #[T, T, F, T, F, F, F, F] rfl rfl (take_ofW HT_.out HW_.out (by kernel_rfl)) (fun _ _ _ h => h) (Or.inl ⟨by rfl, ?_⟩) hHeld ?_ ?_
 rotate_left
 ·rintro w' ⟨s0, s1, s2, s3⟩
  go_simp
  with_reducible rfl
 rotate_left
 ·exact pz
 refine one_ (i := 2) (N := some 5) #[T, T, T, T, F, F, F, F] rfl rfl (one_of HT_.out (by kernel_rfl)) (by decide) (fun K hK => ?_)
 refine goes_ Try.func65 (by kernel_rfl) rfl #[.agg #[.int .i64 a0_0, .int .i64 a0_1, .int .i64 a0_2, .int .i64 a0_3]] (by rfl) rfl rfl mz ?_
 with_reducible refine (impl_Val_span.calls a0_0 a0_1 a0_2 a0_3 t344 t345 _ A2.out).mono ?_
 rintro e w7 ⟨rfl, hb⟩
 refine ⟨_, rfl, ?_⟩
 have n0_ := am (blk_below (g := gb343) (o := b4 a0_0 a0_1 a0_2 a0_3 25) (Z BK343) hb)
 have n1_ := am (below_step (Y1 HB GE343) hb)
 clear BK343
 clear HB
 have BK343 := n0_
 have HB := n1_
 clear n0_ n1_
 (try clear hb)
 (try clear hb2)
 (try clear hk)
 (try clear hi)
 refine hK.out _ _ ⟨bc BK343 0, bc BK343 1, bc BK343 2, bc BK343 3⟩ (fun hHeld => ?_)
 clear hK K
 refine norm_ (a' := ?_) ?_ ?_
 rotate_left
 ·show Act.put _ (some 5) _ = _
  simp only [Act.put, List.setIfInBounds_toArray, List.set_cons_zero, List.set_cons_succ, i64_w, i32_w]
  rfl
 refine one_ (i := 4) (N := some 7) #[T, T, T, T, T, F, F, F] rfl rfl (one_of HT_.out (by kernel_rfl)) (by decide) (fun K hK => ?_)
 refine goes_ Try.func67 (by kernel_rfl) rfl #[.agg #[.int .i64 a0_0, .int .i64 a0_1, .int .i64 a0_2, .int .i64 a0_3]] (by rfl) rfl rfl mz ?_
 with_reducible refine (impl_Val_rest.calls a0_0 a0_1 a0_2 a0_3 t346 t347 _ A3.out).mono ?_
 rintro e w8 ⟨rfl, hb⟩
 refine ⟨_, rfl, ?_⟩
 have n0_ := am (blk_below (g := gb343) (o := b4 a0_0 a0_1 a0_2 a0_3 25) (Z BK343) hb)
 have n1_ := am (below_step (Y1 HB GE343) hb)
 clear BK343
 clear HB
 have BK343 := n0_
 have HB := n1_
 clear n0_ n1_
 (try clear hb)
 (try clear hb2)
 (try clear hk)
 (try clear hi)
 refine hK.out _ _ ⟨bc BK343 0, bc BK343 1, bc BK343 2, bc BK343 3⟩ (fun hHeld => ?_)
 clear hK K
 refine norm_ (a' := ?_) ?_ ?_
 rotate_left
 ·show Act.put _ (some 7) _ = _
  simp only [Act.put, List.setIfInBounds_toArray, List.set_cons_zero, List.set_cons_succ, i64_w, i32_w]
  rfl
 refine one_ (i := 5) (N := some 8) #[T, T, T, T, T, T, F, F] rfl rfl (one_of HT_.out (by kernel_rfl)) (by decide) (fun K hK => ?_)
 refine goes_ Try.func77 (by kernel_rfl) rfl #[.agg #[.int .i64 t344, .int .i64 t345], .agg #[.int .i64 t346, .int .i64 t347]] (by rfl) rfl rfl mz ?_
 with_reducible refine (impl_ValMake.calls k t344 t345 t346 t347 t348 t349 t350 t351 _ A4.out).mono ?_
 rintro e w9 ⟨rfl, hb⟩
 refine ⟨_, rfl, ?_⟩
 have n0_ := am (blk_below (g := gb343) (o := b4 a0_0 a0_1 a0_2 a0_3 25) (Z BK343) hb)
 have n1_ := am (below_step (Y1 HB GE343) hb)
 clear BK343
 clear HB
 have BK343 := n0_
 have HB := n1_
 clear n0_ n1_
 (try clear hb)
 (try clear hb2)
 (try clear hk)
 (try clear hi)
 refine hK.out _ _ ⟨bc BK343 0, bc BK343 1, bc BK343 2, bc BK343 3⟩ (fun hHeld => ?_)
 clear hK K
 refine norm_ (a' := ?_) ?_ ?_
 rotate_left
 ·show Act.put _ (some 8) _ = _
  simp only [Act.put, List.setIfInBounds_toArray, List.set_cons_zero, List.set_cons_succ, i64_w, i32_w]
  rfl
 refine pure_ (i := 6) (N := some 9) (v := ?_) (a' := ?_) #[T, T, T, T, T, T, T, F] rfl rfl (any_of HT_.out (by kernel_rfl)) (fun _ _ _ h => h) (Or.inl ⟨by rfl, ?_⟩) ?_ ?_
 rotate_left
 ·exact gz
 rotate_left
 ·exact pz
 refine pure_ (i := 7) (N := some 2) (v := ?_) (a' := ?_) #[T, T, T, T, T, T, T, T] rfl rfl (any_of HT_.out (by kernel_rfl)) (fun _ _ _ h => h) (Or.inl ⟨by rfl, ?_⟩) ?_ ?_
 rotate_left
 ·exact gz
 rotate_left
 ·exact pz
 refine done_ (done_of HT_.out (by kernel_rfl)) ?_
 try go_wp2
 go_ret
 exact ⟨by first | rfl | (simp [errW_none, errW_some] <;> rfl) | (simp [*, errW_none, errW_some] <;> rfl), Y1 HB GE343⟩

/-! ### impl_Val_none: function 70 -/
def impl_Val_none.f (a0_0 : Int) (a0_1 : Int) (a0_2 : Int) (a0_3 : Int) : Option (Bool) := (impl_valNone.f).bind fun bt353 => (some (a0_0 == bt353.1 && (a0_1 == bt353.2.1 && (a0_2 == bt353.2.2.1 && (a0_3 == bt353.2.2.2)))))
set_option maxHeartbeats 8000000 in
set_option maxRecDepth 100000 in
theorem impl_Val_none.calls (a0_0 : Int) (a0_1 : Int) (a0_2 : Int) (a0_3 : Int) (r : Bool) (w : World) (h : impl_Val_none.f a0_0 a0_1 a0_2 a0_3 = some r) :
  Calls Try.prog 70 #[.agg #[.int .i64 a0_0, .int .i64 a0_1, .int .i64 a0_2, .int .i64 a0_3]] w fun e w' => e = .returned (.bool r) ∧ Below w.heap.size w w' := by
 have hu25 := Try.underlying25
 have HB := am (Below.refl w.heap.size w)
 have H : ((impl_valNone.f).bind fun bt353 => (some (a0_0 == bt353.1 && (a0_1 == bt353.2.1 && (a0_2 == bt353.2.2.1 && (a0_3 == bt353.2.2.2)))))) = some r := h
 clear h
 replace H := Option.bind_eq_some_iff.mp H
 obtain ⟨⟨t353, t354, t355, t356⟩, A20, H⟩ := H
 replace H : (some (a0_0 == t353 && (a0_1 == t354 && (a0_2 == t355 && (a0_3 == t356))))) = some r := H
 have A2 := am A20
 clear A20
 obtain rfl := Option.some.inj H
 go_enter Try.func70, Try.ntmps70
 try go_wp2_with (first | ((with_reducible refine gate_dst (N := 1) rfl ?_); refine box_event ?hg (N := 1) ?hd (cs := #[.int .i64 a0_0, .int .i64 a0_1, .int .i64 a0_2, .int .i64 a0_3]) (t := 25) ?hr ?_; (case hd => rfl); (case hg => rfl); (case hr => first | (go_simp; done) | (go_simp; rfl)); intro gb352 hg w3 hbox hb; have n0_ := am (below_step (Y0 HB) hb); have n1_ := am (hbox); have n2_ := am ((by rw [hg]; exact (below_size (Y0 HB)) : w.heap.size ≤ gb352)); have n3_ := am ((by rw [hg]; exact (below_size (Y0 HB)) : w.heap.size ≤ gb352)); clear HB; have HB := n0_; have BK352 := n1_; have GW352 := n2_; have GE352 := n3_; clear n0_ n1_ n2_ n3_; clear hb hbox hg))
 have n0_ := am (blk_drew BK352.out)
 have n1_ := am (below_drew1 HB.out)
 clear BK352
 clear HB
 have BK352 := n0_
 have HB := n1_
 clear n0_ n1_
 refine start_ (n := 4) (S := fun w' => w'.cell? ⟨gb352, 0, none⟩ = some (.int .i64 a0_0) ∧ w'.cell? ⟨gb352, 1, none⟩ = some (.int .i64 a0_1) ∧ w'.cell? ⟨gb352, 2, none⟩ = some (.int .i64 a0_2) ∧ w'.cell? ⟨gb352, 3, none⟩ = some (.int .i64 a0_3)) (ds := []) #[F, F, F, F] (by kernel_rfl) rfl rfl ⟨bc BK352 0, bc BK352 1, bc BK352 2, bc BK352 3⟩ (fun hHeld => ?_)
 generalize w3.drew = w4 at BK352 HB hHeld ⊢
 refine take_ (i := 0) (N := some 3) (v := ?_) (a' := ?_) #[T, F, F, F] rfl rfl (by kernel_rfl) (fun _ _ _ h => h) (Or.inl ⟨by rfl, ?_⟩) hHeld ?_ ?_
 rotate_left
 ·rintro w' ⟨s0, s1, s2, s3⟩
  go_simp
  with_reducible rfl
 rotate_left
 ·exact pz
 refine one_ (i := 1) (N := some 4) #[T, T, F, F] rfl rfl (by kernel_rfl) (by decide) (fun K hK => ?_)
 refine goes_ Try.func76 (by kernel_rfl) rfl #[] (by rfl) rfl rfl mz ?_
 with_reducible refine (impl_valNone.calls  t353 t354 t355 t356 _ A2.out).mono ?_
 rintro e w5 ⟨rfl, hb⟩
 refine ⟨_, rfl, ?_⟩
 have n0_ := am (blk_below (g := gb352) (o := b4 a0_0 a0_1 a0_2 a0_3 25) (Z BK352) hb)
 have n1_ := am (below_step (Y1 HB GE352) hb)
 clear BK352
 clear HB
 have BK352 := n0_
 have HB := n1_
 clear n0_ n1_
 (try clear hb)
 (try clear hb2)
 (try clear hk)
 (try clear hi)
 refine hK.out _ _ ⟨bc BK352 0, bc BK352 1, bc BK352 2, bc BK352 3⟩ (fun hHeld => ?_)
 clear hK K
 refine norm_ (a' := ?_) ?_ ?_
 rotate_left
 ·show Act.put _ (some 4) _ = _
  simp only [Act.put, List.setIfInBounds_toArray, List.set_cons_zero, List.set_cons_succ, i64_w, i32_w]
  rfl
 refine pure_ (i := 2) (N := some 5) (v := ?_) (a' := ?_) #[T, T, T, F] rfl rfl (by kernel_rfl) (fun _ _ _ h => h) (Or.inl ⟨by rfl, ?_⟩) ?_ ?_
 rotate_left
 ·exact gz
 rotate_left
 ·exact pz
 refine pure_ (i := 3) (N := some 2) (v := ?_) (a' := ?_) #[T, T, T, T] rfl rfl (by kernel_rfl) (fun _ _ _ h => h) (Or.inl ⟨by rfl, ?_⟩) ?_ ?_
 rotate_left
 ·exact gz
 rotate_left
 ·exact pz
 refine done_ (by kernel_rfl) ?_
 try go_wp2
 go_ret
 exact ⟨by first | rfl | (simp [errW_none, errW_some] <;> rfl) | (simp [*, errW_none, errW_some] <;> rfl), Y1 HB GE352⟩

end Go.Proofs.Ytnmccgjdnceheaa.PFnExactValWiden
