/- Written by this session's own driver (wip/dprint.py): the functions that the law FnExactRangeCmp reaches, as Lean functions, each with its contract. -/
import Derived.Test.YtlipfemjlicbbaaPFnExactRangeCmpx0
import Derived.Test.YtlipfemjlicbbaaPFnExactRangeCmpx3
import Derived.Test.YtlipfemjlicbbaaSv
namespace Go.Proofs.Ytlipfemjlicbbaa.PFnExactRangeCmp
open Go.RowKit Go.Proofs.YtlipfemjlicbbaaV.PrintWords Go.Proofs.YtlipfemjlicbbaaV.PrintLast Go.Proofs.YtlipfemjlicbbaaV.PrintMore Go.Proofs.YtlipfemjlicbbaaSv
attribute [local go_sem] max2_int min2_int max_two min_two max_three min_three max_four min_four   -- for this text's walks alone
set_option linter.unusedVariables false
set_option linter.unusedSimpArgs false

/-! ### spec_l8Ne: function 59 -/
def spec_l8Ne.f (a0_0 : Int) (a0_1 : Int) (a1_0 : Int) (a1_1 : Int) : Option (Int × Int) := if a1_0 = a1_1 then (if a0_0 = a1_0 then ((spec_l8Cut.f (wrap64 (a0_0 + 1)) a0_1).bind fun bt136 => (some (bt136.1, bt136.2))) else (if a0_1 = a1_0 then ((spec_l8Cut.f a0_0 (wrap64 (a0_1 - 1))).bind fun bt138 => (some (bt138.1, bt138.2))) else (some (a0_0, a0_1)))) else (some (a0_0, a0_1))
set_option maxHeartbeats 8000000 in
set_option maxRecDepth 100000 in
theorem spec_l8Ne.calls (a0_0 : Int) (a0_1 : Int) (a1_0 : Int) (a1_1 : Int) (r1 : Int) (r2 : Int) (w : World) (h : spec_l8Ne.f a0_0 a0_1 a1_0 a1_1 = some (r1, r2)) :
  Calls Try.prog 59 #[.agg #[.int .i64 a0_0, .int .i64 a0_1], .agg #[.int .i64 a1_0, .int .i64 a1_1]] w fun e w' => e = .returned (.agg #[.int .i64 r1, .int .i64 r2]) ∧ Below w.heap.size w w' := by
 have hu24 := Try.underlying24
 have HB := am (Below.refl w.heap.size w)
 have H : (if a1_0 = a1_1 then (if a0_0 = a1_0 then ((spec_l8Cut.f (wrap64 (a0_0 + 1)) a0_1).bind fun bt136 => (some (bt136.1, bt136.2))) else (if a0_1 = a1_0 then ((spec_l8Cut.f a0_0 (wrap64 (a0_1 - 1))).bind fun bt138 => (some (bt138.1, bt138.2))) else (some (a0_0, a0_1)))) else (some (a0_0, a0_1))) = some (r1, r2) := h
 clear h
 by_cases c3 : a1_0 = a1_1
 ·rw [if_pos c3] at H
  have c3b0 : (a1_0 == a1_1) = true := beq_iff_eq.mpr c3
  have c3b1 : (a1_0 != a1_1) = false := bne_eq_false_iff_eq.mpr c3
  clear c3
  by_cases c4 : a0_0 = a1_0
  ·rw [if_pos c4] at H
   have c4b0 : (a0_0 == a1_0) = true := beq_iff_eq.mpr c4
   have c4b1 : (a0_0 != a1_0) = false := bne_eq_false_iff_eq.mpr c4
   clear c4
   replace H := Option.bind_eq_some_iff.mp H
   obtain ⟨⟨t136, t137⟩, A50, H⟩ := H
   replace H : (some (t136, t137)) = some (r1, r2) := H
   have A5 := am A50
   clear A50
   simp only [Option.some.injEq, Prod.mk.injEq] at H
   obtain ⟨rfl, rfl⟩ := H
   go_enter Try.func59, Try.ntmps59
   go_wp2_with (first | ((with_reducible refine gate_dst (N := 2) rfl ?_); refine box_event ?hg (N := 2) ?hd (cs := #[.int .i64 a0_0, .int .i64 a0_1]) (t := 24) ?hr ?_; (case hd => rfl); (case hg => rfl); (case hr => first | (go_simp; done) | (go_simp; rfl)); intro gb133 hg w6 hbox hb; have n0_ := am (below_step (Y0 HB) hb); have n1_ := am (hbox); have n2_ := am ((by rw [hg]; exact (below_size (Y0 HB)) : w.heap.size ≤ gb133)); have n3_ := am ((by rw [hg]; exact (below_size (Y0 HB)) : w.heap.size ≤ gb133)); clear HB; have HB := n0_; have BK133 := n1_; have GW133 := n2_; have GE133 := n3_; clear n0_ n1_ n2_ n3_; clear hb hbox hg) | ((with_reducible refine gate_dst (N := 3) rfl ?_); refine box_event ?hg (N := 3) ?hd (cs := #[.int .i64 a1_0, .int .i64 a1_1]) (t := 24) ?hr ?_; (case hd => rfl); (case hg => rfl); (case hr => first | (go_simp; done) | (go_simp; rfl)); intro gb134 hg w7 hbox hb; have n0_ := am (blk_below (g := gb133) (o := b2 a0_0 a0_1 24) (Z BK133) hb); have n1_ := am (below_step (Y1 HB GE133) hb); have n2_ := am (hbox); have n3_ := am ((by rw [hg]; exact (below_size (Y1 HB GE133)) : w.heap.size ≤ gb134)); have n4_ := am ((by rw [hg]; exact (below_size (Y1 HB GE133)) : w.heap.size ≤ gb134)); have n5_ := am ((nl (o := b2 a0_0 a0_1 24) hg (Z BK133) : gb133 ≠ gb134)); have n6_ := am ((ng (o := b2 a0_0 a0_1 24) hg (Z BK133) : gb134 ≠ gb133)); clear BK133; clear HB; have BK133 := n0_; have HB := n1_; have BK134 := n2_; have GW134 := n3_; have GE134 := n4_; have NB133_134 := n5_; have NB134_133 := n6_; clear n0_ n1_ n2_ n3_ n4_ n5_ n6_; clear hb hbox hg) | ((with_reducible refine gate_dst (N := 4) rfl ?_); refine box_event ?hg (N := 4) ?hd (cs := #[.int .i64 0, .int .i64 0]) (t := 24) ?hr ?_; (case hd => rfl); (case hg => rfl); (case hr => first | (go_simp; done) | (go_simp; rfl)); intro gb135 hg w8 hbox hb; have n0_ := am (blk_below (g := gb133) (o := b2 a0_0 a0_1 24) (Z BK133) hb); have n1_ := am (blk_below (g := gb134) (o := b2 a1_0 a1_1 24) (Z BK134) hb); have n2_ := am (below_step (Y2 HB GE133 GE134) hb); have n3_ := am (hbox); have n4_ := am ((by rw [hg]; exact (below_size (Y2 HB GE133 GE134)) : w.heap.size ≤ gb135)); have n5_ := am ((by rw [hg]; exact (below_size (Y2 HB GE133 GE134)) : w.heap.size ≤ gb135)); have n6_ := am ((nl (o := b2 a0_0 a0_1 24) hg (Z BK133) : gb133 ≠ gb135)); have n7_ := am ((ng (o := b2 a0_0 a0_1 24) hg (Z BK133) : gb135 ≠ gb133)); have n8_ := am ((nl (o := b2 a1_0 a1_1 24) hg (Z BK134) : gb134 ≠ gb135)); have n9_ := am ((ng (o := b2 a1_0 a1_1 24) hg (Z BK134) : gb135 ≠ gb134)); clear BK133; clear BK134; clear HB; have BK133 := n0_; have BK134 := n1_; have HB := n2_; have BK135 := n3_; have GW135 := n4_; have GE135 := n5_; have NB133_135 := n6_; have NB135_133 := n7_; have NB134_135 := n8_; have NB135_134 := n9_; clear n0_ n1_ n2_ n3_ n4_ n5_ n6_ n7_ n8_ n9_; clear hb hbox hg; have hnb9 := NB134_133.out; have hnc9 := NB133_134.out; have hnb10 := NB134_135.out; have hnc10 := NB135_134.out; have hcz11_0 : w8.cell? ⟨gb134, 0, none⟩ = some (.int .i64 a1_0) := bc BK134 0; have hcz11_1 : w8.cell? ⟨gb134, 1, none⟩ = some (.int .i64 a1_1) := bc BK134 1; have hfz11_0 := blk_frozen BK134.out 0; have hfz11_1 := blk_frozen BK134.out 1; have hnb12 := NB133_135.out; have hnc12 := NB135_133.out; have hcz13_0 : w8.cell? ⟨gb133, 0, none⟩ = some (.int .i64 a0_0) := bc BK133 0; have hcz13_1 : w8.cell? ⟨gb133, 1, none⟩ = some (.int .i64 a0_1) := bc BK133 1; have hfz13_0 := blk_frozen BK133.out 0; have hfz13_1 := blk_frozen BK133.out 1) | ((with_reducible refine gate_callee (f := 54) rfl ?_); refine goesL_ (some 21) rfl rfl Try.func54 (by kernel_rfl) rfl #[.int .i64 (wrap64 (a0_0 + 1)), .int .i64 a0_1] rfl mz ?_; (with_reducible refine (spec_l8Cut.calls (wrap64 (a0_0 + 1)) a0_1 t136 t137 _ A5.out).mono ?_); rintro e w14 ⟨rfl, hb⟩; refine ⟨_, rfl, ?_⟩; have n0_ := am (blk_below (g := gb133) (o := b2 a0_0 a0_1 24) (Z BK133) hb); have n1_ := am (blk_below (g := gb134) (o := b2 a1_0 a1_1 24) (Z BK134) hb); have n2_ := am (blk_below (g := gb135) (o := b2 0 0 24) (Z BK135) hb); have n3_ := am (below_step (Y3 HB GE133 GE134 GE135) hb); clear BK133; clear BK134; clear BK135; clear HB; have BK133 := n0_; have BK134 := n1_; have BK135 := n2_; have HB := n3_; clear n0_ n1_ n2_ n3_; (try clear hb); (try clear hb2); (try clear hk); (try clear hi); have hcz15_0 : w14.cell? ⟨gb135, 0, none⟩ = some (.int .i64 0) := bc BK135 0; have hcz15_1 : w14.cell? ⟨gb135, 1, none⟩ = some (.int .i64 0) := bc BK135 1; have hfz15_0 := blk_frozen BK135.out 0; have hfz15_1 := blk_frozen BK135.out 1))
   refine bodyPost_ret (results_cell_row rfl _ _ gb135 24 #[.int .i64 t136, .int .i64 t137] (0, 0) _ rfl (by (with_reducible repeat (first | refine blk_drewN ?_ _ | refine blk_drew ?_ | refine blk_alloc ?_ _)); refine blk_put (cs := #[.int .i64 t136, .int .i64 0]) ?_ 1 _ rfl; (with_reducible repeat (first | refine blk_drewN ?_ _ | refine blk_drew ?_ | refine blk_alloc ?_ _)); refine blk_put (cs := #[.int .i64 0, .int .i64 0]) ?_ 0 _ rfl; (with_reducible repeat (first | refine blk_drewN ?_ _ | refine blk_drew ?_ | refine blk_alloc ?_ _)); exact BK135.out) Try.underlying24 rfl (by kernel_rfl)) rfl ?_
   exact ⟨by first | rfl | (simp [errW_none, errW_some] <;> rfl) | (simp [*, errW_none, errW_some] <;> rfl), Y3 HB GE133 GE134 GE135⟩
  ·rw [if_neg c4] at H
   have c4b0 : (a0_0 == a1_0) = false := beq_eq_false_iff_ne.mpr c4
   have c4b1 : (a0_0 != a1_0) = true := bne_iff_ne.mpr c4
   by_cases c16 : a0_1 = a1_0
   ·rw [if_pos c16] at H
    have c16b0 : (a0_1 == a1_0) = true := beq_iff_eq.mpr c16
    have c16b1 : (a0_1 != a1_0) = false := bne_eq_false_iff_eq.mpr c16
    clear c16
    replace H := Option.bind_eq_some_iff.mp H
    obtain ⟨⟨t138, t139⟩, A170, H⟩ := H
    replace H : (some (t138, t139)) = some (r1, r2) := H
    have A17 := am A170
    clear A170
    simp only [Option.some.injEq, Prod.mk.injEq] at H
    obtain ⟨rfl, rfl⟩ := H
    go_enter Try.func59, Try.ntmps59
    go_wp2_with (first | ((with_reducible refine gate_dst (N := 2) rfl ?_); refine box_event ?hg (N := 2) ?hd (cs := #[.int .i64 a0_0, .int .i64 a0_1]) (t := 24) ?hr ?_; (case hd => rfl); (case hg => rfl); (case hr => first | (go_simp; done) | (go_simp; rfl)); intro gb133 hg w18 hbox hb; have n0_ := am (below_step (Y0 HB) hb); have n1_ := am (hbox); have n2_ := am ((by rw [hg]; exact (below_size (Y0 HB)) : w.heap.size ≤ gb133)); have n3_ := am ((by rw [hg]; exact (below_size (Y0 HB)) : w.heap.size ≤ gb133)); clear HB; have HB := n0_; have BK133 := n1_; have GW133 := n2_; have GE133 := n3_; clear n0_ n1_ n2_ n3_; clear hb hbox hg) | ((with_reducible refine gate_dst (N := 3) rfl ?_); refine box_event ?hg (N := 3) ?hd (cs := #[.int .i64 a1_0, .int .i64 a1_1]) (t := 24) ?hr ?_; (case hd => rfl); (case hg => rfl); (case hr => first | (go_simp; done) | (go_simp; rfl)); intro gb134 hg w19 hbox hb; have n0_ := am (blk_below (g := gb133) (o := b2 a0_0 a0_1 24) (Z BK133) hb); have n1_ := am (below_step (Y1 HB GE133) hb); have n2_ := am (hbox); have n3_ := am ((by rw [hg]; exact (below_size (Y1 HB GE133)) : w.heap.size ≤ gb134)); have n4_ := am ((by rw [hg]; exact (below_size (Y1 HB GE133)) : w.heap.size ≤ gb134)); have n5_ := am ((nl (o := b2 a0_0 a0_1 24) hg (Z BK133) : gb133 ≠ gb134)); have n6_ := am ((ng (o := b2 a0_0 a0_1 24) hg (Z BK133) : gb134 ≠ gb133)); clear BK133; clear HB; have BK133 := n0_; have HB := n1_; have BK134 := n2_; have GW134 := n3_; have GE134 := n4_; have NB133_134 := n5_; have NB134_133 := n6_; clear n0_ n1_ n2_ n3_ n4_ n5_ n6_; clear hb hbox hg) | ((with_reducible refine gate_dst (N := 4) rfl ?_); refine box_event ?hg (N := 4) ?hd (cs := #[.int .i64 0, .int .i64 0]) (t := 24) ?hr ?_; (case hd => rfl); (case hg => rfl); (case hr => first | (go_simp; done) | (go_simp; rfl)); intro gb135 hg w20 hbox hb; have n0_ := am (blk_below (g := gb133) (o := b2 a0_0 a0_1 24) (Z BK133) hb); have n1_ := am (blk_below (g := gb134) (o := b2 a1_0 a1_1 24) (Z BK134) hb); have n2_ := am (below_step (Y2 HB GE133 GE134) hb); have n3_ := am (hbox); have n4_ := am ((by rw [hg]; exact (below_size (Y2 HB GE133 GE134)) : w.heap.size ≤ gb135)); have n5_ := am ((by rw [hg]; exact (below_size (Y2 HB GE133 GE134)) : w.heap.size ≤ gb135)); have n6_ := am ((nl (o := b2 a0_0 a0_1 24) hg (Z BK133) : gb133 ≠ gb135)); have n7_ := am ((ng (o := b2 a0_0 a0_1 24) hg (Z BK133) : gb135 ≠ gb133)); have n8_ := am ((nl (o := b2 a1_0 a1_1 24) hg (Z BK134) : gb134 ≠ gb135)); have n9_ := am ((ng (o := b2 a1_0 a1_1 24) hg (Z BK134) : gb135 ≠ gb134)); clear BK133; clear BK134; clear HB; have BK133 := n0_; have BK134 := n1_; have HB := n2_; have BK135 := n3_; have GW135 := n4_; have GE135 := n5_; have NB133_135 := n6_; have NB135_133 := n7_; have NB134_135 := n8_; have NB135_134 := n9_; clear n0_ n1_ n2_ n3_ n4_ n5_ n6_ n7_ n8_ n9_; clear hb hbox hg; have hnb21 := NB134_133.out; have hnc21 := NB133_134.out; have hnb22 := NB134_135.out; have hnc22 := NB135_134.out; have hcz23_0 : w20.cell? ⟨gb134, 0, none⟩ = some (.int .i64 a1_0) := bc BK134 0; have hcz23_1 : w20.cell? ⟨gb134, 1, none⟩ = some (.int .i64 a1_1) := bc BK134 1; have hfz23_0 := blk_frozen BK134.out 0; have hfz23_1 := blk_frozen BK134.out 1; have hnb24 := NB133_135.out; have hnc24 := NB135_133.out; have hcz25_0 : w20.cell? ⟨gb133, 0, none⟩ = some (.int .i64 a0_0) := bc BK133 0; have hcz25_1 : w20.cell? ⟨gb133, 1, none⟩ = some (.int .i64 a0_1) := bc BK133 1; have hfz25_0 := blk_frozen BK133.out 0; have hfz25_1 := blk_frozen BK133.out 1) | ((with_reducible refine gate_callee (f := 54) rfl ?_); refine goesL_ (some 32) rfl rfl Try.func54 (by kernel_rfl) rfl #[.int .i64 a0_0, .int .i64 (wrap64 (a0_1 - 1))] rfl mz ?_; (with_reducible refine (spec_l8Cut.calls a0_0 (wrap64 (a0_1 - 1)) t138 t139 _ A17.out).mono ?_); rintro e w26 ⟨rfl, hb⟩; refine ⟨_, rfl, ?_⟩; have n0_ := am (blk_below (g := gb133) (o := b2 a0_0 a0_1 24) (Z BK133) hb); have n1_ := am (blk_below (g := gb134) (o := b2 a1_0 a1_1 24) (Z BK134) hb); have n2_ := am (blk_below (g := gb135) (o := b2 0 0 24) (Z BK135) hb); have n3_ := am (below_step (Y3 HB GE133 GE134 GE135) hb); clear BK133; clear BK134; clear BK135; clear HB; have BK133 := n0_; have BK134 := n1_; have BK135 := n2_; have HB := n3_; clear n0_ n1_ n2_ n3_; (try clear hb); (try clear hb2); (try clear hk); (try clear hi); have hcz27_0 : w26.cell? ⟨gb135, 0, none⟩ = some (.int .i64 0) := bc BK135 0; have hcz27_1 : w26.cell? ⟨gb135, 1, none⟩ = some (.int .i64 0) := bc BK135 1; have hfz27_0 := blk_frozen BK135.out 0; have hfz27_1 := blk_frozen BK135.out 1))
    refine bodyPost_ret (results_cell_row rfl _ _ gb135 24 #[.int .i64 t138, .int .i64 t139] (0, 0) _ rfl (by (with_reducible repeat (first | refine blk_drewN ?_ _ | refine blk_drew ?_ | refine blk_alloc ?_ _)); refine blk_put (cs := #[.int .i64 t138, .int .i64 0]) ?_ 1 _ rfl; (with_reducible repeat (first | refine blk_drewN ?_ _ | refine blk_drew ?_ | refine blk_alloc ?_ _)); refine blk_put (cs := #[.int .i64 0, .int .i64 0]) ?_ 0 _ rfl; (with_reducible repeat (first | refine blk_drewN ?_ _ | refine blk_drew ?_ | refine blk_alloc ?_ _)); exact BK135.out) Try.underlying24 rfl (by kernel_rfl)) rfl ?_
    exact ⟨by first | rfl | (simp [errW_none, errW_some] <;> rfl) | (simp [*, errW_none, errW_some] <;> rfl), Y3 HB GE133 GE134 GE135⟩
   ·rw [if_neg c16] at H
    have c16b0 : (a0_1 == a1_0) = false := beq_eq_false_iff_ne.mpr c16
    have c16b1 : (a0_1 != a1_0) = true := bne_iff_ne.mpr c16
    simp only [Option.some.injEq, Prod.mk.injEq] at H
    obtain ⟨rfl, rfl⟩ := H
    go_enter Try.func59, Try.ntmps59
    go_wp2_with (first | ((with_reducible refine gate_dst (N := 2) rfl ?_); refine box_event ?hg (N := 2) ?hd (cs := #[.int .i64 a0_0, .int .i64 a0_1]) (t := 24) ?hr ?_; (case hd => rfl); (case hg => rfl); (case hr => first | (go_simp; done) | (go_simp; rfl)); intro gb133 hg w28 hbox hb; have n0_ := am (below_step (Y0 HB) hb); have n1_ := am (hbox); have n2_ := am ((by rw [hg]; exact (below_size (Y0 HB)) : w.heap.size ≤ gb133)); have n3_ := am ((by rw [hg]; exact (below_size (Y0 HB)) : w.heap.size ≤ gb133)); clear HB; have HB := n0_; have BK133 := n1_; have GW133 := n2_; have GE133 := n3_; clear n0_ n1_ n2_ n3_; clear hb hbox hg) | ((with_reducible refine gate_dst (N := 3) rfl ?_); refine box_event ?hg (N := 3) ?hd (cs := #[.int .i64 a1_0, .int .i64 a1_1]) (t := 24) ?hr ?_; (case hd => rfl); (case hg => rfl); (case hr => first | (go_simp; done) | (go_simp; rfl)); intro gb134 hg w29 hbox hb; have n0_ := am (blk_below (g := gb133) (o := b2 a0_0 a0_1 24) (Z BK133) hb); have n1_ := am (below_step (Y1 HB GE133) hb); have n2_ := am (hbox); have n3_ := am ((by rw [hg]; exact (below_size (Y1 HB GE133)) : w.heap.size ≤ gb134)); have n4_ := am ((by rw [hg]; exact (below_size (Y1 HB GE133)) : w.heap.size ≤ gb134)); have n5_ := am ((nl (o := b2 a0_0 a0_1 24) hg (Z BK133) : gb133 ≠ gb134)); have n6_ := am ((ng (o := b2 a0_0 a0_1 24) hg (Z BK133) : gb134 ≠ gb133)); clear BK133; clear HB; have BK133 := n0_; have HB := n1_; have BK134 := n2_; have GW134 := n3_; have GE134 := n4_; have NB133_134 := n5_; have NB134_133 := n6_; clear n0_ n1_ n2_ n3_ n4_ n5_ n6_; clear hb hbox hg) | ((with_reducible refine gate_dst (N := 4) rfl ?_); refine box_event ?hg (N := 4) ?hd (cs := #[.int .i64 0, .int .i64 0]) (t := 24) ?hr ?_; (case hd => rfl); (case hg => rfl); (case hr => first | (go_simp; done) | (go_simp; rfl)); intro gb135 hg w30 hbox hb; have n0_ := am (blk_below (g := gb133) (o := b2 a0_0 a0_1 24) (Z BK133) hb); have n1_ := am (blk_below (g := gb134) (o := b2 a1_0 a1_1 24) (Z BK134) hb); have n2_ := am (below_step (Y2 HB GE133 GE134) hb); have n3_ := am (hbox); have n4_ := am ((by rw [hg]; exact (below_size (Y2 HB GE133 GE134)) : w.heap.size ≤ gb135)); have n5_ := am ((by rw [hg]; exact (below_size (Y2 HB GE133 GE134)) : w.heap.size ≤ gb135)); have n6_ := am ((nl (o := b2 a0_0 a0_1 24) hg (Z BK133) : gb133 ≠ gb135)); have n7_ := am ((ng (o := b2 a0_0 a0_1 24) hg (Z BK133) : gb135 ≠ gb133)); have n8_ := am ((nl (o := b2 a1_0 a1_1 24) hg (Z BK134) : gb134 ≠ gb135)); have n9_ := am ((ng (o := b2 a1_0 a1_1 24) hg (Z BK134) : gb135 ≠ gb134)); clear BK133; clear BK134; clear HB; have BK133 := n0_; have BK134 := n1_; have HB := n2_; have BK135 := n3_; have GW135 := n4_; have GE135 := n5_; have NB133_135 := n6_; have NB135_133 := n7_; have NB134_135 := n8_; have NB135_134 := n9_; clear n0_ n1_ n2_ n3_ n4_ n5_ n6_ n7_ n8_ n9_; clear hb hbox hg; have hnb31 := NB134_133.out; have hnc31 := NB133_134.out; have hnb32 := NB134_135.out; have hnc32 := NB135_134.out; have hcz33_0 : w30.cell? ⟨gb134, 0, none⟩ = some (.int .i64 a1_0) := bc BK134 0; have hcz33_1 : w30.cell? ⟨gb134, 1, none⟩ = some (.int .i64 a1_1) := bc BK134 1; have hfz33_0 := blk_frozen BK134.out 0; have hfz33_1 := blk_frozen BK134.out 1; have hnb34 := NB133_135.out; have hnc34 := NB135_133.out; have hcz35_0 : w30.cell? ⟨gb133, 0, none⟩ = some (.int .i64 a0_0) := bc BK133 0; have hcz35_1 : w30.cell? ⟨gb133, 1, none⟩ = some (.int .i64 a0_1) := bc BK133 1; have hfz35_0 := blk_frozen BK133.out 0; have hfz35_1 := blk_frozen BK133.out 1; have hcz36_0 : w30.cell? ⟨gb135, 0, none⟩ = some (.int .i64 0) := bc BK135 0; have hcz36_1 : w30.cell? ⟨gb135, 1, none⟩ = some (.int .i64 0) := bc BK135 1; have hfz36_0 := blk_frozen BK135.out 0; have hfz36_1 := blk_frozen BK135.out 1))
    refine bodyPost_ret (results_cell_row rfl _ _ gb135 24 #[.int .i64 a0_0, .int .i64 a0_1] (0, 0) _ rfl (by (with_reducible repeat (first | refine blk_drewN ?_ _ | refine blk_drew ?_ | refine blk_alloc ?_ _)); refine blk_put (cs := #[.int .i64 a0_0, .int .i64 0]) ?_ 1 _ rfl; (with_reducible repeat (first | refine blk_drewN ?_ _ | refine blk_drew ?_ | refine blk_alloc ?_ _)); refine blk_put (cs := #[.int .i64 0, .int .i64 0]) ?_ 0 _ rfl; (with_reducible repeat (first | refine blk_drewN ?_ _ | refine blk_drew ?_ | refine blk_alloc ?_ _)); exact BK135.out) Try.underlying24 rfl (by kernel_rfl)) rfl ?_
    exact ⟨by first | rfl | (simp [errW_none, errW_some] <;> rfl) | (simp [*, errW_none, errW_some] <;> rfl), Y3 HB GE133 GE134 GE135⟩
 ·rw [if_neg c3] at H
  have c3b0 : (a1_0 == a1_1) = false := beq_eq_false_iff_ne.mpr c3
  have c3b1 : (a1_0 != a1_1) = true := bne_iff_ne.mpr c3
  simp only [Option.some.injEq, Prod.mk.injEq] at H
  obtain ⟨rfl, rfl⟩ := H
  go_enter Try.func59, Try.ntmps59
  go_wp2_with (first | ((with_reducible refine gate_dst (N := 2) rfl ?_); refine box_event ?hg (N := 2) ?hd (cs := #[.int .i64 a0_0, .int .i64 a0_1]) (t := 24) ?hr ?_; (case hd => rfl); (case hg => rfl); (case hr => first | (go_simp; done) | (go_simp; rfl)); intro gb133 hg w37 hbox hb; have n0_ := am (below_step (Y0 HB) hb); have n1_ := am (hbox); have n2_ := am ((by rw [hg]; exact (below_size (Y0 HB)) : w.heap.size ≤ gb133)); have n3_ := am ((by rw [hg]; exact (below_size (Y0 HB)) : w.heap.size ≤ gb133)); clear HB; have HB := n0_; have BK133 := n1_; have GW133 := n2_; have GE133 := n3_; clear n0_ n1_ n2_ n3_; clear hb hbox hg) | ((with_reducible refine gate_dst (N := 3) rfl ?_); refine box_event ?hg (N := 3) ?hd (cs := #[.int .i64 a1_0, .int .i64 a1_1]) (t := 24) ?hr ?_; (case hd => rfl); (case hg => rfl); (case hr => first | (go_simp; done) | (go_simp; rfl)); intro gb134 hg w38 hbox hb; have n0_ := am (blk_below (g := gb133) (o := b2 a0_0 a0_1 24) (Z BK133) hb); have n1_ := am (below_step (Y1 HB GE133) hb); have n2_ := am (hbox); have n3_ := am ((by rw [hg]; exact (below_size (Y1 HB GE133)) : w.heap.size ≤ gb134)); have n4_ := am ((by rw [hg]; exact (below_size (Y1 HB GE133)) : w.heap.size ≤ gb134)); have n5_ := am ((nl (o := b2 a0_0 a0_1 24) hg (Z BK133) : gb133 ≠ gb134)); have n6_ := am ((ng (o := b2 a0_0 a0_1 24) hg (Z BK133) : gb134 ≠ gb133)); clear BK133; clear HB; have BK133 := n0_; have HB := n1_; have BK134 := n2_; have GW134 := n3_; have GE134 := n4_; have NB133_134 := n5_; have NB134_133 := n6_; clear n0_ n1_ n2_ n3_ n4_ n5_ n6_; clear hb hbox hg) | ((with_reducible refine gate_dst (N := 4) rfl ?_); refine box_event ?hg (N := 4) ?hd (cs := #[.int .i64 0, .int .i64 0]) (t := 24) ?hr ?_; (case hd => rfl); (case hg => rfl); (case hr => first | (go_simp; done) | (go_simp; rfl)); intro gb135 hg w39 hbox hb; have n0_ := am (blk_below (g := gb133) (o := b2 a0_0 a0_1 24) (Z BK133) hb); have n1_ := am (blk_below (g := gb134) (o := b2 a1_0 a1_1 24) (Z BK134) hb); have n2_ := am (below_step (Y2 HB GE133 GE134) hb); have n3_ := am (hbox); have n4_ := am ((by rw [hg]; exact (below_size (Y2 HB GE133 GE134)) : w.heap.size ≤ gb135)); have n5_ := am ((by rw [hg]; exact (below_size (Y2 HB GE133 GE134)) : w.heap.size ≤ gb135)); have n6_ := am ((nl (o := b2 a0_0 a0_1 24) hg (Z BK133) : gb133 ≠ gb135)); have n7_ := am ((ng (o := b2 a0_0 a0_1 24) hg (Z BK133) : gb135 ≠ gb133)); have n8_ := am ((nl (o := b2 a1_0 a1_1 24) hg (Z BK134) : gb134 ≠ gb135)); have n9_ := am ((ng (o := b2 a1_0 a1_1 24) hg (Z BK134) : gb135 ≠ gb134)); clear BK133; clear BK134; clear HB; have BK133 := n0_; have BK134 := n1_; have HB := n2_; have BK135 := n3_; have GW135 := n4_; have GE135 := n5_; have NB133_135 := n6_; have NB135_133 := n7_; have NB134_135 := n8_; have NB135_134 := n9_; clear n0_ n1_ n2_ n3_ n4_ n5_ n6_ n7_ n8_ n9_; clear hb hbox hg; have hnb40 := NB134_133.out; have hnc40 := NB133_134.out; have hnb41 := NB134_135.out; have hnc41 := NB135_134.out; have hcz42_0 : w39.cell? ⟨gb134, 0, none⟩ = some (.int .i64 a1_0) := bc BK134 0; have hcz42_1 : w39.cell? ⟨gb134, 1, none⟩ = some (.int .i64 a1_1) := bc BK134 1; have hfz42_0 := blk_frozen BK134.out 0; have hfz42_1 := blk_frozen BK134.out 1; have hnb43 := NB133_135.out; have hnc43 := NB135_133.out; have hcz44_0 : w39.cell? ⟨gb133, 0, none⟩ = some (.int .i64 a0_0) := bc BK133 0; have hcz44_1 : w39.cell? ⟨gb133, 1, none⟩ = some (.int .i64 a0_1) := bc BK133 1; have hfz44_0 := blk_frozen BK133.out 0; have hfz44_1 := blk_frozen BK133.out 1; have hcz45_0 : w39.cell? ⟨gb135, 0, none⟩ = some (.int .i64 0) := bc BK135 0; have hcz45_1 : w39.cell? ⟨gb135, 1, none⟩ = some (.int .i64 0) := bc BK135 1; have hfz45_0 := blk_frozen BK135.out 0; have hfz45_1 := blk_frozen BK135.out 1))
  refine bodyPost_ret (results_cell_row rfl _ _ gb135 24 #[.int .i64 a0_0, .int .i64 a0_1] (0, 0) _ rfl (by (with_reducible repeat (first | refine blk_drewN ?_ _ | refine blk_drew ?_ | refine blk_alloc ?_ _)); refine blk_put (cs := #[.int .i64 a0_0, .int .i64 0]) ?_ 1 _ rfl; (with_reducible repeat (first | refine blk_drewN ?_ _ | refine blk_drew ?_ | refine blk_alloc ?_ _)); refine blk_put (cs := #[.int .i64 0, .int .i64 0]) ?_ 0 _ rfl; (with_reducible repeat (first | refine blk_drewN ?_ _ | refine blk_drew ?_ | refine blk_alloc ?_ _)); exact BK135.out) Try.underlying24 rfl (by kernel_rfl)) rfl ?_
  exact ⟨by first | rfl | (simp [errW_none, errW_some] <;> rfl) | (simp [*, errW_none, errW_some] <;> rfl), Y3 HB GE133 GE134 GE135⟩

/-! ### spec_CmpTurn: function 60 -/
def spec_CmpTurn.f (a0 : Int) : Option (Int) := if a0 = 3 then (some 5) else (if a0 = 4 then (some 6) else (if a0 = 5 then (some 3) else (if a0 = 6 then (some 4) else (if a0 = 1 then (some a0) else (if a0 = 2 then (some a0) else (some 0))))))
set_option maxHeartbeats 8000000 in
set_option maxRecDepth 100000 in
theorem spec_CmpTurn.calls (a0 : Int) (r : Int) (w : World) (h : spec_CmpTurn.f a0 = some r) :
  Calls Try.prog 60 #[.int .i64 a0] w fun e w' => e = .returned (.int .i64 r) ∧ Drawn0 w w' := by
 have H : (if a0 = 3 then (some 5) else (if a0 = 4 then (some 6) else (if a0 = 5 then (some 3) else (if a0 = 6 then (some 4) else (if a0 = 1 then (some a0) else (if a0 = 2 then (some a0) else (some 0))))))) = some r := h
 clear h
 by_cases c2 : a0 = 3
 ·rw [if_pos c2] at H
  have c2b0 : (a0 == 3) = true := beq_iff_eq.mpr c2
  have c2b1 : (a0 != 3) = false := bne_eq_false_iff_eq.mpr c2
  clear c2
  obtain rfl := Option.some.inj H
  go_enter Try.func60, Try.ntmps60
  go_wp2
  go_ret
  exact ⟨by first | rfl | (simp; done) | (simp [*]; done), by repeat (first | exact Drawn0.refl _ | apply Drawn0.step)⟩
 ·rw [if_neg c2] at H
  have c2b0 : (a0 == 3) = false := beq_eq_false_iff_ne.mpr c2
  have c2b1 : (a0 != 3) = true := bne_iff_ne.mpr c2
  by_cases c3 : a0 = 4
  ·rw [if_pos c3] at H
   have c3b0 : (a0 == 4) = true := beq_iff_eq.mpr c3
   have c3b1 : (a0 != 4) = false := bne_eq_false_iff_eq.mpr c3
   clear c3
   obtain rfl := Option.some.inj H
   go_enter Try.func60, Try.ntmps60
   go_wp2
   go_ret
   exact ⟨by first | rfl | (simp; done) | (simp [*]; done), by repeat (first | exact Drawn0.refl _ | apply Drawn0.step)⟩
  ·rw [if_neg c3] at H
   have c3b0 : (a0 == 4) = false := beq_eq_false_iff_ne.mpr c3
   have c3b1 : (a0 != 4) = true := bne_iff_ne.mpr c3
   by_cases c4 : a0 = 5
   ·rw [if_pos c4] at H
    have c4b0 : (a0 == 5) = true := beq_iff_eq.mpr c4
    have c4b1 : (a0 != 5) = false := bne_eq_false_iff_eq.mpr c4
    clear c4
    obtain rfl := Option.some.inj H
    go_enter Try.func60, Try.ntmps60
    go_wp2
    go_ret
    exact ⟨by first | rfl | (simp; done) | (simp [*]; done), by repeat (first | exact Drawn0.refl _ | apply Drawn0.step)⟩
   ·rw [if_neg c4] at H
    have c4b0 : (a0 == 5) = false := beq_eq_false_iff_ne.mpr c4
    have c4b1 : (a0 != 5) = true := bne_iff_ne.mpr c4
    by_cases c5 : a0 = 6
    ·rw [if_pos c5] at H
     have c5b0 : (a0 == 6) = true := beq_iff_eq.mpr c5
     have c5b1 : (a0 != 6) = false := bne_eq_false_iff_eq.mpr c5
     clear c5
     obtain rfl := Option.some.inj H
     go_enter Try.func60, Try.ntmps60
     go_wp2
     go_ret
     exact ⟨by first | rfl | (simp; done) | (simp [*]; done), by repeat (first | exact Drawn0.refl _ | apply Drawn0.step)⟩
    ·rw [if_neg c5] at H
     have c5b0 : (a0 == 6) = false := beq_eq_false_iff_ne.mpr c5
     have c5b1 : (a0 != 6) = true := bne_iff_ne.mpr c5
     by_cases c6 : a0 = 1
     ·rw [if_pos c6] at H
      have c6b0 : (a0 == 1) = true := beq_iff_eq.mpr c6
      have c6b1 : (a0 != 1) = false := bne_eq_false_iff_eq.mpr c6
      clear c6
      obtain rfl := Option.some.inj H
      go_enter Try.func60, Try.ntmps60
      go_wp2
      go_ret
      exact ⟨by first | rfl | (simp; done) | (simp [*]; done), by repeat (first | exact Drawn0.refl _ | apply Drawn0.step)⟩
     ·rw [if_neg c6] at H
      have c6b0 : (a0 == 1) = false := beq_eq_false_iff_ne.mpr c6
      have c6b1 : (a0 != 1) = true := bne_iff_ne.mpr c6
      by_cases c7 : a0 = 2
      ·rw [if_pos c7] at H
       have c7b0 : (a0 == 2) = true := beq_iff_eq.mpr c7
       have c7b1 : (a0 != 2) = false := bne_eq_false_iff_eq.mpr c7
       clear c7
       obtain rfl := Option.some.inj H
       go_enter Try.func60, Try.ntmps60
       go_wp2
       go_ret
       exact ⟨by first | rfl | (simp; done) | (simp [*]; done), by repeat (first | exact Drawn0.refl _ | apply Drawn0.step)⟩
      ·rw [if_neg c7] at H
       have c7b0 : (a0 == 2) = false := beq_eq_false_iff_ne.mpr c7
       have c7b1 : (a0 != 2) = true := bne_iff_ne.mpr c7
       obtain rfl := Option.some.inj H
       go_enter Try.func60, Try.ntmps60
       go_wp2
       go_ret
       exact ⟨by first | rfl | (simp; done) | (simp [*]; done), by repeat (first | exact Drawn0.refl _ | apply Drawn0.step)⟩

end Go.Proofs.Ytlipfemjlicbbaa.PFnExactRangeCmp
