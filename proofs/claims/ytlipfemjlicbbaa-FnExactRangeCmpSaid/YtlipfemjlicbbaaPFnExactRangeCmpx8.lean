/- Written by this session's own driver (wip/dprint.py): the functions that the law FnExactRangeCmp reaches, as Lean functions, each with its contract. -/
import Derived.Test.YtlipfemjlicbbaaPFnExactRangeCmpx0
import Derived.Test.YtlipfemjlicbbaaPFnExactRangeCmpx7
import Derived.Test.YtlipfemjlicbbaaSv
namespace Go.Proofs.Ytlipfemjlicbbaa.PFnExactRangeCmp
open Go.RowKit Go.Proofs.YtlipfemjlicbbaaV.PrintWords Go.Proofs.YtlipfemjlicbbaaV.PrintLast Go.Proofs.YtlipfemjlicbbaaV.PrintMore Go.Proofs.YtlipfemjlicbbaaSv
attribute [local go_sem] max2_int min2_int max_two min_two max_three min_three max_four min_four   -- for this text's walks alone
set_option linter.unusedVariables false
set_option linter.unusedSimpArgs false

/-! ### impl_RangeMeet: function 20 -/
def impl_RangeMeet.j0 : Nat → Bool → Int → Int → Int → Int → Option (Int × Int)
 | 0, _, _, _, _, _ => none
 | k + 1, x20, x199000, x199001, x200000, x200001 => if x20 = true then ((impl_rangeNone.f).bind fun bt205 => (some (bt205.1, bt205.2))) else ((impl_rangeFrom.f (mx x199000 x200000) (mn x199001 x200001)).bind fun bt207 => (some (bt207.1, bt207.2)))
def impl_RangeMeet.f (k : Nat) (a0_0 : Int) (a0_1 : Int) (a1_0 : Int) (a1_1 : Int) : Option (Int × Int) := (impl_RangeOk.f a0_0 a0_1).bind fun t201 => (if t201 = true then ((impl_RangeOk.f a1_0 a1_1).bind fun t202 => (if t202 = true then ((impl_Range_empty.f a0_0 a0_1).bind fun t203 => (if t203 = true then (impl_RangeMeet.j0 k true a0_0 a0_1 a1_0 a1_1) else ((impl_Range_empty.f a1_0 a1_1).bind fun t204 => (impl_RangeMeet.j0 k t204 a0_0 a0_1 a1_0 a1_1)))) else (impl_RangeMeet.j0 k true a0_0 a0_1 a1_0 a1_1))) else (impl_RangeMeet.j0 k true a0_0 a0_1 a1_0 a1_1))
theorem impl_RangeMeet.mono_l : ∀ k, (∀ y0 y1 y2 y3 y4, LeO (impl_RangeMeet.j0 k y0 y1 y2 y3 y4) (impl_RangeMeet.j0 (k + 1) y0 y1 y2 y3 y4))
 | 0 => fun _ _ _ _ _ r h => by simp [impl_RangeMeet.j0] at h
 | k + 1 => by
  have ih0 := impl_RangeMeet.mono_l k
  ·intro y0 y1 y2 y3 y4
   unfold impl_RangeMeet.j0
   repeat' first
   | (with_reducible exact ih0 _ _ _ _ _)
   | (with_reducible exact LeO.refl _)
   | (with_reducible exact LeO.none _)
   | (with_reducible refine LeO.ite ?_ ?_)
   | (with_reducible refine LeO.bind ?_ (fun _ => ?_))
   | exact ih0 _ _ _ _ _
   | exact LeO.none _
   | refine LeO.ite ?_ ?_
   | refine LeO.bind ?_ (fun _ => ?_)
theorem impl_RangeMeet.mono : ∀ a0 a1 a2 a3 k, LeO (impl_RangeMeet.f k a0 a1 a2 a3) (impl_RangeMeet.f (k + 1) a0 a1 a2 a3) := by
 intro a0 a1 a2 a3 k
 have ih0 := impl_RangeMeet.mono_l k
 unfold impl_RangeMeet.f
 repeat' first
   | (with_reducible exact ih0 _ _ _ _ _)
   | (with_reducible exact LeO.refl _)
   | (with_reducible exact LeO.none _)
   | (with_reducible refine LeO.ite ?_ ?_)
   | (with_reducible refine LeO.bind ?_ (fun _ => ?_))
   | exact ih0 _ _ _ _ _
   | exact LeO.none _
   | refine LeO.ite ?_ ?_
   | refine LeO.bind ?_ (fun _ => ?_)
set_option maxHeartbeats 8000000 in
set_option maxRecDepth 100000 in
theorem impl_RangeMeet.calls (k : Nat) (a0_0 : Int) (a0_1 : Int) (a1_0 : Int) (a1_1 : Int) (r1 : Int) (r2 : Int) (w : World) (h : impl_RangeMeet.f k a0_0 a0_1 a1_0 a1_1 = some (r1, r2)) :
  Calls Try.prog 20 #[.agg #[.int .i64 a0_0, .int .i64 a0_1], .agg #[.int .i64 a1_0, .int .i64 a1_1]] w fun e w' => e = .returned (.agg #[.int .i64 r1, .int .i64 r2]) ∧ Below w.heap.size w w' := by
 have hu24 := Try.underlying24
 have HB := am (Below.refl w.heap.size w)
 have H : ((impl_RangeOk.f a0_0 a0_1).bind fun t201 => (if t201 = true then ((impl_RangeOk.f a1_0 a1_1).bind fun t202 => (if t202 = true then ((impl_Range_empty.f a0_0 a0_1).bind fun t203 => (if t203 = true then (impl_RangeMeet.j0 k true a0_0 a0_1 a1_0 a1_1) else ((impl_Range_empty.f a1_0 a1_1).bind fun t204 => (impl_RangeMeet.j0 k t204 a0_0 a0_1 a1_0 a1_1)))) else (impl_RangeMeet.j0 k true a0_0 a0_1 a1_0 a1_1))) else (impl_RangeMeet.j0 k true a0_0 a0_1 a1_0 a1_1))) = some (r1, r2) := h
 clear h
 have HC3 := am H
 clear H
 go_enter Try.func20, Try.ntmps20
 go_upto_region 1 with (first | ((with_reducible refine gate_dst (N := 2) rfl ?_); refine box_event ?hg (N := 2) ?hd (cs := #[.int .i64 a0_0, .int .i64 a0_1]) (t := 24) ?hr ?_; (case hd => rfl); (case hg => rfl); (case hr => first | (go_simp; done) | (go_simp; rfl)); intro gb198 hg w4 hbox hb; have n0_ := am (below_step (Y0 HB) hb); have n1_ := am (hbox); have n2_ := am ((by rw [hg]; exact (below_size (Y0 HB)) : w.heap.size ≤ gb198)); have n3_ := am ((by rw [hg]; exact (below_size (Y0 HB)) : w.heap.size ≤ gb198)); clear HB; have HB := n0_; have BK198 := n1_; have GW198 := n2_; have GE198 := n3_; clear n0_ n1_ n2_ n3_; clear hb hbox hg) | ((with_reducible refine gate_dst (N := 3) rfl ?_); refine box_event ?hg (N := 3) ?hd (cs := #[.int .i64 a1_0, .int .i64 a1_1]) (t := 24) ?hr ?_; (case hd => rfl); (case hg => rfl); (case hr => first | (go_simp; done) | (go_simp; rfl)); intro gb199 hg w5 hbox hb; have n0_ := am (blk_below (g := gb198) (o := b2 a0_0 a0_1 24) (Z BK198) hb); have n1_ := am (below_step (Y1 HB GE198) hb); have n2_ := am (hbox); have n3_ := am ((by rw [hg]; exact (below_size (Y1 HB GE198)) : w.heap.size ≤ gb199)); have n4_ := am ((by rw [hg]; exact (below_size (Y1 HB GE198)) : w.heap.size ≤ gb199)); have n5_ := am ((nl (o := b2 a0_0 a0_1 24) hg (Z BK198) : gb198 ≠ gb199)); have n6_ := am ((ng (o := b2 a0_0 a0_1 24) hg (Z BK198) : gb199 ≠ gb198)); clear BK198; clear HB; have BK198 := n0_; have HB := n1_; have BK199 := n2_; have GW199 := n3_; have GE199 := n4_; have NB198_199 := n5_; have NB199_198 := n6_; clear n0_ n1_ n2_ n3_ n4_ n5_ n6_; clear hb hbox hg) | ((with_reducible refine gate_dst (N := 4) rfl ?_); refine box_event ?hg (N := 4) ?hd (cs := #[.int .i64 0, .int .i64 0]) (t := 24) ?hr ?_; (case hd => rfl); (case hg => rfl); (case hr => first | (go_simp; done) | (go_simp; rfl)); intro gb200 hg w6 hbox hb; have n0_ := am (blk_below (g := gb198) (o := b2 a0_0 a0_1 24) (Z BK198) hb); have n1_ := am (blk_below (g := gb199) (o := b2 a1_0 a1_1 24) (Z BK199) hb); have n2_ := am (below_step (Y2 HB GE198 GE199) hb); have n3_ := am (hbox); have n4_ := am ((by rw [hg]; exact (below_size (Y2 HB GE198 GE199)) : w.heap.size ≤ gb200)); have n5_ := am ((by rw [hg]; exact (below_size (Y2 HB GE198 GE199)) : w.heap.size ≤ gb200)); have n6_ := am ((nl (o := b2 a0_0 a0_1 24) hg (Z BK198) : gb198 ≠ gb200)); have n7_ := am ((ng (o := b2 a0_0 a0_1 24) hg (Z BK198) : gb200 ≠ gb198)); have n8_ := am ((nl (o := b2 a1_0 a1_1 24) hg (Z BK199) : gb199 ≠ gb200)); have n9_ := am ((ng (o := b2 a1_0 a1_1 24) hg (Z BK199) : gb200 ≠ gb199)); clear BK198; clear BK199; clear HB; have BK198 := n0_; have BK199 := n1_; have HB := n2_; have BK200 := n3_; have GW200 := n4_; have GE200 := n5_; have NB198_200 := n6_; have NB200_198 := n7_; have NB199_200 := n8_; have NB200_199 := n9_; clear n0_ n1_ n2_ n3_ n4_ n5_ n6_ n7_ n8_ n9_; clear hb hbox hg))
 (try simp only [Act.put, List.setIfInBounds_toArray, List.set_cons_zero, List.set_cons_succ])
 go_cut [20] (fun v20 wc => ∃ (kq : Nat) (x20_2 : Bool), v20 = .bool x20_2 ∧ Aside0 (impl_RangeMeet.j0 kq x20_2 a0_0 a0_1 a1_0 a1_1 = some (r1, r2)) ∧ Aside0 (kq ≤ k) ∧ Aside0 (wc.heap[gb198]? = some (.cells #[.int .i64 a0_0, .int .i64 a0_1] 24 (0, 0))) ∧ Aside0 (wc.heap[gb199]? = some (.cells #[.int .i64 a1_0, .int .i64 a1_1] 24 (0, 0))) ∧ Aside0 (wc.heap[gb200]? = some (.cells #[.int .i64 0, .int .i64 0] 24 (0, 0))) ∧ Aside0 (Below w.heap.size w wc))
 case first =>
  have H := HC3.out
  clear HC3
  replace H := Option.bind_eq_some_iff.mp H
  obtain ⟨t201, A70, H⟩ := H
  replace H : (if t201 = true then ((impl_RangeOk.f a1_0 a1_1).bind fun t202 => (if t202 = true then ((impl_Range_empty.f a0_0 a0_1).bind fun t203 => (if t203 = true then (impl_RangeMeet.j0 k true a0_0 a0_1 a1_0 a1_1) else ((impl_Range_empty.f a1_0 a1_1).bind fun t204 => (impl_RangeMeet.j0 k t204 a0_0 a0_1 a1_0 a1_1)))) else (impl_RangeMeet.j0 k true a0_0 a0_1 a1_0 a1_1))) else (impl_RangeMeet.j0 k true a0_0 a0_1 a1_0 a1_1)) = some (r1, r2) := H
  have A7 := am A70
  clear A70
  by_cases c8 : t201 = true
  ·subst c8
   have H1 : ((impl_RangeOk.f a1_0 a1_1).bind fun t202 => (if t202 = true then ((impl_Range_empty.f a0_0 a0_1).bind fun t203 => (if t203 = true then (impl_RangeMeet.j0 k true a0_0 a0_1 a1_0 a1_1) else ((impl_Range_empty.f a1_0 a1_1).bind fun t204 => (impl_RangeMeet.j0 k t204 a0_0 a0_1 a1_0 a1_1)))) else (impl_RangeMeet.j0 k true a0_0 a0_1 a1_0 a1_1))) = some (r1, r2) := by rw [if_pos rfl] at H; exact H
   clear H
   have H := H1
   clear H1
   replace H := Option.bind_eq_some_iff.mp H
   obtain ⟨t202, A90, H⟩ := H
   replace H : (if t202 = true then ((impl_Range_empty.f a0_0 a0_1).bind fun t203 => (if t203 = true then (impl_RangeMeet.j0 k true a0_0 a0_1 a1_0 a1_1) else ((impl_Range_empty.f a1_0 a1_1).bind fun t204 => (impl_RangeMeet.j0 k t204 a0_0 a0_1 a1_0 a1_1)))) else (impl_RangeMeet.j0 k true a0_0 a0_1 a1_0 a1_1)) = some (r1, r2) := H
   have A9 := am A90
   clear A90
   by_cases c10 : t202 = true
   ·subst c10
    have H1 : ((impl_Range_empty.f a0_0 a0_1).bind fun t203 => (if t203 = true then (impl_RangeMeet.j0 k true a0_0 a0_1 a1_0 a1_1) else ((impl_Range_empty.f a1_0 a1_1).bind fun t204 => (impl_RangeMeet.j0 k t204 a0_0 a0_1 a1_0 a1_1)))) = some (r1, r2) := by rw [if_pos rfl] at H; exact H
    clear H
    have H := H1
    clear H1
    replace H := Option.bind_eq_some_iff.mp H
    obtain ⟨t203, A110, H⟩ := H
    replace H : (if t203 = true then (impl_RangeMeet.j0 k true a0_0 a0_1 a1_0 a1_1) else ((impl_Range_empty.f a1_0 a1_1).bind fun t204 => (impl_RangeMeet.j0 k t204 a0_0 a0_1 a1_0 a1_1))) = some (r1, r2) := H
    have A11 := am A110
    clear A110
    by_cases c12 : t203 = true
    ·subst c12
     have H1 : (impl_RangeMeet.j0 k true a0_0 a0_1 a1_0 a1_1) = some (r1, r2) := by rw [if_pos rfl] at H; exact H
     clear H
     have H := H1
     clear H1
     have H' := am H
     clear H
     have hnb13 := NB198_199.out
     have hnc13 := NB199_198.out
     have hnb14 := NB198_200.out
     have hnc14 := NB200_198.out
     have hcz15_0 : w6.cell? ⟨gb198, 0, none⟩ = some (.int .i64 a0_0) := bc BK198 0
     have hcz15_1 : w6.cell? ⟨gb198, 1, none⟩ = some (.int .i64 a0_1) := bc BK198 1
     have hfz15_0 := blk_frozen BK198.out 0
     have hfz15_1 := blk_frozen BK198.out 1
     go_wp2_with (first | ((with_reducible refine gate_callee (f := 51) rfl ?_); refine goesL_ (some 6) rfl rfl Try.func51 (by kernel_rfl) rfl #[.agg #[.int .i64 a0_0, .int .i64 a0_1]] rfl mz ?_; (with_reducible refine (impl_RangeOk.calls a0_0 a0_1 true _ A7.out).mono ?_); rintro e w16 ⟨rfl, hb⟩; refine ⟨_, rfl, ?_⟩; have n0_ := am (blk_below (g := gb198) (o := b2 a0_0 a0_1 24) (Z BK198) hb); have n1_ := am (blk_below (g := gb199) (o := b2 a1_0 a1_1 24) (Z BK199) hb); have n2_ := am (blk_below (g := gb200) (o := b2 0 0 24) (Z BK200) hb); have n3_ := am (below_step (Y3 HB GE198 GE199 GE200) hb); clear BK198; clear BK199; clear BK200; clear HB; have BK198 := n0_; have BK199 := n1_; have BK200 := n2_; have HB := n3_; clear n0_ n1_ n2_ n3_; (try clear hb); (try clear hb2); (try clear hk); (try clear hi); have hnb17 := NB199_200.out; have hnc17 := NB200_199.out; have hcz18_0 : w16.cell? ⟨gb199, 0, none⟩ = some (.int .i64 a1_0) := bc BK199 0; have hcz18_1 : w16.cell? ⟨gb199, 1, none⟩ = some (.int .i64 a1_1) := bc BK199 1; have hfz18_0 := blk_frozen BK199.out 0; have hfz18_1 := blk_frozen BK199.out 1) | (go_at_call 51; (with_reducible refine (impl_RangeOk.calls a1_0 a1_1 true _ A9.out).mono ?_); rintro e w19 ⟨rfl, hb⟩; have n0_ := am (blk_below (g := gb198) (o := b2 a0_0 a0_1 24) (Z BK198) hb); have n1_ := am (blk_below (g := gb199) (o := b2 a1_0 a1_1 24) (Z BK199) hb); have n2_ := am (blk_below (g := gb200) (o := b2 0 0 24) (Z BK200) hb); have n3_ := am (below_step (Y3 HB GE198 GE199 GE200) hb); clear BK198; clear BK199; clear BK200; clear HB; have BK198 := n0_; have BK199 := n1_; have BK200 := n2_; have HB := n3_; clear n0_ n1_ n2_ n3_; (try clear hb); (try clear hb2); (try clear hk); (try clear hi); have hcz20_0 : w19.cell? ⟨gb198, 0, none⟩ = some (.int .i64 a0_0) := bc BK198 0; have hcz20_1 : w19.cell? ⟨gb198, 1, none⟩ = some (.int .i64 a0_1) := bc BK198 1; have hfz20_0 := blk_frozen BK198.out 0; have hfz20_1 := blk_frozen BK198.out 1) | (go_at_call 53; (with_reducible refine (impl_Range_empty.calls a0_0 a0_1 true _ A11.out).mono ?_); rintro e w21 ⟨rfl, hb⟩; have n0_ := am (blk_below (g := gb198) (o := b2 a0_0 a0_1 24) (Z BK198) hb); have n1_ := am (blk_below (g := gb199) (o := b2 a1_0 a1_1 24) (Z BK199) hb); have n2_ := am (blk_below (g := gb200) (o := b2 0 0 24) (Z BK200) hb); have n3_ := am (below_step (Y3 HB GE198 GE199 GE200) hb); clear BK198; clear BK199; clear BK200; clear HB; have BK198 := n0_; have BK199 := n1_; have BK200 := n2_; have HB := n3_; clear n0_ n1_ n2_ n3_; (try clear hb); (try clear hb2); (try clear hk); (try clear hi)))
     go_meet
     case rel => exact ⟨_, (true), (by first | rfl | (simp; done) | (simp [*]; done)), H', ⟨by first | omega | exact Nat.le_refl _⟩, ⟨Z BK198⟩, ⟨Z BK199⟩, ⟨Z BK200⟩, ⟨Y3 HB GE198 GE199 GE200⟩⟩
    ·replace c12 := Bool.eq_false_iff.mpr c12
     subst c12
     have H1 : ((impl_Range_empty.f a1_0 a1_1).bind fun t204 => (impl_RangeMeet.j0 k t204 a0_0 a0_1 a1_0 a1_1)) = some (r1, r2) := by rw [if_neg (show ¬ (false = true) by decide)] at H; exact H
     clear H
     have H := H1
     clear H1
     replace H := Option.bind_eq_some_iff.mp H
     obtain ⟨t204, A220, H⟩ := H
     replace H : (impl_RangeMeet.j0 k t204 a0_0 a0_1 a1_0 a1_1) = some (r1, r2) := H
     have A22 := am A220
     clear A220
     have H' := am H
     clear H
     have hnb23 := NB198_199.out
     have hnc23 := NB199_198.out
     have hnb24 := NB198_200.out
     have hnc24 := NB200_198.out
     have hcz25_0 : w6.cell? ⟨gb198, 0, none⟩ = some (.int .i64 a0_0) := bc BK198 0
     have hcz25_1 : w6.cell? ⟨gb198, 1, none⟩ = some (.int .i64 a0_1) := bc BK198 1
     have hfz25_0 := blk_frozen BK198.out 0
     have hfz25_1 := blk_frozen BK198.out 1
     go_wp2_with (first | ((with_reducible refine gate_callee (f := 51) rfl ?_); refine goesL_ (some 6) rfl rfl Try.func51 (by kernel_rfl) rfl #[.agg #[.int .i64 a0_0, .int .i64 a0_1]] rfl mz ?_; (with_reducible refine (impl_RangeOk.calls a0_0 a0_1 true _ A7.out).mono ?_); rintro e w26 ⟨rfl, hb⟩; refine ⟨_, rfl, ?_⟩; have n0_ := am (blk_below (g := gb198) (o := b2 a0_0 a0_1 24) (Z BK198) hb); have n1_ := am (blk_below (g := gb199) (o := b2 a1_0 a1_1 24) (Z BK199) hb); have n2_ := am (blk_below (g := gb200) (o := b2 0 0 24) (Z BK200) hb); have n3_ := am (below_step (Y3 HB GE198 GE199 GE200) hb); clear BK198; clear BK199; clear BK200; clear HB; have BK198 := n0_; have BK199 := n1_; have BK200 := n2_; have HB := n3_; clear n0_ n1_ n2_ n3_; (try clear hb); (try clear hb2); (try clear hk); (try clear hi); have hnb27 := NB199_200.out; have hnc27 := NB200_199.out; have hcz28_0 : w26.cell? ⟨gb199, 0, none⟩ = some (.int .i64 a1_0) := bc BK199 0; have hcz28_1 : w26.cell? ⟨gb199, 1, none⟩ = some (.int .i64 a1_1) := bc BK199 1; have hfz28_0 := blk_frozen BK199.out 0; have hfz28_1 := blk_frozen BK199.out 1) | (go_at_call 51; (with_reducible refine (impl_RangeOk.calls a1_0 a1_1 true _ A9.out).mono ?_); rintro e w29 ⟨rfl, hb⟩; have n0_ := am (blk_below (g := gb198) (o := b2 a0_0 a0_1 24) (Z BK198) hb); have n1_ := am (blk_below (g := gb199) (o := b2 a1_0 a1_1 24) (Z BK199) hb); have n2_ := am (blk_below (g := gb200) (o := b2 0 0 24) (Z BK200) hb); have n3_ := am (below_step (Y3 HB GE198 GE199 GE200) hb); clear BK198; clear BK199; clear BK200; clear HB; have BK198 := n0_; have BK199 := n1_; have BK200 := n2_; have HB := n3_; clear n0_ n1_ n2_ n3_; (try clear hb); (try clear hb2); (try clear hk); (try clear hi); have hcz30_0 : w29.cell? ⟨gb198, 0, none⟩ = some (.int .i64 a0_0) := bc BK198 0; have hcz30_1 : w29.cell? ⟨gb198, 1, none⟩ = some (.int .i64 a0_1) := bc BK198 1; have hfz30_0 := blk_frozen BK198.out 0; have hfz30_1 := blk_frozen BK198.out 1) | (go_at_call 53; (with_reducible refine (impl_Range_empty.calls a0_0 a0_1 false _ A11.out).mono ?_); rintro e w31 ⟨rfl, hb⟩; have n0_ := am (blk_below (g := gb198) (o := b2 a0_0 a0_1 24) (Z BK198) hb); have n1_ := am (blk_below (g := gb199) (o := b2 a1_0 a1_1 24) (Z BK199) hb); have n2_ := am (blk_below (g := gb200) (o := b2 0 0 24) (Z BK200) hb); have n3_ := am (below_step (Y3 HB GE198 GE199 GE200) hb); clear BK198; clear BK199; clear BK200; clear HB; have BK198 := n0_; have BK199 := n1_; have BK200 := n2_; have HB := n3_; clear n0_ n1_ n2_ n3_; (try clear hb); (try clear hb2); (try clear hk); (try clear hi); have hcz32_0 : w31.cell? ⟨gb199, 0, none⟩ = some (.int .i64 a1_0) := bc BK199 0; have hcz32_1 : w31.cell? ⟨gb199, 1, none⟩ = some (.int .i64 a1_1) := bc BK199 1; have hfz32_0 := blk_frozen BK199.out 0; have hfz32_1 := blk_frozen BK199.out 1) | (go_at_call 53; (with_reducible refine (impl_Range_empty.calls a1_0 a1_1 t204 _ A22.out).mono ?_); rintro e w33 ⟨rfl, hb⟩; have n0_ := am (blk_below (g := gb198) (o := b2 a0_0 a0_1 24) (Z BK198) hb); have n1_ := am (blk_below (g := gb199) (o := b2 a1_0 a1_1 24) (Z BK199) hb); have n2_ := am (blk_below (g := gb200) (o := b2 0 0 24) (Z BK200) hb); have n3_ := am (below_step (Y3 HB GE198 GE199 GE200) hb); clear BK198; clear BK199; clear BK200; clear HB; have BK198 := n0_; have BK199 := n1_; have BK200 := n2_; have HB := n3_; clear n0_ n1_ n2_ n3_; (try clear hb); (try clear hb2); (try clear hk); (try clear hi)))
     go_meet
     case rel => exact ⟨_, (t204), (by first | rfl | (simp; done) | (simp [*]; done)), H', ⟨by first | omega | exact Nat.le_refl _⟩, ⟨Z BK198⟩, ⟨Z BK199⟩, ⟨Z BK200⟩, ⟨Y3 HB GE198 GE199 GE200⟩⟩
   ·replace c10 := Bool.eq_false_iff.mpr c10
    subst c10
    have H1 : (impl_RangeMeet.j0 k true a0_0 a0_1 a1_0 a1_1) = some (r1, r2) := by rw [if_neg (show ¬ (false = true) by decide)] at H; exact H
    clear H
    have H := H1
    clear H1
    have H' := am H
    clear H
    have hnb34 := NB198_199.out
    have hnc34 := NB199_198.out
    have hnb35 := NB198_200.out
    have hnc35 := NB200_198.out
    have hcz36_0 : w6.cell? ⟨gb198, 0, none⟩ = some (.int .i64 a0_0) := bc BK198 0
    have hcz36_1 : w6.cell? ⟨gb198, 1, none⟩ = some (.int .i64 a0_1) := bc BK198 1
    have hfz36_0 := blk_frozen BK198.out 0
    have hfz36_1 := blk_frozen BK198.out 1
    go_wp2_with (first | ((with_reducible refine gate_callee (f := 51) rfl ?_); refine goesL_ (some 6) rfl rfl Try.func51 (by kernel_rfl) rfl #[.agg #[.int .i64 a0_0, .int .i64 a0_1]] rfl mz ?_; (with_reducible refine (impl_RangeOk.calls a0_0 a0_1 true _ A7.out).mono ?_); rintro e w37 ⟨rfl, hb⟩; refine ⟨_, rfl, ?_⟩; have n0_ := am (blk_below (g := gb198) (o := b2 a0_0 a0_1 24) (Z BK198) hb); have n1_ := am (blk_below (g := gb199) (o := b2 a1_0 a1_1 24) (Z BK199) hb); have n2_ := am (blk_below (g := gb200) (o := b2 0 0 24) (Z BK200) hb); have n3_ := am (below_step (Y3 HB GE198 GE199 GE200) hb); clear BK198; clear BK199; clear BK200; clear HB; have BK198 := n0_; have BK199 := n1_; have BK200 := n2_; have HB := n3_; clear n0_ n1_ n2_ n3_; (try clear hb); (try clear hb2); (try clear hk); (try clear hi); have hnb38 := NB199_200.out; have hnc38 := NB200_199.out; have hcz39_0 : w37.cell? ⟨gb199, 0, none⟩ = some (.int .i64 a1_0) := bc BK199 0; have hcz39_1 : w37.cell? ⟨gb199, 1, none⟩ = some (.int .i64 a1_1) := bc BK199 1; have hfz39_0 := blk_frozen BK199.out 0; have hfz39_1 := blk_frozen BK199.out 1) | (go_at_call 51; (with_reducible refine (impl_RangeOk.calls a1_0 a1_1 false _ A9.out).mono ?_); rintro e w40 ⟨rfl, hb⟩; have n0_ := am (blk_below (g := gb198) (o := b2 a0_0 a0_1 24) (Z BK198) hb); have n1_ := am (blk_below (g := gb199) (o := b2 a1_0 a1_1 24) (Z BK199) hb); have n2_ := am (blk_below (g := gb200) (o := b2 0 0 24) (Z BK200) hb); have n3_ := am (below_step (Y3 HB GE198 GE199 GE200) hb); clear BK198; clear BK199; clear BK200; clear HB; have BK198 := n0_; have BK199 := n1_; have BK200 := n2_; have HB := n3_; clear n0_ n1_ n2_ n3_; (try clear hb); (try clear hb2); (try clear hk); (try clear hi)))
    go_meet
    case rel => exact ⟨_, (true), (by first | rfl | (simp; done) | (simp [*]; done)), H', ⟨by first | omega | exact Nat.le_refl _⟩, ⟨Z BK198⟩, ⟨Z BK199⟩, ⟨Z BK200⟩, ⟨Y3 HB GE198 GE199 GE200⟩⟩
  ·replace c8 := Bool.eq_false_iff.mpr c8
   subst c8
   have H1 : (impl_RangeMeet.j0 k true a0_0 a0_1 a1_0 a1_1) = some (r1, r2) := by rw [if_neg (show ¬ (false = true) by decide)] at H; exact H
   clear H
   have H := H1
   clear H1
   have H' := am H
   clear H
   have hnb41 := NB198_199.out
   have hnc41 := NB199_198.out
   have hnb42 := NB198_200.out
   have hnc42 := NB200_198.out
   have hcz43_0 : w6.cell? ⟨gb198, 0, none⟩ = some (.int .i64 a0_0) := bc BK198 0
   have hcz43_1 : w6.cell? ⟨gb198, 1, none⟩ = some (.int .i64 a0_1) := bc BK198 1
   have hfz43_0 := blk_frozen BK198.out 0
   have hfz43_1 := blk_frozen BK198.out 1
   go_wp2_with (first | ((with_reducible refine gate_callee (f := 51) rfl ?_); refine goesL_ (some 6) rfl rfl Try.func51 (by kernel_rfl) rfl #[.agg #[.int .i64 a0_0, .int .i64 a0_1]] rfl mz ?_; (with_reducible refine (impl_RangeOk.calls a0_0 a0_1 false _ A7.out).mono ?_); rintro e w44 ⟨rfl, hb⟩; refine ⟨_, rfl, ?_⟩; have n0_ := am (blk_below (g := gb198) (o := b2 a0_0 a0_1 24) (Z BK198) hb); have n1_ := am (blk_below (g := gb199) (o := b2 a1_0 a1_1 24) (Z BK199) hb); have n2_ := am (blk_below (g := gb200) (o := b2 0 0 24) (Z BK200) hb); have n3_ := am (below_step (Y3 HB GE198 GE199 GE200) hb); clear BK198; clear BK199; clear BK200; clear HB; have BK198 := n0_; have BK199 := n1_; have BK200 := n2_; have HB := n3_; clear n0_ n1_ n2_ n3_; (try clear hb); (try clear hb2); (try clear hk); (try clear hi)))
   go_meet
   case rel => exact ⟨_, (true), (by first | rfl | (simp; done) | (simp [*]; done)), H', ⟨by first | omega | exact Nat.le_refl _⟩, ⟨Z BK198⟩, ⟨Z BK199⟩, ⟨Z BK200⟩, ⟨Y3 HB GE198 GE199 GE200⟩⟩
 case rest =>
  clear HC3
  try clear c1
  try clear c2
  try clear p2
  try clear c3
  try clear c4
  try clear c5
  try clear c8
  try clear c10
  try clear c12
  try clear c13
  try clear c14
  try clear c17
  try clear c20
  try clear c23
  try clear c24
  try clear c27
  try clear c34
  try clear c35
  try clear c38
  try clear c41
  try clear c42
  try clear hcz15_0
  try clear hcz15_1
  try clear hcz18_0
  try clear hcz18_1
  try clear hcz20_0
  try clear hcz20_1
  try clear hcz25_0
  try clear hcz25_1
  try clear hcz28_0
  try clear hcz28_1
  try clear hcz30_0
  try clear hcz30_1
  try clear hcz32_0
  try clear hcz32_1
  try clear hcz36_0
  try clear hcz36_1
  try clear hcz39_0
  try clear hcz39_1
  try clear hcz43_0
  try clear hcz43_1
  try clear hfz15_0
  try clear hfz15_1
  try clear hfz18_0
  try clear hfz18_1
  try clear hfz20_0
  try clear hfz20_1
  try clear hfz25_0
  try clear hfz25_1
  try clear hfz28_0
  try clear hfz28_1
  try clear hfz30_0
  try clear hfz30_1
  try clear hfz32_0
  try clear hfz32_1
  try clear hfz36_0
  try clear hfz36_1
  try clear hfz39_0
  try clear hfz39_1
  try clear hfz43_0
  try clear hfz43_1
  obtain ⟨kq, x20_2, rfl, HA, HJ2, BK198, BK199, BK200, HB⟩ := hcut
  cases kq with
  | zero => exact absurd HA.out (by simp [impl_RangeMeet.j0])
  | succ kj2 =>
   have H := HA.out
   clear HA
   simp only [impl_RangeMeet.j0] at H
   by_cases c45 : x20_2 = true
   ·subst c45
    have H1 : ((impl_rangeNone.f).bind fun bt205 => (some (bt205.1, bt205.2))) = some (r1, r2) := by rw [if_pos rfl] at H; exact H
    clear H
    have H := H1
    clear H1
    replace H := Option.bind_eq_some_iff.mp H
    obtain ⟨⟨t205, t206⟩, A460, H⟩ := H
    replace H : (some (t205, t206)) = some (r1, r2) := H
    have A46 := am A460
    clear A460
    simp only [Option.some.injEq, Prod.mk.injEq] at H
    obtain ⟨rfl, rfl⟩ := H
    go_wp2_with (first | ((with_reducible refine gate_callee (f := 52) rfl ?_); refine goesL_ (some 21) rfl rfl Try.func52 (by kernel_rfl) rfl #[] rfl mz ?_; (with_reducible refine (impl_rangeNone.calls  t205 t206 _ A46.out).mono ?_); rintro e w47 ⟨rfl, hb⟩; refine ⟨_, rfl, ?_⟩; have n0_ := am (blk_below (g := gb198) (o := b2 a0_0 a0_1 24) (Z BK198) hb); have n1_ := am (blk_below (g := gb199) (o := b2 a1_0 a1_1 24) (Z BK199) hb); have n2_ := am (blk_below (g := gb200) (o := b2 0 0 24) (Z BK200) hb); have n3_ := am (below_step (Y3 HB GE198 GE199 GE200) hb); clear BK198; clear BK199; clear BK200; clear HB; have BK198 := n0_; have BK199 := n1_; have BK200 := n2_; have HB := n3_; clear n0_ n1_ n2_ n3_; (try clear hb); (try clear hb2); (try clear hk); (try clear hi); have hnb48 := NB200_198.out; have hnc48 := NB198_200.out; have hnb49 := NB200_199.out; have hnc49 := NB199_200.out; have hcz50_0 : w47.cell? ⟨gb200, 0, none⟩ = some (.int .i64 0) := bc BK200 0; have hcz50_1 : w47.cell? ⟨gb200, 1, none⟩ = some (.int .i64 0) := bc BK200 1; have hfz50_0 := blk_frozen BK200.out 0; have hfz50_1 := blk_frozen BK200.out 1))
    refine bodyPost_ret (results_cell_row rfl _ _ gb200 24 #[.int .i64 t205, .int .i64 t206] (0, 0) _ rfl (by (with_reducible repeat (first | refine blk_drewN ?_ _ | refine blk_drew ?_ | refine blk_alloc ?_ _)); refine blk_put (cs := #[.int .i64 t205, .int .i64 0]) ?_ 1 _ rfl; (with_reducible repeat (first | refine blk_drewN ?_ _ | refine blk_drew ?_ | refine blk_alloc ?_ _)); refine blk_put (cs := #[.int .i64 0, .int .i64 0]) ?_ 0 _ rfl; (with_reducible repeat (first | refine blk_drewN ?_ _ | refine blk_drew ?_ | refine blk_alloc ?_ _)); exact BK200.out) Try.underlying24 rfl (by kernel_rfl)) rfl ?_
    exact ⟨by first | rfl | (simp [errW_none, errW_some] <;> rfl) | (simp [*, errW_none, errW_some] <;> rfl), Y3 HB GE198 GE199 GE200⟩
   ·replace c45 := Bool.eq_false_iff.mpr c45
    subst c45
    have H1 : ((impl_rangeFrom.f (mx a0_0 a1_0) (mn a0_1 a1_1)).bind fun bt207 => (some (bt207.1, bt207.2))) = some (r1, r2) := by rw [if_neg (show ¬ (false = true) by decide)] at H; exact H
    clear H
    have H := H1
    clear H1
    obtain ⟨ji51, hji51⟩ : ∃ j_ : Int, (mx a0_0 a1_0) = j_ := ⟨_, rfl⟩
    replace H : ((impl_rangeFrom.f (ji51) (mn a0_1 a1_1)).bind fun bt207 => (some (bt207.1, bt207.2))) = some (r1, r2) := by first | (rw [hji51] at H; exact H) | (simp only [hji51] at H ⊢; exact H)
    have hji51_ : (if a0_0 < a1_0 then a1_0 else a0_0) = ji51 := hji51
    obtain ⟨ji52, hji52⟩ : ∃ j_ : Int, (mn a0_1 a1_1) = j_ := ⟨_, rfl⟩
    replace H : ((impl_rangeFrom.f (ji51) (ji52)).bind fun bt207 => (some (bt207.1, bt207.2))) = some (r1, r2) := by first | (rw [hji52] at H; exact H) | (simp only [hji52] at H ⊢; exact H)
    have hji52_ : (if a1_1 < a0_1 then a1_1 else a0_1) = ji52 := hji52
    replace H := Option.bind_eq_some_iff.mp H
    obtain ⟨⟨t207, t208⟩, A530, H⟩ := H
    replace H : (some (t207, t208)) = some (r1, r2) := H
    have A53 := am A530
    clear A530
    simp only [Option.some.injEq, Prod.mk.injEq] at H
    obtain ⟨rfl, rfl⟩ := H
    have hnb54 := NB198_199.out
    have hnc54 := NB199_198.out
    have hnb55 := NB198_200.out
    have hnc55 := NB200_198.out
    have hcz56_0 : wc.cell? ⟨gb198, 0, none⟩ = some (.int .i64 a0_0) := bc BK198 0
    have hcz56_1 : wc.cell? ⟨gb198, 1, none⟩ = some (.int .i64 a0_1) := bc BK198 1
    have hfz56_0 := blk_frozen BK198.out 0
    have hfz56_1 := blk_frozen BK198.out 1
    have hnb57 := NB199_200.out
    have hnc57 := NB200_199.out
    have hcz58_0 : wc.cell? ⟨gb199, 0, none⟩ = some (.int .i64 a1_0) := bc BK199 0
    have hcz58_1 : wc.cell? ⟨gb199, 1, none⟩ = some (.int .i64 a1_1) := bc BK199 1
    have hfz58_0 := blk_frozen BK199.out 0
    have hfz58_1 := blk_frozen BK199.out 1
    go_wp2_with (first | ((with_reducible refine gate_callee (f := 55) rfl ?_); refine goesL_ (some 32) rfl rfl Try.func55 (by kernel_rfl) rfl #[.int .i64 ji51, .int .i64 ji52] rfl (by (try simp only [List.map_toArray, List.map_cons, List.map_nil]); first | done | (simp only [hji51, hji52]; rfl) | rfl | (simp only [List.length_drop, List.length_take]; rfl)) ?_; (with_reducible refine (impl_rangeFrom.calls ji51 ji52 t207 t208 _ A53.out).mono ?_); rintro e w59 ⟨rfl, hb⟩; refine ⟨_, rfl, ?_⟩; have n0_ := am (blk_below (g := gb198) (o := b2 a0_0 a0_1 24) (Z BK198) hb); have n1_ := am (blk_below (g := gb199) (o := b2 a1_0 a1_1 24) (Z BK199) hb); have n2_ := am (blk_below (g := gb200) (o := b2 0 0 24) (Z BK200) hb); have n3_ := am (below_step (Y3 HB GE198 GE199 GE200) hb); clear BK198; clear BK199; clear BK200; clear HB; have BK198 := n0_; have BK199 := n1_; have BK200 := n2_; have HB := n3_; clear n0_ n1_ n2_ n3_; (try clear hb); (try clear hb2); (try clear hk); (try clear hi); have hcz60_0 : w59.cell? ⟨gb200, 0, none⟩ = some (.int .i64 0) := bc BK200 0; have hcz60_1 : w59.cell? ⟨gb200, 1, none⟩ = some (.int .i64 0) := bc BK200 1; have hfz60_0 := blk_frozen BK200.out 0; have hfz60_1 := blk_frozen BK200.out 1))
    refine bodyPost_ret (results_cell_row rfl _ _ gb200 24 #[.int .i64 t207, .int .i64 t208] (0, 0) _ rfl (by (with_reducible repeat (first | refine blk_drewN ?_ _ | refine blk_drew ?_ | refine blk_alloc ?_ _)); refine blk_put (cs := #[.int .i64 t207, .int .i64 0]) ?_ 1 _ rfl; (with_reducible repeat (first | refine blk_drewN ?_ _ | refine blk_drew ?_ | refine blk_alloc ?_ _)); refine blk_put (cs := #[.int .i64 0, .int .i64 0]) ?_ 0 _ rfl; (with_reducible repeat (first | refine blk_drewN ?_ _ | refine blk_drew ?_ | refine blk_alloc ?_ _)); exact BK200.out) Try.underlying24 rfl (by kernel_rfl)) rfl ?_
    exact ⟨by first | rfl | (simp [errW_none, errW_some] <;> rfl) | (simp only [← hji51, ← hji52]; first | rfl | (simp [errW_none, errW_some] <;> rfl)) | (simp [*, errW_none, errW_some] <;> rfl), Y3 HB GE198 GE199 GE200⟩

/-! ### impl_Range_single: function 88 -/
def impl_Range_single.f (a0_0 : Int) (a0_1 : Int) : Option (Bool) := some (a0_0 == a0_1)
set_option maxHeartbeats 8000000 in
set_option maxRecDepth 100000 in
theorem impl_Range_single.calls (a0_0 : Int) (a0_1 : Int) (r : Bool) (w : World) (h : impl_Range_single.f a0_0 a0_1 = some r) :
  Calls Try.prog 88 #[.agg #[.int .i64 a0_0, .int .i64 a0_1]] w fun e w' => e = .returned (.bool r) ∧ Below w.heap.size w w' := by
 have hu24 := Try.underlying24
 have HB := am (Below.refl w.heap.size w)
 have H : (some (a0_0 == a0_1)) = some r := h
 clear h
 obtain rfl := Option.some.inj H
 go_enter Try.func88, Try.ntmps88
 go_wp2_with (first | ((with_reducible refine gate_dst (N := 1) rfl ?_); refine box_event ?hg (N := 1) ?hd (cs := #[.int .i64 a0_0, .int .i64 a0_1]) (t := 24) ?hr ?_; (case hd => rfl); (case hg => rfl); (case hr => first | (go_simp; done) | (go_simp; rfl)); intro gb209 hg w2 hbox hb; have n0_ := am (below_step (Y0 HB) hb); have n1_ := am (hbox); have n2_ := am ((by rw [hg]; exact (below_size (Y0 HB)) : w.heap.size ≤ gb209)); have n3_ := am ((by rw [hg]; exact (below_size (Y0 HB)) : w.heap.size ≤ gb209)); clear HB; have HB := n0_; have BK209 := n1_; have GW209 := n2_; have GE209 := n3_; clear n0_ n1_ n2_ n3_; clear hb hbox hg; have hcz3_0 : w2.cell? ⟨gb209, 0, none⟩ = some (.int .i64 a0_0) := bc BK209 0; have hcz3_1 : w2.cell? ⟨gb209, 1, none⟩ = some (.int .i64 a0_1) := bc BK209 1; have hfz3_0 := blk_frozen BK209.out 0; have hfz3_1 := blk_frozen BK209.out 1))
 go_ret
 exact ⟨by first | rfl | (simp [errW_none, errW_some] <;> rfl) | (simp [*, errW_none, errW_some] <;> rfl), Y1 HB GE209⟩

/-! ### impl_rangeWithout: function 61 -/
def impl_rangeWithout.j0 : Nat → Bool → Int → Int → Int → Int → Option (Int × Int)
 | 0, _, _, _, _, _ => none
 | k + 1, x5, x211000, x211001, x212000, x212001 => if x5 = true then ((impl_rangeFrom.f (wrap64 (x211000 + 1)) x211001).bind fun bt214 => (some (bt214.1, bt214.2))) else ((impl_Range_single.f x212000 x212001).bind fun t216 => (if t216 = true then (if x212000 = x211001 then ((impl_rangeFrom.f x211000 (wrap64 (x211001 - 1))).bind fun bt217 => (some (bt217.1, bt217.2))) else (some (x211000, x211001))) else (some (x211000, x211001))))
def impl_rangeWithout.f (k : Nat) (a0_0 : Int) (a0_1 : Int) (a1_0 : Int) (a1_1 : Int) : Option (Int × Int) := (impl_Range_single.f a1_0 a1_1).bind fun t213 => (if t213 = true then (impl_rangeWithout.j0 k (a1_0 == a0_0) a0_0 a0_1 a1_0 a1_1) else (impl_rangeWithout.j0 k false a0_0 a0_1 a1_0 a1_1))
theorem impl_rangeWithout.mono_l : ∀ k, (∀ y0 y1 y2 y3 y4, LeO (impl_rangeWithout.j0 k y0 y1 y2 y3 y4) (impl_rangeWithout.j0 (k + 1) y0 y1 y2 y3 y4))
 | 0 => fun _ _ _ _ _ r h => by simp [impl_rangeWithout.j0] at h
 | k + 1 => by
  have ih0 := impl_rangeWithout.mono_l k
  ·intro y0 y1 y2 y3 y4
   unfold impl_rangeWithout.j0
   repeat' first
   | (with_reducible exact ih0 _ _ _ _ _)
   | (with_reducible exact LeO.refl _)
   | (with_reducible exact LeO.none _)
   | (with_reducible refine LeO.ite ?_ ?_)
   | (with_reducible refine LeO.bind ?_ (fun _ => ?_))
   | exact ih0 _ _ _ _ _
   | exact LeO.none _
   | refine LeO.ite ?_ ?_
   | refine LeO.bind ?_ (fun _ => ?_)
theorem impl_rangeWithout.mono : ∀ a0 a1 a2 a3 k, LeO (impl_rangeWithout.f k a0 a1 a2 a3) (impl_rangeWithout.f (k + 1) a0 a1 a2 a3) := by
 intro a0 a1 a2 a3 k
 have ih0 := impl_rangeWithout.mono_l k
 unfold impl_rangeWithout.f
 repeat' first
   | (with_reducible exact ih0 _ _ _ _ _)
   | (with_reducible exact LeO.refl _)
   | (with_reducible exact LeO.none _)
   | (with_reducible refine LeO.ite ?_ ?_)
   | (with_reducible refine LeO.bind ?_ (fun _ => ?_))
   | exact ih0 _ _ _ _ _
   | exact LeO.none _
   | refine LeO.ite ?_ ?_
   | refine LeO.bind ?_ (fun _ => ?_)
set_option maxHeartbeats 8000000 in
set_option maxRecDepth 100000 in
theorem impl_rangeWithout.calls (k : Nat) (a0_0 : Int) (a0_1 : Int) (a1_0 : Int) (a1_1 : Int) (r1 : Int) (r2 : Int) (w : World) (h : impl_rangeWithout.f k a0_0 a0_1 a1_0 a1_1 = some (r1, r2)) :
  Calls Try.prog 61 #[.agg #[.int .i64 a0_0, .int .i64 a0_1], .agg #[.int .i64 a1_0, .int .i64 a1_1]] w fun e w' => e = .returned (.agg #[.int .i64 r1, .int .i64 r2]) ∧ Below w.heap.size w w' := by
 have hu24 := Try.underlying24
 have HB := am (Below.refl w.heap.size w)
 have H : ((impl_Range_single.f a1_0 a1_1).bind fun t213 => (if t213 = true then (impl_rangeWithout.j0 k (a1_0 == a0_0) a0_0 a0_1 a1_0 a1_1) else (impl_rangeWithout.j0 k false a0_0 a0_1 a1_0 a1_1))) = some (r1, r2) := h
 clear h
 have HC3 := am H
 clear H
 go_enter Try.func61, Try.ntmps61
 go_upto_region 1 with (first | ((with_reducible refine gate_dst (N := 2) rfl ?_); refine box_event ?hg (N := 2) ?hd (cs := #[.int .i64 a0_0, .int .i64 a0_1]) (t := 24) ?hr ?_; (case hd => rfl); (case hg => rfl); (case hr => first | (go_simp; done) | (go_simp; rfl)); intro gb210 hg w4 hbox hb; have n0_ := am (below_step (Y0 HB) hb); have n1_ := am (hbox); have n2_ := am ((by rw [hg]; exact (below_size (Y0 HB)) : w.heap.size ≤ gb210)); have n3_ := am ((by rw [hg]; exact (below_size (Y0 HB)) : w.heap.size ≤ gb210)); clear HB; have HB := n0_; have BK210 := n1_; have GW210 := n2_; have GE210 := n3_; clear n0_ n1_ n2_ n3_; clear hb hbox hg) | ((with_reducible refine gate_dst (N := 3) rfl ?_); refine box_event ?hg (N := 3) ?hd (cs := #[.int .i64 a1_0, .int .i64 a1_1]) (t := 24) ?hr ?_; (case hd => rfl); (case hg => rfl); (case hr => first | (go_simp; done) | (go_simp; rfl)); intro gb211 hg w5 hbox hb; have n0_ := am (blk_below (g := gb210) (o := b2 a0_0 a0_1 24) (Z BK210) hb); have n1_ := am (below_step (Y1 HB GE210) hb); have n2_ := am (hbox); have n3_ := am ((by rw [hg]; exact (below_size (Y1 HB GE210)) : w.heap.size ≤ gb211)); have n4_ := am ((by rw [hg]; exact (below_size (Y1 HB GE210)) : w.heap.size ≤ gb211)); have n5_ := am ((nl (o := b2 a0_0 a0_1 24) hg (Z BK210) : gb210 ≠ gb211)); have n6_ := am ((ng (o := b2 a0_0 a0_1 24) hg (Z BK210) : gb211 ≠ gb210)); clear BK210; clear HB; have BK210 := n0_; have HB := n1_; have BK211 := n2_; have GW211 := n3_; have GE211 := n4_; have NB210_211 := n5_; have NB211_210 := n6_; clear n0_ n1_ n2_ n3_ n4_ n5_ n6_; clear hb hbox hg) | ((with_reducible refine gate_dst (N := 4) rfl ?_); refine box_event ?hg (N := 4) ?hd (cs := #[.int .i64 0, .int .i64 0]) (t := 24) ?hr ?_; (case hd => rfl); (case hg => rfl); (case hr => first | (go_simp; done) | (go_simp; rfl)); intro gb212 hg w6 hbox hb; have n0_ := am (blk_below (g := gb210) (o := b2 a0_0 a0_1 24) (Z BK210) hb); have n1_ := am (blk_below (g := gb211) (o := b2 a1_0 a1_1 24) (Z BK211) hb); have n2_ := am (below_step (Y2 HB GE210 GE211) hb); have n3_ := am (hbox); have n4_ := am ((by rw [hg]; exact (below_size (Y2 HB GE210 GE211)) : w.heap.size ≤ gb212)); have n5_ := am ((by rw [hg]; exact (below_size (Y2 HB GE210 GE211)) : w.heap.size ≤ gb212)); have n6_ := am ((nl (o := b2 a0_0 a0_1 24) hg (Z BK210) : gb210 ≠ gb212)); have n7_ := am ((ng (o := b2 a0_0 a0_1 24) hg (Z BK210) : gb212 ≠ gb210)); have n8_ := am ((nl (o := b2 a1_0 a1_1 24) hg (Z BK211) : gb211 ≠ gb212)); have n9_ := am ((ng (o := b2 a1_0 a1_1 24) hg (Z BK211) : gb212 ≠ gb211)); clear BK210; clear BK211; clear HB; have BK210 := n0_; have BK211 := n1_; have HB := n2_; have BK212 := n3_; have GW212 := n4_; have GE212 := n5_; have NB210_212 := n6_; have NB212_210 := n7_; have NB211_212 := n8_; have NB212_211 := n9_; clear n0_ n1_ n2_ n3_ n4_ n5_ n6_ n7_ n8_ n9_; clear hb hbox hg))
 (try simp only [Act.put, List.setIfInBounds_toArray, List.set_cons_zero, List.set_cons_succ])
 go_cut [5] (fun v5 wc => ∃ (kq : Nat) (x5_2 : Bool), v5 = .bool x5_2 ∧ Aside0 (impl_rangeWithout.j0 kq x5_2 a0_0 a0_1 a1_0 a1_1 = some (r1, r2)) ∧ Aside0 (kq ≤ k) ∧ Aside0 (wc.heap[gb210]? = some (.cells #[.int .i64 a0_0, .int .i64 a0_1] 24 (0, 0))) ∧ Aside0 (wc.heap[gb211]? = some (.cells #[.int .i64 a1_0, .int .i64 a1_1] 24 (0, 0))) ∧ Aside0 (wc.heap[gb212]? = some (.cells #[.int .i64 0, .int .i64 0] 24 (0, 0))) ∧ Aside0 (Below w.heap.size w wc))
 case first =>
  have H := HC3.out
  clear HC3
  replace H := Option.bind_eq_some_iff.mp H
  obtain ⟨t213, A70, H⟩ := H
  replace H : (if t213 = true then (impl_rangeWithout.j0 k (a1_0 == a0_0) a0_0 a0_1 a1_0 a1_1) else (impl_rangeWithout.j0 k false a0_0 a0_1 a1_0 a1_1)) = some (r1, r2) := H
  have A7 := am A70
  clear A70
  by_cases c8 : t213 = true
  ·subst c8
   have H1 : (impl_rangeWithout.j0 k (a1_0 == a0_0) a0_0 a0_1 a1_0 a1_1) = some (r1, r2) := by rw [if_pos rfl] at H; exact H
   clear H
   have H := H1
   clear H1
   have H' := am H
   clear H
   have hnb9 := NB211_210.out
   have hnc9 := NB210_211.out
   have hnb10 := NB211_212.out
   have hnc10 := NB212_211.out
   have hcz11_0 : w6.cell? ⟨gb211, 0, none⟩ = some (.int .i64 a1_0) := bc BK211 0
   have hcz11_1 : w6.cell? ⟨gb211, 1, none⟩ = some (.int .i64 a1_1) := bc BK211 1
   have hfz11_0 := blk_frozen BK211.out 0
   have hfz11_1 := blk_frozen BK211.out 1
   go_wp2_with (first | ((with_reducible refine gate_callee (f := 88) rfl ?_); refine goesL_ (some 7) rfl rfl Try.func88 (by kernel_rfl) rfl #[.agg #[.int .i64 a1_0, .int .i64 a1_1]] rfl mz ?_; (with_reducible refine (impl_Range_single.calls a1_0 a1_1 true _ A7.out).mono ?_); rintro e w12 ⟨rfl, hb⟩; refine ⟨_, rfl, ?_⟩; have n0_ := am (blk_below (g := gb210) (o := b2 a0_0 a0_1 24) (Z BK210) hb); have n1_ := am (blk_below (g := gb211) (o := b2 a1_0 a1_1 24) (Z BK211) hb); have n2_ := am (blk_below (g := gb212) (o := b2 0 0 24) (Z BK212) hb); have n3_ := am (below_step (Y3 HB GE210 GE211 GE212) hb); clear BK210; clear BK211; clear BK212; clear HB; have BK210 := n0_; have BK211 := n1_; have BK212 := n2_; have HB := n3_; clear n0_ n1_ n2_ n3_; (try clear hb); (try clear hb2); (try clear hk); (try clear hi); have hcz13_0 : w12.cell? ⟨gb211, 0, none⟩ = some (.int .i64 a1_0) := bc BK211 0; have hcz13_1 : w12.cell? ⟨gb211, 1, none⟩ = some (.int .i64 a1_1) := bc BK211 1; have hfz13_0 := blk_frozen BK211.out 0; have hfz13_1 := blk_frozen BK211.out 1; have hnb14 := NB210_212.out; have hnc14 := NB212_210.out; have hcz15_0 : w12.cell? ⟨gb210, 0, none⟩ = some (.int .i64 a0_0) := bc BK210 0; have hcz15_1 : w12.cell? ⟨gb210, 1, none⟩ = some (.int .i64 a0_1) := bc BK210 1; have hfz15_0 := blk_frozen BK210.out 0; have hfz15_1 := blk_frozen BK210.out 1))
   go_meet
   case rel => exact ⟨_, ((a1_0 == a0_0)), (by first | rfl | (simp; done) | (simp [*]; done)), H', ⟨by first | omega | exact Nat.le_refl _⟩, ⟨Z BK210⟩, ⟨Z BK211⟩, ⟨Z BK212⟩, ⟨Y3 HB GE210 GE211 GE212⟩⟩
  ·replace c8 := Bool.eq_false_iff.mpr c8
   subst c8
   have H1 : (impl_rangeWithout.j0 k false a0_0 a0_1 a1_0 a1_1) = some (r1, r2) := by rw [if_neg (show ¬ (false = true) by decide)] at H; exact H
   clear H
   have H := H1
   clear H1
   have H' := am H
   clear H
   have hnb16 := NB211_210.out
   have hnc16 := NB210_211.out
   have hnb17 := NB211_212.out
   have hnc17 := NB212_211.out
   have hcz18_0 : w6.cell? ⟨gb211, 0, none⟩ = some (.int .i64 a1_0) := bc BK211 0
   have hcz18_1 : w6.cell? ⟨gb211, 1, none⟩ = some (.int .i64 a1_1) := bc BK211 1
   have hfz18_0 := blk_frozen BK211.out 0
   have hfz18_1 := blk_frozen BK211.out 1
   go_wp2_with (first | ((with_reducible refine gate_callee (f := 88) rfl ?_); refine goesL_ (some 7) rfl rfl Try.func88 (by kernel_rfl) rfl #[.agg #[.int .i64 a1_0, .int .i64 a1_1]] rfl mz ?_; (with_reducible refine (impl_Range_single.calls a1_0 a1_1 false _ A7.out).mono ?_); rintro e w19 ⟨rfl, hb⟩; refine ⟨_, rfl, ?_⟩; have n0_ := am (blk_below (g := gb210) (o := b2 a0_0 a0_1 24) (Z BK210) hb); have n1_ := am (blk_below (g := gb211) (o := b2 a1_0 a1_1 24) (Z BK211) hb); have n2_ := am (blk_below (g := gb212) (o := b2 0 0 24) (Z BK212) hb); have n3_ := am (below_step (Y3 HB GE210 GE211 GE212) hb); clear BK210; clear BK211; clear BK212; clear HB; have BK210 := n0_; have BK211 := n1_; have BK212 := n2_; have HB := n3_; clear n0_ n1_ n2_ n3_; (try clear hb); (try clear hb2); (try clear hk); (try clear hi)))
   go_meet
   case rel => exact ⟨_, (false), (by first | rfl | (simp; done) | (simp [*]; done)), H', ⟨by first | omega | exact Nat.le_refl _⟩, ⟨Z BK210⟩, ⟨Z BK211⟩, ⟨Z BK212⟩, ⟨Y3 HB GE210 GE211 GE212⟩⟩
 case rest =>
  clear HC3
  try clear c1
  try clear p2
  try clear c6
  try clear c8
  try clear c9
  try clear c10
  try clear c14
  try clear c16
  try clear c17
  try clear hcz11_0
  try clear hcz11_1
  try clear hcz13_0
  try clear hcz13_1
  try clear hcz15_0
  try clear hcz15_1
  try clear hcz18_0
  try clear hcz18_1
  try clear hfz11_0
  try clear hfz11_1
  try clear hfz13_0
  try clear hfz13_1
  try clear hfz15_0
  try clear hfz15_1
  try clear hfz18_0
  try clear hfz18_1
  obtain ⟨kq, x5_2, rfl, HA, HJ2, BK210, BK211, BK212, HB⟩ := hcut
  cases kq with
  | zero => exact absurd HA.out (by simp [impl_rangeWithout.j0])
  | succ kj2 =>
   have H := HA.out
   clear HA
   simp only [impl_rangeWithout.j0] at H
   by_cases c20 : x5_2 = true
   ·subst c20
    have H1 : ((impl_rangeFrom.f (wrap64 (a0_0 + 1)) a0_1).bind fun bt214 => (some (bt214.1, bt214.2))) = some (r1, r2) := by rw [if_pos rfl] at H; exact H
    clear H
    have H := H1
    clear H1
    replace H := Option.bind_eq_some_iff.mp H
    obtain ⟨⟨t214, t215⟩, A210, H⟩ := H
    replace H : (some (t214, t215)) = some (r1, r2) := H
    have A21 := am A210
    clear A210
    simp only [Option.some.injEq, Prod.mk.injEq] at H
    obtain ⟨rfl, rfl⟩ := H
    have hnb22 := NB210_211.out
    have hnc22 := NB211_210.out
    have hnb23 := NB210_212.out
    have hnc23 := NB212_210.out
    have hcz24_0 : wc.cell? ⟨gb210, 0, none⟩ = some (.int .i64 a0_0) := bc BK210 0
    have hcz24_1 : wc.cell? ⟨gb210, 1, none⟩ = some (.int .i64 a0_1) := bc BK210 1
    have hfz24_0 := blk_frozen BK210.out 0
    have hfz24_1 := blk_frozen BK210.out 1
    go_wp2_with (first | ((with_reducible refine gate_callee (f := 55) rfl ?_); refine goesL_ (some 20) rfl rfl Try.func55 (by kernel_rfl) rfl #[.int .i64 (wrap64 (a0_0 + 1)), .int .i64 a0_1] rfl mz ?_; (with_reducible refine (impl_rangeFrom.calls (wrap64 (a0_0 + 1)) a0_1 t214 t215 _ A21.out).mono ?_); rintro e w25 ⟨rfl, hb⟩; refine ⟨_, rfl, ?_⟩; have n0_ := am (blk_below (g := gb210) (o := b2 a0_0 a0_1 24) (Z BK210) hb); have n1_ := am (blk_below (g := gb211) (o := b2 a1_0 a1_1 24) (Z BK211) hb); have n2_ := am (blk_below (g := gb212) (o := b2 0 0 24) (Z BK212) hb); have n3_ := am (below_step (Y3 HB GE210 GE211 GE212) hb); clear BK210; clear BK211; clear BK212; clear HB; have BK210 := n0_; have BK211 := n1_; have BK212 := n2_; have HB := n3_; clear n0_ n1_ n2_ n3_; (try clear hb); (try clear hb2); (try clear hk); (try clear hi); have hnb26 := NB212_211.out; have hnc26 := NB211_212.out; have hcz27_0 : w25.cell? ⟨gb212, 0, none⟩ = some (.int .i64 0) := bc BK212 0; have hcz27_1 : w25.cell? ⟨gb212, 1, none⟩ = some (.int .i64 0) := bc BK212 1; have hfz27_0 := blk_frozen BK212.out 0; have hfz27_1 := blk_frozen BK212.out 1))
    refine bodyPost_ret (results_cell_row rfl _ _ gb212 24 #[.int .i64 t214, .int .i64 t215] (0, 0) _ rfl (by (with_reducible repeat (first | refine blk_drewN ?_ _ | refine blk_drew ?_ | refine blk_alloc ?_ _)); refine blk_put (cs := #[.int .i64 t214, .int .i64 0]) ?_ 1 _ rfl; (with_reducible repeat (first | refine blk_drewN ?_ _ | refine blk_drew ?_ | refine blk_alloc ?_ _)); refine blk_put (cs := #[.int .i64 0, .int .i64 0]) ?_ 0 _ rfl; (with_reducible repeat (first | refine blk_drewN ?_ _ | refine blk_drew ?_ | refine blk_alloc ?_ _)); exact BK212.out) Try.underlying24 rfl (by kernel_rfl)) rfl ?_
    exact ⟨by first | rfl | (simp [errW_none, errW_some] <;> rfl) | (simp [*, errW_none, errW_some] <;> rfl), Y3 HB GE210 GE211 GE212⟩
   ·replace c20 := Bool.eq_false_iff.mpr c20
    subst c20
    have H1 : ((impl_Range_single.f a1_0 a1_1).bind fun t216 => (if t216 = true then (if a1_0 = a0_1 then ((impl_rangeFrom.f a0_0 (wrap64 (a0_1 - 1))).bind fun bt217 => (some (bt217.1, bt217.2))) else (some (a0_0, a0_1))) else (some (a0_0, a0_1)))) = some (r1, r2) := by rw [if_neg (show ¬ (false = true) by decide)] at H; exact H
    clear H
    have H := H1
    clear H1
    replace H := Option.bind_eq_some_iff.mp H
    obtain ⟨t216, A280, H⟩ := H
    replace H : (if t216 = true then (if a1_0 = a0_1 then ((impl_rangeFrom.f a0_0 (wrap64 (a0_1 - 1))).bind fun bt217 => (some (bt217.1, bt217.2))) else (some (a0_0, a0_1))) else (some (a0_0, a0_1))) = some (r1, r2) := H
    have A28 := am A280
    clear A280
    by_cases c29 : t216 = true
    ·subst c29
     have H1 : (if a1_0 = a0_1 then ((impl_rangeFrom.f a0_0 (wrap64 (a0_1 - 1))).bind fun bt217 => (some (bt217.1, bt217.2))) else (some (a0_0, a0_1))) = some (r1, r2) := by rw [if_pos rfl] at H; exact H
     clear H
     have H := H1
     clear H1
     by_cases c30 : a1_0 = a0_1
     ·rw [if_pos c30] at H
      have c30b0 : (a1_0 == a0_1) = true := beq_iff_eq.mpr c30
      have c30b1 : (a1_0 != a0_1) = false := bne_eq_false_iff_eq.mpr c30
      clear c30
      replace H := Option.bind_eq_some_iff.mp H
      obtain ⟨⟨t217, t218⟩, A310, H⟩ := H
      replace H : (some (t217, t218)) = some (r1, r2) := H
      have A31 := am A310
      clear A310
      simp only [Option.some.injEq, Prod.mk.injEq] at H
      obtain ⟨rfl, rfl⟩ := H
      have hnb32 := NB211_210.out
      have hnc32 := NB210_211.out
      have hnb33 := NB211_212.out
      have hnc33 := NB212_211.out
      have hcz34_0 : wc.cell? ⟨gb211, 0, none⟩ = some (.int .i64 a1_0) := bc BK211 0
      have hcz34_1 : wc.cell? ⟨gb211, 1, none⟩ = some (.int .i64 a1_1) := bc BK211 1
      have hfz34_0 := blk_frozen BK211.out 0
      have hfz34_1 := blk_frozen BK211.out 1
      go_wp2_with (first | ((with_reducible refine gate_callee (f := 88) rfl ?_); refine goesL_ (some 23) rfl rfl Try.func88 (by kernel_rfl) rfl #[.agg #[.int .i64 a1_0, .int .i64 a1_1]] rfl mz ?_; (with_reducible refine (impl_Range_single.calls a1_0 a1_1 true _ A28.out).mono ?_); rintro e w35 ⟨rfl, hb⟩; refine ⟨_, rfl, ?_⟩; have n0_ := am (blk_below (g := gb210) (o := b2 a0_0 a0_1 24) (Z BK210) hb); have n1_ := am (blk_below (g := gb211) (o := b2 a1_0 a1_1 24) (Z BK211) hb); have n2_ := am (blk_below (g := gb212) (o := b2 0 0 24) (Z BK212) hb); have n3_ := am (below_step (Y3 HB GE210 GE211 GE212) hb); clear BK210; clear BK211; clear BK212; clear HB; have BK210 := n0_; have BK211 := n1_; have BK212 := n2_; have HB := n3_; clear n0_ n1_ n2_ n3_; (try clear hb); (try clear hb2); (try clear hk); (try clear hi); have hcz36_0 : w35.cell? ⟨gb211, 0, none⟩ = some (.int .i64 a1_0) := bc BK211 0; have hcz36_1 : w35.cell? ⟨gb211, 1, none⟩ = some (.int .i64 a1_1) := bc BK211 1; have hfz36_0 := blk_frozen BK211.out 0; have hfz36_1 := blk_frozen BK211.out 1; have hnb37 := NB210_212.out; have hnc37 := NB212_210.out; have hcz38_0 : w35.cell? ⟨gb210, 0, none⟩ = some (.int .i64 a0_0) := bc BK210 0; have hcz38_1 : w35.cell? ⟨gb210, 1, none⟩ = some (.int .i64 a0_1) := bc BK210 1; have hfz38_0 := blk_frozen BK210.out 0; have hfz38_1 := blk_frozen BK210.out 1) | ((with_reducible refine gate_callee (f := 55) rfl ?_); refine goesL_ (some 36) rfl rfl Try.func55 (by kernel_rfl) rfl #[.int .i64 a0_0, .int .i64 (wrap64 (a0_1 - 1))] rfl mz ?_; (with_reducible refine (impl_rangeFrom.calls a0_0 (wrap64 (a0_1 - 1)) t217 t218 _ A31.out).mono ?_); rintro e w39 ⟨rfl, hb⟩; refine ⟨_, rfl, ?_⟩; have n0_ := am (blk_below (g := gb210) (o := b2 a0_0 a0_1 24) (Z BK210) hb); have n1_ := am (blk_below (g := gb211) (o := b2 a1_0 a1_1 24) (Z BK211) hb); have n2_ := am (blk_below (g := gb212) (o := b2 0 0 24) (Z BK212) hb); have n3_ := am (below_step (Y3 HB GE210 GE211 GE212) hb); clear BK210; clear BK211; clear BK212; clear HB; have BK210 := n0_; have BK211 := n1_; have BK212 := n2_; have HB := n3_; clear n0_ n1_ n2_ n3_; (try clear hb); (try clear hb2); (try clear hk); (try clear hi); have hcz40_0 : w39.cell? ⟨gb212, 0, none⟩ = some (.int .i64 0) := bc BK212 0; have hcz40_1 : w39.cell? ⟨gb212, 1, none⟩ = some (.int .i64 0) := bc BK212 1; have hfz40_0 := blk_frozen BK212.out 0; have hfz40_1 := blk_frozen BK212.out 1))
      refine bodyPost_ret (results_cell_row rfl _ _ gb212 24 #[.int .i64 t217, .int .i64 t218] (0, 0) _ rfl (by (with_reducible repeat (first | refine blk_drewN ?_ _ | refine blk_drew ?_ | refine blk_alloc ?_ _)); refine blk_put (cs := #[.int .i64 t217, .int .i64 0]) ?_ 1 _ rfl; (with_reducible repeat (first | refine blk_drewN ?_ _ | refine blk_drew ?_ | refine blk_alloc ?_ _)); refine blk_put (cs := #[.int .i64 0, .int .i64 0]) ?_ 0 _ rfl; (with_reducible repeat (first | refine blk_drewN ?_ _ | refine blk_drew ?_ | refine blk_alloc ?_ _)); exact BK212.out) Try.underlying24 rfl (by kernel_rfl)) rfl ?_
      exact ⟨by first | rfl | (simp [errW_none, errW_some] <;> rfl) | (simp [*, errW_none, errW_some] <;> rfl), Y3 HB GE210 GE211 GE212⟩
     ·rw [if_neg c30] at H
      have c30b0 : (a1_0 == a0_1) = false := beq_eq_false_iff_ne.mpr c30
      have c30b1 : (a1_0 != a0_1) = true := bne_iff_ne.mpr c30
      simp only [Option.some.injEq, Prod.mk.injEq] at H
      obtain ⟨rfl, rfl⟩ := H
      have hnb41 := NB211_210.out
      have hnc41 := NB210_211.out
      have hnb42 := NB211_212.out
      have hnc42 := NB212_211.out
      have hcz43_0 : wc.cell? ⟨gb211, 0, none⟩ = some (.int .i64 a1_0) := bc BK211 0
      have hcz43_1 : wc.cell? ⟨gb211, 1, none⟩ = some (.int .i64 a1_1) := bc BK211 1
      have hfz43_0 := blk_frozen BK211.out 0
      have hfz43_1 := blk_frozen BK211.out 1
      go_wp2_with (first | ((with_reducible refine gate_callee (f := 88) rfl ?_); refine goesL_ (some 23) rfl rfl Try.func88 (by kernel_rfl) rfl #[.agg #[.int .i64 a1_0, .int .i64 a1_1]] rfl mz ?_; (with_reducible refine (impl_Range_single.calls a1_0 a1_1 true _ A28.out).mono ?_); rintro e w44 ⟨rfl, hb⟩; refine ⟨_, rfl, ?_⟩; have n0_ := am (blk_below (g := gb210) (o := b2 a0_0 a0_1 24) (Z BK210) hb); have n1_ := am (blk_below (g := gb211) (o := b2 a1_0 a1_1 24) (Z BK211) hb); have n2_ := am (blk_below (g := gb212) (o := b2 0 0 24) (Z BK212) hb); have n3_ := am (below_step (Y3 HB GE210 GE211 GE212) hb); clear BK210; clear BK211; clear BK212; clear HB; have BK210 := n0_; have BK211 := n1_; have BK212 := n2_; have HB := n3_; clear n0_ n1_ n2_ n3_; (try clear hb); (try clear hb2); (try clear hk); (try clear hi); have hcz45_0 : w44.cell? ⟨gb211, 0, none⟩ = some (.int .i64 a1_0) := bc BK211 0; have hcz45_1 : w44.cell? ⟨gb211, 1, none⟩ = some (.int .i64 a1_1) := bc BK211 1; have hfz45_0 := blk_frozen BK211.out 0; have hfz45_1 := blk_frozen BK211.out 1; have hnb46 := NB210_212.out; have hnc46 := NB212_210.out; have hcz47_0 : w44.cell? ⟨gb210, 0, none⟩ = some (.int .i64 a0_0) := bc BK210 0; have hcz47_1 : w44.cell? ⟨gb210, 1, none⟩ = some (.int .i64 a0_1) := bc BK210 1; have hfz47_0 := blk_frozen BK210.out 0; have hfz47_1 := blk_frozen BK210.out 1; have hcz48_0 : w44.cell? ⟨gb212, 0, none⟩ = some (.int .i64 0) := bc BK212 0; have hcz48_1 : w44.cell? ⟨gb212, 1, none⟩ = some (.int .i64 0) := bc BK212 1; have hfz48_0 := blk_frozen BK212.out 0; have hfz48_1 := blk_frozen BK212.out 1))
      refine bodyPost_ret (results_cell_row rfl _ _ gb212 24 #[.int .i64 a0_0, .int .i64 a0_1] (0, 0) _ rfl (by (with_reducible repeat (first | refine blk_drewN ?_ _ | refine blk_drew ?_ | refine blk_alloc ?_ _)); refine blk_put (cs := #[.int .i64 a0_0, .int .i64 0]) ?_ 1 _ rfl; (with_reducible repeat (first | refine blk_drewN ?_ _ | refine blk_drew ?_ | refine blk_alloc ?_ _)); refine blk_put (cs := #[.int .i64 0, .int .i64 0]) ?_ 0 _ rfl; (with_reducible repeat (first | refine blk_drewN ?_ _ | refine blk_drew ?_ | refine blk_alloc ?_ _)); exact BK212.out) Try.underlying24 rfl (by kernel_rfl)) rfl ?_
      exact ⟨by first | rfl | (simp [errW_none, errW_some] <;> rfl) | (simp [*, errW_none, errW_some] <;> rfl), Y3 HB GE210 GE211 GE212⟩
    ·replace c29 := Bool.eq_false_iff.mpr c29
     subst c29
     have H1 : (some (a0_0, a0_1)) = some (r1, r2) := by rw [if_neg (show ¬ (false = true) by decide)] at H; exact H
     clear H
     have H := H1
     clear H1
     simp only [Option.some.injEq, Prod.mk.injEq] at H
     obtain ⟨rfl, rfl⟩ := H
     have hnb49 := NB211_210.out
     have hnc49 := NB210_211.out
     have hnb50 := NB211_212.out
     have hnc50 := NB212_211.out
     have hcz51_0 : wc.cell? ⟨gb211, 0, none⟩ = some (.int .i64 a1_0) := bc BK211 0
     have hcz51_1 : wc.cell? ⟨gb211, 1, none⟩ = some (.int .i64 a1_1) := bc BK211 1
     have hfz51_0 := blk_frozen BK211.out 0
     have hfz51_1 := blk_frozen BK211.out 1
     go_wp2_with (first | ((with_reducible refine gate_callee (f := 88) rfl ?_); refine goesL_ (some 23) rfl rfl Try.func88 (by kernel_rfl) rfl #[.agg #[.int .i64 a1_0, .int .i64 a1_1]] rfl mz ?_; (with_reducible refine (impl_Range_single.calls a1_0 a1_1 false _ A28.out).mono ?_); rintro e w52 ⟨rfl, hb⟩; refine ⟨_, rfl, ?_⟩; have n0_ := am (blk_below (g := gb210) (o := b2 a0_0 a0_1 24) (Z BK210) hb); have n1_ := am (blk_below (g := gb211) (o := b2 a1_0 a1_1 24) (Z BK211) hb); have n2_ := am (blk_below (g := gb212) (o := b2 0 0 24) (Z BK212) hb); have n3_ := am (below_step (Y3 HB GE210 GE211 GE212) hb); clear BK210; clear BK211; clear BK212; clear HB; have BK210 := n0_; have BK211 := n1_; have BK212 := n2_; have HB := n3_; clear n0_ n1_ n2_ n3_; (try clear hb); (try clear hb2); (try clear hk); (try clear hi); have hnb53 := NB210_212.out; have hnc53 := NB212_210.out; have hcz54_0 : w52.cell? ⟨gb210, 0, none⟩ = some (.int .i64 a0_0) := bc BK210 0; have hcz54_1 : w52.cell? ⟨gb210, 1, none⟩ = some (.int .i64 a0_1) := bc BK210 1; have hfz54_0 := blk_frozen BK210.out 0; have hfz54_1 := blk_frozen BK210.out 1; have hcz55_0 : w52.cell? ⟨gb212, 0, none⟩ = some (.int .i64 0) := bc BK212 0; have hcz55_1 : w52.cell? ⟨gb212, 1, none⟩ = some (.int .i64 0) := bc BK212 1; have hfz55_0 := blk_frozen BK212.out 0; have hfz55_1 := blk_frozen BK212.out 1))
     refine bodyPost_ret (results_cell_row rfl _ _ gb212 24 #[.int .i64 a0_0, .int .i64 a0_1] (0, 0) _ rfl (by (with_reducible repeat (first | refine blk_drewN ?_ _ | refine blk_drew ?_ | refine blk_alloc ?_ _)); refine blk_put (cs := #[.int .i64 a0_0, .int .i64 0]) ?_ 1 _ rfl; (with_reducible repeat (first | refine blk_drewN ?_ _ | refine blk_drew ?_ | refine blk_alloc ?_ _)); refine blk_put (cs := #[.int .i64 0, .int .i64 0]) ?_ 0 _ rfl; (with_reducible repeat (first | refine blk_drewN ?_ _ | refine blk_drew ?_ | refine blk_alloc ?_ _)); exact BK212.out) Try.underlying24 rfl (by kernel_rfl)) rfl ?_
     exact ⟨by first | rfl | (simp [errW_none, errW_some] <;> rfl) | (simp [*, errW_none, errW_some] <;> rfl), Y3 HB GE210 GE211 GE212⟩

/-! ### impl_CmpTurn: function 62 -/
def impl_CmpTurn.j0 : Nat → Int → Int → Bool → Option (Int)
 | 0, _, _, _ => none
 | k + 1, x0, x3, x4 => if x4 = true then (some x0) else (if x3 = 3 then (some 5) else (if x3 = 4 then (some 6) else (if x3 = 5 then (some 3) else (if x3 = 6 then (some 4) else (some 0)))))
def impl_CmpTurn.f (k : Nat) (a0 : Int) : Option (Int) := if a0 = 1 then (impl_CmpTurn.j0 k a0 a0 (a0 == 1)) else (impl_CmpTurn.j0 k a0 a0 (a0 == 2))
theorem impl_CmpTurn.mono_l : ∀ k, (∀ y0 y1 y2, LeO (impl_CmpTurn.j0 k y0 y1 y2) (impl_CmpTurn.j0 (k + 1) y0 y1 y2))
 | 0 => fun _ _ _ r h => by simp [impl_CmpTurn.j0] at h
 | k + 1 => by
  have ih0 := impl_CmpTurn.mono_l k
  ·intro y0 y1 y2
   unfold impl_CmpTurn.j0
   repeat' first
   | (with_reducible exact ih0 _ _ _)
   | (with_reducible exact LeO.refl _)
   | (with_reducible exact LeO.none _)
   | (with_reducible refine LeO.ite ?_ ?_)
   | (with_reducible refine LeO.bind ?_ (fun _ => ?_))
   | exact ih0 _ _ _
   | exact LeO.none _
   | refine LeO.ite ?_ ?_
   | refine LeO.bind ?_ (fun _ => ?_)
theorem impl_CmpTurn.mono : ∀ a0 k, LeO (impl_CmpTurn.f k a0) (impl_CmpTurn.f (k + 1) a0) := by
 intro a0 k
 have ih0 := impl_CmpTurn.mono_l k
 unfold impl_CmpTurn.f
 repeat' first
   | (with_reducible exact ih0 _ _ _)
   | (with_reducible exact LeO.refl _)
   | (with_reducible exact LeO.none _)
   | (with_reducible refine LeO.ite ?_ ?_)
   | (with_reducible refine LeO.bind ?_ (fun _ => ?_))
   | exact ih0 _ _ _
   | exact LeO.none _
   | refine LeO.ite ?_ ?_
   | refine LeO.bind ?_ (fun _ => ?_)
set_option maxHeartbeats 8000000 in
set_option maxRecDepth 100000 in
theorem impl_CmpTurn.calls (k : Nat) (a0 : Int) (r : Int) (w : World) (h : impl_CmpTurn.f k a0 = some r) :
  Calls Try.prog 62 #[.int .i64 a0] w fun e w' => e = .returned (.int .i64 r) ∧ Drawn0 w w' := by
 have H : (if a0 = 1 then (impl_CmpTurn.j0 k a0 a0 (a0 == 1)) else (impl_CmpTurn.j0 k a0 a0 (a0 == 2))) = some r := h
 clear h
 have HC2 := am H
 clear H
 go_enter Try.func62, Try.ntmps62
 go_upto_if 4 with (fail)
 go_cut [4] (fun v4 wc => ∃ (kq : Nat) (x4_1 : Bool), v4 = .bool x4_1 ∧ Aside0 (impl_CmpTurn.j0 kq a0 a0 x4_1 = some r) ∧ Aside0 (kq ≤ k) ∧ Drawn0 w wc)
 case first =>
  have H := HC2.out
  clear HC2
  by_cases c3 : a0 = 1
  ·rw [if_pos c3] at H
   have c3b0 : (a0 == 1) = true := beq_iff_eq.mpr c3
   have c3b1 : (a0 != 1) = false := bne_eq_false_iff_eq.mpr c3
   clear c3
   (first | rw [c3b0] | (simp only [i64_w, i32_w]; rw [c3b0]) | skip)
   have H' := am H
   clear H
   go_wp2
   go_meet
   case rel => exact ⟨_, ((a0 == 1)), (by first | rfl | (simp; done) | (simp [*]; done)), H', ⟨by first | omega | exact Nat.le_refl _⟩, by repeat (first | exact Drawn0.refl _ | apply Drawn0.step)⟩
  ·rw [if_neg c3] at H
   have c3b0 : (a0 == 1) = false := beq_eq_false_iff_ne.mpr c3
   have c3b1 : (a0 != 1) = true := bne_iff_ne.mpr c3
   (first | rw [c3b0] | (simp only [i64_w, i32_w]; rw [c3b0]) | skip)
   have H' := am H
   clear H
   go_wp2
   go_meet
   case rel => exact ⟨_, ((a0 == 2)), (by first | rfl | (simp; done) | (simp [*]; done)), H', ⟨by first | omega | exact Nat.le_refl _⟩, by repeat (first | exact Drawn0.refl _ | apply Drawn0.step)⟩
 case rest =>
  clear HC2
  try clear p2
  try clear c3
  try clear c3b0
  try clear c3b1
  obtain ⟨kq, x4_1, rfl, HA, HJ1, ⟨mc1, rfl⟩⟩ := hcut
  cases kq with
  | zero => exact absurd HA.out (by simp [impl_CmpTurn.j0])
  | succ kj1 =>
   have H := HA.out
   clear HA
   simp only [impl_CmpTurn.j0] at H
   by_cases c4 : x4_1 = true
   ·subst c4
    have H1 : (some a0) = some r := by rw [if_pos rfl] at H; exact H
    clear H
    have H := H1
    clear H1
    obtain rfl := Option.some.inj H
    go_wp2
    go_ret
    exact ⟨by first | rfl | (simp; done) | (simp [*]; done), by repeat (first | exact Drawn0.refl _ | apply Drawn0.step)⟩
   ·replace c4 := Bool.eq_false_iff.mpr c4
    subst c4
    have H1 : (if a0 = 3 then (some 5) else (if a0 = 4 then (some 6) else (if a0 = 5 then (some 3) else (if a0 = 6 then (some 4) else (some 0))))) = some r := by rw [if_neg (show ¬ (false = true) by decide)] at H; exact H
    clear H
    have H := H1
    clear H1
    by_cases c5 : a0 = 3
    ·rw [if_pos c5] at H
     have c5b0 : (a0 == 3) = true := beq_iff_eq.mpr c5
     have c5b1 : (a0 != 3) = false := bne_eq_false_iff_eq.mpr c5
     clear c5
     obtain rfl := Option.some.inj H
     go_wp2
     go_ret
     exact ⟨by first | rfl | (simp; done) | (simp [*]; done), by repeat (first | exact Drawn0.refl _ | apply Drawn0.step)⟩
    ·rw [if_neg c5] at H
     have c5b0 : (a0 == 3) = false := beq_eq_false_iff_ne.mpr c5
     have c5b1 : (a0 != 3) = true := bne_iff_ne.mpr c5
     by_cases c6 : a0 = 4
     ·rw [if_pos c6] at H
      have c6b0 : (a0 == 4) = true := beq_iff_eq.mpr c6
      have c6b1 : (a0 != 4) = false := bne_eq_false_iff_eq.mpr c6
      clear c6
      obtain rfl := Option.some.inj H
      go_wp2
      go_ret
      exact ⟨by first | rfl | (simp; done) | (simp [*]; done), by repeat (first | exact Drawn0.refl _ | apply Drawn0.step)⟩
     ·rw [if_neg c6] at H
      have c6b0 : (a0 == 4) = false := beq_eq_false_iff_ne.mpr c6
      have c6b1 : (a0 != 4) = true := bne_iff_ne.mpr c6
      by_cases c7 : a0 = 5
      ·rw [if_pos c7] at H
       have c7b0 : (a0 == 5) = true := beq_iff_eq.mpr c7
       have c7b1 : (a0 != 5) = false := bne_eq_false_iff_eq.mpr c7
       clear c7
       obtain rfl := Option.some.inj H
       go_wp2
       go_ret
       exact ⟨by first | rfl | (simp; done) | (simp [*]; done), by repeat (first | exact Drawn0.refl _ | apply Drawn0.step)⟩
      ·rw [if_neg c7] at H
       have c7b0 : (a0 == 5) = false := beq_eq_false_iff_ne.mpr c7
       have c7b1 : (a0 != 5) = true := bne_iff_ne.mpr c7
       by_cases c8 : a0 = 6
       ·rw [if_pos c8] at H
        have c8b0 : (a0 == 6) = true := beq_iff_eq.mpr c8
        have c8b1 : (a0 != 6) = false := bne_eq_false_iff_eq.mpr c8
        clear c8
        obtain rfl := Option.some.inj H
        go_wp2
        go_ret
        exact ⟨by first | rfl | (simp; done) | (simp [*]; done), by repeat (first | exact Drawn0.refl _ | apply Drawn0.step)⟩
       ·rw [if_neg c8] at H
        have c8b0 : (a0 == 6) = false := beq_eq_false_iff_ne.mpr c8
        have c8b1 : (a0 != 6) = true := bne_iff_ne.mpr c8
        obtain rfl := Option.some.inj H
        go_wp2
        go_ret
        exact ⟨by first | rfl | (simp; done) | (simp [*]; done), by repeat (first | exact Drawn0.refl _ | apply Drawn0.step)⟩

end Go.Proofs.Ytlipfemjlicbbaa.PFnExactRangeCmp
