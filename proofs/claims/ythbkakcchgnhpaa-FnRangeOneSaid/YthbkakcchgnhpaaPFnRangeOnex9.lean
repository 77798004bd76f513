/- Written by this session's own driver (wip/dprint.py): the functions that the law FnRangeOne reaches, as Lean functions, each with its contract. -/
import Derived.Test.YthbkakcchgnhpaaPFnRangeOnex0
import Derived.Test.YthbkakcchgnhpaaPFnRangeOnex2
import Derived.Test.YthbkakcchgnhpaaPFnRangeOnex6
import Derived.Test.YthbkakcchgnhpaaPFnRangeOnex8
import Derived.Test.YthbkakcchgnhpaaSv
namespace Go.Proofs.Ythbkakcchgnhpaa.PFnRangeOne
open Go.RowKit Go.Proofs.YthbkakcchgnhpaaV.PrintWords Go.Proofs.YthbkakcchgnhpaaV.PrintLast Go.Proofs.YthbkakcchgnhpaaV.PrintMore Go.Proofs.YthbkakcchgnhpaaSv
attribute [local go_sem] max2_int min2_int max_two min_two max_three min_three max_four min_four   -- for this text's walks alone
set_option linter.unusedVariables false
set_option linter.unusedSimpArgs false

/-! ### impl_rangeRem: function 54 -/
mutual
def impl_rangeRem.j0 : Nat → Bool → Int → Int → Int → Int → Option (Int × Int × List Int)
 | 0, _, _, _, _, _ => none
 | k + 1, x21, x224000, x224001, x225000, x225001 => if x21 = true then (if x225000 = 0 then (none) else (some (Int.tmod x224000 x225000, Int.tmod x224000 x225000, ([] : List Int)))) else ((impl_rangeSides.f k x225000 x225001).bind fun bt228 => ((impl_rangeNone.f).bind fun bt233 => ((impl_Range_empty.f bt228.1 bt228.2.1).bind fun t237 => (if t237 = true then (impl_rangeRem.j1 k x224000 x224001 x225000 x225001 bt228.1 bt228.2.1 bt228.2.2.1 bt228.2.2.2 bt233.1 bt233.2) else ((impl_rangeRemBy.f k x224000 x224001 (wrap64 (-bt228.2.1)) (wrap64 (-bt228.1))).bind fun bt238 => ((impl_RangeJoin.f k bt233.1 bt233.2 bt238.1 bt238.2).bind fun bt240 => (impl_rangeRem.j1 k x224000 x224001 x225000 x225001 bt228.1 bt228.2.1 bt228.2.2.1 bt228.2.2.2 bt240.1 bt240.2)))))))
def impl_rangeRem.j1 : Nat → Int → Int → Int → Int → Int → Int → Int → Int → Int → Int → Option (Int × Int × List Int)
 | 0, _, _, _, _, _, _, _, _, _, _ => none
 | k + 1, x224000, x224001, x225000, x225001, x233000, x233001, x233002, x233003, x236000, x236001 => (impl_Range_empty.f x233002 x233003).bind fun t243 => (if t243 = true then ((impl_RangeHas.f x225000 x225001 0).bind fun t244 => (if t244 = true then (some (x236000, x236001, (([2] : List Int)))) else (some (x236000, x236001, ([] : List Int))))) else ((impl_rangeRemBy.f k x224000 x224001 x233002 x233003).bind fun bt248 => ((impl_RangeJoin.f k x236000 x236001 bt248.1 bt248.2).bind fun bt250 => ((impl_RangeHas.f x225000 x225001 0).bind fun t252 => (if t252 = true then (some (bt250.1, bt250.2, (([2] : List Int)))) else (some (bt250.1, bt250.2, ([] : List Int))))))))
end
def impl_rangeRem.f (k : Nat) (a0_0 : Int) (a0_1 : Int) (a1_0 : Int) (a1_1 : Int) : Option (Int × Int × List Int) := (impl_Range_single.f a0_0 a0_1).bind fun t226 => (if t226 = true then ((impl_Range_single.f a1_0 a1_1).bind fun t227 => (if t227 = true then (impl_rangeRem.j0 k (a1_0 != 0) a0_0 a0_1 a1_0 a1_1) else (impl_rangeRem.j0 k false a0_0 a0_1 a1_0 a1_1))) else (impl_rangeRem.j0 k false a0_0 a0_1 a1_0 a1_1))
theorem impl_rangeRem.mono_l : ∀ k, (∀ y0 y1 y2 y3 y4, LeO (impl_rangeRem.j0 k y0 y1 y2 y3 y4) (impl_rangeRem.j0 (k + 1) y0 y1 y2 y3 y4)) ∧ (∀ y0 y1 y2 y3 y4 y5 y6 y7 y8 y9, LeO (impl_rangeRem.j1 k y0 y1 y2 y3 y4 y5 y6 y7 y8 y9) (impl_rangeRem.j1 (k + 1) y0 y1 y2 y3 y4 y5 y6 y7 y8 y9))
 | 0 => ⟨fun _ _ _ _ _ r h => by simp [impl_rangeRem.j0] at h, fun _ _ _ _ _ _ _ _ _ _ r h => by simp [impl_rangeRem.j1] at h⟩
 | k + 1 => by
  obtain ⟨ih0, ih1⟩ := impl_rangeRem.mono_l k
  refine ⟨?_, ?_⟩
  ·intro y0 y1 y2 y3 y4
   unfold impl_rangeRem.j0
   repeat' first
   | (with_reducible exact ih0 _ _ _ _ _)
   | (with_reducible exact ih1 _ _ _ _ _ _ _ _ _ _)
   | (with_reducible exact impl_RangeJoin.mono _ _ _ _ _)
   | (with_reducible exact impl_rangeRemBy.mono _ _ _ _ _)
   | (with_reducible exact impl_rangeSides.mono _ _ _)
   | (with_reducible exact LeO.refl _)
   | (with_reducible exact LeO.none _)
   | (with_reducible refine LeO.ite ?_ ?_)
   | (with_reducible refine LeO.bind ?_ (fun _ => ?_))
   | exact ih0 _ _ _ _ _
   | exact ih1 _ _ _ _ _ _ _ _ _ _
   | exact impl_RangeJoin.mono _ _ _ _ _
   | exact impl_rangeRemBy.mono _ _ _ _ _
   | exact impl_rangeSides.mono _ _ _
   | exact LeO.none _
   | refine LeO.ite ?_ ?_
   | refine LeO.bind ?_ (fun _ => ?_)
  ·intro y0 y1 y2 y3 y4 y5 y6 y7 y8 y9
   unfold impl_rangeRem.j1
   repeat' first
   | (with_reducible exact ih0 _ _ _ _ _)
   | (with_reducible exact ih1 _ _ _ _ _ _ _ _ _ _)
   | (with_reducible exact impl_RangeJoin.mono _ _ _ _ _)
   | (with_reducible exact impl_rangeRemBy.mono _ _ _ _ _)
   | (with_reducible exact impl_rangeSides.mono _ _ _)
   | (with_reducible exact LeO.refl _)
   | (with_reducible exact LeO.none _)
   | (with_reducible refine LeO.ite ?_ ?_)
   | (with_reducible refine LeO.bind ?_ (fun _ => ?_))
   | exact ih0 _ _ _ _ _
   | exact ih1 _ _ _ _ _ _ _ _ _ _
   | exact impl_RangeJoin.mono _ _ _ _ _
   | exact impl_rangeRemBy.mono _ _ _ _ _
   | exact impl_rangeSides.mono _ _ _
   | exact LeO.none _
   | refine LeO.ite ?_ ?_
   | refine LeO.bind ?_ (fun _ => ?_)
theorem impl_rangeRem.mono : ∀ a0 a1 a2 a3 k, LeO (impl_rangeRem.f k a0 a1 a2 a3) (impl_rangeRem.f (k + 1) a0 a1 a2 a3) := by
 intro a0 a1 a2 a3 k
 obtain ⟨ih0, ih1⟩ := impl_rangeRem.mono_l k
 unfold impl_rangeRem.f
 repeat' first
   | (with_reducible exact ih0 _ _ _ _ _)
   | (with_reducible exact ih1 _ _ _ _ _ _ _ _ _ _)
   | (with_reducible exact impl_RangeJoin.mono _ _ _ _ _)
   | (with_reducible exact impl_rangeRemBy.mono _ _ _ _ _)
   | (with_reducible exact impl_rangeSides.mono _ _ _)
   | (with_reducible exact LeO.refl _)
   | (with_reducible exact LeO.none _)
   | (with_reducible refine LeO.ite ?_ ?_)
   | (with_reducible refine LeO.bind ?_ (fun _ => ?_))
   | exact ih0 _ _ _ _ _
   | exact ih1 _ _ _ _ _ _ _ _ _ _
   | exact impl_RangeJoin.mono _ _ _ _ _
   | exact impl_rangeRemBy.mono _ _ _ _ _
   | exact impl_rangeSides.mono _ _ _
   | exact LeO.none _
   | refine LeO.ite ?_ ?_
   | refine LeO.bind ?_ (fun _ => ?_)
def impl_rangeRem.T8 : Bool × List (List Nat × List Nat) := (true, [([], []), ([], []), ([], []), ([2], [2]), ([3], [3]), ([], []), ([5], [5]), ([6], [6]), ([1, 4, 7], [1, 4, 7]), ([0, 8, 8], [0, 8]), ([9, 9, 0, 1, 2, 3, 4, 5, 6, 7, 8, 9], [9])])
def impl_rangeRem.B8 : List Nat := [0, 0, 0, 4, 12, 0, 32, 96, 254, 511, 1023]
theorem impl_rangeRem.tab8 : rtab .any (opsOf Try.f54 8) = impl_rangeRem.T8 := by kernel_rfl
theorem impl_rangeRem.bits8 : waitsOk impl_rangeRem.T8.2 impl_rangeRem.B8 = true := by kernel_rfl
def impl_rangeRem.T11 : Bool × List (List Nat × List Nat) := (true, [([], []), ([], []), ([], []), ([2], [2]), ([], []), ([4], [4]), ([1, 3, 5], [1, 3, 5]), ([0, 6, 6], [0, 6]), ([7, 7, 0, 1, 2, 3, 4, 5, 6, 7], [7])])
def impl_rangeRem.B11 : List Nat := [0, 0, 0, 4, 0, 16, 62, 127, 255]
theorem impl_rangeRem.tab11 : rtab .any (opsOf Try.f54 11) = impl_rangeRem.T11 := by kernel_rfl
theorem impl_rangeRem.bits11 : waitsOk impl_rangeRem.T11.2 impl_rangeRem.B11 = true := by kernel_rfl
set_option maxHeartbeats 8000000 in
set_option maxRecDepth 100000 in
theorem impl_rangeRem.calls (k : Nat) (a0_0 : Int) (a0_1 : Int) (a1_0 : Int) (a1_1 : Int) (r1 : Int) (r2 : Int) (r3 : List Int) (w : World) (h : impl_rangeRem.f k a0_0 a0_1 a1_0 a1_1 = some (r1, r2, r3)) :
  Calls Try.prog 54 #[.agg #[.int .i64 a0_0, .int .i64 a0_1], .agg #[.int .i64 a1_0, .int .i64 a1_1]] w fun e w' => ∃ v2_ : Value, e = .returned (.tuple #[.agg #[.int .i64 r1, .int .i64 r2], v2_]) ∧ Kd.R (Kd.int .i64) 3 w' w.heap.size (fun _ => True) v2_ r3 ∧ Below w.heap.size w w' := by
 have hu24 := Try.underlying24
 have hu96 := Try.underlying96
 have HB := am (Below.refl w.heap.size w)
 have H : ((impl_Range_single.f a0_0 a0_1).bind fun t226 => (if t226 = true then ((impl_Range_single.f a1_0 a1_1).bind fun t227 => (if t227 = true then (impl_rangeRem.j0 k (a1_0 != 0) a0_0 a0_1 a1_0 a1_1) else (impl_rangeRem.j0 k false a0_0 a0_1 a1_0 a1_1))) else (impl_rangeRem.j0 k false a0_0 a0_1 a1_0 a1_1))) = some (r1, r2, r3) := h
 clear h
 have HC3 := am H
 clear H
 go_enter Try.func54, Try.ntmps54
 go_upto_region 1 with (first | ((with_reducible refine gate_dst (N := 2) rfl ?_); refine box_event ?hg (N := 2) ?hd (cs := #[.int .i64 a0_0, .int .i64 a0_1]) (t := 24) ?hr ?_; (case hd => rfl); (case hg => rfl); (case hr => first | (go_simp; done) | (go_simp; rfl)); intro gb223 hg w4 hbox hb; have BK223 := am (hbox); have GW223 := am ((by rw [hg]; exact (below_size (Y0 HB)) : w.heap.size ≤ gb223)); have GE223 := am ((by rw [hg]; exact (below_size (Y0 HB)) : w.heap.size ≤ gb223)); replace HB := am (below_step (Y0 HB) hb); clear hb hbox hg) | ((with_reducible refine gate_dst (N := 3) rfl ?_); refine box_event ?hg (N := 3) ?hd (cs := #[.int .i64 a1_0, .int .i64 a1_1]) (t := 24) ?hr ?_; (case hd => rfl); (case hg => rfl); (case hr => first | (go_simp; done) | (go_simp; rfl)); intro gb224 hg w5 hbox hb; have BK224 := am (hbox); have GW224 := am ((by rw [hg]; exact (below_size (Y1 HB GE223)) : w.heap.size ≤ gb224)); have GE224 := am ((by rw [hg]; exact (below_size (Y1 HB GE223)) : w.heap.size ≤ gb224)); have NB223_224 := am ((nl (o := b2 a0_0 a0_1 24) hg (Z BK223) : gb223 ≠ gb224)); have NB224_223 := am ((ng (o := b2 a0_0 a0_1 24) hg (Z BK223) : gb224 ≠ gb223)); replace BK223 := am (blk_below (g := gb223) (o := b2 a0_0 a0_1 24) (Z BK223) hb); replace HB := am (below_step (Y1 HB GE223) hb); clear hb hbox hg) | ((with_reducible refine gate_dst (N := 4) rfl ?_); refine box_event ?hg (N := 4) ?hd (cs := #[.int .i64 0, .int .i64 0]) (t := 24) ?hr ?_; (case hd => rfl); (case hg => rfl); (case hr => first | (go_simp; done) | (go_simp; rfl)); intro gb225 hg w6 hbox hb; have BK225 := am (hbox); have GW225 := am ((by rw [hg]; exact (below_size (Y2 HB GE223 GE224)) : w.heap.size ≤ gb225)); have GE225 := am ((by rw [hg]; exact (below_size (Y2 HB GE223 GE224)) : w.heap.size ≤ gb225)); have NB223_225 := am ((nl (o := b2 a0_0 a0_1 24) hg (Z BK223) : gb223 ≠ gb225)); have NB225_223 := am ((ng (o := b2 a0_0 a0_1 24) hg (Z BK223) : gb225 ≠ gb223)); have NB224_225 := am ((nl (o := b2 a1_0 a1_1 24) hg (Z BK224) : gb224 ≠ gb225)); have NB225_224 := am ((ng (o := b2 a1_0 a1_1 24) hg (Z BK224) : gb225 ≠ gb224)); replace BK223 := am (blk_below (g := gb223) (o := b2 a0_0 a0_1 24) (Z BK223) hb); replace BK224 := am (blk_below (g := gb224) (o := b2 a1_0 a1_1 24) (Z BK224) hb); replace HB := am (below_step (Y2 HB GE223 GE224) hb); clear hb hbox hg))
 (try simp only [Act.put, List.setIfInBounds_toArray, List.set_cons_zero, List.set_cons_succ])
 go_cut [21] (fun v21 wc => ∃ (kq : Nat) (x21_2 : Bool), v21 = .bool x21_2 ∧ Aside0 (impl_rangeRem.j0 kq x21_2 a0_0 a0_1 a1_0 a1_1 = some (r1, r2, r3)) ∧ Aside0 (kq ≤ k) ∧ Aside0 (wc.heap[gb223]? = some (.cells #[.int .i64 a0_0, .int .i64 a0_1] 24 (0, 0))) ∧ Aside0 (wc.heap[gb224]? = some (.cells #[.int .i64 a1_0, .int .i64 a1_1] 24 (0, 0))) ∧ Aside0 (wc.heap[gb225]? = some (.cells #[.int .i64 0, .int .i64 0] 24 (0, 0))) ∧ Aside0 (Below w.heap.size w wc))
 case first =>
  have H := HC3.out
  clear HC3
  replace H := Option.bind_eq_some_iff.mp H
  obtain ⟨t226, A70, H⟩ := H
  replace H : (if t226 = true then ((impl_Range_single.f a1_0 a1_1).bind fun t227 => (if t227 = true then (impl_rangeRem.j0 k (a1_0 != 0) a0_0 a0_1 a1_0 a1_1) else (impl_rangeRem.j0 k false a0_0 a0_1 a1_0 a1_1))) else (impl_rangeRem.j0 k false a0_0 a0_1 a1_0 a1_1)) = some (r1, r2, r3) := H
  have A7 := am A70
  clear A70
  by_cases c8 : t226 = true
  ·subst c8
   have H1 : ((impl_Range_single.f a1_0 a1_1).bind fun t227 => (if t227 = true then (impl_rangeRem.j0 k (a1_0 != 0) a0_0 a0_1 a1_0 a1_1) else (impl_rangeRem.j0 k false a0_0 a0_1 a1_0 a1_1))) = some (r1, r2, r3) := by rw [if_pos rfl] at H; exact H
   clear H
   have H := H1
   clear H1
   replace H := Option.bind_eq_some_iff.mp H
   obtain ⟨t227, A90, H⟩ := H
   replace H : (if t227 = true then (impl_rangeRem.j0 k (a1_0 != 0) a0_0 a0_1 a1_0 a1_1) else (impl_rangeRem.j0 k false a0_0 a0_1 a1_0 a1_1)) = some (r1, r2, r3) := H
   have A9 := am A90
   clear A90
   by_cases c10 : t227 = true
   ·subst c10
    have H1 : (impl_rangeRem.j0 k (a1_0 != 0) a0_0 a0_1 a1_0 a1_1) = some (r1, r2, r3) := by rw [if_pos rfl] at H; exact H
    clear H
    have H := H1
    clear H1
    have H' := am H
    clear H
    have hnb11 := NB223_224.out
    have hnc11 := NB224_223.out
    have hnb12 := NB223_225.out
    have hnc12 := NB225_223.out
    have hcz13_0 : w6.cell? ⟨gb223, 0, none⟩ = some (.int .i64 a0_0) := bc BK223 0
    have hcz13_1 : w6.cell? ⟨gb223, 1, none⟩ = some (.int .i64 a0_1) := bc BK223 1
    have hfz13_0 := blk_frozen BK223.out 0
    have hfz13_1 := blk_frozen BK223.out 1
    go_wp2_with (first | ((with_reducible refine gate_callee (f := 96) rfl ?_); refine goesL_ (some 12) rfl rfl Try.func96 (by kernel_rfl) rfl #[.agg #[.int .i64 a0_0, .int .i64 a0_1]] rfl mz ?_; (with_reducible refine (impl_Range_single.calls a0_0 a0_1 true _ A7.out).mono ?_); rintro e w14 ⟨rfl, hb⟩; refine ⟨_, rfl, ?_⟩; replace BK223 := am (blk_below (g := gb223) (o := b2 a0_0 a0_1 24) (Z BK223) hb); replace BK224 := am (blk_below (g := gb224) (o := b2 a1_0 a1_1 24) (Z BK224) hb); replace BK225 := am (blk_below (g := gb225) (o := b2 0 0 24) (Z BK225) hb); replace HB := am (below_step (Y3 HB GE223 GE224 GE225) hb); (try clear hb); (try clear hb2); (try clear hk); (try clear hi); have hnb15 := NB224_225.out; have hnc15 := NB225_224.out; have hcz16_0 : w14.cell? ⟨gb224, 0, none⟩ = some (.int .i64 a1_0) := bc BK224 0; have hcz16_1 : w14.cell? ⟨gb224, 1, none⟩ = some (.int .i64 a1_1) := bc BK224 1; have hfz16_0 := blk_frozen BK224.out 0; have hfz16_1 := blk_frozen BK224.out 1) | (go_at_call 96; (with_reducible refine (impl_Range_single.calls a1_0 a1_1 true _ A9.out).mono ?_); rintro e w17 ⟨rfl, hb⟩; replace BK223 := am (blk_below (g := gb223) (o := b2 a0_0 a0_1 24) (Z BK223) hb); replace BK224 := am (blk_below (g := gb224) (o := b2 a1_0 a1_1 24) (Z BK224) hb); replace BK225 := am (blk_below (g := gb225) (o := b2 0 0 24) (Z BK225) hb); replace HB := am (below_step (Y3 HB GE223 GE224 GE225) hb); (try clear hb); (try clear hb2); (try clear hk); (try clear hi); have hcz18_0 : w17.cell? ⟨gb224, 0, none⟩ = some (.int .i64 a1_0) := bc BK224 0; have hcz18_1 : w17.cell? ⟨gb224, 1, none⟩ = some (.int .i64 a1_1) := bc BK224 1; have hfz18_0 := blk_frozen BK224.out 0; have hfz18_1 := blk_frozen BK224.out 1))
    go_meet
    case rel => exact ⟨_, ((a1_0 != 0)), (by first | rfl | (simp; done) | (simp [*]; done)), H', ⟨by first | omega | exact Nat.le_refl _⟩, ⟨Z BK223⟩, ⟨Z BK224⟩, ⟨Z BK225⟩, ⟨Y3 HB GE223 GE224 GE225⟩⟩
   ·replace c10 := Bool.eq_false_iff.mpr c10
    subst c10
    have H1 : (impl_rangeRem.j0 k false a0_0 a0_1 a1_0 a1_1) = some (r1, r2, r3) := by rw [if_neg (show ¬ (false = true) by decide)] at H; exact H
    clear H
    have H := H1
    clear H1
    have H' := am H
    clear H
    have hnb19 := NB223_224.out
    have hnc19 := NB224_223.out
    have hnb20 := NB223_225.out
    have hnc20 := NB225_223.out
    have hcz21_0 : w6.cell? ⟨gb223, 0, none⟩ = some (.int .i64 a0_0) := bc BK223 0
    have hcz21_1 : w6.cell? ⟨gb223, 1, none⟩ = some (.int .i64 a0_1) := bc BK223 1
    have hfz21_0 := blk_frozen BK223.out 0
    have hfz21_1 := blk_frozen BK223.out 1
    go_wp2_with (first | ((with_reducible refine gate_callee (f := 96) rfl ?_); refine goesL_ (some 12) rfl rfl Try.func96 (by kernel_rfl) rfl #[.agg #[.int .i64 a0_0, .int .i64 a0_1]] rfl mz ?_; (with_reducible refine (impl_Range_single.calls a0_0 a0_1 true _ A7.out).mono ?_); rintro e w22 ⟨rfl, hb⟩; refine ⟨_, rfl, ?_⟩; replace BK223 := am (blk_below (g := gb223) (o := b2 a0_0 a0_1 24) (Z BK223) hb); replace BK224 := am (blk_below (g := gb224) (o := b2 a1_0 a1_1 24) (Z BK224) hb); replace BK225 := am (blk_below (g := gb225) (o := b2 0 0 24) (Z BK225) hb); replace HB := am (below_step (Y3 HB GE223 GE224 GE225) hb); (try clear hb); (try clear hb2); (try clear hk); (try clear hi); have hnb23 := NB224_225.out; have hnc23 := NB225_224.out; have hcz24_0 : w22.cell? ⟨gb224, 0, none⟩ = some (.int .i64 a1_0) := bc BK224 0; have hcz24_1 : w22.cell? ⟨gb224, 1, none⟩ = some (.int .i64 a1_1) := bc BK224 1; have hfz24_0 := blk_frozen BK224.out 0; have hfz24_1 := blk_frozen BK224.out 1) | (go_at_call 96; (with_reducible refine (impl_Range_single.calls a1_0 a1_1 false _ A9.out).mono ?_); rintro e w25 ⟨rfl, hb⟩; replace BK223 := am (blk_below (g := gb223) (o := b2 a0_0 a0_1 24) (Z BK223) hb); replace BK224 := am (blk_below (g := gb224) (o := b2 a1_0 a1_1 24) (Z BK224) hb); replace BK225 := am (blk_below (g := gb225) (o := b2 0 0 24) (Z BK225) hb); replace HB := am (below_step (Y3 HB GE223 GE224 GE225) hb); (try clear hb); (try clear hb2); (try clear hk); (try clear hi)))
    go_meet
    case rel => exact ⟨_, (false), (by first | rfl | (simp; done) | (simp [*]; done)), H', ⟨by first | omega | exact Nat.le_refl _⟩, ⟨Z BK223⟩, ⟨Z BK224⟩, ⟨Z BK225⟩, ⟨Y3 HB GE223 GE224 GE225⟩⟩
  ·replace c8 := Bool.eq_false_iff.mpr c8
   subst c8
   have H1 : (impl_rangeRem.j0 k false a0_0 a0_1 a1_0 a1_1) = some (r1, r2, r3) := by rw [if_neg (show ¬ (false = true) by decide)] at H; exact H
   clear H
   have H := H1
   clear H1
   have H' := am H
   clear H
   have hnb26 := NB223_224.out
   have hnc26 := NB224_223.out
   have hnb27 := NB223_225.out
   have hnc27 := NB225_223.out
   have hcz28_0 : w6.cell? ⟨gb223, 0, none⟩ = some (.int .i64 a0_0) := bc BK223 0
   have hcz28_1 : w6.cell? ⟨gb223, 1, none⟩ = some (.int .i64 a0_1) := bc BK223 1
   have hfz28_0 := blk_frozen BK223.out 0
   have hfz28_1 := blk_frozen BK223.out 1
   go_wp2_with (first | ((with_reducible refine gate_callee (f := 96) rfl ?_); refine goesL_ (some 12) rfl rfl Try.func96 (by kernel_rfl) rfl #[.agg #[.int .i64 a0_0, .int .i64 a0_1]] rfl mz ?_; (with_reducible refine (impl_Range_single.calls a0_0 a0_1 false _ A7.out).mono ?_); rintro e w29 ⟨rfl, hb⟩; refine ⟨_, rfl, ?_⟩; replace BK223 := am (blk_below (g := gb223) (o := b2 a0_0 a0_1 24) (Z BK223) hb); replace BK224 := am (blk_below (g := gb224) (o := b2 a1_0 a1_1 24) (Z BK224) hb); replace BK225 := am (blk_below (g := gb225) (o := b2 0 0 24) (Z BK225) hb); replace HB := am (below_step (Y3 HB GE223 GE224 GE225) hb); (try clear hb); (try clear hb2); (try clear hk); (try clear hi)))
   go_meet
   case rel => exact ⟨_, (false), (by first | rfl | (simp; done) | (simp [*]; done)), H', ⟨by first | omega | exact Nat.le_refl _⟩, ⟨Z BK223⟩, ⟨Z BK224⟩, ⟨Z BK225⟩, ⟨Y3 HB GE223 GE224 GE225⟩⟩
 case rest =>
  clear HC3
  try clear c1
  try clear c2
  try clear p2
  try clear c5
  try clear c8
  try clear c9
  try clear c10
  try clear c11
  try clear c12
  try clear c15
  try clear c19
  try clear c20
  try clear c23
  try clear c26
  try clear c27
  try clear hcz13_0
  try clear hcz13_1
  try clear hcz16_0
  try clear hcz16_1
  try clear hcz18_0
  try clear hcz18_1
  try clear hcz21_0
  try clear hcz21_1
  try clear hcz24_0
  try clear hcz24_1
  try clear hcz28_0
  try clear hcz28_1
  try clear hfz13_0
  try clear hfz13_1
  try clear hfz16_0
  try clear hfz16_1
  try clear hfz18_0
  try clear hfz18_1
  try clear hfz21_0
  try clear hfz21_1
  try clear hfz24_0
  try clear hfz24_1
  try clear hfz28_0
  try clear hfz28_1
  obtain ⟨kq, x21_2, rfl, HA, HJ2, BK223, BK224, BK225, HB⟩ := hcut
  cases kq with
  | zero => exact absurd HA.out (by simp [impl_rangeRem.j0])
  | succ kj2 =>
   have H := HA.out
   clear HA
   simp only [impl_rangeRem.j0] at H
   by_cases c30 : x21_2 = true
   ·subst c30
    have H1 : (if a1_0 = 0 then (none) else (some (Int.tmod a0_0 a1_0, Int.tmod a0_0 a1_0, ([] : List Int)))) = some (r1, r2, r3) := by rw [if_pos rfl] at H; exact H
    clear H
    have H := H1
    clear H1
    by_cases c31 : a1_0 = 0
    ·rw [if_pos c31] at H
     exact absurd H (by simp)
    ·rw [if_neg c31] at H
     have c31b0 : (a1_0 == 0) = false := beq_eq_false_iff_ne.mpr c31
     have c31b1 : (a1_0 != 0) = true := bne_iff_ne.mpr c31
     simp only [Option.some.injEq, Prod.mk.injEq] at H
     obtain ⟨rfl, rfl, rfl⟩ := H
     have hnb32 := NB223_224.out
     have hnc32 := NB224_223.out
     have hnb33 := NB223_225.out
     have hnc33 := NB225_223.out
     have hcz34_0 : wc.cell? ⟨gb223, 0, none⟩ = some (.int .i64 a0_0) := bc BK223 0
     have hcz34_1 : wc.cell? ⟨gb223, 1, none⟩ = some (.int .i64 a0_1) := bc BK223 1
     have hfz34_0 := blk_frozen BK223.out 0
     have hfz34_1 := blk_frozen BK223.out 1
     have hnb35 := NB224_225.out
     have hnc35 := NB225_224.out
     have hcz36_0 : wc.cell? ⟨gb224, 0, none⟩ = some (.int .i64 a1_0) := bc BK224 0
     have hcz36_1 : wc.cell? ⟨gb224, 1, none⟩ = some (.int .i64 a1_1) := bc BK224 1
     have hfz36_0 := blk_frozen BK224.out 0
     have hfz36_1 := blk_frozen BK224.out 1
     have hcz37_0 : wc.cell? ⟨gb225, 0, none⟩ = some (.int .i64 0) := bc BK225 0
     have hcz37_1 : wc.cell? ⟨gb225, 1, none⟩ = some (.int .i64 0) := bc BK225 1
     have hfz37_0 := blk_frozen BK225.out 0
     have hfz37_1 := blk_frozen BK225.out 1
     go_wp2
     refine bodyPost_ret (results_ct rfl _ _ gb225 24 #[.int .i64 (Int.tmod a0_0 a1_0), .int .i64 (Int.tmod a0_0 a1_0)] (0, 0) _ rfl (by (with_reducible repeat (first | refine blk_drewN ?_ _ | refine blk_drew ?_ | refine blk_alloc ?_ _)); refine blk_put (cs := #[.int .i64 (Int.tmod a0_0 a1_0), .int .i64 0]) ?_ 1 _ rfl; (with_reducible repeat (first | refine blk_drewN ?_ _ | refine blk_drew ?_ | refine blk_alloc ?_ _)); refine blk_put (cs := #[.int .i64 0, .int .i64 0]) ?_ 0 _ rfl; (with_reducible repeat (first | refine blk_drewN ?_ _ | refine blk_drew ?_ | refine blk_alloc ?_ _)); exact BK225.out) Try.underlying24 rfl (by kernel_rfl)) rfl ?_
     exact ⟨_, by first | rfl | (simp [errW_none, errW_some] <;> rfl) | (simp [*, errW_none, errW_some] <;> rfl), by first | exact Kd.R_nil _ _ _ _ _ | exact Kd.N_nil _ _ _ _ _ | exact Kd.V_nil _ _ _ _ _ | exact Kd.Q_nil _ _ _ _ _ | exact Kd.S_nil _ _ _ _ _, Y3 HB GE223 GE224 GE225⟩
   ·replace c30 := Bool.eq_false_iff.mpr c30
    subst c30
    have H1 : ((impl_rangeSides.f kj2 a1_0 a1_1).bind fun bt228 => ((impl_rangeNone.f).bind fun bt233 => ((impl_Range_empty.f bt228.1 bt228.2.1).bind fun t237 => (if t237 = true then (impl_rangeRem.j1 kj2 a0_0 a0_1 a1_0 a1_1 bt228.1 bt228.2.1 bt228.2.2.1 bt228.2.2.2 bt233.1 bt233.2) else ((impl_rangeRemBy.f kj2 a0_0 a0_1 (wrap64 (-bt228.2.1)) (wrap64 (-bt228.1))).bind fun bt238 => ((impl_RangeJoin.f kj2 bt233.1 bt233.2 bt238.1 bt238.2).bind fun bt240 => (impl_rangeRem.j1 kj2 a0_0 a0_1 a1_0 a1_1 bt228.1 bt228.2.1 bt228.2.2.1 bt228.2.2.2 bt240.1 bt240.2))))))) = some (r1, r2, r3) := by rw [if_neg (show ¬ (false = true) by decide)] at H; exact H
    clear H
    have H := H1
    clear H1
    replace H := Option.bind_eq_some_iff.mp H
    obtain ⟨⟨t228, t229, t230, t231⟩, A380, H⟩ := H
    replace H : ((impl_rangeNone.f).bind fun bt233 => ((impl_Range_empty.f t228 t229).bind fun t237 => (if t237 = true then (impl_rangeRem.j1 kj2 a0_0 a0_1 a1_0 a1_1 t228 t229 t230 t231 bt233.1 bt233.2) else ((impl_rangeRemBy.f kj2 a0_0 a0_1 (wrap64 (-t229)) (wrap64 (-t228))).bind fun bt238 => ((impl_RangeJoin.f kj2 bt233.1 bt233.2 bt238.1 bt238.2).bind fun bt240 => (impl_rangeRem.j1 kj2 a0_0 a0_1 a1_0 a1_1 t228 t229 t230 t231 bt240.1 bt240.2)))))) = some (r1, r2, r3) := H
    have A38 := am A380
    clear A380
    replace H := Option.bind_eq_some_iff.mp H
    obtain ⟨⟨t233, t234⟩, A390, H⟩ := H
    replace H : ((impl_Range_empty.f t228 t229).bind fun t237 => (if t237 = true then (impl_rangeRem.j1 kj2 a0_0 a0_1 a1_0 a1_1 t228 t229 t230 t231 t233 t234) else ((impl_rangeRemBy.f kj2 a0_0 a0_1 (wrap64 (-t229)) (wrap64 (-t228))).bind fun bt238 => ((impl_RangeJoin.f kj2 t233 t234 bt238.1 bt238.2).bind fun bt240 => (impl_rangeRem.j1 kj2 a0_0 a0_1 a1_0 a1_1 t228 t229 t230 t231 bt240.1 bt240.2))))) = some (r1, r2, r3) := H
    have A39 := am A390
    clear A390
    replace H := Option.bind_eq_some_iff.mp H
    obtain ⟨t237, A400, H⟩ := H
    replace H : (if t237 = true then (impl_rangeRem.j1 kj2 a0_0 a0_1 a1_0 a1_1 t228 t229 t230 t231 t233 t234) else ((impl_rangeRemBy.f kj2 a0_0 a0_1 (wrap64 (-t229)) (wrap64 (-t228))).bind fun bt238 => ((impl_RangeJoin.f kj2 t233 t234 bt238.1 bt238.2).bind fun bt240 => (impl_rangeRem.j1 kj2 a0_0 a0_1 a1_0 a1_1 t228 t229 t230 t231 bt240.1 bt240.2)))) = some (r1, r2, r3) := H
    have A40 := am A400
    clear A400
    have HC41 := am H
    clear H
    have hnb42 := NB224_223.out
    have hnc42 := NB223_224.out
    have hnb43 := NB224_225.out
    have hnc43 := NB225_224.out
    have hcz44_0 : wc.cell? ⟨gb224, 0, none⟩ = some (.int .i64 a1_0) := bc BK224 0
    have hcz44_1 : wc.cell? ⟨gb224, 1, none⟩ = some (.int .i64 a1_1) := bc BK224 1
    have hfz44_0 := blk_frozen BK224.out 0
    have hfz44_1 := blk_frozen BK224.out 1
    go_upto_if 37 with (first | ((with_reducible refine gate_callee (f := 94) rfl ?_); refine goesL_ (some 31) rfl rfl Try.func94 (by kernel_rfl) rfl #[.agg #[.int .i64 a1_0, .int .i64 a1_1]] rfl mz ?_; (with_reducible refine (impl_rangeSides.calls kj2 a1_0 a1_1 t228 t229 t230 t231 _ A38.out).mono ?_); rintro e w45 ⟨rfl, hb⟩; refine ⟨_, rfl, ?_⟩; replace BK223 := am (blk_below (g := gb223) (o := b2 a0_0 a0_1 24) (Z BK223) hb); replace BK224 := am (blk_below (g := gb224) (o := b2 a1_0 a1_1 24) (Z BK224) hb); replace BK225 := am (blk_below (g := gb225) (o := b2 0 0 24) (Z BK225) hb); replace HB := am (below_step (Y3 HB GE223 GE224 GE225) hb); (try clear hb); (try clear hb2); (try clear hk); (try clear hi)) | ((with_reducible refine gate_dst (N := 7) rfl ?_); refine box_event ?hg (N := 7) ?hd (cs := #[.int .i64 0, .int .i64 0, .int .i64 0, .int .i64 0]) (t := 96) ?hr ?_; (case hd => rfl); (case hg => rfl); (case hr => first | (go_simp; done) | (go_simp; rfl)); intro gb232 hg w46 hbox hb; have BK232 := am (hbox); have GW232 := am ((by rw [hg]; exact (below_size (Y3 HB GE223 GE224 GE225)) : w.heap.size ≤ gb232)); have GE232 := am ((by rw [hg]; exact (below_size (Y3 HB GE223 GE224 GE225)) : w.heap.size ≤ gb232)); have NB223_232 := am ((nl (o := b2 a0_0 a0_1 24) hg (Z BK223) : gb223 ≠ gb232)); have NB232_223 := am ((ng (o := b2 a0_0 a0_1 24) hg (Z BK223) : gb232 ≠ gb223)); have NB224_232 := am ((nl (o := b2 a1_0 a1_1 24) hg (Z BK224) : gb224 ≠ gb232)); have NB232_224 := am ((ng (o := b2 a1_0 a1_1 24) hg (Z BK224) : gb232 ≠ gb224)); have NB225_232 := am ((nl (o := b2 0 0 24) hg (Z BK225) : gb225 ≠ gb232)); have NB232_225 := am ((ng (o := b2 0 0 24) hg (Z BK225) : gb232 ≠ gb225)); replace BK223 := am (blk_below (g := gb223) (o := b2 a0_0 a0_1 24) (Z BK223) hb); replace BK224 := am (blk_below (g := gb224) (o := b2 a1_0 a1_1 24) (Z BK224) hb); replace BK225 := am (blk_below (g := gb225) (o := b2 0 0 24) (Z BK225) hb); replace HB := am (below_step (Y3 HB GE223 GE224 GE225) hb); clear hb hbox hg; have hnb47 := NB232_223.out; have hnc47 := NB223_232.out; have hnb48 := NB232_224.out; have hnc48 := NB224_232.out; have hnb49 := NB232_225.out; have hnc49 := NB225_232.out; have hcz50_0 : w46.cell? ⟨gb232, 0, none⟩ = some (.int .i64 0) := bc BK232 0; have hcz50_1 : w46.cell? ⟨gb232, 1, none⟩ = some (.int .i64 0) := bc BK232 1; have hcz50_2 : w46.cell? ⟨gb232, 2, none⟩ = some (.int .i64 0) := bc BK232 2; have hcz50_3 : w46.cell? ⟨gb232, 3, none⟩ = some (.int .i64 0) := bc BK232 3; have hfz50_0 := blk_frozen BK232.out 0; have hfz50_1 := blk_frozen BK232.out 1; have hfz50_2 := blk_frozen BK232.out 2; have hfz50_3 := blk_frozen BK232.out 3) | ((with_reducible refine gate_callee (f := 48) rfl ?_); refine goesL_ (some 32) rfl rfl Try.func48 (by kernel_rfl) rfl #[] rfl mz ?_; (with_reducible refine (impl_rangeNone.calls  t233 t234 _ A39.out).mono ?_); rintro e w51 ⟨rfl, hb⟩; refine ⟨_, rfl, ?_⟩; replace BK223 := am (blk_below (g := gb223) (o := b2 a0_0 a0_1 24) (by (with_reducible repeat (first | refine blk_drewN ?_ _ | refine blk_drew ?_ | refine blk_alloc ?_ _)); refine blk_far ?_ NB223_232.out _; (with_reducible repeat (first | refine blk_drewN ?_ _ | refine blk_drew ?_ | refine blk_alloc ?_ _)); refine blk_far ?_ NB223_232.out _; (with_reducible repeat (first | refine blk_drewN ?_ _ | refine blk_drew ?_ | refine blk_alloc ?_ _)); refine blk_far ?_ NB223_232.out _; (with_reducible repeat (first | refine blk_drewN ?_ _ | refine blk_drew ?_ | refine blk_alloc ?_ _)); refine blk_far ?_ NB223_232.out _; (with_reducible repeat (first | refine blk_drewN ?_ _ | refine blk_drew ?_ | refine blk_alloc ?_ _)); exact BK223.out) hb); replace BK224 := am (blk_below (g := gb224) (o := b2 a1_0 a1_1 24) (by (with_reducible repeat (first | refine blk_drewN ?_ _ | refine blk_drew ?_ | refine blk_alloc ?_ _)); refine blk_far ?_ NB224_232.out _; (with_reducible repeat (first | refine blk_drewN ?_ _ | refine blk_drew ?_ | refine blk_alloc ?_ _)); refine blk_far ?_ NB224_232.out _; (with_reducible repeat (first | refine blk_drewN ?_ _ | refine blk_drew ?_ | refine blk_alloc ?_ _)); refine blk_far ?_ NB224_232.out _; (with_reducible repeat (first | refine blk_drewN ?_ _ | refine blk_drew ?_ | refine blk_alloc ?_ _)); refine blk_far ?_ NB224_232.out _; (with_reducible repeat (first | refine blk_drewN ?_ _ | refine blk_drew ?_ | refine blk_alloc ?_ _)); exact BK224.out) hb); replace BK225 := am (blk_below (g := gb225) (o := b2 0 0 24) (by (with_reducible repeat (first | refine blk_drewN ?_ _ | refine blk_drew ?_ | refine blk_alloc ?_ _)); refine blk_far ?_ NB225_232.out _; (with_reducible repeat (first | refine blk_drewN ?_ _ | refine blk_drew ?_ | refine blk_alloc ?_ _)); refine blk_far ?_ NB225_232.out _; (with_reducible repeat (first | refine blk_drewN ?_ _ | refine blk_drew ?_ | refine blk_alloc ?_ _)); refine blk_far ?_ NB225_232.out _; (with_reducible repeat (first | refine blk_drewN ?_ _ | refine blk_drew ?_ | refine blk_alloc ?_ _)); refine blk_far ?_ NB225_232.out _; (with_reducible repeat (first | refine blk_drewN ?_ _ | refine blk_drew ?_ | refine blk_alloc ?_ _)); exact BK225.out) hb); replace BK232 := am (blk_below (g := gb232) (o := b4 t228 t229 t230 t231 96) (by (with_reducible repeat (first | refine blk_drewN ?_ _ | refine blk_drew ?_ | refine blk_alloc ?_ _)); refine blk_put (cs := #[.int .i64 t228, .int .i64 t229, .int .i64 t230, .int .i64 0]) ?_ 3 _ rfl; (with_reducible repeat (first | refine blk_drewN ?_ _ | refine blk_drew ?_ | refine blk_alloc ?_ _)); refine blk_put (cs := #[.int .i64 t228, .int .i64 t229, .int .i64 0, .int .i64 0]) ?_ 2 _ rfl; (with_reducible repeat (first | refine blk_drewN ?_ _ | refine blk_drew ?_ | refine blk_alloc ?_ _)); refine blk_put (cs := #[.int .i64 t228, .int .i64 0, .int .i64 0, .int .i64 0]) ?_ 1 _ rfl; (with_reducible repeat (first | refine blk_drewN ?_ _ | refine blk_drew ?_ | refine blk_alloc ?_ _)); refine blk_put (cs := #[.int .i64 0, .int .i64 0, .int .i64 0, .int .i64 0]) ?_ 0 _ rfl; (with_reducible repeat (first | refine blk_drewN ?_ _ | refine blk_drew ?_ | refine blk_alloc ?_ _)); exact BK232.out) hb); replace HB := am (below_step (Y4 HB GE223 GE224 GE225 GE232) hb); (try clear hb); (try clear hb2); (try clear hk); (try clear hi)) | ((with_reducible refine gate_dst (N := 8) rfl ?_); refine box_event ?hg (N := 8) ?hd (cs := #[.int .i64 0, .int .i64 0]) (t := 24) ?hr ?_; (case hd => rfl); (case hg => rfl); (case hr => first | (go_simp; done) | (go_simp; rfl)); intro gb235 hg w52 hbox hb; have BK235 := am (hbox); have GW235 := am ((by rw [hg]; exact (below_size (Y4 HB GE223 GE224 GE225 GE232)) : w.heap.size ≤ gb235)); have GE235 := am ((by rw [hg]; exact (below_size (Y4 HB GE223 GE224 GE225 GE232)) : w.heap.size ≤ gb235)); have NB223_235 := am ((nl (o := b2 a0_0 a0_1 24) hg (Z BK223) : gb223 ≠ gb235)); have NB235_223 := am ((ng (o := b2 a0_0 a0_1 24) hg (Z BK223) : gb235 ≠ gb223)); have NB224_235 := am ((nl (o := b2 a1_0 a1_1 24) hg (Z BK224) : gb224 ≠ gb235)); have NB235_224 := am ((ng (o := b2 a1_0 a1_1 24) hg (Z BK224) : gb235 ≠ gb224)); have NB225_235 := am ((nl (o := b2 0 0 24) hg (Z BK225) : gb225 ≠ gb235)); have NB235_225 := am ((ng (o := b2 0 0 24) hg (Z BK225) : gb235 ≠ gb225)); have NB232_235 := am ((nl (o := b4 t228 t229 t230 t231 96) hg (Z BK232) : gb232 ≠ gb235)); have NB235_232 := am ((ng (o := b4 t228 t229 t230 t231 96) hg (Z BK232) : gb235 ≠ gb232)); replace BK223 := am (blk_below (g := gb223) (o := b2 a0_0 a0_1 24) (Z BK223) hb); replace BK224 := am (blk_below (g := gb224) (o := b2 a1_0 a1_1 24) (Z BK224) hb); replace BK225 := am (blk_below (g := gb225) (o := b2 0 0 24) (Z BK225) hb); replace BK232 := am (blk_below (g := gb232) (o := b4 t228 t229 t230 t231 96) (Z BK232) hb); replace HB := am (below_step (Y4 HB GE223 GE224 GE225 GE232) hb); clear hb hbox hg; have hnb53 := NB235_223.out; have hnc53 := NB223_235.out; have hnb54 := NB235_224.out; have hnc54 := NB224_235.out; have hnb55 := NB235_225.out; have hnc55 := NB225_235.out; have hnb56 := NB235_232.out; have hnc56 := NB232_235.out; have hcz57_0 : w52.cell? ⟨gb235, 0, none⟩ = some (.int .i64 0) := bc BK235 0; have hcz57_1 : w52.cell? ⟨gb235, 1, none⟩ = some (.int .i64 0) := bc BK235 1; have hfz57_0 := blk_frozen BK235.out 0; have hfz57_1 := blk_frozen BK235.out 1; have hcz58_0 : w52.cell? ⟨gb232, 0, none⟩ = some (.int .i64 t228) := bc BK232 0; have hcz58_1 : w52.cell? ⟨gb232, 1, none⟩ = some (.int .i64 t229) := bc BK232 1; have hcz58_2 : w52.cell? ⟨gb232, 2, none⟩ = some (.int .i64 t230) := bc BK232 2; have hcz58_3 : w52.cell? ⟨gb232, 3, none⟩ = some (.int .i64 t231) := bc BK232 3; have hfz58_0 := blk_frozen BK232.out 0; have hfz58_1 := blk_frozen BK232.out 1; have hfz58_2 := blk_frozen BK232.out 2; have hfz58_3 := blk_frozen BK232.out 3) | ((with_reducible refine gate_dst (N := 9) rfl ?_); refine box_event ?hg (N := 9) ?hd (cs := #[.int .i64 0, .int .i64 0]) (t := 24) ?hr ?_; (case hd => rfl); (case hg => rfl); (case hr => first | (go_simp; done) | (go_simp; rfl)); intro gb236 hg w59 hbox hb; have BK236 := am (hbox); have GW236 := am ((by rw [hg]; exact (below_size (Y5 HB GE223 GE224 GE225 GE232 GE235)) : w.heap.size ≤ gb236)); have GE236 := am ((by rw [hg]; exact (below_size (Y5 HB GE223 GE224 GE225 GE232 GE235)) : w.heap.size ≤ gb236)); have NB223_236 := am ((by rw [hg]; exact Nat.ne_of_lt (blk_lt (g := gb223) (o := b2 a0_0 a0_1 24) (by (with_reducible repeat (first | refine blk_drewN ?_ _ | refine blk_drew ?_ | refine blk_alloc ?_ _)); refine blk_far ?_ NB223_235.out _; (with_reducible repeat (first | refine blk_drewN ?_ _ | refine blk_drew ?_ | refine blk_alloc ?_ _)); refine blk_far ?_ NB223_235.out _; (with_reducible repeat (first | refine blk_drewN ?_ _ | refine blk_drew ?_ | refine blk_alloc ?_ _)); exact BK223.out)) : gb223 ≠ gb236)); have NB236_223 := am ((by rw [hg]; exact Nat.ne_of_gt (blk_lt (g := gb223) (o := b2 a0_0 a0_1 24) (by (with_reducible repeat (first | refine blk_drewN ?_ _ | refine blk_drew ?_ | refine blk_alloc ?_ _)); refine blk_far ?_ NB223_235.out _; (with_reducible repeat (first | refine blk_drewN ?_ _ | refine blk_drew ?_ | refine blk_alloc ?_ _)); refine blk_far ?_ NB223_235.out _; (with_reducible repeat (first | refine blk_drewN ?_ _ | refine blk_drew ?_ | refine blk_alloc ?_ _)); exact BK223.out)) : gb236 ≠ gb223)); have NB224_236 := am ((by rw [hg]; exact Nat.ne_of_lt (blk_lt (g := gb224) (o := b2 a1_0 a1_1 24) (by (with_reducible repeat (first | refine blk_drewN ?_ _ | refine blk_drew ?_ | refine blk_alloc ?_ _)); refine blk_far ?_ NB224_235.out _; (with_reducible repeat (first | refine blk_drewN ?_ _ | refine blk_drew ?_ | refine blk_alloc ?_ _)); refine blk_far ?_ NB224_235.out _; (with_reducible repeat (first | refine blk_drewN ?_ _ | refine blk_drew ?_ | refine blk_alloc ?_ _)); exact BK224.out)) : gb224 ≠ gb236)); have NB236_224 := am ((by rw [hg]; exact Nat.ne_of_gt (blk_lt (g := gb224) (o := b2 a1_0 a1_1 24) (by (with_reducible repeat (first | refine blk_drewN ?_ _ | refine blk_drew ?_ | refine blk_alloc ?_ _)); refine blk_far ?_ NB224_235.out _; (with_reducible repeat (first | refine blk_drewN ?_ _ | refine blk_drew ?_ | refine blk_alloc ?_ _)); refine blk_far ?_ NB224_235.out _; (with_reducible repeat (first | refine blk_drewN ?_ _ | refine blk_drew ?_ | refine blk_alloc ?_ _)); exact BK224.out)) : gb236 ≠ gb224)); have NB225_236 := am ((by rw [hg]; exact Nat.ne_of_lt (blk_lt (g := gb225) (o := b2 0 0 24) (by (with_reducible repeat (first | refine blk_drewN ?_ _ | refine blk_drew ?_ | refine blk_alloc ?_ _)); refine blk_far ?_ NB225_235.out _; (with_reducible repeat (first | refine blk_drewN ?_ _ | refine blk_drew ?_ | refine blk_alloc ?_ _)); refine blk_far ?_ NB225_235.out _; (with_reducible repeat (first | refine blk_drewN ?_ _ | refine blk_drew ?_ | refine blk_alloc ?_ _)); exact BK225.out)) : gb225 ≠ gb236)); have NB236_225 := am ((by rw [hg]; exact Nat.ne_of_gt (blk_lt (g := gb225) (o := b2 0 0 24) (by (with_reducible repeat (first | refine blk_drewN ?_ _ | refine blk_drew ?_ | refine blk_alloc ?_ _)); refine blk_far ?_ NB225_235.out _; (with_reducible repeat (first | refine blk_drewN ?_ _ | refine blk_drew ?_ | refine blk_alloc ?_ _)); refine blk_far ?_ NB225_235.out _; (with_reducible repeat (first | refine blk_drewN ?_ _ | refine blk_drew ?_ | refine blk_alloc ?_ _)); exact BK225.out)) : gb236 ≠ gb225)); have NB232_236 := am ((by rw [hg]; exact Nat.ne_of_lt (blk_lt (g := gb232) (o := b4 t228 t229 t230 t231 96) (by (with_reducible repeat (first | refine blk_drewN ?_ _ | refine blk_drew ?_ | refine blk_alloc ?_ _)); refine blk_far ?_ NB232_235.out _; (with_reducible repeat (first | refine blk_drewN ?_ _ | refine blk_drew ?_ | refine blk_alloc ?_ _)); refine blk_far ?_ NB232_235.out _; (with_reducible repeat (first | refine blk_drewN ?_ _ | refine blk_drew ?_ | refine blk_alloc ?_ _)); exact BK232.out)) : gb232 ≠ gb236)); have NB236_232 := am ((by rw [hg]; exact Nat.ne_of_gt (blk_lt (g := gb232) (o := b4 t228 t229 t230 t231 96) (by (with_reducible repeat (first | refine blk_drewN ?_ _ | refine blk_drew ?_ | refine blk_alloc ?_ _)); refine blk_far ?_ NB232_235.out _; (with_reducible repeat (first | refine blk_drewN ?_ _ | refine blk_drew ?_ | refine blk_alloc ?_ _)); refine blk_far ?_ NB232_235.out _; (with_reducible repeat (first | refine blk_drewN ?_ _ | refine blk_drew ?_ | refine blk_alloc ?_ _)); exact BK232.out)) : gb236 ≠ gb232)); have NB235_236 := am ((by rw [hg]; exact Nat.ne_of_lt (blk_lt (g := gb235) (o := b2 t233 t234 24) (by (with_reducible repeat (first | refine blk_drewN ?_ _ | refine blk_drew ?_ | refine blk_alloc ?_ _)); refine blk_put (cs := #[.int .i64 t233, .int .i64 0]) ?_ 1 _ rfl; (with_reducible repeat (first | refine blk_drewN ?_ _ | refine blk_drew ?_ | refine blk_alloc ?_ _)); refine blk_put (cs := #[.int .i64 0, .int .i64 0]) ?_ 0 _ rfl; (with_reducible repeat (first | refine blk_drewN ?_ _ | refine blk_drew ?_ | refine blk_alloc ?_ _)); exact BK235.out)) : gb235 ≠ gb236)); have NB236_235 := am ((by rw [hg]; exact Nat.ne_of_gt (blk_lt (g := gb235) (o := b2 t233 t234 24) (by (with_reducible repeat (first | refine blk_drewN ?_ _ | refine blk_drew ?_ | refine blk_alloc ?_ _)); refine blk_put (cs := #[.int .i64 t233, .int .i64 0]) ?_ 1 _ rfl; (with_reducible repeat (first | refine blk_drewN ?_ _ | refine blk_drew ?_ | refine blk_alloc ?_ _)); refine blk_put (cs := #[.int .i64 0, .int .i64 0]) ?_ 0 _ rfl; (with_reducible repeat (first | refine blk_drewN ?_ _ | refine blk_drew ?_ | refine blk_alloc ?_ _)); exact BK235.out)) : gb236 ≠ gb235)); replace BK223 := am (blk_below (g := gb223) (o := b2 a0_0 a0_1 24) (by (with_reducible repeat (first | refine blk_drewN ?_ _ | refine blk_drew ?_ | refine blk_alloc ?_ _)); refine blk_far ?_ NB223_235.out _; (with_reducible repeat (first | refine blk_drewN ?_ _ | refine blk_drew ?_ | refine blk_alloc ?_ _)); refine blk_far ?_ NB223_235.out _; (with_reducible repeat (first | refine blk_drewN ?_ _ | refine blk_drew ?_ | refine blk_alloc ?_ _)); exact BK223.out) hb); replace BK224 := am (blk_below (g := gb224) (o := b2 a1_0 a1_1 24) (by (with_reducible repeat (first | refine blk_drewN ?_ _ | refine blk_drew ?_ | refine blk_alloc ?_ _)); refine blk_far ?_ NB224_235.out _; (with_reducible repeat (first | refine blk_drewN ?_ _ | refine blk_drew ?_ | refine blk_alloc ?_ _)); refine blk_far ?_ NB224_235.out _; (with_reducible repeat (first | refine blk_drewN ?_ _ | refine blk_drew ?_ | refine blk_alloc ?_ _)); exact BK224.out) hb); replace BK225 := am (blk_below (g := gb225) (o := b2 0 0 24) (by (with_reducible repeat (first | refine blk_drewN ?_ _ | refine blk_drew ?_ | refine blk_alloc ?_ _)); refine blk_far ?_ NB225_235.out _; (with_reducible repeat (first | refine blk_drewN ?_ _ | refine blk_drew ?_ | refine blk_alloc ?_ _)); refine blk_far ?_ NB225_235.out _; (with_reducible repeat (first | refine blk_drewN ?_ _ | refine blk_drew ?_ | refine blk_alloc ?_ _)); exact BK225.out) hb); replace BK232 := am (blk_below (g := gb232) (o := b4 t228 t229 t230 t231 96) (by (with_reducible repeat (first | refine blk_drewN ?_ _ | refine blk_drew ?_ | refine blk_alloc ?_ _)); refine blk_far ?_ NB232_235.out _; (with_reducible repeat (first | refine blk_drewN ?_ _ | refine blk_drew ?_ | refine blk_alloc ?_ _)); refine blk_far ?_ NB232_235.out _; (with_reducible repeat (first | refine blk_drewN ?_ _ | refine blk_drew ?_ | refine blk_alloc ?_ _)); exact BK232.out) hb); replace BK235 := am (blk_below (g := gb235) (o := b2 t233 t234 24) (by (with_reducible repeat (first | refine blk_drewN ?_ _ | refine blk_drew ?_ | refine blk_alloc ?_ _)); refine blk_put (cs := #[.int .i64 t233, .int .i64 0]) ?_ 1 _ rfl; (with_reducible repeat (first | refine blk_drewN ?_ _ | refine blk_drew ?_ | refine blk_alloc ?_ _)); refine blk_put (cs := #[.int .i64 0, .int .i64 0]) ?_ 0 _ rfl; (with_reducible repeat (first | refine blk_drewN ?_ _ | refine blk_drew ?_ | refine blk_alloc ?_ _)); exact BK235.out) hb); replace HB := am (below_step (Y5 HB GE223 GE224 GE225 GE232 GE235) hb); clear hb hbox hg; have hnb60 := NB236_223.out; have hnc60 := NB223_236.out; have hnb61 := NB236_224.out; have hnc61 := NB224_236.out; have hnb62 := NB236_225.out; have hnc62 := NB225_236.out; have hnb63 := NB236_232.out; have hnc63 := NB232_236.out; have hnb64 := NB236_235.out; have hnc64 := NB235_236.out; have hcz65_0 : w59.cell? ⟨gb236, 0, none⟩ = some (.int .i64 0) := bc BK236 0; have hcz65_1 : w59.cell? ⟨gb236, 1, none⟩ = some (.int .i64 0) := bc BK236 1; have hfz65_0 := blk_frozen BK236.out 0; have hfz65_1 := blk_frozen BK236.out 1) | ((with_reducible refine gate_callee (f := 47) rfl ?_); refine goesL_ (some 36) rfl rfl Try.func47 (by kernel_rfl) rfl #[.agg #[.int .i64 t228, .int .i64 t229]] rfl mz ?_; (with_reducible refine (impl_Range_empty.calls t228 t229 t237 _ A40.out).mono ?_); rintro e w66 ⟨rfl, hb⟩; refine ⟨_, rfl, ?_⟩; replace BK223 := am (blk_below (g := gb223) (o := b2 a0_0 a0_1 24) (by (with_reducible repeat (first | refine blk_drewN ?_ _ | refine blk_drew ?_ | refine blk_alloc ?_ _)); refine blk_far ?_ NB223_236.out _; (with_reducible repeat (first | refine blk_drewN ?_ _ | refine blk_drew ?_ | refine blk_alloc ?_ _)); refine blk_far ?_ NB223_236.out _; (with_reducible repeat (first | refine blk_drewN ?_ _ | refine blk_drew ?_ | refine blk_alloc ?_ _)); exact BK223.out) hb); replace BK224 := am (blk_below (g := gb224) (o := b2 a1_0 a1_1 24) (by (with_reducible repeat (first | refine blk_drewN ?_ _ | refine blk_drew ?_ | refine blk_alloc ?_ _)); refine blk_far ?_ NB224_236.out _; (with_reducible repeat (first | refine blk_drewN ?_ _ | refine blk_drew ?_ | refine blk_alloc ?_ _)); refine blk_far ?_ NB224_236.out _; (with_reducible repeat (first | refine blk_drewN ?_ _ | refine blk_drew ?_ | refine blk_alloc ?_ _)); exact BK224.out) hb); replace BK225 := am (blk_below (g := gb225) (o := b2 0 0 24) (by (with_reducible repeat (first | refine blk_drewN ?_ _ | refine blk_drew ?_ | refine blk_alloc ?_ _)); refine blk_far ?_ NB225_236.out _; (with_reducible repeat (first | refine blk_drewN ?_ _ | refine blk_drew ?_ | refine blk_alloc ?_ _)); refine blk_far ?_ NB225_236.out _; (with_reducible repeat (first | refine blk_drewN ?_ _ | refine blk_drew ?_ | refine blk_alloc ?_ _)); exact BK225.out) hb); replace BK232 := am (blk_below (g := gb232) (o := b4 t228 t229 t230 t231 96) (by (with_reducible repeat (first | refine blk_drewN ?_ _ | refine blk_drew ?_ | refine blk_alloc ?_ _)); refine blk_far ?_ NB232_236.out _; (with_reducible repeat (first | refine blk_drewN ?_ _ | refine blk_drew ?_ | refine blk_alloc ?_ _)); refine blk_far ?_ NB232_236.out _; (with_reducible repeat (first | refine blk_drewN ?_ _ | refine blk_drew ?_ | refine blk_alloc ?_ _)); exact BK232.out) hb); replace BK235 := am (blk_below (g := gb235) (o := b2 t233 t234 24) (by (with_reducible repeat (first | refine blk_drewN ?_ _ | refine blk_drew ?_ | refine blk_alloc ?_ _)); refine blk_far ?_ NB235_236.out _; (with_reducible repeat (first | refine blk_drewN ?_ _ | refine blk_drew ?_ | refine blk_alloc ?_ _)); refine blk_far ?_ NB235_236.out _; (with_reducible repeat (first | refine blk_drewN ?_ _ | refine blk_drew ?_ | refine blk_alloc ?_ _)); exact BK235.out) hb); replace BK236 := am (blk_below (g := gb236) (o := b2 t228 t229 24) (by (with_reducible repeat (first | refine blk_drewN ?_ _ | refine blk_drew ?_ | refine blk_alloc ?_ _)); refine blk_put (cs := #[.int .i64 t228, .int .i64 0]) ?_ 1 _ rfl; (with_reducible repeat (first | refine blk_drewN ?_ _ | refine blk_drew ?_ | refine blk_alloc ?_ _)); refine blk_put (cs := #[.int .i64 0, .int .i64 0]) ?_ 0 _ rfl; (with_reducible repeat (first | refine blk_drewN ?_ _ | refine blk_drew ?_ | refine blk_alloc ?_ _)); exact BK236.out) hb); replace HB := am (below_step (Y6 HB GE223 GE224 GE225 GE232 GE235 GE236) hb); (try clear hb); (try clear hb2); (try clear hk); (try clear hi)))
    (try simp only [Act.put, List.setIfInBounds_toArray, List.set_cons_zero, List.set_cons_succ])
    go_cut [] (fun wc => ∃ (kq : Nat) (x236000_40 : Int) (x236001_40 : Int), Aside0 (impl_rangeRem.j1 kq a0_0 a0_1 a1_0 a1_1 t228 t229 t230 t231 x236000_40 x236001_40 = some (r1, r2, r3)) ∧ Aside0 (kq ≤ kj2) ∧ Aside0 (wc.heap[gb223]? = some (.cells #[.int .i64 a0_0, .int .i64 a0_1] 24 (0, 0))) ∧ Aside0 (wc.heap[gb224]? = some (.cells #[.int .i64 a1_0, .int .i64 a1_1] 24 (0, 0))) ∧ Aside0 (wc.heap[gb225]? = some (.cells #[.int .i64 0, .int .i64 0] 24 (0, 0))) ∧ Aside0 (wc.heap[gb232]? = some (.cells #[.int .i64 t228, .int .i64 t229, .int .i64 t230, .int .i64 t231] 96 (0, 0))) ∧ Aside0 (wc.heap[gb235]? = some (.cells #[.int .i64 x236000_40, .int .i64 x236001_40] 24 (0, 0))) ∧ Aside0 (wc.heap[gb236]? = some (.cells #[.int .i64 t228, .int .i64 t229] 24 (0, 0))) ∧ Aside0 (Below w.heap.size w wc))
    case first =>
     have H := HC41.out
     clear HC41
     by_cases c67 : t237 = true
     ·subst c67
      have H1 : (impl_rangeRem.j1 kj2 a0_0 a0_1 a1_0 a1_1 t228 t229 t230 t231 t233 t234) = some (r1, r2, r3) := by rw [if_pos rfl] at H; exact H
      clear H
      have H := H1
      clear H1
      have H' := am H
      clear H
      go_wp2
      go_meet
      case rel => exact ⟨_, (t233), (t234), H', ⟨by have := HJ2.out; first | omega | exact Nat.le_refl _⟩, ⟨Z BK223⟩, ⟨Z BK224⟩, ⟨Z BK225⟩, ⟨Z BK232⟩, ⟨Z BK235⟩, ⟨Z BK236⟩, ⟨Y6 HB GE223 GE224 GE225 GE232 GE235 GE236⟩⟩
     ·replace c67 := Bool.eq_false_iff.mpr c67
      subst c67
      have H1 : ((impl_rangeRemBy.f kj2 a0_0 a0_1 (wrap64 (-t229)) (wrap64 (-t228))).bind fun bt238 => ((impl_RangeJoin.f kj2 t233 t234 bt238.1 bt238.2).bind fun bt240 => (impl_rangeRem.j1 kj2 a0_0 a0_1 a1_0 a1_1 t228 t229 t230 t231 bt240.1 bt240.2))) = some (r1, r2, r3) := by rw [if_neg (show ¬ (false = true) by decide)] at H; exact H
      clear H
      have H := H1
      clear H1
      replace H := Option.bind_eq_some_iff.mp H
      obtain ⟨⟨t238, t239⟩, A680, H⟩ := H
      replace H : ((impl_RangeJoin.f kj2 t233 t234 t238 t239).bind fun bt240 => (impl_rangeRem.j1 kj2 a0_0 a0_1 a1_0 a1_1 t228 t229 t230 t231 bt240.1 bt240.2)) = some (r1, r2, r3) := H
      have A68 := am A680
      clear A680
      replace H := Option.bind_eq_some_iff.mp H
      obtain ⟨⟨t240, t241⟩, A690, H⟩ := H
      replace H : (impl_rangeRem.j1 kj2 a0_0 a0_1 a1_0 a1_1 t228 t229 t230 t231 t240 t241) = some (r1, r2, r3) := H
      have A69 := am A690
      clear A690
      have H' := am H
      clear H
      try go_wp2
      replace BK223 := am (blk_drew BK223.out)
      replace BK224 := am (blk_drew BK224.out)
      replace BK225 := am (blk_drew BK225.out)
      replace BK232 := am (blk_drew BK232.out)
      replace BK235 := am (blk_drew BK235.out)
      replace BK236 := am (blk_drew BK236.out)
      replace HB := am (below_drew1 HB.out)
      refine start_ (n := 11) (S := fun w' => w'.cell? ⟨gb235, 0, none⟩ = some (.int .i64 t233) ∧ w'.cell? ⟨gb235, 1, none⟩ = some (.int .i64 t234) ∧ w'.cell? ⟨gb223, 0, none⟩ = some (.int .i64 a0_0) ∧ w'.cell? ⟨gb223, 1, none⟩ = some (.int .i64 a0_1) ∧ w'.cell? ⟨gb236, 0, none⟩ = some (.int .i64 t228) ∧ w'.cell? ⟨gb236, 1, none⟩ = some (.int .i64 t229)) (ds := [10]) #[F, F, F, F, F, F, F, F, F, F, F] (by kernel_rfl) rfl rfl ⟨bc BK235 0, bc BK235 1, bc BK223 0, bc BK223 1, bc BK236 0, bc BK236 1⟩ (fun hHeld => ?_); refine with_tabW impl_rangeRem.tab8 impl_rangeRem.bits8 (fun HT_ HW_ => ?_)
      generalize w66.drew = w70 at BK223 BK224 BK225 BK232 BK235 BK236 HB hHeld ⊢
      refine pure_ (i := 2) (N := some 40) (v := ?_) (a' := ?_) #[F, F, T, F, F, F, F, F, F, F, F] rfl rfl (any_of HT_.out (by kernel_rfl)) (fun _ _ _ h => h) (Or.inl ⟨by rfl, ?_⟩) ?_ ?_
      rotate_left
      ·exact gz
      rotate_left
      ·exact pz
      refine pure_ (i := 5) (N := some 43) (v := ?_) (a' := ?_) #[F, F, T, F, F, T, F, F, F, F, F] rfl rfl (any_of HT_.out (by kernel_rfl)) (fun _ _ _ h => h) (Or.inl ⟨by rfl, ?_⟩) ?_ ?_
      rotate_left
      ·exact gz
      rotate_left
      ·exact pz
      refine take_ (i := 0) (N := some 38) (v := ?_) (a' := ?_) #[T, F, T, F, F, T, F, F, F, F, F] rfl rfl (take_ofW HT_.out HW_.out (by kernel_rfl)) (fun _ _ _ h => h) (Or.inl ⟨by rfl, ?_⟩) hHeld ?_ ?_
      rotate_left
      ·rintro w' ⟨s0, s1, s2, s3, s4, s5⟩
       go_simp
       with_reducible rfl
      rotate_left
      ·exact pz
      refine take_ (i := 1) (N := some 39) (v := ?_) (a' := ?_) #[T, T, T, F, F, T, F, F, F, F, F] rfl rfl (take_ofW HT_.out HW_.out (by kernel_rfl)) (fun _ _ _ h => h) (Or.inl ⟨by rfl, ?_⟩) hHeld ?_ ?_
      rotate_left
      ·rintro w' ⟨s0, s1, s2, s3, s4, s5⟩
       go_simp
       with_reducible rfl
      rotate_left
      ·exact pz
      refine take_ (i := 3) (N := some 41) (v := ?_) (a' := ?_) #[T, T, T, T, F, T, F, F, F, F, F] rfl rfl (take_ofW HT_.out HW_.out (by kernel_rfl)) (fun _ _ _ h => h) (Or.inl ⟨by rfl, ?_⟩) hHeld ?_ ?_
      rotate_left
      ·rintro w' ⟨s0, s1, s2, s3, s4, s5⟩
       go_simp
       with_reducible rfl
      rotate_left
      ·exact pz
      refine pure_ (i := 4) (N := some 42) (v := ?_) (a' := ?_) #[T, T, T, T, T, T, F, F, F, F, F] rfl rfl (any_of HT_.out (by kernel_rfl)) (fun _ _ _ h => h) (Or.inl ⟨by rfl, ?_⟩) ?_ ?_
      rotate_left
      ·exact gz
      rotate_left
      ·exact pz
      refine take_ (i := 6) (N := some 44) (v := ?_) (a' := ?_) #[T, T, T, T, T, T, T, F, F, F, F] rfl rfl (take_ofW HT_.out HW_.out (by kernel_rfl)) (fun _ _ _ h => h) (Or.inl ⟨by rfl, ?_⟩) hHeld ?_ ?_
      rotate_left
      ·rintro w' ⟨s0, s1, s2, s3, s4, s5⟩
       go_simp
       with_reducible rfl
      rotate_left
      ·exact pz
      refine pure_ (i := 7) (N := some 45) (v := ?_) (a' := ?_) #[T, T, T, T, T, T, T, T, F, F, F] rfl rfl (any_of HT_.out (by kernel_rfl)) (fun _ _ _ h => h) (Or.inl ⟨by rfl, ?_⟩) ?_ ?_
      rotate_left
      ·exact gz
      rotate_left
      ·exact pz
      refine one_ (i := 8) (N := some 46) #[T, T, T, T, T, T, T, T, T, F, F] rfl rfl (one_of HT_.out (by kernel_rfl)) (by decide) (fun K hK => ?_)
      refine goes_ Try.func97 (by kernel_rfl) rfl #[.agg #[.int .i64 a0_0, .int .i64 a0_1], .int .i64 (wrap64 (-t229)), .int .i64 (wrap64 (-t228))] (by rfl) rfl rfl mz ?_
      with_reducible refine (impl_rangeRemBy.calls kj2 a0_0 a0_1 (wrap64 (-t229)) (wrap64 (-t228)) t238 t239 _ A68.out).mono ?_
      rintro e w71 ⟨rfl, hb⟩
      refine ⟨_, rfl, ?_⟩
      replace BK223 := am (blk_below (g := gb223) (o := b2 a0_0 a0_1 24) (Z BK223) hb)
      replace BK224 := am (blk_below (g := gb224) (o := b2 a1_0 a1_1 24) (Z BK224) hb)
      replace BK225 := am (blk_below (g := gb225) (o := b2 0 0 24) (Z BK225) hb)
      replace BK232 := am (blk_below (g := gb232) (o := b4 t228 t229 t230 t231 96) (Z BK232) hb)
      replace BK235 := am (blk_below (g := gb235) (o := b2 t233 t234 24) (Z BK235) hb)
      replace BK236 := am (blk_below (g := gb236) (o := b2 t228 t229 24) (Z BK236) hb)
      replace HB := am (below_step (Y6 HB GE223 GE224 GE225 GE232 GE235 GE236) hb)
      (try clear hb)
      (try clear hb2)
      (try clear hk)
      (try clear hi)
      refine hK.out _ _ ⟨bc BK235 0, bc BK235 1, bc BK223 0, bc BK223 1, bc BK236 0, bc BK236 1⟩ (fun hHeld => ?_)
      clear hK K
      refine norm_ (a' := ?_) ?_ ?_
      rotate_left
      ·show Act.put _ (some 46) _ = _
       simp only [Act.put, List.setIfInBounds_toArray, List.set_cons_zero, List.set_cons_succ, i64_w, i32_w]
       rfl
      refine one_ (i := 9) (N := some 47) #[T, T, T, T, T, T, T, T, T, T, F] rfl rfl (one_of HT_.out (by kernel_rfl)) (by decide) (fun K hK => ?_)
      refine goes_ Try.func84 (by kernel_rfl) rfl #[.agg #[.int .i64 t233, .int .i64 t234], .agg #[.int .i64 t238, .int .i64 t239]] (by rfl) rfl rfl mz ?_
      with_reducible refine (impl_RangeJoin.calls kj2 t233 t234 t238 t239 t240 t241 _ A69.out).mono ?_
      rintro e w72 ⟨rfl, hb⟩
      refine ⟨_, rfl, ?_⟩
      replace BK223 := am (blk_below (g := gb223) (o := b2 a0_0 a0_1 24) (Z BK223) hb)
      replace BK224 := am (blk_below (g := gb224) (o := b2 a1_0 a1_1 24) (Z BK224) hb)
      replace BK225 := am (blk_below (g := gb225) (o := b2 0 0 24) (Z BK225) hb)
      replace BK232 := am (blk_below (g := gb232) (o := b4 t228 t229 t230 t231 96) (Z BK232) hb)
      replace BK235 := am (blk_below (g := gb235) (o := b2 t233 t234 24) (Z BK235) hb)
      replace BK236 := am (blk_below (g := gb236) (o := b2 t228 t229 24) (Z BK236) hb)
      replace HB := am (below_step (Y6 HB GE223 GE224 GE225 GE232 GE235 GE236) hb)
      (try clear hb)
      (try clear hb2)
      (try clear hk)
      (try clear hi)
      refine hK.out _ _ ⟨bc BK235 0, bc BK235 1, bc BK223 0, bc BK223 1, bc BK236 0, bc BK236 1⟩ (fun hHeld => ?_)
      clear hK K
      refine norm_ (a' := ?_) ?_ ?_
      rotate_left
      ·show Act.put _ (some 47) _ = _
       simp only [Act.put, List.setIfInBounds_toArray, List.set_cons_zero, List.set_cons_succ, i64_w, i32_w]
       rfl
      refine last_ (i := 10) (N := none) #[T, T, T, T, T, T, T, T, T, T, T] rfl rfl (one_of HT_.out (by kernel_rfl)) (by decide) (fun K hK => ?_)
      have hs73 : w72.cell? ⟨gb235, 0, none⟩ = some (.int .i64 t233) := bc BK235 0
      have hfs73 := blk_frozen BK235.out 0
      have hns73_0 := NB223_235.out
      have hns73_1 := NB224_235.out
      have hns73_2 := NB225_235.out
      have hns73_3 := NB232_235.out
      have hns73_5 := NB236_235.out
      have hms73_0 := NB235_223.out
      have hms73_1 := NB235_224.out
      have hms73_2 := NB235_225.out
      have hms73_3 := NB235_232.out
      have hms73_5 := NB235_236.out
      have hs74 : w72.cell? ⟨gb235, 1, none⟩ = some (.int .i64 t234) := bc BK235 1
      have hfs74 := blk_frozen BK235.out 1
      have hns74_0 := NB223_235.out
      have hns74_1 := NB224_235.out
      have hns74_2 := NB225_235.out
      have hns74_3 := NB232_235.out
      have hns74_5 := NB236_235.out
      have hms74_0 := NB235_223.out
      have hms74_1 := NB235_224.out
      have hms74_2 := NB235_225.out
      have hms74_3 := NB235_232.out
      have hms74_5 := NB235_236.out
      refine skip_ (w1 := ?_) (by rfl) rfl ?_ ?_
      rotate_left
      ·go_simp
       rfl
      refine hK.out _ _ ?_
      clear hK K
      refine done_ (done_of HT_.out (by kernel_rfl)) ?_
      try go_wp2
      go_meet
      case rel => exact ⟨_, (t240), (t241), H', ⟨by have := HJ2.out; first | omega | exact Nat.le_refl _⟩, ⟨by (with_reducible repeat (first | refine blk_drewN ?_ _ | refine blk_drew ?_ | refine blk_alloc ?_ _)); refine blk_far ?_ NB223_235.out _; (with_reducible repeat (first | refine blk_drewN ?_ _ | refine blk_drew ?_ | refine blk_alloc ?_ _)); refine blk_far ?_ NB223_235.out _; (with_reducible repeat (first | refine blk_drewN ?_ _ | refine blk_drew ?_ | refine blk_alloc ?_ _)); exact BK223.out⟩, ⟨by (with_reducible repeat (first | refine blk_drewN ?_ _ | refine blk_drew ?_ | refine blk_alloc ?_ _)); refine blk_far ?_ NB224_235.out _; (with_reducible repeat (first | refine blk_drewN ?_ _ | refine blk_drew ?_ | refine blk_alloc ?_ _)); refine blk_far ?_ NB224_235.out _; (with_reducible repeat (first | refine blk_drewN ?_ _ | refine blk_drew ?_ | refine blk_alloc ?_ _)); exact BK224.out⟩, ⟨by (with_reducible repeat (first | refine blk_drewN ?_ _ | refine blk_drew ?_ | refine blk_alloc ?_ _)); refine blk_far ?_ NB225_235.out _; (with_reducible repeat (first | refine blk_drewN ?_ _ | refine blk_drew ?_ | refine blk_alloc ?_ _)); refine blk_far ?_ NB225_235.out _; (with_reducible repeat (first | refine blk_drewN ?_ _ | refine blk_drew ?_ | refine blk_alloc ?_ _)); exact BK225.out⟩, ⟨by (with_reducible repeat (first | refine blk_drewN ?_ _ | refine blk_drew ?_ | refine blk_alloc ?_ _)); refine blk_far ?_ NB232_235.out _; (with_reducible repeat (first | refine blk_drewN ?_ _ | refine blk_drew ?_ | refine blk_alloc ?_ _)); refine blk_far ?_ NB232_235.out _; (with_reducible repeat (first | refine blk_drewN ?_ _ | refine blk_drew ?_ | refine blk_alloc ?_ _)); exact BK232.out⟩, ⟨by (with_reducible repeat (first | refine blk_drewN ?_ _ | refine blk_drew ?_ | refine blk_alloc ?_ _)); refine blk_put (cs := #[.int .i64 t240, .int .i64 t234]) ?_ 1 _ rfl; (with_reducible repeat (first | refine blk_drewN ?_ _ | refine blk_drew ?_ | refine blk_alloc ?_ _)); refine blk_put (cs := #[.int .i64 t233, .int .i64 t234]) ?_ 0 _ rfl; (with_reducible repeat (first | refine blk_drewN ?_ _ | refine blk_drew ?_ | refine blk_alloc ?_ _)); exact BK235.out⟩, ⟨by (with_reducible repeat (first | refine blk_drewN ?_ _ | refine blk_drew ?_ | refine blk_alloc ?_ _)); refine blk_far ?_ NB236_235.out _; (with_reducible repeat (first | refine blk_drewN ?_ _ | refine blk_drew ?_ | refine blk_alloc ?_ _)); refine blk_far ?_ NB236_235.out _; (with_reducible repeat (first | refine blk_drewN ?_ _ | refine blk_drew ?_ | refine blk_alloc ?_ _)); exact BK236.out⟩, ⟨Y6 HB GE223 GE224 GE225 GE232 GE235 GE236⟩⟩
    case rest =>
     clear HC41
     try clear c1
     try clear c2
     try clear p2
     try clear c3
     try clear c4
     try clear c5
     try clear c6
     try clear p6
     try clear c8
     try clear c9
     try clear c10
     try clear c11
     try clear c12
     try clear c15
     try clear c19
     try clear c20
     try clear c23
     try clear c26
     try clear c27
     try clear c30
     try clear c31
     try clear c31b0
     try clear c31b1
     try clear c32
     try clear c33
     try clear c35
     try clear c42
     try clear c43
     try clear c47
     try clear c48
     try clear c49
     try clear c53
     try clear c54
     try clear c55
     try clear c56
     try clear c60
     try clear c61
     try clear c62
     try clear c63
     try clear c64
     try clear p64
     try clear c67
     try clear hcz13_0
     try clear hcz13_1
     try clear hcz16_0
     try clear hcz16_1
     try clear hcz18_0
     try clear hcz18_1
     try clear hcz21_0
     try clear hcz21_1
     try clear hcz24_0
     try clear hcz24_1
     try clear hcz28_0
     try clear hcz28_1
     try clear hcz34_0
     try clear hcz34_1
     try clear hcz36_0
     try clear hcz36_1
     try clear hcz37_0
     try clear hcz37_1
     try clear hcz44_0
     try clear hcz44_1
     try clear hcz50_0
     try clear hcz50_1
     try clear hcz50_2
     try clear hcz50_3
     try clear hcz57_0
     try clear hcz57_1
     try clear hcz58_0
     try clear hcz58_1
     try clear hcz58_2
     try clear hcz58_3
     try clear hcz65_0
     try clear hcz65_1
     try clear hfz13_0
     try clear hfz13_1
     try clear hfz16_0
     try clear hfz16_1
     try clear hfz18_0
     try clear hfz18_1
     try clear hfz21_0
     try clear hfz21_1
     try clear hfz24_0
     try clear hfz24_1
     try clear hfz28_0
     try clear hfz28_1
     try clear hfz34_0
     try clear hfz34_1
     try clear hfz36_0
     try clear hfz36_1
     try clear hfz37_0
     try clear hfz37_1
     try clear hfz44_0
     try clear hfz44_1
     try clear hfz50_0
     try clear hfz50_1
     try clear hfz50_2
     try clear hfz50_3
     try clear hfz57_0
     try clear hfz57_1
     try clear hfz58_0
     try clear hfz58_1
     try clear hfz58_2
     try clear hfz58_3
     try clear hfz65_0
     try clear hfz65_1
     try clear p2
     obtain ⟨kq, x236000_40, x236001_40, HA, HJ40, BK223, BK224, BK225, BK232, BK235, BK236, HB⟩ := hcut
     cases kq with
     | zero => exact absurd HA.out (by simp [impl_rangeRem.j1])
     | succ kj40 =>
      have H := HA.out
      clear HA
      simp only [impl_rangeRem.j1] at H
      replace H := Option.bind_eq_some_iff.mp H
      obtain ⟨t243, A750, H⟩ := H
      replace H : (if t243 = true then ((impl_RangeHas.f a1_0 a1_1 0).bind fun t244 => (if t244 = true then (some (x236000_40, x236001_40, (([2] : List Int)))) else (some (x236000_40, x236001_40, ([] : List Int))))) else ((impl_rangeRemBy.f kj40 a0_0 a0_1 t230 t231).bind fun bt248 => ((impl_RangeJoin.f kj40 x236000_40 x236001_40 bt248.1 bt248.2).bind fun bt250 => ((impl_RangeHas.f a1_0 a1_1 0).bind fun t252 => (if t252 = true then (some (bt250.1, bt250.2, (([2] : List Int)))) else (some (bt250.1, bt250.2, ([] : List Int)))))))) = some (r1, r2, r3) := H
      have A75 := am A750
      clear A750
      by_cases c76 : t243 = true
      ·subst c76
       have H1 : ((impl_RangeHas.f a1_0 a1_1 0).bind fun t244 => (if t244 = true then (some (x236000_40, x236001_40, (([2] : List Int)))) else (some (x236000_40, x236001_40, ([] : List Int))))) = some (r1, r2, r3) := by rw [if_pos rfl] at H; exact H
       clear H
       have H := H1
       clear H1
       replace H := Option.bind_eq_some_iff.mp H
       obtain ⟨t244, A770, H⟩ := H
       replace H : (if t244 = true then (some (x236000_40, x236001_40, (([2] : List Int)))) else (some (x236000_40, x236001_40, ([] : List Int)))) = some (r1, r2, r3) := H
       have A77 := am A770
       clear A770
       by_cases c78 : t244 = true
       ·subst c78
        have H1 : (some (x236000_40, x236001_40, (([2] : List Int)))) = some (r1, r2, r3) := by rw [if_pos rfl] at H; exact H
        clear H
        have H := H1
        clear H1
        obtain ⟨y245, hy245⟩ : ∃ y_ : List Int, y_ = (([2] : List Int)) := ⟨_, rfl⟩
        replace H : (some (x236000_40, x236001_40, y245)) = some (r1, r2, r3) := by first | (rw [hy245]; with_reducible exact H) | (have H2_ := (Option.bind_some _ _).symm.trans H; rw [hy245]; with_reducible exact H2_) | (have H2_ := (Option.bind_some _ _).symm.trans H; with_reducible exact H2_) | with_reducible exact H | (rw [hy245]; exact H) | exact H
        have Ny245 := am hy245
        clear hy245
        simp only [Option.some.injEq, Prod.mk.injEq] at H
        obtain ⟨rfl, rfl, rfl⟩ := H
        have hnb79 := NB232_223.out
        have hnc79 := NB223_232.out
        have hnb80 := NB232_224.out
        have hnc80 := NB224_232.out
        have hnb81 := NB232_225.out
        have hnc81 := NB225_232.out
        have hnb82 := NB232_235.out
        have hnc82 := NB235_232.out
        have hnb83 := NB232_236.out
        have hnc83 := NB236_232.out
        have hcz84_0 : wc.cell? ⟨gb232, 0, none⟩ = some (.int .i64 t228) := bc BK232 0
        have hcz84_1 : wc.cell? ⟨gb232, 1, none⟩ = some (.int .i64 t229) := bc BK232 1
        have hcz84_2 : wc.cell? ⟨gb232, 2, none⟩ = some (.int .i64 t230) := bc BK232 2
        have hcz84_3 : wc.cell? ⟨gb232, 3, none⟩ = some (.int .i64 t231) := bc BK232 3
        have hfz84_0 := blk_frozen BK232.out 0
        have hfz84_1 := blk_frozen BK232.out 1
        have hfz84_2 := blk_frozen BK232.out 2
        have hfz84_3 := blk_frozen BK232.out 3
        go_wp2_with (first | ((with_reducible refine gate_dst (N := 10) rfl ?_); refine box_event ?hg (N := 10) ?hd (cs := #[.int .i64 0, .int .i64 0]) (t := 24) ?hr ?_; (case hd => rfl); (case hg => rfl); (case hr => first | (go_simp; done) | (go_simp; rfl)); intro gb242 hg w85 hbox hb; have BK242 := am (hbox); have GW242 := am ((by rw [hg]; exact (below_size (Y6 HB GE223 GE224 GE225 GE232 GE235 GE236)) : w.heap.size ≤ gb242)); have GE242 := am ((by rw [hg]; exact (below_size (Y6 HB GE223 GE224 GE225 GE232 GE235 GE236)) : w.heap.size ≤ gb242)); have NB223_242 := am ((nl (o := b2 a0_0 a0_1 24) hg (Z BK223) : gb223 ≠ gb242)); have NB242_223 := am ((ng (o := b2 a0_0 a0_1 24) hg (Z BK223) : gb242 ≠ gb223)); have NB224_242 := am ((nl (o := b2 a1_0 a1_1 24) hg (Z BK224) : gb224 ≠ gb242)); have NB242_224 := am ((ng (o := b2 a1_0 a1_1 24) hg (Z BK224) : gb242 ≠ gb224)); have NB225_242 := am ((nl (o := b2 0 0 24) hg (Z BK225) : gb225 ≠ gb242)); have NB242_225 := am ((ng (o := b2 0 0 24) hg (Z BK225) : gb242 ≠ gb225)); have NB232_242 := am ((nl (o := b4 t228 t229 t230 t231 96) hg (Z BK232) : gb232 ≠ gb242)); have NB242_232 := am ((ng (o := b4 t228 t229 t230 t231 96) hg (Z BK232) : gb242 ≠ gb232)); have NB235_242 := am ((nl (o := b2 x236000_40 x236001_40 24) hg (Z BK235) : gb235 ≠ gb242)); have NB242_235 := am ((ng (o := b2 x236000_40 x236001_40 24) hg (Z BK235) : gb242 ≠ gb235)); have NB236_242 := am ((nl (o := b2 t228 t229 24) hg (Z BK236) : gb236 ≠ gb242)); have NB242_236 := am ((ng (o := b2 t228 t229 24) hg (Z BK236) : gb242 ≠ gb236)); replace BK223 := am (blk_below (g := gb223) (o := b2 a0_0 a0_1 24) (Z BK223) hb); replace BK224 := am (blk_below (g := gb224) (o := b2 a1_0 a1_1 24) (Z BK224) hb); replace BK225 := am (blk_below (g := gb225) (o := b2 0 0 24) (Z BK225) hb); replace BK232 := am (blk_below (g := gb232) (o := b4 t228 t229 t230 t231 96) (Z BK232) hb); replace BK235 := am (blk_below (g := gb235) (o := b2 x236000_40 x236001_40 24) (Z BK235) hb); replace BK236 := am (blk_below (g := gb236) (o := b2 t228 t229 24) (Z BK236) hb); replace HB := am (below_step (Y6 HB GE223 GE224 GE225 GE232 GE235 GE236) hb); clear hb hbox hg; have hnb86 := NB242_223.out; have hnc86 := NB223_242.out; have hnb87 := NB242_224.out; have hnc87 := NB224_242.out; have hnb88 := NB242_225.out; have hnc88 := NB225_242.out; have hnb89 := NB242_232.out; have hnc89 := NB232_242.out; have hnb90 := NB242_235.out; have hnc90 := NB235_242.out; have hnb91 := NB242_236.out; have hnc91 := NB236_242.out; have hcz92_0 : w85.cell? ⟨gb242, 0, none⟩ = some (.int .i64 0) := bc BK242 0; have hcz92_1 : w85.cell? ⟨gb242, 1, none⟩ = some (.int .i64 0) := bc BK242 1; have hfz92_0 := blk_frozen BK242.out 0; have hfz92_1 := blk_frozen BK242.out 1; (try have hxz0_0 : w85.cell? ⟨gb223, 0, none⟩ = some (.int .i64 a0_0) := bc BK223 0); (try have hxf0_0 := blk_frozen BK223.out 0); (try have hxz0_1 : w85.cell? ⟨gb223, 1, none⟩ = some (.int .i64 a0_1) := bc BK223 1); (try have hxf0_1 := blk_frozen BK223.out 1); (try have hxz1_0 : w85.cell? ⟨gb224, 0, none⟩ = some (.int .i64 a1_0) := bc BK224 0); (try have hxf1_0 := blk_frozen BK224.out 0); (try have hxz1_1 : w85.cell? ⟨gb224, 1, none⟩ = some (.int .i64 a1_1) := bc BK224 1); (try have hxf1_1 := blk_frozen BK224.out 1); (try have hxz2_0 : w85.cell? ⟨gb225, 0, none⟩ = some (.int .i64 0) := bc BK225 0); (try have hxf2_0 := blk_frozen BK225.out 0); (try have hxz2_1 : w85.cell? ⟨gb225, 1, none⟩ = some (.int .i64 0) := bc BK225 1); (try have hxf2_1 := blk_frozen BK225.out 1); (try have hxz3_0 : w85.cell? ⟨gb232, 0, none⟩ = some (.int .i64 t228) := bc BK232 0); (try have hxf3_0 := blk_frozen BK232.out 0); (try have hxz3_1 : w85.cell? ⟨gb232, 1, none⟩ = some (.int .i64 t229) := bc BK232 1); (try have hxf3_1 := blk_frozen BK232.out 1); (try have hxz3_2 : w85.cell? ⟨gb232, 2, none⟩ = some (.int .i64 t230) := bc BK232 2); (try have hxf3_2 := blk_frozen BK232.out 2); (try have hxz3_3 : w85.cell? ⟨gb232, 3, none⟩ = some (.int .i64 t231) := bc BK232 3); (try have hxf3_3 := blk_frozen BK232.out 3); (try have hxz4_0 : w85.cell? ⟨gb235, 0, none⟩ = some (.int .i64 x236000_40) := bc BK235 0); (try have hxf4_0 := blk_frozen BK235.out 0); (try have hxz4_1 : w85.cell? ⟨gb235, 1, none⟩ = some (.int .i64 x236001_40) := bc BK235 1); (try have hxf4_1 := blk_frozen BK235.out 1); (try have hxz5_0 : w85.cell? ⟨gb236, 0, none⟩ = some (.int .i64 t228) := bc BK236 0); (try have hxf5_0 := blk_frozen BK236.out 0); (try have hxz5_1 : w85.cell? ⟨gb236, 1, none⟩ = some (.int .i64 t229) := bc BK236 1); (try have hxf5_1 := blk_frozen BK236.out 1); (try have hxs0_1 : ∀ x_ : Value, (w85.setCell ⟨gb242, 0, none⟩ x_).cell? ⟨gb242, 1, none⟩ = some (.int .i64 0) := fun x_ => (World.cell?_setCell_other _ _ _ _ (by simp)).trans (bc BK242 1)); (try have hxs1_0 : ∀ x_ : Value, (w85.setCell ⟨gb242, 1, none⟩ x_).cell? ⟨gb242, 0, none⟩ = some (.int .i64 0) := fun x_ => (World.cell?_setCell_other _ _ _ _ (by simp)).trans (bc BK242 0))) | ((with_reducible refine gate_callee (f := 47) rfl ?_); refine goesL_ (some 51) rfl rfl Try.func47 (by kernel_rfl) rfl #[.agg #[.int .i64 t230, .int .i64 t231]] rfl mz ?_; (with_reducible refine (impl_Range_empty.calls t230 t231 true _ A75.out).mono ?_); rintro e w93 ⟨rfl, hb⟩; refine ⟨_, rfl, ?_⟩; replace BK223 := am (blk_below (g := gb223) (o := b2 a0_0 a0_1 24) (by (with_reducible repeat (first | refine blk_drewN ?_ _ | refine blk_drew ?_ | refine blk_alloc ?_ _)); refine blk_far ?_ NB223_242.out _; (with_reducible repeat (first | refine blk_drewN ?_ _ | refine blk_drew ?_ | refine blk_alloc ?_ _)); refine blk_far ?_ NB223_242.out _; (with_reducible repeat (first | refine blk_drewN ?_ _ | refine blk_drew ?_ | refine blk_alloc ?_ _)); exact BK223.out) hb); replace BK224 := am (blk_below (g := gb224) (o := b2 a1_0 a1_1 24) (by (with_reducible repeat (first | refine blk_drewN ?_ _ | refine blk_drew ?_ | refine blk_alloc ?_ _)); refine blk_far ?_ NB224_242.out _; (with_reducible repeat (first | refine blk_drewN ?_ _ | refine blk_drew ?_ | refine blk_alloc ?_ _)); refine blk_far ?_ NB224_242.out _; (with_reducible repeat (first | refine blk_drewN ?_ _ | refine blk_drew ?_ | refine blk_alloc ?_ _)); exact BK224.out) hb); replace BK225 := am (blk_below (g := gb225) (o := b2 0 0 24) (by (with_reducible repeat (first | refine blk_drewN ?_ _ | refine blk_drew ?_ | refine blk_alloc ?_ _)); refine blk_far ?_ NB225_242.out _; (with_reducible repeat (first | refine blk_drewN ?_ _ | refine blk_drew ?_ | refine blk_alloc ?_ _)); refine blk_far ?_ NB225_242.out _; (with_reducible repeat (first | refine blk_drewN ?_ _ | refine blk_drew ?_ | refine blk_alloc ?_ _)); exact BK225.out) hb); replace BK232 := am (blk_below (g := gb232) (o := b4 t228 t229 t230 t231 96) (by (with_reducible repeat (first | refine blk_drewN ?_ _ | refine blk_drew ?_ | refine blk_alloc ?_ _)); refine blk_far ?_ NB232_242.out _; (with_reducible repeat (first | refine blk_drewN ?_ _ | refine blk_drew ?_ | refine blk_alloc ?_ _)); refine blk_far ?_ NB232_242.out _; (with_reducible repeat (first | refine blk_drewN ?_ _ | refine blk_drew ?_ | refine blk_alloc ?_ _)); exact BK232.out) hb); replace BK235 := am (blk_below (g := gb235) (o := b2 x236000_40 x236001_40 24) (by (with_reducible repeat (first | refine blk_drewN ?_ _ | refine blk_drew ?_ | refine blk_alloc ?_ _)); refine blk_far ?_ NB235_242.out _; (with_reducible repeat (first | refine blk_drewN ?_ _ | refine blk_drew ?_ | refine blk_alloc ?_ _)); refine blk_far ?_ NB235_242.out _; (with_reducible repeat (first | refine blk_drewN ?_ _ | refine blk_drew ?_ | refine blk_alloc ?_ _)); exact BK235.out) hb); replace BK236 := am (blk_below (g := gb236) (o := b2 t228 t229 24) (by (with_reducible repeat (first | refine blk_drewN ?_ _ | refine blk_drew ?_ | refine blk_alloc ?_ _)); refine blk_far ?_ NB236_242.out _; (with_reducible repeat (first | refine blk_drewN ?_ _ | refine blk_drew ?_ | refine blk_alloc ?_ _)); refine blk_far ?_ NB236_242.out _; (with_reducible repeat (first | refine blk_drewN ?_ _ | refine blk_drew ?_ | refine blk_alloc ?_ _)); exact BK236.out) hb); replace BK242 := am (blk_below (g := gb242) (o := b2 t230 t231 24) (by (with_reducible repeat (first | refine blk_drewN ?_ _ | refine blk_drew ?_ | refine blk_alloc ?_ _)); refine blk_put (cs := #[.int .i64 t230, .int .i64 0]) ?_ 1 _ rfl; (with_reducible repeat (first | refine blk_drewN ?_ _ | refine blk_drew ?_ | refine blk_alloc ?_ _)); refine blk_put (cs := #[.int .i64 0, .int .i64 0]) ?_ 0 _ rfl; (with_reducible repeat (first | refine blk_drewN ?_ _ | refine blk_drew ?_ | refine blk_alloc ?_ _)); exact BK242.out) hb); replace HB := am (below_step (Y7 HB GE223 GE224 GE225 GE232 GE235 GE236 GE242) hb); (try clear hb); (try clear hb2); (try clear hk); (try clear hi); have hnb94 := NB224_223.out; have hnc94 := NB223_224.out; have hnb95 := NB224_225.out; have hnc95 := NB225_224.out; have hnb96 := NB224_235.out; have hnc96 := NB235_224.out; have hnb97 := NB224_236.out; have hnc97 := NB236_224.out; have hcz98_0 : w93.cell? ⟨gb224, 0, none⟩ = some (.int .i64 a1_0) := bc BK224 0; have hcz98_1 : w93.cell? ⟨gb224, 1, none⟩ = some (.int .i64 a1_1) := bc BK224 1; have hfz98_0 := blk_frozen BK224.out 0; have hfz98_1 := blk_frozen BK224.out 1) | ((with_reducible refine gate_callee (f := 95) rfl ?_); refine goesL_ (some 62) rfl rfl Try.func95 (by kernel_rfl) rfl #[.agg #[.int .i64 a1_0, .int .i64 a1_1], .int .i64 0] rfl mz ?_; (with_reducible refine (impl_RangeHas.calls a1_0 a1_1 0 true _ A77.out).mono ?_); rintro e w99 ⟨rfl, hb⟩; refine ⟨_, rfl, ?_⟩; replace BK223 := am (blk_below (g := gb223) (o := b2 a0_0 a0_1 24) (Z BK223) hb); replace BK224 := am (blk_below (g := gb224) (o := b2 a1_0 a1_1 24) (Z BK224) hb); replace BK225 := am (blk_below (g := gb225) (o := b2 0 0 24) (Z BK225) hb); replace BK232 := am (blk_below (g := gb232) (o := b4 t228 t229 t230 t231 96) (Z BK232) hb); replace BK235 := am (blk_below (g := gb235) (o := b2 x236000_40 x236001_40 24) (Z BK235) hb); replace BK236 := am (blk_below (g := gb236) (o := b2 t228 t229 24) (Z BK236) hb); replace BK242 := am (blk_below (g := gb242) (o := b2 t230 t231 24) (Z BK242) hb); replace HB := am (below_step (Y7 HB GE223 GE224 GE225 GE232 GE235 GE236 GE242) hb); (try clear hb); (try clear hb2); (try clear hk); (try clear hi); have hnb100 := NB235_223.out; have hnc100 := NB223_235.out; have hnb101 := NB235_225.out; have hnc101 := NB225_235.out; have hnb102 := NB235_236.out; have hnc102 := NB236_235.out; have hcz103_0 : w99.cell? ⟨gb235, 0, none⟩ = some (.int .i64 x236000_40) := bc BK235 0; have hcz103_1 : w99.cell? ⟨gb235, 1, none⟩ = some (.int .i64 x236001_40) := bc BK235 1; have hfz103_0 := blk_frozen BK235.out 0; have hfz103_1 := blk_frozen BK235.out 1) | ((with_reducible refine gate_dst (N := 64) rfl ?_); refine Kd.R_lit (Kd.int .i64) _ 3 ?hg (N := 64) ?hd (xs := ([2] : List Int)) (inner := [.int .i64 2]) (ok := fun _ => True) (okp := fun _ => True) ?hr ?hp (fun _ hk => hk) trivial (Below.refl _ _) (Nat.le_refl _) (by simp) ?_; (case hd => rfl); (case hg => rfl); (case hr => first | (go_simp; done) | (go_simp; rfl)); (case hp => exact (Reps.one (show Kd.M (Kd.int .i64) _ _ _ 2 [.int .i64 2] from rfl) (Reps.none _ _))); intro v246 w104 ho105 hb hg_ hnew_; clear hg_ hnew_; (first | rw [← Ny245.out] at ho105 | (simp only [Int.reduceToNat] at ho105; rw [← Ny245.out] at ho105)); have HO247 := am (Kd.R_lower ho105 (below_size (Y7 HB GE223 GE224 GE225 GE232 GE235 GE236 GE242))); replace BK223 := am (blk_below (g := gb223) (o := b2 a0_0 a0_1 24) (Z BK223) hb); replace BK224 := am (blk_below (g := gb224) (o := b2 a1_0 a1_1 24) (Z BK224) hb); replace BK225 := am (blk_below (g := gb225) (o := b2 0 0 24) (Z BK225) hb); replace BK232 := am (blk_below (g := gb232) (o := b4 t228 t229 t230 t231 96) (Z BK232) hb); replace BK235 := am (blk_below (g := gb235) (o := b2 x236000_40 x236001_40 24) (Z BK235) hb); replace BK236 := am (blk_below (g := gb236) (o := b2 t228 t229 24) (Z BK236) hb); replace BK242 := am (blk_below (g := gb242) (o := b2 t230 t231 24) (Z BK242) hb); replace HB := am (below_step (Y7 HB GE223 GE224 GE225 GE232 GE235 GE236 GE242) hb); clear hb ho105; have hnb106 := NB225_223.out; have hnc106 := NB223_225.out; have hnb107 := NB225_236.out; have hnc107 := NB236_225.out; have hcz108_0 : w104.cell? ⟨gb225, 0, none⟩ = some (.int .i64 0) := bc BK225 0; have hcz108_1 : w104.cell? ⟨gb225, 1, none⟩ = some (.int .i64 0) := bc BK225 1; have hfz108_0 := blk_frozen BK225.out 0; have hfz108_1 := blk_frozen BK225.out 1))
        refine bodyPost_ret (results_ct rfl _ _ gb225 24 #[.int .i64 x236000_40, .int .i64 x236001_40] (0, 0) _ rfl (by (with_reducible repeat (first | refine blk_drewN ?_ _ | refine blk_drew ?_ | refine blk_alloc ?_ _)); refine blk_put (cs := #[.int .i64 x236000_40, .int .i64 0]) ?_ 1 _ rfl; (with_reducible repeat (first | refine blk_drewN ?_ _ | refine blk_drew ?_ | refine blk_alloc ?_ _)); refine blk_put (cs := #[.int .i64 0, .int .i64 0]) ?_ 0 _ rfl; (with_reducible repeat (first | refine blk_drewN ?_ _ | refine blk_drew ?_ | refine blk_alloc ?_ _)); exact BK225.out) Try.underlying24 rfl (by kernel_rfl)) rfl ?_
        exact ⟨_, by first | rfl | (simp [errW_none, errW_some] <;> rfl) | (simp [*, errW_none, errW_some] <;> rfl), by (with_reducible repeat (first | apply Kd.R_alloc | apply Kd.R_drewN | apply Kd.R_drew)); exact Kd.R_mono (Kd.R_far (p := ⟨gb225, 1, none⟩) (Kd.R_far (p := ⟨gb225, 0, none⟩) (Kd.R_types HO247.out BK225.out (by decide)) (fun _ hk => hk.2) (.int .i64 x236000_40)) (fun _ hk => hk.2) (.int .i64 x236001_40)) (fun _ hk => trivial), Y7 HB GE223 GE224 GE225 GE232 GE235 GE236 GE242⟩
       ·replace c78 := Bool.eq_false_iff.mpr c78
        subst c78
        have H1 : (some (x236000_40, x236001_40, ([] : List Int))) = some (r1, r2, r3) := by rw [if_neg (show ¬ (false = true) by decide)] at H; exact H
        clear H
        have H := H1
        clear H1
        simp only [Option.some.injEq, Prod.mk.injEq] at H
        obtain ⟨rfl, rfl, rfl⟩ := H
        have hnb109 := NB232_223.out
        have hnc109 := NB223_232.out
        have hnb110 := NB232_224.out
        have hnc110 := NB224_232.out
        have hnb111 := NB232_225.out
        have hnc111 := NB225_232.out
        have hnb112 := NB232_235.out
        have hnc112 := NB235_232.out
        have hnb113 := NB232_236.out
        have hnc113 := NB236_232.out
        have hcz114_0 : wc.cell? ⟨gb232, 0, none⟩ = some (.int .i64 t228) := bc BK232 0
        have hcz114_1 : wc.cell? ⟨gb232, 1, none⟩ = some (.int .i64 t229) := bc BK232 1
        have hcz114_2 : wc.cell? ⟨gb232, 2, none⟩ = some (.int .i64 t230) := bc BK232 2
        have hcz114_3 : wc.cell? ⟨gb232, 3, none⟩ = some (.int .i64 t231) := bc BK232 3
        have hfz114_0 := blk_frozen BK232.out 0
        have hfz114_1 := blk_frozen BK232.out 1
        have hfz114_2 := blk_frozen BK232.out 2
        have hfz114_3 := blk_frozen BK232.out 3
        go_wp2_with (first | ((with_reducible refine gate_dst (N := 10) rfl ?_); refine box_event ?hg (N := 10) ?hd (cs := #[.int .i64 0, .int .i64 0]) (t := 24) ?hr ?_; (case hd => rfl); (case hg => rfl); (case hr => first | (go_simp; done) | (go_simp; rfl)); intro gb242 hg w115 hbox hb; have BK242 := am (hbox); have GW242 := am ((by rw [hg]; exact (below_size (Y6 HB GE223 GE224 GE225 GE232 GE235 GE236)) : w.heap.size ≤ gb242)); have GE242 := am ((by rw [hg]; exact (below_size (Y6 HB GE223 GE224 GE225 GE232 GE235 GE236)) : w.heap.size ≤ gb242)); have NB223_242 := am ((nl (o := b2 a0_0 a0_1 24) hg (Z BK223) : gb223 ≠ gb242)); have NB242_223 := am ((ng (o := b2 a0_0 a0_1 24) hg (Z BK223) : gb242 ≠ gb223)); have NB224_242 := am ((nl (o := b2 a1_0 a1_1 24) hg (Z BK224) : gb224 ≠ gb242)); have NB242_224 := am ((ng (o := b2 a1_0 a1_1 24) hg (Z BK224) : gb242 ≠ gb224)); have NB225_242 := am ((nl (o := b2 0 0 24) hg (Z BK225) : gb225 ≠ gb242)); have NB242_225 := am ((ng (o := b2 0 0 24) hg (Z BK225) : gb242 ≠ gb225)); have NB232_242 := am ((nl (o := b4 t228 t229 t230 t231 96) hg (Z BK232) : gb232 ≠ gb242)); have NB242_232 := am ((ng (o := b4 t228 t229 t230 t231 96) hg (Z BK232) : gb242 ≠ gb232)); have NB235_242 := am ((nl (o := b2 x236000_40 x236001_40 24) hg (Z BK235) : gb235 ≠ gb242)); have NB242_235 := am ((ng (o := b2 x236000_40 x236001_40 24) hg (Z BK235) : gb242 ≠ gb235)); have NB236_242 := am ((nl (o := b2 t228 t229 24) hg (Z BK236) : gb236 ≠ gb242)); have NB242_236 := am ((ng (o := b2 t228 t229 24) hg (Z BK236) : gb242 ≠ gb236)); replace BK223 := am (blk_below (g := gb223) (o := b2 a0_0 a0_1 24) (Z BK223) hb); replace BK224 := am (blk_below (g := gb224) (o := b2 a1_0 a1_1 24) (Z BK224) hb); replace BK225 := am (blk_below (g := gb225) (o := b2 0 0 24) (Z BK225) hb); replace BK232 := am (blk_below (g := gb232) (o := b4 t228 t229 t230 t231 96) (Z BK232) hb); replace BK235 := am (blk_below (g := gb235) (o := b2 x236000_40 x236001_40 24) (Z BK235) hb); replace BK236 := am (blk_below (g := gb236) (o := b2 t228 t229 24) (Z BK236) hb); replace HB := am (below_step (Y6 HB GE223 GE224 GE225 GE232 GE235 GE236) hb); clear hb hbox hg; have hnb116 := NB242_223.out; have hnc116 := NB223_242.out; have hnb117 := NB242_224.out; have hnc117 := NB224_242.out; have hnb118 := NB242_225.out; have hnc118 := NB225_242.out; have hnb119 := NB242_232.out; have hnc119 := NB232_242.out; have hnb120 := NB242_235.out; have hnc120 := NB235_242.out; have hnb121 := NB242_236.out; have hnc121 := NB236_242.out; have hcz122_0 : w115.cell? ⟨gb242, 0, none⟩ = some (.int .i64 0) := bc BK242 0; have hcz122_1 : w115.cell? ⟨gb242, 1, none⟩ = some (.int .i64 0) := bc BK242 1; have hfz122_0 := blk_frozen BK242.out 0; have hfz122_1 := blk_frozen BK242.out 1; (try have hxz0_0 : w115.cell? ⟨gb223, 0, none⟩ = some (.int .i64 a0_0) := bc BK223 0); (try have hxf0_0 := blk_frozen BK223.out 0); (try have hxz0_1 : w115.cell? ⟨gb223, 1, none⟩ = some (.int .i64 a0_1) := bc BK223 1); (try have hxf0_1 := blk_frozen BK223.out 1); (try have hxz1_0 : w115.cell? ⟨gb224, 0, none⟩ = some (.int .i64 a1_0) := bc BK224 0); (try have hxf1_0 := blk_frozen BK224.out 0); (try have hxz1_1 : w115.cell? ⟨gb224, 1, none⟩ = some (.int .i64 a1_1) := bc BK224 1); (try have hxf1_1 := blk_frozen BK224.out 1); (try have hxz2_0 : w115.cell? ⟨gb225, 0, none⟩ = some (.int .i64 0) := bc BK225 0); (try have hxf2_0 := blk_frozen BK225.out 0); (try have hxz2_1 : w115.cell? ⟨gb225, 1, none⟩ = some (.int .i64 0) := bc BK225 1); (try have hxf2_1 := blk_frozen BK225.out 1); (try have hxz3_0 : w115.cell? ⟨gb232, 0, none⟩ = some (.int .i64 t228) := bc BK232 0); (try have hxf3_0 := blk_frozen BK232.out 0); (try have hxz3_1 : w115.cell? ⟨gb232, 1, none⟩ = some (.int .i64 t229) := bc BK232 1); (try have hxf3_1 := blk_frozen BK232.out 1); (try have hxz3_2 : w115.cell? ⟨gb232, 2, none⟩ = some (.int .i64 t230) := bc BK232 2); (try have hxf3_2 := blk_frozen BK232.out 2); (try have hxz3_3 : w115.cell? ⟨gb232, 3, none⟩ = some (.int .i64 t231) := bc BK232 3); (try have hxf3_3 := blk_frozen BK232.out 3); (try have hxz4_0 : w115.cell? ⟨gb235, 0, none⟩ = some (.int .i64 x236000_40) := bc BK235 0); (try have hxf4_0 := blk_frozen BK235.out 0); (try have hxz4_1 : w115.cell? ⟨gb235, 1, none⟩ = some (.int .i64 x236001_40) := bc BK235 1); (try have hxf4_1 := blk_frozen BK235.out 1); (try have hxz5_0 : w115.cell? ⟨gb236, 0, none⟩ = some (.int .i64 t228) := bc BK236 0); (try have hxf5_0 := blk_frozen BK236.out 0); (try have hxz5_1 : w115.cell? ⟨gb236, 1, none⟩ = some (.int .i64 t229) := bc BK236 1); (try have hxf5_1 := blk_frozen BK236.out 1); (try have hxs0_1 : ∀ x_ : Value, (w115.setCell ⟨gb242, 0, none⟩ x_).cell? ⟨gb242, 1, none⟩ = some (.int .i64 0) := fun x_ => (World.cell?_setCell_other _ _ _ _ (by simp)).trans (bc BK242 1)); (try have hxs1_0 : ∀ x_ : Value, (w115.setCell ⟨gb242, 1, none⟩ x_).cell? ⟨gb242, 0, none⟩ = some (.int .i64 0) := fun x_ => (World.cell?_setCell_other _ _ _ _ (by simp)).trans (bc BK242 0))) | ((with_reducible refine gate_callee (f := 47) rfl ?_); refine goesL_ (some 51) rfl rfl Try.func47 (by kernel_rfl) rfl #[.agg #[.int .i64 t230, .int .i64 t231]] rfl mz ?_; (with_reducible refine (impl_Range_empty.calls t230 t231 true _ A75.out).mono ?_); rintro e w123 ⟨rfl, hb⟩; refine ⟨_, rfl, ?_⟩; replace BK223 := am (blk_below (g := gb223) (o := b2 a0_0 a0_1 24) (by (with_reducible repeat (first | refine blk_drewN ?_ _ | refine blk_drew ?_ | refine blk_alloc ?_ _)); refine blk_far ?_ NB223_242.out _; (with_reducible repeat (first | refine blk_drewN ?_ _ | refine blk_drew ?_ | refine blk_alloc ?_ _)); refine blk_far ?_ NB223_242.out _; (with_reducible repeat (first | refine blk_drewN ?_ _ | refine blk_drew ?_ | refine blk_alloc ?_ _)); exact BK223.out) hb); replace BK224 := am (blk_below (g := gb224) (o := b2 a1_0 a1_1 24) (by (with_reducible repeat (first | refine blk_drewN ?_ _ | refine blk_drew ?_ | refine blk_alloc ?_ _)); refine blk_far ?_ NB224_242.out _; (with_reducible repeat (first | refine blk_drewN ?_ _ | refine blk_drew ?_ | refine blk_alloc ?_ _)); refine blk_far ?_ NB224_242.out _; (with_reducible repeat (first | refine blk_drewN ?_ _ | refine blk_drew ?_ | refine blk_alloc ?_ _)); exact BK224.out) hb); replace BK225 := am (blk_below (g := gb225) (o := b2 0 0 24) (by (with_reducible repeat (first | refine blk_drewN ?_ _ | refine blk_drew ?_ | refine blk_alloc ?_ _)); refine blk_far ?_ NB225_242.out _; (with_reducible repeat (first | refine blk_drewN ?_ _ | refine blk_drew ?_ | refine blk_alloc ?_ _)); refine blk_far ?_ NB225_242.out _; (with_reducible repeat (first | refine blk_drewN ?_ _ | refine blk_drew ?_ | refine blk_alloc ?_ _)); exact BK225.out) hb); replace BK232 := am (blk_below (g := gb232) (o := b4 t228 t229 t230 t231 96) (by (with_reducible repeat (first | refine blk_drewN ?_ _ | refine blk_drew ?_ | refine blk_alloc ?_ _)); refine blk_far ?_ NB232_242.out _; (with_reducible repeat (first | refine blk_drewN ?_ _ | refine blk_drew ?_ | refine blk_alloc ?_ _)); refine blk_far ?_ NB232_242.out _; (with_reducible repeat (first | refine blk_drewN ?_ _ | refine blk_drew ?_ | refine blk_alloc ?_ _)); exact BK232.out) hb); replace BK235 := am (blk_below (g := gb235) (o := b2 x236000_40 x236001_40 24) (by (with_reducible repeat (first | refine blk_drewN ?_ _ | refine blk_drew ?_ | refine blk_alloc ?_ _)); refine blk_far ?_ NB235_242.out _; (with_reducible repeat (first | refine blk_drewN ?_ _ | refine blk_drew ?_ | refine blk_alloc ?_ _)); refine blk_far ?_ NB235_242.out _; (with_reducible repeat (first | refine blk_drewN ?_ _ | refine blk_drew ?_ | refine blk_alloc ?_ _)); exact BK235.out) hb); replace BK236 := am (blk_below (g := gb236) (o := b2 t228 t229 24) (by (with_reducible repeat (first | refine blk_drewN ?_ _ | refine blk_drew ?_ | refine blk_alloc ?_ _)); refine blk_far ?_ NB236_242.out _; (with_reducible repeat (first | refine blk_drewN ?_ _ | refine blk_drew ?_ | refine blk_alloc ?_ _)); refine blk_far ?_ NB236_242.out _; (with_reducible repeat (first | refine blk_drewN ?_ _ | refine blk_drew ?_ | refine blk_alloc ?_ _)); exact BK236.out) hb); replace BK242 := am (blk_below (g := gb242) (o := b2 t230 t231 24) (by (with_reducible repeat (first | refine blk_drewN ?_ _ | refine blk_drew ?_ | refine blk_alloc ?_ _)); refine blk_put (cs := #[.int .i64 t230, .int .i64 0]) ?_ 1 _ rfl; (with_reducible repeat (first | refine blk_drewN ?_ _ | refine blk_drew ?_ | refine blk_alloc ?_ _)); refine blk_put (cs := #[.int .i64 0, .int .i64 0]) ?_ 0 _ rfl; (with_reducible repeat (first | refine blk_drewN ?_ _ | refine blk_drew ?_ | refine blk_alloc ?_ _)); exact BK242.out) hb); replace HB := am (below_step (Y7 HB GE223 GE224 GE225 GE232 GE235 GE236 GE242) hb); (try clear hb); (try clear hb2); (try clear hk); (try clear hi); have hnb124 := NB224_223.out; have hnc124 := NB223_224.out; have hnb125 := NB224_225.out; have hnc125 := NB225_224.out; have hnb126 := NB224_235.out; have hnc126 := NB235_224.out; have hnb127 := NB224_236.out; have hnc127 := NB236_224.out; have hcz128_0 : w123.cell? ⟨gb224, 0, none⟩ = some (.int .i64 a1_0) := bc BK224 0; have hcz128_1 : w123.cell? ⟨gb224, 1, none⟩ = some (.int .i64 a1_1) := bc BK224 1; have hfz128_0 := blk_frozen BK224.out 0; have hfz128_1 := blk_frozen BK224.out 1) | ((with_reducible refine gate_callee (f := 95) rfl ?_); refine goesL_ (some 62) rfl rfl Try.func95 (by kernel_rfl) rfl #[.agg #[.int .i64 a1_0, .int .i64 a1_1], .int .i64 0] rfl mz ?_; (with_reducible refine (impl_RangeHas.calls a1_0 a1_1 0 false _ A77.out).mono ?_); rintro e w129 ⟨rfl, hb⟩; refine ⟨_, rfl, ?_⟩; replace BK223 := am (blk_below (g := gb223) (o := b2 a0_0 a0_1 24) (Z BK223) hb); replace BK224 := am (blk_below (g := gb224) (o := b2 a1_0 a1_1 24) (Z BK224) hb); replace BK225 := am (blk_below (g := gb225) (o := b2 0 0 24) (Z BK225) hb); replace BK232 := am (blk_below (g := gb232) (o := b4 t228 t229 t230 t231 96) (Z BK232) hb); replace BK235 := am (blk_below (g := gb235) (o := b2 x236000_40 x236001_40 24) (Z BK235) hb); replace BK236 := am (blk_below (g := gb236) (o := b2 t228 t229 24) (Z BK236) hb); replace BK242 := am (blk_below (g := gb242) (o := b2 t230 t231 24) (Z BK242) hb); replace HB := am (below_step (Y7 HB GE223 GE224 GE225 GE232 GE235 GE236 GE242) hb); (try clear hb); (try clear hb2); (try clear hk); (try clear hi); have hnb130 := NB235_223.out; have hnc130 := NB223_235.out; have hnb131 := NB235_225.out; have hnc131 := NB225_235.out; have hnb132 := NB235_236.out; have hnc132 := NB236_235.out; have hcz133_0 : w129.cell? ⟨gb235, 0, none⟩ = some (.int .i64 x236000_40) := bc BK235 0; have hcz133_1 : w129.cell? ⟨gb235, 1, none⟩ = some (.int .i64 x236001_40) := bc BK235 1; have hfz133_0 := blk_frozen BK235.out 0; have hfz133_1 := blk_frozen BK235.out 1; have hnb134 := NB225_223.out; have hnc134 := NB223_225.out; have hnb135 := NB225_236.out; have hnc135 := NB236_225.out; have hcz136_0 : w129.cell? ⟨gb225, 0, none⟩ = some (.int .i64 0) := bc BK225 0; have hcz136_1 : w129.cell? ⟨gb225, 1, none⟩ = some (.int .i64 0) := bc BK225 1; have hfz136_0 := blk_frozen BK225.out 0; have hfz136_1 := blk_frozen BK225.out 1))
        refine bodyPost_ret (results_ct rfl _ _ gb225 24 #[.int .i64 x236000_40, .int .i64 x236001_40] (0, 0) _ rfl (by (with_reducible repeat (first | refine blk_drewN ?_ _ | refine blk_drew ?_ | refine blk_alloc ?_ _)); refine blk_put (cs := #[.int .i64 x236000_40, .int .i64 0]) ?_ 1 _ rfl; (with_reducible repeat (first | refine blk_drewN ?_ _ | refine blk_drew ?_ | refine blk_alloc ?_ _)); refine blk_put (cs := #[.int .i64 0, .int .i64 0]) ?_ 0 _ rfl; (with_reducible repeat (first | refine blk_drewN ?_ _ | refine blk_drew ?_ | refine blk_alloc ?_ _)); exact BK225.out) Try.underlying24 rfl (by kernel_rfl)) rfl ?_
        exact ⟨_, by first | rfl | (simp [errW_none, errW_some] <;> rfl) | (simp [*, errW_none, errW_some] <;> rfl), by first | exact Kd.R_nil _ _ _ _ _ | exact Kd.N_nil _ _ _ _ _ | exact Kd.V_nil _ _ _ _ _ | exact Kd.Q_nil _ _ _ _ _ | exact Kd.S_nil _ _ _ _ _, Y7 HB GE223 GE224 GE225 GE232 GE235 GE236 GE242⟩
      ·replace c76 := Bool.eq_false_iff.mpr c76
       subst c76
       have H1 : ((impl_rangeRemBy.f kj40 a0_0 a0_1 t230 t231).bind fun bt248 => ((impl_RangeJoin.f kj40 x236000_40 x236001_40 bt248.1 bt248.2).bind fun bt250 => ((impl_RangeHas.f a1_0 a1_1 0).bind fun t252 => (if t252 = true then (some (bt250.1, bt250.2, (([2] : List Int)))) else (some (bt250.1, bt250.2, ([] : List Int))))))) = some (r1, r2, r3) := by rw [if_neg (show ¬ (false = true) by decide)] at H; exact H
       clear H
       have H := H1
       clear H1
       replace H := Option.bind_eq_some_iff.mp H
       obtain ⟨⟨t248, t249⟩, A1370, H⟩ := H
       replace H : ((impl_RangeJoin.f kj40 x236000_40 x236001_40 t248 t249).bind fun bt250 => ((impl_RangeHas.f a1_0 a1_1 0).bind fun t252 => (if t252 = true then (some (bt250.1, bt250.2, (([2] : List Int)))) else (some (bt250.1, bt250.2, ([] : List Int)))))) = some (r1, r2, r3) := H
       have A137 := am A1370
       clear A1370
       replace H := Option.bind_eq_some_iff.mp H
       obtain ⟨⟨t250, t251⟩, A1380, H⟩ := H
       replace H : ((impl_RangeHas.f a1_0 a1_1 0).bind fun t252 => (if t252 = true then (some (t250, t251, (([2] : List Int)))) else (some (t250, t251, ([] : List Int))))) = some (r1, r2, r3) := H
       have A138 := am A1380
       clear A1380
       replace H := Option.bind_eq_some_iff.mp H
       obtain ⟨t252, A1390, H⟩ := H
       replace H : (if t252 = true then (some (t250, t251, (([2] : List Int)))) else (some (t250, t251, ([] : List Int)))) = some (r1, r2, r3) := H
       have A139 := am A1390
       clear A1390
       by_cases c140 : t252 = true
       ·subst c140
        have H1 : (some (t250, t251, (([2] : List Int)))) = some (r1, r2, r3) := by rw [if_pos rfl] at H; exact H
        clear H
        have H := H1
        clear H1
        obtain ⟨y253, hy253⟩ : ∃ y_ : List Int, y_ = (([2] : List Int)) := ⟨_, rfl⟩
        replace H : (some (t250, t251, y253)) = some (r1, r2, r3) := by first | (rw [hy253]; with_reducible exact H) | (have H2_ := (Option.bind_some _ _).symm.trans H; rw [hy253]; with_reducible exact H2_) | (have H2_ := (Option.bind_some _ _).symm.trans H; with_reducible exact H2_) | with_reducible exact H | (rw [hy253]; exact H) | exact H
        have Ny253 := am hy253
        clear hy253
        simp only [Option.some.injEq, Prod.mk.injEq] at H
        obtain ⟨rfl, rfl, rfl⟩ := H
        have hnb141 := NB232_223.out
        have hnc141 := NB223_232.out
        have hnb142 := NB232_224.out
        have hnc142 := NB224_232.out
        have hnb143 := NB232_225.out
        have hnc143 := NB225_232.out
        have hnb144 := NB232_235.out
        have hnc144 := NB235_232.out
        have hnb145 := NB232_236.out
        have hnc145 := NB236_232.out
        have hcz146_0 : wc.cell? ⟨gb232, 0, none⟩ = some (.int .i64 t228) := bc BK232 0
        have hcz146_1 : wc.cell? ⟨gb232, 1, none⟩ = some (.int .i64 t229) := bc BK232 1
        have hcz146_2 : wc.cell? ⟨gb232, 2, none⟩ = some (.int .i64 t230) := bc BK232 2
        have hcz146_3 : wc.cell? ⟨gb232, 3, none⟩ = some (.int .i64 t231) := bc BK232 3
        have hfz146_0 := blk_frozen BK232.out 0
        have hfz146_1 := blk_frozen BK232.out 1
        have hfz146_2 := blk_frozen BK232.out 2
        have hfz146_3 := blk_frozen BK232.out 3
        try go_wp2_with (first | ((with_reducible refine gate_dst (N := 10) rfl ?_); refine box_event ?hg (N := 10) ?hd (cs := #[.int .i64 0, .int .i64 0]) (t := 24) ?hr ?_; (case hd => rfl); (case hg => rfl); (case hr => first | (go_simp; done) | (go_simp; rfl)); intro gb242 hg w147 hbox hb; have BK242 := am (hbox); have GW242 := am ((by rw [hg]; exact (below_size (Y6 HB GE223 GE224 GE225 GE232 GE235 GE236)) : w.heap.size ≤ gb242)); have GE242 := am ((by rw [hg]; exact (below_size (Y6 HB GE223 GE224 GE225 GE232 GE235 GE236)) : w.heap.size ≤ gb242)); have NB223_242 := am ((nl (o := b2 a0_0 a0_1 24) hg (Z BK223) : gb223 ≠ gb242)); have NB242_223 := am ((ng (o := b2 a0_0 a0_1 24) hg (Z BK223) : gb242 ≠ gb223)); have NB224_242 := am ((nl (o := b2 a1_0 a1_1 24) hg (Z BK224) : gb224 ≠ gb242)); have NB242_224 := am ((ng (o := b2 a1_0 a1_1 24) hg (Z BK224) : gb242 ≠ gb224)); have NB225_242 := am ((nl (o := b2 0 0 24) hg (Z BK225) : gb225 ≠ gb242)); have NB242_225 := am ((ng (o := b2 0 0 24) hg (Z BK225) : gb242 ≠ gb225)); have NB232_242 := am ((nl (o := b4 t228 t229 t230 t231 96) hg (Z BK232) : gb232 ≠ gb242)); have NB242_232 := am ((ng (o := b4 t228 t229 t230 t231 96) hg (Z BK232) : gb242 ≠ gb232)); have NB235_242 := am ((nl (o := b2 x236000_40 x236001_40 24) hg (Z BK235) : gb235 ≠ gb242)); have NB242_235 := am ((ng (o := b2 x236000_40 x236001_40 24) hg (Z BK235) : gb242 ≠ gb235)); have NB236_242 := am ((nl (o := b2 t228 t229 24) hg (Z BK236) : gb236 ≠ gb242)); have NB242_236 := am ((ng (o := b2 t228 t229 24) hg (Z BK236) : gb242 ≠ gb236)); replace BK223 := am (blk_below (g := gb223) (o := b2 a0_0 a0_1 24) (Z BK223) hb); replace BK224 := am (blk_below (g := gb224) (o := b2 a1_0 a1_1 24) (Z BK224) hb); replace BK225 := am (blk_below (g := gb225) (o := b2 0 0 24) (Z BK225) hb); replace BK232 := am (blk_below (g := gb232) (o := b4 t228 t229 t230 t231 96) (Z BK232) hb); replace BK235 := am (blk_below (g := gb235) (o := b2 x236000_40 x236001_40 24) (Z BK235) hb); replace BK236 := am (blk_below (g := gb236) (o := b2 t228 t229 24) (Z BK236) hb); replace HB := am (below_step (Y6 HB GE223 GE224 GE225 GE232 GE235 GE236) hb); clear hb hbox hg; have hnb148 := NB242_223.out; have hnc148 := NB223_242.out; have hnb149 := NB242_224.out; have hnc149 := NB224_242.out; have hnb150 := NB242_225.out; have hnc150 := NB225_242.out; have hnb151 := NB242_232.out; have hnc151 := NB232_242.out; have hnb152 := NB242_235.out; have hnc152 := NB235_242.out; have hnb153 := NB242_236.out; have hnc153 := NB236_242.out; have hcz154_0 : w147.cell? ⟨gb242, 0, none⟩ = some (.int .i64 0) := bc BK242 0; have hcz154_1 : w147.cell? ⟨gb242, 1, none⟩ = some (.int .i64 0) := bc BK242 1; have hfz154_0 := blk_frozen BK242.out 0; have hfz154_1 := blk_frozen BK242.out 1; (try have hxz0_0 : w147.cell? ⟨gb223, 0, none⟩ = some (.int .i64 a0_0) := bc BK223 0); (try have hxf0_0 := blk_frozen BK223.out 0); (try have hxz0_1 : w147.cell? ⟨gb223, 1, none⟩ = some (.int .i64 a0_1) := bc BK223 1); (try have hxf0_1 := blk_frozen BK223.out 1); (try have hxz1_0 : w147.cell? ⟨gb224, 0, none⟩ = some (.int .i64 a1_0) := bc BK224 0); (try have hxf1_0 := blk_frozen BK224.out 0); (try have hxz1_1 : w147.cell? ⟨gb224, 1, none⟩ = some (.int .i64 a1_1) := bc BK224 1); (try have hxf1_1 := blk_frozen BK224.out 1); (try have hxz2_0 : w147.cell? ⟨gb225, 0, none⟩ = some (.int .i64 0) := bc BK225 0); (try have hxf2_0 := blk_frozen BK225.out 0); (try have hxz2_1 : w147.cell? ⟨gb225, 1, none⟩ = some (.int .i64 0) := bc BK225 1); (try have hxf2_1 := blk_frozen BK225.out 1); (try have hxz3_0 : w147.cell? ⟨gb232, 0, none⟩ = some (.int .i64 t228) := bc BK232 0); (try have hxf3_0 := blk_frozen BK232.out 0); (try have hxz3_1 : w147.cell? ⟨gb232, 1, none⟩ = some (.int .i64 t229) := bc BK232 1); (try have hxf3_1 := blk_frozen BK232.out 1); (try have hxz3_2 : w147.cell? ⟨gb232, 2, none⟩ = some (.int .i64 t230) := bc BK232 2); (try have hxf3_2 := blk_frozen BK232.out 2); (try have hxz3_3 : w147.cell? ⟨gb232, 3, none⟩ = some (.int .i64 t231) := bc BK232 3); (try have hxf3_3 := blk_frozen BK232.out 3); (try have hxz4_0 : w147.cell? ⟨gb235, 0, none⟩ = some (.int .i64 x236000_40) := bc BK235 0); (try have hxf4_0 := blk_frozen BK235.out 0); (try have hxz4_1 : w147.cell? ⟨gb235, 1, none⟩ = some (.int .i64 x236001_40) := bc BK235 1); (try have hxf4_1 := blk_frozen BK235.out 1); (try have hxz5_0 : w147.cell? ⟨gb236, 0, none⟩ = some (.int .i64 t228) := bc BK236 0); (try have hxf5_0 := blk_frozen BK236.out 0); (try have hxz5_1 : w147.cell? ⟨gb236, 1, none⟩ = some (.int .i64 t229) := bc BK236 1); (try have hxf5_1 := blk_frozen BK236.out 1); (try have hxs0_1 : ∀ x_ : Value, (w147.setCell ⟨gb242, 0, none⟩ x_).cell? ⟨gb242, 1, none⟩ = some (.int .i64 0) := fun x_ => (World.cell?_setCell_other _ _ _ _ (by simp)).trans (bc BK242 1)); (try have hxs1_0 : ∀ x_ : Value, (w147.setCell ⟨gb242, 1, none⟩ x_).cell? ⟨gb242, 0, none⟩ = some (.int .i64 0) := fun x_ => (World.cell?_setCell_other _ _ _ _ (by simp)).trans (bc BK242 0))) | ((with_reducible refine gate_callee (f := 47) rfl ?_); refine goesL_ (some 51) rfl rfl Try.func47 (by kernel_rfl) rfl #[.agg #[.int .i64 t230, .int .i64 t231]] rfl mz ?_; (with_reducible refine (impl_Range_empty.calls t230 t231 false _ A75.out).mono ?_); rintro e w155 ⟨rfl, hb⟩; refine ⟨_, rfl, ?_⟩; replace BK223 := am (blk_below (g := gb223) (o := b2 a0_0 a0_1 24) (by (with_reducible repeat (first | refine blk_drewN ?_ _ | refine blk_drew ?_ | refine blk_alloc ?_ _)); refine blk_far ?_ NB223_242.out _; (with_reducible repeat (first | refine blk_drewN ?_ _ | refine blk_drew ?_ | refine blk_alloc ?_ _)); refine blk_far ?_ NB223_242.out _; (with_reducible repeat (first | refine blk_drewN ?_ _ | refine blk_drew ?_ | refine blk_alloc ?_ _)); exact BK223.out) hb); replace BK224 := am (blk_below (g := gb224) (o := b2 a1_0 a1_1 24) (by (with_reducible repeat (first | refine blk_drewN ?_ _ | refine blk_drew ?_ | refine blk_alloc ?_ _)); refine blk_far ?_ NB224_242.out _; (with_reducible repeat (first | refine blk_drewN ?_ _ | refine blk_drew ?_ | refine blk_alloc ?_ _)); refine blk_far ?_ NB224_242.out _; (with_reducible repeat (first | refine blk_drewN ?_ _ | refine blk_drew ?_ | refine blk_alloc ?_ _)); exact BK224.out) hb); replace BK225 := am (blk_below (g := gb225) (o := b2 0 0 24) (by (with_reducible repeat (first | refine blk_drewN ?_ _ | refine blk_drew ?_ | refine blk_alloc ?_ _)); refine blk_far ?_ NB225_242.out _; (with_reducible repeat (first | refine blk_drewN ?_ _ | refine blk_drew ?_ | refine blk_alloc ?_ _)); refine blk_far ?_ NB225_242.out _; (with_reducible repeat (first | refine blk_drewN ?_ _ | refine blk_drew ?_ | refine blk_alloc ?_ _)); exact BK225.out) hb); replace BK232 := am (blk_below (g := gb232) (o := b4 t228 t229 t230 t231 96) (by (with_reducible repeat (first | refine blk_drewN ?_ _ | refine blk_drew ?_ | refine blk_alloc ?_ _)); refine blk_far ?_ NB232_242.out _; (with_reducible repeat (first | refine blk_drewN ?_ _ | refine blk_drew ?_ | refine blk_alloc ?_ _)); refine blk_far ?_ NB232_242.out _; (with_reducible repeat (first | refine blk_drewN ?_ _ | refine blk_drew ?_ | refine blk_alloc ?_ _)); exact BK232.out) hb); replace BK235 := am (blk_below (g := gb235) (o := b2 x236000_40 x236001_40 24) (by (with_reducible repeat (first | refine blk_drewN ?_ _ | refine blk_drew ?_ | refine blk_alloc ?_ _)); refine blk_far ?_ NB235_242.out _; (with_reducible repeat (first | refine blk_drewN ?_ _ | refine blk_drew ?_ | refine blk_alloc ?_ _)); refine blk_far ?_ NB235_242.out _; (with_reducible repeat (first | refine blk_drewN ?_ _ | refine blk_drew ?_ | refine blk_alloc ?_ _)); exact BK235.out) hb); replace BK236 := am (blk_below (g := gb236) (o := b2 t228 t229 24) (by (with_reducible repeat (first | refine blk_drewN ?_ _ | refine blk_drew ?_ | refine blk_alloc ?_ _)); refine blk_far ?_ NB236_242.out _; (with_reducible repeat (first | refine blk_drewN ?_ _ | refine blk_drew ?_ | refine blk_alloc ?_ _)); refine blk_far ?_ NB236_242.out _; (with_reducible repeat (first | refine blk_drewN ?_ _ | refine blk_drew ?_ | refine blk_alloc ?_ _)); exact BK236.out) hb); replace BK242 := am (blk_below (g := gb242) (o := b2 t230 t231 24) (by (with_reducible repeat (first | refine blk_drewN ?_ _ | refine blk_drew ?_ | refine blk_alloc ?_ _)); refine blk_put (cs := #[.int .i64 t230, .int .i64 0]) ?_ 1 _ rfl; (with_reducible repeat (first | refine blk_drewN ?_ _ | refine blk_drew ?_ | refine blk_alloc ?_ _)); refine blk_put (cs := #[.int .i64 0, .int .i64 0]) ?_ 0 _ rfl; (with_reducible repeat (first | refine blk_drewN ?_ _ | refine blk_drew ?_ | refine blk_alloc ?_ _)); exact BK242.out) hb); replace HB := am (below_step (Y7 HB GE223 GE224 GE225 GE232 GE235 GE236 GE242) hb); (try clear hb); (try clear hb2); (try clear hk); (try clear hi)))
        replace BK223 := am (blk_drew BK223.out)
        replace BK224 := am (blk_drew BK224.out)
        replace BK225 := am (blk_drew BK225.out)
        replace BK232 := am (blk_drew BK232.out)
        replace BK235 := am (blk_drew BK235.out)
        replace BK236 := am (blk_drew BK236.out)
        replace BK242 := am (blk_drew BK242.out)
        replace HB := am (below_drew1 HB.out)
        refine start_ (n := 9) (S := fun w' => w'.cell? ⟨gb235, 0, none⟩ = some (.int .i64 x236000_40) ∧ w'.cell? ⟨gb235, 1, none⟩ = some (.int .i64 x236001_40) ∧ w'.cell? ⟨gb223, 0, none⟩ = some (.int .i64 a0_0) ∧ w'.cell? ⟨gb223, 1, none⟩ = some (.int .i64 a0_1) ∧ w'.cell? ⟨gb242, 0, none⟩ = some (.int .i64 t230) ∧ w'.cell? ⟨gb242, 1, none⟩ = some (.int .i64 t231)) (ds := [8]) #[F, F, F, F, F, F, F, F, F] (by kernel_rfl) rfl rfl ⟨bc BK235 0, bc BK235 1, bc BK223 0, bc BK223 1, bc BK242 0, bc BK242 1⟩ (fun hHeld => ?_); refine with_tabW impl_rangeRem.tab11 impl_rangeRem.bits11 (fun HT_ HW_ => ?_)
        generalize w155.drew = w156 at BK223 BK224 BK225 BK232 BK235 BK236 BK242 HB hHeld ⊢
        refine pure_ (i := 2) (N := some 55) (v := ?_) (a' := ?_) #[F, F, T, F, F, F, F, F, F] rfl rfl (any_of HT_.out (by kernel_rfl)) (fun _ _ _ h => h) (Or.inl ⟨by rfl, ?_⟩) ?_ ?_
        rotate_left
        ·exact gz
        rotate_left
        ·exact pz
        refine pure_ (i := 4) (N := some 57) (v := ?_) (a' := ?_) #[F, F, T, F, T, F, F, F, F] rfl rfl (any_of HT_.out (by kernel_rfl)) (fun _ _ _ h => h) (Or.inl ⟨by rfl, ?_⟩) ?_ ?_
        rotate_left
        ·exact gz
        rotate_left
        ·exact pz
        refine take_ (i := 0) (N := some 53) (v := ?_) (a' := ?_) #[T, F, T, F, T, F, F, F, F] rfl rfl (take_ofW HT_.out HW_.out (by kernel_rfl)) (fun _ _ _ h => h) (Or.inl ⟨by rfl, ?_⟩) hHeld ?_ ?_
        rotate_left
        ·rintro w' ⟨s0, s1, s2, s3, s4, s5⟩
         go_simp
         with_reducible rfl
        rotate_left
        ·exact pz
        refine take_ (i := 1) (N := some 54) (v := ?_) (a' := ?_) #[T, T, T, F, T, F, F, F, F] rfl rfl (take_ofW HT_.out HW_.out (by kernel_rfl)) (fun _ _ _ h => h) (Or.inl ⟨by rfl, ?_⟩) hHeld ?_ ?_
        rotate_left
        ·rintro w' ⟨s0, s1, s2, s3, s4, s5⟩
         go_simp
         with_reducible rfl
        rotate_left
        ·exact pz
        refine take_ (i := 3) (N := some 56) (v := ?_) (a' := ?_) #[T, T, T, T, T, F, F, F, F] rfl rfl (take_ofW HT_.out HW_.out (by kernel_rfl)) (fun _ _ _ h => h) (Or.inl ⟨by rfl, ?_⟩) hHeld ?_ ?_
        rotate_left
        ·rintro w' ⟨s0, s1, s2, s3, s4, s5⟩
         go_simp
         with_reducible rfl
        rotate_left
        ·exact pz
        refine take_ (i := 5) (N := some 58) (v := ?_) (a' := ?_) #[T, T, T, T, T, T, F, F, F] rfl rfl (take_ofW HT_.out HW_.out (by kernel_rfl)) (fun _ _ _ h => h) (Or.inl ⟨by rfl, ?_⟩) hHeld ?_ ?_
        rotate_left
        ·rintro w' ⟨s0, s1, s2, s3, s4, s5⟩
         go_simp
         with_reducible rfl
        rotate_left
        ·exact pz
        refine one_ (i := 6) (N := some 59) #[T, T, T, T, T, T, T, F, F] rfl rfl (one_of HT_.out (by kernel_rfl)) (by decide) (fun K hK => ?_)
        refine goes_ Try.func97 (by kernel_rfl) rfl #[.agg #[.int .i64 a0_0, .int .i64 a0_1], .int .i64 t230, .int .i64 t231] (by rfl) rfl rfl mz ?_
        with_reducible refine (impl_rangeRemBy.calls kj40 a0_0 a0_1 t230 t231 t248 t249 _ A137.out).mono ?_
        rintro e w157 ⟨rfl, hb⟩
        refine ⟨_, rfl, ?_⟩
        replace BK223 := am (blk_below (g := gb223) (o := b2 a0_0 a0_1 24) (Z BK223) hb)
        replace BK224 := am (blk_below (g := gb224) (o := b2 a1_0 a1_1 24) (Z BK224) hb)
        replace BK225 := am (blk_below (g := gb225) (o := b2 0 0 24) (Z BK225) hb)
        replace BK232 := am (blk_below (g := gb232) (o := b4 t228 t229 t230 t231 96) (Z BK232) hb)
        replace BK235 := am (blk_below (g := gb235) (o := b2 x236000_40 x236001_40 24) (Z BK235) hb)
        replace BK236 := am (blk_below (g := gb236) (o := b2 t228 t229 24) (Z BK236) hb)
        replace BK242 := am (blk_below (g := gb242) (o := b2 t230 t231 24) (Z BK242) hb)
        replace HB := am (below_step (Y7 HB GE223 GE224 GE225 GE232 GE235 GE236 GE242) hb)
        (try clear hb)
        (try clear hb2)
        (try clear hk)
        (try clear hi)
        refine hK.out _ _ ⟨bc BK235 0, bc BK235 1, bc BK223 0, bc BK223 1, bc BK242 0, bc BK242 1⟩ (fun hHeld => ?_)
        clear hK K
        refine norm_ (a' := ?_) ?_ ?_
        rotate_left
        ·show Act.put _ (some 59) _ = _
         simp only [Act.put, List.setIfInBounds_toArray, List.set_cons_zero, List.set_cons_succ, i64_w, i32_w]
         rfl
        refine one_ (i := 7) (N := some 60) #[T, T, T, T, T, T, T, T, F] rfl rfl (one_of HT_.out (by kernel_rfl)) (by decide) (fun K hK => ?_)
        refine goes_ Try.func84 (by kernel_rfl) rfl #[.agg #[.int .i64 x236000_40, .int .i64 x236001_40], .agg #[.int .i64 t248, .int .i64 t249]] (by rfl) rfl rfl mz ?_
        with_reducible refine (impl_RangeJoin.calls kj40 x236000_40 x236001_40 t248 t249 t250 t251 _ A138.out).mono ?_
        rintro e w158 ⟨rfl, hb⟩
        refine ⟨_, rfl, ?_⟩
        replace BK223 := am (blk_below (g := gb223) (o := b2 a0_0 a0_1 24) (Z BK223) hb)
        replace BK224 := am (blk_below (g := gb224) (o := b2 a1_0 a1_1 24) (Z BK224) hb)
        replace BK225 := am (blk_below (g := gb225) (o := b2 0 0 24) (Z BK225) hb)
        replace BK232 := am (blk_below (g := gb232) (o := b4 t228 t229 t230 t231 96) (Z BK232) hb)
        replace BK235 := am (blk_below (g := gb235) (o := b2 x236000_40 x236001_40 24) (Z BK235) hb)
        replace BK236 := am (blk_below (g := gb236) (o := b2 t228 t229 24) (Z BK236) hb)
        replace BK242 := am (blk_below (g := gb242) (o := b2 t230 t231 24) (Z BK242) hb)
        replace HB := am (below_step (Y7 HB GE223 GE224 GE225 GE232 GE235 GE236 GE242) hb)
        (try clear hb)
        (try clear hb2)
        (try clear hk)
        (try clear hi)
        refine hK.out _ _ ⟨bc BK235 0, bc BK235 1, bc BK223 0, bc BK223 1, bc BK242 0, bc BK242 1⟩ (fun hHeld => ?_)
        clear hK K
        refine norm_ (a' := ?_) ?_ ?_
        rotate_left
        ·show Act.put _ (some 60) _ = _
         simp only [Act.put, List.setIfInBounds_toArray, List.set_cons_zero, List.set_cons_succ, i64_w, i32_w]
         rfl
        refine last_ (i := 8) (N := none) #[T, T, T, T, T, T, T, T, T] rfl rfl (one_of HT_.out (by kernel_rfl)) (by decide) (fun K hK => ?_)
        have hs159 : w158.cell? ⟨gb235, 0, none⟩ = some (.int .i64 x236000_40) := bc BK235 0
        have hfs159 := blk_frozen BK235.out 0
        have hns159_0 := NB223_235.out
        have hns159_1 := NB224_235.out
        have hns159_2 := NB225_235.out
        have hns159_3 := NB232_235.out
        have hns159_5 := NB236_235.out
        have hns159_6 := NB242_235.out
        have hms159_0 := NB235_223.out
        have hms159_1 := NB235_224.out
        have hms159_2 := NB235_225.out
        have hms159_3 := NB235_232.out
        have hms159_5 := NB235_236.out
        have hms159_6 := NB235_242.out
        have hs160 : w158.cell? ⟨gb235, 1, none⟩ = some (.int .i64 x236001_40) := bc BK235 1
        have hfs160 := blk_frozen BK235.out 1
        have hns160_0 := NB223_235.out
        have hns160_1 := NB224_235.out
        have hns160_2 := NB225_235.out
        have hns160_3 := NB232_235.out
        have hns160_5 := NB236_235.out
        have hns160_6 := NB242_235.out
        have hms160_0 := NB235_223.out
        have hms160_1 := NB235_224.out
        have hms160_2 := NB235_225.out
        have hms160_3 := NB235_232.out
        have hms160_5 := NB235_236.out
        have hms160_6 := NB235_242.out
        refine skip_ (w1 := ?_) (by rfl) rfl ?_ ?_
        rotate_left
        ·go_simp
         rfl
        refine hK.out _ _ ?_
        clear hK K
        refine done_ (done_of HT_.out (by kernel_rfl)) ?_
        have hnb161 := NB224_223.out
        have hnc161 := NB223_224.out
        have hnb162 := NB224_225.out
        have hnc162 := NB225_224.out
        have hnb163 := NB224_235.out
        have hnc163 := NB235_224.out
        have hnb164 := NB224_236.out
        have hnc164 := NB236_224.out
        have hcz165_0 : w158.cell? ⟨gb224, 0, none⟩ = some (.int .i64 a1_0) := bc BK224 0
        have hcz165_1 : w158.cell? ⟨gb224, 1, none⟩ = some (.int .i64 a1_1) := bc BK224 1
        have hfz165_0 := blk_frozen BK224.out 0
        have hfz165_1 := blk_frozen BK224.out 1
        try go_wp2_with (first | ((with_reducible refine gate_callee (f := 95) rfl ?_); refine goesL_ (some 62) rfl rfl Try.func95 (by kernel_rfl) rfl #[.agg #[.int .i64 a1_0, .int .i64 a1_1], .int .i64 0] rfl mz ?_; (with_reducible refine (impl_RangeHas.calls a1_0 a1_1 0 true _ A139.out).mono ?_); rintro e w166 ⟨rfl, hb⟩; refine ⟨_, rfl, ?_⟩; replace BK223 := am (blk_below (g := gb223) (o := b2 a0_0 a0_1 24) (by (with_reducible repeat (first | refine blk_drewN ?_ _ | refine blk_drew ?_ | refine blk_alloc ?_ _)); refine blk_far ?_ NB223_235.out _; (with_reducible repeat (first | refine blk_drewN ?_ _ | refine blk_drew ?_ | refine blk_alloc ?_ _)); refine blk_far ?_ NB223_235.out _; (with_reducible repeat (first | refine blk_drewN ?_ _ | refine blk_drew ?_ | refine blk_alloc ?_ _)); exact BK223.out) hb); replace BK224 := am (blk_below (g := gb224) (o := b2 a1_0 a1_1 24) (by (with_reducible repeat (first | refine blk_drewN ?_ _ | refine blk_drew ?_ | refine blk_alloc ?_ _)); refine blk_far ?_ NB224_235.out _; (with_reducible repeat (first | refine blk_drewN ?_ _ | refine blk_drew ?_ | refine blk_alloc ?_ _)); refine blk_far ?_ NB224_235.out _; (with_reducible repeat (first | refine blk_drewN ?_ _ | refine blk_drew ?_ | refine blk_alloc ?_ _)); exact BK224.out) hb); replace BK225 := am (blk_below (g := gb225) (o := b2 0 0 24) (by (with_reducible repeat (first | refine blk_drewN ?_ _ | refine blk_drew ?_ | refine blk_alloc ?_ _)); refine blk_far ?_ NB225_235.out _; (with_reducible repeat (first | refine blk_drewN ?_ _ | refine blk_drew ?_ | refine blk_alloc ?_ _)); refine blk_far ?_ NB225_235.out _; (with_reducible repeat (first | refine blk_drewN ?_ _ | refine blk_drew ?_ | refine blk_alloc ?_ _)); exact BK225.out) hb); replace BK232 := am (blk_below (g := gb232) (o := b4 t228 t229 t230 t231 96) (by (with_reducible repeat (first | refine blk_drewN ?_ _ | refine blk_drew ?_ | refine blk_alloc ?_ _)); refine blk_far ?_ NB232_235.out _; (with_reducible repeat (first | refine blk_drewN ?_ _ | refine blk_drew ?_ | refine blk_alloc ?_ _)); refine blk_far ?_ NB232_235.out _; (with_reducible repeat (first | refine blk_drewN ?_ _ | refine blk_drew ?_ | refine blk_alloc ?_ _)); exact BK232.out) hb); replace BK235 := am (blk_below (g := gb235) (o := b2 t250 t251 24) (by (with_reducible repeat (first | refine blk_drewN ?_ _ | refine blk_drew ?_ | refine blk_alloc ?_ _)); refine blk_put (cs := #[.int .i64 t250, .int .i64 x236001_40]) ?_ 1 _ rfl; (with_reducible repeat (first | refine blk_drewN ?_ _ | refine blk_drew ?_ | refine blk_alloc ?_ _)); refine blk_put (cs := #[.int .i64 x236000_40, .int .i64 x236001_40]) ?_ 0 _ rfl; (with_reducible repeat (first | refine blk_drewN ?_ _ | refine blk_drew ?_ | refine blk_alloc ?_ _)); exact BK235.out) hb); replace BK236 := am (blk_below (g := gb236) (o := b2 t228 t229 24) (by (with_reducible repeat (first | refine blk_drewN ?_ _ | refine blk_drew ?_ | refine blk_alloc ?_ _)); refine blk_far ?_ NB236_235.out _; (with_reducible repeat (first | refine blk_drewN ?_ _ | refine blk_drew ?_ | refine blk_alloc ?_ _)); refine blk_far ?_ NB236_235.out _; (with_reducible repeat (first | refine blk_drewN ?_ _ | refine blk_drew ?_ | refine blk_alloc ?_ _)); exact BK236.out) hb); replace BK242 := am (blk_below (g := gb242) (o := b2 t230 t231 24) (by (with_reducible repeat (first | refine blk_drewN ?_ _ | refine blk_drew ?_ | refine blk_alloc ?_ _)); refine blk_far ?_ NB242_235.out _; (with_reducible repeat (first | refine blk_drewN ?_ _ | refine blk_drew ?_ | refine blk_alloc ?_ _)); refine blk_far ?_ NB242_235.out _; (with_reducible repeat (first | refine blk_drewN ?_ _ | refine blk_drew ?_ | refine blk_alloc ?_ _)); exact BK242.out) hb); replace HB := am (below_step (Y7 HB GE223 GE224 GE225 GE232 GE235 GE236 GE242) hb); (try clear hb); (try clear hb2); (try clear hk); (try clear hi); have hnb167 := NB235_223.out; have hnc167 := NB223_235.out; have hnb168 := NB235_225.out; have hnc168 := NB225_235.out; have hnb169 := NB235_236.out; have hnc169 := NB236_235.out; have hcz170_0 : w166.cell? ⟨gb235, 0, none⟩ = some (.int .i64 t250) := bc BK235 0; have hcz170_1 : w166.cell? ⟨gb235, 1, none⟩ = some (.int .i64 t251) := bc BK235 1; have hfz170_0 := blk_frozen BK235.out 0; have hfz170_1 := blk_frozen BK235.out 1) | ((with_reducible refine gate_dst (N := 64) rfl ?_); refine Kd.R_lit (Kd.int .i64) _ 3 ?hg (N := 64) ?hd (xs := ([2] : List Int)) (inner := [.int .i64 2]) (ok := fun _ => True) (okp := fun _ => True) ?hr ?hp (fun _ hk => hk) trivial (Below.refl _ _) (Nat.le_refl _) (by simp) ?_; (case hd => rfl); (case hg => rfl); (case hr => first | (go_simp; done) | (go_simp; rfl)); (case hp => exact (Reps.one (show Kd.M (Kd.int .i64) _ _ _ 2 [.int .i64 2] from rfl) (Reps.none _ _))); intro v254 w171 ho172 hb hg_ hnew_; clear hg_ hnew_; (first | rw [← Ny253.out] at ho172 | (simp only [Int.reduceToNat] at ho172; rw [← Ny253.out] at ho172)); have HO255 := am (Kd.R_lower ho172 (below_size (Y7 HB GE223 GE224 GE225 GE232 GE235 GE236 GE242))); replace BK223 := am (blk_below (g := gb223) (o := b2 a0_0 a0_1 24) (Z BK223) hb); replace BK224 := am (blk_below (g := gb224) (o := b2 a1_0 a1_1 24) (Z BK224) hb); replace BK225 := am (blk_below (g := gb225) (o := b2 0 0 24) (Z BK225) hb); replace BK232 := am (blk_below (g := gb232) (o := b4 t228 t229 t230 t231 96) (Z BK232) hb); replace BK235 := am (blk_below (g := gb235) (o := b2 t250 t251 24) (Z BK235) hb); replace BK236 := am (blk_below (g := gb236) (o := b2 t228 t229 24) (Z BK236) hb); replace BK242 := am (blk_below (g := gb242) (o := b2 t230 t231 24) (Z BK242) hb); replace HB := am (below_step (Y7 HB GE223 GE224 GE225 GE232 GE235 GE236 GE242) hb); clear hb ho172; have hnb173 := NB225_223.out; have hnc173 := NB223_225.out; have hnb174 := NB225_236.out; have hnc174 := NB236_225.out; have hcz175_0 : w171.cell? ⟨gb225, 0, none⟩ = some (.int .i64 0) := bc BK225 0; have hcz175_1 : w171.cell? ⟨gb225, 1, none⟩ = some (.int .i64 0) := bc BK225 1; have hfz175_0 := blk_frozen BK225.out 0; have hfz175_1 := blk_frozen BK225.out 1))
        refine bodyPost_ret (results_ct rfl _ _ gb225 24 #[.int .i64 t250, .int .i64 t251] (0, 0) _ rfl (by (with_reducible repeat (first | refine blk_drewN ?_ _ | refine blk_drew ?_ | refine blk_alloc ?_ _)); refine blk_put (cs := #[.int .i64 t250, .int .i64 0]) ?_ 1 _ rfl; (with_reducible repeat (first | refine blk_drewN ?_ _ | refine blk_drew ?_ | refine blk_alloc ?_ _)); refine blk_put (cs := #[.int .i64 0, .int .i64 0]) ?_ 0 _ rfl; (with_reducible repeat (first | refine blk_drewN ?_ _ | refine blk_drew ?_ | refine blk_alloc ?_ _)); exact BK225.out) Try.underlying24 rfl (by kernel_rfl)) rfl ?_
        exact ⟨_, by first | rfl | (simp [errW_none, errW_some] <;> rfl) | (simp [*, errW_none, errW_some] <;> rfl), by (with_reducible repeat (first | apply Kd.R_alloc | apply Kd.R_drewN | apply Kd.R_drew)); exact Kd.R_mono (Kd.R_far (p := ⟨gb225, 1, none⟩) (Kd.R_far (p := ⟨gb225, 0, none⟩) (Kd.R_types HO255.out BK225.out (by decide)) (fun _ hk => hk.2) (.int .i64 t250)) (fun _ hk => hk.2) (.int .i64 t251)) (fun _ hk => trivial), Y7 HB GE223 GE224 GE225 GE232 GE235 GE236 GE242⟩
       ·replace c140 := Bool.eq_false_iff.mpr c140
        subst c140
        have H1 : (some (t250, t251, ([] : List Int))) = some (r1, r2, r3) := by rw [if_neg (show ¬ (false = true) by decide)] at H; exact H
        clear H
        have H := H1
        clear H1
        simp only [Option.some.injEq, Prod.mk.injEq] at H
        obtain ⟨rfl, rfl, rfl⟩ := H
        have hnb176 := NB232_223.out
        have hnc176 := NB223_232.out
        have hnb177 := NB232_224.out
        have hnc177 := NB224_232.out
        have hnb178 := NB232_225.out
        have hnc178 := NB225_232.out
        have hnb179 := NB232_235.out
        have hnc179 := NB235_232.out
        have hnb180 := NB232_236.out
        have hnc180 := NB236_232.out
        have hcz181_0 : wc.cell? ⟨gb232, 0, none⟩ = some (.int .i64 t228) := bc BK232 0
        have hcz181_1 : wc.cell? ⟨gb232, 1, none⟩ = some (.int .i64 t229) := bc BK232 1
        have hcz181_2 : wc.cell? ⟨gb232, 2, none⟩ = some (.int .i64 t230) := bc BK232 2
        have hcz181_3 : wc.cell? ⟨gb232, 3, none⟩ = some (.int .i64 t231) := bc BK232 3
        have hfz181_0 := blk_frozen BK232.out 0
        have hfz181_1 := blk_frozen BK232.out 1
        have hfz181_2 := blk_frozen BK232.out 2
        have hfz181_3 := blk_frozen BK232.out 3
        try go_wp2_with (first | ((with_reducible refine gate_dst (N := 10) rfl ?_); refine box_event ?hg (N := 10) ?hd (cs := #[.int .i64 0, .int .i64 0]) (t := 24) ?hr ?_; (case hd => rfl); (case hg => rfl); (case hr => first | (go_simp; done) | (go_simp; rfl)); intro gb242 hg w182 hbox hb; have BK242 := am (hbox); have GW242 := am ((by rw [hg]; exact (below_size (Y6 HB GE223 GE224 GE225 GE232 GE235 GE236)) : w.heap.size ≤ gb242)); have GE242 := am ((by rw [hg]; exact (below_size (Y6 HB GE223 GE224 GE225 GE232 GE235 GE236)) : w.heap.size ≤ gb242)); have NB223_242 := am ((nl (o := b2 a0_0 a0_1 24) hg (Z BK223) : gb223 ≠ gb242)); have NB242_223 := am ((ng (o := b2 a0_0 a0_1 24) hg (Z BK223) : gb242 ≠ gb223)); have NB224_242 := am ((nl (o := b2 a1_0 a1_1 24) hg (Z BK224) : gb224 ≠ gb242)); have NB242_224 := am ((ng (o := b2 a1_0 a1_1 24) hg (Z BK224) : gb242 ≠ gb224)); have NB225_242 := am ((nl (o := b2 0 0 24) hg (Z BK225) : gb225 ≠ gb242)); have NB242_225 := am ((ng (o := b2 0 0 24) hg (Z BK225) : gb242 ≠ gb225)); have NB232_242 := am ((nl (o := b4 t228 t229 t230 t231 96) hg (Z BK232) : gb232 ≠ gb242)); have NB242_232 := am ((ng (o := b4 t228 t229 t230 t231 96) hg (Z BK232) : gb242 ≠ gb232)); have NB235_242 := am ((nl (o := b2 x236000_40 x236001_40 24) hg (Z BK235) : gb235 ≠ gb242)); have NB242_235 := am ((ng (o := b2 x236000_40 x236001_40 24) hg (Z BK235) : gb242 ≠ gb235)); have NB236_242 := am ((nl (o := b2 t228 t229 24) hg (Z BK236) : gb236 ≠ gb242)); have NB242_236 := am ((ng (o := b2 t228 t229 24) hg (Z BK236) : gb242 ≠ gb236)); replace BK223 := am (blk_below (g := gb223) (o := b2 a0_0 a0_1 24) (Z BK223) hb); replace BK224 := am (blk_below (g := gb224) (o := b2 a1_0 a1_1 24) (Z BK224) hb); replace BK225 := am (blk_below (g := gb225) (o := b2 0 0 24) (Z BK225) hb); replace BK232 := am (blk_below (g := gb232) (o := b4 t228 t229 t230 t231 96) (Z BK232) hb); replace BK235 := am (blk_below (g := gb235) (o := b2 x236000_40 x236001_40 24) (Z BK235) hb); replace BK236 := am (blk_below (g := gb236) (o := b2 t228 t229 24) (Z BK236) hb); replace HB := am (below_step (Y6 HB GE223 GE224 GE225 GE232 GE235 GE236) hb); clear hb hbox hg; have hnb183 := NB242_223.out; have hnc183 := NB223_242.out; have hnb184 := NB242_224.out; have hnc184 := NB224_242.out; have hnb185 := NB242_225.out; have hnc185 := NB225_242.out; have hnb186 := NB242_232.out; have hnc186 := NB232_242.out; have hnb187 := NB242_235.out; have hnc187 := NB235_242.out; have hnb188 := NB242_236.out; have hnc188 := NB236_242.out; have hcz189_0 : w182.cell? ⟨gb242, 0, none⟩ = some (.int .i64 0) := bc BK242 0; have hcz189_1 : w182.cell? ⟨gb242, 1, none⟩ = some (.int .i64 0) := bc BK242 1; have hfz189_0 := blk_frozen BK242.out 0; have hfz189_1 := blk_frozen BK242.out 1; (try have hxz0_0 : w182.cell? ⟨gb223, 0, none⟩ = some (.int .i64 a0_0) := bc BK223 0); (try have hxf0_0 := blk_frozen BK223.out 0); (try have hxz0_1 : w182.cell? ⟨gb223, 1, none⟩ = some (.int .i64 a0_1) := bc BK223 1); (try have hxf0_1 := blk_frozen BK223.out 1); (try have hxz1_0 : w182.cell? ⟨gb224, 0, none⟩ = some (.int .i64 a1_0) := bc BK224 0); (try have hxf1_0 := blk_frozen BK224.out 0); (try have hxz1_1 : w182.cell? ⟨gb224, 1, none⟩ = some (.int .i64 a1_1) := bc BK224 1); (try have hxf1_1 := blk_frozen BK224.out 1); (try have hxz2_0 : w182.cell? ⟨gb225, 0, none⟩ = some (.int .i64 0) := bc BK225 0); (try have hxf2_0 := blk_frozen BK225.out 0); (try have hxz2_1 : w182.cell? ⟨gb225, 1, none⟩ = some (.int .i64 0) := bc BK225 1); (try have hxf2_1 := blk_frozen BK225.out 1); (try have hxz3_0 : w182.cell? ⟨gb232, 0, none⟩ = some (.int .i64 t228) := bc BK232 0); (try have hxf3_0 := blk_frozen BK232.out 0); (try have hxz3_1 : w182.cell? ⟨gb232, 1, none⟩ = some (.int .i64 t229) := bc BK232 1); (try have hxf3_1 := blk_frozen BK232.out 1); (try have hxz3_2 : w182.cell? ⟨gb232, 2, none⟩ = some (.int .i64 t230) := bc BK232 2); (try have hxf3_2 := blk_frozen BK232.out 2); (try have hxz3_3 : w182.cell? ⟨gb232, 3, none⟩ = some (.int .i64 t231) := bc BK232 3); (try have hxf3_3 := blk_frozen BK232.out 3); (try have hxz4_0 : w182.cell? ⟨gb235, 0, none⟩ = some (.int .i64 x236000_40) := bc BK235 0); (try have hxf4_0 := blk_frozen BK235.out 0); (try have hxz4_1 : w182.cell? ⟨gb235, 1, none⟩ = some (.int .i64 x236001_40) := bc BK235 1); (try have hxf4_1 := blk_frozen BK235.out 1); (try have hxz5_0 : w182.cell? ⟨gb236, 0, none⟩ = some (.int .i64 t228) := bc BK236 0); (try have hxf5_0 := blk_frozen BK236.out 0); (try have hxz5_1 : w182.cell? ⟨gb236, 1, none⟩ = some (.int .i64 t229) := bc BK236 1); (try have hxf5_1 := blk_frozen BK236.out 1); (try have hxs0_1 : ∀ x_ : Value, (w182.setCell ⟨gb242, 0, none⟩ x_).cell? ⟨gb242, 1, none⟩ = some (.int .i64 0) := fun x_ => (World.cell?_setCell_other _ _ _ _ (by simp)).trans (bc BK242 1)); (try have hxs1_0 : ∀ x_ : Value, (w182.setCell ⟨gb242, 1, none⟩ x_).cell? ⟨gb242, 0, none⟩ = some (.int .i64 0) := fun x_ => (World.cell?_setCell_other _ _ _ _ (by simp)).trans (bc BK242 0))) | ((with_reducible refine gate_callee (f := 47) rfl ?_); refine goesL_ (some 51) rfl rfl Try.func47 (by kernel_rfl) rfl #[.agg #[.int .i64 t230, .int .i64 t231]] rfl mz ?_; (with_reducible refine (impl_Range_empty.calls t230 t231 false _ A75.out).mono ?_); rintro e w190 ⟨rfl, hb⟩; refine ⟨_, rfl, ?_⟩; replace BK223 := am (blk_below (g := gb223) (o := b2 a0_0 a0_1 24) (by (with_reducible repeat (first | refine blk_drewN ?_ _ | refine blk_drew ?_ | refine blk_alloc ?_ _)); refine blk_far ?_ NB223_242.out _; (with_reducible repeat (first | refine blk_drewN ?_ _ | refine blk_drew ?_ | refine blk_alloc ?_ _)); refine blk_far ?_ NB223_242.out _; (with_reducible repeat (first | refine blk_drewN ?_ _ | refine blk_drew ?_ | refine blk_alloc ?_ _)); exact BK223.out) hb); replace BK224 := am (blk_below (g := gb224) (o := b2 a1_0 a1_1 24) (by (with_reducible repeat (first | refine blk_drewN ?_ _ | refine blk_drew ?_ | refine blk_alloc ?_ _)); refine blk_far ?_ NB224_242.out _; (with_reducible repeat (first | refine blk_drewN ?_ _ | refine blk_drew ?_ | refine blk_alloc ?_ _)); refine blk_far ?_ NB224_242.out _; (with_reducible repeat (first | refine blk_drewN ?_ _ | refine blk_drew ?_ | refine blk_alloc ?_ _)); exact BK224.out) hb); replace BK225 := am (blk_below (g := gb225) (o := b2 0 0 24) (by (with_reducible repeat (first | refine blk_drewN ?_ _ | refine blk_drew ?_ | refine blk_alloc ?_ _)); refine blk_far ?_ NB225_242.out _; (with_reducible repeat (first | refine blk_drewN ?_ _ | refine blk_drew ?_ | refine blk_alloc ?_ _)); refine blk_far ?_ NB225_242.out _; (with_reducible repeat (first | refine blk_drewN ?_ _ | refine blk_drew ?_ | refine blk_alloc ?_ _)); exact BK225.out) hb); replace BK232 := am (blk_below (g := gb232) (o := b4 t228 t229 t230 t231 96) (by (with_reducible repeat (first | refine blk_drewN ?_ _ | refine blk_drew ?_ | refine blk_alloc ?_ _)); refine blk_far ?_ NB232_242.out _; (with_reducible repeat (first | refine blk_drewN ?_ _ | refine blk_drew ?_ | refine blk_alloc ?_ _)); refine blk_far ?_ NB232_242.out _; (with_reducible repeat (first | refine blk_drewN ?_ _ | refine blk_drew ?_ | refine blk_alloc ?_ _)); exact BK232.out) hb); replace BK235 := am (blk_below (g := gb235) (o := b2 x236000_40 x236001_40 24) (by (with_reducible repeat (first | refine blk_drewN ?_ _ | refine blk_drew ?_ | refine blk_alloc ?_ _)); refine blk_far ?_ NB235_242.out _; (with_reducible repeat (first | refine blk_drewN ?_ _ | refine blk_drew ?_ | refine blk_alloc ?_ _)); refine blk_far ?_ NB235_242.out _; (with_reducible repeat (first | refine blk_drewN ?_ _ | refine blk_drew ?_ | refine blk_alloc ?_ _)); exact BK235.out) hb); replace BK236 := am (blk_below (g := gb236) (o := b2 t228 t229 24) (by (with_reducible repeat (first | refine blk_drewN ?_ _ | refine blk_drew ?_ | refine blk_alloc ?_ _)); refine blk_far ?_ NB236_242.out _; (with_reducible repeat (first | refine blk_drewN ?_ _ | refine blk_drew ?_ | refine blk_alloc ?_ _)); refine blk_far ?_ NB236_242.out _; (with_reducible repeat (first | refine blk_drewN ?_ _ | refine blk_drew ?_ | refine blk_alloc ?_ _)); exact BK236.out) hb); replace BK242 := am (blk_below (g := gb242) (o := b2 t230 t231 24) (by (with_reducible repeat (first | refine blk_drewN ?_ _ | refine blk_drew ?_ | refine blk_alloc ?_ _)); refine blk_put (cs := #[.int .i64 t230, .int .i64 0]) ?_ 1 _ rfl; (with_reducible repeat (first | refine blk_drewN ?_ _ | refine blk_drew ?_ | refine blk_alloc ?_ _)); refine blk_put (cs := #[.int .i64 0, .int .i64 0]) ?_ 0 _ rfl; (with_reducible repeat (first | refine blk_drewN ?_ _ | refine blk_drew ?_ | refine blk_alloc ?_ _)); exact BK242.out) hb); replace HB := am (below_step (Y7 HB GE223 GE224 GE225 GE232 GE235 GE236 GE242) hb); (try clear hb); (try clear hb2); (try clear hk); (try clear hi)))
        replace BK223 := am (blk_drew BK223.out)
        replace BK224 := am (blk_drew BK224.out)
        replace BK225 := am (blk_drew BK225.out)
        replace BK232 := am (blk_drew BK232.out)
        replace BK235 := am (blk_drew BK235.out)
        replace BK236 := am (blk_drew BK236.out)
        replace BK242 := am (blk_drew BK242.out)
        replace HB := am (below_drew1 HB.out)
        refine start_ (n := 9) (S := fun w' => w'.cell? ⟨gb235, 0, none⟩ = some (.int .i64 x236000_40) ∧ w'.cell? ⟨gb235, 1, none⟩ = some (.int .i64 x236001_40) ∧ w'.cell? ⟨gb223, 0, none⟩ = some (.int .i64 a0_0) ∧ w'.cell? ⟨gb223, 1, none⟩ = some (.int .i64 a0_1) ∧ w'.cell? ⟨gb242, 0, none⟩ = some (.int .i64 t230) ∧ w'.cell? ⟨gb242, 1, none⟩ = some (.int .i64 t231)) (ds := [8]) #[F, F, F, F, F, F, F, F, F] (by kernel_rfl) rfl rfl ⟨bc BK235 0, bc BK235 1, bc BK223 0, bc BK223 1, bc BK242 0, bc BK242 1⟩ (fun hHeld => ?_); refine with_tabW impl_rangeRem.tab11 impl_rangeRem.bits11 (fun HT_ HW_ => ?_)
        generalize w190.drew = w191 at BK223 BK224 BK225 BK232 BK235 BK236 BK242 HB hHeld ⊢
        refine pure_ (i := 2) (N := some 55) (v := ?_) (a' := ?_) #[F, F, T, F, F, F, F, F, F] rfl rfl (any_of HT_.out (by kernel_rfl)) (fun _ _ _ h => h) (Or.inl ⟨by rfl, ?_⟩) ?_ ?_
        rotate_left
        ·exact gz
        rotate_left
        ·exact pz
        refine pure_ (i := 4) (N := some 57) (v := ?_) (a' := ?_) #[F, F, T, F, T, F, F, F, F] rfl rfl (any_of HT_.out (by kernel_rfl)) (fun _ _ _ h => h) (Or.inl ⟨by rfl, ?_⟩) ?_ ?_
        rotate_left
        ·exact gz
        rotate_left
        ·exact pz
        refine take_ (i := 0) (N := some 53) (v := ?_) (a' := ?_) #[T, F, T, F, T, F, F, F, F] rfl rfl (take_ofW HT_.out HW_.out (by kernel_rfl)) (fun _ _ _ h => h) (Or.inl ⟨by rfl, ?_⟩) hHeld ?_ ?_
        rotate_left
        ·rintro w' ⟨s0, s1, s2, s3, s4, s5⟩
         go_simp
         with_reducible rfl
        rotate_left
        ·exact pz
        refine take_ (i := 1) (N := some 54) (v := ?_) (a' := ?_) #[T, T, T, F, T, F, F, F, F] rfl rfl (take_ofW HT_.out HW_.out (by kernel_rfl)) (fun _ _ _ h => h) (Or.inl ⟨by rfl, ?_⟩) hHeld ?_ ?_
        rotate_left
        ·rintro w' ⟨s0, s1, s2, s3, s4, s5⟩
         go_simp
         with_reducible rfl
        rotate_left
        ·exact pz
        refine take_ (i := 3) (N := some 56) (v := ?_) (a' := ?_) #[T, T, T, T, T, F, F, F, F] rfl rfl (take_ofW HT_.out HW_.out (by kernel_rfl)) (fun _ _ _ h => h) (Or.inl ⟨by rfl, ?_⟩) hHeld ?_ ?_
        rotate_left
        ·rintro w' ⟨s0, s1, s2, s3, s4, s5⟩
         go_simp
         with_reducible rfl
        rotate_left
        ·exact pz
        refine take_ (i := 5) (N := some 58) (v := ?_) (a' := ?_) #[T, T, T, T, T, T, F, F, F] rfl rfl (take_ofW HT_.out HW_.out (by kernel_rfl)) (fun _ _ _ h => h) (Or.inl ⟨by rfl, ?_⟩) hHeld ?_ ?_
        rotate_left
        ·rintro w' ⟨s0, s1, s2, s3, s4, s5⟩
         go_simp
         with_reducible rfl
        rotate_left
        ·exact pz
        refine one_ (i := 6) (N := some 59) #[T, T, T, T, T, T, T, F, F] rfl rfl (one_of HT_.out (by kernel_rfl)) (by decide) (fun K hK => ?_)
        refine goes_ Try.func97 (by kernel_rfl) rfl #[.agg #[.int .i64 a0_0, .int .i64 a0_1], .int .i64 t230, .int .i64 t231] (by rfl) rfl rfl mz ?_
        with_reducible refine (impl_rangeRemBy.calls kj40 a0_0 a0_1 t230 t231 t248 t249 _ A137.out).mono ?_
        rintro e w192 ⟨rfl, hb⟩
        refine ⟨_, rfl, ?_⟩
        replace BK223 := am (blk_below (g := gb223) (o := b2 a0_0 a0_1 24) (Z BK223) hb)
        replace BK224 := am (blk_below (g := gb224) (o := b2 a1_0 a1_1 24) (Z BK224) hb)
        replace BK225 := am (blk_below (g := gb225) (o := b2 0 0 24) (Z BK225) hb)
        replace BK232 := am (blk_below (g := gb232) (o := b4 t228 t229 t230 t231 96) (Z BK232) hb)
        replace BK235 := am (blk_below (g := gb235) (o := b2 x236000_40 x236001_40 24) (Z BK235) hb)
        replace BK236 := am (blk_below (g := gb236) (o := b2 t228 t229 24) (Z BK236) hb)
        replace BK242 := am (blk_below (g := gb242) (o := b2 t230 t231 24) (Z BK242) hb)
        replace HB := am (below_step (Y7 HB GE223 GE224 GE225 GE232 GE235 GE236 GE242) hb)
        (try clear hb)
        (try clear hb2)
        (try clear hk)
        (try clear hi)
        refine hK.out _ _ ⟨bc BK235 0, bc BK235 1, bc BK223 0, bc BK223 1, bc BK242 0, bc BK242 1⟩ (fun hHeld => ?_)
        clear hK K
        refine norm_ (a' := ?_) ?_ ?_
        rotate_left
        ·show Act.put _ (some 59) _ = _
         simp only [Act.put, List.setIfInBounds_toArray, List.set_cons_zero, List.set_cons_succ, i64_w, i32_w]
         rfl
        refine one_ (i := 7) (N := some 60) #[T, T, T, T, T, T, T, T, F] rfl rfl (one_of HT_.out (by kernel_rfl)) (by decide) (fun K hK => ?_)
        refine goes_ Try.func84 (by kernel_rfl) rfl #[.agg #[.int .i64 x236000_40, .int .i64 x236001_40], .agg #[.int .i64 t248, .int .i64 t249]] (by rfl) rfl rfl mz ?_
        with_reducible refine (impl_RangeJoin.calls kj40 x236000_40 x236001_40 t248 t249 t250 t251 _ A138.out).mono ?_
        rintro e w193 ⟨rfl, hb⟩
        refine ⟨_, rfl, ?_⟩
        replace BK223 := am (blk_below (g := gb223) (o := b2 a0_0 a0_1 24) (Z BK223) hb)
        replace BK224 := am (blk_below (g := gb224) (o := b2 a1_0 a1_1 24) (Z BK224) hb)
        replace BK225 := am (blk_below (g := gb225) (o := b2 0 0 24) (Z BK225) hb)
        replace BK232 := am (blk_below (g := gb232) (o := b4 t228 t229 t230 t231 96) (Z BK232) hb)
        replace BK235 := am (blk_below (g := gb235) (o := b2 x236000_40 x236001_40 24) (Z BK235) hb)
        replace BK236 := am (blk_below (g := gb236) (o := b2 t228 t229 24) (Z BK236) hb)
        replace BK242 := am (blk_below (g := gb242) (o := b2 t230 t231 24) (Z BK242) hb)
        replace HB := am (below_step (Y7 HB GE223 GE224 GE225 GE232 GE235 GE236 GE242) hb)
        (try clear hb)
        (try clear hb2)
        (try clear hk)
        (try clear hi)
        refine hK.out _ _ ⟨bc BK235 0, bc BK235 1, bc BK223 0, bc BK223 1, bc BK242 0, bc BK242 1⟩ (fun hHeld => ?_)
        clear hK K
        refine norm_ (a' := ?_) ?_ ?_
        rotate_left
        ·show Act.put _ (some 60) _ = _
         simp only [Act.put, List.setIfInBounds_toArray, List.set_cons_zero, List.set_cons_succ, i64_w, i32_w]
         rfl
        refine last_ (i := 8) (N := none) #[T, T, T, T, T, T, T, T, T] rfl rfl (one_of HT_.out (by kernel_rfl)) (by decide) (fun K hK => ?_)
        have hs194 : w193.cell? ⟨gb235, 0, none⟩ = some (.int .i64 x236000_40) := bc BK235 0
        have hfs194 := blk_frozen BK235.out 0
        have hns194_0 := NB223_235.out
        have hns194_1 := NB224_235.out
        have hns194_2 := NB225_235.out
        have hns194_3 := NB232_235.out
        have hns194_5 := NB236_235.out
        have hns194_6 := NB242_235.out
        have hms194_0 := NB235_223.out
        have hms194_1 := NB235_224.out
        have hms194_2 := NB235_225.out
        have hms194_3 := NB235_232.out
        have hms194_5 := NB235_236.out
        have hms194_6 := NB235_242.out
        have hs195 : w193.cell? ⟨gb235, 1, none⟩ = some (.int .i64 x236001_40) := bc BK235 1
        have hfs195 := blk_frozen BK235.out 1
        have hns195_0 := NB223_235.out
        have hns195_1 := NB224_235.out
        have hns195_2 := NB225_235.out
        have hns195_3 := NB232_235.out
        have hns195_5 := NB236_235.out
        have hns195_6 := NB242_235.out
        have hms195_0 := NB235_223.out
        have hms195_1 := NB235_224.out
        have hms195_2 := NB235_225.out
        have hms195_3 := NB235_232.out
        have hms195_5 := NB235_236.out
        have hms195_6 := NB235_242.out
        refine skip_ (w1 := ?_) (by rfl) rfl ?_ ?_
        rotate_left
        ·go_simp
         rfl
        refine hK.out _ _ ?_
        clear hK K
        refine done_ (done_of HT_.out (by kernel_rfl)) ?_
        have hnb196 := NB224_223.out
        have hnc196 := NB223_224.out
        have hnb197 := NB224_225.out
        have hnc197 := NB225_224.out
        have hnb198 := NB224_235.out
        have hnc198 := NB235_224.out
        have hnb199 := NB224_236.out
        have hnc199 := NB236_224.out
        have hcz200_0 : w193.cell? ⟨gb224, 0, none⟩ = some (.int .i64 a1_0) := bc BK224 0
        have hcz200_1 : w193.cell? ⟨gb224, 1, none⟩ = some (.int .i64 a1_1) := bc BK224 1
        have hfz200_0 := blk_frozen BK224.out 0
        have hfz200_1 := blk_frozen BK224.out 1
        try go_wp2_with (first | ((with_reducible refine gate_callee (f := 95) rfl ?_); refine goesL_ (some 62) rfl rfl Try.func95 (by kernel_rfl) rfl #[.agg #[.int .i64 a1_0, .int .i64 a1_1], .int .i64 0] rfl mz ?_; (with_reducible refine (impl_RangeHas.calls a1_0 a1_1 0 false _ A139.out).mono ?_); rintro e w201 ⟨rfl, hb⟩; refine ⟨_, rfl, ?_⟩; replace BK223 := am (blk_below (g := gb223) (o := b2 a0_0 a0_1 24) (by (with_reducible repeat (first | refine blk_drewN ?_ _ | refine blk_drew ?_ | refine blk_alloc ?_ _)); refine blk_far ?_ NB223_235.out _; (with_reducible repeat (first | refine blk_drewN ?_ _ | refine blk_drew ?_ | refine blk_alloc ?_ _)); refine blk_far ?_ NB223_235.out _; (with_reducible repeat (first | refine blk_drewN ?_ _ | refine blk_drew ?_ | refine blk_alloc ?_ _)); exact BK223.out) hb); replace BK224 := am (blk_below (g := gb224) (o := b2 a1_0 a1_1 24) (by (with_reducible repeat (first | refine blk_drewN ?_ _ | refine blk_drew ?_ | refine blk_alloc ?_ _)); refine blk_far ?_ NB224_235.out _; (with_reducible repeat (first | refine blk_drewN ?_ _ | refine blk_drew ?_ | refine blk_alloc ?_ _)); refine blk_far ?_ NB224_235.out _; (with_reducible repeat (first | refine blk_drewN ?_ _ | refine blk_drew ?_ | refine blk_alloc ?_ _)); exact BK224.out) hb); replace BK225 := am (blk_below (g := gb225) (o := b2 0 0 24) (by (with_reducible repeat (first | refine blk_drewN ?_ _ | refine blk_drew ?_ | refine blk_alloc ?_ _)); refine blk_far ?_ NB225_235.out _; (with_reducible repeat (first | refine blk_drewN ?_ _ | refine blk_drew ?_ | refine blk_alloc ?_ _)); refine blk_far ?_ NB225_235.out _; (with_reducible repeat (first | refine blk_drewN ?_ _ | refine blk_drew ?_ | refine blk_alloc ?_ _)); exact BK225.out) hb); replace BK232 := am (blk_below (g := gb232) (o := b4 t228 t229 t230 t231 96) (by (with_reducible repeat (first | refine blk_drewN ?_ _ | refine blk_drew ?_ | refine blk_alloc ?_ _)); refine blk_far ?_ NB232_235.out _; (with_reducible repeat (first | refine blk_drewN ?_ _ | refine blk_drew ?_ | refine blk_alloc ?_ _)); refine blk_far ?_ NB232_235.out _; (with_reducible repeat (first | refine blk_drewN ?_ _ | refine blk_drew ?_ | refine blk_alloc ?_ _)); exact BK232.out) hb); replace BK235 := am (blk_below (g := gb235) (o := b2 t250 t251 24) (by (with_reducible repeat (first | refine blk_drewN ?_ _ | refine blk_drew ?_ | refine blk_alloc ?_ _)); refine blk_put (cs := #[.int .i64 t250, .int .i64 x236001_40]) ?_ 1 _ rfl; (with_reducible repeat (first | refine blk_drewN ?_ _ | refine blk_drew ?_ | refine blk_alloc ?_ _)); refine blk_put (cs := #[.int .i64 x236000_40, .int .i64 x236001_40]) ?_ 0 _ rfl; (with_reducible repeat (first | refine blk_drewN ?_ _ | refine blk_drew ?_ | refine blk_alloc ?_ _)); exact BK235.out) hb); replace BK236 := am (blk_below (g := gb236) (o := b2 t228 t229 24) (by (with_reducible repeat (first | refine blk_drewN ?_ _ | refine blk_drew ?_ | refine blk_alloc ?_ _)); refine blk_far ?_ NB236_235.out _; (with_reducible repeat (first | refine blk_drewN ?_ _ | refine blk_drew ?_ | refine blk_alloc ?_ _)); refine blk_far ?_ NB236_235.out _; (with_reducible repeat (first | refine blk_drewN ?_ _ | refine blk_drew ?_ | refine blk_alloc ?_ _)); exact BK236.out) hb); replace BK242 := am (blk_below (g := gb242) (o := b2 t230 t231 24) (by (with_reducible repeat (first | refine blk_drewN ?_ _ | refine blk_drew ?_ | refine blk_alloc ?_ _)); refine blk_far ?_ NB242_235.out _; (with_reducible repeat (first | refine blk_drewN ?_ _ | refine blk_drew ?_ | refine blk_alloc ?_ _)); refine blk_far ?_ NB242_235.out _; (with_reducible repeat (first | refine blk_drewN ?_ _ | refine blk_drew ?_ | refine blk_alloc ?_ _)); exact BK242.out) hb); replace HB := am (below_step (Y7 HB GE223 GE224 GE225 GE232 GE235 GE236 GE242) hb); (try clear hb); (try clear hb2); (try clear hk); (try clear hi); have hnb202 := NB235_223.out; have hnc202 := NB223_235.out; have hnb203 := NB235_225.out; have hnc203 := NB225_235.out; have hnb204 := NB235_236.out; have hnc204 := NB236_235.out; have hcz205_0 : w201.cell? ⟨gb235, 0, none⟩ = some (.int .i64 t250) := bc BK235 0; have hcz205_1 : w201.cell? ⟨gb235, 1, none⟩ = some (.int .i64 t251) := bc BK235 1; have hfz205_0 := blk_frozen BK235.out 0; have hfz205_1 := blk_frozen BK235.out 1; have hnb206 := NB225_223.out; have hnc206 := NB223_225.out; have hnb207 := NB225_236.out; have hnc207 := NB236_225.out; have hcz208_0 : w201.cell? ⟨gb225, 0, none⟩ = some (.int .i64 0) := bc BK225 0; have hcz208_1 : w201.cell? ⟨gb225, 1, none⟩ = some (.int .i64 0) := bc BK225 1; have hfz208_0 := blk_frozen BK225.out 0; have hfz208_1 := blk_frozen BK225.out 1))
        refine bodyPost_ret (results_ct rfl _ _ gb225 24 #[.int .i64 t250, .int .i64 t251] (0, 0) _ rfl (by (with_reducible repeat (first | refine blk_drewN ?_ _ | refine blk_drew ?_ | refine blk_alloc ?_ _)); refine blk_put (cs := #[.int .i64 t250, .int .i64 0]) ?_ 1 _ rfl; (with_reducible repeat (first | refine blk_drewN ?_ _ | refine blk_drew ?_ | refine blk_alloc ?_ _)); refine blk_put (cs := #[.int .i64 0, .int .i64 0]) ?_ 0 _ rfl; (with_reducible repeat (first | refine blk_drewN ?_ _ | refine blk_drew ?_ | refine blk_alloc ?_ _)); exact BK225.out) Try.underlying24 rfl (by kernel_rfl)) rfl ?_
        exact ⟨_, by first | rfl | (simp [errW_none, errW_some] <;> rfl) | (simp [*, errW_none, errW_some] <;> rfl), by first | exact Kd.R_nil _ _ _ _ _ | exact Kd.N_nil _ _ _ _ _ | exact Kd.V_nil _ _ _ _ _ | exact Kd.Q_nil _ _ _ _ _ | exact Kd.S_nil _ _ _ _ _, Y7 HB GE223 GE224 GE225 GE232 GE235 GE236 GE242⟩

end Go.Proofs.Ythbkakcchgnhpaa.PFnRangeOne
