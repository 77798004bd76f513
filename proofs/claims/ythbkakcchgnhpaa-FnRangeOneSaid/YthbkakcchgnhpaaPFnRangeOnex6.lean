/- Written by this session's own driver (wip/dprint.py): the functions that the law FnRangeOne reaches, as Lean functions, each with its contract. -/
import Derived.Test.YthbkakcchgnhpaaPFnRangeOnex0
import Derived.Test.YthbkakcchgnhpaaPFnRangeOnex1
import Derived.Test.YthbkakcchgnhpaaPFnRangeOnex2
import Derived.Test.YthbkakcchgnhpaaPFnRangeOnex4
import Derived.Test.YthbkakcchgnhpaaPFnRangeOnex5
import Derived.Test.YthbkakcchgnhpaaSv
namespace Go.Proofs.Ythbkakcchgnhpaa.PFnRangeOne
open Go.RowKit Go.Proofs.YthbkakcchgnhpaaV.PrintWords Go.Proofs.YthbkakcchgnhpaaV.PrintLast Go.Proofs.YthbkakcchgnhpaaV.PrintMore Go.Proofs.YthbkakcchgnhpaaSv
attribute [local go_sem] max2_int min2_int max_two min_two max_three min_three max_four min_four   -- for this text's walks alone
set_option linter.unusedVariables false
set_option linter.unusedSimpArgs false

attribute [local go_sem high] eqA24
/-! ### impl_rangeShift: function 52 -/
def impl_rangeShift.j0 : Nat → List Int → Bool → Int → Int → Int → Int → Int → Int → Option (Int × Int × List Int)
 | 0, _, _, _, _, _, _, _, _ => none
 | k + 1, x10, x35, x145000, x145001, x149000, x149001, x152000, x152001 => if x35 = true then (if x10.length < 17592186044416 then ((some (x10 ++ [1] : List Int)).bind fun y160 => (if (!(x149000 == x145000) || (!(x149001 == x145001))) = true then (if y160.length < 17592186044416 then (some (x152000, x152001, (y160 ++ [3]))) else (none)) else (some (x152000, x152001, y160)))) else (none)) else (if (!(x149000 == x145000) || (!(x149001 == x145001))) = true then (if x10.length < 17592186044416 then (some (x152000, x152001, (x10 ++ [3]))) else (none)) else (some (x152000, x152001, x10)))
def impl_rangeShift.f (k : Nat) (a0 : Int) (a1_0 : Int) (a1_1 : Int) (a2_0 : Int) (a2_1 : Int) : Option (Int × Int × List Int) := (impl_RangeMeet.f k a2_0 a2_1 0 31).bind fun bt146 => ((impl_rangeNone.f).bind fun bt149 => ((impl_Range_empty.f bt146.1 bt146.2).bind fun t152 => (if t152 = true then (if (!(bt146.1 == a2_0) || (!(bt146.2 == a2_1))) = true then (if ([] : List Int).length < 17592186044416 then (some (bt149.1, bt149.2, (([] : List Int) ++ [3]))) else (none)) else (some (bt149.1, bt149.2, ([] : List Int)))) else ((impl_rangeCorners.f k a0 a1_0 a1_1 bt146.1 bt146.2).bind fun bt156 => ((impl_rangeFrom.f bt156.1 bt156.2).bind fun bt158 => (if bt156.1 < (-2147483648) then (impl_rangeShift.j0 k ([] : List Int) true a2_0 a2_1 bt146.1 bt146.2 bt158.1 bt158.2) else (impl_rangeShift.j0 k ([] : List Int) (decide (bt156.2 > 2147483647)) a2_0 a2_1 bt146.1 bt146.2 bt158.1 bt158.2)))))))
theorem impl_rangeShift.mono_l : ∀ k, (∀ y0 y1 y2 y3 y4 y5 y6 y7, LeO (impl_rangeShift.j0 k y0 y1 y2 y3 y4 y5 y6 y7) (impl_rangeShift.j0 (k + 1) y0 y1 y2 y3 y4 y5 y6 y7))
 | 0 => fun _ _ _ _ _ _ _ _ r h => by simp [impl_rangeShift.j0] at h
 | k + 1 => by
  have ih0 := impl_rangeShift.mono_l k
  ·intro y0 y1 y2 y3 y4 y5 y6 y7
   unfold impl_rangeShift.j0
   repeat' first
   | (with_reducible exact ih0 _ _ _ _ _ _ _ _)
   | (with_reducible exact impl_RangeMeet.mono _ _ _ _ _)
   | (with_reducible exact impl_rangeCorners.mono _ _ _ _ _ _)
   | (with_reducible exact LeO.refl _)
   | (with_reducible exact LeO.none _)
   | (with_reducible refine LeO.ite ?_ ?_)
   | (with_reducible refine LeO.bind ?_ (fun _ => ?_))
   | exact ih0 _ _ _ _ _ _ _ _
   | exact impl_RangeMeet.mono _ _ _ _ _
   | exact impl_rangeCorners.mono _ _ _ _ _ _
   | exact LeO.none _
   | refine LeO.ite ?_ ?_
   | refine LeO.bind ?_ (fun _ => ?_)
theorem impl_rangeShift.mono : ∀ a0 a1 a2 a3 a4 k, LeO (impl_rangeShift.f k a0 a1 a2 a3 a4) (impl_rangeShift.f (k + 1) a0 a1 a2 a3 a4) := by
 intro a0 a1 a2 a3 a4 k
 have ih0 := impl_rangeShift.mono_l k
 unfold impl_rangeShift.f
 repeat' first
   | (with_reducible exact ih0 _ _ _ _ _ _ _ _)
   | (with_reducible exact impl_RangeMeet.mono _ _ _ _ _)
   | (with_reducible exact impl_rangeCorners.mono _ _ _ _ _ _)
   | (with_reducible exact LeO.refl _)
   | (with_reducible exact LeO.none _)
   | (with_reducible refine LeO.ite ?_ ?_)
   | (with_reducible refine LeO.bind ?_ (fun _ => ?_))
   | exact ih0 _ _ _ _ _ _ _ _
   | exact impl_RangeMeet.mono _ _ _ _ _
   | exact impl_rangeCorners.mono _ _ _ _ _ _
   | exact LeO.none _
   | refine LeO.ite ?_ ?_
   | refine LeO.bind ?_ (fun _ => ?_)
set_option maxHeartbeats 8000000 in
set_option maxRecDepth 100000 in
theorem impl_rangeShift.calls (k : Nat) (a0 : Int) (a1_0 : Int) (a1_1 : Int) (a2_0 : Int) (a2_1 : Int) (r1 : Int) (r2 : Int) (r3 : List Int) (w : World) (h : impl_rangeShift.f k a0 a1_0 a1_1 a2_0 a2_1 = some (r1, r2, r3)) :
  Calls Try.prog 52 #[.int .i64 a0, .agg #[.int .i64 a1_0, .int .i64 a1_1], .agg #[.int .i64 a2_0, .int .i64 a2_1]] w fun e w' => ∃ v2_ : Value, e = .returned (.tuple #[.agg #[.int .i64 r1, .int .i64 r2], v2_]) ∧ Kd.R (Kd.int .i64) 3 w' w.heap.size (fun _ => True) v2_ r3 ∧ Below w.heap.size w w' := by
 have hu24 := Try.underlying24
 have HB := am (Below.refl w.heap.size w)
 have H : ((impl_RangeMeet.f k a2_0 a2_1 0 31).bind fun bt146 => ((impl_rangeNone.f).bind fun bt149 => ((impl_Range_empty.f bt146.1 bt146.2).bind fun t152 => (if t152 = true then (if (!(bt146.1 == a2_0) || (!(bt146.2 == a2_1))) = true then (if ([] : List Int).length < 17592186044416 then (some (bt149.1, bt149.2, (([] : List Int) ++ [3]))) else (none)) else (some (bt149.1, bt149.2, ([] : List Int)))) else ((impl_rangeCorners.f k a0 a1_0 a1_1 bt146.1 bt146.2).bind fun bt156 => ((impl_rangeFrom.f bt156.1 bt156.2).bind fun bt158 => (if bt156.1 < (-2147483648) then (impl_rangeShift.j0 k ([] : List Int) true a2_0 a2_1 bt146.1 bt146.2 bt158.1 bt158.2) else (impl_rangeShift.j0 k ([] : List Int) (decide (bt156.2 > 2147483647)) a2_0 a2_1 bt146.1 bt146.2 bt158.1 bt158.2)))))))) = some (r1, r2, r3) := h
 clear h
 replace H := Option.bind_eq_some_iff.mp H
 obtain ⟨⟨t146, t147⟩, A40, H⟩ := H
 replace H : ((impl_rangeNone.f).bind fun bt149 => ((impl_Range_empty.f t146 t147).bind fun t152 => (if t152 = true then (if (!(t146 == a2_0) || (!(t147 == a2_1))) = true then (if ([] : List Int).length < 17592186044416 then (some (bt149.1, bt149.2, (([] : List Int) ++ [3]))) else (none)) else (some (bt149.1, bt149.2, ([] : List Int)))) else ((impl_rangeCorners.f k a0 a1_0 a1_1 t146 t147).bind fun bt156 => ((impl_rangeFrom.f bt156.1 bt156.2).bind fun bt158 => (if bt156.1 < (-2147483648) then (impl_rangeShift.j0 k ([] : List Int) true a2_0 a2_1 t146 t147 bt158.1 bt158.2) else (impl_rangeShift.j0 k ([] : List Int) (decide (bt156.2 > 2147483647)) a2_0 a2_1 t146 t147 bt158.1 bt158.2))))))) = some (r1, r2, r3) := H
 have A4 := am A40
 clear A40
 replace H := Option.bind_eq_some_iff.mp H
 obtain ⟨⟨t149, t150⟩, A50, H⟩ := H
 replace H : ((impl_Range_empty.f t146 t147).bind fun t152 => (if t152 = true then (if (!(t146 == a2_0) || (!(t147 == a2_1))) = true then (if ([] : List Int).length < 17592186044416 then (some (t149, t150, (([] : List Int) ++ [3]))) else (none)) else (some (t149, t150, ([] : List Int)))) else ((impl_rangeCorners.f k a0 a1_0 a1_1 t146 t147).bind fun bt156 => ((impl_rangeFrom.f bt156.1 bt156.2).bind fun bt158 => (if bt156.1 < (-2147483648) then (impl_rangeShift.j0 k ([] : List Int) true a2_0 a2_1 t146 t147 bt158.1 bt158.2) else (impl_rangeShift.j0 k ([] : List Int) (decide (bt156.2 > 2147483647)) a2_0 a2_1 t146 t147 bt158.1 bt158.2)))))) = some (r1, r2, r3) := H
 have A5 := am A50
 clear A50
 replace H := Option.bind_eq_some_iff.mp H
 obtain ⟨t152, A60, H⟩ := H
 replace H : (if t152 = true then (if (!(t146 == a2_0) || (!(t147 == a2_1))) = true then (if ([] : List Int).length < 17592186044416 then (some (t149, t150, (([] : List Int) ++ [3]))) else (none)) else (some (t149, t150, ([] : List Int)))) else ((impl_rangeCorners.f k a0 a1_0 a1_1 t146 t147).bind fun bt156 => ((impl_rangeFrom.f bt156.1 bt156.2).bind fun bt158 => (if bt156.1 < (-2147483648) then (impl_rangeShift.j0 k ([] : List Int) true a2_0 a2_1 t146 t147 bt158.1 bt158.2) else (impl_rangeShift.j0 k ([] : List Int) (decide (bt156.2 > 2147483647)) a2_0 a2_1 t146 t147 bt158.1 bt158.2))))) = some (r1, r2, r3) := H
 have A6 := am A60
 clear A60
 by_cases c7 : t152 = true
 ·subst c7
  have H1 : (if (!(t146 == a2_0) || (!(t147 == a2_1))) = true then (if ([] : List Int).length < 17592186044416 then (some (t149, t150, (([] : List Int) ++ [3]))) else (none)) else (some (t149, t150, ([] : List Int)))) = some (r1, r2, r3) := by rw [if_pos rfl] at H; exact H
  clear H
  have H := H1
  clear H1
  by_cases c8 : (!(t146 == a2_0) || (!(t147 == a2_1))) = true
  ·rw [if_pos c8] at H
   have c8b0 : (!(t146 == a2_0) || (!(t147 == a2_1))) = true := c8
   clear c8
   by_cases c9 : ([] : List Int).length < 17592186044416
   ·rw [if_pos c9] at H
    have LMc9 := am c9
    clear c9
    obtain ⟨y153, hy153⟩ : ∃ y_ : List Int, y_ = (([] : List Int) ++ [3]) := ⟨_, rfl⟩
    replace H : (some (t149, t150, y153)) = some (r1, r2, r3) := by first | (rw [hy153]; with_reducible exact H) | (have H2_ := (Option.bind_some _ _).symm.trans H; rw [hy153]; with_reducible exact H2_) | (have H2_ := (Option.bind_some _ _).symm.trans H; with_reducible exact H2_) | with_reducible exact H | (rw [hy153]; exact H) | exact H
    have Ny153 := am hy153
    clear hy153
    simp only [Option.some.injEq, Prod.mk.injEq] at H
    obtain ⟨rfl, rfl, rfl⟩ := H
    go_enter Try.func52, Try.ntmps52
    go_wp2_with (first | ((with_reducible refine gate_dst (N := 4) rfl ?_); refine box_event ?hg (N := 4) ?hd (cs := #[.int .i64 a1_0, .int .i64 a1_1]) (t := 24) ?hr ?_; (case hd => rfl); (case hg => rfl); (case hr => first | (go_simp; done) | (go_simp; rfl)); intro gb143 hg w10 hbox hb; have BK143 := am (hbox); have GW143 := am ((by rw [hg]; exact (below_size (Y0 HB)) : w.heap.size ≤ gb143)); have GE143 := am ((by rw [hg]; exact (below_size (Y0 HB)) : w.heap.size ≤ gb143)); replace HB := am (below_step (Y0 HB) hb); clear hb hbox hg; (try have hxs0_1 : ∀ x_ : Value, (w10.setCell ⟨gb143, 0, none⟩ x_).cell? ⟨gb143, 1, none⟩ = some (.int .i64 a1_1) := fun x_ => (World.cell?_setCell_other _ _ _ _ (by simp)).trans (bc BK143 1)); (try have hxs1_0 : ∀ x_ : Value, (w10.setCell ⟨gb143, 1, none⟩ x_).cell? ⟨gb143, 0, none⟩ = some (.int .i64 a1_0) := fun x_ => (World.cell?_setCell_other _ _ _ _ (by simp)).trans (bc BK143 0))) | ((with_reducible refine gate_dst (N := 5) rfl ?_); refine box_event ?hg (N := 5) ?hd (cs := #[.int .i64 a2_0, .int .i64 a2_1]) (t := 24) ?hr ?_; (case hd => rfl); (case hg => rfl); (case hr => first | (go_simp; done) | (go_simp; rfl)); intro gb144 hg w11 hbox hb; have BK144 := am (hbox); have GW144 := am ((by rw [hg]; exact (below_size (Y1 HB GE143)) : w.heap.size ≤ gb144)); have GE144 := am ((by rw [hg]; exact (below_size (Y1 HB GE143)) : w.heap.size ≤ gb144)); have NB143_144 := am ((nl (o := b2 a1_0 a1_1 24) hg (Z BK143) : gb143 ≠ gb144)); have NB144_143 := am ((ng (o := b2 a1_0 a1_1 24) hg (Z BK143) : gb144 ≠ gb143)); replace BK143 := am (blk_below (g := gb143) (o := b2 a1_0 a1_1 24) (Z BK143) hb); replace HB := am (below_step (Y1 HB GE143) hb); clear hb hbox hg; (try have hxz0_0 : w11.cell? ⟨gb143, 0, none⟩ = some (.int .i64 a1_0) := bc BK143 0); (try have hxf0_0 := blk_frozen BK143.out 0); (try have hxz0_1 : w11.cell? ⟨gb143, 1, none⟩ = some (.int .i64 a1_1) := bc BK143 1); (try have hxf0_1 := blk_frozen BK143.out 1); (try have hxs0_1 : ∀ x_ : Value, (w11.setCell ⟨gb144, 0, none⟩ x_).cell? ⟨gb144, 1, none⟩ = some (.int .i64 a2_1) := fun x_ => (World.cell?_setCell_other _ _ _ _ (by simp)).trans (bc BK144 1)); (try have hxs1_0 : ∀ x_ : Value, (w11.setCell ⟨gb144, 1, none⟩ x_).cell? ⟨gb144, 0, none⟩ = some (.int .i64 a2_0) := fun x_ => (World.cell?_setCell_other _ _ _ _ (by simp)).trans (bc BK144 0))) | ((with_reducible refine gate_dst (N := 6) rfl ?_); refine box_event ?hg (N := 6) ?hd (cs := #[.int .i64 0, .int .i64 0]) (t := 24) ?hr ?_; (case hd => rfl); (case hg => rfl); (case hr => first | (go_simp; done) | (go_simp; rfl)); intro gb145 hg w12 hbox hb; have BK145 := am (hbox); have GW145 := am ((by rw [hg]; exact (below_size (Y2 HB GE143 GE144)) : w.heap.size ≤ gb145)); have GE145 := am ((by rw [hg]; exact (below_size (Y2 HB GE143 GE144)) : w.heap.size ≤ gb145)); have NB143_145 := am ((nl (o := b2 a1_0 a1_1 24) hg (Z BK143) : gb143 ≠ gb145)); have NB145_143 := am ((ng (o := b2 a1_0 a1_1 24) hg (Z BK143) : gb145 ≠ gb143)); have NB144_145 := am ((nl (o := b2 a2_0 a2_1 24) hg (Z BK144) : gb144 ≠ gb145)); have NB145_144 := am ((ng (o := b2 a2_0 a2_1 24) hg (Z BK144) : gb145 ≠ gb144)); replace BK143 := am (blk_below (g := gb143) (o := b2 a1_0 a1_1 24) (Z BK143) hb); replace BK144 := am (blk_below (g := gb144) (o := b2 a2_0 a2_1 24) (Z BK144) hb); replace HB := am (below_step (Y2 HB GE143 GE144) hb); clear hb hbox hg; have hnb13 := NB144_143.out; have hnc13 := NB143_144.out; have hnb14 := NB144_145.out; have hnc14 := NB145_144.out; have hcz15_0 : w12.cell? ⟨gb144, 0, none⟩ = some (.int .i64 a2_0) := bc BK144 0; have hcz15_1 : w12.cell? ⟨gb144, 1, none⟩ = some (.int .i64 a2_1) := bc BK144 1; have hfz15_0 := blk_frozen BK144.out 0; have hfz15_1 := blk_frozen BK144.out 1; (try have hxz0_0 : w12.cell? ⟨gb143, 0, none⟩ = some (.int .i64 a1_0) := bc BK143 0); (try have hxf0_0 := blk_frozen BK143.out 0); (try have hxz0_1 : w12.cell? ⟨gb143, 1, none⟩ = some (.int .i64 a1_1) := bc BK143 1); (try have hxf0_1 := blk_frozen BK143.out 1); (try have hxs0_1 : ∀ x_ : Value, (w12.setCell ⟨gb145, 0, none⟩ x_).cell? ⟨gb145, 1, none⟩ = some (.int .i64 0) := fun x_ => (World.cell?_setCell_other _ _ _ _ (by simp)).trans (bc BK145 1)); (try have hxs1_0 : ∀ x_ : Value, (w12.setCell ⟨gb145, 1, none⟩ x_).cell? ⟨gb145, 0, none⟩ = some (.int .i64 0) := fun x_ => (World.cell?_setCell_other _ _ _ _ (by simp)).trans (bc BK145 0))) | ((with_reducible refine gate_callee (f := 93) rfl ?_); refine goesL_ (some 15) rfl rfl Try.func93 (by kernel_rfl) rfl #[.agg #[.int .i64 a2_0, .int .i64 a2_1], .agg #[.int .i64 0, .int .i64 31]] rfl mz ?_; (with_reducible refine (impl_RangeMeet.calls k a2_0 a2_1 0 31 t146 t147 _ A4.out).mono ?_); rintro e w16 ⟨rfl, hb⟩; refine ⟨_, rfl, ?_⟩; replace BK143 := am (blk_below (g := gb143) (o := b2 a1_0 a1_1 24) (Z BK143) hb); replace BK144 := am (blk_below (g := gb144) (o := b2 a2_0 a2_1 24) (Z BK144) hb); replace BK145 := am (blk_below (g := gb145) (o := b2 0 0 24) (Z BK145) hb); replace HB := am (below_step (Y3 HB GE143 GE144 GE145) hb); (try clear hb); (try clear hb2); (try clear hk); (try clear hi)) | ((with_reducible refine gate_dst (N := 8) rfl ?_); refine box_event ?hg (N := 8) ?hd (cs := #[.int .i64 0, .int .i64 0]) (t := 24) ?hr ?_; (case hd => rfl); (case hg => rfl); (case hr => first | (go_simp; done) | (go_simp; rfl)); intro gb148 hg w17 hbox hb; have BK148 := am (hbox); have GW148 := am ((by rw [hg]; exact (below_size (Y3 HB GE143 GE144 GE145)) : w.heap.size ≤ gb148)); have GE148 := am ((by rw [hg]; exact (below_size (Y3 HB GE143 GE144 GE145)) : w.heap.size ≤ gb148)); have NB143_148 := am ((nl (o := b2 a1_0 a1_1 24) hg (Z BK143) : gb143 ≠ gb148)); have NB148_143 := am ((ng (o := b2 a1_0 a1_1 24) hg (Z BK143) : gb148 ≠ gb143)); have NB144_148 := am ((nl (o := b2 a2_0 a2_1 24) hg (Z BK144) : gb144 ≠ gb148)); have NB148_144 := am ((ng (o := b2 a2_0 a2_1 24) hg (Z BK144) : gb148 ≠ gb144)); have NB145_148 := am ((nl (o := b2 0 0 24) hg (Z BK145) : gb145 ≠ gb148)); have NB148_145 := am ((ng (o := b2 0 0 24) hg (Z BK145) : gb148 ≠ gb145)); replace BK143 := am (blk_below (g := gb143) (o := b2 a1_0 a1_1 24) (Z BK143) hb); replace BK144 := am (blk_below (g := gb144) (o := b2 a2_0 a2_1 24) (Z BK144) hb); replace BK145 := am (blk_below (g := gb145) (o := b2 0 0 24) (Z BK145) hb); replace HB := am (below_step (Y3 HB GE143 GE144 GE145) hb); clear hb hbox hg; have hnb18 := NB148_143.out; have hnc18 := NB143_148.out; have hnb19 := NB148_144.out; have hnc19 := NB144_148.out; have hnb20 := NB148_145.out; have hnc20 := NB145_148.out; have hcz21_0 : w17.cell? ⟨gb148, 0, none⟩ = some (.int .i64 0) := bc BK148 0; have hcz21_1 : w17.cell? ⟨gb148, 1, none⟩ = some (.int .i64 0) := bc BK148 1; have hfz21_0 := blk_frozen BK148.out 0; have hfz21_1 := blk_frozen BK148.out 1; (try have hxz0_0 : w17.cell? ⟨gb143, 0, none⟩ = some (.int .i64 a1_0) := bc BK143 0); (try have hxf0_0 := blk_frozen BK143.out 0); (try have hxz0_1 : w17.cell? ⟨gb143, 1, none⟩ = some (.int .i64 a1_1) := bc BK143 1); (try have hxf0_1 := blk_frozen BK143.out 1); (try have hxz1_0 : w17.cell? ⟨gb144, 0, none⟩ = some (.int .i64 a2_0) := bc BK144 0); (try have hxf1_0 := blk_frozen BK144.out 0); (try have hxz1_1 : w17.cell? ⟨gb144, 1, none⟩ = some (.int .i64 a2_1) := bc BK144 1); (try have hxf1_1 := blk_frozen BK144.out 1); (try have hxz2_0 : w17.cell? ⟨gb145, 0, none⟩ = some (.int .i64 0) := bc BK145 0); (try have hxf2_0 := blk_frozen BK145.out 0); (try have hxz2_1 : w17.cell? ⟨gb145, 1, none⟩ = some (.int .i64 0) := bc BK145 1); (try have hxf2_1 := blk_frozen BK145.out 1); (try have hxs0_1 : ∀ x_ : Value, (w17.setCell ⟨gb148, 0, none⟩ x_).cell? ⟨gb148, 1, none⟩ = some (.int .i64 0) := fun x_ => (World.cell?_setCell_other _ _ _ _ (by simp)).trans (bc BK148 1)); (try have hxs1_0 : ∀ x_ : Value, (w17.setCell ⟨gb148, 1, none⟩ x_).cell? ⟨gb148, 0, none⟩ = some (.int .i64 0) := fun x_ => (World.cell?_setCell_other _ _ _ _ (by simp)).trans (bc BK148 0))) | ((with_reducible refine gate_callee (f := 48) rfl ?_); refine goesL_ (some 16) rfl rfl Try.func48 (by kernel_rfl) rfl #[] rfl mz ?_; (with_reducible refine (impl_rangeNone.calls  t149 t150 _ A5.out).mono ?_); rintro e w22 ⟨rfl, hb⟩; refine ⟨_, rfl, ?_⟩; replace BK143 := am (blk_below (g := gb143) (o := b2 a1_0 a1_1 24) (by (with_reducible repeat (first | refine blk_drewN ?_ _ | refine blk_drew ?_ | refine blk_alloc ?_ _)); refine blk_far ?_ NB143_148.out _; (with_reducible repeat (first | refine blk_drewN ?_ _ | refine blk_drew ?_ | refine blk_alloc ?_ _)); refine blk_far ?_ NB143_148.out _; (with_reducible repeat (first | refine blk_drewN ?_ _ | refine blk_drew ?_ | refine blk_alloc ?_ _)); exact BK143.out) hb); replace BK144 := am (blk_below (g := gb144) (o := b2 a2_0 a2_1 24) (by (with_reducible repeat (first | refine blk_drewN ?_ _ | refine blk_drew ?_ | refine blk_alloc ?_ _)); refine blk_far ?_ NB144_148.out _; (with_reducible repeat (first | refine blk_drewN ?_ _ | refine blk_drew ?_ | refine blk_alloc ?_ _)); refine blk_far ?_ NB144_148.out _; (with_reducible repeat (first | refine blk_drewN ?_ _ | refine blk_drew ?_ | refine blk_alloc ?_ _)); exact BK144.out) hb); replace BK145 := am (blk_below (g := gb145) (o := b2 0 0 24) (by (with_reducible repeat (first | refine blk_drewN ?_ _ | refine blk_drew ?_ | refine blk_alloc ?_ _)); refine blk_far ?_ NB145_148.out _; (with_reducible repeat (first | refine blk_drewN ?_ _ | refine blk_drew ?_ | refine blk_alloc ?_ _)); refine blk_far ?_ NB145_148.out _; (with_reducible repeat (first | refine blk_drewN ?_ _ | refine blk_drew ?_ | refine blk_alloc ?_ _)); exact BK145.out) hb); replace BK148 := am (blk_below (g := gb148) (o := b2 t146 t147 24) (by (with_reducible repeat (first | refine blk_drewN ?_ _ | refine blk_drew ?_ | refine blk_alloc ?_ _)); refine blk_put (cs := #[.int .i64 t146, .int .i64 0]) ?_ 1 _ rfl; (with_reducible repeat (first | refine blk_drewN ?_ _ | refine blk_drew ?_ | refine blk_alloc ?_ _)); refine blk_put (cs := #[.int .i64 0, .int .i64 0]) ?_ 0 _ rfl; (with_reducible repeat (first | refine blk_drewN ?_ _ | refine blk_drew ?_ | refine blk_alloc ?_ _)); exact BK148.out) hb); replace HB := am (below_step (Y4 HB GE143 GE144 GE145 GE148) hb); (try clear hb); (try clear hb2); (try clear hk); (try clear hi)) | ((with_reducible refine gate_dst (N := 9) rfl ?_); refine box_event ?hg (N := 9) ?hd (cs := #[.int .i64 0, .int .i64 0]) (t := 24) ?hr ?_; (case hd => rfl); (case hg => rfl); (case hr => first | (go_simp; done) | (go_simp; rfl)); intro gb151 hg w23 hbox hb; have BK151 := am (hbox); have GW151 := am ((by rw [hg]; exact (below_size (Y4 HB GE143 GE144 GE145 GE148)) : w.heap.size ≤ gb151)); have GE151 := am ((by rw [hg]; exact (below_size (Y4 HB GE143 GE144 GE145 GE148)) : w.heap.size ≤ gb151)); have NB143_151 := am ((nl (o := b2 a1_0 a1_1 24) hg (Z BK143) : gb143 ≠ gb151)); have NB151_143 := am ((ng (o := b2 a1_0 a1_1 24) hg (Z BK143) : gb151 ≠ gb143)); have NB144_151 := am ((nl (o := b2 a2_0 a2_1 24) hg (Z BK144) : gb144 ≠ gb151)); have NB151_144 := am ((ng (o := b2 a2_0 a2_1 24) hg (Z BK144) : gb151 ≠ gb144)); have NB145_151 := am ((nl (o := b2 0 0 24) hg (Z BK145) : gb145 ≠ gb151)); have NB151_145 := am ((ng (o := b2 0 0 24) hg (Z BK145) : gb151 ≠ gb145)); have NB148_151 := am ((nl (o := b2 t146 t147 24) hg (Z BK148) : gb148 ≠ gb151)); have NB151_148 := am ((ng (o := b2 t146 t147 24) hg (Z BK148) : gb151 ≠ gb148)); replace BK143 := am (blk_below (g := gb143) (o := b2 a1_0 a1_1 24) (Z BK143) hb); replace BK144 := am (blk_below (g := gb144) (o := b2 a2_0 a2_1 24) (Z BK144) hb); replace BK145 := am (blk_below (g := gb145) (o := b2 0 0 24) (Z BK145) hb); replace BK148 := am (blk_below (g := gb148) (o := b2 t146 t147 24) (Z BK148) hb); replace HB := am (below_step (Y4 HB GE143 GE144 GE145 GE148) hb); clear hb hbox hg; have hnb24 := NB151_143.out; have hnc24 := NB143_151.out; have hnb25 := NB151_144.out; have hnc25 := NB144_151.out; have hnb26 := NB151_145.out; have hnc26 := NB145_151.out; have hnb27 := NB151_148.out; have hnc27 := NB148_151.out; have hcz28_0 : w23.cell? ⟨gb151, 0, none⟩ = some (.int .i64 0) := bc BK151 0; have hcz28_1 : w23.cell? ⟨gb151, 1, none⟩ = some (.int .i64 0) := bc BK151 1; have hfz28_0 := blk_frozen BK151.out 0; have hfz28_1 := blk_frozen BK151.out 1; have hcz29_0 : w23.cell? ⟨gb148, 0, none⟩ = some (.int .i64 t146) := bc BK148 0; have hcz29_1 : w23.cell? ⟨gb148, 1, none⟩ = some (.int .i64 t147) := bc BK148 1; have hfz29_0 := blk_frozen BK148.out 0; have hfz29_1 := blk_frozen BK148.out 1; (try have hxz0_0 : w23.cell? ⟨gb143, 0, none⟩ = some (.int .i64 a1_0) := bc BK143 0); (try have hxf0_0 := blk_frozen BK143.out 0); (try have hxz0_1 : w23.cell? ⟨gb143, 1, none⟩ = some (.int .i64 a1_1) := bc BK143 1); (try have hxf0_1 := blk_frozen BK143.out 1); (try have hxz1_0 : w23.cell? ⟨gb144, 0, none⟩ = some (.int .i64 a2_0) := bc BK144 0); (try have hxf1_0 := blk_frozen BK144.out 0); (try have hxz1_1 : w23.cell? ⟨gb144, 1, none⟩ = some (.int .i64 a2_1) := bc BK144 1); (try have hxf1_1 := blk_frozen BK144.out 1); (try have hxz2_0 : w23.cell? ⟨gb145, 0, none⟩ = some (.int .i64 0) := bc BK145 0); (try have hxf2_0 := blk_frozen BK145.out 0); (try have hxz2_1 : w23.cell? ⟨gb145, 1, none⟩ = some (.int .i64 0) := bc BK145 1); (try have hxf2_1 := blk_frozen BK145.out 1); (try have hxs0_1 : ∀ x_ : Value, (w23.setCell ⟨gb151, 0, none⟩ x_).cell? ⟨gb151, 1, none⟩ = some (.int .i64 0) := fun x_ => (World.cell?_setCell_other _ _ _ _ (by simp)).trans (bc BK151 1)); (try have hxs1_0 : ∀ x_ : Value, (w23.setCell ⟨gb151, 1, none⟩ x_).cell? ⟨gb151, 0, none⟩ = some (.int .i64 0) := fun x_ => (World.cell?_setCell_other _ _ _ _ (by simp)).trans (bc BK151 0))) | ((with_reducible refine gate_callee (f := 47) rfl ?_); refine goesL_ (some 18) rfl rfl Try.func47 (by kernel_rfl) rfl #[.agg #[.int .i64 t146, .int .i64 t147]] rfl mz ?_; (with_reducible refine (impl_Range_empty.calls t146 t147 true _ A6.out).mono ?_); rintro e w30 ⟨rfl, hb⟩; refine ⟨_, rfl, ?_⟩; replace BK143 := am (blk_below (g := gb143) (o := b2 a1_0 a1_1 24) (by (with_reducible repeat (first | refine blk_drewN ?_ _ | refine blk_drew ?_ | refine blk_alloc ?_ _)); refine blk_far ?_ NB143_151.out _; (with_reducible repeat (first | refine blk_drewN ?_ _ | refine blk_drew ?_ | refine blk_alloc ?_ _)); refine blk_far ?_ NB143_151.out _; (with_reducible repeat (first | refine blk_drewN ?_ _ | refine blk_drew ?_ | refine blk_alloc ?_ _)); exact BK143.out) hb); replace BK144 := am (blk_below (g := gb144) (o := b2 a2_0 a2_1 24) (by (with_reducible repeat (first | refine blk_drewN ?_ _ | refine blk_drew ?_ | refine blk_alloc ?_ _)); refine blk_far ?_ NB144_151.out _; (with_reducible repeat (first | refine blk_drewN ?_ _ | refine blk_drew ?_ | refine blk_alloc ?_ _)); refine blk_far ?_ NB144_151.out _; (with_reducible repeat (first | refine blk_drewN ?_ _ | refine blk_drew ?_ | refine blk_alloc ?_ _)); exact BK144.out) hb); replace BK145 := am (blk_below (g := gb145) (o := b2 0 0 24) (by (with_reducible repeat (first | refine blk_drewN ?_ _ | refine blk_drew ?_ | refine blk_alloc ?_ _)); refine blk_far ?_ NB145_151.out _; (with_reducible repeat (first | refine blk_drewN ?_ _ | refine blk_drew ?_ | refine blk_alloc ?_ _)); refine blk_far ?_ NB145_151.out _; (with_reducible repeat (first | refine blk_drewN ?_ _ | refine blk_drew ?_ | refine blk_alloc ?_ _)); exact BK145.out) hb); replace BK148 := am (blk_below (g := gb148) (o := b2 t146 t147 24) (by (with_reducible repeat (first | refine blk_drewN ?_ _ | refine blk_drew ?_ | refine blk_alloc ?_ _)); refine blk_far ?_ NB148_151.out _; (with_reducible repeat (first | refine blk_drewN ?_ _ | refine blk_drew ?_ | refine blk_alloc ?_ _)); refine blk_far ?_ NB148_151.out _; (with_reducible repeat (first | refine blk_drewN ?_ _ | refine blk_drew ?_ | refine blk_alloc ?_ _)); exact BK148.out) hb); replace BK151 := am (blk_below (g := gb151) (o := b2 t149 t150 24) (by (with_reducible repeat (first | refine blk_drewN ?_ _ | refine blk_drew ?_ | refine blk_alloc ?_ _)); refine blk_put (cs := #[.int .i64 t149, .int .i64 0]) ?_ 1 _ rfl; (with_reducible repeat (first | refine blk_drewN ?_ _ | refine blk_drew ?_ | refine blk_alloc ?_ _)); refine blk_put (cs := #[.int .i64 0, .int .i64 0]) ?_ 0 _ rfl; (with_reducible repeat (first | refine blk_drewN ?_ _ | refine blk_drew ?_ | refine blk_alloc ?_ _)); exact BK151.out) hb); replace HB := am (below_step (Y5 HB GE143 GE144 GE145 GE148 GE151) hb); (try clear hb); (try clear hb2); (try clear hk); (try clear hi); have hcz31_0 : w30.cell? ⟨gb148, 0, none⟩ = some (.int .i64 t146) := bc BK148 0; have hcz31_1 : w30.cell? ⟨gb148, 1, none⟩ = some (.int .i64 t147) := bc BK148 1; have hfz31_0 := blk_frozen BK148.out 0; have hfz31_1 := blk_frozen BK148.out 1; have hcz32_0 : w30.cell? ⟨gb144, 0, none⟩ = some (.int .i64 a2_0) := bc BK144 0; have hcz32_1 : w30.cell? ⟨gb144, 1, none⟩ = some (.int .i64 a2_1) := bc BK144 1; have hfz32_0 := blk_frozen BK144.out 0; have hfz32_1 := blk_frozen BK144.out 1) | ((with_reducible refine gate_builtin (b := .append) (xs := #[.tmp 42, .tmp 43]) rfl ?_); at_builtin; refine Kd.R_append (Kd.int .i64) (w0 := w) w.heap.size rfl (.tmp 42) (.tmp 43) 25 3 (.int .i64 0) 8 rfl Try.underlying25 info3 rfl (by decide) (by omega) (.slice none 0 0) ([] : List Int) 3 [.int .i64 3] (fun _ => True) (fun _ => False) rfl rfl ?aP (fun _ hk => hk.elim) ?aF ?aO ?aB ?aS ?aL ?_; (case aP => exact rfl); (case aB => exact (Y5 HB GE143 GE144 GE145 GE148 GE151)); (case aF => exact (fun _ _ => trivial)); (case aO => exact ((Kd.R_nil _ _ _ _ (fun _ => True)))); (case aS => exact (below_size (Y5 HB GE143 GE144 GE145 GE148 GE151))); (case aL => have := LMc9.out; omega); intro v154 w33 ho hb hg hat; rw [← Ny153.out] at ho; have HO155 := am (ho); replace BK143 := am (blk_grown (g := gb143) (o := b2 a1_0 a1_1 24) (Z BK143) hg (by simp [Value.ownBlock])); replace BK144 := am (blk_grown (g := gb144) (o := b2 a2_0 a2_1 24) (Z BK144) hg (by simp [Value.ownBlock])); replace BK145 := am (blk_grown (g := gb145) (o := b2 0 0 24) (Z BK145) hg (by simp [Value.ownBlock])); replace BK148 := am (blk_grown (g := gb148) (o := b2 t146 t147 24) (Z BK148) hg (by simp [Value.ownBlock])); replace BK151 := am (blk_grown (g := gb151) (o := b2 t149 t150 24) (Z BK151) hg (by simp [Value.ownBlock])); replace HB := am (hb); clear ho hb hg hat; have hcz34_0 : w33.cell? ⟨gb151, 0, none⟩ = some (.int .i64 t149) := bc BK151 0; have hcz34_1 : w33.cell? ⟨gb151, 1, none⟩ = some (.int .i64 t150) := bc BK151 1; have hfz34_0 := blk_frozen BK151.out 0; have hfz34_1 := blk_frozen BK151.out 1; have hnb35 := NB145_143.out; have hnc35 := NB143_145.out; have hcz36_0 : w33.cell? ⟨gb145, 0, none⟩ = some (.int .i64 0) := bc BK145 0; have hcz36_1 : w33.cell? ⟨gb145, 1, none⟩ = some (.int .i64 0) := bc BK145 1; have hfz36_0 := blk_frozen BK145.out 0; have hfz36_1 := blk_frozen BK145.out 1))
    refine bodyPost_ret (results_ct rfl _ _ gb145 24 #[.int .i64 t149, .int .i64 t150] (0, 0) _ rfl (by (with_reducible repeat (first | refine blk_drewN ?_ _ | refine blk_drew ?_ | refine blk_alloc ?_ _)); refine blk_put (cs := #[.int .i64 t149, .int .i64 0]) ?_ 1 _ rfl; (with_reducible repeat (first | refine blk_drewN ?_ _ | refine blk_drew ?_ | refine blk_alloc ?_ _)); refine blk_put (cs := #[.int .i64 0, .int .i64 0]) ?_ 0 _ rfl; (with_reducible repeat (first | refine blk_drewN ?_ _ | refine blk_drew ?_ | refine blk_alloc ?_ _)); exact BK145.out) Try.underlying24 rfl (by kernel_rfl)) rfl ?_
    exact ⟨_, by first | rfl | (simp [errW_none, errW_some] <;> rfl) | (simp [*, errW_none, errW_some] <;> rfl), by (with_reducible repeat (first | apply Kd.R_alloc | apply Kd.R_drewN | apply Kd.R_drew)); exact Kd.R_mono (Kd.R_far (p := ⟨gb145, 1, none⟩) (Kd.R_far (p := ⟨gb145, 0, none⟩) (Kd.R_types HO155.out BK145.out (by decide)) (fun _ hk => hk.2) (.int .i64 t149)) (fun _ hk => hk.2) (.int .i64 t150)) (fun _ hk => trivial), Y5 HB GE143 GE144 GE145 GE148 GE151⟩
   ·rw [if_neg c9] at H
    exact absurd H (by simp)
  ·rw [if_neg c8] at H
   have c8b0 : (!(t146 == a2_0) || (!(t147 == a2_1))) = false := by simpa using c8
   clear c8
   simp only [Option.some.injEq, Prod.mk.injEq] at H
   obtain ⟨rfl, rfl, rfl⟩ := H
   go_enter Try.func52, Try.ntmps52
   go_wp2_with (first | ((with_reducible refine gate_dst (N := 4) rfl ?_); refine box_event ?hg (N := 4) ?hd (cs := #[.int .i64 a1_0, .int .i64 a1_1]) (t := 24) ?hr ?_; (case hd => rfl); (case hg => rfl); (case hr => first | (go_simp; done) | (go_simp; rfl)); intro gb143 hg w37 hbox hb; have BK143 := am (hbox); have GW143 := am ((by rw [hg]; exact (below_size (Y0 HB)) : w.heap.size ≤ gb143)); have GE143 := am ((by rw [hg]; exact (below_size (Y0 HB)) : w.heap.size ≤ gb143)); replace HB := am (below_step (Y0 HB) hb); clear hb hbox hg; (try have hxs0_1 : ∀ x_ : Value, (w37.setCell ⟨gb143, 0, none⟩ x_).cell? ⟨gb143, 1, none⟩ = some (.int .i64 a1_1) := fun x_ => (World.cell?_setCell_other _ _ _ _ (by simp)).trans (bc BK143 1)); (try have hxs1_0 : ∀ x_ : Value, (w37.setCell ⟨gb143, 1, none⟩ x_).cell? ⟨gb143, 0, none⟩ = some (.int .i64 a1_0) := fun x_ => (World.cell?_setCell_other _ _ _ _ (by simp)).trans (bc BK143 0))) | ((with_reducible refine gate_dst (N := 5) rfl ?_); refine box_event ?hg (N := 5) ?hd (cs := #[.int .i64 a2_0, .int .i64 a2_1]) (t := 24) ?hr ?_; (case hd => rfl); (case hg => rfl); (case hr => first | (go_simp; done) | (go_simp; rfl)); intro gb144 hg w38 hbox hb; have BK144 := am (hbox); have GW144 := am ((by rw [hg]; exact (below_size (Y1 HB GE143)) : w.heap.size ≤ gb144)); have GE144 := am ((by rw [hg]; exact (below_size (Y1 HB GE143)) : w.heap.size ≤ gb144)); have NB143_144 := am ((nl (o := b2 a1_0 a1_1 24) hg (Z BK143) : gb143 ≠ gb144)); have NB144_143 := am ((ng (o := b2 a1_0 a1_1 24) hg (Z BK143) : gb144 ≠ gb143)); replace BK143 := am (blk_below (g := gb143) (o := b2 a1_0 a1_1 24) (Z BK143) hb); replace HB := am (below_step (Y1 HB GE143) hb); clear hb hbox hg; (try have hxz0_0 : w38.cell? ⟨gb143, 0, none⟩ = some (.int .i64 a1_0) := bc BK143 0); (try have hxf0_0 := blk_frozen BK143.out 0); (try have hxz0_1 : w38.cell? ⟨gb143, 1, none⟩ = some (.int .i64 a1_1) := bc BK143 1); (try have hxf0_1 := blk_frozen BK143.out 1); (try have hxs0_1 : ∀ x_ : Value, (w38.setCell ⟨gb144, 0, none⟩ x_).cell? ⟨gb144, 1, none⟩ = some (.int .i64 a2_1) := fun x_ => (World.cell?_setCell_other _ _ _ _ (by simp)).trans (bc BK144 1)); (try have hxs1_0 : ∀ x_ : Value, (w38.setCell ⟨gb144, 1, none⟩ x_).cell? ⟨gb144, 0, none⟩ = some (.int .i64 a2_0) := fun x_ => (World.cell?_setCell_other _ _ _ _ (by simp)).trans (bc BK144 0))) | ((with_reducible refine gate_dst (N := 6) rfl ?_); refine box_event ?hg (N := 6) ?hd (cs := #[.int .i64 0, .int .i64 0]) (t := 24) ?hr ?_; (case hd => rfl); (case hg => rfl); (case hr => first | (go_simp; done) | (go_simp; rfl)); intro gb145 hg w39 hbox hb; have BK145 := am (hbox); have GW145 := am ((by rw [hg]; exact (below_size (Y2 HB GE143 GE144)) : w.heap.size ≤ gb145)); have GE145 := am ((by rw [hg]; exact (below_size (Y2 HB GE143 GE144)) : w.heap.size ≤ gb145)); have NB143_145 := am ((nl (o := b2 a1_0 a1_1 24) hg (Z BK143) : gb143 ≠ gb145)); have NB145_143 := am ((ng (o := b2 a1_0 a1_1 24) hg (Z BK143) : gb145 ≠ gb143)); have NB144_145 := am ((nl (o := b2 a2_0 a2_1 24) hg (Z BK144) : gb144 ≠ gb145)); have NB145_144 := am ((ng (o := b2 a2_0 a2_1 24) hg (Z BK144) : gb145 ≠ gb144)); replace BK143 := am (blk_below (g := gb143) (o := b2 a1_0 a1_1 24) (Z BK143) hb); replace BK144 := am (blk_below (g := gb144) (o := b2 a2_0 a2_1 24) (Z BK144) hb); replace HB := am (below_step (Y2 HB GE143 GE144) hb); clear hb hbox hg; have hnb40 := NB144_143.out; have hnc40 := NB143_144.out; have hnb41 := NB144_145.out; have hnc41 := NB145_144.out; have hcz42_0 : w39.cell? ⟨gb144, 0, none⟩ = some (.int .i64 a2_0) := bc BK144 0; have hcz42_1 : w39.cell? ⟨gb144, 1, none⟩ = some (.int .i64 a2_1) := bc BK144 1; have hfz42_0 := blk_frozen BK144.out 0; have hfz42_1 := blk_frozen BK144.out 1; (try have hxz0_0 : w39.cell? ⟨gb143, 0, none⟩ = some (.int .i64 a1_0) := bc BK143 0); (try have hxf0_0 := blk_frozen BK143.out 0); (try have hxz0_1 : w39.cell? ⟨gb143, 1, none⟩ = some (.int .i64 a1_1) := bc BK143 1); (try have hxf0_1 := blk_frozen BK143.out 1); (try have hxs0_1 : ∀ x_ : Value, (w39.setCell ⟨gb145, 0, none⟩ x_).cell? ⟨gb145, 1, none⟩ = some (.int .i64 0) := fun x_ => (World.cell?_setCell_other _ _ _ _ (by simp)).trans (bc BK145 1)); (try have hxs1_0 : ∀ x_ : Value, (w39.setCell ⟨gb145, 1, none⟩ x_).cell? ⟨gb145, 0, none⟩ = some (.int .i64 0) := fun x_ => (World.cell?_setCell_other _ _ _ _ (by simp)).trans (bc BK145 0))) | ((with_reducible refine gate_callee (f := 93) rfl ?_); refine goesL_ (some 15) rfl rfl Try.func93 (by kernel_rfl) rfl #[.agg #[.int .i64 a2_0, .int .i64 a2_1], .agg #[.int .i64 0, .int .i64 31]] rfl mz ?_; (with_reducible refine (impl_RangeMeet.calls k a2_0 a2_1 0 31 t146 t147 _ A4.out).mono ?_); rintro e w43 ⟨rfl, hb⟩; refine ⟨_, rfl, ?_⟩; replace BK143 := am (blk_below (g := gb143) (o := b2 a1_0 a1_1 24) (Z BK143) hb); replace BK144 := am (blk_below (g := gb144) (o := b2 a2_0 a2_1 24) (Z BK144) hb); replace BK145 := am (blk_below (g := gb145) (o := b2 0 0 24) (Z BK145) hb); replace HB := am (below_step (Y3 HB GE143 GE144 GE145) hb); (try clear hb); (try clear hb2); (try clear hk); (try clear hi)) | ((with_reducible refine gate_dst (N := 8) rfl ?_); refine box_event ?hg (N := 8) ?hd (cs := #[.int .i64 0, .int .i64 0]) (t := 24) ?hr ?_; (case hd => rfl); (case hg => rfl); (case hr => first | (go_simp; done) | (go_simp; rfl)); intro gb148 hg w44 hbox hb; have BK148 := am (hbox); have GW148 := am ((by rw [hg]; exact (below_size (Y3 HB GE143 GE144 GE145)) : w.heap.size ≤ gb148)); have GE148 := am ((by rw [hg]; exact (below_size (Y3 HB GE143 GE144 GE145)) : w.heap.size ≤ gb148)); have NB143_148 := am ((nl (o := b2 a1_0 a1_1 24) hg (Z BK143) : gb143 ≠ gb148)); have NB148_143 := am ((ng (o := b2 a1_0 a1_1 24) hg (Z BK143) : gb148 ≠ gb143)); have NB144_148 := am ((nl (o := b2 a2_0 a2_1 24) hg (Z BK144) : gb144 ≠ gb148)); have NB148_144 := am ((ng (o := b2 a2_0 a2_1 24) hg (Z BK144) : gb148 ≠ gb144)); have NB145_148 := am ((nl (o := b2 0 0 24) hg (Z BK145) : gb145 ≠ gb148)); have NB148_145 := am ((ng (o := b2 0 0 24) hg (Z BK145) : gb148 ≠ gb145)); replace BK143 := am (blk_below (g := gb143) (o := b2 a1_0 a1_1 24) (Z BK143) hb); replace BK144 := am (blk_below (g := gb144) (o := b2 a2_0 a2_1 24) (Z BK144) hb); replace BK145 := am (blk_below (g := gb145) (o := b2 0 0 24) (Z BK145) hb); replace HB := am (below_step (Y3 HB GE143 GE144 GE145) hb); clear hb hbox hg; have hnb45 := NB148_143.out; have hnc45 := NB143_148.out; have hnb46 := NB148_144.out; have hnc46 := NB144_148.out; have hnb47 := NB148_145.out; have hnc47 := NB145_148.out; have hcz48_0 : w44.cell? ⟨gb148, 0, none⟩ = some (.int .i64 0) := bc BK148 0; have hcz48_1 : w44.cell? ⟨gb148, 1, none⟩ = some (.int .i64 0) := bc BK148 1; have hfz48_0 := blk_frozen BK148.out 0; have hfz48_1 := blk_frozen BK148.out 1; (try have hxz0_0 : w44.cell? ⟨gb143, 0, none⟩ = some (.int .i64 a1_0) := bc BK143 0); (try have hxf0_0 := blk_frozen BK143.out 0); (try have hxz0_1 : w44.cell? ⟨gb143, 1, none⟩ = some (.int .i64 a1_1) := bc BK143 1); (try have hxf0_1 := blk_frozen BK143.out 1); (try have hxz1_0 : w44.cell? ⟨gb144, 0, none⟩ = some (.int .i64 a2_0) := bc BK144 0); (try have hxf1_0 := blk_frozen BK144.out 0); (try have hxz1_1 : w44.cell? ⟨gb144, 1, none⟩ = some (.int .i64 a2_1) := bc BK144 1); (try have hxf1_1 := blk_frozen BK144.out 1); (try have hxz2_0 : w44.cell? ⟨gb145, 0, none⟩ = some (.int .i64 0) := bc BK145 0); (try have hxf2_0 := blk_frozen BK145.out 0); (try have hxz2_1 : w44.cell? ⟨gb145, 1, none⟩ = some (.int .i64 0) := bc BK145 1); (try have hxf2_1 := blk_frozen BK145.out 1); (try have hxs0_1 : ∀ x_ : Value, (w44.setCell ⟨gb148, 0, none⟩ x_).cell? ⟨gb148, 1, none⟩ = some (.int .i64 0) := fun x_ => (World.cell?_setCell_other _ _ _ _ (by simp)).trans (bc BK148 1)); (try have hxs1_0 : ∀ x_ : Value, (w44.setCell ⟨gb148, 1, none⟩ x_).cell? ⟨gb148, 0, none⟩ = some (.int .i64 0) := fun x_ => (World.cell?_setCell_other _ _ _ _ (by simp)).trans (bc BK148 0))) | ((with_reducible refine gate_callee (f := 48) rfl ?_); refine goesL_ (some 16) rfl rfl Try.func48 (by kernel_rfl) rfl #[] rfl mz ?_; (with_reducible refine (impl_rangeNone.calls  t149 t150 _ A5.out).mono ?_); rintro e w49 ⟨rfl, hb⟩; refine ⟨_, rfl, ?_⟩; replace BK143 := am (blk_below (g := gb143) (o := b2 a1_0 a1_1 24) (by (with_reducible repeat (first | refine blk_drewN ?_ _ | refine blk_drew ?_ | refine blk_alloc ?_ _)); refine blk_far ?_ NB143_148.out _; (with_reducible repeat (first | refine blk_drewN ?_ _ | refine blk_drew ?_ | refine blk_alloc ?_ _)); refine blk_far ?_ NB143_148.out _; (with_reducible repeat (first | refine blk_drewN ?_ _ | refine blk_drew ?_ | refine blk_alloc ?_ _)); exact BK143.out) hb); replace BK144 := am (blk_below (g := gb144) (o := b2 a2_0 a2_1 24) (by (with_reducible repeat (first | refine blk_drewN ?_ _ | refine blk_drew ?_ | refine blk_alloc ?_ _)); refine blk_far ?_ NB144_148.out _; (with_reducible repeat (first | refine blk_drewN ?_ _ | refine blk_drew ?_ | refine blk_alloc ?_ _)); refine blk_far ?_ NB144_148.out _; (with_reducible repeat (first | refine blk_drewN ?_ _ | refine blk_drew ?_ | refine blk_alloc ?_ _)); exact BK144.out) hb); replace BK145 := am (blk_below (g := gb145) (o := b2 0 0 24) (by (with_reducible repeat (first | refine blk_drewN ?_ _ | refine blk_drew ?_ | refine blk_alloc ?_ _)); refine blk_far ?_ NB145_148.out _; (with_reducible repeat (first | refine blk_drewN ?_ _ | refine blk_drew ?_ | refine blk_alloc ?_ _)); refine blk_far ?_ NB145_148.out _; (with_reducible repeat (first | refine blk_drewN ?_ _ | refine blk_drew ?_ | refine blk_alloc ?_ _)); exact BK145.out) hb); replace BK148 := am (blk_below (g := gb148) (o := b2 t146 t147 24) (by (with_reducible repeat (first | refine blk_drewN ?_ _ | refine blk_drew ?_ | refine blk_alloc ?_ _)); refine blk_put (cs := #[.int .i64 t146, .int .i64 0]) ?_ 1 _ rfl; (with_reducible repeat (first | refine blk_drewN ?_ _ | refine blk_drew ?_ | refine blk_alloc ?_ _)); refine blk_put (cs := #[.int .i64 0, .int .i64 0]) ?_ 0 _ rfl; (with_reducible repeat (first | refine blk_drewN ?_ _ | refine blk_drew ?_ | refine blk_alloc ?_ _)); exact BK148.out) hb); replace HB := am (below_step (Y4 HB GE143 GE144 GE145 GE148) hb); (try clear hb); (try clear hb2); (try clear hk); (try clear hi)) | ((with_reducible refine gate_dst (N := 9) rfl ?_); refine box_event ?hg (N := 9) ?hd (cs := #[.int .i64 0, .int .i64 0]) (t := 24) ?hr ?_; (case hd => rfl); (case hg => rfl); (case hr => first | (go_simp; done) | (go_simp; rfl)); intro gb151 hg w50 hbox hb; have BK151 := am (hbox); have GW151 := am ((by rw [hg]; exact (below_size (Y4 HB GE143 GE144 GE145 GE148)) : w.heap.size ≤ gb151)); have GE151 := am ((by rw [hg]; exact (below_size (Y4 HB GE143 GE144 GE145 GE148)) : w.heap.size ≤ gb151)); have NB143_151 := am ((nl (o := b2 a1_0 a1_1 24) hg (Z BK143) : gb143 ≠ gb151)); have NB151_143 := am ((ng (o := b2 a1_0 a1_1 24) hg (Z BK143) : gb151 ≠ gb143)); have NB144_151 := am ((nl (o := b2 a2_0 a2_1 24) hg (Z BK144) : gb144 ≠ gb151)); have NB151_144 := am ((ng (o := b2 a2_0 a2_1 24) hg (Z BK144) : gb151 ≠ gb144)); have NB145_151 := am ((nl (o := b2 0 0 24) hg (Z BK145) : gb145 ≠ gb151)); have NB151_145 := am ((ng (o := b2 0 0 24) hg (Z BK145) : gb151 ≠ gb145)); have NB148_151 := am ((nl (o := b2 t146 t147 24) hg (Z BK148) : gb148 ≠ gb151)); have NB151_148 := am ((ng (o := b2 t146 t147 24) hg (Z BK148) : gb151 ≠ gb148)); replace BK143 := am (blk_below (g := gb143) (o := b2 a1_0 a1_1 24) (Z BK143) hb); replace BK144 := am (blk_below (g := gb144) (o := b2 a2_0 a2_1 24) (Z BK144) hb); replace BK145 := am (blk_below (g := gb145) (o := b2 0 0 24) (Z BK145) hb); replace BK148 := am (blk_below (g := gb148) (o := b2 t146 t147 24) (Z BK148) hb); replace HB := am (below_step (Y4 HB GE143 GE144 GE145 GE148) hb); clear hb hbox hg; have hnb51 := NB151_143.out; have hnc51 := NB143_151.out; have hnb52 := NB151_144.out; have hnc52 := NB144_151.out; have hnb53 := NB151_145.out; have hnc53 := NB145_151.out; have hnb54 := NB151_148.out; have hnc54 := NB148_151.out; have hcz55_0 : w50.cell? ⟨gb151, 0, none⟩ = some (.int .i64 0) := bc BK151 0; have hcz55_1 : w50.cell? ⟨gb151, 1, none⟩ = some (.int .i64 0) := bc BK151 1; have hfz55_0 := blk_frozen BK151.out 0; have hfz55_1 := blk_frozen BK151.out 1; have hcz56_0 : w50.cell? ⟨gb148, 0, none⟩ = some (.int .i64 t146) := bc BK148 0; have hcz56_1 : w50.cell? ⟨gb148, 1, none⟩ = some (.int .i64 t147) := bc BK148 1; have hfz56_0 := blk_frozen BK148.out 0; have hfz56_1 := blk_frozen BK148.out 1; (try have hxz0_0 : w50.cell? ⟨gb143, 0, none⟩ = some (.int .i64 a1_0) := bc BK143 0); (try have hxf0_0 := blk_frozen BK143.out 0); (try have hxz0_1 : w50.cell? ⟨gb143, 1, none⟩ = some (.int .i64 a1_1) := bc BK143 1); (try have hxf0_1 := blk_frozen BK143.out 1); (try have hxz1_0 : w50.cell? ⟨gb144, 0, none⟩ = some (.int .i64 a2_0) := bc BK144 0); (try have hxf1_0 := blk_frozen BK144.out 0); (try have hxz1_1 : w50.cell? ⟨gb144, 1, none⟩ = some (.int .i64 a2_1) := bc BK144 1); (try have hxf1_1 := blk_frozen BK144.out 1); (try have hxz2_0 : w50.cell? ⟨gb145, 0, none⟩ = some (.int .i64 0) := bc BK145 0); (try have hxf2_0 := blk_frozen BK145.out 0); (try have hxz2_1 : w50.cell? ⟨gb145, 1, none⟩ = some (.int .i64 0) := bc BK145 1); (try have hxf2_1 := blk_frozen BK145.out 1); (try have hxs0_1 : ∀ x_ : Value, (w50.setCell ⟨gb151, 0, none⟩ x_).cell? ⟨gb151, 1, none⟩ = some (.int .i64 0) := fun x_ => (World.cell?_setCell_other _ _ _ _ (by simp)).trans (bc BK151 1)); (try have hxs1_0 : ∀ x_ : Value, (w50.setCell ⟨gb151, 1, none⟩ x_).cell? ⟨gb151, 0, none⟩ = some (.int .i64 0) := fun x_ => (World.cell?_setCell_other _ _ _ _ (by simp)).trans (bc BK151 0))) | ((with_reducible refine gate_callee (f := 47) rfl ?_); refine goesL_ (some 18) rfl rfl Try.func47 (by kernel_rfl) rfl #[.agg #[.int .i64 t146, .int .i64 t147]] rfl mz ?_; (with_reducible refine (impl_Range_empty.calls t146 t147 true _ A6.out).mono ?_); rintro e w57 ⟨rfl, hb⟩; refine ⟨_, rfl, ?_⟩; replace BK143 := am (blk_below (g := gb143) (o := b2 a1_0 a1_1 24) (by (with_reducible repeat (first | refine blk_drewN ?_ _ | refine blk_drew ?_ | refine blk_alloc ?_ _)); refine blk_far ?_ NB143_151.out _; (with_reducible repeat (first | refine blk_drewN ?_ _ | refine blk_drew ?_ | refine blk_alloc ?_ _)); refine blk_far ?_ NB143_151.out _; (with_reducible repeat (first | refine blk_drewN ?_ _ | refine blk_drew ?_ | refine blk_alloc ?_ _)); exact BK143.out) hb); replace BK144 := am (blk_below (g := gb144) (o := b2 a2_0 a2_1 24) (by (with_reducible repeat (first | refine blk_drewN ?_ _ | refine blk_drew ?_ | refine blk_alloc ?_ _)); refine blk_far ?_ NB144_151.out _; (with_reducible repeat (first | refine blk_drewN ?_ _ | refine blk_drew ?_ | refine blk_alloc ?_ _)); refine blk_far ?_ NB144_151.out _; (with_reducible repeat (first | refine blk_drewN ?_ _ | refine blk_drew ?_ | refine blk_alloc ?_ _)); exact BK144.out) hb); replace BK145 := am (blk_below (g := gb145) (o := b2 0 0 24) (by (with_reducible repeat (first | refine blk_drewN ?_ _ | refine blk_drew ?_ | refine blk_alloc ?_ _)); refine blk_far ?_ NB145_151.out _; (with_reducible repeat (first | refine blk_drewN ?_ _ | refine blk_drew ?_ | refine blk_alloc ?_ _)); refine blk_far ?_ NB145_151.out _; (with_reducible repeat (first | refine blk_drewN ?_ _ | refine blk_drew ?_ | refine blk_alloc ?_ _)); exact BK145.out) hb); replace BK148 := am (blk_below (g := gb148) (o := b2 t146 t147 24) (by (with_reducible repeat (first | refine blk_drewN ?_ _ | refine blk_drew ?_ | refine blk_alloc ?_ _)); refine blk_far ?_ NB148_151.out _; (with_reducible repeat (first | refine blk_drewN ?_ _ | refine blk_drew ?_ | refine blk_alloc ?_ _)); refine blk_far ?_ NB148_151.out _; (with_reducible repeat (first | refine blk_drewN ?_ _ | refine blk_drew ?_ | refine blk_alloc ?_ _)); exact BK148.out) hb); replace BK151 := am (blk_below (g := gb151) (o := b2 t149 t150 24) (by (with_reducible repeat (first | refine blk_drewN ?_ _ | refine blk_drew ?_ | refine blk_alloc ?_ _)); refine blk_put (cs := #[.int .i64 t149, .int .i64 0]) ?_ 1 _ rfl; (with_reducible repeat (first | refine blk_drewN ?_ _ | refine blk_drew ?_ | refine blk_alloc ?_ _)); refine blk_put (cs := #[.int .i64 0, .int .i64 0]) ?_ 0 _ rfl; (with_reducible repeat (first | refine blk_drewN ?_ _ | refine blk_drew ?_ | refine blk_alloc ?_ _)); exact BK151.out) hb); replace HB := am (below_step (Y5 HB GE143 GE144 GE145 GE148 GE151) hb); (try clear hb); (try clear hb2); (try clear hk); (try clear hi); have hcz58_0 : w57.cell? ⟨gb148, 0, none⟩ = some (.int .i64 t146) := bc BK148 0; have hcz58_1 : w57.cell? ⟨gb148, 1, none⟩ = some (.int .i64 t147) := bc BK148 1; have hfz58_0 := blk_frozen BK148.out 0; have hfz58_1 := blk_frozen BK148.out 1; have hcz59_0 : w57.cell? ⟨gb144, 0, none⟩ = some (.int .i64 a2_0) := bc BK144 0; have hcz59_1 : w57.cell? ⟨gb144, 1, none⟩ = some (.int .i64 a2_1) := bc BK144 1; have hfz59_0 := blk_frozen BK144.out 0; have hfz59_1 := blk_frozen BK144.out 1; have hcz60_0 : w57.cell? ⟨gb151, 0, none⟩ = some (.int .i64 t149) := bc BK151 0; have hcz60_1 : w57.cell? ⟨gb151, 1, none⟩ = some (.int .i64 t150) := bc BK151 1; have hfz60_0 := blk_frozen BK151.out 0; have hfz60_1 := blk_frozen BK151.out 1; have hnb61 := NB145_143.out; have hnc61 := NB143_145.out; have hcz62_0 : w57.cell? ⟨gb145, 0, none⟩ = some (.int .i64 0) := bc BK145 0; have hcz62_1 : w57.cell? ⟨gb145, 1, none⟩ = some (.int .i64 0) := bc BK145 1; have hfz62_0 := blk_frozen BK145.out 0; have hfz62_1 := blk_frozen BK145.out 1))
   refine bodyPost_ret (results_ct rfl _ _ gb145 24 #[.int .i64 t149, .int .i64 t150] (0, 0) _ rfl (by (with_reducible repeat (first | refine blk_drewN ?_ _ | refine blk_drew ?_ | refine blk_alloc ?_ _)); refine blk_put (cs := #[.int .i64 t149, .int .i64 0]) ?_ 1 _ rfl; (with_reducible repeat (first | refine blk_drewN ?_ _ | refine blk_drew ?_ | refine blk_alloc ?_ _)); refine blk_put (cs := #[.int .i64 0, .int .i64 0]) ?_ 0 _ rfl; (with_reducible repeat (first | refine blk_drewN ?_ _ | refine blk_drew ?_ | refine blk_alloc ?_ _)); exact BK145.out) Try.underlying24 rfl (by kernel_rfl)) rfl ?_
   exact ⟨_, by first | rfl | (simp [errW_none, errW_some] <;> rfl) | (simp [*, errW_none, errW_some] <;> rfl), by first | exact Kd.R_nil _ _ _ _ _ | exact Kd.N_nil _ _ _ _ _ | exact Kd.V_nil _ _ _ _ _ | exact Kd.Q_nil _ _ _ _ _ | exact Kd.S_nil _ _ _ _ _, Y5 HB GE143 GE144 GE145 GE148 GE151⟩
 ·replace c7 := Bool.eq_false_iff.mpr c7
  subst c7
  have H1 : ((impl_rangeCorners.f k a0 a1_0 a1_1 t146 t147).bind fun bt156 => ((impl_rangeFrom.f bt156.1 bt156.2).bind fun bt158 => (if bt156.1 < (-2147483648) then (impl_rangeShift.j0 k ([] : List Int) true a2_0 a2_1 t146 t147 bt158.1 bt158.2) else (impl_rangeShift.j0 k ([] : List Int) (decide (bt156.2 > 2147483647)) a2_0 a2_1 t146 t147 bt158.1 bt158.2)))) = some (r1, r2, r3) := by rw [if_neg (show ¬ (false = true) by decide)] at H; exact H
  clear H
  have H := H1
  clear H1
  replace H := Option.bind_eq_some_iff.mp H
  obtain ⟨⟨t156, t157⟩, A630, H⟩ := H
  replace H : ((impl_rangeFrom.f t156 t157).bind fun bt158 => (if t156 < (-2147483648) then (impl_rangeShift.j0 k ([] : List Int) true a2_0 a2_1 t146 t147 bt158.1 bt158.2) else (impl_rangeShift.j0 k ([] : List Int) (decide (t157 > 2147483647)) a2_0 a2_1 t146 t147 bt158.1 bt158.2))) = some (r1, r2, r3) := H
  have A63 := am A630
  clear A630
  replace H := Option.bind_eq_some_iff.mp H
  obtain ⟨⟨t158, t159⟩, A640, H⟩ := H
  replace H : (if t156 < (-2147483648) then (impl_rangeShift.j0 k ([] : List Int) true a2_0 a2_1 t146 t147 t158 t159) else (impl_rangeShift.j0 k ([] : List Int) (decide (t157 > 2147483647)) a2_0 a2_1 t146 t147 t158 t159)) = some (r1, r2, r3) := H
  have A64 := am A640
  clear A640
  have HC65 := am H
  clear H
  go_enter Try.func52, Try.ntmps52
  go_upto_region 7 with (first | ((with_reducible refine gate_dst (N := 4) rfl ?_); refine box_event ?hg (N := 4) ?hd (cs := #[.int .i64 a1_0, .int .i64 a1_1]) (t := 24) ?hr ?_; (case hd => rfl); (case hg => rfl); (case hr => first | (go_simp; done) | (go_simp; rfl)); intro gb143 hg w66 hbox hb; have BK143 := am (hbox); have GW143 := am ((by rw [hg]; exact (below_size (Y0 HB)) : w.heap.size ≤ gb143)); have GE143 := am ((by rw [hg]; exact (below_size (Y0 HB)) : w.heap.size ≤ gb143)); replace HB := am (below_step (Y0 HB) hb); clear hb hbox hg) | ((with_reducible refine gate_dst (N := 5) rfl ?_); refine box_event ?hg (N := 5) ?hd (cs := #[.int .i64 a2_0, .int .i64 a2_1]) (t := 24) ?hr ?_; (case hd => rfl); (case hg => rfl); (case hr => first | (go_simp; done) | (go_simp; rfl)); intro gb144 hg w67 hbox hb; have BK144 := am (hbox); have GW144 := am ((by rw [hg]; exact (below_size (Y1 HB GE143)) : w.heap.size ≤ gb144)); have GE144 := am ((by rw [hg]; exact (below_size (Y1 HB GE143)) : w.heap.size ≤ gb144)); have NB143_144 := am ((nl (o := b2 a1_0 a1_1 24) hg (Z BK143) : gb143 ≠ gb144)); have NB144_143 := am ((ng (o := b2 a1_0 a1_1 24) hg (Z BK143) : gb144 ≠ gb143)); replace BK143 := am (blk_below (g := gb143) (o := b2 a1_0 a1_1 24) (Z BK143) hb); replace HB := am (below_step (Y1 HB GE143) hb); clear hb hbox hg) | ((with_reducible refine gate_dst (N := 6) rfl ?_); refine box_event ?hg (N := 6) ?hd (cs := #[.int .i64 0, .int .i64 0]) (t := 24) ?hr ?_; (case hd => rfl); (case hg => rfl); (case hr => first | (go_simp; done) | (go_simp; rfl)); intro gb145 hg w68 hbox hb; have BK145 := am (hbox); have GW145 := am ((by rw [hg]; exact (below_size (Y2 HB GE143 GE144)) : w.heap.size ≤ gb145)); have GE145 := am ((by rw [hg]; exact (below_size (Y2 HB GE143 GE144)) : w.heap.size ≤ gb145)); have NB143_145 := am ((nl (o := b2 a1_0 a1_1 24) hg (Z BK143) : gb143 ≠ gb145)); have NB145_143 := am ((ng (o := b2 a1_0 a1_1 24) hg (Z BK143) : gb145 ≠ gb143)); have NB144_145 := am ((nl (o := b2 a2_0 a2_1 24) hg (Z BK144) : gb144 ≠ gb145)); have NB145_144 := am ((ng (o := b2 a2_0 a2_1 24) hg (Z BK144) : gb145 ≠ gb144)); replace BK143 := am (blk_below (g := gb143) (o := b2 a1_0 a1_1 24) (Z BK143) hb); replace BK144 := am (blk_below (g := gb144) (o := b2 a2_0 a2_1 24) (Z BK144) hb); replace HB := am (below_step (Y2 HB GE143 GE144) hb); clear hb hbox hg; have hnb69 := NB144_143.out; have hnc69 := NB143_144.out; have hnb70 := NB144_145.out; have hnc70 := NB145_144.out; have hcz71_0 : w68.cell? ⟨gb144, 0, none⟩ = some (.int .i64 a2_0) := bc BK144 0; have hcz71_1 : w68.cell? ⟨gb144, 1, none⟩ = some (.int .i64 a2_1) := bc BK144 1; have hfz71_0 := blk_frozen BK144.out 0; have hfz71_1 := blk_frozen BK144.out 1) | ((with_reducible refine gate_callee (f := 93) rfl ?_); refine goesL_ (some 15) rfl rfl Try.func93 (by kernel_rfl) rfl #[.agg #[.int .i64 a2_0, .int .i64 a2_1], .agg #[.int .i64 0, .int .i64 31]] rfl mz ?_; (with_reducible refine (impl_RangeMeet.calls k a2_0 a2_1 0 31 t146 t147 _ A4.out).mono ?_); rintro e w72 ⟨rfl, hb⟩; refine ⟨_, rfl, ?_⟩; replace BK143 := am (blk_below (g := gb143) (o := b2 a1_0 a1_1 24) (Z BK143) hb); replace BK144 := am (blk_below (g := gb144) (o := b2 a2_0 a2_1 24) (Z BK144) hb); replace BK145 := am (blk_below (g := gb145) (o := b2 0 0 24) (Z BK145) hb); replace HB := am (below_step (Y3 HB GE143 GE144 GE145) hb); (try clear hb); (try clear hb2); (try clear hk); (try clear hi)) | ((with_reducible refine gate_dst (N := 8) rfl ?_); refine box_event ?hg (N := 8) ?hd (cs := #[.int .i64 0, .int .i64 0]) (t := 24) ?hr ?_; (case hd => rfl); (case hg => rfl); (case hr => first | (go_simp; done) | (go_simp; rfl)); intro gb148 hg w73 hbox hb; have BK148 := am (hbox); have GW148 := am ((by rw [hg]; exact (below_size (Y3 HB GE143 GE144 GE145)) : w.heap.size ≤ gb148)); have GE148 := am ((by rw [hg]; exact (below_size (Y3 HB GE143 GE144 GE145)) : w.heap.size ≤ gb148)); have NB143_148 := am ((nl (o := b2 a1_0 a1_1 24) hg (Z BK143) : gb143 ≠ gb148)); have NB148_143 := am ((ng (o := b2 a1_0 a1_1 24) hg (Z BK143) : gb148 ≠ gb143)); have NB144_148 := am ((nl (o := b2 a2_0 a2_1 24) hg (Z BK144) : gb144 ≠ gb148)); have NB148_144 := am ((ng (o := b2 a2_0 a2_1 24) hg (Z BK144) : gb148 ≠ gb144)); have NB145_148 := am ((nl (o := b2 0 0 24) hg (Z BK145) : gb145 ≠ gb148)); have NB148_145 := am ((ng (o := b2 0 0 24) hg (Z BK145) : gb148 ≠ gb145)); replace BK143 := am (blk_below (g := gb143) (o := b2 a1_0 a1_1 24) (Z BK143) hb); replace BK144 := am (blk_below (g := gb144) (o := b2 a2_0 a2_1 24) (Z BK144) hb); replace BK145 := am (blk_below (g := gb145) (o := b2 0 0 24) (Z BK145) hb); replace HB := am (below_step (Y3 HB GE143 GE144 GE145) hb); clear hb hbox hg; have hnb74 := NB148_143.out; have hnc74 := NB143_148.out; have hnb75 := NB148_144.out; have hnc75 := NB144_148.out; have hnb76 := NB148_145.out; have hnc76 := NB145_148.out; have hcz77_0 : w73.cell? ⟨gb148, 0, none⟩ = some (.int .i64 0) := bc BK148 0; have hcz77_1 : w73.cell? ⟨gb148, 1, none⟩ = some (.int .i64 0) := bc BK148 1; have hfz77_0 := blk_frozen BK148.out 0; have hfz77_1 := blk_frozen BK148.out 1) | ((with_reducible refine gate_callee (f := 48) rfl ?_); refine goesL_ (some 16) rfl rfl Try.func48 (by kernel_rfl) rfl #[] rfl mz ?_; (with_reducible refine (impl_rangeNone.calls  t149 t150 _ A5.out).mono ?_); rintro e w78 ⟨rfl, hb⟩; refine ⟨_, rfl, ?_⟩; replace BK143 := am (blk_below (g := gb143) (o := b2 a1_0 a1_1 24) (by (with_reducible repeat (first | refine blk_drewN ?_ _ | refine blk_drew ?_ | refine blk_alloc ?_ _)); refine blk_far ?_ NB143_148.out _; (with_reducible repeat (first | refine blk_drewN ?_ _ | refine blk_drew ?_ | refine blk_alloc ?_ _)); refine blk_far ?_ NB143_148.out _; (with_reducible repeat (first | refine blk_drewN ?_ _ | refine blk_drew ?_ | refine blk_alloc ?_ _)); exact BK143.out) hb); replace BK144 := am (blk_below (g := gb144) (o := b2 a2_0 a2_1 24) (by (with_reducible repeat (first | refine blk_drewN ?_ _ | refine blk_drew ?_ | refine blk_alloc ?_ _)); refine blk_far ?_ NB144_148.out _; (with_reducible repeat (first | refine blk_drewN ?_ _ | refine blk_drew ?_ | refine blk_alloc ?_ _)); refine blk_far ?_ NB144_148.out _; (with_reducible repeat (first | refine blk_drewN ?_ _ | refine blk_drew ?_ | refine blk_alloc ?_ _)); exact BK144.out) hb); replace BK145 := am (blk_below (g := gb145) (o := b2 0 0 24) (by (with_reducible repeat (first | refine blk_drewN ?_ _ | refine blk_drew ?_ | refine blk_alloc ?_ _)); refine blk_far ?_ NB145_148.out _; (with_reducible repeat (first | refine blk_drewN ?_ _ | refine blk_drew ?_ | refine blk_alloc ?_ _)); refine blk_far ?_ NB145_148.out _; (with_reducible repeat (first | refine blk_drewN ?_ _ | refine blk_drew ?_ | refine blk_alloc ?_ _)); exact BK145.out) hb); replace BK148 := am (blk_below (g := gb148) (o := b2 t146 t147 24) (by (with_reducible repeat (first | refine blk_drewN ?_ _ | refine blk_drew ?_ | refine blk_alloc ?_ _)); refine blk_put (cs := #[.int .i64 t146, .int .i64 0]) ?_ 1 _ rfl; (with_reducible repeat (first | refine blk_drewN ?_ _ | refine blk_drew ?_ | refine blk_alloc ?_ _)); refine blk_put (cs := #[.int .i64 0, .int .i64 0]) ?_ 0 _ rfl; (with_reducible repeat (first | refine blk_drewN ?_ _ | refine blk_drew ?_ | refine blk_alloc ?_ _)); exact BK148.out) hb); replace HB := am (below_step (Y4 HB GE143 GE144 GE145 GE148) hb); (try clear hb); (try clear hb2); (try clear hk); (try clear hi)) | ((with_reducible refine gate_dst (N := 9) rfl ?_); refine box_event ?hg (N := 9) ?hd (cs := #[.int .i64 0, .int .i64 0]) (t := 24) ?hr ?_; (case hd => rfl); (case hg => rfl); (case hr => first | (go_simp; done) | (go_simp; rfl)); intro gb151 hg w79 hbox hb; have BK151 := am (hbox); have GW151 := am ((by rw [hg]; exact (below_size (Y4 HB GE143 GE144 GE145 GE148)) : w.heap.size ≤ gb151)); have GE151 := am ((by rw [hg]; exact (below_size (Y4 HB GE143 GE144 GE145 GE148)) : w.heap.size ≤ gb151)); have NB143_151 := am ((nl (o := b2 a1_0 a1_1 24) hg (Z BK143) : gb143 ≠ gb151)); have NB151_143 := am ((ng (o := b2 a1_0 a1_1 24) hg (Z BK143) : gb151 ≠ gb143)); have NB144_151 := am ((nl (o := b2 a2_0 a2_1 24) hg (Z BK144) : gb144 ≠ gb151)); have NB151_144 := am ((ng (o := b2 a2_0 a2_1 24) hg (Z BK144) : gb151 ≠ gb144)); have NB145_151 := am ((nl (o := b2 0 0 24) hg (Z BK145) : gb145 ≠ gb151)); have NB151_145 := am ((ng (o := b2 0 0 24) hg (Z BK145) : gb151 ≠ gb145)); have NB148_151 := am ((nl (o := b2 t146 t147 24) hg (Z BK148) : gb148 ≠ gb151)); have NB151_148 := am ((ng (o := b2 t146 t147 24) hg (Z BK148) : gb151 ≠ gb148)); replace BK143 := am (blk_below (g := gb143) (o := b2 a1_0 a1_1 24) (Z BK143) hb); replace BK144 := am (blk_below (g := gb144) (o := b2 a2_0 a2_1 24) (Z BK144) hb); replace BK145 := am (blk_below (g := gb145) (o := b2 0 0 24) (Z BK145) hb); replace BK148 := am (blk_below (g := gb148) (o := b2 t146 t147 24) (Z BK148) hb); replace HB := am (below_step (Y4 HB GE143 GE144 GE145 GE148) hb); clear hb hbox hg; have hnb80 := NB151_143.out; have hnc80 := NB143_151.out; have hnb81 := NB151_144.out; have hnc81 := NB144_151.out; have hnb82 := NB151_145.out; have hnc82 := NB145_151.out; have hnb83 := NB151_148.out; have hnc83 := NB148_151.out; have hcz84_0 : w79.cell? ⟨gb151, 0, none⟩ = some (.int .i64 0) := bc BK151 0; have hcz84_1 : w79.cell? ⟨gb151, 1, none⟩ = some (.int .i64 0) := bc BK151 1; have hfz84_0 := blk_frozen BK151.out 0; have hfz84_1 := blk_frozen BK151.out 1; have hcz85_0 : w79.cell? ⟨gb148, 0, none⟩ = some (.int .i64 t146) := bc BK148 0; have hcz85_1 : w79.cell? ⟨gb148, 1, none⟩ = some (.int .i64 t147) := bc BK148 1; have hfz85_0 := blk_frozen BK148.out 0; have hfz85_1 := blk_frozen BK148.out 1) | ((with_reducible refine gate_callee (f := 47) rfl ?_); refine goesL_ (some 18) rfl rfl Try.func47 (by kernel_rfl) rfl #[.agg #[.int .i64 t146, .int .i64 t147]] rfl mz ?_; (with_reducible refine (impl_Range_empty.calls t146 t147 false _ A6.out).mono ?_); rintro e w86 ⟨rfl, hb⟩; refine ⟨_, rfl, ?_⟩; replace BK143 := am (blk_below (g := gb143) (o := b2 a1_0 a1_1 24) (by (with_reducible repeat (first | refine blk_drewN ?_ _ | refine blk_drew ?_ | refine blk_alloc ?_ _)); refine blk_far ?_ NB143_151.out _; (with_reducible repeat (first | refine blk_drewN ?_ _ | refine blk_drew ?_ | refine blk_alloc ?_ _)); refine blk_far ?_ NB143_151.out _; (with_reducible repeat (first | refine blk_drewN ?_ _ | refine blk_drew ?_ | refine blk_alloc ?_ _)); exact BK143.out) hb); replace BK144 := am (blk_below (g := gb144) (o := b2 a2_0 a2_1 24) (by (with_reducible repeat (first | refine blk_drewN ?_ _ | refine blk_drew ?_ | refine blk_alloc ?_ _)); refine blk_far ?_ NB144_151.out _; (with_reducible repeat (first | refine blk_drewN ?_ _ | refine blk_drew ?_ | refine blk_alloc ?_ _)); refine blk_far ?_ NB144_151.out _; (with_reducible repeat (first | refine blk_drewN ?_ _ | refine blk_drew ?_ | refine blk_alloc ?_ _)); exact BK144.out) hb); replace BK145 := am (blk_below (g := gb145) (o := b2 0 0 24) (by (with_reducible repeat (first | refine blk_drewN ?_ _ | refine blk_drew ?_ | refine blk_alloc ?_ _)); refine blk_far ?_ NB145_151.out _; (with_reducible repeat (first | refine blk_drewN ?_ _ | refine blk_drew ?_ | refine blk_alloc ?_ _)); refine blk_far ?_ NB145_151.out _; (with_reducible repeat (first | refine blk_drewN ?_ _ | refine blk_drew ?_ | refine blk_alloc ?_ _)); exact BK145.out) hb); replace BK148 := am (blk_below (g := gb148) (o := b2 t146 t147 24) (by (with_reducible repeat (first | refine blk_drewN ?_ _ | refine blk_drew ?_ | refine blk_alloc ?_ _)); refine blk_far ?_ NB148_151.out _; (with_reducible repeat (first | refine blk_drewN ?_ _ | refine blk_drew ?_ | refine blk_alloc ?_ _)); refine blk_far ?_ NB148_151.out _; (with_reducible repeat (first | refine blk_drewN ?_ _ | refine blk_drew ?_ | refine blk_alloc ?_ _)); exact BK148.out) hb); replace BK151 := am (blk_below (g := gb151) (o := b2 t149 t150 24) (by (with_reducible repeat (first | refine blk_drewN ?_ _ | refine blk_drew ?_ | refine blk_alloc ?_ _)); refine blk_put (cs := #[.int .i64 t149, .int .i64 0]) ?_ 1 _ rfl; (with_reducible repeat (first | refine blk_drewN ?_ _ | refine blk_drew ?_ | refine blk_alloc ?_ _)); refine blk_put (cs := #[.int .i64 0, .int .i64 0]) ?_ 0 _ rfl; (with_reducible repeat (first | refine blk_drewN ?_ _ | refine blk_drew ?_ | refine blk_alloc ?_ _)); exact BK151.out) hb); replace HB := am (below_step (Y5 HB GE143 GE144 GE145 GE148 GE151) hb); (try clear hb); (try clear hb2); (try clear hk); (try clear hi); have hnb87 := NB143_145.out; have hnc87 := NB145_143.out; have hcz88_0 : w86.cell? ⟨gb143, 0, none⟩ = some (.int .i64 a1_0) := bc BK143 0; have hcz88_1 : w86.cell? ⟨gb143, 1, none⟩ = some (.int .i64 a1_1) := bc BK143 1; have hfz88_0 := blk_frozen BK143.out 0; have hfz88_1 := blk_frozen BK143.out 1; have hcz89_0 : w86.cell? ⟨gb148, 0, none⟩ = some (.int .i64 t146) := bc BK148 0; have hcz89_1 : w86.cell? ⟨gb148, 1, none⟩ = some (.int .i64 t147) := bc BK148 1; have hfz89_0 := blk_frozen BK148.out 0; have hfz89_1 := blk_frozen BK148.out 1) | ((with_reducible refine gate_callee (f := 49) rfl ?_); refine goesL_ (some 24) rfl rfl Try.func49 (by kernel_rfl) rfl #[.int .i64 a0, .agg #[.int .i64 a1_0, .int .i64 a1_1], .agg #[.int .i64 t146, .int .i64 t147]] rfl mz ?_; (with_reducible refine (impl_rangeCorners.calls k a0 a1_0 a1_1 t146 t147 t156 t157 _ A63.out).mono ?_); rintro e w90 ⟨rfl, hb⟩; refine ⟨_, rfl, ?_⟩; replace BK143 := am (blk_below (g := gb143) (o := b2 a1_0 a1_1 24) (Z BK143) hb); replace BK144 := am (blk_below (g := gb144) (o := b2 a2_0 a2_1 24) (Z BK144) hb); replace BK145 := am (blk_below (g := gb145) (o := b2 0 0 24) (Z BK145) hb); replace BK148 := am (blk_below (g := gb148) (o := b2 t146 t147 24) (Z BK148) hb); replace BK151 := am (blk_below (g := gb151) (o := b2 t149 t150 24) (Z BK151) hb); replace HB := am (below_step (Y5 HB GE143 GE144 GE145 GE148 GE151) hb); (try clear hb); (try clear hb2); (try clear hk); (try clear hi)) | ((with_reducible refine gate_callee (f := 50) rfl ?_); refine goesL_ (some 29) rfl rfl Try.func50 (by kernel_rfl) rfl #[.int .i64 t156, .int .i64 t157] rfl mz ?_; (with_reducible refine (impl_rangeFrom.calls t156 t157 t158 t159 _ A64.out).mono ?_); rintro e w91 ⟨rfl, hb⟩; refine ⟨_, rfl, ?_⟩; replace BK143 := am (blk_below (g := gb143) (o := b2 a1_0 a1_1 24) (Z BK143) hb); replace BK144 := am (blk_below (g := gb144) (o := b2 a2_0 a2_1 24) (Z BK144) hb); replace BK145 := am (blk_below (g := gb145) (o := b2 0 0 24) (Z BK145) hb); replace BK148 := am (blk_below (g := gb148) (o := b2 t146 t147 24) (Z BK148) hb); replace BK151 := am (blk_below (g := gb151) (o := b2 t149 t150 24) (Z BK151) hb); replace HB := am (below_step (Y5 HB GE143 GE144 GE145 GE148 GE151) hb); (try clear hb); (try clear hb2); (try clear hk); (try clear hi); have hcz92_0 : w91.cell? ⟨gb151, 0, none⟩ = some (.int .i64 t149) := bc BK151 0; have hcz92_1 : w91.cell? ⟨gb151, 1, none⟩ = some (.int .i64 t150) := bc BK151 1; have hfz92_0 := blk_frozen BK151.out 0; have hfz92_1 := blk_frozen BK151.out 1))
  (try simp only [Act.put, List.setIfInBounds_toArray, List.set_cons_zero, List.set_cons_succ])
  go_cut [35] (fun v35 wc => ∃ (kq : Nat) (x35_64 : Bool), v35 = .bool x35_64 ∧ Aside0 (impl_rangeShift.j0 kq ([] : List Int) x35_64 a2_0 a2_1 t146 t147 t158 t159 = some (r1, r2, r3)) ∧ Aside0 (kq ≤ k) ∧ Aside0 (Kd.R (Kd.int .i64) 3 wc w.heap.size (fun _ => True) (.slice none 0 0) ([] : List Int)) ∧ Aside0 (wc.heap[gb143]? = some (.cells #[.int .i64 a1_0, .int .i64 a1_1] 24 (0, 0))) ∧ Aside0 (wc.heap[gb144]? = some (.cells #[.int .i64 a2_0, .int .i64 a2_1] 24 (0, 0))) ∧ Aside0 (wc.heap[gb145]? = some (.cells #[.int .i64 0, .int .i64 0] 24 (0, 0))) ∧ Aside0 (wc.heap[gb148]? = some (.cells #[.int .i64 t146, .int .i64 t147] 24 (0, 0))) ∧ Aside0 (wc.heap[gb151]? = some (.cells #[.int .i64 t158, .int .i64 t159] 24 (0, 0))) ∧ Aside0 (Below w.heap.size w wc))
  case first =>
   have H := HC65.out
   clear HC65
   by_cases c93 : t156 < (-2147483648)
   ·rw [if_pos c93] at H
    have c93b0 : decide (t156 < (-2147483648)) = true := decide_eq_true c93
    clear c93
    (first | rw [c93b0] | (simp only [i64_w, i32_w]; rw [c93b0]) | skip)
    have H' := am H
    clear H
    go_wp2
    go_meet
    case rel => exact ⟨_, (true), (by first | rfl | (simp; done) | (simp [*]; done)), H', ⟨by first | omega | exact Nat.le_refl _⟩, ⟨by first | exact Kd.R_nil _ _ _ _ _ | exact Kd.N_nil _ _ _ _ _ | exact Kd.V_nil _ _ _ _ _ | exact Kd.Q_nil _ _ _ _ _ | exact Kd.S_nil _ _ _ _ _⟩, ⟨by (with_reducible repeat (first | refine blk_drewN ?_ _ | refine blk_drew ?_ | refine blk_alloc ?_ _)); refine blk_far ?_ NB143_151.out _; (with_reducible repeat (first | refine blk_drewN ?_ _ | refine blk_drew ?_ | refine blk_alloc ?_ _)); refine blk_far ?_ NB143_151.out _; (with_reducible repeat (first | refine blk_drewN ?_ _ | refine blk_drew ?_ | refine blk_alloc ?_ _)); exact BK143.out⟩, ⟨by (with_reducible repeat (first | refine blk_drewN ?_ _ | refine blk_drew ?_ | refine blk_alloc ?_ _)); refine blk_far ?_ NB144_151.out _; (with_reducible repeat (first | refine blk_drewN ?_ _ | refine blk_drew ?_ | refine blk_alloc ?_ _)); refine blk_far ?_ NB144_151.out _; (with_reducible repeat (first | refine blk_drewN ?_ _ | refine blk_drew ?_ | refine blk_alloc ?_ _)); exact BK144.out⟩, ⟨by (with_reducible repeat (first | refine blk_drewN ?_ _ | refine blk_drew ?_ | refine blk_alloc ?_ _)); refine blk_far ?_ NB145_151.out _; (with_reducible repeat (first | refine blk_drewN ?_ _ | refine blk_drew ?_ | refine blk_alloc ?_ _)); refine blk_far ?_ NB145_151.out _; (with_reducible repeat (first | refine blk_drewN ?_ _ | refine blk_drew ?_ | refine blk_alloc ?_ _)); exact BK145.out⟩, ⟨by (with_reducible repeat (first | refine blk_drewN ?_ _ | refine blk_drew ?_ | refine blk_alloc ?_ _)); refine blk_far ?_ NB148_151.out _; (with_reducible repeat (first | refine blk_drewN ?_ _ | refine blk_drew ?_ | refine blk_alloc ?_ _)); refine blk_far ?_ NB148_151.out _; (with_reducible repeat (first | refine blk_drewN ?_ _ | refine blk_drew ?_ | refine blk_alloc ?_ _)); exact BK148.out⟩, ⟨by (with_reducible repeat (first | refine blk_drewN ?_ _ | refine blk_drew ?_ | refine blk_alloc ?_ _)); refine blk_put (cs := #[.int .i64 t158, .int .i64 t150]) ?_ 1 _ rfl; (with_reducible repeat (first | refine blk_drewN ?_ _ | refine blk_drew ?_ | refine blk_alloc ?_ _)); refine blk_put (cs := #[.int .i64 t149, .int .i64 t150]) ?_ 0 _ rfl; (with_reducible repeat (first | refine blk_drewN ?_ _ | refine blk_drew ?_ | refine blk_alloc ?_ _)); exact BK151.out⟩, ⟨Y5 HB GE143 GE144 GE145 GE148 GE151⟩⟩
   ·rw [if_neg c93] at H
    have c93b0 : decide (t156 < (-2147483648)) = false := decide_eq_false c93
    clear c93
    (first | rw [c93b0] | (simp only [i64_w, i32_w]; rw [c93b0]) | skip)
    have H' := am H
    clear H
    go_wp2
    go_meet
    case rel => exact ⟨_, (decide (t157 > 2147483647)), (by first | rfl | (simp; done) | (simp [*]; done)), H', ⟨by first | omega | exact Nat.le_refl _⟩, ⟨by first | exact Kd.R_nil _ _ _ _ _ | exact Kd.N_nil _ _ _ _ _ | exact Kd.V_nil _ _ _ _ _ | exact Kd.Q_nil _ _ _ _ _ | exact Kd.S_nil _ _ _ _ _⟩, ⟨by (with_reducible repeat (first | refine blk_drewN ?_ _ | refine blk_drew ?_ | refine blk_alloc ?_ _)); refine blk_far ?_ NB143_151.out _; (with_reducible repeat (first | refine blk_drewN ?_ _ | refine blk_drew ?_ | refine blk_alloc ?_ _)); refine blk_far ?_ NB143_151.out _; (with_reducible repeat (first | refine blk_drewN ?_ _ | refine blk_drew ?_ | refine blk_alloc ?_ _)); exact BK143.out⟩, ⟨by (with_reducible repeat (first | refine blk_drewN ?_ _ | refine blk_drew ?_ | refine blk_alloc ?_ _)); refine blk_far ?_ NB144_151.out _; (with_reducible repeat (first | refine blk_drewN ?_ _ | refine blk_drew ?_ | refine blk_alloc ?_ _)); refine blk_far ?_ NB144_151.out _; (with_reducible repeat (first | refine blk_drewN ?_ _ | refine blk_drew ?_ | refine blk_alloc ?_ _)); exact BK144.out⟩, ⟨by (with_reducible repeat (first | refine blk_drewN ?_ _ | refine blk_drew ?_ | refine blk_alloc ?_ _)); refine blk_far ?_ NB145_151.out _; (with_reducible repeat (first | refine blk_drewN ?_ _ | refine blk_drew ?_ | refine blk_alloc ?_ _)); refine blk_far ?_ NB145_151.out _; (with_reducible repeat (first | refine blk_drewN ?_ _ | refine blk_drew ?_ | refine blk_alloc ?_ _)); exact BK145.out⟩, ⟨by (with_reducible repeat (first | refine blk_drewN ?_ _ | refine blk_drew ?_ | refine blk_alloc ?_ _)); refine blk_far ?_ NB148_151.out _; (with_reducible repeat (first | refine blk_drewN ?_ _ | refine blk_drew ?_ | refine blk_alloc ?_ _)); refine blk_far ?_ NB148_151.out _; (with_reducible repeat (first | refine blk_drewN ?_ _ | refine blk_drew ?_ | refine blk_alloc ?_ _)); exact BK148.out⟩, ⟨by (with_reducible repeat (first | refine blk_drewN ?_ _ | refine blk_drew ?_ | refine blk_alloc ?_ _)); refine blk_put (cs := #[.int .i64 t158, .int .i64 t150]) ?_ 1 _ rfl; (with_reducible repeat (first | refine blk_drewN ?_ _ | refine blk_drew ?_ | refine blk_alloc ?_ _)); refine blk_put (cs := #[.int .i64 t149, .int .i64 t150]) ?_ 0 _ rfl; (with_reducible repeat (first | refine blk_drewN ?_ _ | refine blk_drew ?_ | refine blk_alloc ?_ _)); exact BK151.out⟩, ⟨Y5 HB GE143 GE144 GE145 GE148 GE151⟩⟩
  case rest =>
   clear HC65
   try clear c1
   try clear c2
   try clear p2
   try clear c3
   try clear c4
   try clear c5
   try clear c6
   try clear c7
   try clear c8
   try clear c8b0
   try clear c9
   try clear c13
   try clear c14
   try clear c18
   try clear c19
   try clear c20
   try clear c24
   try clear c25
   try clear c26
   try clear c27
   try clear c35
   try clear c40
   try clear c41
   try clear c45
   try clear c46
   try clear c47
   try clear c48
   try clear c49
   try clear c50
   try clear c51
   try clear c52
   try clear c53
   try clear c54
   try clear c61
   try clear c69
   try clear c70
   try clear c74
   try clear c75
   try clear c76
   try clear c80
   try clear c81
   try clear c82
   try clear c83
   try clear c87
   try clear c93
   try clear c93b0
   try clear hcz15_0
   try clear hcz15_1
   try clear hcz21_0
   try clear hcz21_1
   try clear hcz28_0
   try clear hcz28_1
   try clear hcz29_0
   try clear hcz29_1
   try clear hcz31_0
   try clear hcz31_1
   try clear hcz32_0
   try clear hcz32_1
   try clear hcz34_0
   try clear hcz34_1
   try clear hcz36_0
   try clear hcz36_1
   try clear hcz42_0
   try clear hcz42_1
   try clear hcz48_0
   try clear hcz48_1
   try clear hcz55_0
   try clear hcz55_1
   try clear hcz56_0
   try clear hcz56_1
   try clear hcz58_0
   try clear hcz58_1
   try clear hcz59_0
   try clear hcz59_1
   try clear hcz60_0
   try clear hcz60_1
   try clear hcz62_0
   try clear hcz62_1
   try clear hcz71_0
   try clear hcz71_1
   try clear hcz77_0
   try clear hcz77_1
   try clear hcz84_0
   try clear hcz84_1
   try clear hcz85_0
   try clear hcz85_1
   try clear hcz88_0
   try clear hcz88_1
   try clear hcz89_0
   try clear hcz89_1
   try clear hcz92_0
   try clear hcz92_1
   try clear hfz15_0
   try clear hfz15_1
   try clear hfz21_0
   try clear hfz21_1
   try clear hfz28_0
   try clear hfz28_1
   try clear hfz29_0
   try clear hfz29_1
   try clear hfz31_0
   try clear hfz31_1
   try clear hfz32_0
   try clear hfz32_1
   try clear hfz34_0
   try clear hfz34_1
   try clear hfz36_0
   try clear hfz36_1
   try clear hfz42_0
   try clear hfz42_1
   try clear hfz48_0
   try clear hfz48_1
   try clear hfz55_0
   try clear hfz55_1
   try clear hfz56_0
   try clear hfz56_1
   try clear hfz58_0
   try clear hfz58_1
   try clear hfz59_0
   try clear hfz59_1
   try clear hfz60_0
   try clear hfz60_1
   try clear hfz62_0
   try clear hfz62_1
   try clear hfz71_0
   try clear hfz71_1
   try clear hfz77_0
   try clear hfz77_1
   try clear hfz84_0
   try clear hfz84_1
   try clear hfz85_0
   try clear hfz85_1
   try clear hfz88_0
   try clear hfz88_1
   try clear hfz89_0
   try clear hfz89_1
   try clear hfz92_0
   try clear hfz92_1
   obtain ⟨kq, x35_64, rfl, HA, HJ64, HO_10, BK143, BK144, BK145, BK148, BK151, HB⟩ := hcut
   cases kq with
   | zero => exact absurd HA.out (by simp [impl_rangeShift.j0])
   | succ kj64 =>
    have H := HA.out
    clear HA
    simp only [impl_rangeShift.j0] at H
    by_cases c94 : x35_64 = true
    ·subst c94
     have H1 : (if ([] : List Int).length < 17592186044416 then ((some (([] : List Int) ++ [1] : List Int)).bind fun y160 => (if (!(t146 == a2_0) || (!(t147 == a2_1))) = true then (if y160.length < 17592186044416 then (some (t158, t159, (y160 ++ [3]))) else (none)) else (some (t158, t159, y160)))) else (none)) = some (r1, r2, r3) := by rw [if_pos rfl] at H; exact H
     clear H
     have H := H1
     clear H1
     by_cases c95 : ([] : List Int).length < 17592186044416
     ·rw [if_pos c95] at H
      have LMc95 := am c95
      clear c95
      obtain ⟨y160, hy160⟩ : ∃ y_ : List Int, y_ = (([] : List Int) ++ [1]) := ⟨_, rfl⟩
      replace H : (if (!(t146 == a2_0) || (!(t147 == a2_1))) = true then (if y160.length < 17592186044416 then (some (t158, t159, (y160 ++ [3]))) else (none)) else (some (t158, t159, y160))) = some (r1, r2, r3) := by first | (rw [hy160]; with_reducible exact H) | (have H2_ := (Option.bind_some _ _).symm.trans H; rw [hy160]; with_reducible exact H2_) | (have H2_ := (Option.bind_some _ _).symm.trans H; with_reducible exact H2_) | with_reducible exact H | (rw [hy160]; exact H) | exact H
      have Ny160 := am hy160
      clear hy160
      by_cases c96 : (!(t146 == a2_0) || (!(t147 == a2_1))) = true
      ·rw [if_pos c96] at H
       have c96b0 : (!(t146 == a2_0) || (!(t147 == a2_1))) = true := c96
       clear c96
       by_cases c97 : y160.length < 17592186044416
       ·rw [if_pos c97] at H
        have LMc97 := am c97
        clear c97
        obtain ⟨y163, hy163⟩ : ∃ y_ : List Int, y_ = (y160 ++ [3]) := ⟨_, rfl⟩
        replace H : (some (t158, t159, y163)) = some (r1, r2, r3) := by first | (rw [hy163]; with_reducible exact H) | (have H2_ := (Option.bind_some _ _).symm.trans H; rw [hy163]; with_reducible exact H2_) | (have H2_ := (Option.bind_some _ _).symm.trans H; with_reducible exact H2_) | with_reducible exact H | (rw [hy163]; exact H) | exact H
        have Ny163 := am hy163
        clear hy163
        simp only [Option.some.injEq, Prod.mk.injEq] at H
        obtain ⟨rfl, rfl, rfl⟩ := H
        go_wp2_with (first | ((with_reducible refine gate_builtin (b := .append) (xs := #[.tmp 36, .tmp 37]) rfl ?_); at_builtin; refine Kd.R_append (Kd.int .i64) (w0 := w) w.heap.size rfl (.tmp 36) (.tmp 37) 25 3 (.int .i64 0) 8 rfl Try.underlying25 info3 rfl (by decide) (by omega) (.slice none 0 0) ([] : List Int) 1 [.int .i64 1] (fun _ => True) (fun _ => False) rfl rfl ?aP (fun _ hk => hk.elim) ?aF ?aO ?aB ?aS ?aL ?_; (case aP => exact rfl); (case aB => exact (Y5 HB GE143 GE144 GE145 GE148 GE151)); (case aF => exact (fun _ _ => trivial)); (case aO => exact (by (with_reducible repeat (first | apply Kd.R_alloc | apply Kd.R_drewN | apply Kd.R_drew)); exact HO_10.out)); (case aS => exact (below_size (Y5 HB GE143 GE144 GE145 GE148 GE151))); (case aL => have := LMc95.out; omega); intro v161 w98 ho hb hg hat; rw [← Ny160.out] at ho; have HO162 := am (ho); replace BK143 := am (blk_grown (g := gb143) (o := b2 a1_0 a1_1 24) (Z BK143) hg (Kd.R_ne HO_10.out BK143.out (by decide))); replace BK144 := am (blk_grown (g := gb144) (o := b2 a2_0 a2_1 24) (Z BK144) hg (Kd.R_ne HO_10.out BK144.out (by decide))); replace BK145 := am (blk_grown (g := gb145) (o := b2 0 0 24) (Z BK145) hg (Kd.R_ne HO_10.out BK145.out (by decide))); replace BK148 := am (blk_grown (g := gb148) (o := b2 t146 t147 24) (Z BK148) hg (Kd.R_ne HO_10.out BK148.out (by decide))); replace BK151 := am (blk_grown (g := gb151) (o := b2 t158 t159 24) (Z BK151) hg (Kd.R_ne HO_10.out BK151.out (by decide))); replace HB := am (hb); clear HO_10; clear ho hb hg hat; have hnb99 := NB148_143.out; have hnc99 := NB143_148.out; have hnb100 := NB148_144.out; have hnc100 := NB144_148.out; have hnb101 := NB148_145.out; have hnc101 := NB145_148.out; have hnb102 := NB148_151.out; have hnc102 := NB151_148.out; have hcz103_0 : w98.cell? ⟨gb148, 0, none⟩ = some (.int .i64 t146) := bc BK148 0; have hcz103_1 : w98.cell? ⟨gb148, 1, none⟩ = some (.int .i64 t147) := bc BK148 1; have hfz103_0 := blk_frozen BK148.out 0; have hfz103_1 := blk_frozen BK148.out 1; have hnb104 := NB144_143.out; have hnc104 := NB143_144.out; have hnb105 := NB144_145.out; have hnc105 := NB145_144.out; have hnb106 := NB144_151.out; have hnc106 := NB151_144.out; have hcz107_0 : w98.cell? ⟨gb144, 0, none⟩ = some (.int .i64 a2_0) := bc BK144 0; have hcz107_1 : w98.cell? ⟨gb144, 1, none⟩ = some (.int .i64 a2_1) := bc BK144 1; have hfz107_0 := blk_frozen BK144.out 0; have hfz107_1 := blk_frozen BK144.out 1) | ((with_reducible refine gate_builtin (b := .append) (xs := #[.tmp 42, .tmp 43]) rfl ?_); at_builtin; refine Kd.R_append (Kd.int .i64) (w0 := w) w.heap.size rfl (.tmp 42) (.tmp 43) 25 3 (.int .i64 0) 8 rfl Try.underlying25 info3 rfl (by decide) (by omega) v161 y160 3 [.int .i64 3] (fun _ => True) (fun _ => False) rfl rfl ?aP (fun _ hk => hk.elim) ?aF ?aO ?aB ?aS ?aL ?_; (case aP => exact rfl); (case aB => exact (Y5 HB GE143 GE144 GE145 GE148 GE151)); (case aF => exact (fun _ _ => trivial)); (case aO => exact (by (with_reducible repeat (first | apply Kd.R_alloc | apply Kd.R_drewN | apply Kd.R_drew)); exact HO162.out)); (case aS => exact (below_size (Y5 HB GE143 GE144 GE145 GE148 GE151))); (case aL => have := LMc97.out; omega); intro v164 w108 ho hb hg hat; rw [← Ny163.out] at ho; have HO165 := am (ho); replace BK143 := am (blk_grown (g := gb143) (o := b2 a1_0 a1_1 24) (Z BK143) hg (Kd.R_ne HO162.out BK143.out (by decide))); replace BK144 := am (blk_grown (g := gb144) (o := b2 a2_0 a2_1 24) (Z BK144) hg (Kd.R_ne HO162.out BK144.out (by decide))); replace BK145 := am (blk_grown (g := gb145) (o := b2 0 0 24) (Z BK145) hg (Kd.R_ne HO162.out BK145.out (by decide))); replace BK148 := am (blk_grown (g := gb148) (o := b2 t146 t147 24) (Z BK148) hg (Kd.R_ne HO162.out BK148.out (by decide))); replace BK151 := am (blk_grown (g := gb151) (o := b2 t158 t159 24) (Z BK151) hg (Kd.R_ne HO162.out BK151.out (by decide))); replace HB := am (hb); clear HO162; clear ho hb hg hat; have hnb109 := NB151_143.out; have hnc109 := NB143_151.out; have hnb110 := NB151_145.out; have hnc110 := NB145_151.out; have hcz111_0 : w108.cell? ⟨gb151, 0, none⟩ = some (.int .i64 t158) := bc BK151 0; have hcz111_1 : w108.cell? ⟨gb151, 1, none⟩ = some (.int .i64 t159) := bc BK151 1; have hfz111_0 := blk_frozen BK151.out 0; have hfz111_1 := blk_frozen BK151.out 1; have hnb112 := NB145_143.out; have hnc112 := NB143_145.out; have hcz113_0 : w108.cell? ⟨gb145, 0, none⟩ = some (.int .i64 0) := bc BK145 0; have hcz113_1 : w108.cell? ⟨gb145, 1, none⟩ = some (.int .i64 0) := bc BK145 1; have hfz113_0 := blk_frozen BK145.out 0; have hfz113_1 := blk_frozen BK145.out 1))
        refine bodyPost_ret (results_ct rfl _ _ gb145 24 #[.int .i64 t158, .int .i64 t159] (0, 0) _ rfl (by (with_reducible repeat (first | refine blk_drewN ?_ _ | refine blk_drew ?_ | refine blk_alloc ?_ _)); refine blk_put (cs := #[.int .i64 t158, .int .i64 0]) ?_ 1 _ rfl; (with_reducible repeat (first | refine blk_drewN ?_ _ | refine blk_drew ?_ | refine blk_alloc ?_ _)); refine blk_put (cs := #[.int .i64 0, .int .i64 0]) ?_ 0 _ rfl; (with_reducible repeat (first | refine blk_drewN ?_ _ | refine blk_drew ?_ | refine blk_alloc ?_ _)); exact BK145.out) Try.underlying24 rfl (by kernel_rfl)) rfl ?_
        exact ⟨_, by first | rfl | (simp [errW_none, errW_some] <;> rfl) | (simp [*, errW_none, errW_some] <;> rfl), by (with_reducible repeat (first | apply Kd.R_alloc | apply Kd.R_drewN | apply Kd.R_drew)); exact Kd.R_mono (Kd.R_far (p := ⟨gb145, 1, none⟩) (Kd.R_far (p := ⟨gb145, 0, none⟩) (Kd.R_types HO165.out BK145.out (by decide)) (fun _ hk => hk.2) (.int .i64 t158)) (fun _ hk => hk.2) (.int .i64 t159)) (fun _ hk => trivial), Y5 HB GE143 GE144 GE145 GE148 GE151⟩
       ·rw [if_neg c97] at H
        exact absurd H (by simp)
      ·rw [if_neg c96] at H
       have c96b0 : (!(t146 == a2_0) || (!(t147 == a2_1))) = false := by simpa using c96
       clear c96
       simp only [Option.some.injEq, Prod.mk.injEq] at H
       obtain ⟨rfl, rfl, rfl⟩ := H
       go_wp2_with (first | ((with_reducible refine gate_builtin (b := .append) (xs := #[.tmp 36, .tmp 37]) rfl ?_); at_builtin; refine Kd.R_append (Kd.int .i64) (w0 := w) w.heap.size rfl (.tmp 36) (.tmp 37) 25 3 (.int .i64 0) 8 rfl Try.underlying25 info3 rfl (by decide) (by omega) (.slice none 0 0) ([] : List Int) 1 [.int .i64 1] (fun _ => True) (fun _ => False) rfl rfl ?aP (fun _ hk => hk.elim) ?aF ?aO ?aB ?aS ?aL ?_; (case aP => exact rfl); (case aB => exact (Y5 HB GE143 GE144 GE145 GE148 GE151)); (case aF => exact (fun _ _ => trivial)); (case aO => exact (by (with_reducible repeat (first | apply Kd.R_alloc | apply Kd.R_drewN | apply Kd.R_drew)); exact HO_10.out)); (case aS => exact (below_size (Y5 HB GE143 GE144 GE145 GE148 GE151))); (case aL => have := LMc95.out; omega); intro v161 w114 ho hb hg hat; rw [← Ny160.out] at ho; have HO162 := am (ho); replace BK143 := am (blk_grown (g := gb143) (o := b2 a1_0 a1_1 24) (Z BK143) hg (Kd.R_ne HO_10.out BK143.out (by decide))); replace BK144 := am (blk_grown (g := gb144) (o := b2 a2_0 a2_1 24) (Z BK144) hg (Kd.R_ne HO_10.out BK144.out (by decide))); replace BK145 := am (blk_grown (g := gb145) (o := b2 0 0 24) (Z BK145) hg (Kd.R_ne HO_10.out BK145.out (by decide))); replace BK148 := am (blk_grown (g := gb148) (o := b2 t146 t147 24) (Z BK148) hg (Kd.R_ne HO_10.out BK148.out (by decide))); replace BK151 := am (blk_grown (g := gb151) (o := b2 t158 t159 24) (Z BK151) hg (Kd.R_ne HO_10.out BK151.out (by decide))); replace HB := am (hb); clear HO_10; clear ho hb hg hat; have hnb115 := NB148_143.out; have hnc115 := NB143_148.out; have hnb116 := NB148_144.out; have hnc116 := NB144_148.out; have hnb117 := NB148_145.out; have hnc117 := NB145_148.out; have hnb118 := NB148_151.out; have hnc118 := NB151_148.out; have hcz119_0 : w114.cell? ⟨gb148, 0, none⟩ = some (.int .i64 t146) := bc BK148 0; have hcz119_1 : w114.cell? ⟨gb148, 1, none⟩ = some (.int .i64 t147) := bc BK148 1; have hfz119_0 := blk_frozen BK148.out 0; have hfz119_1 := blk_frozen BK148.out 1; have hnb120 := NB144_143.out; have hnc120 := NB143_144.out; have hnb121 := NB144_145.out; have hnc121 := NB145_144.out; have hnb122 := NB144_151.out; have hnc122 := NB151_144.out; have hcz123_0 : w114.cell? ⟨gb144, 0, none⟩ = some (.int .i64 a2_0) := bc BK144 0; have hcz123_1 : w114.cell? ⟨gb144, 1, none⟩ = some (.int .i64 a2_1) := bc BK144 1; have hfz123_0 := blk_frozen BK144.out 0; have hfz123_1 := blk_frozen BK144.out 1; have hnb124 := NB151_143.out; have hnc124 := NB143_151.out; have hnb125 := NB151_145.out; have hnc125 := NB145_151.out; have hcz126_0 : w114.cell? ⟨gb151, 0, none⟩ = some (.int .i64 t158) := bc BK151 0; have hcz126_1 : w114.cell? ⟨gb151, 1, none⟩ = some (.int .i64 t159) := bc BK151 1; have hfz126_0 := blk_frozen BK151.out 0; have hfz126_1 := blk_frozen BK151.out 1; have hnb127 := NB145_143.out; have hnc127 := NB143_145.out; have hcz128_0 : w114.cell? ⟨gb145, 0, none⟩ = some (.int .i64 0) := bc BK145 0; have hcz128_1 : w114.cell? ⟨gb145, 1, none⟩ = some (.int .i64 0) := bc BK145 1; have hfz128_0 := blk_frozen BK145.out 0; have hfz128_1 := blk_frozen BK145.out 1))
       refine bodyPost_ret (results_ct rfl _ _ gb145 24 #[.int .i64 t158, .int .i64 t159] (0, 0) _ rfl (by (with_reducible repeat (first | refine blk_drewN ?_ _ | refine blk_drew ?_ | refine blk_alloc ?_ _)); refine blk_put (cs := #[.int .i64 t158, .int .i64 0]) ?_ 1 _ rfl; (with_reducible repeat (first | refine blk_drewN ?_ _ | refine blk_drew ?_ | refine blk_alloc ?_ _)); refine blk_put (cs := #[.int .i64 0, .int .i64 0]) ?_ 0 _ rfl; (with_reducible repeat (first | refine blk_drewN ?_ _ | refine blk_drew ?_ | refine blk_alloc ?_ _)); exact BK145.out) Try.underlying24 rfl (by kernel_rfl)) rfl ?_
       exact ⟨_, by first | rfl | (simp [errW_none, errW_some] <;> rfl) | (simp [*, errW_none, errW_some] <;> rfl), by (with_reducible repeat (first | apply Kd.R_alloc | apply Kd.R_drewN | apply Kd.R_drew)); exact Kd.R_mono (Kd.R_far (p := ⟨gb145, 1, none⟩) (Kd.R_far (p := ⟨gb145, 0, none⟩) (Kd.R_types HO162.out BK145.out (by decide)) (fun _ hk => hk.2) (.int .i64 t158)) (fun _ hk => hk.2) (.int .i64 t159)) (fun _ hk => trivial), Y5 HB GE143 GE144 GE145 GE148 GE151⟩
     ·rw [if_neg c95] at H
      exact absurd H (by simp)
    ·replace c94 := Bool.eq_false_iff.mpr c94
     subst c94
     have H1 : (if (!(t146 == a2_0) || (!(t147 == a2_1))) = true then (if ([] : List Int).length < 17592186044416 then (some (t158, t159, (([] : List Int) ++ [3]))) else (none)) else (some (t158, t159, ([] : List Int)))) = some (r1, r2, r3) := by rw [if_neg (show ¬ (false = true) by decide)] at H; exact H
     clear H
     have H := H1
     clear H1
     by_cases c129 : (!(t146 == a2_0) || (!(t147 == a2_1))) = true
     ·rw [if_pos c129] at H
      have c129b0 : (!(t146 == a2_0) || (!(t147 == a2_1))) = true := c129
      clear c129
      by_cases c130 : ([] : List Int).length < 17592186044416
      ·rw [if_pos c130] at H
       have LMc130 := am c130
       clear c130
       obtain ⟨y166, hy166⟩ : ∃ y_ : List Int, y_ = (([] : List Int) ++ [3]) := ⟨_, rfl⟩
       replace H : (some (t158, t159, y166)) = some (r1, r2, r3) := by first | (rw [hy166]; with_reducible exact H) | (have H2_ := (Option.bind_some _ _).symm.trans H; rw [hy166]; with_reducible exact H2_) | (have H2_ := (Option.bind_some _ _).symm.trans H; with_reducible exact H2_) | with_reducible exact H | (rw [hy166]; exact H) | exact H
       have Ny166 := am hy166
       clear hy166
       simp only [Option.some.injEq, Prod.mk.injEq] at H
       obtain ⟨rfl, rfl, rfl⟩ := H
       have hnb131 := NB148_143.out
       have hnc131 := NB143_148.out
       have hnb132 := NB148_144.out
       have hnc132 := NB144_148.out
       have hnb133 := NB148_145.out
       have hnc133 := NB145_148.out
       have hnb134 := NB148_151.out
       have hnc134 := NB151_148.out
       have hcz135_0 : wc.cell? ⟨gb148, 0, none⟩ = some (.int .i64 t146) := bc BK148 0
       have hcz135_1 : wc.cell? ⟨gb148, 1, none⟩ = some (.int .i64 t147) := bc BK148 1
       have hfz135_0 := blk_frozen BK148.out 0
       have hfz135_1 := blk_frozen BK148.out 1
       have hnb136 := NB144_143.out
       have hnc136 := NB143_144.out
       have hnb137 := NB144_145.out
       have hnc137 := NB145_144.out
       have hnb138 := NB144_151.out
       have hnc138 := NB151_144.out
       have hcz139_0 : wc.cell? ⟨gb144, 0, none⟩ = some (.int .i64 a2_0) := bc BK144 0
       have hcz139_1 : wc.cell? ⟨gb144, 1, none⟩ = some (.int .i64 a2_1) := bc BK144 1
       have hfz139_0 := blk_frozen BK144.out 0
       have hfz139_1 := blk_frozen BK144.out 1
       go_wp2_with (first | ((with_reducible refine gate_builtin (b := .append) (xs := #[.tmp 42, .tmp 43]) rfl ?_); at_builtin; refine Kd.R_append (Kd.int .i64) (w0 := w) w.heap.size rfl (.tmp 42) (.tmp 43) 25 3 (.int .i64 0) 8 rfl Try.underlying25 info3 rfl (by decide) (by omega) (.slice none 0 0) ([] : List Int) 3 [.int .i64 3] (fun _ => True) (fun _ => False) rfl rfl ?aP (fun _ hk => hk.elim) ?aF ?aO ?aB ?aS ?aL ?_; (case aP => exact rfl); (case aB => exact (Y5 HB GE143 GE144 GE145 GE148 GE151)); (case aF => exact (fun _ _ => trivial)); (case aO => exact (by (with_reducible repeat (first | apply Kd.R_alloc | apply Kd.R_drewN | apply Kd.R_drew)); exact HO_10.out)); (case aS => exact (below_size (Y5 HB GE143 GE144 GE145 GE148 GE151))); (case aL => have := LMc130.out; omega); intro v167 w140 ho hb hg hat; rw [← Ny166.out] at ho; have HO168 := am (ho); replace BK143 := am (blk_grown (g := gb143) (o := b2 a1_0 a1_1 24) (Z BK143) hg (Kd.R_ne HO_10.out BK143.out (by decide))); replace BK144 := am (blk_grown (g := gb144) (o := b2 a2_0 a2_1 24) (Z BK144) hg (Kd.R_ne HO_10.out BK144.out (by decide))); replace BK145 := am (blk_grown (g := gb145) (o := b2 0 0 24) (Z BK145) hg (Kd.R_ne HO_10.out BK145.out (by decide))); replace BK148 := am (blk_grown (g := gb148) (o := b2 t146 t147 24) (Z BK148) hg (Kd.R_ne HO_10.out BK148.out (by decide))); replace BK151 := am (blk_grown (g := gb151) (o := b2 t158 t159 24) (Z BK151) hg (Kd.R_ne HO_10.out BK151.out (by decide))); replace HB := am (hb); clear HO_10; clear ho hb hg hat; have hnb141 := NB151_143.out; have hnc141 := NB143_151.out; have hnb142 := NB151_145.out; have hnc142 := NB145_151.out; have hcz143_0 : w140.cell? ⟨gb151, 0, none⟩ = some (.int .i64 t158) := bc BK151 0; have hcz143_1 : w140.cell? ⟨gb151, 1, none⟩ = some (.int .i64 t159) := bc BK151 1; have hfz143_0 := blk_frozen BK151.out 0; have hfz143_1 := blk_frozen BK151.out 1; have hnb144 := NB145_143.out; have hnc144 := NB143_145.out; have hcz145_0 : w140.cell? ⟨gb145, 0, none⟩ = some (.int .i64 0) := bc BK145 0; have hcz145_1 : w140.cell? ⟨gb145, 1, none⟩ = some (.int .i64 0) := bc BK145 1; have hfz145_0 := blk_frozen BK145.out 0; have hfz145_1 := blk_frozen BK145.out 1))
       refine bodyPost_ret (results_ct rfl _ _ gb145 24 #[.int .i64 t158, .int .i64 t159] (0, 0) _ rfl (by (with_reducible repeat (first | refine blk_drewN ?_ _ | refine blk_drew ?_ | refine blk_alloc ?_ _)); refine blk_put (cs := #[.int .i64 t158, .int .i64 0]) ?_ 1 _ rfl; (with_reducible repeat (first | refine blk_drewN ?_ _ | refine blk_drew ?_ | refine blk_alloc ?_ _)); refine blk_put (cs := #[.int .i64 0, .int .i64 0]) ?_ 0 _ rfl; (with_reducible repeat (first | refine blk_drewN ?_ _ | refine blk_drew ?_ | refine blk_alloc ?_ _)); exact BK145.out) Try.underlying24 rfl (by kernel_rfl)) rfl ?_
       exact ⟨_, by first | rfl | (simp [errW_none, errW_some] <;> rfl) | (simp [*, errW_none, errW_some] <;> rfl), by (with_reducible repeat (first | apply Kd.R_alloc | apply Kd.R_drewN | apply Kd.R_drew)); exact Kd.R_mono (Kd.R_far (p := ⟨gb145, 1, none⟩) (Kd.R_far (p := ⟨gb145, 0, none⟩) (Kd.R_types HO168.out BK145.out (by decide)) (fun _ hk => hk.2) (.int .i64 t158)) (fun _ hk => hk.2) (.int .i64 t159)) (fun _ hk => trivial), Y5 HB GE143 GE144 GE145 GE148 GE151⟩
      ·rw [if_neg c130] at H
       exact absurd H (by simp)
     ·rw [if_neg c129] at H
      have c129b0 : (!(t146 == a2_0) || (!(t147 == a2_1))) = false := by simpa using c129
      clear c129
      simp only [Option.some.injEq, Prod.mk.injEq] at H
      obtain ⟨rfl, rfl, rfl⟩ := H
      have hnb146 := NB148_143.out
      have hnc146 := NB143_148.out
      have hnb147 := NB148_144.out
      have hnc147 := NB144_148.out
      have hnb148 := NB148_145.out
      have hnc148 := NB145_148.out
      have hnb149 := NB148_151.out
      have hnc149 := NB151_148.out
      have hcz150_0 : wc.cell? ⟨gb148, 0, none⟩ = some (.int .i64 t146) := bc BK148 0
      have hcz150_1 : wc.cell? ⟨gb148, 1, none⟩ = some (.int .i64 t147) := bc BK148 1
      have hfz150_0 := blk_frozen BK148.out 0
      have hfz150_1 := blk_frozen BK148.out 1
      have hnb151 := NB144_143.out
      have hnc151 := NB143_144.out
      have hnb152 := NB144_145.out
      have hnc152 := NB145_144.out
      have hnb153 := NB144_151.out
      have hnc153 := NB151_144.out
      have hcz154_0 : wc.cell? ⟨gb144, 0, none⟩ = some (.int .i64 a2_0) := bc BK144 0
      have hcz154_1 : wc.cell? ⟨gb144, 1, none⟩ = some (.int .i64 a2_1) := bc BK144 1
      have hfz154_0 := blk_frozen BK144.out 0
      have hfz154_1 := blk_frozen BK144.out 1
      have hnb155 := NB151_143.out
      have hnc155 := NB143_151.out
      have hnb156 := NB151_145.out
      have hnc156 := NB145_151.out
      have hcz157_0 : wc.cell? ⟨gb151, 0, none⟩ = some (.int .i64 t158) := bc BK151 0
      have hcz157_1 : wc.cell? ⟨gb151, 1, none⟩ = some (.int .i64 t159) := bc BK151 1
      have hfz157_0 := blk_frozen BK151.out 0
      have hfz157_1 := blk_frozen BK151.out 1
      have hnb158 := NB145_143.out
      have hnc158 := NB143_145.out
      have hcz159_0 : wc.cell? ⟨gb145, 0, none⟩ = some (.int .i64 0) := bc BK145 0
      have hcz159_1 : wc.cell? ⟨gb145, 1, none⟩ = some (.int .i64 0) := bc BK145 1
      have hfz159_0 := blk_frozen BK145.out 0
      have hfz159_1 := blk_frozen BK145.out 1
      go_wp2
      refine bodyPost_ret (results_ct rfl _ _ gb145 24 #[.int .i64 t158, .int .i64 t159] (0, 0) _ rfl (by (with_reducible repeat (first | refine blk_drewN ?_ _ | refine blk_drew ?_ | refine blk_alloc ?_ _)); refine blk_put (cs := #[.int .i64 t158, .int .i64 0]) ?_ 1 _ rfl; (with_reducible repeat (first | refine blk_drewN ?_ _ | refine blk_drew ?_ | refine blk_alloc ?_ _)); refine blk_put (cs := #[.int .i64 0, .int .i64 0]) ?_ 0 _ rfl; (with_reducible repeat (first | refine blk_drewN ?_ _ | refine blk_drew ?_ | refine blk_alloc ?_ _)); exact BK145.out) Try.underlying24 rfl (by kernel_rfl)) rfl ?_
      exact ⟨_, by first | rfl | (simp [errW_none, errW_some] <;> rfl) | (simp [*, errW_none, errW_some] <;> rfl), by (with_reducible repeat (first | apply Kd.R_alloc | apply Kd.R_drewN | apply Kd.R_drew)); exact Kd.R_mono (Kd.R_far (p := ⟨gb145, 1, none⟩) (Kd.R_far (p := ⟨gb145, 0, none⟩) (Kd.R_types HO_10.out BK145.out (by decide)) (fun _ hk => hk.2) (.int .i64 t158)) (fun _ hk => hk.2) (.int .i64 t159)) (fun _ hk => trivial), Y5 HB GE143 GE144 GE145 GE148 GE151⟩

/-! ### impl_rangeSides: function 94 -/
def impl_rangeSides.f (k : Nat) (a0_0 : Int) (a0_1 : Int) : Option (Int × Int × Int × Int) := (impl_RangeMeet.f k a0_0 a0_1 (-2147483648) (-1)).bind fun bt171 => ((impl_RangeMeet.f k a0_0 a0_1 1 2147483647).bind fun bt173 => (some (bt171.1, bt171.2, bt173.1, bt173.2)))
theorem impl_rangeSides.mono : ∀ a0 a1 k, LeO (impl_rangeSides.f k a0 a1) (impl_rangeSides.f (k + 1) a0 a1) := by
 intro a0 a1 k
 unfold impl_rangeSides.f
 repeat' first
   | (with_reducible exact impl_RangeMeet.mono _ _ _ _ _)
   | (with_reducible exact LeO.refl _)
   | (with_reducible exact LeO.none _)
   | (with_reducible refine LeO.ite ?_ ?_)
   | (with_reducible refine LeO.bind ?_ (fun _ => ?_))
   | exact impl_RangeMeet.mono _ _ _ _ _
   | exact LeO.none _
   | refine LeO.ite ?_ ?_
   | refine LeO.bind ?_ (fun _ => ?_)
def impl_rangeSides.T1 : Bool × List (List Nat × List Nat) := (true, [([], []), ([], []), ([0, 1], [0, 1]), ([], []), ([], []), ([3, 4, 2], [3, 4]), ([2, 5], [2, 5]), ([6, 5, 0, 1, 2, 3, 4, 5, 6], [6])])
def impl_rangeSides.B1 : List Nat := [0, 0, 3, 0, 0, 31, 63, 127]
theorem impl_rangeSides.tab1 : rtab .any (opsOf Try.f94 1) = impl_rangeSides.T1 := by kernel_rfl
theorem impl_rangeSides.bits1 : waitsOk impl_rangeSides.T1.2 impl_rangeSides.B1 = true := by kernel_rfl
set_option maxHeartbeats 8000000 in
set_option maxRecDepth 100000 in
theorem impl_rangeSides.calls (k : Nat) (a0_0 : Int) (a0_1 : Int) (r1 : Int) (r2 : Int) (r3 : Int) (r4 : Int) (w : World) (h : impl_rangeSides.f k a0_0 a0_1 = some (r1, r2, r3, r4)) :
  Calls Try.prog 94 #[.agg #[.int .i64 a0_0, .int .i64 a0_1]] w fun e w' => e = .returned (.agg #[.int .i64 r1, .int .i64 r2, .int .i64 r3, .int .i64 r4]) ∧ Below w.heap.size w w' := by
 have hu24 := Try.underlying24
 have hu96 := Try.underlying96
 have HB := am (Below.refl w.heap.size w)
 have H : ((impl_RangeMeet.f k a0_0 a0_1 (-2147483648) (-1)).bind fun bt171 => ((impl_RangeMeet.f k a0_0 a0_1 1 2147483647).bind fun bt173 => (some (bt171.1, bt171.2, bt173.1, bt173.2)))) = some (r1, r2, r3, r4) := h
 clear h
 replace H := Option.bind_eq_some_iff.mp H
 obtain ⟨⟨t171, t172⟩, A20, H⟩ := H
 replace H : ((impl_RangeMeet.f k a0_0 a0_1 1 2147483647).bind fun bt173 => (some (t171, t172, bt173.1, bt173.2))) = some (r1, r2, r3, r4) := H
 have A2 := am A20
 clear A20
 replace H := Option.bind_eq_some_iff.mp H
 obtain ⟨⟨t173, t174⟩, A30, H⟩ := H
 replace H : (some (t171, t172, t173, t174)) = some (r1, r2, r3, r4) := H
 have A3 := am A30
 clear A30
 simp only [Option.some.injEq, Prod.mk.injEq] at H
 obtain ⟨rfl, rfl, rfl, rfl⟩ := H
 go_enter Try.func94, Try.ntmps94
 try go_wp2_with (first | ((with_reducible refine gate_dst (N := 1) rfl ?_); refine box_event ?hg (N := 1) ?hd (cs := #[.int .i64 a0_0, .int .i64 a0_1]) (t := 24) ?hr ?_; (case hd => rfl); (case hg => rfl); (case hr => first | (go_simp; done) | (go_simp; rfl)); intro gb169 hg w4 hbox hb; have BK169 := am (hbox); have GW169 := am ((by rw [hg]; exact (below_size (Y0 HB)) : w.heap.size ≤ gb169)); have GE169 := am ((by rw [hg]; exact (below_size (Y0 HB)) : w.heap.size ≤ gb169)); replace HB := am (below_step (Y0 HB) hb); clear hb hbox hg; (try have hxs0_1 : ∀ x_ : Value, (w4.setCell ⟨gb169, 0, none⟩ x_).cell? ⟨gb169, 1, none⟩ = some (.int .i64 a0_1) := fun x_ => (World.cell?_setCell_other _ _ _ _ (by simp)).trans (bc BK169 1)); (try have hxs1_0 : ∀ x_ : Value, (w4.setCell ⟨gb169, 1, none⟩ x_).cell? ⟨gb169, 0, none⟩ = some (.int .i64 a0_0) := fun x_ => (World.cell?_setCell_other _ _ _ _ (by simp)).trans (bc BK169 0))) | ((with_reducible refine gate_dst (N := 2) rfl ?_); refine box_event ?hg (N := 2) ?hd (cs := #[.int .i64 0, .int .i64 0, .int .i64 0, .int .i64 0]) (t := 96) ?hr ?_; (case hd => rfl); (case hg => rfl); (case hr => first | (go_simp; done) | (go_simp; rfl)); intro gb170 hg w5 hbox hb; have BK170 := am (hbox); have GW170 := am ((by rw [hg]; exact (below_size (Y1 HB GE169)) : w.heap.size ≤ gb170)); have GE170 := am ((by rw [hg]; exact (below_size (Y1 HB GE169)) : w.heap.size ≤ gb170)); have NB169_170 := am ((nl (o := b2 a0_0 a0_1 24) hg (Z BK169) : gb169 ≠ gb170)); have NB170_169 := am ((ng (o := b2 a0_0 a0_1 24) hg (Z BK169) : gb170 ≠ gb169)); replace BK169 := am (blk_below (g := gb169) (o := b2 a0_0 a0_1 24) (Z BK169) hb); replace HB := am (below_step (Y1 HB GE169) hb); clear hb hbox hg; (try have hxz0_0 : w5.cell? ⟨gb169, 0, none⟩ = some (.int .i64 a0_0) := bc BK169 0); (try have hxf0_0 := blk_frozen BK169.out 0); (try have hxz0_1 : w5.cell? ⟨gb169, 1, none⟩ = some (.int .i64 a0_1) := bc BK169 1); (try have hxf0_1 := blk_frozen BK169.out 1)))
 replace BK169 := am (blk_drew BK169.out)
 replace BK170 := am (blk_drew BK170.out)
 replace HB := am (below_drew1 HB.out)
 refine start_ (n := 8) (S := fun w' => w'.cell? ⟨gb169, 0, none⟩ = some (.int .i64 a0_0) ∧ w'.cell? ⟨gb169, 1, none⟩ = some (.int .i64 a0_1)) (ds := []) #[F, F, F, F, F, F, F, F] (by kernel_rfl) rfl rfl ⟨bc BK169 0, bc BK169 1⟩ (fun hHeld => ?_); refine with_tabW impl_rangeSides.tab1 impl_rangeSides.bits1 (fun HT_ HW_ => ?_)
 generalize w5.drew = w6 at BK169 BK170 HB hHeld ⊢
 refine pure_ (i := 1) (N := some 4) (v := ?_) (a' := ?_) #[F, T, F, F, F, F, F, F] rfl rfl (any_of HT_.out (by kernel_rfl)) (fun _ _ _ h => h) (Or.inl ⟨by rfl, ?_⟩) ?_ ?_
 rotate_left
 ·exact gz
 rotate_left
 ·exact pz
 refine pure_ (i := 4) (N := some 7) (v := ?_) (a' := ?_) #[F, T, F, F, T, F, F, F] rfl rfl (any_of HT_.out (by kernel_rfl)) (fun _ _ _ h => h) (Or.inl ⟨by rfl, ?_⟩) ?_ ?_
 rotate_left
 ·exact gz
 rotate_left
 ·exact pz
 refine take_ (i := 0) (N := some 3) (v := ?_) (a' := ?_) #[T, T, F, F, T, F, F, F] rfl rfl (take_ofW HT_.out HW_.out (by kernel_rfl)) (fun _ _ _ h => h) (Or.inl ⟨by rfl, ?_⟩) hHeld ?_ ?_
 rotate_left
 ·rintro w' ⟨s0, s1⟩
  go_simp
  with_reducible rfl
 rotate_left
 ·exact pz
 refine take_ (i := 3) (N := some 6) (v := ?_) (a' := ?_) #[T, T, F, T, T, F, F, F] rfl rfl (take_ofW HT_.out HW_.out (by kernel_rfl)) (fun _ _ _ h => h) (Or.inl ⟨by rfl, ?_⟩) hHeld ?_ ?_
 rotate_left
 ·rintro w' ⟨s0, s1⟩
  go_simp
  with_reducible rfl
 rotate_left
 ·exact pz
 refine one_ (i := 2) (N := some 5) #[T, T, T, T, T, F, F, F] rfl rfl (one_of HT_.out (by kernel_rfl)) (by decide) (fun K hK => ?_)
 refine goes_ Try.func93 (by kernel_rfl) rfl #[.agg #[.int .i64 a0_0, .int .i64 a0_1], .agg #[.int .i64 (-2147483648), .int .i64 (-1)]] (by rfl) rfl rfl mz ?_
 with_reducible refine (impl_RangeMeet.calls k a0_0 a0_1 (-2147483648) (-1) t171 t172 _ A2.out).mono ?_
 rintro e w7 ⟨rfl, hb⟩
 refine ⟨_, rfl, ?_⟩
 replace BK169 := am (blk_below (g := gb169) (o := b2 a0_0 a0_1 24) (Z BK169) hb)
 replace BK170 := am (blk_below (g := gb170) (o := b4 0 0 0 0 96) (Z BK170) hb)
 replace HB := am (below_step (Y2 HB GE169 GE170) hb)
 (try clear hb)
 (try clear hb2)
 (try clear hk)
 (try clear hi)
 refine hK.out _ _ ⟨bc BK169 0, bc BK169 1⟩ (fun hHeld => ?_)
 clear hK K
 refine norm_ (a' := ?_) ?_ ?_
 rotate_left
 ·show Act.put _ (some 5) _ = _
  simp only [Act.put, List.setIfInBounds_toArray, List.set_cons_zero, List.set_cons_succ, i64_w, i32_w]
  rfl
 refine one_ (i := 5) (N := some 8) #[T, T, T, T, T, T, F, F] rfl rfl (one_of HT_.out (by kernel_rfl)) (by decide) (fun K hK => ?_)
 refine goes_ Try.func93 (by kernel_rfl) rfl #[.agg #[.int .i64 a0_0, .int .i64 a0_1], .agg #[.int .i64 1, .int .i64 2147483647]] (by rfl) rfl rfl mz ?_
 with_reducible refine (impl_RangeMeet.calls k a0_0 a0_1 1 2147483647 t173 t174 _ A3.out).mono ?_
 rintro e w8 ⟨rfl, hb⟩
 refine ⟨_, rfl, ?_⟩
 replace BK169 := am (blk_below (g := gb169) (o := b2 a0_0 a0_1 24) (Z BK169) hb)
 replace BK170 := am (blk_below (g := gb170) (o := b4 0 0 0 0 96) (Z BK170) hb)
 replace HB := am (below_step (Y2 HB GE169 GE170) hb)
 (try clear hb)
 (try clear hb2)
 (try clear hk)
 (try clear hi)
 refine hK.out _ _ ⟨bc BK169 0, bc BK169 1⟩ (fun hHeld => ?_)
 clear hK K
 refine norm_ (a' := ?_) ?_ ?_
 rotate_left
 ·show Act.put _ (some 8) _ = _
  simp only [Act.put, List.setIfInBounds_toArray, List.set_cons_zero, List.set_cons_succ, i64_w, i32_w]
  rfl
 refine pure_ (i := 6) (N := some 9) (v := ?_) (a' := ?_) #[T, T, T, T, T, T, T, F] rfl rfl (any_of HT_.out (by kernel_rfl)) (fun _ _ _ h => h) (Or.inl ⟨by rfl, ?_⟩) ?_ ?_
 rotate_left
 ·exact gz
 rotate_left
 ·exact pz
 refine one_ (i := 7) (N := none) #[T, T, T, T, T, T, T, T] rfl rfl (one_of HT_.out (by kernel_rfl)) (by decide) (fun K hK => ?_)
 have hs9 : w8.cell? ⟨gb170, 0, none⟩ = some (.int .i64 0) := bc BK170 0
 have hfs9 := blk_frozen BK170.out 0
 have hns9_0 := NB169_170.out
 have hms9_0 := NB170_169.out
 have hs10 : w8.cell? ⟨gb170, 1, none⟩ = some (.int .i64 0) := bc BK170 1
 have hfs10 := blk_frozen BK170.out 1
 have hns10_0 := NB169_170.out
 have hms10_0 := NB170_169.out
 have hs11 : w8.cell? ⟨gb170, 2, none⟩ = some (.int .i64 0) := bc BK170 2
 have hfs11 := blk_frozen BK170.out 2
 have hns11_0 := NB169_170.out
 have hms11_0 := NB170_169.out
 have hs12 : w8.cell? ⟨gb170, 3, none⟩ = some (.int .i64 0) := bc BK170 3
 have hfs12 := blk_frozen BK170.out 3
 have hns12_0 := NB169_170.out
 have hms12_0 := NB170_169.out
 refine skip_ (w1 := ?_) (by rfl) rfl ?_ ?_
 rotate_left
 ·go_simp
  rfl
 refine hK.out _ _ ⟨((cell_far (p := ⟨gb170, _, none⟩) NB169_170.out _).trans (((cell_far (p := ⟨gb170, _, none⟩) NB169_170.out _).trans (((cell_far (p := ⟨gb170, _, none⟩) NB169_170.out _).trans (((cell_far (p := ⟨gb170, _, none⟩) NB169_170.out _).trans (hHeld.1)))))))), ((cell_far (p := ⟨gb170, _, none⟩) NB169_170.out _).trans (((cell_far (p := ⟨gb170, _, none⟩) NB169_170.out _).trans (((cell_far (p := ⟨gb170, _, none⟩) NB169_170.out _).trans (((cell_far (p := ⟨gb170, _, none⟩) NB169_170.out _).trans (hHeld.2))))))))⟩ (fun hHeld => ?_)
 clear hK K
 refine done_ (done_of HT_.out (by kernel_rfl)) ?_
 try go_wp2
 refine bodyPost_ret (results_cell_row rfl _ _ gb170 96 #[.int .i64 t171, .int .i64 t172, .int .i64 t173, .int .i64 t174] (0, 0) _ rfl (by (with_reducible repeat (first | refine blk_drewN ?_ _ | refine blk_drew ?_ | refine blk_alloc ?_ _)); refine blk_put (cs := #[.int .i64 t171, .int .i64 t172, .int .i64 t173, .int .i64 0]) ?_ 3 _ rfl; (with_reducible repeat (first | refine blk_drewN ?_ _ | refine blk_drew ?_ | refine blk_alloc ?_ _)); refine blk_put (cs := #[.int .i64 t171, .int .i64 t172, .int .i64 0, .int .i64 0]) ?_ 2 _ rfl; (with_reducible repeat (first | refine blk_drewN ?_ _ | refine blk_drew ?_ | refine blk_alloc ?_ _)); refine blk_put (cs := #[.int .i64 t171, .int .i64 0, .int .i64 0, .int .i64 0]) ?_ 1 _ rfl; (with_reducible repeat (first | refine blk_drewN ?_ _ | refine blk_drew ?_ | refine blk_alloc ?_ _)); refine blk_put (cs := #[.int .i64 0, .int .i64 0, .int .i64 0, .int .i64 0]) ?_ 0 _ rfl; (with_reducible repeat (first | refine blk_drewN ?_ _ | refine blk_drew ?_ | refine blk_alloc ?_ _)); exact BK170.out) Try.underlying96 rfl (by kernel_rfl)) rfl ?_
 exact ⟨by first | rfl | (simp [errW_none, errW_some] <;> rfl) | (simp [*, errW_none, errW_some] <;> rfl), Y2 HB GE169 GE170⟩

/-! ### impl_RangeHas: function 95 -/
def impl_RangeHas.f (a0_0 : Int) (a0_1 : Int) (a1 : Int) : Option (Bool) := (impl_RangeOk.f a0_0 a0_1).bind fun t176 => (if t176 = true then (if a0_0 ≤ a1 then (some (decide (a1 ≤ a0_1))) else (some false)) else (some false))
set_option maxHeartbeats 8000000 in
set_option maxRecDepth 100000 in
theorem impl_RangeHas.calls (a0_0 : Int) (a0_1 : Int) (a1 : Int) (r : Bool) (w : World) (h : impl_RangeHas.f a0_0 a0_1 a1 = some r) :
  Calls Try.prog 95 #[.agg #[.int .i64 a0_0, .int .i64 a0_1], .int .i64 a1] w fun e w' => e = .returned (.bool r) ∧ Below w.heap.size w w' := by
 have hu24 := Try.underlying24
 have HB := am (Below.refl w.heap.size w)
 have H : ((impl_RangeOk.f a0_0 a0_1).bind fun t176 => (if t176 = true then (if a0_0 ≤ a1 then (some (decide (a1 ≤ a0_1))) else (some false)) else (some false))) = some r := h
 clear h
 replace H := Option.bind_eq_some_iff.mp H
 obtain ⟨t176, A30, H⟩ := H
 replace H : (if t176 = true then (if a0_0 ≤ a1 then (some (decide (a1 ≤ a0_1))) else (some false)) else (some false)) = some r := H
 have A3 := am A30
 clear A30
 by_cases c4 : t176 = true
 ·subst c4
  have H1 : (if a0_0 ≤ a1 then (some (decide (a1 ≤ a0_1))) else (some false)) = some r := by rw [if_pos rfl] at H; exact H
  clear H
  have H := H1
  clear H1
  by_cases c5 : a0_0 ≤ a1
  ·rw [if_pos c5] at H
   have c5b0 : decide (a0_0 ≤ a1) = true := decide_eq_true c5
   clear c5
   obtain rfl := Option.some.inj H
   go_enter Try.func95, Try.ntmps95
   go_wp2_with (first | ((with_reducible refine gate_dst (N := 2) rfl ?_); refine box_event ?hg (N := 2) ?hd (cs := #[.int .i64 a0_0, .int .i64 a0_1]) (t := 24) ?hr ?_; (case hd => rfl); (case hg => rfl); (case hr => first | (go_simp; done) | (go_simp; rfl)); intro gb175 hg w6 hbox hb; have BK175 := am (hbox); have GW175 := am ((by rw [hg]; exact (below_size (Y0 HB)) : w.heap.size ≤ gb175)); have GE175 := am ((by rw [hg]; exact (below_size (Y0 HB)) : w.heap.size ≤ gb175)); replace HB := am (below_step (Y0 HB) hb); clear hb hbox hg; have hcz7_0 : w6.cell? ⟨gb175, 0, none⟩ = some (.int .i64 a0_0) := bc BK175 0; have hcz7_1 : w6.cell? ⟨gb175, 1, none⟩ = some (.int .i64 a0_1) := bc BK175 1; have hfz7_0 := blk_frozen BK175.out 0; have hfz7_1 := blk_frozen BK175.out 1; (try have hxs0_1 : ∀ x_ : Value, (w6.setCell ⟨gb175, 0, none⟩ x_).cell? ⟨gb175, 1, none⟩ = some (.int .i64 a0_1) := fun x_ => (World.cell?_setCell_other _ _ _ _ (by simp)).trans (bc BK175 1)); (try have hxs1_0 : ∀ x_ : Value, (w6.setCell ⟨gb175, 1, none⟩ x_).cell? ⟨gb175, 0, none⟩ = some (.int .i64 a0_0) := fun x_ => (World.cell?_setCell_other _ _ _ _ (by simp)).trans (bc BK175 0))) | ((with_reducible refine gate_callee (f := 46) rfl ?_); refine goesL_ (some 6) rfl rfl Try.func46 (by kernel_rfl) rfl #[.agg #[.int .i64 a0_0, .int .i64 a0_1]] rfl mz ?_; (with_reducible refine (impl_RangeOk.calls a0_0 a0_1 true _ A3.out).mono ?_); rintro e w8 ⟨rfl, hb⟩; refine ⟨_, rfl, ?_⟩; replace BK175 := am (blk_below (g := gb175) (o := b2 a0_0 a0_1 24) (Z BK175) hb); replace HB := am (below_step (Y1 HB GE175) hb); (try clear hb); (try clear hb2); (try clear hk); (try clear hi); have hcz9_0 : w8.cell? ⟨gb175, 0, none⟩ = some (.int .i64 a0_0) := bc BK175 0; have hcz9_1 : w8.cell? ⟨gb175, 1, none⟩ = some (.int .i64 a0_1) := bc BK175 1; have hfz9_0 := blk_frozen BK175.out 0; have hfz9_1 := blk_frozen BK175.out 1))
   go_ret
   exact ⟨by first | rfl | (simp [errW_none, errW_some] <;> rfl) | (simp [*, errW_none, errW_some] <;> rfl), Y1 HB GE175⟩
  ·rw [if_neg c5] at H
   have c5b0 : decide (a0_0 ≤ a1) = false := decide_eq_false c5
   clear c5
   obtain rfl := Option.some.inj H
   go_enter Try.func95, Try.ntmps95
   go_wp2_with (first | ((with_reducible refine gate_dst (N := 2) rfl ?_); refine box_event ?hg (N := 2) ?hd (cs := #[.int .i64 a0_0, .int .i64 a0_1]) (t := 24) ?hr ?_; (case hd => rfl); (case hg => rfl); (case hr => first | (go_simp; done) | (go_simp; rfl)); intro gb175 hg w10 hbox hb; have BK175 := am (hbox); have GW175 := am ((by rw [hg]; exact (below_size (Y0 HB)) : w.heap.size ≤ gb175)); have GE175 := am ((by rw [hg]; exact (below_size (Y0 HB)) : w.heap.size ≤ gb175)); replace HB := am (below_step (Y0 HB) hb); clear hb hbox hg; have hcz11_0 : w10.cell? ⟨gb175, 0, none⟩ = some (.int .i64 a0_0) := bc BK175 0; have hcz11_1 : w10.cell? ⟨gb175, 1, none⟩ = some (.int .i64 a0_1) := bc BK175 1; have hfz11_0 := blk_frozen BK175.out 0; have hfz11_1 := blk_frozen BK175.out 1; (try have hxs0_1 : ∀ x_ : Value, (w10.setCell ⟨gb175, 0, none⟩ x_).cell? ⟨gb175, 1, none⟩ = some (.int .i64 a0_1) := fun x_ => (World.cell?_setCell_other _ _ _ _ (by simp)).trans (bc BK175 1)); (try have hxs1_0 : ∀ x_ : Value, (w10.setCell ⟨gb175, 1, none⟩ x_).cell? ⟨gb175, 0, none⟩ = some (.int .i64 a0_0) := fun x_ => (World.cell?_setCell_other _ _ _ _ (by simp)).trans (bc BK175 0))) | ((with_reducible refine gate_callee (f := 46) rfl ?_); refine goesL_ (some 6) rfl rfl Try.func46 (by kernel_rfl) rfl #[.agg #[.int .i64 a0_0, .int .i64 a0_1]] rfl mz ?_; (with_reducible refine (impl_RangeOk.calls a0_0 a0_1 true _ A3.out).mono ?_); rintro e w12 ⟨rfl, hb⟩; refine ⟨_, rfl, ?_⟩; replace BK175 := am (blk_below (g := gb175) (o := b2 a0_0 a0_1 24) (Z BK175) hb); replace HB := am (below_step (Y1 HB GE175) hb); (try clear hb); (try clear hb2); (try clear hk); (try clear hi); have hcz13_0 : w12.cell? ⟨gb175, 0, none⟩ = some (.int .i64 a0_0) := bc BK175 0; have hcz13_1 : w12.cell? ⟨gb175, 1, none⟩ = some (.int .i64 a0_1) := bc BK175 1; have hfz13_0 := blk_frozen BK175.out 0; have hfz13_1 := blk_frozen BK175.out 1))
   go_ret
   exact ⟨by first | rfl | (simp [errW_none, errW_some] <;> rfl) | (simp [*, errW_none, errW_some] <;> rfl), Y1 HB GE175⟩
 ·replace c4 := Bool.eq_false_iff.mpr c4
  subst c4
  have H1 : (some false) = some r := by rw [if_neg (show ¬ (false = true) by decide)] at H; exact H
  clear H
  have H := H1
  clear H1
  obtain rfl := Option.some.inj H
  go_enter Try.func95, Try.ntmps95
  go_wp2_with (first | ((with_reducible refine gate_dst (N := 2) rfl ?_); refine box_event ?hg (N := 2) ?hd (cs := #[.int .i64 a0_0, .int .i64 a0_1]) (t := 24) ?hr ?_; (case hd => rfl); (case hg => rfl); (case hr => first | (go_simp; done) | (go_simp; rfl)); intro gb175 hg w14 hbox hb; have BK175 := am (hbox); have GW175 := am ((by rw [hg]; exact (below_size (Y0 HB)) : w.heap.size ≤ gb175)); have GE175 := am ((by rw [hg]; exact (below_size (Y0 HB)) : w.heap.size ≤ gb175)); replace HB := am (below_step (Y0 HB) hb); clear hb hbox hg; have hcz15_0 : w14.cell? ⟨gb175, 0, none⟩ = some (.int .i64 a0_0) := bc BK175 0; have hcz15_1 : w14.cell? ⟨gb175, 1, none⟩ = some (.int .i64 a0_1) := bc BK175 1; have hfz15_0 := blk_frozen BK175.out 0; have hfz15_1 := blk_frozen BK175.out 1; (try have hxs0_1 : ∀ x_ : Value, (w14.setCell ⟨gb175, 0, none⟩ x_).cell? ⟨gb175, 1, none⟩ = some (.int .i64 a0_1) := fun x_ => (World.cell?_setCell_other _ _ _ _ (by simp)).trans (bc BK175 1)); (try have hxs1_0 : ∀ x_ : Value, (w14.setCell ⟨gb175, 1, none⟩ x_).cell? ⟨gb175, 0, none⟩ = some (.int .i64 a0_0) := fun x_ => (World.cell?_setCell_other _ _ _ _ (by simp)).trans (bc BK175 0))) | ((with_reducible refine gate_callee (f := 46) rfl ?_); refine goesL_ (some 6) rfl rfl Try.func46 (by kernel_rfl) rfl #[.agg #[.int .i64 a0_0, .int .i64 a0_1]] rfl mz ?_; (with_reducible refine (impl_RangeOk.calls a0_0 a0_1 false _ A3.out).mono ?_); rintro e w16 ⟨rfl, hb⟩; refine ⟨_, rfl, ?_⟩; replace BK175 := am (blk_below (g := gb175) (o := b2 a0_0 a0_1 24) (Z BK175) hb); replace HB := am (below_step (Y1 HB GE175) hb); (try clear hb); (try clear hb2); (try clear hk); (try clear hi)))
  go_ret
  exact ⟨by first | rfl | (simp [errW_none, errW_some] <;> rfl) | (simp [*, errW_none, errW_some] <;> rfl), Y1 HB GE175⟩

end Go.Proofs.Ythbkakcchgnhpaa.PFnRangeOne
