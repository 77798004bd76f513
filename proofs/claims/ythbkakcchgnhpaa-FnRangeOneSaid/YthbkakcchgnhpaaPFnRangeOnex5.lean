/- Written by this session's own driver (wip/dprint.py): the functions that the law FnRangeOne reaches, as Lean functions, each with its contract. -/
import Derived.Test.YthbkakcchgnhpaaPFnRangeOnex0
import Derived.Test.YthbkakcchgnhpaaPFnRangeOnex2
import Derived.Test.YthbkakcchgnhpaaPFnRangeOnex4
import Derived.Test.YthbkakcchgnhpaaSv
namespace Go.Proofs.Ythbkakcchgnhpaa.PFnRangeOne
open Go.RowKit Go.Proofs.YthbkakcchgnhpaaV.PrintWords Go.Proofs.YthbkakcchgnhpaaV.PrintLast Go.Proofs.YthbkakcchgnhpaaV.PrintMore Go.Proofs.YthbkakcchgnhpaaSv
attribute [local go_sem] max2_int min2_int max_two min_two max_three min_three max_four min_four   -- for this text's walks alone
set_option linter.unusedVariables false
set_option linter.unusedSimpArgs false

/-! ### impl_rangeFrom: function 50 -/
def impl_rangeFrom.f (a0 : Int) (a1 : Int) : Option (Int × Int) := if (mx a0 (-2147483648)) > (mn a1 2147483647) then ((impl_rangeNone.f).bind fun bt117 => (some (bt117.1, bt117.2))) else (some (mx a0 (-2147483648), mn a1 2147483647))
set_option maxHeartbeats 8000000 in
set_option maxRecDepth 100000 in
theorem impl_rangeFrom.calls (a0 : Int) (a1 : Int) (r1 : Int) (r2 : Int) (w : World) (h : impl_rangeFrom.f a0 a1 = some (r1, r2)) :
  Calls Try.prog 50 #[.int .i64 a0, .int .i64 a1] w fun e w' => e = .returned (.agg #[.int .i64 r1, .int .i64 r2]) ∧ Below w.heap.size w w' := by
 have hu24 := Try.underlying24
 have HB := am (Below.refl w.heap.size w)
 have H : (if (mx a0 (-2147483648)) > (mn a1 2147483647) then ((impl_rangeNone.f).bind fun bt117 => (some (bt117.1, bt117.2))) else (some (mx a0 (-2147483648), mn a1 2147483647))) = some (r1, r2) := h
 clear h
 obtain ⟨ji3, hji3⟩ : ∃ j_ : Int, (mx a0 (-2147483648)) = j_ := ⟨_, rfl⟩
 replace H : (if (ji3) > (mn a1 2147483647) then ((impl_rangeNone.f).bind fun bt117 => (some (bt117.1, bt117.2))) else (some (ji3, mn a1 2147483647))) = some (r1, r2) := by first | (rw [hji3] at H; exact H) | (simp only [hji3] at H ⊢; exact H)
 have hji3_ : (if a0 < (-2147483648) then (-2147483648) else a0) = ji3 := hji3
 obtain ⟨ji4, hji4⟩ : ∃ j_ : Int, (mn a1 2147483647) = j_ := ⟨_, rfl⟩
 replace H : (if (ji3) > (ji4) then ((impl_rangeNone.f).bind fun bt117 => (some (bt117.1, bt117.2))) else (some (ji3, ji4))) = some (r1, r2) := by first | (rw [hji4] at H; exact H) | (simp only [hji4] at H ⊢; exact H)
 (try (have hji4h : ji4 ≤ 2147483647 := by (rw [← hji4]; unfold mn; (repeat' split) <;> omega)))
 (try (have hji4g : ji4 ≤ 64 := by omega))
 have hji4_ : (if 2147483647 < a1 then 2147483647 else a1) = ji4 := hji4
 by_cases c5 : (ji3) > (ji4)
 ·rw [if_pos c5] at H
  have c5b0 : decide ((ji4) < (ji3)) = true := decide_eq_true c5
  clear c5
  replace H := Option.bind_eq_some_iff.mp H
  obtain ⟨⟨t117, t118⟩, A60, H⟩ := H
  replace H : (some (t117, t118)) = some (r1, r2) := H
  have A6 := am A60
  clear A60
  simp only [Option.some.injEq, Prod.mk.injEq] at H
  obtain ⟨rfl, rfl⟩ := H
  go_enter Try.func50, Try.ntmps50
  go_wp2_with (first | ((with_reducible refine gate_dst (N := 4) rfl ?_); refine box_event ?hg (N := 4) ?hd (cs := #[.int .i64 0, .int .i64 0]) (t := 24) ?hr ?_; (case hd => rfl); (case hg => rfl); (case hr => first | (go_simp; done) | (go_simp; rfl)); intro gb115 hg w7 hbox hb; have BK115 := am (hbox); have GW115 := am ((by rw [hg]; exact (below_size (Y0 HB)) : w.heap.size ≤ gb115)); have GE115 := am ((by rw [hg]; exact (below_size (Y0 HB)) : w.heap.size ≤ gb115)); replace HB := am (below_step (Y0 HB) hb); clear hb hbox hg; (try have hxs0_1 : ∀ x_ : Value, (w7.setCell ⟨gb115, 0, none⟩ x_).cell? ⟨gb115, 1, none⟩ = some (.int .i64 0) := fun x_ => (World.cell?_setCell_other _ _ _ _ (by simp)).trans (bc BK115 1)); (try have hxs1_0 : ∀ x_ : Value, (w7.setCell ⟨gb115, 1, none⟩ x_).cell? ⟨gb115, 0, none⟩ = some (.int .i64 0) := fun x_ => (World.cell?_setCell_other _ _ _ _ (by simp)).trans (bc BK115 0))) | ((with_reducible refine gate_dst (N := 5) rfl ?_); refine box_event ?hg (N := 5) ?hd (cs := #[.int .i64 0, .int .i64 0]) (t := 24) ?hr ?_; (case hd => rfl); (case hg => rfl); (case hr => first | (go_simp; done) | (go_simp; rfl)); intro gb116 hg w8 hbox hb; have BK116 := am (hbox); have GW116 := am ((by rw [hg]; exact (below_size (Y1 HB GE115)) : w.heap.size ≤ gb116)); have GE116 := am ((by rw [hg]; exact (below_size (Y1 HB GE115)) : w.heap.size ≤ gb116)); have NB115_116 := am ((nl (o := b2 0 0 24) hg (Z BK115) : gb115 ≠ gb116)); have NB116_115 := am ((ng (o := b2 0 0 24) hg (Z BK115) : gb116 ≠ gb115)); replace BK115 := am (blk_below (g := gb115) (o := b2 0 0 24) (Z BK115) hb); replace HB := am (below_step (Y1 HB GE115) hb); clear hb hbox hg; have hnb9 := NB116_115.out; have hnc9 := NB115_116.out; have hcz10_0 : w8.cell? ⟨gb116, 0, none⟩ = some (.int .i64 0) := bc BK116 0; have hcz10_1 : w8.cell? ⟨gb116, 1, none⟩ = some (.int .i64 0) := bc BK116 1; have hfz10_0 := blk_frozen BK116.out 0; have hfz10_1 := blk_frozen BK116.out 1; (try have hxz0_0 : w8.cell? ⟨gb115, 0, none⟩ = some (.int .i64 0) := bc BK115 0); (try have hxf0_0 := blk_frozen BK115.out 0); (try have hxz0_1 : w8.cell? ⟨gb115, 1, none⟩ = some (.int .i64 0) := bc BK115 1); (try have hxf0_1 := blk_frozen BK115.out 1); (try have hxs0_1 : ∀ x_ : Value, (w8.setCell ⟨gb116, 0, none⟩ x_).cell? ⟨gb116, 1, none⟩ = some (.int .i64 0) := fun x_ => (World.cell?_setCell_other _ _ _ _ (by simp)).trans (bc BK116 1)); (try have hxs1_0 : ∀ x_ : Value, (w8.setCell ⟨gb116, 1, none⟩ x_).cell? ⟨gb116, 0, none⟩ = some (.int .i64 0) := fun x_ => (World.cell?_setCell_other _ _ _ _ (by simp)).trans (bc BK116 0))) | ((with_reducible refine gate_callee (f := 48) rfl ?_); refine goesL_ (some 16) rfl rfl Try.func48 (by kernel_rfl) rfl #[] rfl mz ?_; (with_reducible refine (impl_rangeNone.calls  t117 t118 _ A6.out).mono ?_); rintro e w11 ⟨rfl, hb⟩; refine ⟨_, rfl, ?_⟩; replace BK115 := am (blk_below (g := gb115) (o := b2 0 0 24) (by (with_reducible repeat (first | refine blk_drewN ?_ _ | refine blk_drew ?_ | refine blk_alloc ?_ _)); refine blk_far ?_ NB115_116.out _; (with_reducible repeat (first | refine blk_drewN ?_ _ | refine blk_drew ?_ | refine blk_alloc ?_ _)); refine blk_far ?_ NB115_116.out _; (with_reducible repeat (first | refine blk_drewN ?_ _ | refine blk_drew ?_ | refine blk_alloc ?_ _)); exact BK115.out) hb); replace BK116 := am (blk_below (g := gb116) (o := b2 ji3 ji4 24) (by (with_reducible repeat (first | refine blk_drewN ?_ _ | refine blk_drew ?_ | refine blk_alloc ?_ _)); refine blk_put (cs := #[.int .i64 ji3, .int .i64 0]) ?_ 1 _ rfl; (with_reducible repeat (first | refine blk_drewN ?_ _ | refine blk_drew ?_ | refine blk_alloc ?_ _)); refine blk_put (cs := #[.int .i64 0, .int .i64 0]) ?_ 0 _ rfl; (with_reducible repeat (first | refine blk_drewN ?_ _ | refine blk_drew ?_ | refine blk_alloc ?_ _)); exact BK116.out) hb); replace HB := am (below_step (Y2 HB GE115 GE116) hb); (try clear hb); (try clear hb2); (try clear hk); (try clear hi); have hcz12_0 : w11.cell? ⟨gb115, 0, none⟩ = some (.int .i64 0) := bc BK115 0; have hcz12_1 : w11.cell? ⟨gb115, 1, none⟩ = some (.int .i64 0) := bc BK115 1; have hfz12_0 := blk_frozen BK115.out 0; have hfz12_1 := blk_frozen BK115.out 1))
  refine bodyPost_ret (results_cell_row rfl _ _ gb115 24 #[.int .i64 t117, .int .i64 t118] (0, 0) _ rfl (by (with_reducible repeat (first | refine blk_drewN ?_ _ | refine blk_drew ?_ | refine blk_alloc ?_ _)); refine blk_put (cs := #[.int .i64 t117, .int .i64 0]) ?_ 1 _ rfl; (with_reducible repeat (first | refine blk_drewN ?_ _ | refine blk_drew ?_ | refine blk_alloc ?_ _)); refine blk_put (cs := #[.int .i64 0, .int .i64 0]) ?_ 0 _ rfl; (with_reducible repeat (first | refine blk_drewN ?_ _ | refine blk_drew ?_ | refine blk_alloc ?_ _)); exact BK115.out) Try.underlying24 rfl (by kernel_rfl)) rfl ?_
  exact ⟨by first | rfl | (simp [errW_none, errW_some] <;> rfl) | (simp only [← hji3, ← hji4]; first | rfl | (simp [errW_none, errW_some] <;> rfl)) | (simp [*, errW_none, errW_some] <;> rfl), Y2 HB GE115 GE116⟩
 ·rw [if_neg c5] at H
  have c5b0 : decide ((ji4) < (ji3)) = false := decide_eq_false c5
  clear c5
  simp only [Option.some.injEq, Prod.mk.injEq] at H
  obtain ⟨rfl, rfl⟩ := H
  go_enter Try.func50, Try.ntmps50
  go_wp2_with (first | ((with_reducible refine gate_dst (N := 4) rfl ?_); refine box_event ?hg (N := 4) ?hd (cs := #[.int .i64 0, .int .i64 0]) (t := 24) ?hr ?_; (case hd => rfl); (case hg => rfl); (case hr => first | (go_simp; done) | (go_simp; rfl)); intro gb115 hg w13 hbox hb; have BK115 := am (hbox); have GW115 := am ((by rw [hg]; exact (below_size (Y0 HB)) : w.heap.size ≤ gb115)); have GE115 := am ((by rw [hg]; exact (below_size (Y0 HB)) : w.heap.size ≤ gb115)); replace HB := am (below_step (Y0 HB) hb); clear hb hbox hg; (try have hxs0_1 : ∀ x_ : Value, (w13.setCell ⟨gb115, 0, none⟩ x_).cell? ⟨gb115, 1, none⟩ = some (.int .i64 0) := fun x_ => (World.cell?_setCell_other _ _ _ _ (by simp)).trans (bc BK115 1)); (try have hxs1_0 : ∀ x_ : Value, (w13.setCell ⟨gb115, 1, none⟩ x_).cell? ⟨gb115, 0, none⟩ = some (.int .i64 0) := fun x_ => (World.cell?_setCell_other _ _ _ _ (by simp)).trans (bc BK115 0))) | ((with_reducible refine gate_dst (N := 5) rfl ?_); refine box_event ?hg (N := 5) ?hd (cs := #[.int .i64 0, .int .i64 0]) (t := 24) ?hr ?_; (case hd => rfl); (case hg => rfl); (case hr => first | (go_simp; done) | (go_simp; rfl)); intro gb116 hg w14 hbox hb; have BK116 := am (hbox); have GW116 := am ((by rw [hg]; exact (below_size (Y1 HB GE115)) : w.heap.size ≤ gb116)); have GE116 := am ((by rw [hg]; exact (below_size (Y1 HB GE115)) : w.heap.size ≤ gb116)); have NB115_116 := am ((nl (o := b2 0 0 24) hg (Z BK115) : gb115 ≠ gb116)); have NB116_115 := am ((ng (o := b2 0 0 24) hg (Z BK115) : gb116 ≠ gb115)); replace BK115 := am (blk_below (g := gb115) (o := b2 0 0 24) (Z BK115) hb); replace HB := am (below_step (Y1 HB GE115) hb); clear hb hbox hg; have hnb15 := NB116_115.out; have hnc15 := NB115_116.out; have hcz16_0 : w14.cell? ⟨gb116, 0, none⟩ = some (.int .i64 0) := bc BK116 0; have hcz16_1 : w14.cell? ⟨gb116, 1, none⟩ = some (.int .i64 0) := bc BK116 1; have hfz16_0 := blk_frozen BK116.out 0; have hfz16_1 := blk_frozen BK116.out 1; have hcz17_0 : w14.cell? ⟨gb115, 0, none⟩ = some (.int .i64 0) := bc BK115 0; have hcz17_1 : w14.cell? ⟨gb115, 1, none⟩ = some (.int .i64 0) := bc BK115 1; have hfz17_0 := blk_frozen BK115.out 0; have hfz17_1 := blk_frozen BK115.out 1; (try have hxs0_1 : ∀ x_ : Value, (w14.setCell ⟨gb116, 0, none⟩ x_).cell? ⟨gb116, 1, none⟩ = some (.int .i64 0) := fun x_ => (World.cell?_setCell_other _ _ _ _ (by simp)).trans (bc BK116 1)); (try have hxs1_0 : ∀ x_ : Value, (w14.setCell ⟨gb116, 1, none⟩ x_).cell? ⟨gb116, 0, none⟩ = some (.int .i64 0) := fun x_ => (World.cell?_setCell_other _ _ _ _ (by simp)).trans (bc BK116 0))))
  refine bodyPost_ret (results_cell_row rfl _ _ gb115 24 #[.int .i64 ji3, .int .i64 ji4] (0, 0) _ rfl (by (with_reducible repeat (first | refine blk_drewN ?_ _ | refine blk_drew ?_ | refine blk_alloc ?_ _)); refine blk_put (cs := #[.int .i64 ji3, .int .i64 0]) ?_ 1 _ rfl; (with_reducible repeat (first | refine blk_drewN ?_ _ | refine blk_drew ?_ | refine blk_alloc ?_ _)); refine blk_put (cs := #[.int .i64 0, .int .i64 0]) ?_ 0 _ rfl; (with_reducible repeat (first | refine blk_drewN ?_ _ | refine blk_drew ?_ | refine blk_alloc ?_ _)); refine blk_far ?_ NB115_116.out _; (with_reducible repeat (first | refine blk_drewN ?_ _ | refine blk_drew ?_ | refine blk_alloc ?_ _)); refine blk_far ?_ NB115_116.out _; (with_reducible repeat (first | refine blk_drewN ?_ _ | refine blk_drew ?_ | refine blk_alloc ?_ _)); exact BK115.out) Try.underlying24 rfl (by kernel_rfl)) rfl ?_
  exact ⟨by first | rfl | (simp [errW_none, errW_some] <;> rfl) | (simp only [← hji3, ← hji4]; first | rfl | (simp [errW_none, errW_some] <;> rfl)) | (simp [*, errW_none, errW_some] <;> rfl), Y2 HB GE115 GE116⟩

/-! ### impl_NumWrap: function 62 -/
def impl_NumWrap.f (a0 : Int) : Option (Int) := some (wrap64 (wrap32 (a0)))
set_option maxHeartbeats 8000000 in
set_option maxRecDepth 100000 in
theorem impl_NumWrap.calls (a0 : Int) (r : Int) (w : World) (h : impl_NumWrap.f a0 = some r) :
  Calls Try.prog 62 #[.int .i64 a0] w fun e w' => e = .returned (.int .i64 r) ∧ Drawn0 w w' := by
 have H : (some (wrap64 (wrap32 (a0)))) = some r := h
 clear h
 obtain rfl := Option.some.inj H
 go_enter Try.func62, Try.ntmps62
 go_wp2
 go_ret
 exact ⟨by first | rfl | (simp; done) | (simp [*]; done), by repeat (first | exact Drawn0.refl _ | apply Drawn0.step)⟩

/-! ### impl_rangeWrap: function 51 -/
def impl_rangeWrap.j0 : Nat → Int → Int → Bool → Option (Int × Int)
 | 0, _, _, _ => none
 | k + 1, x7, x8, x26 => if x26 = true then ((impl_rangeFrom.f (-2147483648) 2147483647).bind fun bt126 => (some (bt126.1, bt126.2))) else ((impl_NumWrap.f x7).bind fun t128 => ((impl_NumWrap.f x8).bind fun t129 => ((impl_rangeFrom.f t128 t129).bind fun bt130 => (some (bt130.1, bt130.2)))))
def impl_rangeWrap.f (k : Nat) (a0 : Int) (a1_0 : Int) (a1_1 : Int) (a2_0 : Int) (a2_1 : Int) : Option (Int × Int) := (impl_rangeCorners.f k a0 a1_0 a1_1 a2_0 a2_1).bind fun bt122 => (if (wrap64 (bt122.2 - bt122.1)) > 4294967295 then (impl_rangeWrap.j0 k bt122.1 bt122.2 true) else ((impl_NumWrap.f bt122.1).bind fun t124 => ((impl_NumWrap.f bt122.2).bind fun t125 => (impl_rangeWrap.j0 k bt122.1 bt122.2 (decide (t124 > t125))))))
theorem impl_rangeWrap.mono_l : ∀ k, (∀ y0 y1 y2, LeO (impl_rangeWrap.j0 k y0 y1 y2) (impl_rangeWrap.j0 (k + 1) y0 y1 y2))
 | 0 => fun _ _ _ r h => by simp [impl_rangeWrap.j0] at h
 | k + 1 => by
  have ih0 := impl_rangeWrap.mono_l k
  ·intro y0 y1 y2
   unfold impl_rangeWrap.j0
   repeat' first
   | (with_reducible exact ih0 _ _ _)
   | (with_reducible exact impl_rangeCorners.mono _ _ _ _ _ _)
   | (with_reducible exact LeO.refl _)
   | (with_reducible exact LeO.none _)
   | (with_reducible refine LeO.ite ?_ ?_)
   | (with_reducible refine LeO.bind ?_ (fun _ => ?_))
   | exact ih0 _ _ _
   | exact impl_rangeCorners.mono _ _ _ _ _ _
   | exact LeO.none _
   | refine LeO.ite ?_ ?_
   | refine LeO.bind ?_ (fun _ => ?_)
theorem impl_rangeWrap.mono : ∀ a0 a1 a2 a3 a4 k, LeO (impl_rangeWrap.f k a0 a1 a2 a3 a4) (impl_rangeWrap.f (k + 1) a0 a1 a2 a3 a4) := by
 intro a0 a1 a2 a3 a4 k
 have ih0 := impl_rangeWrap.mono_l k
 unfold impl_rangeWrap.f
 repeat' first
   | (with_reducible exact ih0 _ _ _)
   | (with_reducible exact impl_rangeCorners.mono _ _ _ _ _ _)
   | (with_reducible exact LeO.refl _)
   | (with_reducible exact LeO.none _)
   | (with_reducible refine LeO.ite ?_ ?_)
   | (with_reducible refine LeO.bind ?_ (fun _ => ?_))
   | exact ih0 _ _ _
   | exact impl_rangeCorners.mono _ _ _ _ _ _
   | exact LeO.none _
   | refine LeO.ite ?_ ?_
   | refine LeO.bind ?_ (fun _ => ?_)
set_option maxHeartbeats 8000000 in
set_option maxRecDepth 100000 in
theorem impl_rangeWrap.calls (k : Nat) (a0 : Int) (a1_0 : Int) (a1_1 : Int) (a2_0 : Int) (a2_1 : Int) (r1 : Int) (r2 : Int) (w : World) (h : impl_rangeWrap.f k a0 a1_0 a1_1 a2_0 a2_1 = some (r1, r2)) :
  Calls Try.prog 51 #[.int .i64 a0, .agg #[.int .i64 a1_0, .int .i64 a1_1], .agg #[.int .i64 a2_0, .int .i64 a2_1]] w fun e w' => e = .returned (.agg #[.int .i64 r1, .int .i64 r2]) ∧ Below w.heap.size w w' := by
 have hu24 := Try.underlying24
 have HB := am (Below.refl w.heap.size w)
 have H : ((impl_rangeCorners.f k a0 a1_0 a1_1 a2_0 a2_1).bind fun bt122 => (if (wrap64 (bt122.2 - bt122.1)) > 4294967295 then (impl_rangeWrap.j0 k bt122.1 bt122.2 true) else ((impl_NumWrap.f bt122.1).bind fun t124 => ((impl_NumWrap.f bt122.2).bind fun t125 => (impl_rangeWrap.j0 k bt122.1 bt122.2 (decide (t124 > t125))))))) = some (r1, r2) := h
 clear h
 replace H := Option.bind_eq_some_iff.mp H
 obtain ⟨⟨t122, t123⟩, A40, H⟩ := H
 replace H : (if (wrap64 (t123 - t122)) > 4294967295 then (impl_rangeWrap.j0 k t122 t123 true) else ((impl_NumWrap.f t122).bind fun t124 => ((impl_NumWrap.f t123).bind fun t125 => (impl_rangeWrap.j0 k t122 t123 (decide (t124 > t125)))))) = some (r1, r2) := H
 have A4 := am A40
 clear A40
 have HC5 := am H
 clear H
 go_enter Try.func51, Try.ntmps51
 go_upto_region 2 with (first | ((with_reducible refine gate_dst (N := 4) rfl ?_); refine box_event ?hg (N := 4) ?hd (cs := #[.int .i64 a1_0, .int .i64 a1_1]) (t := 24) ?hr ?_; (case hd => rfl); (case hg => rfl); (case hr => first | (go_simp; done) | (go_simp; rfl)); intro gb119 hg w6 hbox hb; have BK119 := am (hbox); have GW119 := am ((by rw [hg]; exact (below_size (Y0 HB)) : w.heap.size ≤ gb119)); have GE119 := am ((by rw [hg]; exact (below_size (Y0 HB)) : w.heap.size ≤ gb119)); replace HB := am (below_step (Y0 HB) hb); clear hb hbox hg) | ((with_reducible refine gate_dst (N := 5) rfl ?_); refine box_event ?hg (N := 5) ?hd (cs := #[.int .i64 a2_0, .int .i64 a2_1]) (t := 24) ?hr ?_; (case hd => rfl); (case hg => rfl); (case hr => first | (go_simp; done) | (go_simp; rfl)); intro gb120 hg w7 hbox hb; have BK120 := am (hbox); have GW120 := am ((by rw [hg]; exact (below_size (Y1 HB GE119)) : w.heap.size ≤ gb120)); have GE120 := am ((by rw [hg]; exact (below_size (Y1 HB GE119)) : w.heap.size ≤ gb120)); have NB119_120 := am ((nl (o := b2 a1_0 a1_1 24) hg (Z BK119) : gb119 ≠ gb120)); have NB120_119 := am ((ng (o := b2 a1_0 a1_1 24) hg (Z BK119) : gb120 ≠ gb119)); replace BK119 := am (blk_below (g := gb119) (o := b2 a1_0 a1_1 24) (Z BK119) hb); replace HB := am (below_step (Y1 HB GE119) hb); clear hb hbox hg) | ((with_reducible refine gate_dst (N := 6) rfl ?_); refine box_event ?hg (N := 6) ?hd (cs := #[.int .i64 0, .int .i64 0]) (t := 24) ?hr ?_; (case hd => rfl); (case hg => rfl); (case hr => first | (go_simp; done) | (go_simp; rfl)); intro gb121 hg w8 hbox hb; have BK121 := am (hbox); have GW121 := am ((by rw [hg]; exact (below_size (Y2 HB GE119 GE120)) : w.heap.size ≤ gb121)); have GE121 := am ((by rw [hg]; exact (below_size (Y2 HB GE119 GE120)) : w.heap.size ≤ gb121)); have NB119_121 := am ((nl (o := b2 a1_0 a1_1 24) hg (Z BK119) : gb119 ≠ gb121)); have NB121_119 := am ((ng (o := b2 a1_0 a1_1 24) hg (Z BK119) : gb121 ≠ gb119)); have NB120_121 := am ((nl (o := b2 a2_0 a2_1 24) hg (Z BK120) : gb120 ≠ gb121)); have NB121_120 := am ((ng (o := b2 a2_0 a2_1 24) hg (Z BK120) : gb121 ≠ gb120)); replace BK119 := am (blk_below (g := gb119) (o := b2 a1_0 a1_1 24) (Z BK119) hb); replace BK120 := am (blk_below (g := gb120) (o := b2 a2_0 a2_1 24) (Z BK120) hb); replace HB := am (below_step (Y2 HB GE119 GE120) hb); clear hb hbox hg; have hnb9 := NB119_120.out; have hnc9 := NB120_119.out; have hnb10 := NB119_121.out; have hnc10 := NB121_119.out; have hcz11_0 : w8.cell? ⟨gb119, 0, none⟩ = some (.int .i64 a1_0) := bc BK119 0; have hcz11_1 : w8.cell? ⟨gb119, 1, none⟩ = some (.int .i64 a1_1) := bc BK119 1; have hfz11_0 := blk_frozen BK119.out 0; have hfz11_1 := blk_frozen BK119.out 1; have hnb12 := NB120_121.out; have hnc12 := NB121_120.out; have hcz13_0 : w8.cell? ⟨gb120, 0, none⟩ = some (.int .i64 a2_0) := bc BK120 0; have hcz13_1 : w8.cell? ⟨gb120, 1, none⟩ = some (.int .i64 a2_1) := bc BK120 1; have hfz13_0 := blk_frozen BK120.out 0; have hfz13_1 := blk_frozen BK120.out 1) | ((with_reducible refine gate_callee (f := 49) rfl ?_); refine goesL_ (some 13) rfl rfl Try.func49 (by kernel_rfl) rfl #[.int .i64 a0, .agg #[.int .i64 a1_0, .int .i64 a1_1], .agg #[.int .i64 a2_0, .int .i64 a2_1]] rfl mz ?_; (with_reducible refine (impl_rangeCorners.calls k a0 a1_0 a1_1 a2_0 a2_1 t122 t123 _ A4.out).mono ?_); rintro e w14 ⟨rfl, hb⟩; refine ⟨_, rfl, ?_⟩; replace BK119 := am (blk_below (g := gb119) (o := b2 a1_0 a1_1 24) (Z BK119) hb); replace BK120 := am (blk_below (g := gb120) (o := b2 a2_0 a2_1 24) (Z BK120) hb); replace BK121 := am (blk_below (g := gb121) (o := b2 0 0 24) (Z BK121) hb); replace HB := am (below_step (Y3 HB GE119 GE120 GE121) hb); (try clear hb); (try clear hb2); (try clear hk); (try clear hi)))
 (try simp only [Act.put, List.setIfInBounds_toArray, List.set_cons_zero, List.set_cons_succ])
 go_cut [26] (fun v26 wc => ∃ (kq : Nat) (x26_4 : Bool), v26 = .bool x26_4 ∧ Aside0 (impl_rangeWrap.j0 kq t122 t123 x26_4 = some (r1, r2)) ∧ Aside0 (kq ≤ k) ∧ Aside0 (wc.heap[gb119]? = some (.cells #[.int .i64 a1_0, .int .i64 a1_1] 24 (0, 0))) ∧ Aside0 (wc.heap[gb120]? = some (.cells #[.int .i64 a2_0, .int .i64 a2_1] 24 (0, 0))) ∧ Aside0 (wc.heap[gb121]? = some (.cells #[.int .i64 0, .int .i64 0] 24 (0, 0))) ∧ Aside0 (Below w.heap.size w wc))
 case first =>
  have H := HC5.out
  clear HC5
  by_cases c15 : (wrap64 (t123 - t122)) > 4294967295
  ·rw [if_pos c15] at H
   have c15b0 : decide (4294967295 < (wrap64 (t123 - t122))) = true := decide_eq_true c15
   clear c15
   (first | rw [c15b0] | (simp only [i64_w, i32_w]; rw [c15b0]) | skip)
   have H' := am H
   clear H
   go_wp2
   go_meet
   case rel => exact ⟨_, (true), (by first | rfl | (simp; done) | (simp [*]; done)), H', ⟨by first | omega | exact Nat.le_refl _⟩, ⟨Z BK119⟩, ⟨Z BK120⟩, ⟨Z BK121⟩, ⟨Y3 HB GE119 GE120 GE121⟩⟩
  ·rw [if_neg c15] at H
   have c15b0 : decide (4294967295 < (wrap64 (t123 - t122))) = false := decide_eq_false c15
   clear c15
   (first | rw [c15b0] | (simp only [i64_w, i32_w]; rw [c15b0]) | skip)
   replace H := Option.bind_eq_some_iff.mp H
   obtain ⟨t124, A160, H⟩ := H
   replace H : ((impl_NumWrap.f t123).bind fun t125 => (impl_rangeWrap.j0 k t122 t123 (decide (t124 > t125)))) = some (r1, r2) := H
   have A16 := am A160
   clear A160
   replace H := Option.bind_eq_some_iff.mp H
   obtain ⟨t125, A170, H⟩ := H
   replace H : (impl_rangeWrap.j0 k t122 t123 (decide (t124 > t125))) = some (r1, r2) := H
   have A17 := am A170
   clear A170
   have H' := am H
   clear H
   go_wp2_with (first | (go_at_call 62; (with_reducible refine (impl_NumWrap.calls t122 t124 _ A16.out).mono ?_); rintro e w' ⟨rfl, ⟨nd, rfl⟩⟩) | (go_at_call 62; (with_reducible refine (impl_NumWrap.calls t123 t125 _ A17.out).mono ?_); rintro e w' ⟨rfl, ⟨nd, rfl⟩⟩))
   go_meet
   case rel => exact ⟨_, (decide (t124 > t125)), (by first | rfl | (simp; done) | (simp [*]; done)), H', ⟨by first | omega | exact Nat.le_refl _⟩, ⟨Z BK119⟩, ⟨Z BK120⟩, ⟨Z BK121⟩, ⟨Y3 HB GE119 GE120 GE121⟩⟩
 case rest =>
  clear HC5
  try clear c1
  try clear p2
  try clear c4
  try clear c5
  try clear p6
  try clear c9
  try clear c10
  try clear c12
  try clear c15
  try clear c15b0
  try clear hcz11_0
  try clear hcz11_1
  try clear hcz13_0
  try clear hcz13_1
  try clear hfz11_0
  try clear hfz11_1
  try clear hfz13_0
  try clear hfz13_1
  obtain ⟨kq, x26_4, rfl, HA, HJ4, BK119, BK120, BK121, HB⟩ := hcut
  cases kq with
  | zero => exact absurd HA.out (by simp [impl_rangeWrap.j0])
  | succ kj4 =>
   have H := HA.out
   clear HA
   simp only [impl_rangeWrap.j0] at H
   by_cases c18 : x26_4 = true
   ·subst c18
    have H1 : ((impl_rangeFrom.f (-2147483648) 2147483647).bind fun bt126 => (some (bt126.1, bt126.2))) = some (r1, r2) := by rw [if_pos rfl] at H; exact H
    clear H
    have H := H1
    clear H1
    replace H := Option.bind_eq_some_iff.mp H
    obtain ⟨⟨t126, t127⟩, A190, H⟩ := H
    replace H : (some (t126, t127)) = some (r1, r2) := H
    have A19 := am A190
    clear A190
    simp only [Option.some.injEq, Prod.mk.injEq] at H
    obtain ⟨rfl, rfl⟩ := H
    go_wp2_with (first | ((with_reducible refine gate_callee (f := 50) rfl ?_); refine goesL_ (some 27) rfl rfl Try.func50 (by kernel_rfl) rfl #[.int .i64 (-2147483648), .int .i64 2147483647] rfl mz ?_; (with_reducible refine (impl_rangeFrom.calls (-2147483648) 2147483647 t126 t127 _ A19.out).mono ?_); rintro e w20 ⟨rfl, hb⟩; refine ⟨_, rfl, ?_⟩; replace BK119 := am (blk_below (g := gb119) (o := b2 a1_0 a1_1 24) (Z BK119) hb); replace BK120 := am (blk_below (g := gb120) (o := b2 a2_0 a2_1 24) (Z BK120) hb); replace BK121 := am (blk_below (g := gb121) (o := b2 0 0 24) (Z BK121) hb); replace HB := am (below_step (Y3 HB GE119 GE120 GE121) hb); (try clear hb); (try clear hb2); (try clear hk); (try clear hi); have hnb21 := NB121_119.out; have hnc21 := NB119_121.out; have hnb22 := NB121_120.out; have hnc22 := NB120_121.out; have hcz23_0 : w20.cell? ⟨gb121, 0, none⟩ = some (.int .i64 0) := bc BK121 0; have hcz23_1 : w20.cell? ⟨gb121, 1, none⟩ = some (.int .i64 0) := bc BK121 1; have hfz23_0 := blk_frozen BK121.out 0; have hfz23_1 := blk_frozen BK121.out 1))
    refine bodyPost_ret (results_cell_row rfl _ _ gb121 24 #[.int .i64 t126, .int .i64 t127] (0, 0) _ rfl (by (with_reducible repeat (first | refine blk_drewN ?_ _ | refine blk_drew ?_ | refine blk_alloc ?_ _)); refine blk_put (cs := #[.int .i64 t126, .int .i64 0]) ?_ 1 _ rfl; (with_reducible repeat (first | refine blk_drewN ?_ _ | refine blk_drew ?_ | refine blk_alloc ?_ _)); refine blk_put (cs := #[.int .i64 0, .int .i64 0]) ?_ 0 _ rfl; (with_reducible repeat (first | refine blk_drewN ?_ _ | refine blk_drew ?_ | refine blk_alloc ?_ _)); exact BK121.out) Try.underlying24 rfl (by kernel_rfl)) rfl ?_
    exact ⟨by first | rfl | (simp [errW_none, errW_some] <;> rfl) | (simp [*, errW_none, errW_some] <;> rfl), Y3 HB GE119 GE120 GE121⟩
   ·replace c18 := Bool.eq_false_iff.mpr c18
    subst c18
    have H1 : ((impl_NumWrap.f t122).bind fun t128 => ((impl_NumWrap.f t123).bind fun t129 => ((impl_rangeFrom.f t128 t129).bind fun bt130 => (some (bt130.1, bt130.2))))) = some (r1, r2) := by rw [if_neg (show ¬ (false = true) by decide)] at H; exact H
    clear H
    have H := H1
    clear H1
    replace H := Option.bind_eq_some_iff.mp H
    obtain ⟨t128, A240, H⟩ := H
    replace H : ((impl_NumWrap.f t123).bind fun t129 => ((impl_rangeFrom.f t128 t129).bind fun bt130 => (some (bt130.1, bt130.2)))) = some (r1, r2) := H
    have A24 := am A240
    clear A240
    replace H := Option.bind_eq_some_iff.mp H
    obtain ⟨t129, A250, H⟩ := H
    replace H : ((impl_rangeFrom.f t128 t129).bind fun bt130 => (some (bt130.1, bt130.2))) = some (r1, r2) := H
    have A25 := am A250
    clear A250
    replace H := Option.bind_eq_some_iff.mp H
    obtain ⟨⟨t130, t131⟩, A260, H⟩ := H
    replace H : (some (t130, t131)) = some (r1, r2) := H
    have A26 := am A260
    clear A260
    simp only [Option.some.injEq, Prod.mk.injEq] at H
    obtain ⟨rfl, rfl⟩ := H
    go_wp2_with (first | ((with_reducible refine gate_callee (f := 62) rfl ?_); refine goesL_ (some 29) rfl rfl Try.func62 (by kernel_rfl) rfl #[.int .i64 t122] rfl mz ?_; (with_reducible refine (impl_NumWrap.calls t122 t128 _ A24.out).mono ?_); rintro e w' ⟨rfl, ⟨nd, rfl⟩⟩; refine ⟨_, rfl, ?_⟩; (try (rw [drewN_self wc]; generalize hq_ : World.drewN wc _ = wc; replace BK119 : Aside0 (wc.heap[gb119]? = some (.cells #[.int .i64 a1_0, .int .i64 a1_1] 24 (0, 0))) := ⟨by rw [← hq_]; exact (Z BK119)⟩; replace BK120 : Aside0 (wc.heap[gb120]? = some (.cells #[.int .i64 a2_0, .int .i64 a2_1] 24 (0, 0))) := ⟨by rw [← hq_]; exact (Z BK120)⟩; replace BK121 : Aside0 (wc.heap[gb121]? = some (.cells #[.int .i64 0, .int .i64 0] 24 (0, 0))) := ⟨by rw [← hq_]; exact (Z BK121)⟩; replace HB : Aside0 (Below w.heap.size w wc) := ⟨by rw [← hq_]; exact (Y3 HB GE119 GE120 GE121)⟩; clear hq_))) | ((with_reducible refine gate_callee (f := 62) rfl ?_); refine goesL_ (some 31) rfl rfl Try.func62 (by kernel_rfl) rfl #[.int .i64 t123] rfl mz ?_; (with_reducible refine (impl_NumWrap.calls t123 t129 _ A25.out).mono ?_); rintro e w' ⟨rfl, ⟨nd, rfl⟩⟩; refine ⟨_, rfl, ?_⟩; (try (rw [drewN_self wc]; generalize hq_ : World.drewN wc _ = wc; replace BK119 : Aside0 (wc.heap[gb119]? = some (.cells #[.int .i64 a1_0, .int .i64 a1_1] 24 (0, 0))) := ⟨by rw [← hq_]; exact (Z BK119)⟩; replace BK120 : Aside0 (wc.heap[gb120]? = some (.cells #[.int .i64 a2_0, .int .i64 a2_1] 24 (0, 0))) := ⟨by rw [← hq_]; exact (Z BK120)⟩; replace BK121 : Aside0 (wc.heap[gb121]? = some (.cells #[.int .i64 0, .int .i64 0] 24 (0, 0))) := ⟨by rw [← hq_]; exact (Z BK121)⟩; replace HB : Aside0 (Below w.heap.size w wc) := ⟨by rw [← hq_]; exact (Y3 HB GE119 GE120 GE121)⟩; clear hq_))) | ((with_reducible refine gate_callee (f := 50) rfl ?_); refine goesL_ (some 32) rfl rfl Try.func50 (by kernel_rfl) rfl #[.int .i64 t128, .int .i64 t129] rfl mz ?_; (with_reducible refine (impl_rangeFrom.calls t128 t129 t130 t131 _ A26.out).mono ?_); rintro e w27 ⟨rfl, hb⟩; refine ⟨_, rfl, ?_⟩; replace BK119 := am (blk_below (g := gb119) (o := b2 a1_0 a1_1 24) (Z BK119) hb); replace BK120 := am (blk_below (g := gb120) (o := b2 a2_0 a2_1 24) (Z BK120) hb); replace BK121 := am (blk_below (g := gb121) (o := b2 0 0 24) (Z BK121) hb); replace HB := am (below_step (Y3 HB GE119 GE120 GE121) hb); (try clear hb); (try clear hb2); (try clear hk); (try clear hi); have hnb28 := NB121_119.out; have hnc28 := NB119_121.out; have hnb29 := NB121_120.out; have hnc29 := NB120_121.out; have hcz30_0 : w27.cell? ⟨gb121, 0, none⟩ = some (.int .i64 0) := bc BK121 0; have hcz30_1 : w27.cell? ⟨gb121, 1, none⟩ = some (.int .i64 0) := bc BK121 1; have hfz30_0 := blk_frozen BK121.out 0; have hfz30_1 := blk_frozen BK121.out 1))
    refine bodyPost_ret (results_cell_row rfl _ _ gb121 24 #[.int .i64 t130, .int .i64 t131] (0, 0) _ rfl (by (with_reducible repeat (first | refine blk_drewN ?_ _ | refine blk_drew ?_ | refine blk_alloc ?_ _)); refine blk_put (cs := #[.int .i64 t130, .int .i64 0]) ?_ 1 _ rfl; (with_reducible repeat (first | refine blk_drewN ?_ _ | refine blk_drew ?_ | refine blk_alloc ?_ _)); refine blk_put (cs := #[.int .i64 0, .int .i64 0]) ?_ 0 _ rfl; (with_reducible repeat (first | refine blk_drewN ?_ _ | refine blk_drew ?_ | refine blk_alloc ?_ _)); exact BK121.out) Try.underlying24 rfl (by kernel_rfl)) rfl ?_
    exact ⟨by first | rfl | (simp [errW_none, errW_some] <;> rfl) | (simp [*, errW_none, errW_some] <;> rfl), Y3 HB GE119 GE120 GE121⟩

/-! ### impl_RangeMeet: function 93 -/
def impl_RangeMeet.j0 : Nat → Bool → Int → Int → Int → Int → Option (Int × Int)
 | 0, _, _, _, _, _ => none
 | k + 1, x20, x133000, x133001, x134000, x134001 => if x20 = true then ((impl_rangeNone.f).bind fun bt139 => (some (bt139.1, bt139.2))) else ((impl_rangeFrom.f (mx x133000 x134000) (mn x133001 x134001)).bind fun bt141 => (some (bt141.1, bt141.2)))
def impl_RangeMeet.f (k : Nat) (a0_0 : Int) (a0_1 : Int) (a1_0 : Int) (a1_1 : Int) : Option (Int × Int) := (impl_RangeOk.f a0_0 a0_1).bind fun t135 => (if t135 = true then ((impl_RangeOk.f a1_0 a1_1).bind fun t136 => (if t136 = true then ((impl_Range_empty.f a0_0 a0_1).bind fun t137 => (if t137 = true then (impl_RangeMeet.j0 k true a0_0 a0_1 a1_0 a1_1) else ((impl_Range_empty.f a1_0 a1_1).bind fun t138 => (impl_RangeMeet.j0 k t138 a0_0 a0_1 a1_0 a1_1)))) else (impl_RangeMeet.j0 k true a0_0 a0_1 a1_0 a1_1))) else (impl_RangeMeet.j0 k true a0_0 a0_1 a1_0 a1_1))
theorem impl_RangeMeet.mono_l : ∀ k, (∀ y0 y1 y2 y3 y4, LeO (impl_RangeMeet.j0 k y0 y1 y2 y3 y4) (impl_RangeMeet.j0 (k + 1) y0 y1 y2 y3 y4))
 | 0 => fun _ _ _ _ _ r h => by simp [impl_RangeMeet.j0] at h
 | k + 1 => by
  have ih0 := impl_RangeMeet.mono_l k
  ·intro y0 y1 y2 y3 y4
   unfold impl_RangeMeet.j0
   repeat' first
   | (with_reducible exact ih0 _ _ _ _ _)
   | (with_reducible exact LeO.refl _)
   | (with_reducible exact LeO.none _)
   | (with_reducible refine LeO.ite ?_ ?_)
   | (with_reducible refine LeO.bind ?_ (fun _ => ?_))
   | exact ih0 _ _ _ _ _
   | exact LeO.none _
   | refine LeO.ite ?_ ?_
   | refine LeO.bind ?_ (fun _ => ?_)
theorem impl_RangeMeet.mono : ∀ a0 a1 a2 a3 k, LeO (impl_RangeMeet.f k a0 a1 a2 a3) (impl_RangeMeet.f (k + 1) a0 a1 a2 a3) := by
 intro a0 a1 a2 a3 k
 have ih0 := impl_RangeMeet.mono_l k
 unfold impl_RangeMeet.f
 repeat' first
   | (with_reducible exact ih0 _ _ _ _ _)
   | (with_reducible exact LeO.refl _)
   | (with_reducible exact LeO.none _)
   | (with_reducible refine LeO.ite ?_ ?_)
   | (with_reducible refine LeO.bind ?_ (fun _ => ?_))
   | exact ih0 _ _ _ _ _
   | exact LeO.none _
   | refine LeO.ite ?_ ?_
   | refine LeO.bind ?_ (fun _ => ?_)
set_option maxHeartbeats 8000000 in
set_option maxRecDepth 100000 in
theorem impl_RangeMeet.calls (k : Nat) (a0_0 : Int) (a0_1 : Int) (a1_0 : Int) (a1_1 : Int) (r1 : Int) (r2 : Int) (w : World) (h : impl_RangeMeet.f k a0_0 a0_1 a1_0 a1_1 = some (r1, r2)) :
  Calls Try.prog 93 #[.agg #[.int .i64 a0_0, .int .i64 a0_1], .agg #[.int .i64 a1_0, .int .i64 a1_1]] w fun e w' => e = .returned (.agg #[.int .i64 r1, .int .i64 r2]) ∧ Below w.heap.size w w' := by
 have hu24 := Try.underlying24
 have HB := am (Below.refl w.heap.size w)
 have H : ((impl_RangeOk.f a0_0 a0_1).bind fun t135 => (if t135 = true then ((impl_RangeOk.f a1_0 a1_1).bind fun t136 => (if t136 = true then ((impl_Range_empty.f a0_0 a0_1).bind fun t137 => (if t137 = true then (impl_RangeMeet.j0 k true a0_0 a0_1 a1_0 a1_1) else ((impl_Range_empty.f a1_0 a1_1).bind fun t138 => (impl_RangeMeet.j0 k t138 a0_0 a0_1 a1_0 a1_1)))) else (impl_RangeMeet.j0 k true a0_0 a0_1 a1_0 a1_1))) else (impl_RangeMeet.j0 k true a0_0 a0_1 a1_0 a1_1))) = some (r1, r2) := h
 clear h
 have HC3 := am H
 clear H
 go_enter Try.func93, Try.ntmps93
 go_upto_region 1 with (first | ((with_reducible refine gate_dst (N := 2) rfl ?_); refine box_event ?hg (N := 2) ?hd (cs := #[.int .i64 a0_0, .int .i64 a0_1]) (t := 24) ?hr ?_; (case hd => rfl); (case hg => rfl); (case hr => first | (go_simp; done) | (go_simp; rfl)); intro gb132 hg w4 hbox hb; have BK132 := am (hbox); have GW132 := am ((by rw [hg]; exact (below_size (Y0 HB)) : w.heap.size ≤ gb132)); have GE132 := am ((by rw [hg]; exact (below_size (Y0 HB)) : w.heap.size ≤ gb132)); replace HB := am (below_step (Y0 HB) hb); clear hb hbox hg) | ((with_reducible refine gate_dst (N := 3) rfl ?_); refine box_event ?hg (N := 3) ?hd (cs := #[.int .i64 a1_0, .int .i64 a1_1]) (t := 24) ?hr ?_; (case hd => rfl); (case hg => rfl); (case hr => first | (go_simp; done) | (go_simp; rfl)); intro gb133 hg w5 hbox hb; have BK133 := am (hbox); have GW133 := am ((by rw [hg]; exact (below_size (Y1 HB GE132)) : w.heap.size ≤ gb133)); have GE133 := am ((by rw [hg]; exact (below_size (Y1 HB GE132)) : w.heap.size ≤ gb133)); have NB132_133 := am ((nl (o := b2 a0_0 a0_1 24) hg (Z BK132) : gb132 ≠ gb133)); have NB133_132 := am ((ng (o := b2 a0_0 a0_1 24) hg (Z BK132) : gb133 ≠ gb132)); replace BK132 := am (blk_below (g := gb132) (o := b2 a0_0 a0_1 24) (Z BK132) hb); replace HB := am (below_step (Y1 HB GE132) hb); clear hb hbox hg) | ((with_reducible refine gate_dst (N := 4) rfl ?_); refine box_event ?hg (N := 4) ?hd (cs := #[.int .i64 0, .int .i64 0]) (t := 24) ?hr ?_; (case hd => rfl); (case hg => rfl); (case hr => first | (go_simp; done) | (go_simp; rfl)); intro gb134 hg w6 hbox hb; have BK134 := am (hbox); have GW134 := am ((by rw [hg]; exact (below_size (Y2 HB GE132 GE133)) : w.heap.size ≤ gb134)); have GE134 := am ((by rw [hg]; exact (below_size (Y2 HB GE132 GE133)) : w.heap.size ≤ gb134)); have NB132_134 := am ((nl (o := b2 a0_0 a0_1 24) hg (Z BK132) : gb132 ≠ gb134)); have NB134_132 := am ((ng (o := b2 a0_0 a0_1 24) hg (Z BK132) : gb134 ≠ gb132)); have NB133_134 := am ((nl (o := b2 a1_0 a1_1 24) hg (Z BK133) : gb133 ≠ gb134)); have NB134_133 := am ((ng (o := b2 a1_0 a1_1 24) hg (Z BK133) : gb134 ≠ gb133)); replace BK132 := am (blk_below (g := gb132) (o := b2 a0_0 a0_1 24) (Z BK132) hb); replace BK133 := am (blk_below (g := gb133) (o := b2 a1_0 a1_1 24) (Z BK133) hb); replace HB := am (below_step (Y2 HB GE132 GE133) hb); clear hb hbox hg))
 (try simp only [Act.put, List.setIfInBounds_toArray, List.set_cons_zero, List.set_cons_succ])
 go_cut [20] (fun v20 wc => ∃ (kq : Nat) (x20_2 : Bool), v20 = .bool x20_2 ∧ Aside0 (impl_RangeMeet.j0 kq x20_2 a0_0 a0_1 a1_0 a1_1 = some (r1, r2)) ∧ Aside0 (kq ≤ k) ∧ Aside0 (wc.heap[gb132]? = some (.cells #[.int .i64 a0_0, .int .i64 a0_1] 24 (0, 0))) ∧ Aside0 (wc.heap[gb133]? = some (.cells #[.int .i64 a1_0, .int .i64 a1_1] 24 (0, 0))) ∧ Aside0 (wc.heap[gb134]? = some (.cells #[.int .i64 0, .int .i64 0] 24 (0, 0))) ∧ Aside0 (Below w.heap.size w wc))
 case first =>
  have H := HC3.out
  clear HC3
  replace H := Option.bind_eq_some_iff.mp H
  obtain ⟨t135, A70, H⟩ := H
  replace H : (if t135 = true then ((impl_RangeOk.f a1_0 a1_1).bind fun t136 => (if t136 = true then ((impl_Range_empty.f a0_0 a0_1).bind fun t137 => (if t137 = true then (impl_RangeMeet.j0 k true a0_0 a0_1 a1_0 a1_1) else ((impl_Range_empty.f a1_0 a1_1).bind fun t138 => (impl_RangeMeet.j0 k t138 a0_0 a0_1 a1_0 a1_1)))) else (impl_RangeMeet.j0 k true a0_0 a0_1 a1_0 a1_1))) else (impl_RangeMeet.j0 k true a0_0 a0_1 a1_0 a1_1)) = some (r1, r2) := H
  have A7 := am A70
  clear A70
  by_cases c8 : t135 = true
  ·subst c8
   have H1 : ((impl_RangeOk.f a1_0 a1_1).bind fun t136 => (if t136 = true then ((impl_Range_empty.f a0_0 a0_1).bind fun t137 => (if t137 = true then (impl_RangeMeet.j0 k true a0_0 a0_1 a1_0 a1_1) else ((impl_Range_empty.f a1_0 a1_1).bind fun t138 => (impl_RangeMeet.j0 k t138 a0_0 a0_1 a1_0 a1_1)))) else (impl_RangeMeet.j0 k true a0_0 a0_1 a1_0 a1_1))) = some (r1, r2) := by rw [if_pos rfl] at H; exact H
   clear H
   have H := H1
   clear H1
   replace H := Option.bind_eq_some_iff.mp H
   obtain ⟨t136, A90, H⟩ := H
   replace H : (if t136 = true then ((impl_Range_empty.f a0_0 a0_1).bind fun t137 => (if t137 = true then (impl_RangeMeet.j0 k true a0_0 a0_1 a1_0 a1_1) else ((impl_Range_empty.f a1_0 a1_1).bind fun t138 => (impl_RangeMeet.j0 k t138 a0_0 a0_1 a1_0 a1_1)))) else (impl_RangeMeet.j0 k true a0_0 a0_1 a1_0 a1_1)) = some (r1, r2) := H
   have A9 := am A90
   clear A90
   by_cases c10 : t136 = true
   ·subst c10
    have H1 : ((impl_Range_empty.f a0_0 a0_1).bind fun t137 => (if t137 = true then (impl_RangeMeet.j0 k true a0_0 a0_1 a1_0 a1_1) else ((impl_Range_empty.f a1_0 a1_1).bind fun t138 => (impl_RangeMeet.j0 k t138 a0_0 a0_1 a1_0 a1_1)))) = some (r1, r2) := by rw [if_pos rfl] at H; exact H
    clear H
    have H := H1
    clear H1
    replace H := Option.bind_eq_some_iff.mp H
    obtain ⟨t137, A110, H⟩ := H
    replace H : (if t137 = true then (impl_RangeMeet.j0 k true a0_0 a0_1 a1_0 a1_1) else ((impl_Range_empty.f a1_0 a1_1).bind fun t138 => (impl_RangeMeet.j0 k t138 a0_0 a0_1 a1_0 a1_1))) = some (r1, r2) := H
    have A11 := am A110
    clear A110
    by_cases c12 : t137 = true
    ·subst c12
     have H1 : (impl_RangeMeet.j0 k true a0_0 a0_1 a1_0 a1_1) = some (r1, r2) := by rw [if_pos rfl] at H; exact H
     clear H
     have H := H1
     clear H1
     have H' := am H
     clear H
     have hnb13 := NB132_133.out
     have hnc13 := NB133_132.out
     have hnb14 := NB132_134.out
     have hnc14 := NB134_132.out
     have hcz15_0 : w6.cell? ⟨gb132, 0, none⟩ = some (.int .i64 a0_0) := bc BK132 0
     have hcz15_1 : w6.cell? ⟨gb132, 1, none⟩ = some (.int .i64 a0_1) := bc BK132 1
     have hfz15_0 := blk_frozen BK132.out 0
     have hfz15_1 := blk_frozen BK132.out 1
     go_wp2_with (first | ((with_reducible refine gate_callee (f := 46) rfl ?_); refine goesL_ (some 6) rfl rfl Try.func46 (by kernel_rfl) rfl #[.agg #[.int .i64 a0_0, .int .i64 a0_1]] rfl mz ?_; (with_reducible refine (impl_RangeOk.calls a0_0 a0_1 true _ A7.out).mono ?_); rintro e w16 ⟨rfl, hb⟩; refine ⟨_, rfl, ?_⟩; replace BK132 := am (blk_below (g := gb132) (o := b2 a0_0 a0_1 24) (Z BK132) hb); replace BK133 := am (blk_below (g := gb133) (o := b2 a1_0 a1_1 24) (Z BK133) hb); replace BK134 := am (blk_below (g := gb134) (o := b2 0 0 24) (Z BK134) hb); replace HB := am (below_step (Y3 HB GE132 GE133 GE134) hb); (try clear hb); (try clear hb2); (try clear hk); (try clear hi); have hnb17 := NB133_134.out; have hnc17 := NB134_133.out; have hcz18_0 : w16.cell? ⟨gb133, 0, none⟩ = some (.int .i64 a1_0) := bc BK133 0; have hcz18_1 : w16.cell? ⟨gb133, 1, none⟩ = some (.int .i64 a1_1) := bc BK133 1; have hfz18_0 := blk_frozen BK133.out 0; have hfz18_1 := blk_frozen BK133.out 1) | (go_at_call 46; (with_reducible refine (impl_RangeOk.calls a1_0 a1_1 true _ A9.out).mono ?_); rintro e w19 ⟨rfl, hb⟩; replace BK132 := am (blk_below (g := gb132) (o := b2 a0_0 a0_1 24) (Z BK132) hb); replace BK133 := am (blk_below (g := gb133) (o := b2 a1_0 a1_1 24) (Z BK133) hb); replace BK134 := am (blk_below (g := gb134) (o := b2 0 0 24) (Z BK134) hb); replace HB := am (below_step (Y3 HB GE132 GE133 GE134) hb); (try clear hb); (try clear hb2); (try clear hk); (try clear hi); have hcz20_0 : w19.cell? ⟨gb132, 0, none⟩ = some (.int .i64 a0_0) := bc BK132 0; have hcz20_1 : w19.cell? ⟨gb132, 1, none⟩ = some (.int .i64 a0_1) := bc BK132 1; have hfz20_0 := blk_frozen BK132.out 0; have hfz20_1 := blk_frozen BK132.out 1) | (go_at_call 47; (with_reducible refine (impl_Range_empty.calls a0_0 a0_1 true _ A11.out).mono ?_); rintro e w21 ⟨rfl, hb⟩; replace BK132 := am (blk_below (g := gb132) (o := b2 a0_0 a0_1 24) (Z BK132) hb); replace BK133 := am (blk_below (g := gb133) (o := b2 a1_0 a1_1 24) (Z BK133) hb); replace BK134 := am (blk_below (g := gb134) (o := b2 0 0 24) (Z BK134) hb); replace HB := am (below_step (Y3 HB GE132 GE133 GE134) hb); (try clear hb); (try clear hb2); (try clear hk); (try clear hi)))
     go_meet
     case rel => exact ⟨_, (true), (by first | rfl | (simp; done) | (simp [*]; done)), H', ⟨by first | omega | exact Nat.le_refl _⟩, ⟨Z BK132⟩, ⟨Z BK133⟩, ⟨Z BK134⟩, ⟨Y3 HB GE132 GE133 GE134⟩⟩
    ·replace c12 := Bool.eq_false_iff.mpr c12
     subst c12
     have H1 : ((impl_Range_empty.f a1_0 a1_1).bind fun t138 => (impl_RangeMeet.j0 k t138 a0_0 a0_1 a1_0 a1_1)) = some (r1, r2) := by rw [if_neg (show ¬ (false = true) by decide)] at H; exact H
     clear H
     have H := H1
     clear H1
     replace H := Option.bind_eq_some_iff.mp H
     obtain ⟨t138, A220, H⟩ := H
     replace H : (impl_RangeMeet.j0 k t138 a0_0 a0_1 a1_0 a1_1) = some (r1, r2) := H
     have A22 := am A220
     clear A220
     have H' := am H
     clear H
     have hnb23 := NB132_133.out
     have hnc23 := NB133_132.out
     have hnb24 := NB132_134.out
     have hnc24 := NB134_132.out
     have hcz25_0 : w6.cell? ⟨gb132, 0, none⟩ = some (.int .i64 a0_0) := bc BK132 0
     have hcz25_1 : w6.cell? ⟨gb132, 1, none⟩ = some (.int .i64 a0_1) := bc BK132 1
     have hfz25_0 := blk_frozen BK132.out 0
     have hfz25_1 := blk_frozen BK132.out 1
     go_wp2_with (first | ((with_reducible refine gate_callee (f := 46) rfl ?_); refine goesL_ (some 6) rfl rfl Try.func46 (by kernel_rfl) rfl #[.agg #[.int .i64 a0_0, .int .i64 a0_1]] rfl mz ?_; (with_reducible refine (impl_RangeOk.calls a0_0 a0_1 true _ A7.out).mono ?_); rintro e w26 ⟨rfl, hb⟩; refine ⟨_, rfl, ?_⟩; replace BK132 := am (blk_below (g := gb132) (o := b2 a0_0 a0_1 24) (Z BK132) hb); replace BK133 := am (blk_below (g := gb133) (o := b2 a1_0 a1_1 24) (Z BK133) hb); replace BK134 := am (blk_below (g := gb134) (o := b2 0 0 24) (Z BK134) hb); replace HB := am (below_step (Y3 HB GE132 GE133 GE134) hb); (try clear hb); (try clear hb2); (try clear hk); (try clear hi); have hnb27 := NB133_134.out; have hnc27 := NB134_133.out; have hcz28_0 : w26.cell? ⟨gb133, 0, none⟩ = some (.int .i64 a1_0) := bc BK133 0; have hcz28_1 : w26.cell? ⟨gb133, 1, none⟩ = some (.int .i64 a1_1) := bc BK133 1; have hfz28_0 := blk_frozen BK133.out 0; have hfz28_1 := blk_frozen BK133.out 1) | (go_at_call 46; (with_reducible refine (impl_RangeOk.calls a1_0 a1_1 true _ A9.out).mono ?_); rintro e w29 ⟨rfl, hb⟩; replace BK132 := am (blk_below (g := gb132) (o := b2 a0_0 a0_1 24) (Z BK132) hb); replace BK133 := am (blk_below (g := gb133) (o := b2 a1_0 a1_1 24) (Z BK133) hb); replace BK134 := am (blk_below (g := gb134) (o := b2 0 0 24) (Z BK134) hb); replace HB := am (below_step (Y3 HB GE132 GE133 GE134) hb); (try clear hb); (try clear hb2); (try clear hk); (try clear hi); have hcz30_0 : w29.cell? ⟨gb132, 0, none⟩ = some (.int .i64 a0_0) := bc BK132 0; have hcz30_1 : w29.cell? ⟨gb132, 1, none⟩ = some (.int .i64 a0_1) := bc BK132 1; have hfz30_0 := blk_frozen BK132.out 0; have hfz30_1 := blk_frozen BK132.out 1) | (go_at_call 47; (with_reducible refine (impl_Range_empty.calls a0_0 a0_1 false _ A11.out).mono ?_); rintro e w31 ⟨rfl, hb⟩; replace BK132 := am (blk_below (g := gb132) (o := b2 a0_0 a0_1 24) (Z BK132) hb); replace BK133 := am (blk_below (g := gb133) (o := b2 a1_0 a1_1 24) (Z BK133) hb); replace BK134 := am (blk_below (g := gb134) (o := b2 0 0 24) (Z BK134) hb); replace HB := am (below_step (Y3 HB GE132 GE133 GE134) hb); (try clear hb); (try clear hb2); (try clear hk); (try clear hi); have hcz32_0 : w31.cell? ⟨gb133, 0, none⟩ = some (.int .i64 a1_0) := bc BK133 0; have hcz32_1 : w31.cell? ⟨gb133, 1, none⟩ = some (.int .i64 a1_1) := bc BK133 1; have hfz32_0 := blk_frozen BK133.out 0; have hfz32_1 := blk_frozen BK133.out 1) | (go_at_call 47; (with_reducible refine (impl_Range_empty.calls a1_0 a1_1 t138 _ A22.out).mono ?_); rintro e w33 ⟨rfl, hb⟩; replace BK132 := am (blk_below (g := gb132) (o := b2 a0_0 a0_1 24) (Z BK132) hb); replace BK133 := am (blk_below (g := gb133) (o := b2 a1_0 a1_1 24) (Z BK133) hb); replace BK134 := am (blk_below (g := gb134) (o := b2 0 0 24) (Z BK134) hb); replace HB := am (below_step (Y3 HB GE132 GE133 GE134) hb); (try clear hb); (try clear hb2); (try clear hk); (try clear hi)))
     go_meet
     case rel => exact ⟨_, (t138), (by first | rfl | (simp; done) | (simp [*]; done)), H', ⟨by first | omega | exact Nat.le_refl _⟩, ⟨Z BK132⟩, ⟨Z BK133⟩, ⟨Z BK134⟩, ⟨Y3 HB GE132 GE133 GE134⟩⟩
   ·replace c10 := Bool.eq_false_iff.mpr c10
    subst c10
    have H1 : (impl_RangeMeet.j0 k true a0_0 a0_1 a1_0 a1_1) = some (r1, r2) := by rw [if_neg (show ¬ (false = true) by decide)] at H; exact H
    clear H
    have H := H1
    clear H1
    have H' := am H
    clear H
    have hnb34 := NB132_133.out
    have hnc34 := NB133_132.out
    have hnb35 := NB132_134.out
    have hnc35 := NB134_132.out
    have hcz36_0 : w6.cell? ⟨gb132, 0, none⟩ = some (.int .i64 a0_0) := bc BK132 0
    have hcz36_1 : w6.cell? ⟨gb132, 1, none⟩ = some (.int .i64 a0_1) := bc BK132 1
    have hfz36_0 := blk_frozen BK132.out 0
    have hfz36_1 := blk_frozen BK132.out 1
    go_wp2_with (first | ((with_reducible refine gate_callee (f := 46) rfl ?_); refine goesL_ (some 6) rfl rfl Try.func46 (by kernel_rfl) rfl #[.agg #[.int .i64 a0_0, .int .i64 a0_1]] rfl mz ?_; (with_reducible refine (impl_RangeOk.calls a0_0 a0_1 true _ A7.out).mono ?_); rintro e w37 ⟨rfl, hb⟩; refine ⟨_, rfl, ?_⟩; replace BK132 := am (blk_below (g := gb132) (o := b2 a0_0 a0_1 24) (Z BK132) hb); replace BK133 := am (blk_below (g := gb133) (o := b2 a1_0 a1_1 24) (Z BK133) hb); replace BK134 := am (blk_below (g := gb134) (o := b2 0 0 24) (Z BK134) hb); replace HB := am (below_step (Y3 HB GE132 GE133 GE134) hb); (try clear hb); (try clear hb2); (try clear hk); (try clear hi); have hnb38 := NB133_134.out; have hnc38 := NB134_133.out; have hcz39_0 : w37.cell? ⟨gb133, 0, none⟩ = some (.int .i64 a1_0) := bc BK133 0; have hcz39_1 : w37.cell? ⟨gb133, 1, none⟩ = some (.int .i64 a1_1) := bc BK133 1; have hfz39_0 := blk_frozen BK133.out 0; have hfz39_1 := blk_frozen BK133.out 1) | (go_at_call 46; (with_reducible refine (impl_RangeOk.calls a1_0 a1_1 false _ A9.out).mono ?_); rintro e w40 ⟨rfl, hb⟩; replace BK132 := am (blk_below (g := gb132) (o := b2 a0_0 a0_1 24) (Z BK132) hb); replace BK133 := am (blk_below (g := gb133) (o := b2 a1_0 a1_1 24) (Z BK133) hb); replace BK134 := am (blk_below (g := gb134) (o := b2 0 0 24) (Z BK134) hb); replace HB := am (below_step (Y3 HB GE132 GE133 GE134) hb); (try clear hb); (try clear hb2); (try clear hk); (try clear hi)))
    go_meet
    case rel => exact ⟨_, (true), (by first | rfl | (simp; done) | (simp [*]; done)), H', ⟨by first | omega | exact Nat.le_refl _⟩, ⟨Z BK132⟩, ⟨Z BK133⟩, ⟨Z BK134⟩, ⟨Y3 HB GE132 GE133 GE134⟩⟩
  ·replace c8 := Bool.eq_false_iff.mpr c8
   subst c8
   have H1 : (impl_RangeMeet.j0 k true a0_0 a0_1 a1_0 a1_1) = some (r1, r2) := by rw [if_neg (show ¬ (false = true) by decide)] at H; exact H
   clear H
   have H := H1
   clear H1
   have H' := am H
   clear H
   have hnb41 := NB132_133.out
   have hnc41 := NB133_132.out
   have hnb42 := NB132_134.out
   have hnc42 := NB134_132.out
   have hcz43_0 : w6.cell? ⟨gb132, 0, none⟩ = some (.int .i64 a0_0) := bc BK132 0
   have hcz43_1 : w6.cell? ⟨gb132, 1, none⟩ = some (.int .i64 a0_1) := bc BK132 1
   have hfz43_0 := blk_frozen BK132.out 0
   have hfz43_1 := blk_frozen BK132.out 1
   go_wp2_with (first | ((with_reducible refine gate_callee (f := 46) rfl ?_); refine goesL_ (some 6) rfl rfl Try.func46 (by kernel_rfl) rfl #[.agg #[.int .i64 a0_0, .int .i64 a0_1]] rfl mz ?_; (with_reducible refine (impl_RangeOk.calls a0_0 a0_1 false _ A7.out).mono ?_); rintro e w44 ⟨rfl, hb⟩; refine ⟨_, rfl, ?_⟩; replace BK132 := am (blk_below (g := gb132) (o := b2 a0_0 a0_1 24) (Z BK132) hb); replace BK133 := am (blk_below (g := gb133) (o := b2 a1_0 a1_1 24) (Z BK133) hb); replace BK134 := am (blk_below (g := gb134) (o := b2 0 0 24) (Z BK134) hb); replace HB := am (below_step (Y3 HB GE132 GE133 GE134) hb); (try clear hb); (try clear hb2); (try clear hk); (try clear hi)))
   go_meet
   case rel => exact ⟨_, (true), (by first | rfl | (simp; done) | (simp [*]; done)), H', ⟨by first | omega | exact Nat.le_refl _⟩, ⟨Z BK132⟩, ⟨Z BK133⟩, ⟨Z BK134⟩, ⟨Y3 HB GE132 GE133 GE134⟩⟩
 case rest =>
  clear HC3
  try clear c1
  try clear c2
  try clear p2
  try clear c3
  try clear c4
  try clear c8
  try clear c9
  try clear c10
  try clear c12
  try clear c13
  try clear c14
  try clear c17
  try clear c23
  try clear c24
  try clear c27
  try clear c34
  try clear c35
  try clear c38
  try clear c41
  try clear c42
  try clear hcz15_0
  try clear hcz15_1
  try clear hcz18_0
  try clear hcz18_1
  try clear hcz20_0
  try clear hcz20_1
  try clear hcz25_0
  try clear hcz25_1
  try clear hcz28_0
  try clear hcz28_1
  try clear hcz30_0
  try clear hcz30_1
  try clear hcz32_0
  try clear hcz32_1
  try clear hcz36_0
  try clear hcz36_1
  try clear hcz39_0
  try clear hcz39_1
  try clear hcz43_0
  try clear hcz43_1
  try clear hfz15_0
  try clear hfz15_1
  try clear hfz18_0
  try clear hfz18_1
  try clear hfz20_0
  try clear hfz20_1
  try clear hfz25_0
  try clear hfz25_1
  try clear hfz28_0
  try clear hfz28_1
  try clear hfz30_0
  try clear hfz30_1
  try clear hfz32_0
  try clear hfz32_1
  try clear hfz36_0
  try clear hfz36_1
  try clear hfz39_0
  try clear hfz39_1
  try clear hfz43_0
  try clear hfz43_1
  obtain ⟨kq, x20_2, rfl, HA, HJ2, BK132, BK133, BK134, HB⟩ := hcut
  cases kq with
  | zero => exact absurd HA.out (by simp [impl_RangeMeet.j0])
  | succ kj2 =>
   have H := HA.out
   clear HA
   simp only [impl_RangeMeet.j0] at H
   by_cases c45 : x20_2 = true
   ·subst c45
    have H1 : ((impl_rangeNone.f).bind fun bt139 => (some (bt139.1, bt139.2))) = some (r1, r2) := by rw [if_pos rfl] at H; exact H
    clear H
    have H := H1
    clear H1
    replace H := Option.bind_eq_some_iff.mp H
    obtain ⟨⟨t139, t140⟩, A460, H⟩ := H
    replace H : (some (t139, t140)) = some (r1, r2) := H
    have A46 := am A460
    clear A460
    simp only [Option.some.injEq, Prod.mk.injEq] at H
    obtain ⟨rfl, rfl⟩ := H
    go_wp2_with (first | ((with_reducible refine gate_callee (f := 48) rfl ?_); refine goesL_ (some 21) rfl rfl Try.func48 (by kernel_rfl) rfl #[] rfl mz ?_; (with_reducible refine (impl_rangeNone.calls  t139 t140 _ A46.out).mono ?_); rintro e w47 ⟨rfl, hb⟩; refine ⟨_, rfl, ?_⟩; replace BK132 := am (blk_below (g := gb132) (o := b2 a0_0 a0_1 24) (Z BK132) hb); replace BK133 := am (blk_below (g := gb133) (o := b2 a1_0 a1_1 24) (Z BK133) hb); replace BK134 := am (blk_below (g := gb134) (o := b2 0 0 24) (Z BK134) hb); replace HB := am (below_step (Y3 HB GE132 GE133 GE134) hb); (try clear hb); (try clear hb2); (try clear hk); (try clear hi); have hnb48 := NB134_132.out; have hnc48 := NB132_134.out; have hnb49 := NB134_133.out; have hnc49 := NB133_134.out; have hcz50_0 : w47.cell? ⟨gb134, 0, none⟩ = some (.int .i64 0) := bc BK134 0; have hcz50_1 : w47.cell? ⟨gb134, 1, none⟩ = some (.int .i64 0) := bc BK134 1; have hfz50_0 := blk_frozen BK134.out 0; have hfz50_1 := blk_frozen BK134.out 1))
    refine bodyPost_ret (results_cell_row rfl _ _ gb134 24 #[.int .i64 t139, .int .i64 t140] (0, 0) _ rfl (by (with_reducible repeat (first | refine blk_drewN ?_ _ | refine blk_drew ?_ | refine blk_alloc ?_ _)); refine blk_put (cs := #[.int .i64 t139, .int .i64 0]) ?_ 1 _ rfl; (with_reducible repeat (first | refine blk_drewN ?_ _ | refine blk_drew ?_ | refine blk_alloc ?_ _)); refine blk_put (cs := #[.int .i64 0, .int .i64 0]) ?_ 0 _ rfl; (with_reducible repeat (first | refine blk_drewN ?_ _ | refine blk_drew ?_ | refine blk_alloc ?_ _)); exact BK134.out) Try.underlying24 rfl (by kernel_rfl)) rfl ?_
    exact ⟨by first | rfl | (simp [errW_none, errW_some] <;> rfl) | (simp [*, errW_none, errW_some] <;> rfl), Y3 HB GE132 GE133 GE134⟩
   ·replace c45 := Bool.eq_false_iff.mpr c45
    subst c45
    have H1 : ((impl_rangeFrom.f (mx a0_0 a1_0) (mn a0_1 a1_1)).bind fun bt141 => (some (bt141.1, bt141.2))) = some (r1, r2) := by rw [if_neg (show ¬ (false = true) by decide)] at H; exact H
    clear H
    have H := H1
    clear H1
    obtain ⟨ji51, hji51⟩ : ∃ j_ : Int, (mx a0_0 a1_0) = j_ := ⟨_, rfl⟩
    replace H : ((impl_rangeFrom.f (ji51) (mn a0_1 a1_1)).bind fun bt141 => (some (bt141.1, bt141.2))) = some (r1, r2) := by first | (rw [hji51] at H; exact H) | (simp only [hji51] at H ⊢; exact H)
    have hji51_ : (if a0_0 < a1_0 then a1_0 else a0_0) = ji51 := hji51
    obtain ⟨ji52, hji52⟩ : ∃ j_ : Int, (mn a0_1 a1_1) = j_ := ⟨_, rfl⟩
    replace H : ((impl_rangeFrom.f (ji51) (ji52)).bind fun bt141 => (some (bt141.1, bt141.2))) = some (r1, r2) := by first | (rw [hji52] at H; exact H) | (simp only [hji52] at H ⊢; exact H)
    have hji52_ : (if a1_1 < a0_1 then a1_1 else a0_1) = ji52 := hji52
    replace H := Option.bind_eq_some_iff.mp H
    obtain ⟨⟨t141, t142⟩, A530, H⟩ := H
    replace H : (some (t141, t142)) = some (r1, r2) := H
    have A53 := am A530
    clear A530
    simp only [Option.some.injEq, Prod.mk.injEq] at H
    obtain ⟨rfl, rfl⟩ := H
    have hnb54 := NB132_133.out
    have hnc54 := NB133_132.out
    have hnb55 := NB132_134.out
    have hnc55 := NB134_132.out
    have hcz56_0 : wc.cell? ⟨gb132, 0, none⟩ = some (.int .i64 a0_0) := bc BK132 0
    have hcz56_1 : wc.cell? ⟨gb132, 1, none⟩ = some (.int .i64 a0_1) := bc BK132 1
    have hfz56_0 := blk_frozen BK132.out 0
    have hfz56_1 := blk_frozen BK132.out 1
    have hnb57 := NB133_134.out
    have hnc57 := NB134_133.out
    have hcz58_0 : wc.cell? ⟨gb133, 0, none⟩ = some (.int .i64 a1_0) := bc BK133 0
    have hcz58_1 : wc.cell? ⟨gb133, 1, none⟩ = some (.int .i64 a1_1) := bc BK133 1
    have hfz58_0 := blk_frozen BK133.out 0
    have hfz58_1 := blk_frozen BK133.out 1
    go_wp2_with (first | ((with_reducible refine gate_callee (f := 50) rfl ?_); refine goesL_ (some 32) rfl rfl Try.func50 (by kernel_rfl) rfl #[.int .i64 ji51, .int .i64 ji52] rfl (by (try simp only [List.map_toArray, List.map_cons, List.map_nil]); first | done | (simp only [hji51, hji52]; rfl) | rfl | (simp only [List.length_drop, List.length_take]; rfl)) ?_; (with_reducible refine (impl_rangeFrom.calls ji51 ji52 t141 t142 _ A53.out).mono ?_); rintro e w59 ⟨rfl, hb⟩; refine ⟨_, rfl, ?_⟩; replace BK132 := am (blk_below (g := gb132) (o := b2 a0_0 a0_1 24) (Z BK132) hb); replace BK133 := am (blk_below (g := gb133) (o := b2 a1_0 a1_1 24) (Z BK133) hb); replace BK134 := am (blk_below (g := gb134) (o := b2 0 0 24) (Z BK134) hb); replace HB := am (below_step (Y3 HB GE132 GE133 GE134) hb); (try clear hb); (try clear hb2); (try clear hk); (try clear hi); have hcz60_0 : w59.cell? ⟨gb134, 0, none⟩ = some (.int .i64 0) := bc BK134 0; have hcz60_1 : w59.cell? ⟨gb134, 1, none⟩ = some (.int .i64 0) := bc BK134 1; have hfz60_0 := blk_frozen BK134.out 0; have hfz60_1 := blk_frozen BK134.out 1))
    refine bodyPost_ret (results_cell_row rfl _ _ gb134 24 #[.int .i64 t141, .int .i64 t142] (0, 0) _ rfl (by (with_reducible repeat (first | refine blk_drewN ?_ _ | refine blk_drew ?_ | refine blk_alloc ?_ _)); refine blk_put (cs := #[.int .i64 t141, .int .i64 0]) ?_ 1 _ rfl; (with_reducible repeat (first | refine blk_drewN ?_ _ | refine blk_drew ?_ | refine blk_alloc ?_ _)); refine blk_put (cs := #[.int .i64 0, .int .i64 0]) ?_ 0 _ rfl; (with_reducible repeat (first | refine blk_drewN ?_ _ | refine blk_drew ?_ | refine blk_alloc ?_ _)); exact BK134.out) Try.underlying24 rfl (by kernel_rfl)) rfl ?_
    exact ⟨by first | rfl | (simp [errW_none, errW_some] <;> rfl) | (simp only [← hji51, ← hji52]; first | rfl | (simp [errW_none, errW_some] <;> rfl)) | (simp [*, errW_none, errW_some] <;> rfl), Y3 HB GE132 GE133 GE134⟩

end Go.Proofs.Ythbkakcchgnhpaa.PFnRangeOne
