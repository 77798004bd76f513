/- Written by this session's own driver (wip/dprint.py): the functions that the law FnRangeOne reaches, as Lean functions, each with its contract. -/
import Derived.Test.YthbkakcchgnhpaaPFnRangeOnex0
import Derived.Test.YthbkakcchgnhpaaPFnRangeOnex3
import Derived.Test.YthbkakcchgnhpaaPFnRangeOnex8
import Derived.Test.YthbkakcchgnhpaaSv
namespace Go.Proofs.Ythbkakcchgnhpaa.PFnRangeOne
open Go.RowKit Go.Proofs.YthbkakcchgnhpaaV.PrintWords Go.Proofs.YthbkakcchgnhpaaV.PrintLast Go.Proofs.YthbkakcchgnhpaaV.PrintMore Go.Proofs.YthbkakcchgnhpaaSv
attribute [local go_sem] max2_int min2_int max_two min_two max_three min_three max_four min_four   -- for this text's walks alone
set_option linter.unusedVariables false
set_option linter.unusedSimpArgs false

/-! ### impl_rangeBits: function 55 -/
mutual
def impl_rangeBits.j0 : Nat → Int → Bool → Int → Int → Int → Int → Option (Int × Int)
 | 0, _, _, _, _, _, _ => none
 | k + 1, x0, x14, x257000, x257001, x258000, x258001 => if x14 = true then ((impl_numExact.f k x0 x257000 x258000).bind fun t261 => (some (t261, t261))) else (if x0 = 6 then (if x257000 ≥ 0 then (impl_rangeBits.j1 k (decide (x258000 ≥ 0)) x257000 x257001 x258000 x258001) else (impl_rangeBits.j1 k false x257000 x257001 x258000 x258001)) else (if x257000 < 0 then (impl_rangeBits.j2 k x0 true x257000 x257001 x258000 x258001) else (impl_rangeBits.j2 k x0 (decide (x258000 < 0)) x257000 x257001 x258000 x258001)))
def impl_rangeBits.j1 : Nat → Bool → Int → Int → Int → Int → Option (Int × Int)
 | 0, _, _, _, _, _ => none
 | k + 1, x26, x257000, x257001, x258000, x258001 => if x26 = true then (some (0, mn x257001 x258001)) else (if x257000 ≥ 0 then (some (0, x257001)) else (if x258000 ≥ 0 then (some (0, x258001)) else (some ((-2147483648), 2147483647))))
def impl_rangeBits.j2 : Nat → Int → Bool → Int → Int → Int → Int → Option (Int × Int)
 | 0, _, _, _, _, _, _ => none
 | k + 1, x0, x63, x257000, x257001, x258000, x258001 => if x63 = true then (some ((-2147483648), 2147483647)) else (if x0 = 7 then (impl_rangeBits.j3 k x257000 x257001 x258000 x258001 (mx x257000 x258000) 0) else (impl_rangeBits.j3 k x257000 x257001 x258000 x258001 0 0))
def impl_rangeBits.j3 : Nat → Int → Int → Int → Int → Int → Int → Option (Int × Int)
 | 0, _, _, _, _, _, _ => none
 | k + 1, x257000, x257001, x258000, x258001, x263000, x263001 => impl_rangeBits.l0 k x257000 x257001 x258000 x258001 x263000 x263001
def impl_rangeBits.l0 : Nat → Int → Int → Int → Int → Int → Int → Option (Int × Int)
 | 0, _, _, _, _, _, _ => none
 | k + 1, x257000, x257001, x258000, x258001, x263000, x263001 => if x263001 < (mx x257001 x258001) then (impl_rangeBits.l0 k x257000 x257001 x258000 x258001 x263000 (wrap64 ((wrap64 (2 * x263001)) + 1))) else (some (x263000, x263001))
end
def impl_rangeBits.f (k : Nat) (a0 : Int) (a1_0 : Int) (a1_1 : Int) (a2_0 : Int) (a2_1 : Int) : Option (Int × Int) := (impl_Range_single.f a1_0 a1_1).bind fun t259 => (if t259 = true then ((impl_Range_single.f a2_0 a2_1).bind fun t260 => (impl_rangeBits.j0 k a0 t260 a1_0 a1_1 a2_0 a2_1)) else (impl_rangeBits.j0 k a0 false a1_0 a1_1 a2_0 a2_1))
theorem impl_rangeBits.mono_l : ∀ k, (∀ y0 y1 y2 y3 y4 y5, LeO (impl_rangeBits.j0 k y0 y1 y2 y3 y4 y5) (impl_rangeBits.j0 (k + 1) y0 y1 y2 y3 y4 y5)) ∧ (∀ y0 y1 y2 y3 y4, LeO (impl_rangeBits.j1 k y0 y1 y2 y3 y4) (impl_rangeBits.j1 (k + 1) y0 y1 y2 y3 y4)) ∧ (∀ y0 y1 y2 y3 y4 y5, LeO (impl_rangeBits.j2 k y0 y1 y2 y3 y4 y5) (impl_rangeBits.j2 (k + 1) y0 y1 y2 y3 y4 y5)) ∧ (∀ y0 y1 y2 y3 y4 y5, LeO (impl_rangeBits.j3 k y0 y1 y2 y3 y4 y5) (impl_rangeBits.j3 (k + 1) y0 y1 y2 y3 y4 y5)) ∧ (∀ y0 y1 y2 y3 y4 y5, LeO (impl_rangeBits.l0 k y0 y1 y2 y3 y4 y5) (impl_rangeBits.l0 (k + 1) y0 y1 y2 y3 y4 y5))
 | 0 => ⟨fun _ _ _ _ _ _ r h => by simp [impl_rangeBits.j0] at h, fun _ _ _ _ _ r h => by simp [impl_rangeBits.j1] at h, fun _ _ _ _ _ _ r h => by simp [impl_rangeBits.j2] at h, fun _ _ _ _ _ _ r h => by simp [impl_rangeBits.j3] at h, fun _ _ _ _ _ _ r h => by simp [impl_rangeBits.l0] at h⟩
 | k + 1 => by
  obtain ⟨ih0, ih1, ih2, ih3, ih4⟩ := impl_rangeBits.mono_l k
  refine ⟨?_, ?_, ?_, ?_, ?_⟩
  ·intro y0 y1 y2 y3 y4 y5
   unfold impl_rangeBits.j0
   repeat' first
   | (with_reducible exact ih0 _ _ _ _ _ _)
   | (with_reducible exact ih1 _ _ _ _ _)
   | (with_reducible exact ih2 _ _ _ _ _ _)
   | (with_reducible exact ih3 _ _ _ _ _ _)
   | (with_reducible exact ih4 _ _ _ _ _ _)
   | (with_reducible exact impl_numExact.mono _ _ _ _)
   | (with_reducible exact LeO.refl _)
   | (with_reducible exact LeO.none _)
   | (with_reducible refine LeO.ite ?_ ?_)
   | (with_reducible refine LeO.bind ?_ (fun _ => ?_))
   | exact ih0 _ _ _ _ _ _
   | exact ih1 _ _ _ _ _
   | exact ih2 _ _ _ _ _ _
   | exact ih3 _ _ _ _ _ _
   | exact ih4 _ _ _ _ _ _
   | exact impl_numExact.mono _ _ _ _
   | exact LeO.none _
   | refine LeO.ite ?_ ?_
   | refine LeO.bind ?_ (fun _ => ?_)
  ·intro y0 y1 y2 y3 y4
   unfold impl_rangeBits.j1
   repeat' first
   | (with_reducible exact ih0 _ _ _ _ _ _)
   | (with_reducible exact ih1 _ _ _ _ _)
   | (with_reducible exact ih2 _ _ _ _ _ _)
   | (with_reducible exact ih3 _ _ _ _ _ _)
   | (with_reducible exact ih4 _ _ _ _ _ _)
   | (with_reducible exact impl_numExact.mono _ _ _ _)
   | (with_reducible exact LeO.refl _)
   | (with_reducible exact LeO.none _)
   | (with_reducible refine LeO.ite ?_ ?_)
   | (with_reducible refine LeO.bind ?_ (fun _ => ?_))
   | exact ih0 _ _ _ _ _ _
   | exact ih1 _ _ _ _ _
   | exact ih2 _ _ _ _ _ _
   | exact ih3 _ _ _ _ _ _
   | exact ih4 _ _ _ _ _ _
   | exact impl_numExact.mono _ _ _ _
   | exact LeO.none _
   | refine LeO.ite ?_ ?_
   | refine LeO.bind ?_ (fun _ => ?_)
  ·intro y0 y1 y2 y3 y4 y5
   unfold impl_rangeBits.j2
   repeat' first
   | (with_reducible exact ih0 _ _ _ _ _ _)
   | (with_reducible exact ih1 _ _ _ _ _)
   | (with_reducible exact ih2 _ _ _ _ _ _)
   | (with_reducible exact ih3 _ _ _ _ _ _)
   | (with_reducible exact ih4 _ _ _ _ _ _)
   | (with_reducible exact impl_numExact.mono _ _ _ _)
   | (with_reducible exact LeO.refl _)
   | (with_reducible exact LeO.none _)
   | (with_reducible refine LeO.ite ?_ ?_)
   | (with_reducible refine LeO.bind ?_ (fun _ => ?_))
   | exact ih0 _ _ _ _ _ _
   | exact ih1 _ _ _ _ _
   | exact ih2 _ _ _ _ _ _
   | exact ih3 _ _ _ _ _ _
   | exact ih4 _ _ _ _ _ _
   | exact impl_numExact.mono _ _ _ _
   | exact LeO.none _
   | refine LeO.ite ?_ ?_
   | refine LeO.bind ?_ (fun _ => ?_)
  ·intro y0 y1 y2 y3 y4 y5
   unfold impl_rangeBits.j3
   repeat' first
   | (with_reducible exact ih0 _ _ _ _ _ _)
   | (with_reducible exact ih1 _ _ _ _ _)
   | (with_reducible exact ih2 _ _ _ _ _ _)
   | (with_reducible exact ih3 _ _ _ _ _ _)
   | (with_reducible exact ih4 _ _ _ _ _ _)
   | (with_reducible exact impl_numExact.mono _ _ _ _)
   | (with_reducible exact LeO.refl _)
   | (with_reducible exact LeO.none _)
   | (with_reducible refine LeO.ite ?_ ?_)
   | (with_reducible refine LeO.bind ?_ (fun _ => ?_))
   | exact ih0 _ _ _ _ _ _
   | exact ih1 _ _ _ _ _
   | exact ih2 _ _ _ _ _ _
   | exact ih3 _ _ _ _ _ _
   | exact ih4 _ _ _ _ _ _
   | exact impl_numExact.mono _ _ _ _
   | exact LeO.none _
   | refine LeO.ite ?_ ?_
   | refine LeO.bind ?_ (fun _ => ?_)
  ·intro y0 y1 y2 y3 y4 y5
   unfold impl_rangeBits.l0
   repeat' first
   | (with_reducible exact ih0 _ _ _ _ _ _)
   | (with_reducible exact ih1 _ _ _ _ _)
   | (with_reducible exact ih2 _ _ _ _ _ _)
   | (with_reducible exact ih3 _ _ _ _ _ _)
   | (with_reducible exact ih4 _ _ _ _ _ _)
   | (with_reducible exact impl_numExact.mono _ _ _ _)
   | (with_reducible exact LeO.refl _)
   | (with_reducible exact LeO.none _)
   | (with_reducible refine LeO.ite ?_ ?_)
   | (with_reducible refine LeO.bind ?_ (fun _ => ?_))
   | exact ih0 _ _ _ _ _ _
   | exact ih1 _ _ _ _ _
   | exact ih2 _ _ _ _ _ _
   | exact ih3 _ _ _ _ _ _
   | exact ih4 _ _ _ _ _ _
   | exact impl_numExact.mono _ _ _ _
   | exact LeO.none _
   | refine LeO.ite ?_ ?_
   | refine LeO.bind ?_ (fun _ => ?_)
theorem impl_rangeBits.mono : ∀ a0 a1 a2 a3 a4 k, LeO (impl_rangeBits.f k a0 a1 a2 a3 a4) (impl_rangeBits.f (k + 1) a0 a1 a2 a3 a4) := by
 intro a0 a1 a2 a3 a4 k
 obtain ⟨ih0, ih1, ih2, ih3, ih4⟩ := impl_rangeBits.mono_l k
 unfold impl_rangeBits.f
 repeat' first
   | (with_reducible exact ih0 _ _ _ _ _ _)
   | (with_reducible exact ih1 _ _ _ _ _)
   | (with_reducible exact ih2 _ _ _ _ _ _)
   | (with_reducible exact ih3 _ _ _ _ _ _)
   | (with_reducible exact ih4 _ _ _ _ _ _)
   | (with_reducible exact impl_numExact.mono _ _ _ _)
   | (with_reducible exact LeO.refl _)
   | (with_reducible exact LeO.none _)
   | (with_reducible refine LeO.ite ?_ ?_)
   | (with_reducible refine LeO.bind ?_ (fun _ => ?_))
   | exact ih0 _ _ _ _ _ _
   | exact ih1 _ _ _ _ _
   | exact ih2 _ _ _ _ _ _
   | exact ih3 _ _ _ _ _ _
   | exact ih4 _ _ _ _ _ _
   | exact impl_numExact.mono _ _ _ _
   | exact LeO.none _
   | refine LeO.ite ?_ ?_
   | refine LeO.bind ?_ (fun _ => ?_)
set_option maxHeartbeats 8000000 in
set_option maxRecDepth 100000 in
theorem impl_rangeBits.calls (k : Nat) (a0 : Int) (a1_0 : Int) (a1_1 : Int) (a2_0 : Int) (a2_1 : Int) (r1 : Int) (r2 : Int) (w : World) (h : impl_rangeBits.f k a0 a1_0 a1_1 a2_0 a2_1 = some (r1, r2)) :
  Calls Try.prog 55 #[.int .i64 a0, .agg #[.int .i64 a1_0, .int .i64 a1_1], .agg #[.int .i64 a2_0, .int .i64 a2_1]] w fun e w' => e = .returned (.agg #[.int .i64 r1, .int .i64 r2]) ∧ Below w.heap.size w w' := by
 have hu24 := Try.underlying24
 have HB := am (Below.refl w.heap.size w)
 have H : ((impl_Range_single.f a1_0 a1_1).bind fun t259 => (if t259 = true then ((impl_Range_single.f a2_0 a2_1).bind fun t260 => (impl_rangeBits.j0 k a0 t260 a1_0 a1_1 a2_0 a2_1)) else (impl_rangeBits.j0 k a0 false a1_0 a1_1 a2_0 a2_1))) = some (r1, r2) := h
 clear h
 have HC4 := am H
 clear H
 go_enter Try.func55, Try.ntmps55
 go_upto_region 1 with (first | ((with_reducible refine gate_dst (N := 4) rfl ?_); refine box_event ?hg (N := 4) ?hd (cs := #[.int .i64 a1_0, .int .i64 a1_1]) (t := 24) ?hr ?_; (case hd => rfl); (case hg => rfl); (case hr => first | (go_simp; done) | (go_simp; rfl)); intro gb256 hg w5 hbox hb; have BK256 := am (hbox); have GW256 := am ((by rw [hg]; exact (below_size (Y0 HB)) : w.heap.size ≤ gb256)); have GE256 := am ((by rw [hg]; exact (below_size (Y0 HB)) : w.heap.size ≤ gb256)); replace HB := am (below_step (Y0 HB) hb); clear hb hbox hg) | ((with_reducible refine gate_dst (N := 5) rfl ?_); refine box_event ?hg (N := 5) ?hd (cs := #[.int .i64 a2_0, .int .i64 a2_1]) (t := 24) ?hr ?_; (case hd => rfl); (case hg => rfl); (case hr => first | (go_simp; done) | (go_simp; rfl)); intro gb257 hg w6 hbox hb; have BK257 := am (hbox); have GW257 := am ((by rw [hg]; exact (below_size (Y1 HB GE256)) : w.heap.size ≤ gb257)); have GE257 := am ((by rw [hg]; exact (below_size (Y1 HB GE256)) : w.heap.size ≤ gb257)); have NB256_257 := am ((nl (o := b2 a1_0 a1_1 24) hg (Z BK256) : gb256 ≠ gb257)); have NB257_256 := am ((ng (o := b2 a1_0 a1_1 24) hg (Z BK256) : gb257 ≠ gb256)); replace BK256 := am (blk_below (g := gb256) (o := b2 a1_0 a1_1 24) (Z BK256) hb); replace HB := am (below_step (Y1 HB GE256) hb); clear hb hbox hg) | ((with_reducible refine gate_dst (N := 6) rfl ?_); refine box_event ?hg (N := 6) ?hd (cs := #[.int .i64 0, .int .i64 0]) (t := 24) ?hr ?_; (case hd => rfl); (case hg => rfl); (case hr => first | (go_simp; done) | (go_simp; rfl)); intro gb258 hg w7 hbox hb; have BK258 := am (hbox); have GW258 := am ((by rw [hg]; exact (below_size (Y2 HB GE256 GE257)) : w.heap.size ≤ gb258)); have GE258 := am ((by rw [hg]; exact (below_size (Y2 HB GE256 GE257)) : w.heap.size ≤ gb258)); have NB256_258 := am ((nl (o := b2 a1_0 a1_1 24) hg (Z BK256) : gb256 ≠ gb258)); have NB258_256 := am ((ng (o := b2 a1_0 a1_1 24) hg (Z BK256) : gb258 ≠ gb256)); have NB257_258 := am ((nl (o := b2 a2_0 a2_1 24) hg (Z BK257) : gb257 ≠ gb258)); have NB258_257 := am ((ng (o := b2 a2_0 a2_1 24) hg (Z BK257) : gb258 ≠ gb257)); replace BK256 := am (blk_below (g := gb256) (o := b2 a1_0 a1_1 24) (Z BK256) hb); replace BK257 := am (blk_below (g := gb257) (o := b2 a2_0 a2_1 24) (Z BK257) hb); replace HB := am (below_step (Y2 HB GE256 GE257) hb); clear hb hbox hg))
 (try simp only [Act.put, List.setIfInBounds_toArray, List.set_cons_zero, List.set_cons_succ])
 go_cut [14] (fun v14 wc => ∃ (kq : Nat) (x14_3 : Bool), v14 = .bool x14_3 ∧ Aside0 (impl_rangeBits.j0 kq a0 x14_3 a1_0 a1_1 a2_0 a2_1 = some (r1, r2)) ∧ Aside0 (kq ≤ k) ∧ Aside0 (wc.heap[gb256]? = some (.cells #[.int .i64 a1_0, .int .i64 a1_1] 24 (0, 0))) ∧ Aside0 (wc.heap[gb257]? = some (.cells #[.int .i64 a2_0, .int .i64 a2_1] 24 (0, 0))) ∧ Aside0 (wc.heap[gb258]? = some (.cells #[.int .i64 0, .int .i64 0] 24 (0, 0))) ∧ Aside0 (Below w.heap.size w wc))
 case first =>
  have H := HC4.out
  clear HC4
  replace H := Option.bind_eq_some_iff.mp H
  obtain ⟨t259, A80, H⟩ := H
  replace H : (if t259 = true then ((impl_Range_single.f a2_0 a2_1).bind fun t260 => (impl_rangeBits.j0 k a0 t260 a1_0 a1_1 a2_0 a2_1)) else (impl_rangeBits.j0 k a0 false a1_0 a1_1 a2_0 a2_1)) = some (r1, r2) := H
  have A8 := am A80
  clear A80
  by_cases c9 : t259 = true
  ·subst c9
   have H1 : ((impl_Range_single.f a2_0 a2_1).bind fun t260 => (impl_rangeBits.j0 k a0 t260 a1_0 a1_1 a2_0 a2_1)) = some (r1, r2) := by rw [if_pos rfl] at H; exact H
   clear H
   have H := H1
   clear H1
   replace H := Option.bind_eq_some_iff.mp H
   obtain ⟨t260, A100, H⟩ := H
   replace H : (impl_rangeBits.j0 k a0 t260 a1_0 a1_1 a2_0 a2_1) = some (r1, r2) := H
   have A10 := am A100
   clear A100
   have H' := am H
   clear H
   have hnb11 := NB256_257.out
   have hnc11 := NB257_256.out
   have hnb12 := NB256_258.out
   have hnc12 := NB258_256.out
   have hcz13_0 : w7.cell? ⟨gb256, 0, none⟩ = some (.int .i64 a1_0) := bc BK256 0
   have hcz13_1 : w7.cell? ⟨gb256, 1, none⟩ = some (.int .i64 a1_1) := bc BK256 1
   have hfz13_0 := blk_frozen BK256.out 0
   have hfz13_1 := blk_frozen BK256.out 1
   go_wp2_with (first | ((with_reducible refine gate_callee (f := 96) rfl ?_); refine goesL_ (some 10) rfl rfl Try.func96 (by kernel_rfl) rfl #[.agg #[.int .i64 a1_0, .int .i64 a1_1]] rfl mz ?_; (with_reducible refine (impl_Range_single.calls a1_0 a1_1 true _ A8.out).mono ?_); rintro e w14 ⟨rfl, hb⟩; refine ⟨_, rfl, ?_⟩; replace BK256 := am (blk_below (g := gb256) (o := b2 a1_0 a1_1 24) (Z BK256) hb); replace BK257 := am (blk_below (g := gb257) (o := b2 a2_0 a2_1 24) (Z BK257) hb); replace BK258 := am (blk_below (g := gb258) (o := b2 0 0 24) (Z BK258) hb); replace HB := am (below_step (Y3 HB GE256 GE257 GE258) hb); (try clear hb); (try clear hb2); (try clear hk); (try clear hi); have hnb15 := NB257_258.out; have hnc15 := NB258_257.out; have hcz16_0 : w14.cell? ⟨gb257, 0, none⟩ = some (.int .i64 a2_0) := bc BK257 0; have hcz16_1 : w14.cell? ⟨gb257, 1, none⟩ = some (.int .i64 a2_1) := bc BK257 1; have hfz16_0 := blk_frozen BK257.out 0; have hfz16_1 := blk_frozen BK257.out 1) | (go_at_call 96; (with_reducible refine (impl_Range_single.calls a2_0 a2_1 t260 _ A10.out).mono ?_); rintro e w17 ⟨rfl, hb⟩; replace BK256 := am (blk_below (g := gb256) (o := b2 a1_0 a1_1 24) (Z BK256) hb); replace BK257 := am (blk_below (g := gb257) (o := b2 a2_0 a2_1 24) (Z BK257) hb); replace BK258 := am (blk_below (g := gb258) (o := b2 0 0 24) (Z BK258) hb); replace HB := am (below_step (Y3 HB GE256 GE257 GE258) hb); (try clear hb); (try clear hb2); (try clear hk); (try clear hi)))
   go_meet
   case rel => exact ⟨_, (t260), (by first | rfl | (simp; done) | (simp [*]; done)), H', ⟨by first | omega | exact Nat.le_refl _⟩, ⟨Z BK256⟩, ⟨Z BK257⟩, ⟨Z BK258⟩, ⟨Y3 HB GE256 GE257 GE258⟩⟩
  ·replace c9 := Bool.eq_false_iff.mpr c9
   subst c9
   have H1 : (impl_rangeBits.j0 k a0 false a1_0 a1_1 a2_0 a2_1) = some (r1, r2) := by rw [if_neg (show ¬ (false = true) by decide)] at H; exact H
   clear H
   have H := H1
   clear H1
   have H' := am H
   clear H
   have hnb18 := NB256_257.out
   have hnc18 := NB257_256.out
   have hnb19 := NB256_258.out
   have hnc19 := NB258_256.out
   have hcz20_0 : w7.cell? ⟨gb256, 0, none⟩ = some (.int .i64 a1_0) := bc BK256 0
   have hcz20_1 : w7.cell? ⟨gb256, 1, none⟩ = some (.int .i64 a1_1) := bc BK256 1
   have hfz20_0 := blk_frozen BK256.out 0
   have hfz20_1 := blk_frozen BK256.out 1
   go_wp2_with (first | ((with_reducible refine gate_callee (f := 96) rfl ?_); refine goesL_ (some 10) rfl rfl Try.func96 (by kernel_rfl) rfl #[.agg #[.int .i64 a1_0, .int .i64 a1_1]] rfl mz ?_; (with_reducible refine (impl_Range_single.calls a1_0 a1_1 false _ A8.out).mono ?_); rintro e w21 ⟨rfl, hb⟩; refine ⟨_, rfl, ?_⟩; replace BK256 := am (blk_below (g := gb256) (o := b2 a1_0 a1_1 24) (Z BK256) hb); replace BK257 := am (blk_below (g := gb257) (o := b2 a2_0 a2_1 24) (Z BK257) hb); replace BK258 := am (blk_below (g := gb258) (o := b2 0 0 24) (Z BK258) hb); replace HB := am (below_step (Y3 HB GE256 GE257 GE258) hb); (try clear hb); (try clear hb2); (try clear hk); (try clear hi)))
   go_meet
   case rel => exact ⟨_, (false), (by first | rfl | (simp; done) | (simp [*]; done)), H', ⟨by first | omega | exact Nat.le_refl _⟩, ⟨Z BK256⟩, ⟨Z BK257⟩, ⟨Z BK258⟩, ⟨Y3 HB GE256 GE257 GE258⟩⟩
 case rest =>
  clear HC4
  try clear c1
  try clear p2
  try clear c5
  try clear c9
  try clear c11
  try clear c12
  try clear c15
  try clear c18
  try clear c19
  try clear hcz13_0
  try clear hcz13_1
  try clear hcz16_0
  try clear hcz16_1
  try clear hcz20_0
  try clear hcz20_1
  try clear hfz13_0
  try clear hfz13_1
  try clear hfz16_0
  try clear hfz16_1
  try clear hfz20_0
  try clear hfz20_1
  obtain ⟨kq, x14_3, rfl, HA, HJ3, BK256, BK257, BK258, HB⟩ := hcut
  cases kq with
  | zero => exact absurd HA.out (by simp [impl_rangeBits.j0])
  | succ kj3 =>
   have H := HA.out
   clear HA
   simp only [impl_rangeBits.j0] at H
   by_cases c22 : x14_3 = true
   ·subst c22
    have H1 : ((impl_numExact.f kj3 a0 a1_0 a2_0).bind fun t261 => (some (t261, t261))) = some (r1, r2) := by rw [if_pos rfl] at H; exact H
    clear H
    have H := H1
    clear H1
    replace H := Option.bind_eq_some_iff.mp H
    obtain ⟨t261, A230, H⟩ := H
    replace H : (some (t261, t261)) = some (r1, r2) := H
    have A23 := am A230
    clear A230
    simp only [Option.some.injEq, Prod.mk.injEq] at H
    obtain ⟨rfl, rfl⟩ := H
    have hnb24 := NB256_257.out
    have hnc24 := NB257_256.out
    have hnb25 := NB256_258.out
    have hnc25 := NB258_256.out
    have hcz26_0 : wc.cell? ⟨gb256, 0, none⟩ = some (.int .i64 a1_0) := bc BK256 0
    have hcz26_1 : wc.cell? ⟨gb256, 1, none⟩ = some (.int .i64 a1_1) := bc BK256 1
    have hfz26_0 := blk_frozen BK256.out 0
    have hfz26_1 := blk_frozen BK256.out 1
    have hnb27 := NB257_258.out
    have hnc27 := NB258_257.out
    have hcz28_0 : wc.cell? ⟨gb257, 0, none⟩ = some (.int .i64 a2_0) := bc BK257 0
    have hcz28_1 : wc.cell? ⟨gb257, 1, none⟩ = some (.int .i64 a2_1) := bc BK257 1
    have hfz28_0 := blk_frozen BK257.out 0
    have hfz28_1 := blk_frozen BK257.out 1
    go_wp2_with (first | ((with_reducible refine gate_callee (f := 61) rfl ?_); refine goesL_ (some 20) rfl rfl Try.func61 (by kernel_rfl) rfl #[.int .i64 a0, .int .i64 a1_0, .int .i64 a2_0] rfl mz ?_; (with_reducible refine (impl_numExact.calls kj3 a0 a1_0 a2_0 t261 _ A23.out).mono ?_); rintro e w' ⟨rfl, ⟨nd, rfl⟩⟩; refine ⟨_, rfl, ?_⟩; (try (rw [drewN_self wc]; generalize hq_ : World.drewN wc _ = wc; replace BK256 : Aside0 (wc.heap[gb256]? = some (.cells #[.int .i64 a1_0, .int .i64 a1_1] 24 (0, 0))) := ⟨by rw [← hq_]; exact (Z BK256)⟩; replace BK257 : Aside0 (wc.heap[gb257]? = some (.cells #[.int .i64 a2_0, .int .i64 a2_1] 24 (0, 0))) := ⟨by rw [← hq_]; exact (Z BK257)⟩; replace BK258 : Aside0 (wc.heap[gb258]? = some (.cells #[.int .i64 0, .int .i64 0] 24 (0, 0))) := ⟨by rw [← hq_]; exact (Z BK258)⟩; replace HB : Aside0 (Below w.heap.size w wc) := ⟨by rw [← hq_]; exact (Y3 HB GE256 GE257 GE258)⟩; clear hq_; (try have hcz26_0 : wc.cell? ⟨gb256, 0, none⟩ = some (.int .i64 a1_0) := bc BK256 0); (try have hcz26_1 : wc.cell? ⟨gb256, 1, none⟩ = some (.int .i64 a1_1) := bc BK256 1); (try have hfz26_0 := blk_frozen BK256.out 0); (try have hfz26_1 := blk_frozen BK256.out 1); (try have hcz28_0 : wc.cell? ⟨gb257, 0, none⟩ = some (.int .i64 a2_0) := bc BK257 0); (try have hcz28_1 : wc.cell? ⟨gb257, 1, none⟩ = some (.int .i64 a2_1) := bc BK257 1); (try have hfz28_0 := blk_frozen BK257.out 0); (try have hfz28_1 := blk_frozen BK257.out 1))); have hcz29_0 : wc.cell? ⟨gb258, 0, none⟩ = some (.int .i64 0) := bc BK258 0; have hcz29_1 : wc.cell? ⟨gb258, 1, none⟩ = some (.int .i64 0) := bc BK258 1; have hfz29_0 := blk_frozen BK258.out 0; have hfz29_1 := blk_frozen BK258.out 1))
    refine bodyPost_ret (results_cell_row rfl _ _ gb258 24 #[.int .i64 t261, .int .i64 t261] (0, 0) _ rfl (by (with_reducible repeat (first | refine blk_drewN ?_ _ | refine blk_drew ?_ | refine blk_alloc ?_ _)); refine blk_put (cs := #[.int .i64 t261, .int .i64 0]) ?_ 1 _ rfl; (with_reducible repeat (first | refine blk_drewN ?_ _ | refine blk_drew ?_ | refine blk_alloc ?_ _)); refine blk_put (cs := #[.int .i64 0, .int .i64 0]) ?_ 0 _ rfl; (with_reducible repeat (first | refine blk_drewN ?_ _ | refine blk_drew ?_ | refine blk_alloc ?_ _)); exact BK258.out) Try.underlying24 rfl (by kernel_rfl)) rfl ?_
    exact ⟨by first | rfl | (simp [errW_none, errW_some] <;> rfl) | (simp [*, errW_none, errW_some] <;> rfl), Y3 HB GE256 GE257 GE258⟩
   ·replace c22 := Bool.eq_false_iff.mpr c22
    subst c22
    have H1 : (if a0 = 6 then (if a1_0 ≥ 0 then (impl_rangeBits.j1 kj3 (decide (a2_0 ≥ 0)) a1_0 a1_1 a2_0 a2_1) else (impl_rangeBits.j1 kj3 false a1_0 a1_1 a2_0 a2_1)) else (if a1_0 < 0 then (impl_rangeBits.j2 kj3 a0 true a1_0 a1_1 a2_0 a2_1) else (impl_rangeBits.j2 kj3 a0 (decide (a2_0 < 0)) a1_0 a1_1 a2_0 a2_1))) = some (r1, r2) := by rw [if_neg (show ¬ (false = true) by decide)] at H; exact H
    clear H
    have H := H1
    clear H1
    by_cases c30 : a0 = 6
    ·rw [if_pos c30] at H
     have c30b0 : (a0 == 6) = true := beq_iff_eq.mpr c30
     have c30b1 : (a0 != 6) = false := bne_eq_false_iff_eq.mpr c30
     clear c30
     have HC31 := am H
     clear H
     go_upto_region 5 with (fail)
     go_cut [26] (fun v26 wc => ∃ (kq : Nat) (x26_30 : Bool), v26 = .bool x26_30 ∧ Aside0 (impl_rangeBits.j1 kq x26_30 a1_0 a1_1 a2_0 a2_1 = some (r1, r2)) ∧ Aside0 (kq ≤ kj3) ∧ Aside0 (wc.heap[gb256]? = some (.cells #[.int .i64 a1_0, .int .i64 a1_1] 24 (0, 0))) ∧ Aside0 (wc.heap[gb257]? = some (.cells #[.int .i64 a2_0, .int .i64 a2_1] 24 (0, 0))) ∧ Aside0 (wc.heap[gb258]? = some (.cells #[.int .i64 0, .int .i64 0] 24 (0, 0))) ∧ Aside0 (Below w.heap.size w wc))
     case first =>
      have H := HC31.out
      clear HC31
      by_cases c32 : a1_0 ≥ 0
      ·rw [if_pos c32] at H
       have c32b0 : decide (0 ≤ a1_0) = true := decide_eq_true c32
       clear c32
       (first | rw [c32b0] | (simp only [i64_w, i32_w]; rw [c32b0]) | skip)
       have H' := am H
       clear H
       have hnb33 := NB256_257.out
       have hnc33 := NB257_256.out
       have hnb34 := NB256_258.out
       have hnc34 := NB258_256.out
       have hcz35_0 : wc.cell? ⟨gb256, 0, none⟩ = some (.int .i64 a1_0) := bc BK256 0
       have hcz35_1 : wc.cell? ⟨gb256, 1, none⟩ = some (.int .i64 a1_1) := bc BK256 1
       have hfz35_0 := blk_frozen BK256.out 0
       have hfz35_1 := blk_frozen BK256.out 1
       have hnb36 := NB257_258.out
       have hnc36 := NB258_257.out
       have hcz37_0 : wc.cell? ⟨gb257, 0, none⟩ = some (.int .i64 a2_0) := bc BK257 0
       have hcz37_1 : wc.cell? ⟨gb257, 1, none⟩ = some (.int .i64 a2_1) := bc BK257 1
       have hfz37_0 := blk_frozen BK257.out 0
       have hfz37_1 := blk_frozen BK257.out 1
       go_wp2
       go_meet
       case rel => exact ⟨_, (decide (a2_0 ≥ 0)), (by first | rfl | (simp; done) | (simp [*]; done)), H', ⟨by have := HJ3.out; first | omega | exact Nat.le_refl _⟩, ⟨Z BK256⟩, ⟨Z BK257⟩, ⟨Z BK258⟩, ⟨Y3 HB GE256 GE257 GE258⟩⟩
      ·rw [if_neg c32] at H
       have c32b0 : decide (0 ≤ a1_0) = false := decide_eq_false c32
       clear c32
       (first | rw [c32b0] | (simp only [i64_w, i32_w]; rw [c32b0]) | skip)
       have H' := am H
       clear H
       have hnb38 := NB256_257.out
       have hnc38 := NB257_256.out
       have hnb39 := NB256_258.out
       have hnc39 := NB258_256.out
       have hcz40_0 : wc.cell? ⟨gb256, 0, none⟩ = some (.int .i64 a1_0) := bc BK256 0
       have hcz40_1 : wc.cell? ⟨gb256, 1, none⟩ = some (.int .i64 a1_1) := bc BK256 1
       have hfz40_0 := blk_frozen BK256.out 0
       have hfz40_1 := blk_frozen BK256.out 1
       go_wp2
       go_meet
       case rel => exact ⟨_, (false), (by first | rfl | (simp; done) | (simp [*]; done)), H', ⟨by have := HJ3.out; first | omega | exact Nat.le_refl _⟩, ⟨Z BK256⟩, ⟨Z BK257⟩, ⟨Z BK258⟩, ⟨Y3 HB GE256 GE257 GE258⟩⟩
     case rest =>
      clear HC31
      try clear c1
      try clear c2
      try clear p2
      try clear c3
      try clear c5
      try clear c6
      try clear c9
      try clear c11
      try clear c12
      try clear c15
      try clear c18
      try clear c19
      try clear c22
      try clear c24
      try clear c25
      try clear c27
      try clear c30
      try clear c30b0
      try clear c30b1
      try clear c32
      try clear c32b0
      try clear c33
      try clear c34
      try clear c36
      try clear c38
      try clear c39
      try clear hcz13_0
      try clear hcz13_1
      try clear hcz16_0
      try clear hcz16_1
      try clear hcz20_0
      try clear hcz20_1
      try clear hcz26_0
      try clear hcz26_1
      try clear hcz28_0
      try clear hcz28_1
      try clear hcz29_0
      try clear hcz29_1
      try clear hcz35_0
      try clear hcz35_1
      try clear hcz37_0
      try clear hcz37_1
      try clear hcz40_0
      try clear hcz40_1
      try clear hfz13_0
      try clear hfz13_1
      try clear hfz16_0
      try clear hfz16_1
      try clear hfz20_0
      try clear hfz20_1
      try clear hfz26_0
      try clear hfz26_1
      try clear hfz28_0
      try clear hfz28_1
      try clear hfz29_0
      try clear hfz29_1
      try clear hfz35_0
      try clear hfz35_1
      try clear hfz37_0
      try clear hfz37_1
      try clear hfz40_0
      try clear hfz40_1
      try clear p2
      obtain ⟨kq, x26_30, rfl, HA, HJ30, BK256, BK257, BK258, HB⟩ := hcut
      cases kq with
      | zero => exact absurd HA.out (by simp [impl_rangeBits.j1])
      | succ kj30 =>
       have H := HA.out
       clear HA
       simp only [impl_rangeBits.j1] at H
       by_cases c41 : x26_30 = true
       ·subst c41
        have H1 : (some (0, mn a1_1 a2_1)) = some (r1, r2) := by rw [if_pos rfl] at H; exact H
        clear H
        have H := H1
        clear H1
        obtain ⟨ji42, hji42⟩ : ∃ j_ : Int, (mn a1_1 a2_1) = j_ := ⟨_, rfl⟩
        replace H : (some (0, ji42)) = some (r1, r2) := by first | (rw [hji42] at H; exact H) | (simp only [hji42] at H ⊢; exact H)
        have hji42_ : (if a2_1 < a1_1 then a2_1 else a1_1) = ji42 := hji42
        simp only [Option.some.injEq, Prod.mk.injEq] at H
        obtain ⟨rfl, rfl⟩ := H
        have hnb43 := NB256_257.out
        have hnc43 := NB257_256.out
        have hnb44 := NB256_258.out
        have hnc44 := NB258_256.out
        have hcz45_0 : wc.cell? ⟨gb256, 0, none⟩ = some (.int .i64 a1_0) := bc BK256 0
        have hcz45_1 : wc.cell? ⟨gb256, 1, none⟩ = some (.int .i64 a1_1) := bc BK256 1
        have hfz45_0 := blk_frozen BK256.out 0
        have hfz45_1 := blk_frozen BK256.out 1
        have hnb46 := NB257_258.out
        have hnc46 := NB258_257.out
        have hcz47_0 : wc.cell? ⟨gb257, 0, none⟩ = some (.int .i64 a2_0) := bc BK257 0
        have hcz47_1 : wc.cell? ⟨gb257, 1, none⟩ = some (.int .i64 a2_1) := bc BK257 1
        have hfz47_0 := blk_frozen BK257.out 0
        have hfz47_1 := blk_frozen BK257.out 1
        have hcz48_0 : wc.cell? ⟨gb258, 0, none⟩ = some (.int .i64 0) := bc BK258 0
        have hcz48_1 : wc.cell? ⟨gb258, 1, none⟩ = some (.int .i64 0) := bc BK258 1
        have hfz48_0 := blk_frozen BK258.out 0
        have hfz48_1 := blk_frozen BK258.out 1
        go_wp2
        refine bodyPost_ret (results_cell_row rfl _ _ gb258 24 #[.int .i64 0, .int .i64 ji42] (0, 0) _ rfl (by (with_reducible repeat (first | refine blk_drewN ?_ _ | refine blk_drew ?_ | refine blk_alloc ?_ _)); refine blk_put (cs := #[.int .i64 0, .int .i64 0]) ?_ 1 _ rfl; (with_reducible repeat (first | refine blk_drewN ?_ _ | refine blk_drew ?_ | refine blk_alloc ?_ _)); refine blk_put (cs := #[.int .i64 0, .int .i64 0]) ?_ 0 _ rfl; (with_reducible repeat (first | refine blk_drewN ?_ _ | refine blk_drew ?_ | refine blk_alloc ?_ _)); exact BK258.out) Try.underlying24 rfl (by kernel_rfl)) rfl ?_
        exact ⟨by first | rfl | (simp [errW_none, errW_some] <;> rfl) | (simp only [← hji42]; first | rfl | (simp [errW_none, errW_some] <;> rfl)) | (simp [*, errW_none, errW_some] <;> rfl), Y3 HB GE256 GE257 GE258⟩
       ·replace c41 := Bool.eq_false_iff.mpr c41
        subst c41
        have H1 : (if a1_0 ≥ 0 then (some (0, a1_1)) else (if a2_0 ≥ 0 then (some (0, a2_1)) else (some ((-2147483648), 2147483647)))) = some (r1, r2) := by rw [if_neg (show ¬ (false = true) by decide)] at H; exact H
        clear H
        have H := H1
        clear H1
        by_cases c49 : a1_0 ≥ 0
        ·rw [if_pos c49] at H
         have c49b0 : decide (0 ≤ a1_0) = true := decide_eq_true c49
         clear c49
         simp only [Option.some.injEq, Prod.mk.injEq] at H
         obtain ⟨rfl, rfl⟩ := H
         have hnb50 := NB256_257.out
         have hnc50 := NB257_256.out
         have hnb51 := NB256_258.out
         have hnc51 := NB258_256.out
         have hcz52_0 : wc.cell? ⟨gb256, 0, none⟩ = some (.int .i64 a1_0) := bc BK256 0
         have hcz52_1 : wc.cell? ⟨gb256, 1, none⟩ = some (.int .i64 a1_1) := bc BK256 1
         have hfz52_0 := blk_frozen BK256.out 0
         have hfz52_1 := blk_frozen BK256.out 1
         have hnb53 := NB258_257.out
         have hnc53 := NB257_258.out
         have hcz54_0 : wc.cell? ⟨gb258, 0, none⟩ = some (.int .i64 0) := bc BK258 0
         have hcz54_1 : wc.cell? ⟨gb258, 1, none⟩ = some (.int .i64 0) := bc BK258 1
         have hfz54_0 := blk_frozen BK258.out 0
         have hfz54_1 := blk_frozen BK258.out 1
         go_wp2
         refine bodyPost_ret (results_cell_row rfl _ _ gb258 24 #[.int .i64 0, .int .i64 a1_1] (0, 0) _ rfl (by (with_reducible repeat (first | refine blk_drewN ?_ _ | refine blk_drew ?_ | refine blk_alloc ?_ _)); refine blk_put (cs := #[.int .i64 0, .int .i64 0]) ?_ 1 _ rfl; (with_reducible repeat (first | refine blk_drewN ?_ _ | refine blk_drew ?_ | refine blk_alloc ?_ _)); refine blk_put (cs := #[.int .i64 0, .int .i64 0]) ?_ 0 _ rfl; (with_reducible repeat (first | refine blk_drewN ?_ _ | refine blk_drew ?_ | refine blk_alloc ?_ _)); exact BK258.out) Try.underlying24 rfl (by kernel_rfl)) rfl ?_
         exact ⟨by first | rfl | (simp [errW_none, errW_some] <;> rfl) | (simp [*, errW_none, errW_some] <;> rfl), Y3 HB GE256 GE257 GE258⟩
        ·rw [if_neg c49] at H
         have c49b0 : decide (0 ≤ a1_0) = false := decide_eq_false c49
         clear c49
         by_cases c55 : a2_0 ≥ 0
         ·rw [if_pos c55] at H
          have c55b0 : decide (0 ≤ a2_0) = true := decide_eq_true c55
          clear c55
          simp only [Option.some.injEq, Prod.mk.injEq] at H
          obtain ⟨rfl, rfl⟩ := H
          have hnb56 := NB256_257.out
          have hnc56 := NB257_256.out
          have hnb57 := NB256_258.out
          have hnc57 := NB258_256.out
          have hcz58_0 : wc.cell? ⟨gb256, 0, none⟩ = some (.int .i64 a1_0) := bc BK256 0
          have hcz58_1 : wc.cell? ⟨gb256, 1, none⟩ = some (.int .i64 a1_1) := bc BK256 1
          have hfz58_0 := blk_frozen BK256.out 0
          have hfz58_1 := blk_frozen BK256.out 1
          have hnb59 := NB257_258.out
          have hnc59 := NB258_257.out
          have hcz60_0 : wc.cell? ⟨gb257, 0, none⟩ = some (.int .i64 a2_0) := bc BK257 0
          have hcz60_1 : wc.cell? ⟨gb257, 1, none⟩ = some (.int .i64 a2_1) := bc BK257 1
          have hfz60_0 := blk_frozen BK257.out 0
          have hfz60_1 := blk_frozen BK257.out 1
          have hcz61_0 : wc.cell? ⟨gb258, 0, none⟩ = some (.int .i64 0) := bc BK258 0
          have hcz61_1 : wc.cell? ⟨gb258, 1, none⟩ = some (.int .i64 0) := bc BK258 1
          have hfz61_0 := blk_frozen BK258.out 0
          have hfz61_1 := blk_frozen BK258.out 1
          go_wp2
          refine bodyPost_ret (results_cell_row rfl _ _ gb258 24 #[.int .i64 0, .int .i64 a2_1] (0, 0) _ rfl (by (with_reducible repeat (first | refine blk_drewN ?_ _ | refine blk_drew ?_ | refine blk_alloc ?_ _)); refine blk_put (cs := #[.int .i64 0, .int .i64 0]) ?_ 1 _ rfl; (with_reducible repeat (first | refine blk_drewN ?_ _ | refine blk_drew ?_ | refine blk_alloc ?_ _)); refine blk_put (cs := #[.int .i64 0, .int .i64 0]) ?_ 0 _ rfl; (with_reducible repeat (first | refine blk_drewN ?_ _ | refine blk_drew ?_ | refine blk_alloc ?_ _)); exact BK258.out) Try.underlying24 rfl (by kernel_rfl)) rfl ?_
          exact ⟨by first | rfl | (simp [errW_none, errW_some] <;> rfl) | (simp [*, errW_none, errW_some] <;> rfl), Y3 HB GE256 GE257 GE258⟩
         ·rw [if_neg c55] at H
          have c55b0 : decide (0 ≤ a2_0) = false := decide_eq_false c55
          clear c55
          simp only [Option.some.injEq, Prod.mk.injEq] at H
          obtain ⟨rfl, rfl⟩ := H
          have hnb62 := NB256_257.out
          have hnc62 := NB257_256.out
          have hnb63 := NB256_258.out
          have hnc63 := NB258_256.out
          have hcz64_0 : wc.cell? ⟨gb256, 0, none⟩ = some (.int .i64 a1_0) := bc BK256 0
          have hcz64_1 : wc.cell? ⟨gb256, 1, none⟩ = some (.int .i64 a1_1) := bc BK256 1
          have hfz64_0 := blk_frozen BK256.out 0
          have hfz64_1 := blk_frozen BK256.out 1
          have hnb65 := NB257_258.out
          have hnc65 := NB258_257.out
          have hcz66_0 : wc.cell? ⟨gb257, 0, none⟩ = some (.int .i64 a2_0) := bc BK257 0
          have hcz66_1 : wc.cell? ⟨gb257, 1, none⟩ = some (.int .i64 a2_1) := bc BK257 1
          have hfz66_0 := blk_frozen BK257.out 0
          have hfz66_1 := blk_frozen BK257.out 1
          have hcz67_0 : wc.cell? ⟨gb258, 0, none⟩ = some (.int .i64 0) := bc BK258 0
          have hcz67_1 : wc.cell? ⟨gb258, 1, none⟩ = some (.int .i64 0) := bc BK258 1
          have hfz67_0 := blk_frozen BK258.out 0
          have hfz67_1 := blk_frozen BK258.out 1
          go_wp2
          refine bodyPost_ret (results_cell_row rfl _ _ gb258 24 #[.int .i64 (-2147483648), .int .i64 2147483647] (0, 0) _ rfl (by (with_reducible repeat (first | refine blk_drewN ?_ _ | refine blk_drew ?_ | refine blk_alloc ?_ _)); refine blk_put (cs := #[.int .i64 (-2147483648), .int .i64 0]) ?_ 1 _ rfl; (with_reducible repeat (first | refine blk_drewN ?_ _ | refine blk_drew ?_ | refine blk_alloc ?_ _)); refine blk_put (cs := #[.int .i64 0, .int .i64 0]) ?_ 0 _ rfl; (with_reducible repeat (first | refine blk_drewN ?_ _ | refine blk_drew ?_ | refine blk_alloc ?_ _)); exact BK258.out) Try.underlying24 rfl (by kernel_rfl)) rfl ?_
          exact ⟨by first | rfl | (simp [errW_none, errW_some] <;> rfl) | (simp [*, errW_none, errW_some] <;> rfl), Y3 HB GE256 GE257 GE258⟩
    ·rw [if_neg c30] at H
     have c30b0 : (a0 == 6) = false := beq_eq_false_iff_ne.mpr c30
     have c30b1 : (a0 != 6) = true := bne_iff_ne.mpr c30
     have HC68 := am H
     clear H
     go_upto_region 12 with (fail)
     go_cut [63] (fun v63 wc => ∃ (kq : Nat) (x63_67 : Bool), v63 = .bool x63_67 ∧ Aside0 (impl_rangeBits.j2 kq a0 x63_67 a1_0 a1_1 a2_0 a2_1 = some (r1, r2)) ∧ Aside0 (kq ≤ kj3) ∧ Aside0 (wc.heap[gb256]? = some (.cells #[.int .i64 a1_0, .int .i64 a1_1] 24 (0, 0))) ∧ Aside0 (wc.heap[gb257]? = some (.cells #[.int .i64 a2_0, .int .i64 a2_1] 24 (0, 0))) ∧ Aside0 (wc.heap[gb258]? = some (.cells #[.int .i64 0, .int .i64 0] 24 (0, 0))) ∧ Aside0 (Below w.heap.size w wc))
     case first =>
      have H := HC68.out
      clear HC68
      by_cases c69 : a1_0 < 0
      ·rw [if_pos c69] at H
       have c69b0 : decide (a1_0 < 0) = true := decide_eq_true c69
       clear c69
       (first | rw [c69b0] | (simp only [i64_w, i32_w]; rw [c69b0]) | skip)
       have H' := am H
       clear H
       have hnb70 := NB256_257.out
       have hnc70 := NB257_256.out
       have hnb71 := NB256_258.out
       have hnc71 := NB258_256.out
       have hcz72_0 : wc.cell? ⟨gb256, 0, none⟩ = some (.int .i64 a1_0) := bc BK256 0
       have hcz72_1 : wc.cell? ⟨gb256, 1, none⟩ = some (.int .i64 a1_1) := bc BK256 1
       have hfz72_0 := blk_frozen BK256.out 0
       have hfz72_1 := blk_frozen BK256.out 1
       go_wp2
       go_meet
       case rel => exact ⟨_, (true), (by first | rfl | (simp; done) | (simp [*]; done)), H', ⟨by have := HJ3.out; first | omega | exact Nat.le_refl _⟩, ⟨Z BK256⟩, ⟨Z BK257⟩, ⟨Z BK258⟩, ⟨Y3 HB GE256 GE257 GE258⟩⟩
      ·rw [if_neg c69] at H
       have c69b0 : decide (a1_0 < 0) = false := decide_eq_false c69
       clear c69
       (first | rw [c69b0] | (simp only [i64_w, i32_w]; rw [c69b0]) | skip)
       have H' := am H
       clear H
       have hnb73 := NB256_257.out
       have hnc73 := NB257_256.out
       have hnb74 := NB256_258.out
       have hnc74 := NB258_256.out
       have hcz75_0 : wc.cell? ⟨gb256, 0, none⟩ = some (.int .i64 a1_0) := bc BK256 0
       have hcz75_1 : wc.cell? ⟨gb256, 1, none⟩ = some (.int .i64 a1_1) := bc BK256 1
       have hfz75_0 := blk_frozen BK256.out 0
       have hfz75_1 := blk_frozen BK256.out 1
       have hnb76 := NB257_258.out
       have hnc76 := NB258_257.out
       have hcz77_0 : wc.cell? ⟨gb257, 0, none⟩ = some (.int .i64 a2_0) := bc BK257 0
       have hcz77_1 : wc.cell? ⟨gb257, 1, none⟩ = some (.int .i64 a2_1) := bc BK257 1
       have hfz77_0 := blk_frozen BK257.out 0
       have hfz77_1 := blk_frozen BK257.out 1
       go_wp2
       go_meet
       case rel => exact ⟨_, (decide (a2_0 < 0)), (by first | rfl | (simp; done) | (simp [*]; done)), H', ⟨by have := HJ3.out; first | omega | exact Nat.le_refl _⟩, ⟨Z BK256⟩, ⟨Z BK257⟩, ⟨Z BK258⟩, ⟨Y3 HB GE256 GE257 GE258⟩⟩
     case rest =>
      clear HC68
      try clear c1
      try clear c2
      try clear p2
      try clear c3
      try clear c4
      try clear c5
      try clear c6
      try clear c7
      try clear c9
      try clear c11
      try clear c12
      try clear c15
      try clear c18
      try clear c19
      try clear c22
      try clear c24
      try clear c25
      try clear c27
      try clear c30
      try clear c30b0
      try clear c30b1
      try clear c32
      try clear c32b0
      try clear c33
      try clear c34
      try clear c36
      try clear c38
      try clear c39
      try clear c41
      try clear c43
      try clear c44
      try clear c46
      try clear c49
      try clear c49b0
      try clear c50
      try clear c51
      try clear c53
      try clear c55
      try clear c55b0
      try clear c56
      try clear c57
      try clear c59
      try clear c61
      try clear c62
      try clear c63
      try clear c65
      try clear c69
      try clear c69b0
      try clear c70
      try clear c71
      try clear c73
      try clear c74
      try clear c76
      try clear hcz13_0
      try clear hcz13_1
      try clear hcz16_0
      try clear hcz16_1
      try clear hcz20_0
      try clear hcz20_1
      try clear hcz26_0
      try clear hcz26_1
      try clear hcz28_0
      try clear hcz28_1
      try clear hcz29_0
      try clear hcz29_1
      try clear hcz35_0
      try clear hcz35_1
      try clear hcz37_0
      try clear hcz37_1
      try clear hcz40_0
      try clear hcz40_1
      try clear hcz45_0
      try clear hcz45_1
      try clear hcz47_0
      try clear hcz47_1
      try clear hcz48_0
      try clear hcz48_1
      try clear hcz52_0
      try clear hcz52_1
      try clear hcz54_0
      try clear hcz54_1
      try clear hcz58_0
      try clear hcz58_1
      try clear hcz60_0
      try clear hcz60_1
      try clear hcz61_0
      try clear hcz61_1
      try clear hcz64_0
      try clear hcz64_1
      try clear hcz66_0
      try clear hcz66_1
      try clear hcz67_0
      try clear hcz67_1
      try clear hcz72_0
      try clear hcz72_1
      try clear hcz75_0
      try clear hcz75_1
      try clear hcz77_0
      try clear hcz77_1
      try clear hfz13_0
      try clear hfz13_1
      try clear hfz16_0
      try clear hfz16_1
      try clear hfz20_0
      try clear hfz20_1
      try clear hfz26_0
      try clear hfz26_1
      try clear hfz28_0
      try clear hfz28_1
      try clear hfz29_0
      try clear hfz29_1
      try clear hfz35_0
      try clear hfz35_1
      try clear hfz37_0
      try clear hfz37_1
      try clear hfz40_0
      try clear hfz40_1
      try clear hfz45_0
      try clear hfz45_1
      try clear hfz47_0
      try clear hfz47_1
      try clear hfz48_0
      try clear hfz48_1
      try clear hfz52_0
      try clear hfz52_1
      try clear hfz54_0
      try clear hfz54_1
      try clear hfz58_0
      try clear hfz58_1
      try clear hfz60_0
      try clear hfz60_1
      try clear hfz61_0
      try clear hfz61_1
      try clear hfz64_0
      try clear hfz64_1
      try clear hfz66_0
      try clear hfz66_1
      try clear hfz67_0
      try clear hfz67_1
      try clear hfz72_0
      try clear hfz72_1
      try clear hfz75_0
      try clear hfz75_1
      try clear hfz77_0
      try clear hfz77_1
      try clear p2
      obtain ⟨kq, x63_67, rfl, HA, HJ67, BK256, BK257, BK258, HB⟩ := hcut
      cases kq with
      | zero => exact absurd HA.out (by simp [impl_rangeBits.j2])
      | succ kj67 =>
       have H := HA.out
       clear HA
       simp only [impl_rangeBits.j2] at H
       by_cases c78 : x63_67 = true
       ·subst c78
        have H1 : (some ((-2147483648), 2147483647)) = some (r1, r2) := by rw [if_pos rfl] at H; exact H
        clear H
        have H := H1
        clear H1
        simp only [Option.some.injEq, Prod.mk.injEq] at H
        obtain ⟨rfl, rfl⟩ := H
        have hnb79 := NB258_256.out
        have hnc79 := NB256_258.out
        have hnb80 := NB258_257.out
        have hnc80 := NB257_258.out
        have hcz81_0 : wc.cell? ⟨gb258, 0, none⟩ = some (.int .i64 0) := bc BK258 0
        have hcz81_1 : wc.cell? ⟨gb258, 1, none⟩ = some (.int .i64 0) := bc BK258 1
        have hfz81_0 := blk_frozen BK258.out 0
        have hfz81_1 := blk_frozen BK258.out 1
        go_wp2
        refine bodyPost_ret (results_cell_row rfl _ _ gb258 24 #[.int .i64 (-2147483648), .int .i64 2147483647] (0, 0) _ rfl (by (with_reducible repeat (first | refine blk_drewN ?_ _ | refine blk_drew ?_ | refine blk_alloc ?_ _)); refine blk_put (cs := #[.int .i64 (-2147483648), .int .i64 0]) ?_ 1 _ rfl; (with_reducible repeat (first | refine blk_drewN ?_ _ | refine blk_drew ?_ | refine blk_alloc ?_ _)); refine blk_put (cs := #[.int .i64 0, .int .i64 0]) ?_ 0 _ rfl; (with_reducible repeat (first | refine blk_drewN ?_ _ | refine blk_drew ?_ | refine blk_alloc ?_ _)); exact BK258.out) Try.underlying24 rfl (by kernel_rfl)) rfl ?_
        exact ⟨by first | rfl | (simp [errW_none, errW_some] <;> rfl) | (simp [*, errW_none, errW_some] <;> rfl), Y3 HB GE256 GE257 GE258⟩
       ·replace c78 := Bool.eq_false_iff.mpr c78
        subst c78
        have H1 : (if a0 = 7 then (impl_rangeBits.j3 kj67 a1_0 a1_1 a2_0 a2_1 (mx a1_0 a2_0) 0) else (impl_rangeBits.j3 kj67 a1_0 a1_1 a2_0 a2_1 0 0)) = some (r1, r2) := by rw [if_neg (show ¬ (false = true) by decide)] at H; exact H
        clear H
        have H := H1
        clear H1
        have HC82 := am H
        clear H
        go_upto_if 67 with (first | ((with_reducible refine gate_dst (N := 8) rfl ?_); refine box_event ?hg (N := 8) ?hd (cs := #[.int .i64 0, .int .i64 0]) (t := 24) ?hr ?_; (case hd => rfl); (case hg => rfl); (case hr => first | (go_simp; done) | (go_simp; rfl)); intro gb262 hg w83 hbox hb; have BK262 := am (hbox); have GW262 := am ((by rw [hg]; exact (below_size (Y3 HB GE256 GE257 GE258)) : w.heap.size ≤ gb262)); have GE262 := am ((by rw [hg]; exact (below_size (Y3 HB GE256 GE257 GE258)) : w.heap.size ≤ gb262)); have NB256_262 := am ((nl (o := b2 a1_0 a1_1 24) hg (Z BK256) : gb256 ≠ gb262)); have NB262_256 := am ((ng (o := b2 a1_0 a1_1 24) hg (Z BK256) : gb262 ≠ gb256)); have NB257_262 := am ((nl (o := b2 a2_0 a2_1 24) hg (Z BK257) : gb257 ≠ gb262)); have NB262_257 := am ((ng (o := b2 a2_0 a2_1 24) hg (Z BK257) : gb262 ≠ gb257)); have NB258_262 := am ((nl (o := b2 0 0 24) hg (Z BK258) : gb258 ≠ gb262)); have NB262_258 := am ((ng (o := b2 0 0 24) hg (Z BK258) : gb262 ≠ gb258)); replace BK256 := am (blk_below (g := gb256) (o := b2 a1_0 a1_1 24) (Z BK256) hb); replace BK257 := am (blk_below (g := gb257) (o := b2 a2_0 a2_1 24) (Z BK257) hb); replace BK258 := am (blk_below (g := gb258) (o := b2 0 0 24) (Z BK258) hb); replace HB := am (below_step (Y3 HB GE256 GE257 GE258) hb); clear hb hbox hg; have hnb84 := NB262_256.out; have hnc84 := NB256_262.out; have hnb85 := NB262_257.out; have hnc85 := NB257_262.out; have hnb86 := NB262_258.out; have hnc86 := NB258_262.out; have hcz87_0 : w83.cell? ⟨gb262, 0, none⟩ = some (.int .i64 0) := bc BK262 0; have hcz87_1 : w83.cell? ⟨gb262, 1, none⟩ = some (.int .i64 0) := bc BK262 1; have hfz87_0 := blk_frozen BK262.out 0; have hfz87_1 := blk_frozen BK262.out 1))
        (try simp only [Act.put, List.setIfInBounds_toArray, List.set_cons_zero, List.set_cons_succ])
        go_cut [] (fun wc => ∃ (kq : Nat) (x263000_81 : Int), Aside0 (impl_rangeBits.j3 kq a1_0 a1_1 a2_0 a2_1 x263000_81 0 = some (r1, r2)) ∧ Aside0 (kq ≤ kj67) ∧ Aside0 (wc.heap[gb256]? = some (.cells #[.int .i64 a1_0, .int .i64 a1_1] 24 (0, 0))) ∧ Aside0 (wc.heap[gb257]? = some (.cells #[.int .i64 a2_0, .int .i64 a2_1] 24 (0, 0))) ∧ Aside0 (wc.heap[gb258]? = some (.cells #[.int .i64 0, .int .i64 0] 24 (0, 0))) ∧ Aside0 (wc.heap[gb262]? = some (.cells #[.int .i64 x263000_81, .int .i64 0] 24 (0, 0))) ∧ Aside0 (Below w.heap.size w wc))
        case first =>
         have H := HC82.out
         clear HC82
         by_cases c88 : a0 = 7
         ·rw [if_pos c88] at H
          have c88b0 : (a0 == 7) = true := beq_iff_eq.mpr c88
          have c88b1 : (a0 != 7) = false := bne_eq_false_iff_eq.mpr c88
          clear c88
          (first | rw [c88b0] | (simp only [i64_w, i32_w]; rw [c88b0]) | skip)
          obtain ⟨ji89, hji89⟩ : ∃ j_ : Int, (mx a1_0 a2_0) = j_ := ⟨_, rfl⟩
          replace H : (impl_rangeBits.j3 kj67 a1_0 a1_1 a2_0 a2_1 ji89 0) = some (r1, r2) := by first | (rw [hji89] at H; exact H) | (simp only [hji89] at H ⊢; exact H)
          have hji89_ : (if a1_0 < a2_0 then a2_0 else a1_0) = ji89 := hji89
          have H' := am H
          clear H
          have hnb90 := NB256_257.out
          have hnc90 := NB257_256.out
          have hnb91 := NB256_258.out
          have hnc91 := NB258_256.out
          have hnb92 := NB256_262.out
          have hnc92 := NB262_256.out
          have hcz93_0 : w83.cell? ⟨gb256, 0, none⟩ = some (.int .i64 a1_0) := bc BK256 0
          have hcz93_1 : w83.cell? ⟨gb256, 1, none⟩ = some (.int .i64 a1_1) := bc BK256 1
          have hfz93_0 := blk_frozen BK256.out 0
          have hfz93_1 := blk_frozen BK256.out 1
          have hnb94 := NB257_258.out
          have hnc94 := NB258_257.out
          have hnb95 := NB257_262.out
          have hnc95 := NB262_257.out
          have hcz96_0 : w83.cell? ⟨gb257, 0, none⟩ = some (.int .i64 a2_0) := bc BK257 0
          have hcz96_1 : w83.cell? ⟨gb257, 1, none⟩ = some (.int .i64 a2_1) := bc BK257 1
          have hfz96_0 := blk_frozen BK257.out 0
          have hfz96_1 := blk_frozen BK257.out 1
          have hnb97 := NB262_258.out
          have hnc97 := NB258_262.out
          have hcz98_0 : w83.cell? ⟨gb262, 0, none⟩ = some (.int .i64 0) := bc BK262 0
          have hcz98_1 : w83.cell? ⟨gb262, 1, none⟩ = some (.int .i64 0) := bc BK262 1
          have hfz98_0 := blk_frozen BK262.out 0
          have hfz98_1 := blk_frozen BK262.out 1
          go_wp2
          go_meet
          case rel => exact ⟨_, (ji89), H', ⟨by have := HJ3.out; have := HJ67.out; first | omega | exact Nat.le_refl _⟩, ⟨by (with_reducible repeat (first | refine blk_drewN ?_ _ | refine blk_drew ?_ | refine blk_alloc ?_ _)); refine blk_far ?_ NB256_262.out _; (with_reducible repeat (first | refine blk_drewN ?_ _ | refine blk_drew ?_ | refine blk_alloc ?_ _)); refine blk_far ?_ NB256_262.out _; (with_reducible repeat (first | refine blk_drewN ?_ _ | refine blk_drew ?_ | refine blk_alloc ?_ _)); refine blk_far ?_ NB256_262.out _; (with_reducible repeat (first | refine blk_drewN ?_ _ | refine blk_drew ?_ | refine blk_alloc ?_ _)); exact BK256.out⟩, ⟨by (with_reducible repeat (first | refine blk_drewN ?_ _ | refine blk_drew ?_ | refine blk_alloc ?_ _)); refine blk_far ?_ NB257_262.out _; (with_reducible repeat (first | refine blk_drewN ?_ _ | refine blk_drew ?_ | refine blk_alloc ?_ _)); refine blk_far ?_ NB257_262.out _; (with_reducible repeat (first | refine blk_drewN ?_ _ | refine blk_drew ?_ | refine blk_alloc ?_ _)); refine blk_far ?_ NB257_262.out _; (with_reducible repeat (first | refine blk_drewN ?_ _ | refine blk_drew ?_ | refine blk_alloc ?_ _)); exact BK257.out⟩, ⟨by (with_reducible repeat (first | refine blk_drewN ?_ _ | refine blk_drew ?_ | refine blk_alloc ?_ _)); refine blk_far ?_ NB258_262.out _; (with_reducible repeat (first | refine blk_drewN ?_ _ | refine blk_drew ?_ | refine blk_alloc ?_ _)); refine blk_far ?_ NB258_262.out _; (with_reducible repeat (first | refine blk_drewN ?_ _ | refine blk_drew ?_ | refine blk_alloc ?_ _)); refine blk_far ?_ NB258_262.out _; (with_reducible repeat (first | refine blk_drewN ?_ _ | refine blk_drew ?_ | refine blk_alloc ?_ _)); exact BK258.out⟩, ⟨by (with_reducible repeat (first | refine blk_drewN ?_ _ | refine blk_drew ?_ | refine blk_alloc ?_ _)); refine blk_put (cs := #[.int .i64 0, .int .i64 0]) ?_ 0 _ rfl; (with_reducible repeat (first | refine blk_drewN ?_ _ | refine blk_drew ?_ | refine blk_alloc ?_ _)); refine blk_put (cs := #[.int .i64 0, .int .i64 0]) ?_ 1 _ rfl; (with_reducible repeat (first | refine blk_drewN ?_ _ | refine blk_drew ?_ | refine blk_alloc ?_ _)); refine blk_put (cs := #[.int .i64 0, .int .i64 0]) ?_ 0 _ rfl; (with_reducible repeat (first | refine blk_drewN ?_ _ | refine blk_drew ?_ | refine blk_alloc ?_ _)); exact BK262.out⟩, ⟨Y4 HB GE256 GE257 GE258 GE262⟩⟩
         ·rw [if_neg c88] at H
          have c88b0 : (a0 == 7) = false := beq_eq_false_iff_ne.mpr c88
          have c88b1 : (a0 != 7) = true := bne_iff_ne.mpr c88
          (first | rw [c88b0] | (simp only [i64_w, i32_w]; rw [c88b0]) | skip)
          have H' := am H
          clear H
          go_wp2
          go_meet
          case rel => exact ⟨_, (0), H', ⟨by have := HJ3.out; have := HJ67.out; first | omega | exact Nat.le_refl _⟩, ⟨by (with_reducible repeat (first | refine blk_drewN ?_ _ | refine blk_drew ?_ | refine blk_alloc ?_ _)); refine blk_far ?_ NB256_262.out _; (with_reducible repeat (first | refine blk_drewN ?_ _ | refine blk_drew ?_ | refine blk_alloc ?_ _)); refine blk_far ?_ NB256_262.out _; (with_reducible repeat (first | refine blk_drewN ?_ _ | refine blk_drew ?_ | refine blk_alloc ?_ _)); exact BK256.out⟩, ⟨by (with_reducible repeat (first | refine blk_drewN ?_ _ | refine blk_drew ?_ | refine blk_alloc ?_ _)); refine blk_far ?_ NB257_262.out _; (with_reducible repeat (first | refine blk_drewN ?_ _ | refine blk_drew ?_ | refine blk_alloc ?_ _)); refine blk_far ?_ NB257_262.out _; (with_reducible repeat (first | refine blk_drewN ?_ _ | refine blk_drew ?_ | refine blk_alloc ?_ _)); exact BK257.out⟩, ⟨by (with_reducible repeat (first | refine blk_drewN ?_ _ | refine blk_drew ?_ | refine blk_alloc ?_ _)); refine blk_far ?_ NB258_262.out _; (with_reducible repeat (first | refine blk_drewN ?_ _ | refine blk_drew ?_ | refine blk_alloc ?_ _)); refine blk_far ?_ NB258_262.out _; (with_reducible repeat (first | refine blk_drewN ?_ _ | refine blk_drew ?_ | refine blk_alloc ?_ _)); exact BK258.out⟩, ⟨by (with_reducible repeat (first | refine blk_drewN ?_ _ | refine blk_drew ?_ | refine blk_alloc ?_ _)); refine blk_put (cs := #[.int .i64 0, .int .i64 0]) ?_ 1 _ rfl; (with_reducible repeat (first | refine blk_drewN ?_ _ | refine blk_drew ?_ | refine blk_alloc ?_ _)); refine blk_put (cs := #[.int .i64 0, .int .i64 0]) ?_ 0 _ rfl; (with_reducible repeat (first | refine blk_drewN ?_ _ | refine blk_drew ?_ | refine blk_alloc ?_ _)); exact BK262.out⟩, ⟨Y4 HB GE256 GE257 GE258 GE262⟩⟩
        case rest =>
         clear HC82
         try clear c1
         try clear c2
         try clear p2
         try clear c3
         try clear c4
         try clear c5
         try clear c6
         try clear c7
         try clear c8
         try clear c9
         try clear c11
         try clear c12
         try clear c15
         try clear c18
         try clear c19
         try clear c22
         try clear c24
         try clear c25
         try clear c27
         try clear c30
         try clear c30b0
         try clear c30b1
         try clear c32
         try clear c32b0
         try clear c33
         try clear c34
         try clear c36
         try clear c38
         try clear c39
         try clear c41
         try clear c43
         try clear c44
         try clear c46
         try clear c49
         try clear c49b0
         try clear c50
         try clear c51
         try clear c53
         try clear c55
         try clear c55b0
         try clear c56
         try clear c57
         try clear c59
         try clear c61
         try clear c62
         try clear c63
         try clear c65
         try clear c69
         try clear c69b0
         try clear c70
         try clear c71
         try clear c73
         try clear c74
         try clear c76
         try clear c78
         try clear c79
         try clear c80
         try clear c84
         try clear c85
         try clear c86
         try clear c88
         try clear c88b0
         try clear c88b1
         try clear c90
         try clear c91
         try clear c92
         try clear c94
         try clear c95
         try clear c96
         try clear c97
         try clear hcz13_0
         try clear hcz13_1
         try clear hcz16_0
         try clear hcz16_1
         try clear hcz20_0
         try clear hcz20_1
         try clear hcz26_0
         try clear hcz26_1
         try clear hcz28_0
         try clear hcz28_1
         try clear hcz29_0
         try clear hcz29_1
         try clear hcz35_0
         try clear hcz35_1
         try clear hcz37_0
         try clear hcz37_1
         try clear hcz40_0
         try clear hcz40_1
         try clear hcz45_0
         try clear hcz45_1
         try clear hcz47_0
         try clear hcz47_1
         try clear hcz48_0
         try clear hcz48_1
         try clear hcz52_0
         try clear hcz52_1
         try clear hcz54_0
         try clear hcz54_1
         try clear hcz58_0
         try clear hcz58_1
         try clear hcz60_0
         try clear hcz60_1
         try clear hcz61_0
         try clear hcz61_1
         try clear hcz64_0
         try clear hcz64_1
         try clear hcz66_0
         try clear hcz66_1
         try clear hcz67_0
         try clear hcz67_1
         try clear hcz72_0
         try clear hcz72_1
         try clear hcz75_0
         try clear hcz75_1
         try clear hcz77_0
         try clear hcz77_1
         try clear hcz81_0
         try clear hcz81_1
         try clear hcz87_0
         try clear hcz87_1
         try clear hcz93_0
         try clear hcz93_1
         try clear hcz96_0
         try clear hcz96_1
         try clear hcz98_0
         try clear hcz98_1
         try clear hfz13_0
         try clear hfz13_1
         try clear hfz16_0
         try clear hfz16_1
         try clear hfz20_0
         try clear hfz20_1
         try clear hfz26_0
         try clear hfz26_1
         try clear hfz28_0
         try clear hfz28_1
         try clear hfz29_0
         try clear hfz29_1
         try clear hfz35_0
         try clear hfz35_1
         try clear hfz37_0
         try clear hfz37_1
         try clear hfz40_0
         try clear hfz40_1
         try clear hfz45_0
         try clear hfz45_1
         try clear hfz47_0
         try clear hfz47_1
         try clear hfz48_0
         try clear hfz48_1
         try clear hfz52_0
         try clear hfz52_1
         try clear hfz54_0
         try clear hfz54_1
         try clear hfz58_0
         try clear hfz58_1
         try clear hfz60_0
         try clear hfz60_1
         try clear hfz61_0
         try clear hfz61_1
         try clear hfz64_0
         try clear hfz64_1
         try clear hfz66_0
         try clear hfz66_1
         try clear hfz67_0
         try clear hfz67_1
         try clear hfz72_0
         try clear hfz72_1
         try clear hfz75_0
         try clear hfz75_1
         try clear hfz77_0
         try clear hfz77_1
         try clear hfz81_0
         try clear hfz81_1
         try clear hfz87_0
         try clear hfz87_1
         try clear hfz93_0
         try clear hfz93_1
         try clear hfz96_0
         try clear hfz96_1
         try clear hfz98_0
         try clear hfz98_1
         try clear p2
         obtain ⟨kq, x263000_81, HA, HJ81, BK256, BK257, BK258, BK262, HB⟩ := hcut
         cases kq with
         | zero => exact absurd HA.out (by simp [impl_rangeBits.j3])
         | succ kj81 =>
          have H := HA.out
          clear HA
          simp only [impl_rangeBits.j3] at H
          have H' := am H
          clear H
          go_wp2
          go_loopg [] kj81 (fun kq w' => ∃ (x263001_4 : Int), Aside0 (impl_rangeBits.l0 kq a1_0 a1_1 a2_0 a2_1 x263000_81 x263001_4 = some (r1, r2)) ∧ Aside0 (kq ≤ kj81) ∧ Aside0 (w'.heap[gb256]? = some (.cells #[.int .i64 a1_0, .int .i64 a1_1] 24 (0, 0))) ∧ Aside0 (w'.heap[gb257]? = some (.cells #[.int .i64 a2_0, .int .i64 a2_1] 24 (0, 0))) ∧ Aside0 (w'.heap[gb258]? = some (.cells #[.int .i64 0, .int .i64 0] 24 (0, 0))) ∧ Aside0 (w'.heap[gb262]? = some (.cells #[.int .i64 x263000_81, .int .i64 x263001_4] 24 (0, 0))) ∧ Aside0 (Below w.heap.size w w'))
          case atStart => exact ⟨(0), H', ⟨Nat.le_refl _⟩, ⟨Z BK256⟩, ⟨Z BK257⟩, ⟨Z BK258⟩, ⟨Z BK262⟩, ⟨Y4 HB GE256 GE257 GE258 GE262⟩⟩
          case round =>
           clear H'
           try clear c1
           try clear c2
           try clear p2
           try clear c3
           try clear c4
           try clear c5
           try clear c6
           try clear c7
           try clear c8
           try clear c9
           try clear c11
           try clear c12
           try clear c15
           try clear c18
           try clear c19
           try clear c22
           try clear c24
           try clear c25
           try clear c27
           try clear c30
           try clear c30b0
           try clear c30b1
           try clear c32
           try clear c32b0
           try clear c33
           try clear c34
           try clear c36
           try clear c38
           try clear c39
           try clear c41
           try clear c43
           try clear c44
           try clear c46
           try clear c49
           try clear c49b0
           try clear c50
           try clear c51
           try clear c53
           try clear c55
           try clear c55b0
           try clear c56
           try clear c57
           try clear c59
           try clear c61
           try clear c62
           try clear c63
           try clear c65
           try clear c69
           try clear c69b0
           try clear c70
           try clear c71
           try clear c73
           try clear c74
           try clear c76
           try clear c78
           try clear c79
           try clear c80
           try clear c84
           try clear c85
           try clear c86
           try clear c88
           try clear c88b0
           try clear c88b1
           try clear c90
           try clear c91
           try clear c92
           try clear c94
           try clear c95
           try clear c96
           try clear c97
           try clear hcz13_0
           try clear hcz13_1
           try clear hcz16_0
           try clear hcz16_1
           try clear hcz20_0
           try clear hcz20_1
           try clear hcz26_0
           try clear hcz26_1
           try clear hcz28_0
           try clear hcz28_1
           try clear hcz29_0
           try clear hcz29_1
           try clear hcz35_0
           try clear hcz35_1
           try clear hcz37_0
           try clear hcz37_1
           try clear hcz40_0
           try clear hcz40_1
           try clear hcz45_0
           try clear hcz45_1
           try clear hcz47_0
           try clear hcz47_1
           try clear hcz48_0
           try clear hcz48_1
           try clear hcz52_0
           try clear hcz52_1
           try clear hcz54_0
           try clear hcz54_1
           try clear hcz58_0
           try clear hcz58_1
           try clear hcz60_0
           try clear hcz60_1
           try clear hcz61_0
           try clear hcz61_1
           try clear hcz64_0
           try clear hcz64_1
           try clear hcz66_0
           try clear hcz66_1
           try clear hcz67_0
           try clear hcz67_1
           try clear hcz72_0
           try clear hcz72_1
           try clear hcz75_0
           try clear hcz75_1
           try clear hcz77_0
           try clear hcz77_1
           try clear hcz81_0
           try clear hcz81_1
           try clear hcz87_0
           try clear hcz87_1
           try clear hcz93_0
           try clear hcz93_1
           try clear hcz96_0
           try clear hcz96_1
           try clear hcz98_0
           try clear hcz98_1
           try clear hfz13_0
           try clear hfz13_1
           try clear hfz16_0
           try clear hfz16_1
           try clear hfz20_0
           try clear hfz20_1
           try clear hfz26_0
           try clear hfz26_1
           try clear hfz28_0
           try clear hfz28_1
           try clear hfz29_0
           try clear hfz29_1
           try clear hfz35_0
           try clear hfz35_1
           try clear hfz37_0
           try clear hfz37_1
           try clear hfz40_0
           try clear hfz40_1
           try clear hfz45_0
           try clear hfz45_1
           try clear hfz47_0
           try clear hfz47_1
           try clear hfz48_0
           try clear hfz48_1
           try clear hfz52_0
           try clear hfz52_1
           try clear hfz54_0
           try clear hfz54_1
           try clear hfz58_0
           try clear hfz58_1
           try clear hfz60_0
           try clear hfz60_1
           try clear hfz61_0
           try clear hfz61_1
           try clear hfz64_0
           try clear hfz64_1
           try clear hfz66_0
           try clear hfz66_1
           try clear hfz67_0
           try clear hfz67_1
           try clear hfz72_0
           try clear hfz72_1
           try clear hfz75_0
           try clear hfz75_1
           try clear hfz77_0
           try clear hfz77_1
           try clear hfz81_0
           try clear hfz81_1
           try clear hfz87_0
           try clear hfz87_1
           try clear hfz93_0
           try clear hfz93_1
           try clear hfz96_0
           try clear hfz96_1
           try clear hfz98_0
           try clear hfz98_1
           try clear p2
           obtain ⟨x263001_4, HA, HK4, BK256, BK257, BK258, BK262, HB⟩ := hrel
           cases gk with
           | zero => exact absurd HA.out (by simp [impl_rangeBits.l0])
           | succ k4 =>
            have H := HA.out
            clear HA
            simp only [impl_rangeBits.l0] at H
            obtain ⟨ji99, hji99⟩ : ∃ j_ : Int, (mx a1_1 a2_1) = j_ := ⟨_, rfl⟩
            replace H : (if x263001_4 < (ji99) then (impl_rangeBits.l0 k4 a1_0 a1_1 a2_0 a2_1 x263000_81 (wrap64 ((wrap64 (2 * x263001_4)) + 1))) else (some (x263000_81, x263001_4))) = some (r1, r2) := by first | (rw [hji99] at H; exact H) | (simp only [hji99] at H ⊢; exact H)
            have hji99_ : (if a1_1 < a2_1 then a2_1 else a1_1) = ji99 := hji99
            by_cases c100 : x263001_4 < (ji99)
            ·rw [if_pos c100] at H
             have c100b0 : decide (x263001_4 < (ji99)) = true := decide_eq_true c100
             clear c100
             have H' := am H
             clear H
             have hnb101 := NB262_256.out
             have hnc101 := NB256_262.out
             have hnb102 := NB262_257.out
             have hnc102 := NB257_262.out
             have hnb103 := NB262_258.out
             have hnc103 := NB258_262.out
             have hcz104_0 : wr.cell? ⟨gb262, 0, none⟩ = some (.int .i64 x263000_81) := bc BK262 0
             have hcz104_1 : wr.cell? ⟨gb262, 1, none⟩ = some (.int .i64 x263001_4) := bc BK262 1
             have hfz104_0 := blk_frozen BK262.out 0
             have hfz104_1 := blk_frozen BK262.out 1
             have hnb105 := NB256_257.out
             have hnc105 := NB257_256.out
             have hnb106 := NB256_258.out
             have hnc106 := NB258_256.out
             have hcz107_0 : wr.cell? ⟨gb256, 0, none⟩ = some (.int .i64 a1_0) := bc BK256 0
             have hcz107_1 : wr.cell? ⟨gb256, 1, none⟩ = some (.int .i64 a1_1) := bc BK256 1
             have hfz107_0 := blk_frozen BK256.out 0
             have hfz107_1 := blk_frozen BK256.out 1
             have hnb108 := NB257_258.out
             have hnc108 := NB258_257.out
             have hcz109_0 : wr.cell? ⟨gb257, 0, none⟩ = some (.int .i64 a2_0) := bc BK257 0
             have hcz109_1 : wr.cell? ⟨gb257, 1, none⟩ = some (.int .i64 a2_1) := bc BK257 1
             have hfz109_0 := blk_frozen BK257.out 0
             have hfz109_1 := blk_frozen BK257.out 1
             go_wp2
             go_roundg k4
             case measure => have := HJ3.out; have := HJ67.out; have := HJ81.out; have := HK4.out; omega
             case rel => exact ⟨(wrap64 ((wrap64 (2 * x263001_4)) + 1)), H', ⟨by have := HJ3.out; have := HJ67.out; have := HJ81.out; have := HK4.out; omega⟩, ⟨by (with_reducible repeat (first | refine blk_drewN ?_ _ | refine blk_drew ?_ | refine blk_alloc ?_ _)); refine blk_far ?_ NB256_262.out _; (with_reducible repeat (first | refine blk_drewN ?_ _ | refine blk_drew ?_ | refine blk_alloc ?_ _)); exact BK256.out⟩, ⟨by (with_reducible repeat (first | refine blk_drewN ?_ _ | refine blk_drew ?_ | refine blk_alloc ?_ _)); refine blk_far ?_ NB257_262.out _; (with_reducible repeat (first | refine blk_drewN ?_ _ | refine blk_drew ?_ | refine blk_alloc ?_ _)); exact BK257.out⟩, ⟨by (with_reducible repeat (first | refine blk_drewN ?_ _ | refine blk_drew ?_ | refine blk_alloc ?_ _)); refine blk_far ?_ NB258_262.out _; (with_reducible repeat (first | refine blk_drewN ?_ _ | refine blk_drew ?_ | refine blk_alloc ?_ _)); exact BK258.out⟩, ⟨by (with_reducible repeat (first | refine blk_drewN ?_ _ | refine blk_drew ?_ | refine blk_alloc ?_ _)); refine blk_put (cs := #[.int .i64 x263000_81, .int .i64 x263001_4]) ?_ 1 _ rfl; (with_reducible repeat (first | refine blk_drewN ?_ _ | refine blk_drew ?_ | refine blk_alloc ?_ _)); exact BK262.out⟩, ⟨Y4 HB GE256 GE257 GE258 GE262⟩⟩
            ·rw [if_neg c100] at H
             have c100b0 : decide (x263001_4 < (ji99)) = false := decide_eq_false c100
             clear c100
             simp only [Option.some.injEq, Prod.mk.injEq] at H
             obtain ⟨rfl, rfl⟩ := H
             have hnb110 := NB262_256.out
             have hnc110 := NB256_262.out
             have hnb111 := NB262_257.out
             have hnc111 := NB257_262.out
             have hnb112 := NB262_258.out
             have hnc112 := NB258_262.out
             have hcz113_0 : wr.cell? ⟨gb262, 0, none⟩ = some (.int .i64 x263000_81) := bc BK262 0
             have hcz113_1 : wr.cell? ⟨gb262, 1, none⟩ = some (.int .i64 x263001_4) := bc BK262 1
             have hfz113_0 := blk_frozen BK262.out 0
             have hfz113_1 := blk_frozen BK262.out 1
             have hnb114 := NB256_257.out
             have hnc114 := NB257_256.out
             have hnb115 := NB256_258.out
             have hnc115 := NB258_256.out
             have hcz116_0 : wr.cell? ⟨gb256, 0, none⟩ = some (.int .i64 a1_0) := bc BK256 0
             have hcz116_1 : wr.cell? ⟨gb256, 1, none⟩ = some (.int .i64 a1_1) := bc BK256 1
             have hfz116_0 := blk_frozen BK256.out 0
             have hfz116_1 := blk_frozen BK256.out 1
             have hnb117 := NB257_258.out
             have hnc117 := NB258_257.out
             have hcz118_0 : wr.cell? ⟨gb257, 0, none⟩ = some (.int .i64 a2_0) := bc BK257 0
             have hcz118_1 : wr.cell? ⟨gb257, 1, none⟩ = some (.int .i64 a2_1) := bc BK257 1
             have hfz118_0 := blk_frozen BK257.out 0
             have hfz118_1 := blk_frozen BK257.out 1
             have hcz119_0 : wr.cell? ⟨gb258, 0, none⟩ = some (.int .i64 0) := bc BK258 0
             have hcz119_1 : wr.cell? ⟨gb258, 1, none⟩ = some (.int .i64 0) := bc BK258 1
             have hfz119_0 := blk_frozen BK258.out 0
             have hfz119_1 := blk_frozen BK258.out 1
             go_wp2
             refine bodyPost_ret (results_cell_row rfl _ _ gb258 24 #[.int .i64 x263000_81, .int .i64 x263001_4] (0, 0) _ rfl (by (with_reducible repeat (first | refine blk_drewN ?_ _ | refine blk_drew ?_ | refine blk_alloc ?_ _)); refine blk_put (cs := #[.int .i64 x263000_81, .int .i64 0]) ?_ 1 _ rfl; (with_reducible repeat (first | refine blk_drewN ?_ _ | refine blk_drew ?_ | refine blk_alloc ?_ _)); refine blk_put (cs := #[.int .i64 0, .int .i64 0]) ?_ 0 _ rfl; (with_reducible repeat (first | refine blk_drewN ?_ _ | refine blk_drew ?_ | refine blk_alloc ?_ _)); exact BK258.out) Try.underlying24 rfl (by kernel_rfl)) rfl ?_
             exact ⟨by first | rfl | (simp [errW_none, errW_some] <;> rfl) | (simp only [← hji99]; first | rfl | (simp [errW_none, errW_some] <;> rfl)) | (simp [*, errW_none, errW_some] <;> rfl), Y4 HB GE256 GE257 GE258 GE262⟩

end Go.Proofs.Ythbkakcchgnhpaa.PFnRangeOne
