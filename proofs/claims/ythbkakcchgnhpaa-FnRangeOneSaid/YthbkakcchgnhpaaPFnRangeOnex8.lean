/- Written by this session's own driver (wip/dprint.py): the functions that the law FnRangeOne reaches, as Lean functions, each with its contract. -/
import Derived.Test.YthbkakcchgnhpaaPFnRangeOnex0
import Derived.Test.YthbkakcchgnhpaaPFnRangeOnex2
import Derived.Test.YthbkakcchgnhpaaSv
namespace Go.Proofs.Ythbkakcchgnhpaa.PFnRangeOne
open Go.RowKit Go.Proofs.YthbkakcchgnhpaaV.PrintWords Go.Proofs.YthbkakcchgnhpaaV.PrintLast Go.Proofs.YthbkakcchgnhpaaV.PrintMore Go.Proofs.YthbkakcchgnhpaaSv
attribute [local go_sem] max2_int min2_int max_two min_two max_three min_three max_four min_four   -- for this text's walks alone
set_option linter.unusedVariables false
set_option linter.unusedSimpArgs false

/-! ### impl_RangeJoin: function 84 -/
def impl_RangeJoin.j0 : Nat → Bool → Int → Int → Int → Int → Option (Int × Int)
 | 0, _, _, _, _, _ => none
 | k + 1, x5, x211000, x211001, x212000, x212001 => if x5 = true then ((impl_rangeNone.f).bind fun bt215 => (some (bt215.1, bt215.2))) else ((impl_Range_empty.f x211000 x211001).bind fun t217 => (if t217 = true then (some (x212000, x212001)) else ((impl_Range_empty.f x212000 x212001).bind fun t218 => (if t218 = true then (some (x211000, x211001)) else (some (mn x211000 x212000, mx x211001 x212001))))))
def impl_RangeJoin.f (k : Nat) (a0_0 : Int) (a0_1 : Int) (a1_0 : Int) (a1_1 : Int) : Option (Int × Int) := (impl_RangeOk.f a0_0 a0_1).bind fun t213 => (if t213 = true then ((impl_RangeOk.f a1_0 a1_1).bind fun t214 => (impl_RangeJoin.j0 k (!t214) a0_0 a0_1 a1_0 a1_1)) else (impl_RangeJoin.j0 k true a0_0 a0_1 a1_0 a1_1))
theorem impl_RangeJoin.mono_l : ∀ k, (∀ y0 y1 y2 y3 y4, LeO (impl_RangeJoin.j0 k y0 y1 y2 y3 y4) (impl_RangeJoin.j0 (k + 1) y0 y1 y2 y3 y4))
 | 0 => fun _ _ _ _ _ r h => by simp [impl_RangeJoin.j0] at h
 | k + 1 => by
  have ih0 := impl_RangeJoin.mono_l k
  ·intro y0 y1 y2 y3 y4
   unfold impl_RangeJoin.j0
   repeat' first
   | (with_reducible exact ih0 _ _ _ _ _)
   | (with_reducible exact LeO.refl _)
   | (with_reducible exact LeO.none _)
   | (with_reducible refine LeO.ite ?_ ?_)
   | (with_reducible refine LeO.bind ?_ (fun _ => ?_))
   | exact ih0 _ _ _ _ _
   | exact LeO.none _
   | refine LeO.ite ?_ ?_
   | refine LeO.bind ?_ (fun _ => ?_)
theorem impl_RangeJoin.mono : ∀ a0 a1 a2 a3 k, LeO (impl_RangeJoin.f k a0 a1 a2 a3) (impl_RangeJoin.f (k + 1) a0 a1 a2 a3) := by
 intro a0 a1 a2 a3 k
 have ih0 := impl_RangeJoin.mono_l k
 unfold impl_RangeJoin.f
 repeat' first
   | (with_reducible exact ih0 _ _ _ _ _)
   | (with_reducible exact LeO.refl _)
   | (with_reducible exact LeO.none _)
   | (with_reducible refine LeO.ite ?_ ?_)
   | (with_reducible refine LeO.bind ?_ (fun _ => ?_))
   | exact ih0 _ _ _ _ _
   | exact LeO.none _
   | refine LeO.ite ?_ ?_
   | refine LeO.bind ?_ (fun _ => ?_)
set_option maxHeartbeats 8000000 in
set_option maxRecDepth 100000 in
theorem impl_RangeJoin.calls (k : Nat) (a0_0 : Int) (a0_1 : Int) (a1_0 : Int) (a1_1 : Int) (r1 : Int) (r2 : Int) (w : World) (h : impl_RangeJoin.f k a0_0 a0_1 a1_0 a1_1 = some (r1, r2)) :
  Calls Try.prog 84 #[.agg #[.int .i64 a0_0, .int .i64 a0_1], .agg #[.int .i64 a1_0, .int .i64 a1_1]] w fun e w' => e = .returned (.agg #[.int .i64 r1, .int .i64 r2]) ∧ Below w.heap.size w w' := by
 have hu24 := Try.underlying24
 have HB := am (Below.refl w.heap.size w)
 have H : ((impl_RangeOk.f a0_0 a0_1).bind fun t213 => (if t213 = true then ((impl_RangeOk.f a1_0 a1_1).bind fun t214 => (impl_RangeJoin.j0 k (!t214) a0_0 a0_1 a1_0 a1_1)) else (impl_RangeJoin.j0 k true a0_0 a0_1 a1_0 a1_1))) = some (r1, r2) := h
 clear h
 have HC3 := am H
 clear H
 go_enter Try.func84, Try.ntmps84
 go_upto_region 1 with (first | ((with_reducible refine gate_dst (N := 2) rfl ?_); refine box_event ?hg (N := 2) ?hd (cs := #[.int .i64 a0_0, .int .i64 a0_1]) (t := 24) ?hr ?_; (case hd => rfl); (case hg => rfl); (case hr => first | (go_simp; done) | (go_simp; rfl)); intro gb210 hg w4 hbox hb; have BK210 := am (hbox); have GW210 := am ((by rw [hg]; exact (below_size (Y0 HB)) : w.heap.size ≤ gb210)); have GE210 := am ((by rw [hg]; exact (below_size (Y0 HB)) : w.heap.size ≤ gb210)); replace HB := am (below_step (Y0 HB) hb); clear hb hbox hg) | ((with_reducible refine gate_dst (N := 3) rfl ?_); refine box_event ?hg (N := 3) ?hd (cs := #[.int .i64 a1_0, .int .i64 a1_1]) (t := 24) ?hr ?_; (case hd => rfl); (case hg => rfl); (case hr => first | (go_simp; done) | (go_simp; rfl)); intro gb211 hg w5 hbox hb; have BK211 := am (hbox); have GW211 := am ((by rw [hg]; exact (below_size (Y1 HB GE210)) : w.heap.size ≤ gb211)); have GE211 := am ((by rw [hg]; exact (below_size (Y1 HB GE210)) : w.heap.size ≤ gb211)); have NB210_211 := am ((nl (o := b2 a0_0 a0_1 24) hg (Z BK210) : gb210 ≠ gb211)); have NB211_210 := am ((ng (o := b2 a0_0 a0_1 24) hg (Z BK210) : gb211 ≠ gb210)); replace BK210 := am (blk_below (g := gb210) (o := b2 a0_0 a0_1 24) (Z BK210) hb); replace HB := am (below_step (Y1 HB GE210) hb); clear hb hbox hg) | ((with_reducible refine gate_dst (N := 4) rfl ?_); refine box_event ?hg (N := 4) ?hd (cs := #[.int .i64 0, .int .i64 0]) (t := 24) ?hr ?_; (case hd => rfl); (case hg => rfl); (case hr => first | (go_simp; done) | (go_simp; rfl)); intro gb212 hg w6 hbox hb; have BK212 := am (hbox); have GW212 := am ((by rw [hg]; exact (below_size (Y2 HB GE210 GE211)) : w.heap.size ≤ gb212)); have GE212 := am ((by rw [hg]; exact (below_size (Y2 HB GE210 GE211)) : w.heap.size ≤ gb212)); have NB210_212 := am ((nl (o := b2 a0_0 a0_1 24) hg (Z BK210) : gb210 ≠ gb212)); have NB212_210 := am ((ng (o := b2 a0_0 a0_1 24) hg (Z BK210) : gb212 ≠ gb210)); have NB211_212 := am ((nl (o := b2 a1_0 a1_1 24) hg (Z BK211) : gb211 ≠ gb212)); have NB212_211 := am ((ng (o := b2 a1_0 a1_1 24) hg (Z BK211) : gb212 ≠ gb211)); replace BK210 := am (blk_below (g := gb210) (o := b2 a0_0 a0_1 24) (Z BK210) hb); replace BK211 := am (blk_below (g := gb211) (o := b2 a1_0 a1_1 24) (Z BK211) hb); replace HB := am (below_step (Y2 HB GE210 GE211) hb); clear hb hbox hg))
 (try simp only [Act.put, List.setIfInBounds_toArray, List.set_cons_zero, List.set_cons_succ])
 go_cut [5] (fun v5 wc => ∃ (kq : Nat) (x5_2 : Bool), v5 = .bool x5_2 ∧ Aside0 (impl_RangeJoin.j0 kq x5_2 a0_0 a0_1 a1_0 a1_1 = some (r1, r2)) ∧ Aside0 (kq ≤ k) ∧ Aside0 (wc.heap[gb210]? = some (.cells #[.int .i64 a0_0, .int .i64 a0_1] 24 (0, 0))) ∧ Aside0 (wc.heap[gb211]? = some (.cells #[.int .i64 a1_0, .int .i64 a1_1] 24 (0, 0))) ∧ Aside0 (wc.heap[gb212]? = some (.cells #[.int .i64 0, .int .i64 0] 24 (0, 0))) ∧ Aside0 (Below w.heap.size w wc))
 case first =>
  have H := HC3.out
  clear HC3
  replace H := Option.bind_eq_some_iff.mp H
  obtain ⟨t213, A70, H⟩ := H
  replace H : (if t213 = true then ((impl_RangeOk.f a1_0 a1_1).bind fun t214 => (impl_RangeJoin.j0 k (!t214) a0_0 a0_1 a1_0 a1_1)) else (impl_RangeJoin.j0 k true a0_0 a0_1 a1_0 a1_1)) = some (r1, r2) := H
  have A7 := am A70
  clear A70
  by_cases c8 : t213 = true
  ·subst c8
   have H1 : ((impl_RangeOk.f a1_0 a1_1).bind fun t214 => (impl_RangeJoin.j0 k (!t214) a0_0 a0_1 a1_0 a1_1)) = some (r1, r2) := by rw [if_pos rfl] at H; exact H
   clear H
   have H := H1
   clear H1
   replace H := Option.bind_eq_some_iff.mp H
   obtain ⟨t214, A90, H⟩ := H
   replace H : (impl_RangeJoin.j0 k (!t214) a0_0 a0_1 a1_0 a1_1) = some (r1, r2) := H
   have A9 := am A90
   clear A90
   have H' := am H
   clear H
   have hnb10 := NB210_211.out
   have hnc10 := NB211_210.out
   have hnb11 := NB210_212.out
   have hnc11 := NB212_210.out
   have hcz12_0 : w6.cell? ⟨gb210, 0, none⟩ = some (.int .i64 a0_0) := bc BK210 0
   have hcz12_1 : w6.cell? ⟨gb210, 1, none⟩ = some (.int .i64 a0_1) := bc BK210 1
   have hfz12_0 := blk_frozen BK210.out 0
   have hfz12_1 := blk_frozen BK210.out 1
   go_wp2_with (first | ((with_reducible refine gate_callee (f := 46) rfl ?_); refine goesL_ (some 7) rfl rfl Try.func46 (by kernel_rfl) rfl #[.agg #[.int .i64 a0_0, .int .i64 a0_1]] rfl mz ?_; (with_reducible refine (impl_RangeOk.calls a0_0 a0_1 true _ A7.out).mono ?_); rintro e w13 ⟨rfl, hb⟩; refine ⟨_, rfl, ?_⟩; replace BK210 := am (blk_below (g := gb210) (o := b2 a0_0 a0_1 24) (Z BK210) hb); replace BK211 := am (blk_below (g := gb211) (o := b2 a1_0 a1_1 24) (Z BK211) hb); replace BK212 := am (blk_below (g := gb212) (o := b2 0 0 24) (Z BK212) hb); replace HB := am (below_step (Y3 HB GE210 GE211 GE212) hb); (try clear hb); (try clear hb2); (try clear hk); (try clear hi); have hnb14 := NB211_212.out; have hnc14 := NB212_211.out; have hcz15_0 : w13.cell? ⟨gb211, 0, none⟩ = some (.int .i64 a1_0) := bc BK211 0; have hcz15_1 : w13.cell? ⟨gb211, 1, none⟩ = some (.int .i64 a1_1) := bc BK211 1; have hfz15_0 := blk_frozen BK211.out 0; have hfz15_1 := blk_frozen BK211.out 1) | (go_at_call 46; (with_reducible refine (impl_RangeOk.calls a1_0 a1_1 t214 _ A9.out).mono ?_); rintro e w16 ⟨rfl, hb⟩; replace BK210 := am (blk_below (g := gb210) (o := b2 a0_0 a0_1 24) (Z BK210) hb); replace BK211 := am (blk_below (g := gb211) (o := b2 a1_0 a1_1 24) (Z BK211) hb); replace BK212 := am (blk_below (g := gb212) (o := b2 0 0 24) (Z BK212) hb); replace HB := am (below_step (Y3 HB GE210 GE211 GE212) hb); (try clear hb); (try clear hb2); (try clear hk); (try clear hi)))
   go_meet
   case rel => exact ⟨_, (!t214), (by first | rfl | (simp; done) | (simp [*]; done)), H', ⟨by first | omega | exact Nat.le_refl _⟩, ⟨Z BK210⟩, ⟨Z BK211⟩, ⟨Z BK212⟩, ⟨Y3 HB GE210 GE211 GE212⟩⟩
  ·replace c8 := Bool.eq_false_iff.mpr c8
   subst c8
   have H1 : (impl_RangeJoin.j0 k true a0_0 a0_1 a1_0 a1_1) = some (r1, r2) := by rw [if_neg (show ¬ (false = true) by decide)] at H; exact H
   clear H
   have H := H1
   clear H1
   have H' := am H
   clear H
   have hnb17 := NB210_211.out
   have hnc17 := NB211_210.out
   have hnb18 := NB210_212.out
   have hnc18 := NB212_210.out
   have hcz19_0 : w6.cell? ⟨gb210, 0, none⟩ = some (.int .i64 a0_0) := bc BK210 0
   have hcz19_1 : w6.cell? ⟨gb210, 1, none⟩ = some (.int .i64 a0_1) := bc BK210 1
   have hfz19_0 := blk_frozen BK210.out 0
   have hfz19_1 := blk_frozen BK210.out 1
   go_wp2_with (first | ((with_reducible refine gate_callee (f := 46) rfl ?_); refine goesL_ (some 7) rfl rfl Try.func46 (by kernel_rfl) rfl #[.agg #[.int .i64 a0_0, .int .i64 a0_1]] rfl mz ?_; (with_reducible refine (impl_RangeOk.calls a0_0 a0_1 false _ A7.out).mono ?_); rintro e w20 ⟨rfl, hb⟩; refine ⟨_, rfl, ?_⟩; replace BK210 := am (blk_below (g := gb210) (o := b2 a0_0 a0_1 24) (Z BK210) hb); replace BK211 := am (blk_below (g := gb211) (o := b2 a1_0 a1_1 24) (Z BK211) hb); replace BK212 := am (blk_below (g := gb212) (o := b2 0 0 24) (Z BK212) hb); replace HB := am (below_step (Y3 HB GE210 GE211 GE212) hb); (try clear hb); (try clear hb2); (try clear hk); (try clear hi)))
   go_meet
   case rel => exact ⟨_, (true), (by first | rfl | (simp; done) | (simp [*]; done)), H', ⟨by first | omega | exact Nat.le_refl _⟩, ⟨Z BK210⟩, ⟨Z BK211⟩, ⟨Z BK212⟩, ⟨Y3 HB GE210 GE211 GE212⟩⟩
 case rest =>
  clear HC3
  try clear c1
  try clear p2
  try clear c4
  try clear c8
  try clear c10
  try clear c11
  try clear c14
  try clear c17
  try clear c18
  try clear hcz12_0
  try clear hcz12_1
  try clear hcz15_0
  try clear hcz15_1
  try clear hcz19_0
  try clear hcz19_1
  try clear hfz12_0
  try clear hfz12_1
  try clear hfz15_0
  try clear hfz15_1
  try clear hfz19_0
  try clear hfz19_1
  obtain ⟨kq, x5_2, rfl, HA, HJ2, BK210, BK211, BK212, HB⟩ := hcut
  cases kq with
  | zero => exact absurd HA.out (by simp [impl_RangeJoin.j0])
  | succ kj2 =>
   have H := HA.out
   clear HA
   simp only [impl_RangeJoin.j0] at H
   by_cases c21 : x5_2 = true
   ·subst c21
    have H1 : ((impl_rangeNone.f).bind fun bt215 => (some (bt215.1, bt215.2))) = some (r1, r2) := by rw [if_pos rfl] at H; exact H
    clear H
    have H := H1
    clear H1
    replace H := Option.bind_eq_some_iff.mp H
    obtain ⟨⟨t215, t216⟩, A220, H⟩ := H
    replace H : (some (t215, t216)) = some (r1, r2) := H
    have A22 := am A220
    clear A220
    simp only [Option.some.injEq, Prod.mk.injEq] at H
    obtain ⟨rfl, rfl⟩ := H
    go_wp2_with (first | ((with_reducible refine gate_callee (f := 48) rfl ?_); refine goesL_ (some 14) rfl rfl Try.func48 (by kernel_rfl) rfl #[] rfl mz ?_; (with_reducible refine (impl_rangeNone.calls  t215 t216 _ A22.out).mono ?_); rintro e w23 ⟨rfl, hb⟩; refine ⟨_, rfl, ?_⟩; replace BK210 := am (blk_below (g := gb210) (o := b2 a0_0 a0_1 24) (Z BK210) hb); replace BK211 := am (blk_below (g := gb211) (o := b2 a1_0 a1_1 24) (Z BK211) hb); replace BK212 := am (blk_below (g := gb212) (o := b2 0 0 24) (Z BK212) hb); replace HB := am (below_step (Y3 HB GE210 GE211 GE212) hb); (try clear hb); (try clear hb2); (try clear hk); (try clear hi); have hnb24 := NB212_210.out; have hnc24 := NB210_212.out; have hnb25 := NB212_211.out; have hnc25 := NB211_212.out; have hcz26_0 : w23.cell? ⟨gb212, 0, none⟩ = some (.int .i64 0) := bc BK212 0; have hcz26_1 : w23.cell? ⟨gb212, 1, none⟩ = some (.int .i64 0) := bc BK212 1; have hfz26_0 := blk_frozen BK212.out 0; have hfz26_1 := blk_frozen BK212.out 1))
    refine bodyPost_ret (results_cell_row rfl _ _ gb212 24 #[.int .i64 t215, .int .i64 t216] (0, 0) _ rfl (by (with_reducible repeat (first | refine blk_drewN ?_ _ | refine blk_drew ?_ | refine blk_alloc ?_ _)); refine blk_put (cs := #[.int .i64 t215, .int .i64 0]) ?_ 1 _ rfl; (with_reducible repeat (first | refine blk_drewN ?_ _ | refine blk_drew ?_ | refine blk_alloc ?_ _)); refine blk_put (cs := #[.int .i64 0, .int .i64 0]) ?_ 0 _ rfl; (with_reducible repeat (first | refine blk_drewN ?_ _ | refine blk_drew ?_ | refine blk_alloc ?_ _)); exact BK212.out) Try.underlying24 rfl (by kernel_rfl)) rfl ?_
    exact ⟨by first | rfl | (simp [errW_none, errW_some] <;> rfl) | (simp [*, errW_none, errW_some] <;> rfl), Y3 HB GE210 GE211 GE212⟩
   ·replace c21 := Bool.eq_false_iff.mpr c21
    subst c21
    have H1 : ((impl_Range_empty.f a0_0 a0_1).bind fun t217 => (if t217 = true then (some (a1_0, a1_1)) else ((impl_Range_empty.f a1_0 a1_1).bind fun t218 => (if t218 = true then (some (a0_0, a0_1)) else (some (mn a0_0 a1_0, mx a0_1 a1_1)))))) = some (r1, r2) := by rw [if_neg (show ¬ (false = true) by decide)] at H; exact H
    clear H
    have H := H1
    clear H1
    replace H := Option.bind_eq_some_iff.mp H
    obtain ⟨t217, A270, H⟩ := H
    replace H : (if t217 = true then (some (a1_0, a1_1)) else ((impl_Range_empty.f a1_0 a1_1).bind fun t218 => (if t218 = true then (some (a0_0, a0_1)) else (some (mn a0_0 a1_0, mx a0_1 a1_1))))) = some (r1, r2) := H
    have A27 := am A270
    clear A270
    by_cases c28 : t217 = true
    ·subst c28
     have H1 : (some (a1_0, a1_1)) = some (r1, r2) := by rw [if_pos rfl] at H; exact H
     clear H
     have H := H1
     clear H1
     simp only [Option.some.injEq, Prod.mk.injEq] at H
     obtain ⟨rfl, rfl⟩ := H
     have hnb29 := NB210_211.out
     have hnc29 := NB211_210.out
     have hnb30 := NB210_212.out
     have hnc30 := NB212_210.out
     have hcz31_0 : wc.cell? ⟨gb210, 0, none⟩ = some (.int .i64 a0_0) := bc BK210 0
     have hcz31_1 : wc.cell? ⟨gb210, 1, none⟩ = some (.int .i64 a0_1) := bc BK210 1
     have hfz31_0 := blk_frozen BK210.out 0
     have hfz31_1 := blk_frozen BK210.out 1
     go_wp2_with (first | ((with_reducible refine gate_callee (f := 47) rfl ?_); refine goesL_ (some 17) rfl rfl Try.func47 (by kernel_rfl) rfl #[.agg #[.int .i64 a0_0, .int .i64 a0_1]] rfl mz ?_; (with_reducible refine (impl_Range_empty.calls a0_0 a0_1 true _ A27.out).mono ?_); rintro e w32 ⟨rfl, hb⟩; refine ⟨_, rfl, ?_⟩; replace BK210 := am (blk_below (g := gb210) (o := b2 a0_0 a0_1 24) (Z BK210) hb); replace BK211 := am (blk_below (g := gb211) (o := b2 a1_0 a1_1 24) (Z BK211) hb); replace BK212 := am (blk_below (g := gb212) (o := b2 0 0 24) (Z BK212) hb); replace HB := am (below_step (Y3 HB GE210 GE211 GE212) hb); (try clear hb); (try clear hb2); (try clear hk); (try clear hi); have hnb33 := NB211_212.out; have hnc33 := NB212_211.out; have hcz34_0 : w32.cell? ⟨gb211, 0, none⟩ = some (.int .i64 a1_0) := bc BK211 0; have hcz34_1 : w32.cell? ⟨gb211, 1, none⟩ = some (.int .i64 a1_1) := bc BK211 1; have hfz34_0 := blk_frozen BK211.out 0; have hfz34_1 := blk_frozen BK211.out 1; have hcz35_0 : w32.cell? ⟨gb212, 0, none⟩ = some (.int .i64 0) := bc BK212 0; have hcz35_1 : w32.cell? ⟨gb212, 1, none⟩ = some (.int .i64 0) := bc BK212 1; have hfz35_0 := blk_frozen BK212.out 0; have hfz35_1 := blk_frozen BK212.out 1))
     refine bodyPost_ret (results_cell_row rfl _ _ gb212 24 #[.int .i64 a1_0, .int .i64 a1_1] (0, 0) _ rfl (by (with_reducible repeat (first | refine blk_drewN ?_ _ | refine blk_drew ?_ | refine blk_alloc ?_ _)); refine blk_put (cs := #[.int .i64 a1_0, .int .i64 0]) ?_ 1 _ rfl; (with_reducible repeat (first | refine blk_drewN ?_ _ | refine blk_drew ?_ | refine blk_alloc ?_ _)); refine blk_put (cs := #[.int .i64 0, .int .i64 0]) ?_ 0 _ rfl; (with_reducible repeat (first | refine blk_drewN ?_ _ | refine blk_drew ?_ | refine blk_alloc ?_ _)); exact BK212.out) Try.underlying24 rfl (by kernel_rfl)) rfl ?_
     exact ⟨by first | rfl | (simp [errW_none, errW_some] <;> rfl) | (simp [*, errW_none, errW_some] <;> rfl), Y3 HB GE210 GE211 GE212⟩
    ·replace c28 := Bool.eq_false_iff.mpr c28
     subst c28
     have H1 : ((impl_Range_empty.f a1_0 a1_1).bind fun t218 => (if t218 = true then (some (a0_0, a0_1)) else (some (mn a0_0 a1_0, mx a0_1 a1_1)))) = some (r1, r2) := by rw [if_neg (show ¬ (false = true) by decide)] at H; exact H
     clear H
     have H := H1
     clear H1
     replace H := Option.bind_eq_some_iff.mp H
     obtain ⟨t218, A360, H⟩ := H
     replace H : (if t218 = true then (some (a0_0, a0_1)) else (some (mn a0_0 a1_0, mx a0_1 a1_1))) = some (r1, r2) := H
     have A36 := am A360
     clear A360
     by_cases c37 : t218 = true
     ·subst c37
      have H1 : (some (a0_0, a0_1)) = some (r1, r2) := by rw [if_pos rfl] at H; exact H
      clear H
      have H := H1
      clear H1
      simp only [Option.some.injEq, Prod.mk.injEq] at H
      obtain ⟨rfl, rfl⟩ := H
      have hnb38 := NB210_211.out
      have hnc38 := NB211_210.out
      have hnb39 := NB210_212.out
      have hnc39 := NB212_210.out
      have hcz40_0 : wc.cell? ⟨gb210, 0, none⟩ = some (.int .i64 a0_0) := bc BK210 0
      have hcz40_1 : wc.cell? ⟨gb210, 1, none⟩ = some (.int .i64 a0_1) := bc BK210 1
      have hfz40_0 := blk_frozen BK210.out 0
      have hfz40_1 := blk_frozen BK210.out 1
      go_wp2_with (first | ((with_reducible refine gate_callee (f := 47) rfl ?_); refine goesL_ (some 17) rfl rfl Try.func47 (by kernel_rfl) rfl #[.agg #[.int .i64 a0_0, .int .i64 a0_1]] rfl mz ?_; (with_reducible refine (impl_Range_empty.calls a0_0 a0_1 false _ A27.out).mono ?_); rintro e w41 ⟨rfl, hb⟩; refine ⟨_, rfl, ?_⟩; replace BK210 := am (blk_below (g := gb210) (o := b2 a0_0 a0_1 24) (Z BK210) hb); replace BK211 := am (blk_below (g := gb211) (o := b2 a1_0 a1_1 24) (Z BK211) hb); replace BK212 := am (blk_below (g := gb212) (o := b2 0 0 24) (Z BK212) hb); replace HB := am (below_step (Y3 HB GE210 GE211 GE212) hb); (try clear hb); (try clear hb2); (try clear hk); (try clear hi); have hnb42 := NB211_212.out; have hnc42 := NB212_211.out; have hcz43_0 : w41.cell? ⟨gb211, 0, none⟩ = some (.int .i64 a1_0) := bc BK211 0; have hcz43_1 : w41.cell? ⟨gb211, 1, none⟩ = some (.int .i64 a1_1) := bc BK211 1; have hfz43_0 := blk_frozen BK211.out 0; have hfz43_1 := blk_frozen BK211.out 1) | ((with_reducible refine gate_callee (f := 47) rfl ?_); refine goesL_ (some 21) rfl rfl Try.func47 (by kernel_rfl) rfl #[.agg #[.int .i64 a1_0, .int .i64 a1_1]] rfl mz ?_; (with_reducible refine (impl_Range_empty.calls a1_0 a1_1 true _ A36.out).mono ?_); rintro e w44 ⟨rfl, hb⟩; refine ⟨_, rfl, ?_⟩; replace BK210 := am (blk_below (g := gb210) (o := b2 a0_0 a0_1 24) (Z BK210) hb); replace BK211 := am (blk_below (g := gb211) (o := b2 a1_0 a1_1 24) (Z BK211) hb); replace BK212 := am (blk_below (g := gb212) (o := b2 0 0 24) (Z BK212) hb); replace HB := am (below_step (Y3 HB GE210 GE211 GE212) hb); (try clear hb); (try clear hb2); (try clear hk); (try clear hi); have hcz45_0 : w44.cell? ⟨gb210, 0, none⟩ = some (.int .i64 a0_0) := bc BK210 0; have hcz45_1 : w44.cell? ⟨gb210, 1, none⟩ = some (.int .i64 a0_1) := bc BK210 1; have hfz45_0 := blk_frozen BK210.out 0; have hfz45_1 := blk_frozen BK210.out 1; have hcz46_0 : w44.cell? ⟨gb212, 0, none⟩ = some (.int .i64 0) := bc BK212 0; have hcz46_1 : w44.cell? ⟨gb212, 1, none⟩ = some (.int .i64 0) := bc BK212 1; have hfz46_0 := blk_frozen BK212.out 0; have hfz46_1 := blk_frozen BK212.out 1))
      refine bodyPost_ret (results_cell_row rfl _ _ gb212 24 #[.int .i64 a0_0, .int .i64 a0_1] (0, 0) _ rfl (by (with_reducible repeat (first | refine blk_drewN ?_ _ | refine blk_drew ?_ | refine blk_alloc ?_ _)); refine blk_put (cs := #[.int .i64 a0_0, .int .i64 0]) ?_ 1 _ rfl; (with_reducible repeat (first | refine blk_drewN ?_ _ | refine blk_drew ?_ | refine blk_alloc ?_ _)); refine blk_put (cs := #[.int .i64 0, .int .i64 0]) ?_ 0 _ rfl; (with_reducible repeat (first | refine blk_drewN ?_ _ | refine blk_drew ?_ | refine blk_alloc ?_ _)); exact BK212.out) Try.underlying24 rfl (by kernel_rfl)) rfl ?_
      exact ⟨by first | rfl | (simp [errW_none, errW_some] <;> rfl) | (simp [*, errW_none, errW_some] <;> rfl), Y3 HB GE210 GE211 GE212⟩
     ·replace c37 := Bool.eq_false_iff.mpr c37
      subst c37
      have H1 : (some (mn a0_0 a1_0, mx a0_1 a1_1)) = some (r1, r2) := by rw [if_neg (show ¬ (false = true) by decide)] at H; exact H
      clear H
      have H := H1
      clear H1
      obtain ⟨ji47, hji47⟩ : ∃ j_ : Int, (mn a0_0 a1_0) = j_ := ⟨_, rfl⟩
      replace H : (some (ji47, mx a0_1 a1_1)) = some (r1, r2) := by first | (rw [hji47] at H; exact H) | (simp only [hji47] at H ⊢; exact H)
      (try rw [hji47] at A27)
      (try rw [hji47] at A36)
      have hji47_ : (if a1_0 < a0_0 then a1_0 else a0_0) = ji47 := hji47
      obtain ⟨ji48, hji48⟩ : ∃ j_ : Int, (mx a0_1 a1_1) = j_ := ⟨_, rfl⟩
      replace H : (some (ji47, ji48)) = some (r1, r2) := by first | (rw [hji48] at H; exact H) | (simp only [hji48] at H ⊢; exact H)
      (try rw [hji48] at A27)
      (try rw [hji48] at A36)
      have hji48_ : (if a0_1 < a1_1 then a1_1 else a0_1) = ji48 := hji48
      simp only [Option.some.injEq, Prod.mk.injEq] at H
      obtain ⟨rfl, rfl⟩ := H
      have hnb49 := NB210_211.out
      have hnc49 := NB211_210.out
      have hnb50 := NB210_212.out
      have hnc50 := NB212_210.out
      have hcz51_0 : wc.cell? ⟨gb210, 0, none⟩ = some (.int .i64 a0_0) := bc BK210 0
      have hcz51_1 : wc.cell? ⟨gb210, 1, none⟩ = some (.int .i64 a0_1) := bc BK210 1
      have hfz51_0 := blk_frozen BK210.out 0
      have hfz51_1 := blk_frozen BK210.out 1
      go_wp2_with (first | ((with_reducible refine gate_callee (f := 47) rfl ?_); refine goesL_ (some 17) rfl rfl Try.func47 (by kernel_rfl) rfl #[.agg #[.int .i64 a0_0, .int .i64 a0_1]] rfl mz ?_; (with_reducible refine (impl_Range_empty.calls a0_0 a0_1 false _ A27.out).mono ?_); rintro e w52 ⟨rfl, hb⟩; refine ⟨_, rfl, ?_⟩; replace BK210 := am (blk_below (g := gb210) (o := b2 a0_0 a0_1 24) (Z BK210) hb); replace BK211 := am (blk_below (g := gb211) (o := b2 a1_0 a1_1 24) (Z BK211) hb); replace BK212 := am (blk_below (g := gb212) (o := b2 0 0 24) (Z BK212) hb); replace HB := am (below_step (Y3 HB GE210 GE211 GE212) hb); (try clear hb); (try clear hb2); (try clear hk); (try clear hi); have hnb53 := NB211_212.out; have hnc53 := NB212_211.out; have hcz54_0 : w52.cell? ⟨gb211, 0, none⟩ = some (.int .i64 a1_0) := bc BK211 0; have hcz54_1 : w52.cell? ⟨gb211, 1, none⟩ = some (.int .i64 a1_1) := bc BK211 1; have hfz54_0 := blk_frozen BK211.out 0; have hfz54_1 := blk_frozen BK211.out 1) | ((with_reducible refine gate_callee (f := 47) rfl ?_); refine goesL_ (some 21) rfl rfl Try.func47 (by kernel_rfl) rfl #[.agg #[.int .i64 a1_0, .int .i64 a1_1]] rfl mz ?_; (with_reducible refine (impl_Range_empty.calls a1_0 a1_1 false _ A36.out).mono ?_); rintro e w55 ⟨rfl, hb⟩; refine ⟨_, rfl, ?_⟩; replace BK210 := am (blk_below (g := gb210) (o := b2 a0_0 a0_1 24) (Z BK210) hb); replace BK211 := am (blk_below (g := gb211) (o := b2 a1_0 a1_1 24) (Z BK211) hb); replace BK212 := am (blk_below (g := gb212) (o := b2 0 0 24) (Z BK212) hb); replace HB := am (below_step (Y3 HB GE210 GE211 GE212) hb); (try clear hb); (try clear hb2); (try clear hk); (try clear hi); have hcz56_0 : w55.cell? ⟨gb210, 0, none⟩ = some (.int .i64 a0_0) := bc BK210 0; have hcz56_1 : w55.cell? ⟨gb210, 1, none⟩ = some (.int .i64 a0_1) := bc BK210 1; have hfz56_0 := blk_frozen BK210.out 0; have hfz56_1 := blk_frozen BK210.out 1; have hcz57_0 : w55.cell? ⟨gb211, 0, none⟩ = some (.int .i64 a1_0) := bc BK211 0; have hcz57_1 : w55.cell? ⟨gb211, 1, none⟩ = some (.int .i64 a1_1) := bc BK211 1; have hfz57_0 := blk_frozen BK211.out 0; have hfz57_1 := blk_frozen BK211.out 1; have hcz58_0 : w55.cell? ⟨gb212, 0, none⟩ = some (.int .i64 0) := bc BK212 0; have hcz58_1 : w55.cell? ⟨gb212, 1, none⟩ = some (.int .i64 0) := bc BK212 1; have hfz58_0 := blk_frozen BK212.out 0; have hfz58_1 := blk_frozen BK212.out 1))
      refine bodyPost_ret (results_cell_row rfl _ _ gb212 24 #[.int .i64 ji47, .int .i64 ji48] (0, 0) _ rfl (by (with_reducible repeat (first | refine blk_drewN ?_ _ | refine blk_drew ?_ | refine blk_alloc ?_ _)); refine blk_put (cs := #[.int .i64 ji47, .int .i64 0]) ?_ 1 _ rfl; (with_reducible repeat (first | refine blk_drewN ?_ _ | refine blk_drew ?_ | refine blk_alloc ?_ _)); refine blk_put (cs := #[.int .i64 0, .int .i64 0]) ?_ 0 _ rfl; (with_reducible repeat (first | refine blk_drewN ?_ _ | refine blk_drew ?_ | refine blk_alloc ?_ _)); exact BK212.out) Try.underlying24 rfl (by kernel_rfl)) rfl ?_
      exact ⟨by first | rfl | (simp [errW_none, errW_some] <;> rfl) | (simp only [← hji47, ← hji48]; first | rfl | (simp [errW_none, errW_some] <;> rfl)) | (simp [*, errW_none, errW_some] <;> rfl), Y3 HB GE210 GE211 GE212⟩

/-! ### impl_Range_single: function 96 -/
def impl_Range_single.f (a0_0 : Int) (a0_1 : Int) : Option (Bool) := some (a0_0 == a0_1)
set_option maxHeartbeats 8000000 in
set_option maxRecDepth 100000 in
theorem impl_Range_single.calls (a0_0 : Int) (a0_1 : Int) (r : Bool) (w : World) (h : impl_Range_single.f a0_0 a0_1 = some r) :
  Calls Try.prog 96 #[.agg #[.int .i64 a0_0, .int .i64 a0_1]] w fun e w' => e = .returned (.bool r) ∧ Below w.heap.size w w' := by
 have hu24 := Try.underlying24
 have HB := am (Below.refl w.heap.size w)
 have H : (some (a0_0 == a0_1)) = some r := h
 clear h
 obtain rfl := Option.some.inj H
 go_enter Try.func96, Try.ntmps96
 go_wp2_with (first | ((with_reducible refine gate_dst (N := 1) rfl ?_); refine box_event ?hg (N := 1) ?hd (cs := #[.int .i64 a0_0, .int .i64 a0_1]) (t := 24) ?hr ?_; (case hd => rfl); (case hg => rfl); (case hr => first | (go_simp; done) | (go_simp; rfl)); intro gb219 hg w2 hbox hb; have BK219 := am (hbox); have GW219 := am ((by rw [hg]; exact (below_size (Y0 HB)) : w.heap.size ≤ gb219)); have GE219 := am ((by rw [hg]; exact (below_size (Y0 HB)) : w.heap.size ≤ gb219)); replace HB := am (below_step (Y0 HB) hb); clear hb hbox hg; have hcz3_0 : w2.cell? ⟨gb219, 0, none⟩ = some (.int .i64 a0_0) := bc BK219 0; have hcz3_1 : w2.cell? ⟨gb219, 1, none⟩ = some (.int .i64 a0_1) := bc BK219 1; have hfz3_0 := blk_frozen BK219.out 0; have hfz3_1 := blk_frozen BK219.out 1; (try have hxs0_1 : ∀ x_ : Value, (w2.setCell ⟨gb219, 0, none⟩ x_).cell? ⟨gb219, 1, none⟩ = some (.int .i64 a0_1) := fun x_ => (World.cell?_setCell_other _ _ _ _ (by simp)).trans (bc BK219 1)); (try have hxs1_0 : ∀ x_ : Value, (w2.setCell ⟨gb219, 1, none⟩ x_).cell? ⟨gb219, 0, none⟩ = some (.int .i64 a0_0) := fun x_ => (World.cell?_setCell_other _ _ _ _ (by simp)).trans (bc BK219 0))))
 go_ret
 exact ⟨by first | rfl | (simp [errW_none, errW_some] <;> rfl) | (simp [*, errW_none, errW_some] <;> rfl), Y1 HB GE219⟩

/-! ### impl_rangeRemBy: function 97 -/
def impl_rangeRemBy.j0 : Nat → Int → Bool → Int → Int → Option (Int × Int)
 | 0, _, _, _, _ => none
 | k + 1, x2, x18, x221000, x221001 => if x18 = true then (some (x221000, x221001)) else (if x221000 < 0 then (if x221001 > 0 then (some (mx x221000 (wrap64 (1 - x2)), mn x221001 (wrap64 (x2 - 1)))) else (some (mx x221000 (wrap64 (1 - x2)), 0))) else (if x221001 > 0 then (some (0, mn x221001 (wrap64 (x2 - 1)))) else (some (0, 0))))
def impl_rangeRemBy.f (k : Nat) (a0_0 : Int) (a0_1 : Int) (a1 : Int) (a2 : Int) : Option (Int × Int) := if a0_0 > (wrap64 (-a1)) then (impl_rangeRemBy.j0 k a2 (decide (a0_1 < a1)) a0_0 a0_1) else (impl_rangeRemBy.j0 k a2 false a0_0 a0_1)
theorem impl_rangeRemBy.mono_l : ∀ k, (∀ y0 y1 y2 y3, LeO (impl_rangeRemBy.j0 k y0 y1 y2 y3) (impl_rangeRemBy.j0 (k + 1) y0 y1 y2 y3))
 | 0 => fun _ _ _ _ r h => by simp [impl_rangeRemBy.j0] at h
 | k + 1 => by
  have ih0 := impl_rangeRemBy.mono_l k
  ·intro y0 y1 y2 y3
   unfold impl_rangeRemBy.j0
   repeat' first
   | (with_reducible exact ih0 _ _ _ _)
   | (with_reducible exact LeO.refl _)
   | (with_reducible exact LeO.none _)
   | (with_reducible refine LeO.ite ?_ ?_)
   | (with_reducible refine LeO.bind ?_ (fun _ => ?_))
   | exact ih0 _ _ _ _
   | exact LeO.none _
   | refine LeO.ite ?_ ?_
   | refine LeO.bind ?_ (fun _ => ?_)
theorem impl_rangeRemBy.mono : ∀ a0 a1 a2 a3 k, LeO (impl_rangeRemBy.f k a0 a1 a2 a3) (impl_rangeRemBy.f (k + 1) a0 a1 a2 a3) := by
 intro a0 a1 a2 a3 k
 have ih0 := impl_rangeRemBy.mono_l k
 unfold impl_rangeRemBy.f
 repeat' first
   | (with_reducible exact ih0 _ _ _ _)
   | (with_reducible exact LeO.refl _)
   | (with_reducible exact LeO.none _)
   | (with_reducible refine LeO.ite ?_ ?_)
   | (with_reducible refine LeO.bind ?_ (fun _ => ?_))
   | exact ih0 _ _ _ _
   | exact LeO.none _
   | refine LeO.ite ?_ ?_
   | refine LeO.bind ?_ (fun _ => ?_)
set_option maxHeartbeats 8000000 in
set_option maxRecDepth 100000 in
theorem impl_rangeRemBy.calls (k : Nat) (a0_0 : Int) (a0_1 : Int) (a1 : Int) (a2 : Int) (r1 : Int) (r2 : Int) (w : World) (h : impl_rangeRemBy.f k a0_0 a0_1 a1 a2 = some (r1, r2)) :
  Calls Try.prog 97 #[.agg #[.int .i64 a0_0, .int .i64 a0_1], .int .i64 a1, .int .i64 a2] w fun e w' => e = .returned (.agg #[.int .i64 r1, .int .i64 r2]) ∧ Below w.heap.size w w' := by
 have hu24 := Try.underlying24
 have HB := am (Below.refl w.heap.size w)
 have H : (if a0_0 > (wrap64 (-a1)) then (impl_rangeRemBy.j0 k a2 (decide (a0_1 < a1)) a0_0 a0_1) else (impl_rangeRemBy.j0 k a2 false a0_0 a0_1)) = some (r1, r2) := h
 clear h
 have HC4 := am H
 clear H
 go_enter Try.func97, Try.ntmps97
 go_upto_region 1 with (first | ((with_reducible refine gate_dst (N := 3) rfl ?_); refine box_event ?hg (N := 3) ?hd (cs := #[.int .i64 a0_0, .int .i64 a0_1]) (t := 24) ?hr ?_; (case hd => rfl); (case hg => rfl); (case hr => first | (go_simp; done) | (go_simp; rfl)); intro gb220 hg w5 hbox hb; have BK220 := am (hbox); have GW220 := am ((by rw [hg]; exact (below_size (Y0 HB)) : w.heap.size ≤ gb220)); have GE220 := am ((by rw [hg]; exact (below_size (Y0 HB)) : w.heap.size ≤ gb220)); replace HB := am (below_step (Y0 HB) hb); clear hb hbox hg) | ((with_reducible refine gate_dst (N := 6) rfl ?_); refine box_event ?hg (N := 6) ?hd (cs := #[.int .i64 0, .int .i64 0]) (t := 24) ?hr ?_; (case hd => rfl); (case hg => rfl); (case hr => first | (go_simp; done) | (go_simp; rfl)); intro gb221 hg w6 hbox hb; have BK221 := am (hbox); have GW221 := am ((by rw [hg]; exact (below_size (Y1 HB GE220)) : w.heap.size ≤ gb221)); have GE221 := am ((by rw [hg]; exact (below_size (Y1 HB GE220)) : w.heap.size ≤ gb221)); have NB220_221 := am ((nl (o := b2 a0_0 a0_1 24) hg (Z BK220) : gb220 ≠ gb221)); have NB221_220 := am ((ng (o := b2 a0_0 a0_1 24) hg (Z BK220) : gb221 ≠ gb220)); replace BK220 := am (blk_below (g := gb220) (o := b2 a0_0 a0_1 24) (Z BK220) hb); replace HB := am (below_step (Y1 HB GE220) hb); clear hb hbox hg))
 (try simp only [Act.put, List.setIfInBounds_toArray, List.set_cons_zero, List.set_cons_succ])
 go_cut [18] (fun v18 wc => ∃ (kq : Nat) (x18_3 : Bool), v18 = .bool x18_3 ∧ Aside0 (impl_rangeRemBy.j0 kq a2 x18_3 a0_0 a0_1 = some (r1, r2)) ∧ Aside0 (kq ≤ k) ∧ Aside0 (wc.heap[gb220]? = some (.cells #[.int .i64 a0_0, .int .i64 a0_1] 24 (0, 0))) ∧ Aside0 (wc.heap[gb221]? = some (.cells #[.int .i64 0, .int .i64 0] 24 (0, 0))) ∧ Aside0 (Below w.heap.size w wc))
 case first =>
  have H := HC4.out
  clear HC4
  by_cases c7 : a0_0 > (wrap64 (-a1))
  ·rw [if_pos c7] at H
   have c7b0 : decide ((wrap64 (-a1)) < a0_0) = true := decide_eq_true c7
   clear c7
   (first | rw [c7b0] | (simp only [i64_w, i32_w]; rw [c7b0]) | skip)
   have H' := am H
   clear H
   have hnb8 := NB220_221.out
   have hnc8 := NB221_220.out
   have hcz9_0 : w6.cell? ⟨gb220, 0, none⟩ = some (.int .i64 a0_0) := bc BK220 0
   have hcz9_1 : w6.cell? ⟨gb220, 1, none⟩ = some (.int .i64 a0_1) := bc BK220 1
   have hfz9_0 := blk_frozen BK220.out 0
   have hfz9_1 := blk_frozen BK220.out 1
   go_wp2
   go_meet
   case rel => exact ⟨_, (decide (a0_1 < a1)), (by first | rfl | (simp; done) | (simp [*]; done)), H', ⟨by first | omega | exact Nat.le_refl _⟩, ⟨Z BK220⟩, ⟨Z BK221⟩, ⟨Y2 HB GE220 GE221⟩⟩
  ·rw [if_neg c7] at H
   have c7b0 : decide ((wrap64 (-a1)) < a0_0) = false := decide_eq_false c7
   clear c7
   (first | rw [c7b0] | (simp only [i64_w, i32_w]; rw [c7b0]) | skip)
   have H' := am H
   clear H
   have hnb10 := NB220_221.out
   have hnc10 := NB221_220.out
   have hcz11_0 : w6.cell? ⟨gb220, 0, none⟩ = some (.int .i64 a0_0) := bc BK220 0
   have hcz11_1 : w6.cell? ⟨gb220, 1, none⟩ = some (.int .i64 a0_1) := bc BK220 1
   have hfz11_0 := blk_frozen BK220.out 0
   have hfz11_1 := blk_frozen BK220.out 1
   go_wp2
   go_meet
   case rel => exact ⟨_, (false), (by first | rfl | (simp; done) | (simp [*]; done)), H', ⟨by first | omega | exact Nat.le_refl _⟩, ⟨Z BK220⟩, ⟨Z BK221⟩, ⟨Y2 HB GE220 GE221⟩⟩
 case rest =>
  clear HC4
  try clear c1
  try clear p2
  try clear p6
  try clear c7
  try clear c7b0
  try clear c8
  try clear c9
  try clear c10
  try clear hcz11_0
  try clear hcz11_1
  try clear hcz9_0
  try clear hcz9_1
  try clear hfz11_0
  try clear hfz11_1
  try clear hfz9_0
  try clear hfz9_1
  obtain ⟨kq, x18_3, rfl, HA, HJ3, BK220, BK221, HB⟩ := hcut
  cases kq with
  | zero => exact absurd HA.out (by simp [impl_rangeRemBy.j0])
  | succ kj3 =>
   have H := HA.out
   clear HA
   simp only [impl_rangeRemBy.j0] at H
   by_cases c12 : x18_3 = true
   ·subst c12
    have H1 : (some (a0_0, a0_1)) = some (r1, r2) := by rw [if_pos rfl] at H; exact H
    clear H
    have H := H1
    clear H1
    simp only [Option.some.injEq, Prod.mk.injEq] at H
    obtain ⟨rfl, rfl⟩ := H
    have hnb13 := NB220_221.out
    have hnc13 := NB221_220.out
    have hcz14_0 : wc.cell? ⟨gb220, 0, none⟩ = some (.int .i64 a0_0) := bc BK220 0
    have hcz14_1 : wc.cell? ⟨gb220, 1, none⟩ = some (.int .i64 a0_1) := bc BK220 1
    have hfz14_0 := blk_frozen BK220.out 0
    have hfz14_1 := blk_frozen BK220.out 1
    have hcz15_0 : wc.cell? ⟨gb221, 0, none⟩ = some (.int .i64 0) := bc BK221 0
    have hcz15_1 : wc.cell? ⟨gb221, 1, none⟩ = some (.int .i64 0) := bc BK221 1
    have hfz15_0 := blk_frozen BK221.out 0
    have hfz15_1 := blk_frozen BK221.out 1
    go_wp2
    refine bodyPost_ret (results_cell_row rfl _ _ gb221 24 #[.int .i64 a0_0, .int .i64 a0_1] (0, 0) _ rfl (by (with_reducible repeat (first | refine blk_drewN ?_ _ | refine blk_drew ?_ | refine blk_alloc ?_ _)); refine blk_put (cs := #[.int .i64 a0_0, .int .i64 0]) ?_ 1 _ rfl; (with_reducible repeat (first | refine blk_drewN ?_ _ | refine blk_drew ?_ | refine blk_alloc ?_ _)); refine blk_put (cs := #[.int .i64 0, .int .i64 0]) ?_ 0 _ rfl; (with_reducible repeat (first | refine blk_drewN ?_ _ | refine blk_drew ?_ | refine blk_alloc ?_ _)); exact BK221.out) Try.underlying24 rfl (by kernel_rfl)) rfl ?_
    exact ⟨by first | rfl | (simp [errW_none, errW_some] <;> rfl) | (simp [*, errW_none, errW_some] <;> rfl), Y2 HB GE220 GE221⟩
   ·replace c12 := Bool.eq_false_iff.mpr c12
    subst c12
    have H1 : (if a0_0 < 0 then (if a0_1 > 0 then (some (mx a0_0 (wrap64 (1 - a2)), mn a0_1 (wrap64 (a2 - 1)))) else (some (mx a0_0 (wrap64 (1 - a2)), 0))) else (if a0_1 > 0 then (some (0, mn a0_1 (wrap64 (a2 - 1)))) else (some (0, 0)))) = some (r1, r2) := by rw [if_neg (show ¬ (false = true) by decide)] at H; exact H
    clear H
    have H := H1
    clear H1
    by_cases c16 : a0_0 < 0
    ·rw [if_pos c16] at H
     have c16b0 : decide (a0_0 < 0) = true := decide_eq_true c16
     clear c16
     obtain ⟨ji17, hji17⟩ : ∃ j_ : Int, (mx a0_0 (wrap64 (1 - a2))) = j_ := ⟨_, rfl⟩
     replace H : (if a0_1 > 0 then (some (ji17, mn a0_1 (wrap64 (a2 - 1)))) else (some (ji17, 0))) = some (r1, r2) := by first | (rw [hji17] at H; exact H) | (simp only [hji17] at H ⊢; exact H)
     have hji17_ : (if a0_0 < (wrap64 (1 - a2)) then (wrap64 (1 - a2)) else a0_0) = ji17 := hji17
     by_cases c18 : a0_1 > 0
     ·rw [if_pos c18] at H
      have c18b0 : decide (0 < a0_1) = true := decide_eq_true c18
      clear c18
      obtain ⟨ji19, hji19⟩ : ∃ j_ : Int, (mn a0_1 (wrap64 (a2 - 1))) = j_ := ⟨_, rfl⟩
      replace H : (some (ji17, ji19)) = some (r1, r2) := by first | (rw [hji19] at H; exact H) | (simp only [hji19] at H ⊢; exact H)
      have hji19_ : (if (wrap64 (a2 - 1)) < a0_1 then (wrap64 (a2 - 1)) else a0_1) = ji19 := hji19
      simp only [Option.some.injEq, Prod.mk.injEq] at H
      obtain ⟨rfl, rfl⟩ := H
      go_wp2_with (first | ((with_reducible refine gate_dst (N := 7) rfl ?_); refine box_event ?hg (N := 7) ?hd (cs := #[.int .i64 0, .int .i64 0]) (t := 24) ?hr ?_; (case hd => rfl); (case hg => rfl); (case hr => first | (go_simp; done) | (go_simp; rfl)); intro gb222 hg w20 hbox hb; have BK222 := am (hbox); have GW222 := am ((by rw [hg]; exact (below_size (Y2 HB GE220 GE221)) : w.heap.size ≤ gb222)); have GE222 := am ((by rw [hg]; exact (below_size (Y2 HB GE220 GE221)) : w.heap.size ≤ gb222)); have NB220_222 := am ((nl (o := b2 a0_0 a0_1 24) hg (Z BK220) : gb220 ≠ gb222)); have NB222_220 := am ((ng (o := b2 a0_0 a0_1 24) hg (Z BK220) : gb222 ≠ gb220)); have NB221_222 := am ((nl (o := b2 0 0 24) hg (Z BK221) : gb221 ≠ gb222)); have NB222_221 := am ((ng (o := b2 0 0 24) hg (Z BK221) : gb222 ≠ gb221)); replace BK220 := am (blk_below (g := gb220) (o := b2 a0_0 a0_1 24) (Z BK220) hb); replace BK221 := am (blk_below (g := gb221) (o := b2 0 0 24) (Z BK221) hb); replace HB := am (below_step (Y2 HB GE220 GE221) hb); clear hb hbox hg; have hnb21 := NB222_220.out; have hnc21 := NB220_222.out; have hnb22 := NB222_221.out; have hnc22 := NB221_222.out; have hcz23_0 : w20.cell? ⟨gb222, 0, none⟩ = some (.int .i64 0) := bc BK222 0; have hcz23_1 : w20.cell? ⟨gb222, 1, none⟩ = some (.int .i64 0) := bc BK222 1; have hfz23_0 := blk_frozen BK222.out 0; have hfz23_1 := blk_frozen BK222.out 1; have hnb24 := NB220_221.out; have hnc24 := NB221_220.out; have hcz25_0 : w20.cell? ⟨gb220, 0, none⟩ = some (.int .i64 a0_0) := bc BK220 0; have hcz25_1 : w20.cell? ⟨gb220, 1, none⟩ = some (.int .i64 a0_1) := bc BK220 1; have hfz25_0 := blk_frozen BK220.out 0; have hfz25_1 := blk_frozen BK220.out 1; have hcz26_0 : w20.cell? ⟨gb221, 0, none⟩ = some (.int .i64 0) := bc BK221 0; have hcz26_1 : w20.cell? ⟨gb221, 1, none⟩ = some (.int .i64 0) := bc BK221 1; have hfz26_0 := blk_frozen BK221.out 0; have hfz26_1 := blk_frozen BK221.out 1; (try have hxs0_1 : ∀ x_ : Value, (w20.setCell ⟨gb222, 0, none⟩ x_).cell? ⟨gb222, 1, none⟩ = some (.int .i64 0) := fun x_ => (World.cell?_setCell_other _ _ _ _ (by simp)).trans (bc BK222 1)); (try have hxs1_0 : ∀ x_ : Value, (w20.setCell ⟨gb222, 1, none⟩ x_).cell? ⟨gb222, 0, none⟩ = some (.int .i64 0) := fun x_ => (World.cell?_setCell_other _ _ _ _ (by simp)).trans (bc BK222 0))))
      refine bodyPost_ret (results_cell_row rfl _ _ gb221 24 #[.int .i64 ji17, .int .i64 ji19] (0, 0) _ rfl (by (with_reducible repeat (first | refine blk_drewN ?_ _ | refine blk_drew ?_ | refine blk_alloc ?_ _)); refine blk_put (cs := #[.int .i64 ji17, .int .i64 0]) ?_ 1 _ rfl; (with_reducible repeat (first | refine blk_drewN ?_ _ | refine blk_drew ?_ | refine blk_alloc ?_ _)); refine blk_put (cs := #[.int .i64 0, .int .i64 0]) ?_ 0 _ rfl; (with_reducible repeat (first | refine blk_drewN ?_ _ | refine blk_drew ?_ | refine blk_alloc ?_ _)); refine blk_far ?_ NB221_222.out _; (with_reducible repeat (first | refine blk_drewN ?_ _ | refine blk_drew ?_ | refine blk_alloc ?_ _)); refine blk_far ?_ NB221_222.out _; (with_reducible repeat (first | refine blk_drewN ?_ _ | refine blk_drew ?_ | refine blk_alloc ?_ _)); refine blk_far ?_ NB221_222.out _; (with_reducible repeat (first | refine blk_drewN ?_ _ | refine blk_drew ?_ | refine blk_alloc ?_ _)); refine blk_far ?_ NB221_222.out _; (with_reducible repeat (first | refine blk_drewN ?_ _ | refine blk_drew ?_ | refine blk_alloc ?_ _)); exact BK221.out) Try.underlying24 rfl (by kernel_rfl)) rfl ?_
      exact ⟨by first | rfl | (simp [errW_none, errW_some] <;> rfl) | (simp only [← hji17, ← hji19]; first | rfl | (simp [errW_none, errW_some] <;> rfl)) | (simp [*, errW_none, errW_some] <;> rfl), Y3 HB GE220 GE221 GE222⟩
     ·rw [if_neg c18] at H
      have c18b0 : decide (0 < a0_1) = false := decide_eq_false c18
      clear c18
      simp only [Option.some.injEq, Prod.mk.injEq] at H
      obtain ⟨rfl, rfl⟩ := H
      go_wp2_with (first | ((with_reducible refine gate_dst (N := 7) rfl ?_); refine box_event ?hg (N := 7) ?hd (cs := #[.int .i64 0, .int .i64 0]) (t := 24) ?hr ?_; (case hd => rfl); (case hg => rfl); (case hr => first | (go_simp; done) | (go_simp; rfl)); intro gb222 hg w27 hbox hb; have BK222 := am (hbox); have GW222 := am ((by rw [hg]; exact (below_size (Y2 HB GE220 GE221)) : w.heap.size ≤ gb222)); have GE222 := am ((by rw [hg]; exact (below_size (Y2 HB GE220 GE221)) : w.heap.size ≤ gb222)); have NB220_222 := am ((nl (o := b2 a0_0 a0_1 24) hg (Z BK220) : gb220 ≠ gb222)); have NB222_220 := am ((ng (o := b2 a0_0 a0_1 24) hg (Z BK220) : gb222 ≠ gb220)); have NB221_222 := am ((nl (o := b2 0 0 24) hg (Z BK221) : gb221 ≠ gb222)); have NB222_221 := am ((ng (o := b2 0 0 24) hg (Z BK221) : gb222 ≠ gb221)); replace BK220 := am (blk_below (g := gb220) (o := b2 a0_0 a0_1 24) (Z BK220) hb); replace BK221 := am (blk_below (g := gb221) (o := b2 0 0 24) (Z BK221) hb); replace HB := am (below_step (Y2 HB GE220 GE221) hb); clear hb hbox hg; have hnb28 := NB222_220.out; have hnc28 := NB220_222.out; have hnb29 := NB222_221.out; have hnc29 := NB221_222.out; have hcz30_0 : w27.cell? ⟨gb222, 0, none⟩ = some (.int .i64 0) := bc BK222 0; have hcz30_1 : w27.cell? ⟨gb222, 1, none⟩ = some (.int .i64 0) := bc BK222 1; have hfz30_0 := blk_frozen BK222.out 0; have hfz30_1 := blk_frozen BK222.out 1; have hnb31 := NB220_221.out; have hnc31 := NB221_220.out; have hcz32_0 : w27.cell? ⟨gb220, 0, none⟩ = some (.int .i64 a0_0) := bc BK220 0; have hcz32_1 : w27.cell? ⟨gb220, 1, none⟩ = some (.int .i64 a0_1) := bc BK220 1; have hfz32_0 := blk_frozen BK220.out 0; have hfz32_1 := blk_frozen BK220.out 1; have hcz33_0 : w27.cell? ⟨gb221, 0, none⟩ = some (.int .i64 0) := bc BK221 0; have hcz33_1 : w27.cell? ⟨gb221, 1, none⟩ = some (.int .i64 0) := bc BK221 1; have hfz33_0 := blk_frozen BK221.out 0; have hfz33_1 := blk_frozen BK221.out 1; (try have hxs0_1 : ∀ x_ : Value, (w27.setCell ⟨gb222, 0, none⟩ x_).cell? ⟨gb222, 1, none⟩ = some (.int .i64 0) := fun x_ => (World.cell?_setCell_other _ _ _ _ (by simp)).trans (bc BK222 1)); (try have hxs1_0 : ∀ x_ : Value, (w27.setCell ⟨gb222, 1, none⟩ x_).cell? ⟨gb222, 0, none⟩ = some (.int .i64 0) := fun x_ => (World.cell?_setCell_other _ _ _ _ (by simp)).trans (bc BK222 0))))
      refine bodyPost_ret (results_cell_row rfl _ _ gb221 24 #[.int .i64 ji17, .int .i64 0] (0, 0) _ rfl (by (with_reducible repeat (first | refine blk_drewN ?_ _ | refine blk_drew ?_ | refine blk_alloc ?_ _)); refine blk_put (cs := #[.int .i64 ji17, .int .i64 0]) ?_ 1 _ rfl; (with_reducible repeat (first | refine blk_drewN ?_ _ | refine blk_drew ?_ | refine blk_alloc ?_ _)); refine blk_put (cs := #[.int .i64 0, .int .i64 0]) ?_ 0 _ rfl; (with_reducible repeat (first | refine blk_drewN ?_ _ | refine blk_drew ?_ | refine blk_alloc ?_ _)); refine blk_far ?_ NB221_222.out _; (with_reducible repeat (first | refine blk_drewN ?_ _ | refine blk_drew ?_ | refine blk_alloc ?_ _)); refine blk_far ?_ NB221_222.out _; (with_reducible repeat (first | refine blk_drewN ?_ _ | refine blk_drew ?_ | refine blk_alloc ?_ _)); refine blk_far ?_ NB221_222.out _; (with_reducible repeat (first | refine blk_drewN ?_ _ | refine blk_drew ?_ | refine blk_alloc ?_ _)); exact BK221.out) Try.underlying24 rfl (by kernel_rfl)) rfl ?_
      exact ⟨by first | rfl | (simp [errW_none, errW_some] <;> rfl) | (simp only [← hji17]; first | rfl | (simp [errW_none, errW_some] <;> rfl)) | (simp [*, errW_none, errW_some] <;> rfl), Y3 HB GE220 GE221 GE222⟩
    ·rw [if_neg c16] at H
     have c16b0 : decide (a0_0 < 0) = false := decide_eq_false c16
     clear c16
     by_cases c34 : a0_1 > 0
     ·rw [if_pos c34] at H
      have c34b0 : decide (0 < a0_1) = true := decide_eq_true c34
      clear c34
      obtain ⟨ji35, hji35⟩ : ∃ j_ : Int, (mn a0_1 (wrap64 (a2 - 1))) = j_ := ⟨_, rfl⟩
      replace H : (some (0, ji35)) = some (r1, r2) := by first | (rw [hji35] at H; exact H) | (simp only [hji35] at H ⊢; exact H)
      have hji35_ : (if (wrap64 (a2 - 1)) < a0_1 then (wrap64 (a2 - 1)) else a0_1) = ji35 := hji35
      simp only [Option.some.injEq, Prod.mk.injEq] at H
      obtain ⟨rfl, rfl⟩ := H
      go_wp2_with (first | ((with_reducible refine gate_dst (N := 7) rfl ?_); refine box_event ?hg (N := 7) ?hd (cs := #[.int .i64 0, .int .i64 0]) (t := 24) ?hr ?_; (case hd => rfl); (case hg => rfl); (case hr => first | (go_simp; done) | (go_simp; rfl)); intro gb222 hg w36 hbox hb; have BK222 := am (hbox); have GW222 := am ((by rw [hg]; exact (below_size (Y2 HB GE220 GE221)) : w.heap.size ≤ gb222)); have GE222 := am ((by rw [hg]; exact (below_size (Y2 HB GE220 GE221)) : w.heap.size ≤ gb222)); have NB220_222 := am ((nl (o := b2 a0_0 a0_1 24) hg (Z BK220) : gb220 ≠ gb222)); have NB222_220 := am ((ng (o := b2 a0_0 a0_1 24) hg (Z BK220) : gb222 ≠ gb220)); have NB221_222 := am ((nl (o := b2 0 0 24) hg (Z BK221) : gb221 ≠ gb222)); have NB222_221 := am ((ng (o := b2 0 0 24) hg (Z BK221) : gb222 ≠ gb221)); replace BK220 := am (blk_below (g := gb220) (o := b2 a0_0 a0_1 24) (Z BK220) hb); replace BK221 := am (blk_below (g := gb221) (o := b2 0 0 24) (Z BK221) hb); replace HB := am (below_step (Y2 HB GE220 GE221) hb); clear hb hbox hg; have hnb37 := NB222_220.out; have hnc37 := NB220_222.out; have hnb38 := NB222_221.out; have hnc38 := NB221_222.out; have hcz39_0 : w36.cell? ⟨gb222, 0, none⟩ = some (.int .i64 0) := bc BK222 0; have hcz39_1 : w36.cell? ⟨gb222, 1, none⟩ = some (.int .i64 0) := bc BK222 1; have hfz39_0 := blk_frozen BK222.out 0; have hfz39_1 := blk_frozen BK222.out 1; have hnb40 := NB220_221.out; have hnc40 := NB221_220.out; have hcz41_0 : w36.cell? ⟨gb220, 0, none⟩ = some (.int .i64 a0_0) := bc BK220 0; have hcz41_1 : w36.cell? ⟨gb220, 1, none⟩ = some (.int .i64 a0_1) := bc BK220 1; have hfz41_0 := blk_frozen BK220.out 0; have hfz41_1 := blk_frozen BK220.out 1; have hcz42_0 : w36.cell? ⟨gb221, 0, none⟩ = some (.int .i64 0) := bc BK221 0; have hcz42_1 : w36.cell? ⟨gb221, 1, none⟩ = some (.int .i64 0) := bc BK221 1; have hfz42_0 := blk_frozen BK221.out 0; have hfz42_1 := blk_frozen BK221.out 1; (try have hxs0_1 : ∀ x_ : Value, (w36.setCell ⟨gb222, 0, none⟩ x_).cell? ⟨gb222, 1, none⟩ = some (.int .i64 0) := fun x_ => (World.cell?_setCell_other _ _ _ _ (by simp)).trans (bc BK222 1)); (try have hxs1_0 : ∀ x_ : Value, (w36.setCell ⟨gb222, 1, none⟩ x_).cell? ⟨gb222, 0, none⟩ = some (.int .i64 0) := fun x_ => (World.cell?_setCell_other _ _ _ _ (by simp)).trans (bc BK222 0))))
      refine bodyPost_ret (results_cell_row rfl _ _ gb221 24 #[.int .i64 0, .int .i64 ji35] (0, 0) _ rfl (by (with_reducible repeat (first | refine blk_drewN ?_ _ | refine blk_drew ?_ | refine blk_alloc ?_ _)); refine blk_put (cs := #[.int .i64 0, .int .i64 0]) ?_ 1 _ rfl; (with_reducible repeat (first | refine blk_drewN ?_ _ | refine blk_drew ?_ | refine blk_alloc ?_ _)); refine blk_put (cs := #[.int .i64 0, .int .i64 0]) ?_ 0 _ rfl; (with_reducible repeat (first | refine blk_drewN ?_ _ | refine blk_drew ?_ | refine blk_alloc ?_ _)); refine blk_far ?_ NB221_222.out _; (with_reducible repeat (first | refine blk_drewN ?_ _ | refine blk_drew ?_ | refine blk_alloc ?_ _)); refine blk_far ?_ NB221_222.out _; (with_reducible repeat (first | refine blk_drewN ?_ _ | refine blk_drew ?_ | refine blk_alloc ?_ _)); refine blk_far ?_ NB221_222.out _; (with_reducible repeat (first | refine blk_drewN ?_ _ | refine blk_drew ?_ | refine blk_alloc ?_ _)); exact BK221.out) Try.underlying24 rfl (by kernel_rfl)) rfl ?_
      exact ⟨by first | rfl | (simp [errW_none, errW_some] <;> rfl) | (simp only [← hji35]; first | rfl | (simp [errW_none, errW_some] <;> rfl)) | (simp [*, errW_none, errW_some] <;> rfl), Y3 HB GE220 GE221 GE222⟩
     ·rw [if_neg c34] at H
      have c34b0 : decide (0 < a0_1) = false := decide_eq_false c34
      clear c34
      simp only [Option.some.injEq, Prod.mk.injEq] at H
      obtain ⟨rfl, rfl⟩ := H
      go_wp2_with (first | ((with_reducible refine gate_dst (N := 7) rfl ?_); refine box_event ?hg (N := 7) ?hd (cs := #[.int .i64 0, .int .i64 0]) (t := 24) ?hr ?_; (case hd => rfl); (case hg => rfl); (case hr => first | (go_simp; done) | (go_simp; rfl)); intro gb222 hg w43 hbox hb; have BK222 := am (hbox); have GW222 := am ((by rw [hg]; exact (below_size (Y2 HB GE220 GE221)) : w.heap.size ≤ gb222)); have GE222 := am ((by rw [hg]; exact (below_size (Y2 HB GE220 GE221)) : w.heap.size ≤ gb222)); have NB220_222 := am ((nl (o := b2 a0_0 a0_1 24) hg (Z BK220) : gb220 ≠ gb222)); have NB222_220 := am ((ng (o := b2 a0_0 a0_1 24) hg (Z BK220) : gb222 ≠ gb220)); have NB221_222 := am ((nl (o := b2 0 0 24) hg (Z BK221) : gb221 ≠ gb222)); have NB222_221 := am ((ng (o := b2 0 0 24) hg (Z BK221) : gb222 ≠ gb221)); replace BK220 := am (blk_below (g := gb220) (o := b2 a0_0 a0_1 24) (Z BK220) hb); replace BK221 := am (blk_below (g := gb221) (o := b2 0 0 24) (Z BK221) hb); replace HB := am (below_step (Y2 HB GE220 GE221) hb); clear hb hbox hg; have hnb44 := NB222_220.out; have hnc44 := NB220_222.out; have hnb45 := NB222_221.out; have hnc45 := NB221_222.out; have hcz46_0 : w43.cell? ⟨gb222, 0, none⟩ = some (.int .i64 0) := bc BK222 0; have hcz46_1 : w43.cell? ⟨gb222, 1, none⟩ = some (.int .i64 0) := bc BK222 1; have hfz46_0 := blk_frozen BK222.out 0; have hfz46_1 := blk_frozen BK222.out 1; have hnb47 := NB220_221.out; have hnc47 := NB221_220.out; have hcz48_0 : w43.cell? ⟨gb220, 0, none⟩ = some (.int .i64 a0_0) := bc BK220 0; have hcz48_1 : w43.cell? ⟨gb220, 1, none⟩ = some (.int .i64 a0_1) := bc BK220 1; have hfz48_0 := blk_frozen BK220.out 0; have hfz48_1 := blk_frozen BK220.out 1; have hcz49_0 : w43.cell? ⟨gb221, 0, none⟩ = some (.int .i64 0) := bc BK221 0; have hcz49_1 : w43.cell? ⟨gb221, 1, none⟩ = some (.int .i64 0) := bc BK221 1; have hfz49_0 := blk_frozen BK221.out 0; have hfz49_1 := blk_frozen BK221.out 1; (try have hxs0_1 : ∀ x_ : Value, (w43.setCell ⟨gb222, 0, none⟩ x_).cell? ⟨gb222, 1, none⟩ = some (.int .i64 0) := fun x_ => (World.cell?_setCell_other _ _ _ _ (by simp)).trans (bc BK222 1)); (try have hxs1_0 : ∀ x_ : Value, (w43.setCell ⟨gb222, 1, none⟩ x_).cell? ⟨gb222, 0, none⟩ = some (.int .i64 0) := fun x_ => (World.cell?_setCell_other _ _ _ _ (by simp)).trans (bc BK222 0))))
      refine bodyPost_ret (results_cell_row rfl _ _ gb221 24 #[.int .i64 0, .int .i64 0] (0, 0) _ rfl (by (with_reducible repeat (first | refine blk_drewN ?_ _ | refine blk_drew ?_ | refine blk_alloc ?_ _)); refine blk_put (cs := #[.int .i64 0, .int .i64 0]) ?_ 1 _ rfl; (with_reducible repeat (first | refine blk_drewN ?_ _ | refine blk_drew ?_ | refine blk_alloc ?_ _)); refine blk_put (cs := #[.int .i64 0, .int .i64 0]) ?_ 0 _ rfl; (with_reducible repeat (first | refine blk_drewN ?_ _ | refine blk_drew ?_ | refine blk_alloc ?_ _)); refine blk_far ?_ NB221_222.out _; (with_reducible repeat (first | refine blk_drewN ?_ _ | refine blk_drew ?_ | refine blk_alloc ?_ _)); refine blk_far ?_ NB221_222.out _; (with_reducible repeat (first | refine blk_drewN ?_ _ | refine blk_drew ?_ | refine blk_alloc ?_ _)); exact BK221.out) Try.underlying24 rfl (by kernel_rfl)) rfl ?_
      exact ⟨by first | rfl | (simp [errW_none, errW_some] <;> rfl) | (simp [*, errW_none, errW_some] <;> rfl), Y3 HB GE220 GE221 GE222⟩

end Go.Proofs.Ythbkakcchgnhpaa.PFnRangeOne
