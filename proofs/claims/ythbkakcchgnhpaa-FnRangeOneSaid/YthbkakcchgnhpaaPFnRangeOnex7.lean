/- Written by this session's own driver (wip/dprint.py): the functions that the law FnRangeOne reaches, as Lean functions, each with its contract. -/
import Derived.Test.YthbkakcchgnhpaaPFnRangeOnex0
import Derived.Test.YthbkakcchgnhpaaPFnRangeOnex2
import Derived.Test.YthbkakcchgnhpaaPFnRangeOnex4
import Derived.Test.YthbkakcchgnhpaaPFnRangeOnex5
import Derived.Test.YthbkakcchgnhpaaPFnRangeOnex6
import Derived.Test.YthbkakcchgnhpaaSv
namespace Go.Proofs.Ythbkakcchgnhpaa.PFnRangeOne
open Go.RowKit Go.Proofs.YthbkakcchgnhpaaV.PrintWords Go.Proofs.YthbkakcchgnhpaaV.PrintLast Go.Proofs.YthbkakcchgnhpaaV.PrintMore Go.Proofs.YthbkakcchgnhpaaSv
attribute [local go_sem] max2_int min2_int max_two min_two max_three min_three max_four min_four   -- for this text's walks alone
set_option linter.unusedVariables false
set_option linter.unusedSimpArgs false

/-! ### impl_rangeDiv: function 53 -/
mutual
def impl_rangeDiv.l0 : Nat → Int → Int → Bool → Int → Int → Int → Int → Int → Int → Int → Int → Int → Option (Int × Int × List Int)
 | 0, _, _, _, _, _, _, _, _, _, _, _, _ => none
 | k + 1, x6, x7, x8, x17, x178000, x178001, x179000, x179001, x900016000, x900016001, x900016002, x900016003 => if x17 < 2 then (if x17 = 0 then ((impl_Range_empty.f x900016000 x900016001).bind fun t185 => (if t185 = true then (impl_rangeDiv.l0 k x6 x7 x8 (wrap64 (x17 + 1)) x178000 x178001 x179000 x179001 x900016000 x900016001 x900016002 x900016003) else ((impl_rangeCorners.f k 4 x178000 x178001 x900016000 x900016001).bind fun bt186 => (if x8 = true then (impl_rangeDiv.l0 k (mn bt186.1 x6) (mx bt186.2 x7) true (wrap64 (x17 + 1)) x178000 x178001 x179000 x179001 x900016000 x900016001 x900016002 x900016003) else (impl_rangeDiv.l0 k bt186.1 bt186.2 true (wrap64 (x17 + 1)) x178000 x178001 x179000 x179001 x900016000 x900016001 x900016002 x900016003))))) else (if x17 = 1 then ((impl_Range_empty.f x900016002 x900016003).bind fun t189 => (if t189 = true then (impl_rangeDiv.l0 k x6 x7 x8 (wrap64 (x17 + 1)) x178000 x178001 x179000 x179001 x900016000 x900016001 x900016002 x900016003) else ((impl_rangeCorners.f k 4 x178000 x178001 x900016002 x900016003).bind fun bt190 => (if x8 = true then (impl_rangeDiv.l0 k (mn bt190.1 x6) (mx bt190.2 x7) true (wrap64 (x17 + 1)) x178000 x178001 x179000 x179001 x900016000 x900016001 x900016002 x900016003) else (impl_rangeDiv.l0 k bt190.1 bt190.2 true (wrap64 (x17 + 1)) x178000 x178001 x179000 x179001 x900016000 x900016001 x900016002 x900016003))))) else (none))) else ((impl_rangeNone.f).bind fun bt192 => (if x8 = true then ((impl_rangeFrom.f x6 x7).bind fun bt195 => (impl_rangeDiv.j1 k x178000 x178001 x179000 x179001 bt195.1 bt195.2)) else (impl_rangeDiv.j1 k x178000 x178001 x179000 x179001 bt192.1 bt192.2)))
def impl_rangeDiv.j1 : Nat → Int → Int → Int → Int → Int → Int → Option (Int × Int × List Int)
 | 0, _, _, _, _, _, _ => none
 | k + 1, x178000, x178001, x179000, x179001, x195000, x195001 => (impl_RangeHas.f x178000 x178001 (-2147483648)).bind fun t197 => (if t197 = true then ((impl_RangeHas.f x179000 x179001 (-1)).bind fun t198 => (impl_rangeDiv.j2 k ([] : List Int) t198 x179000 x179001 x195000 x195001)) else (impl_rangeDiv.j2 k ([] : List Int) false x179000 x179001 x195000 x195001))
def impl_rangeDiv.j2 : Nat → List Int → Bool → Int → Int → Int → Int → Option (Int × Int × List Int)
 | 0, _, _, _, _, _, _ => none
 | k + 1, x14, x48, x179000, x179001, x195000, x195001 => if x48 = true then (if x14.length < 17592186044416 then ((some (x14 ++ [1] : List Int)).bind fun y199 => ((impl_RangeHas.f x179000 x179001 0).bind fun t202 => (if t202 = true then (if y199.length < 17592186044416 then (some (x195000, x195001, (y199 ++ [2]))) else (none)) else (some (x195000, x195001, y199))))) else (none)) else ((impl_RangeHas.f x179000 x179001 0).bind fun t206 => (if t206 = true then (if x14.length < 17592186044416 then (some (x195000, x195001, (x14 ++ [2]))) else (none)) else (some (x195000, x195001, x14))))
end
def impl_rangeDiv.f (k : Nat) (a0_0 : Int) (a0_1 : Int) (a1_0 : Int) (a1_1 : Int) : Option (Int × Int × List Int) := (impl_rangeSides.f k a1_0 a1_1).bind fun bt180 => (impl_rangeDiv.l0 k 0 0 false 0 a0_0 a0_1 a1_0 a1_1 bt180.1 bt180.2.1 bt180.2.2.1 bt180.2.2.2)
theorem impl_rangeDiv.mono_l : ∀ k, (∀ y0 y1 y2 y3 y4 y5 y6 y7 y8 y9 y10 y11, LeO (impl_rangeDiv.l0 k y0 y1 y2 y3 y4 y5 y6 y7 y8 y9 y10 y11) (impl_rangeDiv.l0 (k + 1) y0 y1 y2 y3 y4 y5 y6 y7 y8 y9 y10 y11)) ∧ (∀ y0 y1 y2 y3 y4 y5, LeO (impl_rangeDiv.j1 k y0 y1 y2 y3 y4 y5) (impl_rangeDiv.j1 (k + 1) y0 y1 y2 y3 y4 y5)) ∧ (∀ y0 y1 y2 y3 y4 y5, LeO (impl_rangeDiv.j2 k y0 y1 y2 y3 y4 y5) (impl_rangeDiv.j2 (k + 1) y0 y1 y2 y3 y4 y5))
 | 0 => ⟨fun _ _ _ _ _ _ _ _ _ _ _ _ r h => by simp [impl_rangeDiv.l0] at h, fun _ _ _ _ _ _ r h => by simp [impl_rangeDiv.j1] at h, fun _ _ _ _ _ _ r h => by simp [impl_rangeDiv.j2] at h⟩
 | k + 1 => by
  obtain ⟨ih0, ih1, ih2⟩ := impl_rangeDiv.mono_l k
  refine ⟨?_, ?_, ?_⟩
  ·intro y0 y1 y2 y3 y4 y5 y6 y7 y8 y9 y10 y11
   unfold impl_rangeDiv.l0
   repeat' first
   | (with_reducible exact ih0 _ _ _ _ _ _ _ _ _ _ _ _)
   | (with_reducible exact ih1 _ _ _ _ _ _)
   | (with_reducible exact ih2 _ _ _ _ _ _)
   | (with_reducible exact impl_rangeCorners.mono _ _ _ _ _ _)
   | (with_reducible exact impl_rangeSides.mono _ _ _)
   | (with_reducible exact LeO.refl _)
   | (with_reducible exact LeO.none _)
   | (with_reducible refine LeO.ite ?_ ?_)
   | (with_reducible refine LeO.bind ?_ (fun _ => ?_))
   | exact ih0 _ _ _ _ _ _ _ _ _ _ _ _
   | exact ih1 _ _ _ _ _ _
   | exact ih2 _ _ _ _ _ _
   | exact impl_rangeCorners.mono _ _ _ _ _ _
   | exact impl_rangeSides.mono _ _ _
   | exact LeO.none _
   | refine LeO.ite ?_ ?_
   | refine LeO.bind ?_ (fun _ => ?_)
  ·intro y0 y1 y2 y3 y4 y5
   unfold impl_rangeDiv.j1
   repeat' first
   | (with_reducible exact ih0 _ _ _ _ _ _ _ _ _ _ _ _)
   | (with_reducible exact ih1 _ _ _ _ _ _)
   | (with_reducible exact ih2 _ _ _ _ _ _)
   | (with_reducible exact impl_rangeCorners.mono _ _ _ _ _ _)
   | (with_reducible exact impl_rangeSides.mono _ _ _)
   | (with_reducible exact LeO.refl _)
   | (with_reducible exact LeO.none _)
   | (with_reducible refine LeO.ite ?_ ?_)
   | (with_reducible refine LeO.bind ?_ (fun _ => ?_))
   | exact ih0 _ _ _ _ _ _ _ _ _ _ _ _
   | exact ih1 _ _ _ _ _ _
   | exact ih2 _ _ _ _ _ _
   | exact impl_rangeCorners.mono _ _ _ _ _ _
   | exact impl_rangeSides.mono _ _ _
   | exact LeO.none _
   | refine LeO.ite ?_ ?_
   | refine LeO.bind ?_ (fun _ => ?_)
  ·intro y0 y1 y2 y3 y4 y5
   unfold impl_rangeDiv.j2
   repeat' first
   | (with_reducible exact ih0 _ _ _ _ _ _ _ _ _ _ _ _)
   | (with_reducible exact ih1 _ _ _ _ _ _)
   | (with_reducible exact ih2 _ _ _ _ _ _)
   | (with_reducible exact impl_rangeCorners.mono _ _ _ _ _ _)
   | (with_reducible exact impl_rangeSides.mono _ _ _)
   | (with_reducible exact LeO.refl _)
   | (with_reducible exact LeO.none _)
   | (with_reducible refine LeO.ite ?_ ?_)
   | (with_reducible refine LeO.bind ?_ (fun _ => ?_))
   | exact ih0 _ _ _ _ _ _ _ _ _ _ _ _
   | exact ih1 _ _ _ _ _ _
   | exact ih2 _ _ _ _ _ _
   | exact impl_rangeCorners.mono _ _ _ _ _ _
   | exact impl_rangeSides.mono _ _ _
   | exact LeO.none _
   | refine LeO.ite ?_ ?_
   | refine LeO.bind ?_ (fun _ => ?_)
theorem impl_rangeDiv.mono : ∀ a0 a1 a2 a3 k, LeO (impl_rangeDiv.f k a0 a1 a2 a3) (impl_rangeDiv.f (k + 1) a0 a1 a2 a3) := by
 intro a0 a1 a2 a3 k
 obtain ⟨ih0, ih1, ih2⟩ := impl_rangeDiv.mono_l k
 unfold impl_rangeDiv.f
 repeat' first
   | (with_reducible exact ih0 _ _ _ _ _ _ _ _ _ _ _ _)
   | (with_reducible exact ih1 _ _ _ _ _ _)
   | (with_reducible exact ih2 _ _ _ _ _ _)
   | (with_reducible exact impl_rangeCorners.mono _ _ _ _ _ _)
   | (with_reducible exact impl_rangeSides.mono _ _ _)
   | (with_reducible exact LeO.refl _)
   | (with_reducible exact LeO.none _)
   | (with_reducible refine LeO.ite ?_ ?_)
   | (with_reducible refine LeO.bind ?_ (fun _ => ?_))
   | exact ih0 _ _ _ _ _ _ _ _ _ _ _ _
   | exact ih1 _ _ _ _ _ _
   | exact ih2 _ _ _ _ _ _
   | exact impl_rangeCorners.mono _ _ _ _ _ _
   | exact impl_rangeSides.mono _ _ _
   | exact LeO.none _
   | refine LeO.ite ?_ ?_
   | refine LeO.bind ?_ (fun _ => ?_)
set_option maxHeartbeats 8000000 in
set_option maxRecDepth 100000 in
theorem impl_rangeDiv.calls (k : Nat) (a0_0 : Int) (a0_1 : Int) (a1_0 : Int) (a1_1 : Int) (r1 : Int) (r2 : Int) (r3 : List Int) (w : World) (h : impl_rangeDiv.f k a0_0 a0_1 a1_0 a1_1 = some (r1, r2, r3)) :
  Calls Try.prog 53 #[.agg #[.int .i64 a0_0, .int .i64 a0_1], .agg #[.int .i64 a1_0, .int .i64 a1_1]] w fun e w' => ∃ v2_ : Value, e = .returned (.tuple #[.agg #[.int .i64 r1, .int .i64 r2], v2_]) ∧ Kd.R (Kd.int .i64) 3 w' w.heap.size (fun _ => True) v2_ r3 ∧ Below w.heap.size w w' := by
 have hu24 := Try.underlying24
 have HB := am (Below.refl w.heap.size w)
 have H : ((impl_rangeSides.f k a1_0 a1_1).bind fun bt180 => (impl_rangeDiv.l0 k 0 0 false 0 a0_0 a0_1 a1_0 a1_1 bt180.1 bt180.2.1 bt180.2.2.1 bt180.2.2.2)) = some (r1, r2, r3) := h
 clear h
 replace H := Option.bind_eq_some_iff.mp H
 obtain ⟨⟨t180, t181, t182, t183⟩, A30, H⟩ := H
 replace H : (impl_rangeDiv.l0 k 0 0 false 0 a0_0 a0_1 a1_0 a1_1 t180 t181 t182 t183) = some (r1, r2, r3) := H
 have A3 := am A30
 clear A30
 have H' := am H
 clear H
 go_enter Try.func53, Try.ntmps53
 go_wp2_with (first | ((with_reducible refine gate_dst (N := 2) rfl ?_); refine box_event ?hg (N := 2) ?hd (cs := #[.int .i64 a0_0, .int .i64 a0_1]) (t := 24) ?hr ?_; (case hd => rfl); (case hg => rfl); (case hr => first | (go_simp; done) | (go_simp; rfl)); intro gb177 hg w4 hbox hb; have BK177 := am (hbox); have GW177 := am ((by rw [hg]; exact (below_size (Y0 HB)) : w.heap.size ≤ gb177)); have GE177 := am ((by rw [hg]; exact (below_size (Y0 HB)) : w.heap.size ≤ gb177)); replace HB := am (below_step (Y0 HB) hb); clear hb hbox hg; (try have hxs0_1 : ∀ x_ : Value, (w4.setCell ⟨gb177, 0, none⟩ x_).cell? ⟨gb177, 1, none⟩ = some (.int .i64 a0_1) := fun x_ => (World.cell?_setCell_other _ _ _ _ (by simp)).trans (bc BK177 1)); (try have hxs1_0 : ∀ x_ : Value, (w4.setCell ⟨gb177, 1, none⟩ x_).cell? ⟨gb177, 0, none⟩ = some (.int .i64 a0_0) := fun x_ => (World.cell?_setCell_other _ _ _ _ (by simp)).trans (bc BK177 0))) | ((with_reducible refine gate_dst (N := 3) rfl ?_); refine box_event ?hg (N := 3) ?hd (cs := #[.int .i64 a1_0, .int .i64 a1_1]) (t := 24) ?hr ?_; (case hd => rfl); (case hg => rfl); (case hr => first | (go_simp; done) | (go_simp; rfl)); intro gb178 hg w5 hbox hb; have BK178 := am (hbox); have GW178 := am ((by rw [hg]; exact (below_size (Y1 HB GE177)) : w.heap.size ≤ gb178)); have GE178 := am ((by rw [hg]; exact (below_size (Y1 HB GE177)) : w.heap.size ≤ gb178)); have NB177_178 := am ((nl (o := b2 a0_0 a0_1 24) hg (Z BK177) : gb177 ≠ gb178)); have NB178_177 := am ((ng (o := b2 a0_0 a0_1 24) hg (Z BK177) : gb178 ≠ gb177)); replace BK177 := am (blk_below (g := gb177) (o := b2 a0_0 a0_1 24) (Z BK177) hb); replace HB := am (below_step (Y1 HB GE177) hb); clear hb hbox hg; (try have hxz0_0 : w5.cell? ⟨gb177, 0, none⟩ = some (.int .i64 a0_0) := bc BK177 0); (try have hxf0_0 := blk_frozen BK177.out 0); (try have hxz0_1 : w5.cell? ⟨gb177, 1, none⟩ = some (.int .i64 a0_1) := bc BK177 1); (try have hxf0_1 := blk_frozen BK177.out 1); (try have hxs0_1 : ∀ x_ : Value, (w5.setCell ⟨gb178, 0, none⟩ x_).cell? ⟨gb178, 1, none⟩ = some (.int .i64 a1_1) := fun x_ => (World.cell?_setCell_other _ _ _ _ (by simp)).trans (bc BK178 1)); (try have hxs1_0 : ∀ x_ : Value, (w5.setCell ⟨gb178, 1, none⟩ x_).cell? ⟨gb178, 0, none⟩ = some (.int .i64 a1_0) := fun x_ => (World.cell?_setCell_other _ _ _ _ (by simp)).trans (bc BK178 0))) | ((with_reducible refine gate_dst (N := 4) rfl ?_); refine box_event ?hg (N := 4) ?hd (cs := #[.int .i64 0, .int .i64 0]) (t := 24) ?hr ?_; (case hd => rfl); (case hg => rfl); (case hr => first | (go_simp; done) | (go_simp; rfl)); intro gb179 hg w6 hbox hb; have BK179 := am (hbox); have GW179 := am ((by rw [hg]; exact (below_size (Y2 HB GE177 GE178)) : w.heap.size ≤ gb179)); have GE179 := am ((by rw [hg]; exact (below_size (Y2 HB GE177 GE178)) : w.heap.size ≤ gb179)); have NB177_179 := am ((nl (o := b2 a0_0 a0_1 24) hg (Z BK177) : gb177 ≠ gb179)); have NB179_177 := am ((ng (o := b2 a0_0 a0_1 24) hg (Z BK177) : gb179 ≠ gb177)); have NB178_179 := am ((nl (o := b2 a1_0 a1_1 24) hg (Z BK178) : gb178 ≠ gb179)); have NB179_178 := am ((ng (o := b2 a1_0 a1_1 24) hg (Z BK178) : gb179 ≠ gb178)); replace BK177 := am (blk_below (g := gb177) (o := b2 a0_0 a0_1 24) (Z BK177) hb); replace BK178 := am (blk_below (g := gb178) (o := b2 a1_0 a1_1 24) (Z BK178) hb); replace HB := am (below_step (Y2 HB GE177 GE178) hb); clear hb hbox hg; have hnb7 := NB178_177.out; have hnc7 := NB177_178.out; have hnb8 := NB178_179.out; have hnc8 := NB179_178.out; have hcz9_0 : w6.cell? ⟨gb178, 0, none⟩ = some (.int .i64 a1_0) := bc BK178 0; have hcz9_1 : w6.cell? ⟨gb178, 1, none⟩ = some (.int .i64 a1_1) := bc BK178 1; have hfz9_0 := blk_frozen BK178.out 0; have hfz9_1 := blk_frozen BK178.out 1; (try have hxz0_0 : w6.cell? ⟨gb177, 0, none⟩ = some (.int .i64 a0_0) := bc BK177 0); (try have hxf0_0 := blk_frozen BK177.out 0); (try have hxz0_1 : w6.cell? ⟨gb177, 1, none⟩ = some (.int .i64 a0_1) := bc BK177 1); (try have hxf0_1 := blk_frozen BK177.out 1); (try have hxs0_1 : ∀ x_ : Value, (w6.setCell ⟨gb179, 0, none⟩ x_).cell? ⟨gb179, 1, none⟩ = some (.int .i64 0) := fun x_ => (World.cell?_setCell_other _ _ _ _ (by simp)).trans (bc BK179 1)); (try have hxs1_0 : ∀ x_ : Value, (w6.setCell ⟨gb179, 1, none⟩ x_).cell? ⟨gb179, 0, none⟩ = some (.int .i64 0) := fun x_ => (World.cell?_setCell_other _ _ _ _ (by simp)).trans (bc BK179 0))) | ((with_reducible refine gate_callee (f := 94) rfl ?_); refine goesL_ (some 16) rfl rfl Try.func94 (by kernel_rfl) rfl #[.agg #[.int .i64 a1_0, .int .i64 a1_1]] rfl mz ?_; (with_reducible refine (impl_rangeSides.calls k a1_0 a1_1 t180 t181 t182 t183 _ A3.out).mono ?_); rintro e w10 ⟨rfl, hb⟩; refine ⟨_, rfl, ?_⟩; replace BK177 := am (blk_below (g := gb177) (o := b2 a0_0 a0_1 24) (Z BK177) hb); replace BK178 := am (blk_below (g := gb178) (o := b2 a1_0 a1_1 24) (Z BK178) hb); replace BK179 := am (blk_below (g := gb179) (o := b2 0 0 24) (Z BK179) hb); replace HB := am (below_step (Y3 HB GE177 GE178 GE179) hb); (try clear hb); (try clear hb2); (try clear hk); (try clear hi)))
 go_loopg [6, 7, 8, 17] k (fun kq v6 v7 v8 v17 w' => ∃ (x6_1 : Int) (x7_1 : Int) (x8_1 : Bool) (x17_1 : Int), v6 = .int .i64 x6_1 ∧ v7 = .int .i64 x7_1 ∧ v8 = .bool x8_1 ∧ v17 = .int .i64 x17_1 ∧ Aside0 (impl_rangeDiv.l0 kq x6_1 x7_1 x8_1 x17_1 a0_0 a0_1 a1_0 a1_1 t180 t181 t182 t183 = some (r1, r2, r3)) ∧ Aside0 (kq ≤ k) ∧ Aside0 (w'.heap[gb177]? = some (.cells #[.int .i64 a0_0, .int .i64 a0_1] 24 (0, 0))) ∧ Aside0 (w'.heap[gb178]? = some (.cells #[.int .i64 a1_0, .int .i64 a1_1] 24 (0, 0))) ∧ Aside0 (w'.heap[gb179]? = some (.cells #[.int .i64 0, .int .i64 0] 24 (0, 0))) ∧ Aside0 (Below w.heap.size w w'))
 case atStart => exact ⟨(0), (0), (false), (0), (by first | rfl | (simp; done) | (simp [*]; done)), (by first | rfl | (simp; done) | (simp [*]; done)), (by first | rfl | (simp; done) | (simp [*]; done)), (by first | rfl | (simp; done) | (simp [*]; done)), H', ⟨Nat.le_refl _⟩, ⟨Z BK177⟩, ⟨Z BK178⟩, ⟨Z BK179⟩, ⟨Y3 HB GE177 GE178 GE179⟩⟩
 case round =>
  clear H'
  try clear p2
  try clear c5
  try clear c7
  try clear c8
  try clear c9
  try clear hcz9_0
  try clear hcz9_1
  try clear hfz9_0
  try clear hfz9_1
  obtain ⟨x6_1, x7_1, x8_1, x17_1, rfl, rfl, rfl, rfl, HA, HK1, BK177, BK178, BK179, HB⟩ := hrel
  cases gk with
  | zero => exact absurd HA.out (by simp [impl_rangeDiv.l0])
  | succ k1 =>
   have H := HA.out
   clear HA
   simp only [impl_rangeDiv.l0] at H
   by_cases c11 : x17_1 < 2
   ·rw [if_pos c11] at H
    have c11b0 : decide (x17_1 < 2) = true := decide_eq_true c11
    clear c11
    by_cases c12 : x17_1 = 0
    ·rw [if_pos c12] at H
     have hix12 : ∀ w', (Instr.index 96 (.agg #[.int .i64 t180, .int .i64 t181, .int .i64 t182, .int .i64 t183]) (.int .i64 x17_1)).run Try.prog w' = .ok (.agg #[.int .i64 t180, .int .i64 t181]) w' := by intro w'; rw [c12]; first | (go_simp; done) | (go_simp; rfl) | rfl
     have c12b0 : (x17_1 == 0) = true := beq_iff_eq.mpr c12
     have c12b1 : (x17_1 != 0) = false := bne_eq_false_iff_eq.mpr c12
     clear c12
     replace H := Option.bind_eq_some_iff.mp H
     obtain ⟨t185, A130, H⟩ := H
     replace H : (if t185 = true then (impl_rangeDiv.l0 k1 x6_1 x7_1 x8_1 (wrap64 (x17_1 + 1)) a0_0 a0_1 a1_0 a1_1 t180 t181 t182 t183) else ((impl_rangeCorners.f k1 4 a0_0 a0_1 t180 t181).bind fun bt186 => (if x8_1 = true then (impl_rangeDiv.l0 k1 (mn bt186.1 x6_1) (mx bt186.2 x7_1) true (wrap64 (x17_1 + 1)) a0_0 a0_1 a1_0 a1_1 t180 t181 t182 t183) else (impl_rangeDiv.l0 k1 bt186.1 bt186.2 true (wrap64 (x17_1 + 1)) a0_0 a0_1 a1_0 a1_1 t180 t181 t182 t183)))) = some (r1, r2, r3) := H
     have A13 := am A130
     clear A130
     by_cases c14 : t185 = true
     ·subst c14
      have H1 : (impl_rangeDiv.l0 k1 x6_1 x7_1 x8_1 (wrap64 (x17_1 + 1)) a0_0 a0_1 a1_0 a1_1 t180 t181 t182 t183) = some (r1, r2, r3) := by rw [if_pos rfl] at H; exact H
      clear H
      have H := H1
      clear H1
      have H' := am H
      clear H
      go_wp2_with (first | ((with_reducible refine gate_dst (N := 10) rfl ?_); refine box_event ?hg (N := 10) ?hd (cs := #[.int .i64 0, .int .i64 0]) (t := 24) ?hr ?_; (case hd => rfl); (case hg => rfl); (case hr => first | (go_simp; done) | (go_simp; rfl)); intro gb184 hg w15 hbox hb; have BK184 := am (hbox); have GW184 := am ((by rw [hg]; exact (below_size (Y3 HB GE177 GE178 GE179)) : w.heap.size ≤ gb184)); have GE184 := am ((by rw [hg]; exact (below_size (Y3 HB GE177 GE178 GE179)) : w.heap.size ≤ gb184)); have NB177_184 := am ((nl (o := b2 a0_0 a0_1 24) hg (Z BK177) : gb177 ≠ gb184)); have NB184_177 := am ((ng (o := b2 a0_0 a0_1 24) hg (Z BK177) : gb184 ≠ gb177)); have NB178_184 := am ((nl (o := b2 a1_0 a1_1 24) hg (Z BK178) : gb178 ≠ gb184)); have NB184_178 := am ((ng (o := b2 a1_0 a1_1 24) hg (Z BK178) : gb184 ≠ gb178)); have NB179_184 := am ((nl (o := b2 0 0 24) hg (Z BK179) : gb179 ≠ gb184)); have NB184_179 := am ((ng (o := b2 0 0 24) hg (Z BK179) : gb184 ≠ gb179)); replace BK177 := am (blk_below (g := gb177) (o := b2 a0_0 a0_1 24) (Z BK177) hb); replace BK178 := am (blk_below (g := gb178) (o := b2 a1_0 a1_1 24) (Z BK178) hb); replace BK179 := am (blk_below (g := gb179) (o := b2 0 0 24) (Z BK179) hb); replace HB := am (below_step (Y3 HB GE177 GE178 GE179) hb); clear hb hbox hg; have hnb16 := NB184_177.out; have hnc16 := NB177_184.out; have hnb17 := NB184_178.out; have hnc17 := NB178_184.out; have hnb18 := NB184_179.out; have hnc18 := NB179_184.out; have hcz19_0 : w15.cell? ⟨gb184, 0, none⟩ = some (.int .i64 0) := bc BK184 0; have hcz19_1 : w15.cell? ⟨gb184, 1, none⟩ = some (.int .i64 0) := bc BK184 1; have hfz19_0 := blk_frozen BK184.out 0; have hfz19_1 := blk_frozen BK184.out 1; (try have hxz0_0 : w15.cell? ⟨gb177, 0, none⟩ = some (.int .i64 a0_0) := bc BK177 0); (try have hxf0_0 := blk_frozen BK177.out 0); (try have hxz0_1 : w15.cell? ⟨gb177, 1, none⟩ = some (.int .i64 a0_1) := bc BK177 1); (try have hxf0_1 := blk_frozen BK177.out 1); (try have hxz1_0 : w15.cell? ⟨gb178, 0, none⟩ = some (.int .i64 a1_0) := bc BK178 0); (try have hxf1_0 := blk_frozen BK178.out 0); (try have hxz1_1 : w15.cell? ⟨gb178, 1, none⟩ = some (.int .i64 a1_1) := bc BK178 1); (try have hxf1_1 := blk_frozen BK178.out 1); (try have hxz2_0 : w15.cell? ⟨gb179, 0, none⟩ = some (.int .i64 0) := bc BK179 0); (try have hxf2_0 := blk_frozen BK179.out 0); (try have hxz2_1 : w15.cell? ⟨gb179, 1, none⟩ = some (.int .i64 0) := bc BK179 1); (try have hxf2_1 := blk_frozen BK179.out 1); (try have hxs0_1 : ∀ x_ : Value, (w15.setCell ⟨gb184, 0, none⟩ x_).cell? ⟨gb184, 1, none⟩ = some (.int .i64 0) := fun x_ => (World.cell?_setCell_other _ _ _ _ (by simp)).trans (bc BK184 1)); (try have hxs1_0 : ∀ x_ : Value, (w15.setCell ⟨gb184, 1, none⟩ x_).cell? ⟨gb184, 0, none⟩ = some (.int .i64 0) := fun x_ => (World.cell?_setCell_other _ _ _ _ (by simp)).trans (bc BK184 0))) | ((with_reducible refine gate_callee (f := 47) rfl ?_); refine goesL_ (some 21) rfl rfl Try.func47 (by kernel_rfl) rfl #[.agg #[.int .i64 t180, .int .i64 t181]] rfl mz ?_; (with_reducible refine (impl_Range_empty.calls t180 t181 true _ A13.out).mono ?_); rintro e w20 ⟨rfl, hb⟩; refine ⟨_, rfl, ?_⟩; replace BK177 := am (blk_below (g := gb177) (o := b2 a0_0 a0_1 24) (by (with_reducible repeat (first | refine blk_drewN ?_ _ | refine blk_drew ?_ | refine blk_alloc ?_ _)); refine blk_far ?_ NB177_184.out _; (with_reducible repeat (first | refine blk_drewN ?_ _ | refine blk_drew ?_ | refine blk_alloc ?_ _)); refine blk_far ?_ NB177_184.out _; (with_reducible repeat (first | refine blk_drewN ?_ _ | refine blk_drew ?_ | refine blk_alloc ?_ _)); exact BK177.out) hb); replace BK178 := am (blk_below (g := gb178) (o := b2 a1_0 a1_1 24) (by (with_reducible repeat (first | refine blk_drewN ?_ _ | refine blk_drew ?_ | refine blk_alloc ?_ _)); refine blk_far ?_ NB178_184.out _; (with_reducible repeat (first | refine blk_drewN ?_ _ | refine blk_drew ?_ | refine blk_alloc ?_ _)); refine blk_far ?_ NB178_184.out _; (with_reducible repeat (first | refine blk_drewN ?_ _ | refine blk_drew ?_ | refine blk_alloc ?_ _)); exact BK178.out) hb); replace BK179 := am (blk_below (g := gb179) (o := b2 0 0 24) (by (with_reducible repeat (first | refine blk_drewN ?_ _ | refine blk_drew ?_ | refine blk_alloc ?_ _)); refine blk_far ?_ NB179_184.out _; (with_reducible repeat (first | refine blk_drewN ?_ _ | refine blk_drew ?_ | refine blk_alloc ?_ _)); refine blk_far ?_ NB179_184.out _; (with_reducible repeat (first | refine blk_drewN ?_ _ | refine blk_drew ?_ | refine blk_alloc ?_ _)); exact BK179.out) hb); replace BK184 := am (blk_below (g := gb184) (o := b2 t180 t181 24) (by (with_reducible repeat (first | refine blk_drewN ?_ _ | refine blk_drew ?_ | refine blk_alloc ?_ _)); refine blk_put (cs := #[.int .i64 t180, .int .i64 0]) ?_ 1 _ rfl; (with_reducible repeat (first | refine blk_drewN ?_ _ | refine blk_drew ?_ | refine blk_alloc ?_ _)); refine blk_put (cs := #[.int .i64 0, .int .i64 0]) ?_ 0 _ rfl; (with_reducible repeat (first | refine blk_drewN ?_ _ | refine blk_drew ?_ | refine blk_alloc ?_ _)); exact BK184.out) hb); replace HB := am (below_step (Y4 HB GE177 GE178 GE179 GE184) hb); (try clear hb); (try clear hb2); (try clear hk); (try clear hi)))
      go_roundg k1
      case measure => have := HK1.out; omega
      case rel => exact ⟨(x6_1), (x7_1), (x8_1), (wrap64 (x17_1 + 1)), (by first | rfl | (simp; done) | (simp [*]; done)), (by first | rfl | (simp; done) | (simp [*]; done)), (by first | rfl | (simp; done) | (simp [*]; done)), (by first | rfl | (simp; done) | (simp [*]; done)), H', ⟨by have := HK1.out; omega⟩, ⟨Z BK177⟩, ⟨Z BK178⟩, ⟨Z BK179⟩, ⟨Y4 HB GE177 GE178 GE179 GE184⟩⟩
     ·replace c14 := Bool.eq_false_iff.mpr c14
      subst c14
      have H1 : ((impl_rangeCorners.f k1 4 a0_0 a0_1 t180 t181).bind fun bt186 => (if x8_1 = true then (impl_rangeDiv.l0 k1 (mn bt186.1 x6_1) (mx bt186.2 x7_1) true (wrap64 (x17_1 + 1)) a0_0 a0_1 a1_0 a1_1 t180 t181 t182 t183) else (impl_rangeDiv.l0 k1 bt186.1 bt186.2 true (wrap64 (x17_1 + 1)) a0_0 a0_1 a1_0 a1_1 t180 t181 t182 t183))) = some (r1, r2, r3) := by rw [if_neg (show ¬ (false = true) by decide)] at H; exact H
      clear H
      have H := H1
      clear H1
      replace H := Option.bind_eq_some_iff.mp H
      obtain ⟨⟨t186, t187⟩, A210, H⟩ := H
      replace H : (if x8_1 = true then (impl_rangeDiv.l0 k1 (mn t186 x6_1) (mx t187 x7_1) true (wrap64 (x17_1 + 1)) a0_0 a0_1 a1_0 a1_1 t180 t181 t182 t183) else (impl_rangeDiv.l0 k1 t186 t187 true (wrap64 (x17_1 + 1)) a0_0 a0_1 a1_0 a1_1 t180 t181 t182 t183)) = some (r1, r2, r3) := H
      have A21 := am A210
      clear A210
      by_cases c22 : x8_1 = true
      ·subst c22
       have H1 : (impl_rangeDiv.l0 k1 (mn t186 x6_1) (mx t187 x7_1) true (wrap64 (x17_1 + 1)) a0_0 a0_1 a1_0 a1_1 t180 t181 t182 t183) = some (r1, r2, r3) := by rw [if_pos rfl] at H; exact H
       clear H
       have H := H1
       clear H1
       obtain ⟨ji23, hji23⟩ : ∃ j_ : Int, (mn t186 x6_1) = j_ := ⟨_, rfl⟩
       replace H : (impl_rangeDiv.l0 k1 ji23 (mx t187 x7_1) true (wrap64 (x17_1 + 1)) a0_0 a0_1 a1_0 a1_1 t180 t181 t182 t183) = some (r1, r2, r3) := by first | (rw [hji23] at H; exact H) | (simp only [hji23] at H ⊢; exact H)
       (try rw [hji23] at A13)
       (try rw [hji23] at A21)
       have hji23_ : (if x6_1 < t186 then x6_1 else t186) = ji23 := hji23
       obtain ⟨ji24, hji24⟩ : ∃ j_ : Int, (mx t187 x7_1) = j_ := ⟨_, rfl⟩
       replace H : (impl_rangeDiv.l0 k1 ji23 ji24 true (wrap64 (x17_1 + 1)) a0_0 a0_1 a1_0 a1_1 t180 t181 t182 t183) = some (r1, r2, r3) := by first | (rw [hji24] at H; exact H) | (simp only [hji24] at H ⊢; exact H)
       (try rw [hji24] at A13)
       (try rw [hji24] at A21)
       have hji24_ : (if t187 < x7_1 then x7_1 else t187) = ji24 := hji24
       have H' := am H
       clear H
       go_wp2_with (first | ((with_reducible refine gate_dst (N := 10) rfl ?_); refine box_event ?hg (N := 10) ?hd (cs := #[.int .i64 0, .int .i64 0]) (t := 24) ?hr ?_; (case hd => rfl); (case hg => rfl); (case hr => first | (go_simp; done) | (go_simp; rfl)); intro gb184 hg w25 hbox hb; have BK184 := am (hbox); have GW184 := am ((by rw [hg]; exact (below_size (Y3 HB GE177 GE178 GE179)) : w.heap.size ≤ gb184)); have GE184 := am ((by rw [hg]; exact (below_size (Y3 HB GE177 GE178 GE179)) : w.heap.size ≤ gb184)); have NB177_184 := am ((nl (o := b2 a0_0 a0_1 24) hg (Z BK177) : gb177 ≠ gb184)); have NB184_177 := am ((ng (o := b2 a0_0 a0_1 24) hg (Z BK177) : gb184 ≠ gb177)); have NB178_184 := am ((nl (o := b2 a1_0 a1_1 24) hg (Z BK178) : gb178 ≠ gb184)); have NB184_178 := am ((ng (o := b2 a1_0 a1_1 24) hg (Z BK178) : gb184 ≠ gb178)); have NB179_184 := am ((nl (o := b2 0 0 24) hg (Z BK179) : gb179 ≠ gb184)); have NB184_179 := am ((ng (o := b2 0 0 24) hg (Z BK179) : gb184 ≠ gb179)); replace BK177 := am (blk_below (g := gb177) (o := b2 a0_0 a0_1 24) (Z BK177) hb); replace BK178 := am (blk_below (g := gb178) (o := b2 a1_0 a1_1 24) (Z BK178) hb); replace BK179 := am (blk_below (g := gb179) (o := b2 0 0 24) (Z BK179) hb); replace HB := am (below_step (Y3 HB GE177 GE178 GE179) hb); clear hb hbox hg; have hnb26 := NB184_177.out; have hnc26 := NB177_184.out; have hnb27 := NB184_178.out; have hnc27 := NB178_184.out; have hnb28 := NB184_179.out; have hnc28 := NB179_184.out; have hcz29_0 : w25.cell? ⟨gb184, 0, none⟩ = some (.int .i64 0) := bc BK184 0; have hcz29_1 : w25.cell? ⟨gb184, 1, none⟩ = some (.int .i64 0) := bc BK184 1; have hfz29_0 := blk_frozen BK184.out 0; have hfz29_1 := blk_frozen BK184.out 1; (try have hxz0_0 : w25.cell? ⟨gb177, 0, none⟩ = some (.int .i64 a0_0) := bc BK177 0); (try have hxf0_0 := blk_frozen BK177.out 0); (try have hxz0_1 : w25.cell? ⟨gb177, 1, none⟩ = some (.int .i64 a0_1) := bc BK177 1); (try have hxf0_1 := blk_frozen BK177.out 1); (try have hxz1_0 : w25.cell? ⟨gb178, 0, none⟩ = some (.int .i64 a1_0) := bc BK178 0); (try have hxf1_0 := blk_frozen BK178.out 0); (try have hxz1_1 : w25.cell? ⟨gb178, 1, none⟩ = some (.int .i64 a1_1) := bc BK178 1); (try have hxf1_1 := blk_frozen BK178.out 1); (try have hxz2_0 : w25.cell? ⟨gb179, 0, none⟩ = some (.int .i64 0) := bc BK179 0); (try have hxf2_0 := blk_frozen BK179.out 0); (try have hxz2_1 : w25.cell? ⟨gb179, 1, none⟩ = some (.int .i64 0) := bc BK179 1); (try have hxf2_1 := blk_frozen BK179.out 1); (try have hxs0_1 : ∀ x_ : Value, (w25.setCell ⟨gb184, 0, none⟩ x_).cell? ⟨gb184, 1, none⟩ = some (.int .i64 0) := fun x_ => (World.cell?_setCell_other _ _ _ _ (by simp)).trans (bc BK184 1)); (try have hxs1_0 : ∀ x_ : Value, (w25.setCell ⟨gb184, 1, none⟩ x_).cell? ⟨gb184, 0, none⟩ = some (.int .i64 0) := fun x_ => (World.cell?_setCell_other _ _ _ _ (by simp)).trans (bc BK184 0))) | ((with_reducible refine gate_callee (f := 47) rfl ?_); refine goesL_ (some 21) rfl rfl Try.func47 (by kernel_rfl) rfl #[.agg #[.int .i64 t180, .int .i64 t181]] rfl mz ?_; (with_reducible refine (impl_Range_empty.calls t180 t181 false _ A13.out).mono ?_); rintro e w30 ⟨rfl, hb⟩; refine ⟨_, rfl, ?_⟩; replace BK177 := am (blk_below (g := gb177) (o := b2 a0_0 a0_1 24) (by (with_reducible repeat (first | refine blk_drewN ?_ _ | refine blk_drew ?_ | refine blk_alloc ?_ _)); refine blk_far ?_ NB177_184.out _; (with_reducible repeat (first | refine blk_drewN ?_ _ | refine blk_drew ?_ | refine blk_alloc ?_ _)); refine blk_far ?_ NB177_184.out _; (with_reducible repeat (first | refine blk_drewN ?_ _ | refine blk_drew ?_ | refine blk_alloc ?_ _)); exact BK177.out) hb); replace BK178 := am (blk_below (g := gb178) (o := b2 a1_0 a1_1 24) (by (with_reducible repeat (first | refine blk_drewN ?_ _ | refine blk_drew ?_ | refine blk_alloc ?_ _)); refine blk_far ?_ NB178_184.out _; (with_reducible repeat (first | refine blk_drewN ?_ _ | refine blk_drew ?_ | refine blk_alloc ?_ _)); refine blk_far ?_ NB178_184.out _; (with_reducible repeat (first | refine blk_drewN ?_ _ | refine blk_drew ?_ | refine blk_alloc ?_ _)); exact BK178.out) hb); replace BK179 := am (blk_below (g := gb179) (o := b2 0 0 24) (by (with_reducible repeat (first | refine blk_drewN ?_ _ | refine blk_drew ?_ | refine blk_alloc ?_ _)); refine blk_far ?_ NB179_184.out _; (with_reducible repeat (first | refine blk_drewN ?_ _ | refine blk_drew ?_ | refine blk_alloc ?_ _)); refine blk_far ?_ NB179_184.out _; (with_reducible repeat (first | refine blk_drewN ?_ _ | refine blk_drew ?_ | refine blk_alloc ?_ _)); exact BK179.out) hb); replace BK184 := am (blk_below (g := gb184) (o := b2 t180 t181 24) (by (with_reducible repeat (first | refine blk_drewN ?_ _ | refine blk_drew ?_ | refine blk_alloc ?_ _)); refine blk_put (cs := #[.int .i64 t180, .int .i64 0]) ?_ 1 _ rfl; (with_reducible repeat (first | refine blk_drewN ?_ _ | refine blk_drew ?_ | refine blk_alloc ?_ _)); refine blk_put (cs := #[.int .i64 0, .int .i64 0]) ?_ 0 _ rfl; (with_reducible repeat (first | refine blk_drewN ?_ _ | refine blk_drew ?_ | refine blk_alloc ?_ _)); exact BK184.out) hb); replace HB := am (below_step (Y4 HB GE177 GE178 GE179 GE184) hb); (try clear hb); (try clear hb2); (try clear hk); (try clear hi); have hnb31 := NB177_178.out; have hnc31 := NB178_177.out; have hnb32 := NB177_179.out; have hnc32 := NB179_177.out; have hcz33_0 : w30.cell? ⟨gb177, 0, none⟩ = some (.int .i64 a0_0) := bc BK177 0; have hcz33_1 : w30.cell? ⟨gb177, 1, none⟩ = some (.int .i64 a0_1) := bc BK177 1; have hfz33_0 := blk_frozen BK177.out 0; have hfz33_1 := blk_frozen BK177.out 1; have hcz34_0 : w30.cell? ⟨gb184, 0, none⟩ = some (.int .i64 t180) := bc BK184 0; have hcz34_1 : w30.cell? ⟨gb184, 1, none⟩ = some (.int .i64 t181) := bc BK184 1; have hfz34_0 := blk_frozen BK184.out 0; have hfz34_1 := blk_frozen BK184.out 1) | ((with_reducible refine gate_callee (f := 49) rfl ?_); refine goesL_ (some 25) rfl rfl Try.func49 (by kernel_rfl) rfl #[.int .i64 4, .agg #[.int .i64 a0_0, .int .i64 a0_1], .agg #[.int .i64 t180, .int .i64 t181]] rfl mz ?_; (with_reducible refine (impl_rangeCorners.calls k1 4 a0_0 a0_1 t180 t181 t186 t187 _ A21.out).mono ?_); rintro e w35 ⟨rfl, hb⟩; refine ⟨_, rfl, ?_⟩; replace BK177 := am (blk_below (g := gb177) (o := b2 a0_0 a0_1 24) (Z BK177) hb); replace BK178 := am (blk_below (g := gb178) (o := b2 a1_0 a1_1 24) (Z BK178) hb); replace BK179 := am (blk_below (g := gb179) (o := b2 0 0 24) (Z BK179) hb); replace BK184 := am (blk_below (g := gb184) (o := b2 t180 t181 24) (Z BK184) hb); replace HB := am (below_step (Y4 HB GE177 GE178 GE179 GE184) hb); (try clear hb); (try clear hb2); (try clear hk); (try clear hi)))
       go_roundg k1
       case measure => have := HK1.out; omega
       case rel => exact ⟨(ji23), (ji24), (true), (wrap64 (x17_1 + 1)), (by first | rfl | (simp; done) | (simp only [← hji23] <;> (first | rfl | simp)) | (simp [*]; done)), (by first | rfl | (simp; done) | (simp only [← hji24] <;> (first | rfl | simp)) | (simp [*]; done)), (by first | rfl | (simp; done) | (simp [*]; done)), (by first | rfl | (simp; done) | (simp [*]; done)), H', ⟨by have := HK1.out; omega⟩, ⟨Z BK177⟩, ⟨Z BK178⟩, ⟨Z BK179⟩, ⟨Y4 HB GE177 GE178 GE179 GE184⟩⟩
      ·replace c22 := Bool.eq_false_iff.mpr c22
       subst c22
       have H1 : (impl_rangeDiv.l0 k1 t186 t187 true (wrap64 (x17_1 + 1)) a0_0 a0_1 a1_0 a1_1 t180 t181 t182 t183) = some (r1, r2, r3) := by rw [if_neg (show ¬ (false = true) by decide)] at H; exact H
       clear H
       have H := H1
       clear H1
       have H' := am H
       clear H
       go_wp2_with (first | ((with_reducible refine gate_dst (N := 10) rfl ?_); refine box_event ?hg (N := 10) ?hd (cs := #[.int .i64 0, .int .i64 0]) (t := 24) ?hr ?_; (case hd => rfl); (case hg => rfl); (case hr => first | (go_simp; done) | (go_simp; rfl)); intro gb184 hg w36 hbox hb; have BK184 := am (hbox); have GW184 := am ((by rw [hg]; exact (below_size (Y3 HB GE177 GE178 GE179)) : w.heap.size ≤ gb184)); have GE184 := am ((by rw [hg]; exact (below_size (Y3 HB GE177 GE178 GE179)) : w.heap.size ≤ gb184)); have NB177_184 := am ((nl (o := b2 a0_0 a0_1 24) hg (Z BK177) : gb177 ≠ gb184)); have NB184_177 := am ((ng (o := b2 a0_0 a0_1 24) hg (Z BK177) : gb184 ≠ gb177)); have NB178_184 := am ((nl (o := b2 a1_0 a1_1 24) hg (Z BK178) : gb178 ≠ gb184)); have NB184_178 := am ((ng (o := b2 a1_0 a1_1 24) hg (Z BK178) : gb184 ≠ gb178)); have NB179_184 := am ((nl (o := b2 0 0 24) hg (Z BK179) : gb179 ≠ gb184)); have NB184_179 := am ((ng (o := b2 0 0 24) hg (Z BK179) : gb184 ≠ gb179)); replace BK177 := am (blk_below (g := gb177) (o := b2 a0_0 a0_1 24) (Z BK177) hb); replace BK178 := am (blk_below (g := gb178) (o := b2 a1_0 a1_1 24) (Z BK178) hb); replace BK179 := am (blk_below (g := gb179) (o := b2 0 0 24) (Z BK179) hb); replace HB := am (below_step (Y3 HB GE177 GE178 GE179) hb); clear hb hbox hg; have hnb37 := NB184_177.out; have hnc37 := NB177_184.out; have hnb38 := NB184_178.out; have hnc38 := NB178_184.out; have hnb39 := NB184_179.out; have hnc39 := NB179_184.out; have hcz40_0 : w36.cell? ⟨gb184, 0, none⟩ = some (.int .i64 0) := bc BK184 0; have hcz40_1 : w36.cell? ⟨gb184, 1, none⟩ = some (.int .i64 0) := bc BK184 1; have hfz40_0 := blk_frozen BK184.out 0; have hfz40_1 := blk_frozen BK184.out 1; (try have hxz0_0 : w36.cell? ⟨gb177, 0, none⟩ = some (.int .i64 a0_0) := bc BK177 0); (try have hxf0_0 := blk_frozen BK177.out 0); (try have hxz0_1 : w36.cell? ⟨gb177, 1, none⟩ = some (.int .i64 a0_1) := bc BK177 1); (try have hxf0_1 := blk_frozen BK177.out 1); (try have hxz1_0 : w36.cell? ⟨gb178, 0, none⟩ = some (.int .i64 a1_0) := bc BK178 0); (try have hxf1_0 := blk_frozen BK178.out 0); (try have hxz1_1 : w36.cell? ⟨gb178, 1, none⟩ = some (.int .i64 a1_1) := bc BK178 1); (try have hxf1_1 := blk_frozen BK178.out 1); (try have hxz2_0 : w36.cell? ⟨gb179, 0, none⟩ = some (.int .i64 0) := bc BK179 0); (try have hxf2_0 := blk_frozen BK179.out 0); (try have hxz2_1 : w36.cell? ⟨gb179, 1, none⟩ = some (.int .i64 0) := bc BK179 1); (try have hxf2_1 := blk_frozen BK179.out 1); (try have hxs0_1 : ∀ x_ : Value, (w36.setCell ⟨gb184, 0, none⟩ x_).cell? ⟨gb184, 1, none⟩ = some (.int .i64 0) := fun x_ => (World.cell?_setCell_other _ _ _ _ (by simp)).trans (bc BK184 1)); (try have hxs1_0 : ∀ x_ : Value, (w36.setCell ⟨gb184, 1, none⟩ x_).cell? ⟨gb184, 0, none⟩ = some (.int .i64 0) := fun x_ => (World.cell?_setCell_other _ _ _ _ (by simp)).trans (bc BK184 0))) | ((with_reducible refine gate_callee (f := 47) rfl ?_); refine goesL_ (some 21) rfl rfl Try.func47 (by kernel_rfl) rfl #[.agg #[.int .i64 t180, .int .i64 t181]] rfl mz ?_; (with_reducible refine (impl_Range_empty.calls t180 t181 false _ A13.out).mono ?_); rintro e w41 ⟨rfl, hb⟩; refine ⟨_, rfl, ?_⟩; replace BK177 := am (blk_below (g := gb177) (o := b2 a0_0 a0_1 24) (by (with_reducible repeat (first | refine blk_drewN ?_ _ | refine blk_drew ?_ | refine blk_alloc ?_ _)); refine blk_far ?_ NB177_184.out _; (with_reducible repeat (first | refine blk_drewN ?_ _ | refine blk_drew ?_ | refine blk_alloc ?_ _)); refine blk_far ?_ NB177_184.out _; (with_reducible repeat (first | refine blk_drewN ?_ _ | refine blk_drew ?_ | refine blk_alloc ?_ _)); exact BK177.out) hb); replace BK178 := am (blk_below (g := gb178) (o := b2 a1_0 a1_1 24) (by (with_reducible repeat (first | refine blk_drewN ?_ _ | refine blk_drew ?_ | refine blk_alloc ?_ _)); refine blk_far ?_ NB178_184.out _; (with_reducible repeat (first | refine blk_drewN ?_ _ | refine blk_drew ?_ | refine blk_alloc ?_ _)); refine blk_far ?_ NB178_184.out _; (with_reducible repeat (first | refine blk_drewN ?_ _ | refine blk_drew ?_ | refine blk_alloc ?_ _)); exact BK178.out) hb); replace BK179 := am (blk_below (g := gb179) (o := b2 0 0 24) (by (with_reducible repeat (first | refine blk_drewN ?_ _ | refine blk_drew ?_ | refine blk_alloc ?_ _)); refine blk_far ?_ NB179_184.out _; (with_reducible repeat (first | refine blk_drewN ?_ _ | refine blk_drew ?_ | refine blk_alloc ?_ _)); refine blk_far ?_ NB179_184.out _; (with_reducible repeat (first | refine blk_drewN ?_ _ | refine blk_drew ?_ | refine blk_alloc ?_ _)); exact BK179.out) hb); replace BK184 := am (blk_below (g := gb184) (o := b2 t180 t181 24) (by (with_reducible repeat (first | refine blk_drewN ?_ _ | refine blk_drew ?_ | refine blk_alloc ?_ _)); refine blk_put (cs := #[.int .i64 t180, .int .i64 0]) ?_ 1 _ rfl; (with_reducible repeat (first | refine blk_drewN ?_ _ | refine blk_drew ?_ | refine blk_alloc ?_ _)); refine blk_put (cs := #[.int .i64 0, .int .i64 0]) ?_ 0 _ rfl; (with_reducible repeat (first | refine blk_drewN ?_ _ | refine blk_drew ?_ | refine blk_alloc ?_ _)); exact BK184.out) hb); replace HB := am (below_step (Y4 HB GE177 GE178 GE179 GE184) hb); (try clear hb); (try clear hb2); (try clear hk); (try clear hi); have hnb42 := NB177_178.out; have hnc42 := NB178_177.out; have hnb43 := NB177_179.out; have hnc43 := NB179_177.out; have hcz44_0 : w41.cell? ⟨gb177, 0, none⟩ = some (.int .i64 a0_0) := bc BK177 0; have hcz44_1 : w41.cell? ⟨gb177, 1, none⟩ = some (.int .i64 a0_1) := bc BK177 1; have hfz44_0 := blk_frozen BK177.out 0; have hfz44_1 := blk_frozen BK177.out 1; have hcz45_0 : w41.cell? ⟨gb184, 0, none⟩ = some (.int .i64 t180) := bc BK184 0; have hcz45_1 : w41.cell? ⟨gb184, 1, none⟩ = some (.int .i64 t181) := bc BK184 1; have hfz45_0 := blk_frozen BK184.out 0; have hfz45_1 := blk_frozen BK184.out 1) | ((with_reducible refine gate_callee (f := 49) rfl ?_); refine goesL_ (some 25) rfl rfl Try.func49 (by kernel_rfl) rfl #[.int .i64 4, .agg #[.int .i64 a0_0, .int .i64 a0_1], .agg #[.int .i64 t180, .int .i64 t181]] rfl mz ?_; (with_reducible refine (impl_rangeCorners.calls k1 4 a0_0 a0_1 t180 t181 t186 t187 _ A21.out).mono ?_); rintro e w46 ⟨rfl, hb⟩; refine ⟨_, rfl, ?_⟩; replace BK177 := am (blk_below (g := gb177) (o := b2 a0_0 a0_1 24) (Z BK177) hb); replace BK178 := am (blk_below (g := gb178) (o := b2 a1_0 a1_1 24) (Z BK178) hb); replace BK179 := am (blk_below (g := gb179) (o := b2 0 0 24) (Z BK179) hb); replace BK184 := am (blk_below (g := gb184) (o := b2 t180 t181 24) (Z BK184) hb); replace HB := am (below_step (Y4 HB GE177 GE178 GE179 GE184) hb); (try clear hb); (try clear hb2); (try clear hk); (try clear hi)))
       go_roundg k1
       case measure => have := HK1.out; omega
       case rel => exact ⟨(t186), (t187), (true), (wrap64 (x17_1 + 1)), (by first | rfl | (simp; done) | (simp [*]; done)), (by first | rfl | (simp; done) | (simp [*]; done)), (by first | rfl | (simp; done) | (simp [*]; done)), (by first | rfl | (simp; done) | (simp [*]; done)), H', ⟨by have := HK1.out; omega⟩, ⟨Z BK177⟩, ⟨Z BK178⟩, ⟨Z BK179⟩, ⟨Y4 HB GE177 GE178 GE179 GE184⟩⟩
    ·rw [if_neg c12] at H
     have c12b0 : (x17_1 == 0) = false := beq_eq_false_iff_ne.mpr c12
     have c12b1 : (x17_1 != 0) = true := bne_iff_ne.mpr c12
     by_cases c47 : x17_1 = 1
     ·rw [if_pos c47] at H
      have hix47 : ∀ w', (Instr.index 96 (.agg #[.int .i64 t180, .int .i64 t181, .int .i64 t182, .int .i64 t183]) (.int .i64 x17_1)).run Try.prog w' = .ok (.agg #[.int .i64 t182, .int .i64 t183]) w' := by intro w'; rw [c47]; first | (go_simp; done) | (go_simp; rfl) | rfl
      have c47b0 : (x17_1 == 1) = true := beq_iff_eq.mpr c47
      have c47b1 : (x17_1 != 1) = false := bne_eq_false_iff_eq.mpr c47
      clear c47
      replace H := Option.bind_eq_some_iff.mp H
      obtain ⟨t189, A480, H⟩ := H
      replace H : (if t189 = true then (impl_rangeDiv.l0 k1 x6_1 x7_1 x8_1 (wrap64 (x17_1 + 1)) a0_0 a0_1 a1_0 a1_1 t180 t181 t182 t183) else ((impl_rangeCorners.f k1 4 a0_0 a0_1 t182 t183).bind fun bt190 => (if x8_1 = true then (impl_rangeDiv.l0 k1 (mn bt190.1 x6_1) (mx bt190.2 x7_1) true (wrap64 (x17_1 + 1)) a0_0 a0_1 a1_0 a1_1 t180 t181 t182 t183) else (impl_rangeDiv.l0 k1 bt190.1 bt190.2 true (wrap64 (x17_1 + 1)) a0_0 a0_1 a1_0 a1_1 t180 t181 t182 t183)))) = some (r1, r2, r3) := H
      have A48 := am A480
      clear A480
      by_cases c49 : t189 = true
      ·subst c49
       have H1 : (impl_rangeDiv.l0 k1 x6_1 x7_1 x8_1 (wrap64 (x17_1 + 1)) a0_0 a0_1 a1_0 a1_1 t180 t181 t182 t183) = some (r1, r2, r3) := by rw [if_pos rfl] at H; exact H
       clear H
       have H := H1
       clear H1
       have H' := am H
       clear H
       go_wp2_with (first | ((with_reducible refine gate_dst (N := 10) rfl ?_); refine box_event ?hg (N := 10) ?hd (cs := #[.int .i64 0, .int .i64 0]) (t := 24) ?hr ?_; (case hd => rfl); (case hg => rfl); (case hr => first | (go_simp; done) | (go_simp; rfl)); intro gb188 hg w50 hbox hb; have BK188 := am (hbox); have GW188 := am ((by rw [hg]; exact (below_size (Y3 HB GE177 GE178 GE179)) : w.heap.size ≤ gb188)); have GE188 := am ((by rw [hg]; exact (below_size (Y3 HB GE177 GE178 GE179)) : w.heap.size ≤ gb188)); have NB177_188 := am ((nl (o := b2 a0_0 a0_1 24) hg (Z BK177) : gb177 ≠ gb188)); have NB188_177 := am ((ng (o := b2 a0_0 a0_1 24) hg (Z BK177) : gb188 ≠ gb177)); have NB178_188 := am ((nl (o := b2 a1_0 a1_1 24) hg (Z BK178) : gb178 ≠ gb188)); have NB188_178 := am ((ng (o := b2 a1_0 a1_1 24) hg (Z BK178) : gb188 ≠ gb178)); have NB179_188 := am ((nl (o := b2 0 0 24) hg (Z BK179) : gb179 ≠ gb188)); have NB188_179 := am ((ng (o := b2 0 0 24) hg (Z BK179) : gb188 ≠ gb179)); replace BK177 := am (blk_below (g := gb177) (o := b2 a0_0 a0_1 24) (Z BK177) hb); replace BK178 := am (blk_below (g := gb178) (o := b2 a1_0 a1_1 24) (Z BK178) hb); replace BK179 := am (blk_below (g := gb179) (o := b2 0 0 24) (Z BK179) hb); replace HB := am (below_step (Y3 HB GE177 GE178 GE179) hb); clear hb hbox hg; have hnb51 := NB188_177.out; have hnc51 := NB177_188.out; have hnb52 := NB188_178.out; have hnc52 := NB178_188.out; have hnb53 := NB188_179.out; have hnc53 := NB179_188.out; have hcz54_0 : w50.cell? ⟨gb188, 0, none⟩ = some (.int .i64 0) := bc BK188 0; have hcz54_1 : w50.cell? ⟨gb188, 1, none⟩ = some (.int .i64 0) := bc BK188 1; have hfz54_0 := blk_frozen BK188.out 0; have hfz54_1 := blk_frozen BK188.out 1; (try have hxz0_0 : w50.cell? ⟨gb177, 0, none⟩ = some (.int .i64 a0_0) := bc BK177 0); (try have hxf0_0 := blk_frozen BK177.out 0); (try have hxz0_1 : w50.cell? ⟨gb177, 1, none⟩ = some (.int .i64 a0_1) := bc BK177 1); (try have hxf0_1 := blk_frozen BK177.out 1); (try have hxz1_0 : w50.cell? ⟨gb178, 0, none⟩ = some (.int .i64 a1_0) := bc BK178 0); (try have hxf1_0 := blk_frozen BK178.out 0); (try have hxz1_1 : w50.cell? ⟨gb178, 1, none⟩ = some (.int .i64 a1_1) := bc BK178 1); (try have hxf1_1 := blk_frozen BK178.out 1); (try have hxz2_0 : w50.cell? ⟨gb179, 0, none⟩ = some (.int .i64 0) := bc BK179 0); (try have hxf2_0 := blk_frozen BK179.out 0); (try have hxz2_1 : w50.cell? ⟨gb179, 1, none⟩ = some (.int .i64 0) := bc BK179 1); (try have hxf2_1 := blk_frozen BK179.out 1); (try have hxs0_1 : ∀ x_ : Value, (w50.setCell ⟨gb188, 0, none⟩ x_).cell? ⟨gb188, 1, none⟩ = some (.int .i64 0) := fun x_ => (World.cell?_setCell_other _ _ _ _ (by simp)).trans (bc BK188 1)); (try have hxs1_0 : ∀ x_ : Value, (w50.setCell ⟨gb188, 1, none⟩ x_).cell? ⟨gb188, 0, none⟩ = some (.int .i64 0) := fun x_ => (World.cell?_setCell_other _ _ _ _ (by simp)).trans (bc BK188 0))) | ((with_reducible refine gate_callee (f := 47) rfl ?_); refine goesL_ (some 21) rfl rfl Try.func47 (by kernel_rfl) rfl #[.agg #[.int .i64 t182, .int .i64 t183]] rfl mz ?_; (with_reducible refine (impl_Range_empty.calls t182 t183 true _ A48.out).mono ?_); rintro e w55 ⟨rfl, hb⟩; refine ⟨_, rfl, ?_⟩; replace BK177 := am (blk_below (g := gb177) (o := b2 a0_0 a0_1 24) (by (with_reducible repeat (first | refine blk_drewN ?_ _ | refine blk_drew ?_ | refine blk_alloc ?_ _)); refine blk_far ?_ NB177_188.out _; (with_reducible repeat (first | refine blk_drewN ?_ _ | refine blk_drew ?_ | refine blk_alloc ?_ _)); refine blk_far ?_ NB177_188.out _; (with_reducible repeat (first | refine blk_drewN ?_ _ | refine blk_drew ?_ | refine blk_alloc ?_ _)); exact BK177.out) hb); replace BK178 := am (blk_below (g := gb178) (o := b2 a1_0 a1_1 24) (by (with_reducible repeat (first | refine blk_drewN ?_ _ | refine blk_drew ?_ | refine blk_alloc ?_ _)); refine blk_far ?_ NB178_188.out _; (with_reducible repeat (first | refine blk_drewN ?_ _ | refine blk_drew ?_ | refine blk_alloc ?_ _)); refine blk_far ?_ NB178_188.out _; (with_reducible repeat (first | refine blk_drewN ?_ _ | refine blk_drew ?_ | refine blk_alloc ?_ _)); exact BK178.out) hb); replace BK179 := am (blk_below (g := gb179) (o := b2 0 0 24) (by (with_reducible repeat (first | refine blk_drewN ?_ _ | refine blk_drew ?_ | refine blk_alloc ?_ _)); refine blk_far ?_ NB179_188.out _; (with_reducible repeat (first | refine blk_drewN ?_ _ | refine blk_drew ?_ | refine blk_alloc ?_ _)); refine blk_far ?_ NB179_188.out _; (with_reducible repeat (first | refine blk_drewN ?_ _ | refine blk_drew ?_ | refine blk_alloc ?_ _)); exact BK179.out) hb); replace BK188 := am (blk_below (g := gb188) (o := b2 t182 t183 24) (by (with_reducible repeat (first | refine blk_drewN ?_ _ | refine blk_drew ?_ | refine blk_alloc ?_ _)); refine blk_put (cs := #[.int .i64 t182, .int .i64 0]) ?_ 1 _ rfl; (with_reducible repeat (first | refine blk_drewN ?_ _ | refine blk_drew ?_ | refine blk_alloc ?_ _)); refine blk_put (cs := #[.int .i64 0, .int .i64 0]) ?_ 0 _ rfl; (with_reducible repeat (first | refine blk_drewN ?_ _ | refine blk_drew ?_ | refine blk_alloc ?_ _)); exact BK188.out) hb); replace HB := am (below_step (Y4 HB GE177 GE178 GE179 GE188) hb); (try clear hb); (try clear hb2); (try clear hk); (try clear hi)))
       go_roundg k1
       case measure => have := HK1.out; omega
       case rel => exact ⟨(x6_1), (x7_1), (x8_1), (wrap64 (x17_1 + 1)), (by first | rfl | (simp; done) | (simp [*]; done)), (by first | rfl | (simp; done) | (simp [*]; done)), (by first | rfl | (simp; done) | (simp [*]; done)), (by first | rfl | (simp; done) | (simp [*]; done)), H', ⟨by have := HK1.out; omega⟩, ⟨Z BK177⟩, ⟨Z BK178⟩, ⟨Z BK179⟩, ⟨Y4 HB GE177 GE178 GE179 GE188⟩⟩
      ·replace c49 := Bool.eq_false_iff.mpr c49
       subst c49
       have H1 : ((impl_rangeCorners.f k1 4 a0_0 a0_1 t182 t183).bind fun bt190 => (if x8_1 = true then (impl_rangeDiv.l0 k1 (mn bt190.1 x6_1) (mx bt190.2 x7_1) true (wrap64 (x17_1 + 1)) a0_0 a0_1 a1_0 a1_1 t180 t181 t182 t183) else (impl_rangeDiv.l0 k1 bt190.1 bt190.2 true (wrap64 (x17_1 + 1)) a0_0 a0_1 a1_0 a1_1 t180 t181 t182 t183))) = some (r1, r2, r3) := by rw [if_neg (show ¬ (false = true) by decide)] at H; exact H
       clear H
       have H := H1
       clear H1
       replace H := Option.bind_eq_some_iff.mp H
       obtain ⟨⟨t190, t191⟩, A560, H⟩ := H
       replace H : (if x8_1 = true then (impl_rangeDiv.l0 k1 (mn t190 x6_1) (mx t191 x7_1) true (wrap64 (x17_1 + 1)) a0_0 a0_1 a1_0 a1_1 t180 t181 t182 t183) else (impl_rangeDiv.l0 k1 t190 t191 true (wrap64 (x17_1 + 1)) a0_0 a0_1 a1_0 a1_1 t180 t181 t182 t183)) = some (r1, r2, r3) := H
       have A56 := am A560
       clear A560
       by_cases c57 : x8_1 = true
       ·subst c57
        have H1 : (impl_rangeDiv.l0 k1 (mn t190 x6_1) (mx t191 x7_1) true (wrap64 (x17_1 + 1)) a0_0 a0_1 a1_0 a1_1 t180 t181 t182 t183) = some (r1, r2, r3) := by rw [if_pos rfl] at H; exact H
        clear H
        have H := H1
        clear H1
        obtain ⟨ji58, hji58⟩ : ∃ j_ : Int, (mn t190 x6_1) = j_ := ⟨_, rfl⟩
        replace H : (impl_rangeDiv.l0 k1 ji58 (mx t191 x7_1) true (wrap64 (x17_1 + 1)) a0_0 a0_1 a1_0 a1_1 t180 t181 t182 t183) = some (r1, r2, r3) := by first | (rw [hji58] at H; exact H) | (simp only [hji58] at H ⊢; exact H)
        (try rw [hji58] at A48)
        (try rw [hji58] at A56)
        have hji58_ : (if x6_1 < t190 then x6_1 else t190) = ji58 := hji58
        obtain ⟨ji59, hji59⟩ : ∃ j_ : Int, (mx t191 x7_1) = j_ := ⟨_, rfl⟩
        replace H : (impl_rangeDiv.l0 k1 ji58 ji59 true (wrap64 (x17_1 + 1)) a0_0 a0_1 a1_0 a1_1 t180 t181 t182 t183) = some (r1, r2, r3) := by first | (rw [hji59] at H; exact H) | (simp only [hji59] at H ⊢; exact H)
        (try rw [hji59] at A48)
        (try rw [hji59] at A56)
        have hji59_ : (if t191 < x7_1 then x7_1 else t191) = ji59 := hji59
        have H' := am H
        clear H
        go_wp2_with (first | ((with_reducible refine gate_dst (N := 10) rfl ?_); refine box_event ?hg (N := 10) ?hd (cs := #[.int .i64 0, .int .i64 0]) (t := 24) ?hr ?_; (case hd => rfl); (case hg => rfl); (case hr => first | (go_simp; done) | (go_simp; rfl)); intro gb188 hg w60 hbox hb; have BK188 := am (hbox); have GW188 := am ((by rw [hg]; exact (below_size (Y3 HB GE177 GE178 GE179)) : w.heap.size ≤ gb188)); have GE188 := am ((by rw [hg]; exact (below_size (Y3 HB GE177 GE178 GE179)) : w.heap.size ≤ gb188)); have NB177_188 := am ((nl (o := b2 a0_0 a0_1 24) hg (Z BK177) : gb177 ≠ gb188)); have NB188_177 := am ((ng (o := b2 a0_0 a0_1 24) hg (Z BK177) : gb188 ≠ gb177)); have NB178_188 := am ((nl (o := b2 a1_0 a1_1 24) hg (Z BK178) : gb178 ≠ gb188)); have NB188_178 := am ((ng (o := b2 a1_0 a1_1 24) hg (Z BK178) : gb188 ≠ gb178)); have NB179_188 := am ((nl (o := b2 0 0 24) hg (Z BK179) : gb179 ≠ gb188)); have NB188_179 := am ((ng (o := b2 0 0 24) hg (Z BK179) : gb188 ≠ gb179)); replace BK177 := am (blk_below (g := gb177) (o := b2 a0_0 a0_1 24) (Z BK177) hb); replace BK178 := am (blk_below (g := gb178) (o := b2 a1_0 a1_1 24) (Z BK178) hb); replace BK179 := am (blk_below (g := gb179) (o := b2 0 0 24) (Z BK179) hb); replace HB := am (below_step (Y3 HB GE177 GE178 GE179) hb); clear hb hbox hg; have hnb61 := NB188_177.out; have hnc61 := NB177_188.out; have hnb62 := NB188_178.out; have hnc62 := NB178_188.out; have hnb63 := NB188_179.out; have hnc63 := NB179_188.out; have hcz64_0 : w60.cell? ⟨gb188, 0, none⟩ = some (.int .i64 0) := bc BK188 0; have hcz64_1 : w60.cell? ⟨gb188, 1, none⟩ = some (.int .i64 0) := bc BK188 1; have hfz64_0 := blk_frozen BK188.out 0; have hfz64_1 := blk_frozen BK188.out 1; (try have hxz0_0 : w60.cell? ⟨gb177, 0, none⟩ = some (.int .i64 a0_0) := bc BK177 0); (try have hxf0_0 := blk_frozen BK177.out 0); (try have hxz0_1 : w60.cell? ⟨gb177, 1, none⟩ = some (.int .i64 a0_1) := bc BK177 1); (try have hxf0_1 := blk_frozen BK177.out 1); (try have hxz1_0 : w60.cell? ⟨gb178, 0, none⟩ = some (.int .i64 a1_0) := bc BK178 0); (try have hxf1_0 := blk_frozen BK178.out 0); (try have hxz1_1 : w60.cell? ⟨gb178, 1, none⟩ = some (.int .i64 a1_1) := bc BK178 1); (try have hxf1_1 := blk_frozen BK178.out 1); (try have hxz2_0 : w60.cell? ⟨gb179, 0, none⟩ = some (.int .i64 0) := bc BK179 0); (try have hxf2_0 := blk_frozen BK179.out 0); (try have hxz2_1 : w60.cell? ⟨gb179, 1, none⟩ = some (.int .i64 0) := bc BK179 1); (try have hxf2_1 := blk_frozen BK179.out 1); (try have hxs0_1 : ∀ x_ : Value, (w60.setCell ⟨gb188, 0, none⟩ x_).cell? ⟨gb188, 1, none⟩ = some (.int .i64 0) := fun x_ => (World.cell?_setCell_other _ _ _ _ (by simp)).trans (bc BK188 1)); (try have hxs1_0 : ∀ x_ : Value, (w60.setCell ⟨gb188, 1, none⟩ x_).cell? ⟨gb188, 0, none⟩ = some (.int .i64 0) := fun x_ => (World.cell?_setCell_other _ _ _ _ (by simp)).trans (bc BK188 0))) | ((with_reducible refine gate_callee (f := 47) rfl ?_); refine goesL_ (some 21) rfl rfl Try.func47 (by kernel_rfl) rfl #[.agg #[.int .i64 t182, .int .i64 t183]] rfl mz ?_; (with_reducible refine (impl_Range_empty.calls t182 t183 false _ A48.out).mono ?_); rintro e w65 ⟨rfl, hb⟩; refine ⟨_, rfl, ?_⟩; replace BK177 := am (blk_below (g := gb177) (o := b2 a0_0 a0_1 24) (by (with_reducible repeat (first | refine blk_drewN ?_ _ | refine blk_drew ?_ | refine blk_alloc ?_ _)); refine blk_far ?_ NB177_188.out _; (with_reducible repeat (first | refine blk_drewN ?_ _ | refine blk_drew ?_ | refine blk_alloc ?_ _)); refine blk_far ?_ NB177_188.out _; (with_reducible repeat (first | refine blk_drewN ?_ _ | refine blk_drew ?_ | refine blk_alloc ?_ _)); exact BK177.out) hb); replace BK178 := am (blk_below (g := gb178) (o := b2 a1_0 a1_1 24) (by (with_reducible repeat (first | refine blk_drewN ?_ _ | refine blk_drew ?_ | refine blk_alloc ?_ _)); refine blk_far ?_ NB178_188.out _; (with_reducible repeat (first | refine blk_drewN ?_ _ | refine blk_drew ?_ | refine blk_alloc ?_ _)); refine blk_far ?_ NB178_188.out _; (with_reducible repeat (first | refine blk_drewN ?_ _ | refine blk_drew ?_ | refine blk_alloc ?_ _)); exact BK178.out) hb); replace BK179 := am (blk_below (g := gb179) (o := b2 0 0 24) (by (with_reducible repeat (first | refine blk_drewN ?_ _ | refine blk_drew ?_ | refine blk_alloc ?_ _)); refine blk_far ?_ NB179_188.out _; (with_reducible repeat (first | refine blk_drewN ?_ _ | refine blk_drew ?_ | refine blk_alloc ?_ _)); refine blk_far ?_ NB179_188.out _; (with_reducible repeat (first | refine blk_drewN ?_ _ | refine blk_drew ?_ | refine blk_alloc ?_ _)); exact BK179.out) hb); replace BK188 := am (blk_below (g := gb188) (o := b2 t182 t183 24) (by (with_reducible repeat (first | refine blk_drewN ?_ _ | refine blk_drew ?_ | refine blk_alloc ?_ _)); refine blk_put (cs := #[.int .i64 t182, .int .i64 0]) ?_ 1 _ rfl; (with_reducible repeat (first | refine blk_drewN ?_ _ | refine blk_drew ?_ | refine blk_alloc ?_ _)); refine blk_put (cs := #[.int .i64 0, .int .i64 0]) ?_ 0 _ rfl; (with_reducible repeat (first | refine blk_drewN ?_ _ | refine blk_drew ?_ | refine blk_alloc ?_ _)); exact BK188.out) hb); replace HB := am (below_step (Y4 HB GE177 GE178 GE179 GE188) hb); (try clear hb); (try clear hb2); (try clear hk); (try clear hi); have hnb66 := NB177_178.out; have hnc66 := NB178_177.out; have hnb67 := NB177_179.out; have hnc67 := NB179_177.out; have hcz68_0 : w65.cell? ⟨gb177, 0, none⟩ = some (.int .i64 a0_0) := bc BK177 0; have hcz68_1 : w65.cell? ⟨gb177, 1, none⟩ = some (.int .i64 a0_1) := bc BK177 1; have hfz68_0 := blk_frozen BK177.out 0; have hfz68_1 := blk_frozen BK177.out 1; have hcz69_0 : w65.cell? ⟨gb188, 0, none⟩ = some (.int .i64 t182) := bc BK188 0; have hcz69_1 : w65.cell? ⟨gb188, 1, none⟩ = some (.int .i64 t183) := bc BK188 1; have hfz69_0 := blk_frozen BK188.out 0; have hfz69_1 := blk_frozen BK188.out 1) | ((with_reducible refine gate_callee (f := 49) rfl ?_); refine goesL_ (some 25) rfl rfl Try.func49 (by kernel_rfl) rfl #[.int .i64 4, .agg #[.int .i64 a0_0, .int .i64 a0_1], .agg #[.int .i64 t182, .int .i64 t183]] rfl mz ?_; (with_reducible refine (impl_rangeCorners.calls k1 4 a0_0 a0_1 t182 t183 t190 t191 _ A56.out).mono ?_); rintro e w70 ⟨rfl, hb⟩; refine ⟨_, rfl, ?_⟩; replace BK177 := am (blk_below (g := gb177) (o := b2 a0_0 a0_1 24) (Z BK177) hb); replace BK178 := am (blk_below (g := gb178) (o := b2 a1_0 a1_1 24) (Z BK178) hb); replace BK179 := am (blk_below (g := gb179) (o := b2 0 0 24) (Z BK179) hb); replace BK188 := am (blk_below (g := gb188) (o := b2 t182 t183 24) (Z BK188) hb); replace HB := am (below_step (Y4 HB GE177 GE178 GE179 GE188) hb); (try clear hb); (try clear hb2); (try clear hk); (try clear hi)))
        go_roundg k1
        case measure => have := HK1.out; omega
        case rel => exact ⟨(ji58), (ji59), (true), (wrap64 (x17_1 + 1)), (by first | rfl | (simp; done) | (simp only [← hji58] <;> (first | rfl | simp)) | (simp [*]; done)), (by first | rfl | (simp; done) | (simp only [← hji59] <;> (first | rfl | simp)) | (simp [*]; done)), (by first | rfl | (simp; done) | (simp [*]; done)), (by first | rfl | (simp; done) | (simp [*]; done)), H', ⟨by have := HK1.out; omega⟩, ⟨Z BK177⟩, ⟨Z BK178⟩, ⟨Z BK179⟩, ⟨Y4 HB GE177 GE178 GE179 GE188⟩⟩
       ·replace c57 := Bool.eq_false_iff.mpr c57
        subst c57
        have H1 : (impl_rangeDiv.l0 k1 t190 t191 true (wrap64 (x17_1 + 1)) a0_0 a0_1 a1_0 a1_1 t180 t181 t182 t183) = some (r1, r2, r3) := by rw [if_neg (show ¬ (false = true) by decide)] at H; exact H
        clear H
        have H := H1
        clear H1
        have H' := am H
        clear H
        go_wp2_with (first | ((with_reducible refine gate_dst (N := 10) rfl ?_); refine box_event ?hg (N := 10) ?hd (cs := #[.int .i64 0, .int .i64 0]) (t := 24) ?hr ?_; (case hd => rfl); (case hg => rfl); (case hr => first | (go_simp; done) | (go_simp; rfl)); intro gb188 hg w71 hbox hb; have BK188 := am (hbox); have GW188 := am ((by rw [hg]; exact (below_size (Y3 HB GE177 GE178 GE179)) : w.heap.size ≤ gb188)); have GE188 := am ((by rw [hg]; exact (below_size (Y3 HB GE177 GE178 GE179)) : w.heap.size ≤ gb188)); have NB177_188 := am ((nl (o := b2 a0_0 a0_1 24) hg (Z BK177) : gb177 ≠ gb188)); have NB188_177 := am ((ng (o := b2 a0_0 a0_1 24) hg (Z BK177) : gb188 ≠ gb177)); have NB178_188 := am ((nl (o := b2 a1_0 a1_1 24) hg (Z BK178) : gb178 ≠ gb188)); have NB188_178 := am ((ng (o := b2 a1_0 a1_1 24) hg (Z BK178) : gb188 ≠ gb178)); have NB179_188 := am ((nl (o := b2 0 0 24) hg (Z BK179) : gb179 ≠ gb188)); have NB188_179 := am ((ng (o := b2 0 0 24) hg (Z BK179) : gb188 ≠ gb179)); replace BK177 := am (blk_below (g := gb177) (o := b2 a0_0 a0_1 24) (Z BK177) hb); replace BK178 := am (blk_below (g := gb178) (o := b2 a1_0 a1_1 24) (Z BK178) hb); replace BK179 := am (blk_below (g := gb179) (o := b2 0 0 24) (Z BK179) hb); replace HB := am (below_step (Y3 HB GE177 GE178 GE179) hb); clear hb hbox hg; have hnb72 := NB188_177.out; have hnc72 := NB177_188.out; have hnb73 := NB188_178.out; have hnc73 := NB178_188.out; have hnb74 := NB188_179.out; have hnc74 := NB179_188.out; have hcz75_0 : w71.cell? ⟨gb188, 0, none⟩ = some (.int .i64 0) := bc BK188 0; have hcz75_1 : w71.cell? ⟨gb188, 1, none⟩ = some (.int .i64 0) := bc BK188 1; have hfz75_0 := blk_frozen BK188.out 0; have hfz75_1 := blk_frozen BK188.out 1; (try have hxz0_0 : w71.cell? ⟨gb177, 0, none⟩ = some (.int .i64 a0_0) := bc BK177 0); (try have hxf0_0 := blk_frozen BK177.out 0); (try have hxz0_1 : w71.cell? ⟨gb177, 1, none⟩ = some (.int .i64 a0_1) := bc BK177 1); (try have hxf0_1 := blk_frozen BK177.out 1); (try have hxz1_0 : w71.cell? ⟨gb178, 0, none⟩ = some (.int .i64 a1_0) := bc BK178 0); (try have hxf1_0 := blk_frozen BK178.out 0); (try have hxz1_1 : w71.cell? ⟨gb178, 1, none⟩ = some (.int .i64 a1_1) := bc BK178 1); (try have hxf1_1 := blk_frozen BK178.out 1); (try have hxz2_0 : w71.cell? ⟨gb179, 0, none⟩ = some (.int .i64 0) := bc BK179 0); (try have hxf2_0 := blk_frozen BK179.out 0); (try have hxz2_1 : w71.cell? ⟨gb179, 1, none⟩ = some (.int .i64 0) := bc BK179 1); (try have hxf2_1 := blk_frozen BK179.out 1); (try have hxs0_1 : ∀ x_ : Value, (w71.setCell ⟨gb188, 0, none⟩ x_).cell? ⟨gb188, 1, none⟩ = some (.int .i64 0) := fun x_ => (World.cell?_setCell_other _ _ _ _ (by simp)).trans (bc BK188 1)); (try have hxs1_0 : ∀ x_ : Value, (w71.setCell ⟨gb188, 1, none⟩ x_).cell? ⟨gb188, 0, none⟩ = some (.int .i64 0) := fun x_ => (World.cell?_setCell_other _ _ _ _ (by simp)).trans (bc BK188 0))) | ((with_reducible refine gate_callee (f := 47) rfl ?_); refine goesL_ (some 21) rfl rfl Try.func47 (by kernel_rfl) rfl #[.agg #[.int .i64 t182, .int .i64 t183]] rfl mz ?_; (with_reducible refine (impl_Range_empty.calls t182 t183 false _ A48.out).mono ?_); rintro e w76 ⟨rfl, hb⟩; refine ⟨_, rfl, ?_⟩; replace BK177 := am (blk_below (g := gb177) (o := b2 a0_0 a0_1 24) (by (with_reducible repeat (first | refine blk_drewN ?_ _ | refine blk_drew ?_ | refine blk_alloc ?_ _)); refine blk_far ?_ NB177_188.out _; (with_reducible repeat (first | refine blk_drewN ?_ _ | refine blk_drew ?_ | refine blk_alloc ?_ _)); refine blk_far ?_ NB177_188.out _; (with_reducible repeat (first | refine blk_drewN ?_ _ | refine blk_drew ?_ | refine blk_alloc ?_ _)); exact BK177.out) hb); replace BK178 := am (blk_below (g := gb178) (o := b2 a1_0 a1_1 24) (by (with_reducible repeat (first | refine blk_drewN ?_ _ | refine blk_drew ?_ | refine blk_alloc ?_ _)); refine blk_far ?_ NB178_188.out _; (with_reducible repeat (first | refine blk_drewN ?_ _ | refine blk_drew ?_ | refine blk_alloc ?_ _)); refine blk_far ?_ NB178_188.out _; (with_reducible repeat (first | refine blk_drewN ?_ _ | refine blk_drew ?_ | refine blk_alloc ?_ _)); exact BK178.out) hb); replace BK179 := am (blk_below (g := gb179) (o := b2 0 0 24) (by (with_reducible repeat (first | refine blk_drewN ?_ _ | refine blk_drew ?_ | refine blk_alloc ?_ _)); refine blk_far ?_ NB179_188.out _; (with_reducible repeat (first | refine blk_drewN ?_ _ | refine blk_drew ?_ | refine blk_alloc ?_ _)); refine blk_far ?_ NB179_188.out _; (with_reducible repeat (first | refine blk_drewN ?_ _ | refine blk_drew ?_ | refine blk_alloc ?_ _)); exact BK179.out) hb); replace BK188 := am (blk_below (g := gb188) (o := b2 t182 t183 24) (by (with_reducible repeat (first | refine blk_drewN ?_ _ | refine blk_drew ?_ | refine blk_alloc ?_ _)); refine blk_put (cs := #[.int .i64 t182, .int .i64 0]) ?_ 1 _ rfl; (with_reducible repeat (first | refine blk_drewN ?_ _ | refine blk_drew ?_ | refine blk_alloc ?_ _)); refine blk_put (cs := #[.int .i64 0, .int .i64 0]) ?_ 0 _ rfl; (with_reducible repeat (first | refine blk_drewN ?_ _ | refine blk_drew ?_ | refine blk_alloc ?_ _)); exact BK188.out) hb); replace HB := am (below_step (Y4 HB GE177 GE178 GE179 GE188) hb); (try clear hb); (try clear hb2); (try clear hk); (try clear hi); have hnb77 := NB177_178.out; have hnc77 := NB178_177.out; have hnb78 := NB177_179.out; have hnc78 := NB179_177.out; have hcz79_0 : w76.cell? ⟨gb177, 0, none⟩ = some (.int .i64 a0_0) := bc BK177 0; have hcz79_1 : w76.cell? ⟨gb177, 1, none⟩ = some (.int .i64 a0_1) := bc BK177 1; have hfz79_0 := blk_frozen BK177.out 0; have hfz79_1 := blk_frozen BK177.out 1; have hcz80_0 : w76.cell? ⟨gb188, 0, none⟩ = some (.int .i64 t182) := bc BK188 0; have hcz80_1 : w76.cell? ⟨gb188, 1, none⟩ = some (.int .i64 t183) := bc BK188 1; have hfz80_0 := blk_frozen BK188.out 0; have hfz80_1 := blk_frozen BK188.out 1) | ((with_reducible refine gate_callee (f := 49) rfl ?_); refine goesL_ (some 25) rfl rfl Try.func49 (by kernel_rfl) rfl #[.int .i64 4, .agg #[.int .i64 a0_0, .int .i64 a0_1], .agg #[.int .i64 t182, .int .i64 t183]] rfl mz ?_; (with_reducible refine (impl_rangeCorners.calls k1 4 a0_0 a0_1 t182 t183 t190 t191 _ A56.out).mono ?_); rintro e w81 ⟨rfl, hb⟩; refine ⟨_, rfl, ?_⟩; replace BK177 := am (blk_below (g := gb177) (o := b2 a0_0 a0_1 24) (Z BK177) hb); replace BK178 := am (blk_below (g := gb178) (o := b2 a1_0 a1_1 24) (Z BK178) hb); replace BK179 := am (blk_below (g := gb179) (o := b2 0 0 24) (Z BK179) hb); replace BK188 := am (blk_below (g := gb188) (o := b2 t182 t183 24) (Z BK188) hb); replace HB := am (below_step (Y4 HB GE177 GE178 GE179 GE188) hb); (try clear hb); (try clear hb2); (try clear hk); (try clear hi)))
        go_roundg k1
        case measure => have := HK1.out; omega
        case rel => exact ⟨(t190), (t191), (true), (wrap64 (x17_1 + 1)), (by first | rfl | (simp; done) | (simp [*]; done)), (by first | rfl | (simp; done) | (simp [*]; done)), (by first | rfl | (simp; done) | (simp [*]; done)), (by first | rfl | (simp; done) | (simp [*]; done)), H', ⟨by have := HK1.out; omega⟩, ⟨Z BK177⟩, ⟨Z BK178⟩, ⟨Z BK179⟩, ⟨Y4 HB GE177 GE178 GE179 GE188⟩⟩
     ·rw [if_neg c47] at H
      exact absurd H (by simp)
   ·rw [if_neg c11] at H
    have c11b0 : decide (x17_1 < 2) = false := decide_eq_false c11
    clear c11
    replace H := Option.bind_eq_some_iff.mp H
    obtain ⟨⟨t192, t193⟩, A820, H⟩ := H
    replace H : (if x8_1 = true then ((impl_rangeFrom.f x6_1 x7_1).bind fun bt195 => (impl_rangeDiv.j1 k1 a0_0 a0_1 a1_0 a1_1 bt195.1 bt195.2)) else (impl_rangeDiv.j1 k1 a0_0 a0_1 a1_0 a1_1 t192 t193)) = some (r1, r2, r3) := H
    have A82 := am A820
    clear A820
    have HC83 := am H
    clear H
    go_upto_if 39 with (first | ((with_reducible refine gate_callee (f := 48) rfl ?_); refine goesL_ (some 38) rfl rfl Try.func48 (by kernel_rfl) rfl #[] rfl mz ?_; (with_reducible refine (impl_rangeNone.calls  t192 t193 _ A82.out).mono ?_); rintro e w84 ⟨rfl, hb⟩; refine ⟨_, rfl, ?_⟩; replace BK177 := am (blk_below (g := gb177) (o := b2 a0_0 a0_1 24) (Z BK177) hb); replace BK178 := am (blk_below (g := gb178) (o := b2 a1_0 a1_1 24) (Z BK178) hb); replace BK179 := am (blk_below (g := gb179) (o := b2 0 0 24) (Z BK179) hb); replace HB := am (below_step (Y3 HB GE177 GE178 GE179) hb); (try clear hb); (try clear hb2); (try clear hk); (try clear hi)) | ((with_reducible refine gate_dst (N := 13) rfl ?_); refine box_event ?hg (N := 13) ?hd (cs := #[.int .i64 0, .int .i64 0]) (t := 24) ?hr ?_; (case hd => rfl); (case hg => rfl); (case hr => first | (go_simp; done) | (go_simp; rfl)); intro gb194 hg w85 hbox hb; have BK194 := am (hbox); have GW194 := am ((by rw [hg]; exact (below_size (Y3 HB GE177 GE178 GE179)) : w.heap.size ≤ gb194)); have GE194 := am ((by rw [hg]; exact (below_size (Y3 HB GE177 GE178 GE179)) : w.heap.size ≤ gb194)); have NB177_194 := am ((nl (o := b2 a0_0 a0_1 24) hg (Z BK177) : gb177 ≠ gb194)); have NB194_177 := am ((ng (o := b2 a0_0 a0_1 24) hg (Z BK177) : gb194 ≠ gb177)); have NB178_194 := am ((nl (o := b2 a1_0 a1_1 24) hg (Z BK178) : gb178 ≠ gb194)); have NB194_178 := am ((ng (o := b2 a1_0 a1_1 24) hg (Z BK178) : gb194 ≠ gb178)); have NB179_194 := am ((nl (o := b2 0 0 24) hg (Z BK179) : gb179 ≠ gb194)); have NB194_179 := am ((ng (o := b2 0 0 24) hg (Z BK179) : gb194 ≠ gb179)); replace BK177 := am (blk_below (g := gb177) (o := b2 a0_0 a0_1 24) (Z BK177) hb); replace BK178 := am (blk_below (g := gb178) (o := b2 a1_0 a1_1 24) (Z BK178) hb); replace BK179 := am (blk_below (g := gb179) (o := b2 0 0 24) (Z BK179) hb); replace HB := am (below_step (Y3 HB GE177 GE178 GE179) hb); clear hb hbox hg; have hnb86 := NB194_177.out; have hnc86 := NB177_194.out; have hnb87 := NB194_178.out; have hnc87 := NB178_194.out; have hnb88 := NB194_179.out; have hnc88 := NB179_194.out; have hcz89_0 : w85.cell? ⟨gb194, 0, none⟩ = some (.int .i64 0) := bc BK194 0; have hcz89_1 : w85.cell? ⟨gb194, 1, none⟩ = some (.int .i64 0) := bc BK194 1; have hfz89_0 := blk_frozen BK194.out 0; have hfz89_1 := blk_frozen BK194.out 1))
    (try simp only [Act.put, List.setIfInBounds_toArray, List.set_cons_zero, List.set_cons_succ])
    go_cut [] (fun wc => ∃ (kq : Nat) (x195000_82 : Int) (x195001_82 : Int), Aside0 (impl_rangeDiv.j1 kq a0_0 a0_1 a1_0 a1_1 x195000_82 x195001_82 = some (r1, r2, r3)) ∧ Aside0 (kq ≤ k1) ∧ Aside0 (wc.heap[gb177]? = some (.cells #[.int .i64 a0_0, .int .i64 a0_1] 24 (0, 0))) ∧ Aside0 (wc.heap[gb178]? = some (.cells #[.int .i64 a1_0, .int .i64 a1_1] 24 (0, 0))) ∧ Aside0 (wc.heap[gb179]? = some (.cells #[.int .i64 0, .int .i64 0] 24 (0, 0))) ∧ Aside0 (wc.heap[gb194]? = some (.cells #[.int .i64 x195000_82, .int .i64 x195001_82] 24 (0, 0))) ∧ Aside0 (Below w.heap.size w wc))
    case first =>
     have H := HC83.out
     clear HC83
     by_cases c90 : x8_1 = true
     ·subst c90
      have H1 : ((impl_rangeFrom.f x6_1 x7_1).bind fun bt195 => (impl_rangeDiv.j1 k1 a0_0 a0_1 a1_0 a1_1 bt195.1 bt195.2)) = some (r1, r2, r3) := by rw [if_pos rfl] at H; exact H
      clear H
      have H := H1
      clear H1
      replace H := Option.bind_eq_some_iff.mp H
      obtain ⟨⟨t195, t196⟩, A910, H⟩ := H
      replace H : (impl_rangeDiv.j1 k1 a0_0 a0_1 a1_0 a1_1 t195 t196) = some (r1, r2, r3) := H
      have A91 := am A910
      clear A910
      have H' := am H
      clear H
      go_wp2_with (first | ((with_reducible refine gate_callee (f := 50) rfl ?_); refine goesL_ (some 42) rfl rfl Try.func50 (by kernel_rfl) rfl #[.int .i64 x6_1, .int .i64 x7_1] rfl mz ?_; (with_reducible refine (impl_rangeFrom.calls x6_1 x7_1 t195 t196 _ A91.out).mono ?_); rintro e w92 ⟨rfl, hb⟩; refine ⟨_, rfl, ?_⟩; replace BK177 := am (blk_below (g := gb177) (o := b2 a0_0 a0_1 24) (by (with_reducible repeat (first | refine blk_drewN ?_ _ | refine blk_drew ?_ | refine blk_alloc ?_ _)); refine blk_far ?_ NB177_194.out _; (with_reducible repeat (first | refine blk_drewN ?_ _ | refine blk_drew ?_ | refine blk_alloc ?_ _)); refine blk_far ?_ NB177_194.out _; (with_reducible repeat (first | refine blk_drewN ?_ _ | refine blk_drew ?_ | refine blk_alloc ?_ _)); exact BK177.out) hb); replace BK178 := am (blk_below (g := gb178) (o := b2 a1_0 a1_1 24) (by (with_reducible repeat (first | refine blk_drewN ?_ _ | refine blk_drew ?_ | refine blk_alloc ?_ _)); refine blk_far ?_ NB178_194.out _; (with_reducible repeat (first | refine blk_drewN ?_ _ | refine blk_drew ?_ | refine blk_alloc ?_ _)); refine blk_far ?_ NB178_194.out _; (with_reducible repeat (first | refine blk_drewN ?_ _ | refine blk_drew ?_ | refine blk_alloc ?_ _)); exact BK178.out) hb); replace BK179 := am (blk_below (g := gb179) (o := b2 0 0 24) (by (with_reducible repeat (first | refine blk_drewN ?_ _ | refine blk_drew ?_ | refine blk_alloc ?_ _)); refine blk_far ?_ NB179_194.out _; (with_reducible repeat (first | refine blk_drewN ?_ _ | refine blk_drew ?_ | refine blk_alloc ?_ _)); refine blk_far ?_ NB179_194.out _; (with_reducible repeat (first | refine blk_drewN ?_ _ | refine blk_drew ?_ | refine blk_alloc ?_ _)); exact BK179.out) hb); replace BK194 := am (blk_below (g := gb194) (o := b2 t192 t193 24) (by (with_reducible repeat (first | refine blk_drewN ?_ _ | refine blk_drew ?_ | refine blk_alloc ?_ _)); refine blk_put (cs := #[.int .i64 t192, .int .i64 0]) ?_ 1 _ rfl; (with_reducible repeat (first | refine blk_drewN ?_ _ | refine blk_drew ?_ | refine blk_alloc ?_ _)); refine blk_put (cs := #[.int .i64 0, .int .i64 0]) ?_ 0 _ rfl; (with_reducible repeat (first | refine blk_drewN ?_ _ | refine blk_drew ?_ | refine blk_alloc ?_ _)); exact BK194.out) hb); replace HB := am (below_step (Y4 HB GE177 GE178 GE179 GE194) hb); (try clear hb); (try clear hb2); (try clear hk); (try clear hi); have hnb93 := NB194_177.out; have hnc93 := NB177_194.out; have hnb94 := NB194_178.out; have hnc94 := NB178_194.out; have hnb95 := NB194_179.out; have hnc95 := NB179_194.out; have hcz96_0 : w92.cell? ⟨gb194, 0, none⟩ = some (.int .i64 t192) := bc BK194 0; have hcz96_1 : w92.cell? ⟨gb194, 1, none⟩ = some (.int .i64 t193) := bc BK194 1; have hfz96_0 := blk_frozen BK194.out 0; have hfz96_1 := blk_frozen BK194.out 1))
      go_meet
      case rel => exact ⟨_, (t195), (t196), H', ⟨by have := HK1.out; first | omega | exact Nat.le_refl _⟩, ⟨by (with_reducible repeat (first | refine blk_drewN ?_ _ | refine blk_drew ?_ | refine blk_alloc ?_ _)); refine blk_far ?_ NB177_194.out _; (with_reducible repeat (first | refine blk_drewN ?_ _ | refine blk_drew ?_ | refine blk_alloc ?_ _)); refine blk_far ?_ NB177_194.out _; (with_reducible repeat (first | refine blk_drewN ?_ _ | refine blk_drew ?_ | refine blk_alloc ?_ _)); exact BK177.out⟩, ⟨by (with_reducible repeat (first | refine blk_drewN ?_ _ | refine blk_drew ?_ | refine blk_alloc ?_ _)); refine blk_far ?_ NB178_194.out _; (with_reducible repeat (first | refine blk_drewN ?_ _ | refine blk_drew ?_ | refine blk_alloc ?_ _)); refine blk_far ?_ NB178_194.out _; (with_reducible repeat (first | refine blk_drewN ?_ _ | refine blk_drew ?_ | refine blk_alloc ?_ _)); exact BK178.out⟩, ⟨by (with_reducible repeat (first | refine blk_drewN ?_ _ | refine blk_drew ?_ | refine blk_alloc ?_ _)); refine blk_far ?_ NB179_194.out _; (with_reducible repeat (first | refine blk_drewN ?_ _ | refine blk_drew ?_ | refine blk_alloc ?_ _)); refine blk_far ?_ NB179_194.out _; (with_reducible repeat (first | refine blk_drewN ?_ _ | refine blk_drew ?_ | refine blk_alloc ?_ _)); exact BK179.out⟩, ⟨by (with_reducible repeat (first | refine blk_drewN ?_ _ | refine blk_drew ?_ | refine blk_alloc ?_ _)); refine blk_put (cs := #[.int .i64 t195, .int .i64 t193]) ?_ 1 _ rfl; (with_reducible repeat (first | refine blk_drewN ?_ _ | refine blk_drew ?_ | refine blk_alloc ?_ _)); refine blk_put (cs := #[.int .i64 t192, .int .i64 t193]) ?_ 0 _ rfl; (with_reducible repeat (first | refine blk_drewN ?_ _ | refine blk_drew ?_ | refine blk_alloc ?_ _)); exact BK194.out⟩, ⟨Y4 HB GE177 GE178 GE179 GE194⟩⟩
     ·replace c90 := Bool.eq_false_iff.mpr c90
      subst c90
      have H1 : (impl_rangeDiv.j1 k1 a0_0 a0_1 a1_0 a1_1 t192 t193) = some (r1, r2, r3) := by rw [if_neg (show ¬ (false = true) by decide)] at H; exact H
      clear H
      have H := H1
      clear H1
      have H' := am H
      clear H
      go_wp2
      go_meet
      case rel => exact ⟨_, (t192), (t193), H', ⟨by have := HK1.out; first | omega | exact Nat.le_refl _⟩, ⟨by (with_reducible repeat (first | refine blk_drewN ?_ _ | refine blk_drew ?_ | refine blk_alloc ?_ _)); refine blk_far ?_ NB177_194.out _; (with_reducible repeat (first | refine blk_drewN ?_ _ | refine blk_drew ?_ | refine blk_alloc ?_ _)); refine blk_far ?_ NB177_194.out _; (with_reducible repeat (first | refine blk_drewN ?_ _ | refine blk_drew ?_ | refine blk_alloc ?_ _)); exact BK177.out⟩, ⟨by (with_reducible repeat (first | refine blk_drewN ?_ _ | refine blk_drew ?_ | refine blk_alloc ?_ _)); refine blk_far ?_ NB178_194.out _; (with_reducible repeat (first | refine blk_drewN ?_ _ | refine blk_drew ?_ | refine blk_alloc ?_ _)); refine blk_far ?_ NB178_194.out _; (with_reducible repeat (first | refine blk_drewN ?_ _ | refine blk_drew ?_ | refine blk_alloc ?_ _)); exact BK178.out⟩, ⟨by (with_reducible repeat (first | refine blk_drewN ?_ _ | refine blk_drew ?_ | refine blk_alloc ?_ _)); refine blk_far ?_ NB179_194.out _; (with_reducible repeat (first | refine blk_drewN ?_ _ | refine blk_drew ?_ | refine blk_alloc ?_ _)); refine blk_far ?_ NB179_194.out _; (with_reducible repeat (first | refine blk_drewN ?_ _ | refine blk_drew ?_ | refine blk_alloc ?_ _)); exact BK179.out⟩, ⟨by (with_reducible repeat (first | refine blk_drewN ?_ _ | refine blk_drew ?_ | refine blk_alloc ?_ _)); refine blk_put (cs := #[.int .i64 t192, .int .i64 0]) ?_ 1 _ rfl; (with_reducible repeat (first | refine blk_drewN ?_ _ | refine blk_drew ?_ | refine blk_alloc ?_ _)); refine blk_put (cs := #[.int .i64 0, .int .i64 0]) ?_ 0 _ rfl; (with_reducible repeat (first | refine blk_drewN ?_ _ | refine blk_drew ?_ | refine blk_alloc ?_ _)); exact BK194.out⟩, ⟨Y4 HB GE177 GE178 GE179 GE194⟩⟩
    case rest =>
     clear HC83
     try clear c1
     try clear c2
     try clear p2
     try clear c3
     try clear c4
     try clear c5
     try clear c6
     try clear p6
     try clear c7
     try clear c8
     try clear c9
     try clear c11
     try clear c11b0
     try clear c12
     try clear c12b0
     try clear c12b1
     try clear c14
     try clear c16
     try clear c17
     try clear c18
     try clear c22
     try clear c26
     try clear c27
     try clear c28
     try clear c31
     try clear c32
     try clear c37
     try clear c38
     try clear c39
     try clear c42
     try clear c43
     try clear c47
     try clear c47b0
     try clear c47b1
     try clear c48
     try clear c49
     try clear c50
     try clear c51
     try clear c52
     try clear c53
     try clear c57
     try clear c61
     try clear c62
     try clear c63
     try clear p64
     try clear c66
     try clear c67
     try clear c72
     try clear c73
     try clear c74
     try clear c77
     try clear c78
     try clear c86
     try clear c87
     try clear c88
     try clear c90
     try clear c93
     try clear c94
     try clear c95
     try clear hcz19_0
     try clear hcz19_1
     try clear hcz29_0
     try clear hcz29_1
     try clear hcz33_0
     try clear hcz33_1
     try clear hcz34_0
     try clear hcz34_1
     try clear hcz40_0
     try clear hcz40_1
     try clear hcz44_0
     try clear hcz44_1
     try clear hcz45_0
     try clear hcz45_1
     try clear hcz54_0
     try clear hcz54_1
     try clear hcz64_0
     try clear hcz64_1
     try clear hcz68_0
     try clear hcz68_1
     try clear hcz69_0
     try clear hcz69_1
     try clear hcz75_0
     try clear hcz75_1
     try clear hcz79_0
     try clear hcz79_1
     try clear hcz80_0
     try clear hcz80_1
     try clear hcz89_0
     try clear hcz89_1
     try clear hcz96_0
     try clear hcz96_1
     try clear hcz9_0
     try clear hcz9_1
     try clear hfz19_0
     try clear hfz19_1
     try clear hfz29_0
     try clear hfz29_1
     try clear hfz33_0
     try clear hfz33_1
     try clear hfz34_0
     try clear hfz34_1
     try clear hfz40_0
     try clear hfz40_1
     try clear hfz44_0
     try clear hfz44_1
     try clear hfz45_0
     try clear hfz45_1
     try clear hfz54_0
     try clear hfz54_1
     try clear hfz64_0
     try clear hfz64_1
     try clear hfz68_0
     try clear hfz68_1
     try clear hfz69_0
     try clear hfz69_1
     try clear hfz75_0
     try clear hfz75_1
     try clear hfz79_0
     try clear hfz79_1
     try clear hfz80_0
     try clear hfz80_1
     try clear hfz89_0
     try clear hfz89_1
     try clear hfz96_0
     try clear hfz96_1
     try clear hfz9_0
     try clear hfz9_1
     try clear p2
     obtain ⟨kq, x195000_82, x195001_82, HA, HJ82, BK177, BK178, BK179, BK194, HB⟩ := hcut
     cases kq with
     | zero => exact absurd HA.out (by simp [impl_rangeDiv.j1])
     | succ kj82 =>
      have H := HA.out
      clear HA
      simp only [impl_rangeDiv.j1] at H
      have HC97 := am H
      clear H
      go_upto_region 15 with (fail)
      go_cut [48] (fun v48 wc => ∃ (kq : Nat) (x48_96 : Bool), v48 = .bool x48_96 ∧ Aside0 (impl_rangeDiv.j2 kq ([] : List Int) x48_96 a1_0 a1_1 x195000_82 x195001_82 = some (r1, r2, r3)) ∧ Aside0 (kq ≤ kj82) ∧ Aside0 (Kd.R (Kd.int .i64) 3 wc w.heap.size (fun _ => True) (.slice none 0 0) ([] : List Int)) ∧ Aside0 (wc.heap[gb177]? = some (.cells #[.int .i64 a0_0, .int .i64 a0_1] 24 (0, 0))) ∧ Aside0 (wc.heap[gb178]? = some (.cells #[.int .i64 a1_0, .int .i64 a1_1] 24 (0, 0))) ∧ Aside0 (wc.heap[gb179]? = some (.cells #[.int .i64 0, .int .i64 0] 24 (0, 0))) ∧ Aside0 (wc.heap[gb194]? = some (.cells #[.int .i64 x195000_82, .int .i64 x195001_82] 24 (0, 0))) ∧ Aside0 (Below w.heap.size w wc))
      case first =>
       have H := HC97.out
       clear HC97
       replace H := Option.bind_eq_some_iff.mp H
       obtain ⟨t197, A980, H⟩ := H
       replace H : (if t197 = true then ((impl_RangeHas.f a1_0 a1_1 (-1)).bind fun t198 => (impl_rangeDiv.j2 kj82 ([] : List Int) t198 a1_0 a1_1 x195000_82 x195001_82)) else (impl_rangeDiv.j2 kj82 ([] : List Int) false a1_0 a1_1 x195000_82 x195001_82)) = some (r1, r2, r3) := H
       have A98 := am A980
       clear A980
       by_cases c99 : t197 = true
       ·subst c99
        have H1 : ((impl_RangeHas.f a1_0 a1_1 (-1)).bind fun t198 => (impl_rangeDiv.j2 kj82 ([] : List Int) t198 a1_0 a1_1 x195000_82 x195001_82)) = some (r1, r2, r3) := by rw [if_pos rfl] at H; exact H
        clear H
        have H := H1
        clear H1
        replace H := Option.bind_eq_some_iff.mp H
        obtain ⟨t198, A1000, H⟩ := H
        replace H : (impl_rangeDiv.j2 kj82 ([] : List Int) t198 a1_0 a1_1 x195000_82 x195001_82) = some (r1, r2, r3) := H
        have A100 := am A1000
        clear A1000
        have H' := am H
        clear H
        have hnb101 := NB177_178.out
        have hnc101 := NB178_177.out
        have hnb102 := NB177_179.out
        have hnc102 := NB179_177.out
        have hnb103 := NB177_194.out
        have hnc103 := NB194_177.out
        have hcz104_0 : wc.cell? ⟨gb177, 0, none⟩ = some (.int .i64 a0_0) := bc BK177 0
        have hcz104_1 : wc.cell? ⟨gb177, 1, none⟩ = some (.int .i64 a0_1) := bc BK177 1
        have hfz104_0 := blk_frozen BK177.out 0
        have hfz104_1 := blk_frozen BK177.out 1
        go_wp2_with (first | ((with_reducible refine gate_callee (f := 95) rfl ?_); refine goesL_ (some 44) rfl rfl Try.func95 (by kernel_rfl) rfl #[.agg #[.int .i64 a0_0, .int .i64 a0_1], .int .i64 (-2147483648)] rfl mz ?_; (with_reducible refine (impl_RangeHas.calls a0_0 a0_1 (-2147483648) true _ A98.out).mono ?_); rintro e w105 ⟨rfl, hb⟩; refine ⟨_, rfl, ?_⟩; replace BK177 := am (blk_below (g := gb177) (o := b2 a0_0 a0_1 24) (Z BK177) hb); replace BK178 := am (blk_below (g := gb178) (o := b2 a1_0 a1_1 24) (Z BK178) hb); replace BK179 := am (blk_below (g := gb179) (o := b2 0 0 24) (Z BK179) hb); replace BK194 := am (blk_below (g := gb194) (o := b2 x195000_82 x195001_82 24) (Z BK194) hb); replace HB := am (below_step (Y4 HB GE177 GE178 GE179 GE194) hb); (try clear hb); (try clear hb2); (try clear hk); (try clear hi); have hnb106 := NB178_179.out; have hnc106 := NB179_178.out; have hnb107 := NB178_194.out; have hnc107 := NB194_178.out; have hcz108_0 : w105.cell? ⟨gb178, 0, none⟩ = some (.int .i64 a1_0) := bc BK178 0; have hcz108_1 : w105.cell? ⟨gb178, 1, none⟩ = some (.int .i64 a1_1) := bc BK178 1; have hfz108_0 := blk_frozen BK178.out 0; have hfz108_1 := blk_frozen BK178.out 1) | (go_at_call 95; (with_reducible refine (impl_RangeHas.calls a1_0 a1_1 (-1) t198 _ A100.out).mono ?_); rintro e w109 ⟨rfl, hb⟩; replace BK177 := am (blk_below (g := gb177) (o := b2 a0_0 a0_1 24) (Z BK177) hb); replace BK178 := am (blk_below (g := gb178) (o := b2 a1_0 a1_1 24) (Z BK178) hb); replace BK179 := am (blk_below (g := gb179) (o := b2 0 0 24) (Z BK179) hb); replace BK194 := am (blk_below (g := gb194) (o := b2 x195000_82 x195001_82 24) (Z BK194) hb); replace HB := am (below_step (Y4 HB GE177 GE178 GE179 GE194) hb); (try clear hb); (try clear hb2); (try clear hk); (try clear hi)))
        go_meet
        case rel => exact ⟨_, (t198), (by first | rfl | (simp; done) | (simp [*]; done)), H', ⟨by have := HK1.out; have := HJ82.out; first | omega | exact Nat.le_refl _⟩, ⟨by first | exact Kd.R_nil _ _ _ _ _ | exact Kd.N_nil _ _ _ _ _ | exact Kd.V_nil _ _ _ _ _ | exact Kd.Q_nil _ _ _ _ _ | exact Kd.S_nil _ _ _ _ _⟩, ⟨Z BK177⟩, ⟨Z BK178⟩, ⟨Z BK179⟩, ⟨Z BK194⟩, ⟨Y4 HB GE177 GE178 GE179 GE194⟩⟩
       ·replace c99 := Bool.eq_false_iff.mpr c99
        subst c99
        have H1 : (impl_rangeDiv.j2 kj82 ([] : List Int) false a1_0 a1_1 x195000_82 x195001_82) = some (r1, r2, r3) := by rw [if_neg (show ¬ (false = true) by decide)] at H; exact H
        clear H
        have H := H1
        clear H1
        have H' := am H
        clear H
        have hnb110 := NB177_178.out
        have hnc110 := NB178_177.out
        have hnb111 := NB177_179.out
        have hnc111 := NB179_177.out
        have hnb112 := NB177_194.out
        have hnc112 := NB194_177.out
        have hcz113_0 : wc.cell? ⟨gb177, 0, none⟩ = some (.int .i64 a0_0) := bc BK177 0
        have hcz113_1 : wc.cell? ⟨gb177, 1, none⟩ = some (.int .i64 a0_1) := bc BK177 1
        have hfz113_0 := blk_frozen BK177.out 0
        have hfz113_1 := blk_frozen BK177.out 1
        go_wp2_with (first | ((with_reducible refine gate_callee (f := 95) rfl ?_); refine goesL_ (some 44) rfl rfl Try.func95 (by kernel_rfl) rfl #[.agg #[.int .i64 a0_0, .int .i64 a0_1], .int .i64 (-2147483648)] rfl mz ?_; (with_reducible refine (impl_RangeHas.calls a0_0 a0_1 (-2147483648) false _ A98.out).mono ?_); rintro e w114 ⟨rfl, hb⟩; refine ⟨_, rfl, ?_⟩; replace BK177 := am (blk_below (g := gb177) (o := b2 a0_0 a0_1 24) (Z BK177) hb); replace BK178 := am (blk_below (g := gb178) (o := b2 a1_0 a1_1 24) (Z BK178) hb); replace BK179 := am (blk_below (g := gb179) (o := b2 0 0 24) (Z BK179) hb); replace BK194 := am (blk_below (g := gb194) (o := b2 x195000_82 x195001_82 24) (Z BK194) hb); replace HB := am (below_step (Y4 HB GE177 GE178 GE179 GE194) hb); (try clear hb); (try clear hb2); (try clear hk); (try clear hi)))
        go_meet
        case rel => exact ⟨_, (false), (by first | rfl | (simp; done) | (simp [*]; done)), H', ⟨by have := HK1.out; have := HJ82.out; first | omega | exact Nat.le_refl _⟩, ⟨by first | exact Kd.R_nil _ _ _ _ _ | exact Kd.N_nil _ _ _ _ _ | exact Kd.V_nil _ _ _ _ _ | exact Kd.Q_nil _ _ _ _ _ | exact Kd.S_nil _ _ _ _ _⟩, ⟨Z BK177⟩, ⟨Z BK178⟩, ⟨Z BK179⟩, ⟨Z BK194⟩, ⟨Y4 HB GE177 GE178 GE179 GE194⟩⟩
      case rest =>
       clear HC97
       try clear c1
       try clear c2
       try clear p2
       try clear c3
       try clear c4
       try clear c5
       try clear c6
       try clear p6
       try clear c7
       try clear c8
       try clear c9
       try clear c10
       try clear c11
       try clear c11b0
       try clear c12
       try clear c12b0
       try clear c12b1
       try clear c14
       try clear c16
       try clear c17
       try clear c18
       try clear c22
       try clear c26
       try clear c27
       try clear c28
       try clear c31
       try clear c32
       try clear c37
       try clear c38
       try clear c39
       try clear c42
       try clear c43
       try clear c47
       try clear c47b0
       try clear c47b1
       try clear c48
       try clear c49
       try clear c50
       try clear c51
       try clear c52
       try clear c53
       try clear c57
       try clear c61
       try clear c62
       try clear c63
       try clear p64
       try clear c66
       try clear c67
       try clear c72
       try clear c73
       try clear c74
       try clear c77
       try clear c78
       try clear c86
       try clear c87
       try clear c88
       try clear c90
       try clear c93
       try clear c94
       try clear c95
       try clear c99
       try clear c101
       try clear c102
       try clear c103
       try clear c106
       try clear c107
       try clear c110
       try clear c111
       try clear c112
       try clear hcz104_0
       try clear hcz104_1
       try clear hcz108_0
       try clear hcz108_1
       try clear hcz113_0
       try clear hcz113_1
       try clear hcz19_0
       try clear hcz19_1
       try clear hcz29_0
       try clear hcz29_1
       try clear hcz33_0
       try clear hcz33_1
       try clear hcz34_0
       try clear hcz34_1
       try clear hcz40_0
       try clear hcz40_1
       try clear hcz44_0
       try clear hcz44_1
       try clear hcz45_0
       try clear hcz45_1
       try clear hcz54_0
       try clear hcz54_1
       try clear hcz64_0
       try clear hcz64_1
       try clear hcz68_0
       try clear hcz68_1
       try clear hcz69_0
       try clear hcz69_1
       try clear hcz75_0
       try clear hcz75_1
       try clear hcz79_0
       try clear hcz79_1
       try clear hcz80_0
       try clear hcz80_1
       try clear hcz89_0
       try clear hcz89_1
       try clear hcz96_0
       try clear hcz96_1
       try clear hcz9_0
       try clear hcz9_1
       try clear hfz104_0
       try clear hfz104_1
       try clear hfz108_0
       try clear hfz108_1
       try clear hfz113_0
       try clear hfz113_1
       try clear hfz19_0
       try clear hfz19_1
       try clear hfz29_0
       try clear hfz29_1
       try clear hfz33_0
       try clear hfz33_1
       try clear hfz34_0
       try clear hfz34_1
       try clear hfz40_0
       try clear hfz40_1
       try clear hfz44_0
       try clear hfz44_1
       try clear hfz45_0
       try clear hfz45_1
       try clear hfz54_0
       try clear hfz54_1
       try clear hfz64_0
       try clear hfz64_1
       try clear hfz68_0
       try clear hfz68_1
       try clear hfz69_0
       try clear hfz69_1
       try clear hfz75_0
       try clear hfz75_1
       try clear hfz79_0
       try clear hfz79_1
       try clear hfz80_0
       try clear hfz80_1
       try clear hfz89_0
       try clear hfz89_1
       try clear hfz96_0
       try clear hfz96_1
       try clear hfz9_0
       try clear hfz9_1
       try clear p2
       try clear p6
       try clear p64
       obtain ⟨kq, x48_96, rfl, HA, HJ96, HO_14, BK177, BK178, BK179, BK194, HB⟩ := hcut
       cases kq with
       | zero => exact absurd HA.out (by simp [impl_rangeDiv.j2])
       | succ kj96 =>
        have H := HA.out
        clear HA
        simp only [impl_rangeDiv.j2] at H
        by_cases c115 : x48_96 = true
        ·subst c115
         have H1 : (if ([] : List Int).length < 17592186044416 then ((some (([] : List Int) ++ [1] : List Int)).bind fun y199 => ((impl_RangeHas.f a1_0 a1_1 0).bind fun t202 => (if t202 = true then (if y199.length < 17592186044416 then (some (x195000_82, x195001_82, (y199 ++ [2]))) else (none)) else (some (x195000_82, x195001_82, y199))))) else (none)) = some (r1, r2, r3) := by rw [if_pos rfl] at H; exact H
         clear H
         have H := H1
         clear H1
         by_cases c116 : ([] : List Int).length < 17592186044416
         ·rw [if_pos c116] at H
          have LMc116 := am c116
          clear c116
          obtain ⟨y199, hy199⟩ : ∃ y_ : List Int, y_ = (([] : List Int) ++ [1]) := ⟨_, rfl⟩
          replace H : ((impl_RangeHas.f a1_0 a1_1 0).bind fun t202 => (if t202 = true then (if y199.length < 17592186044416 then (some (x195000_82, x195001_82, (y199 ++ [2]))) else (none)) else (some (x195000_82, x195001_82, y199)))) = some (r1, r2, r3) := by first | (rw [hy199]; with_reducible exact H) | (have H2_ := (Option.bind_some _ _).symm.trans H; rw [hy199]; with_reducible exact H2_) | (have H2_ := (Option.bind_some _ _).symm.trans H; with_reducible exact H2_) | with_reducible exact H | (rw [hy199]; exact H) | exact H
          have Ny199 := am hy199
          clear hy199
          replace H := Option.bind_eq_some_iff.mp H
          obtain ⟨t202, A1170, H⟩ := H
          replace H : (if t202 = true then (if y199.length < 17592186044416 then (some (x195000_82, x195001_82, (y199 ++ [2]))) else (none)) else (some (x195000_82, x195001_82, y199))) = some (r1, r2, r3) := H
          have A117 := am A1170
          clear A1170
          by_cases c118 : t202 = true
          ·subst c118
           have H1 : (if y199.length < 17592186044416 then (some (x195000_82, x195001_82, (y199 ++ [2]))) else (none)) = some (r1, r2, r3) := by rw [if_pos rfl] at H; exact H
           clear H
           have H := H1
           clear H1
           by_cases c119 : y199.length < 17592186044416
           ·rw [if_pos c119] at H
            have LMc119 := am c119
            clear c119
            obtain ⟨y203, hy203⟩ : ∃ y_ : List Int, y_ = (y199 ++ [2]) := ⟨_, rfl⟩
            replace H : (some (x195000_82, x195001_82, y203)) = some (r1, r2, r3) := by first | (rw [hy203]; with_reducible exact H) | (have H2_ := (Option.bind_some _ _).symm.trans H; rw [hy203]; with_reducible exact H2_) | (have H2_ := (Option.bind_some _ _).symm.trans H; with_reducible exact H2_) | with_reducible exact H | (rw [hy203]; exact H) | exact H
            have Ny203 := am hy203
            clear hy203
            simp only [Option.some.injEq, Prod.mk.injEq] at H
            obtain ⟨rfl, rfl, rfl⟩ := H
            go_wp2_with (first | ((with_reducible refine gate_builtin (b := .append) (xs := #[.tmp 49, .tmp 50]) rfl ?_); at_builtin; refine Kd.R_append (Kd.int .i64) (w0 := w) w.heap.size rfl (.tmp 49) (.tmp 50) 25 3 (.int .i64 0) 8 rfl Try.underlying25 info3 rfl (by decide) (by omega) (.slice none 0 0) ([] : List Int) 1 [.int .i64 1] (fun _ => True) (fun _ => False) rfl rfl ?aP (fun _ hk => hk.elim) ?aF ?aO ?aB ?aS ?aL ?_; (case aP => exact rfl); (case aB => exact (Y4 HB GE177 GE178 GE179 GE194)); (case aF => exact (fun _ _ => trivial)); (case aO => exact (by (with_reducible repeat (first | apply Kd.R_alloc | apply Kd.R_drewN | apply Kd.R_drew)); exact HO_14.out)); (case aS => exact (below_size (Y4 HB GE177 GE178 GE179 GE194))); (case aL => have := LMc116.out; omega); intro v200 w120 ho hb hg hat; rw [← Ny199.out] at ho; have HO201 := am (ho); replace BK177 := am (blk_grown (g := gb177) (o := b2 a0_0 a0_1 24) (Z BK177) hg (Kd.R_ne HO_14.out BK177.out (by decide))); replace BK178 := am (blk_grown (g := gb178) (o := b2 a1_0 a1_1 24) (Z BK178) hg (Kd.R_ne HO_14.out BK178.out (by decide))); replace BK179 := am (blk_grown (g := gb179) (o := b2 0 0 24) (Z BK179) hg (Kd.R_ne HO_14.out BK179.out (by decide))); replace BK194 := am (blk_grown (g := gb194) (o := b2 x195000_82 x195001_82 24) (Z BK194) hg (Kd.R_ne HO_14.out BK194.out (by decide))); replace HB := am (hb); clear HO_14; clear ho hb hg hat; have hnb121 := NB178_177.out; have hnc121 := NB177_178.out; have hnb122 := NB178_179.out; have hnc122 := NB179_178.out; have hnb123 := NB178_194.out; have hnc123 := NB194_178.out; have hcz124_0 : w120.cell? ⟨gb178, 0, none⟩ = some (.int .i64 a1_0) := bc BK178 0; have hcz124_1 : w120.cell? ⟨gb178, 1, none⟩ = some (.int .i64 a1_1) := bc BK178 1; have hfz124_0 := blk_frozen BK178.out 0; have hfz124_1 := blk_frozen BK178.out 1) | ((with_reducible refine gate_callee (f := 95) rfl ?_); refine goesL_ (some 53) rfl rfl Try.func95 (by kernel_rfl) rfl #[.agg #[.int .i64 a1_0, .int .i64 a1_1], .int .i64 0] rfl mz ?_; (with_reducible refine (impl_RangeHas.calls a1_0 a1_1 0 true _ A117.out).mono ?_); rintro e w125 ⟨rfl, hb⟩; refine ⟨_, rfl, ?_⟩; replace HO201 := am (Kd.R_below (by (with_reducible repeat (first | apply Kd.R_alloc | apply Kd.R_drewN | apply Kd.R_drew)); exact HO201.out) hb); replace BK177 := am (blk_below (g := gb177) (o := b2 a0_0 a0_1 24) (Z BK177) hb); replace BK178 := am (blk_below (g := gb178) (o := b2 a1_0 a1_1 24) (Z BK178) hb); replace BK179 := am (blk_below (g := gb179) (o := b2 0 0 24) (Z BK179) hb); replace BK194 := am (blk_below (g := gb194) (o := b2 x195000_82 x195001_82 24) (Z BK194) hb); replace HB := am (below_step (Y4 HB GE177 GE178 GE179 GE194) hb); (try clear hb); (try clear hb2); (try clear hk); (try clear hi)) | ((with_reducible refine gate_builtin (b := .append) (xs := #[.tmp 54, .tmp 55]) rfl ?_); at_builtin; refine Kd.R_append (Kd.int .i64) (w0 := w) w.heap.size rfl (.tmp 54) (.tmp 55) 25 3 (.int .i64 0) 8 rfl Try.underlying25 info3 rfl (by decide) (by omega) v200 y199 2 [.int .i64 2] (fun _ => True) (fun _ => False) rfl rfl ?aP (fun _ hk => hk.elim) ?aF ?aO ?aB ?aS ?aL ?_; (case aP => exact rfl); (case aB => exact (Y4 HB GE177 GE178 GE179 GE194)); (case aF => exact (fun _ _ => trivial)); (case aO => exact (by (with_reducible repeat (first | apply Kd.R_alloc | apply Kd.R_drewN | apply Kd.R_drew)); exact HO201.out)); (case aS => exact (below_size (Y4 HB GE177 GE178 GE179 GE194))); (case aL => have := LMc119.out; omega); intro v204 w126 ho hb hg hat; rw [← Ny203.out] at ho; have HO205 := am (ho); replace BK177 := am (blk_grown (g := gb177) (o := b2 a0_0 a0_1 24) (Z BK177) hg (Kd.R_ne HO201.out BK177.out (by decide))); replace BK178 := am (blk_grown (g := gb178) (o := b2 a1_0 a1_1 24) (Z BK178) hg (Kd.R_ne HO201.out BK178.out (by decide))); replace BK179 := am (blk_grown (g := gb179) (o := b2 0 0 24) (Z BK179) hg (Kd.R_ne HO201.out BK179.out (by decide))); replace BK194 := am (blk_grown (g := gb194) (o := b2 x195000_82 x195001_82 24) (Z BK194) hg (Kd.R_ne HO201.out BK194.out (by decide))); replace HB := am (hb); clear HO201; clear ho hb hg hat; have hnb127 := NB194_177.out; have hnc127 := NB177_194.out; have hnb128 := NB194_179.out; have hnc128 := NB179_194.out; have hcz129_0 : w126.cell? ⟨gb194, 0, none⟩ = some (.int .i64 x195000_82) := bc BK194 0; have hcz129_1 : w126.cell? ⟨gb194, 1, none⟩ = some (.int .i64 x195001_82) := bc BK194 1; have hfz129_0 := blk_frozen BK194.out 0; have hfz129_1 := blk_frozen BK194.out 1; have hnb130 := NB179_177.out; have hnc130 := NB177_179.out; have hcz131_0 : w126.cell? ⟨gb179, 0, none⟩ = some (.int .i64 0) := bc BK179 0; have hcz131_1 : w126.cell? ⟨gb179, 1, none⟩ = some (.int .i64 0) := bc BK179 1; have hfz131_0 := blk_frozen BK179.out 0; have hfz131_1 := blk_frozen BK179.out 1))
            refine bodyPost_ret (results_ct rfl _ _ gb179 24 #[.int .i64 x195000_82, .int .i64 x195001_82] (0, 0) _ rfl (by (with_reducible repeat (first | refine blk_drewN ?_ _ | refine blk_drew ?_ | refine blk_alloc ?_ _)); refine blk_put (cs := #[.int .i64 x195000_82, .int .i64 0]) ?_ 1 _ rfl; (with_reducible repeat (first | refine blk_drewN ?_ _ | refine blk_drew ?_ | refine blk_alloc ?_ _)); refine blk_put (cs := #[.int .i64 0, .int .i64 0]) ?_ 0 _ rfl; (with_reducible repeat (first | refine blk_drewN ?_ _ | refine blk_drew ?_ | refine blk_alloc ?_ _)); exact BK179.out) Try.underlying24 rfl (by kernel_rfl)) rfl ?_
            exact ⟨_, by first | rfl | (simp [errW_none, errW_some] <;> rfl) | (simp [*, errW_none, errW_some] <;> rfl), by (with_reducible repeat (first | apply Kd.R_alloc | apply Kd.R_drewN | apply Kd.R_drew)); exact Kd.R_mono (Kd.R_far (p := ⟨gb179, 1, none⟩) (Kd.R_far (p := ⟨gb179, 0, none⟩) (Kd.R_types HO205.out BK179.out (by decide)) (fun _ hk => hk.2) (.int .i64 x195000_82)) (fun _ hk => hk.2) (.int .i64 x195001_82)) (fun _ hk => trivial), Y4 HB GE177 GE178 GE179 GE194⟩
           ·rw [if_neg c119] at H
            exact absurd H (by simp)
          ·replace c118 := Bool.eq_false_iff.mpr c118
           subst c118
           have H1 : (some (x195000_82, x195001_82, y199)) = some (r1, r2, r3) := by rw [if_neg (show ¬ (false = true) by decide)] at H; exact H
           clear H
           have H := H1
           clear H1
           simp only [Option.some.injEq, Prod.mk.injEq] at H
           obtain ⟨rfl, rfl, rfl⟩ := H
           go_wp2_with (first | ((with_reducible refine gate_builtin (b := .append) (xs := #[.tmp 49, .tmp 50]) rfl ?_); at_builtin; refine Kd.R_append (Kd.int .i64) (w0 := w) w.heap.size rfl (.tmp 49) (.tmp 50) 25 3 (.int .i64 0) 8 rfl Try.underlying25 info3 rfl (by decide) (by omega) (.slice none 0 0) ([] : List Int) 1 [.int .i64 1] (fun _ => True) (fun _ => False) rfl rfl ?aP (fun _ hk => hk.elim) ?aF ?aO ?aB ?aS ?aL ?_; (case aP => exact rfl); (case aB => exact (Y4 HB GE177 GE178 GE179 GE194)); (case aF => exact (fun _ _ => trivial)); (case aO => exact (by (with_reducible repeat (first | apply Kd.R_alloc | apply Kd.R_drewN | apply Kd.R_drew)); exact HO_14.out)); (case aS => exact (below_size (Y4 HB GE177 GE178 GE179 GE194))); (case aL => have := LMc116.out; omega); intro v200 w132 ho hb hg hat; rw [← Ny199.out] at ho; have HO201 := am (ho); replace BK177 := am (blk_grown (g := gb177) (o := b2 a0_0 a0_1 24) (Z BK177) hg (Kd.R_ne HO_14.out BK177.out (by decide))); replace BK178 := am (blk_grown (g := gb178) (o := b2 a1_0 a1_1 24) (Z BK178) hg (Kd.R_ne HO_14.out BK178.out (by decide))); replace BK179 := am (blk_grown (g := gb179) (o := b2 0 0 24) (Z BK179) hg (Kd.R_ne HO_14.out BK179.out (by decide))); replace BK194 := am (blk_grown (g := gb194) (o := b2 x195000_82 x195001_82 24) (Z BK194) hg (Kd.R_ne HO_14.out BK194.out (by decide))); replace HB := am (hb); clear HO_14; clear ho hb hg hat; have hnb133 := NB178_177.out; have hnc133 := NB177_178.out; have hnb134 := NB178_179.out; have hnc134 := NB179_178.out; have hnb135 := NB178_194.out; have hnc135 := NB194_178.out; have hcz136_0 : w132.cell? ⟨gb178, 0, none⟩ = some (.int .i64 a1_0) := bc BK178 0; have hcz136_1 : w132.cell? ⟨gb178, 1, none⟩ = some (.int .i64 a1_1) := bc BK178 1; have hfz136_0 := blk_frozen BK178.out 0; have hfz136_1 := blk_frozen BK178.out 1) | ((with_reducible refine gate_callee (f := 95) rfl ?_); refine goesL_ (some 53) rfl rfl Try.func95 (by kernel_rfl) rfl #[.agg #[.int .i64 a1_0, .int .i64 a1_1], .int .i64 0] rfl mz ?_; (with_reducible refine (impl_RangeHas.calls a1_0 a1_1 0 false _ A117.out).mono ?_); rintro e w137 ⟨rfl, hb⟩; refine ⟨_, rfl, ?_⟩; replace HO201 := am (Kd.R_below (by (with_reducible repeat (first | apply Kd.R_alloc | apply Kd.R_drewN | apply Kd.R_drew)); exact HO201.out) hb); replace BK177 := am (blk_below (g := gb177) (o := b2 a0_0 a0_1 24) (Z BK177) hb); replace BK178 := am (blk_below (g := gb178) (o := b2 a1_0 a1_1 24) (Z BK178) hb); replace BK179 := am (blk_below (g := gb179) (o := b2 0 0 24) (Z BK179) hb); replace BK194 := am (blk_below (g := gb194) (o := b2 x195000_82 x195001_82 24) (Z BK194) hb); replace HB := am (below_step (Y4 HB GE177 GE178 GE179 GE194) hb); (try clear hb); (try clear hb2); (try clear hk); (try clear hi); have hnb138 := NB194_177.out; have hnc138 := NB177_194.out; have hnb139 := NB194_179.out; have hnc139 := NB179_194.out; have hcz140_0 : w137.cell? ⟨gb194, 0, none⟩ = some (.int .i64 x195000_82) := bc BK194 0; have hcz140_1 : w137.cell? ⟨gb194, 1, none⟩ = some (.int .i64 x195001_82) := bc BK194 1; have hfz140_0 := blk_frozen BK194.out 0; have hfz140_1 := blk_frozen BK194.out 1; have hnb141 := NB179_177.out; have hnc141 := NB177_179.out; have hcz142_0 : w137.cell? ⟨gb179, 0, none⟩ = some (.int .i64 0) := bc BK179 0; have hcz142_1 : w137.cell? ⟨gb179, 1, none⟩ = some (.int .i64 0) := bc BK179 1; have hfz142_0 := blk_frozen BK179.out 0; have hfz142_1 := blk_frozen BK179.out 1))
           refine bodyPost_ret (results_ct rfl _ _ gb179 24 #[.int .i64 x195000_82, .int .i64 x195001_82] (0, 0) _ rfl (by (with_reducible repeat (first | refine blk_drewN ?_ _ | refine blk_drew ?_ | refine blk_alloc ?_ _)); refine blk_put (cs := #[.int .i64 x195000_82, .int .i64 0]) ?_ 1 _ rfl; (with_reducible repeat (first | refine blk_drewN ?_ _ | refine blk_drew ?_ | refine blk_alloc ?_ _)); refine blk_put (cs := #[.int .i64 0, .int .i64 0]) ?_ 0 _ rfl; (with_reducible repeat (first | refine blk_drewN ?_ _ | refine blk_drew ?_ | refine blk_alloc ?_ _)); exact BK179.out) Try.underlying24 rfl (by kernel_rfl)) rfl ?_
           exact ⟨_, by first | rfl | (simp [errW_none, errW_some] <;> rfl) | (simp [*, errW_none, errW_some] <;> rfl), by (with_reducible repeat (first | apply Kd.R_alloc | apply Kd.R_drewN | apply Kd.R_drew)); exact Kd.R_mono (Kd.R_far (p := ⟨gb179, 1, none⟩) (Kd.R_far (p := ⟨gb179, 0, none⟩) (Kd.R_types HO201.out BK179.out (by decide)) (fun _ hk => hk.2) (.int .i64 x195000_82)) (fun _ hk => hk.2) (.int .i64 x195001_82)) (fun _ hk => trivial), Y4 HB GE177 GE178 GE179 GE194⟩
         ·rw [if_neg c116] at H
          exact absurd H (by simp)
        ·replace c115 := Bool.eq_false_iff.mpr c115
         subst c115
         have H1 : ((impl_RangeHas.f a1_0 a1_1 0).bind fun t206 => (if t206 = true then (if ([] : List Int).length < 17592186044416 then (some (x195000_82, x195001_82, (([] : List Int) ++ [2]))) else (none)) else (some (x195000_82, x195001_82, ([] : List Int))))) = some (r1, r2, r3) := by rw [if_neg (show ¬ (false = true) by decide)] at H; exact H
         clear H
         have H := H1
         clear H1
         replace H := Option.bind_eq_some_iff.mp H
         obtain ⟨t206, A1430, H⟩ := H
         replace H : (if t206 = true then (if ([] : List Int).length < 17592186044416 then (some (x195000_82, x195001_82, (([] : List Int) ++ [2]))) else (none)) else (some (x195000_82, x195001_82, ([] : List Int)))) = some (r1, r2, r3) := H
         have A143 := am A1430
         clear A1430
         by_cases c144 : t206 = true
         ·subst c144
          have H1 : (if ([] : List Int).length < 17592186044416 then (some (x195000_82, x195001_82, (([] : List Int) ++ [2]))) else (none)) = some (r1, r2, r3) := by rw [if_pos rfl] at H; exact H
          clear H
          have H := H1
          clear H1
          by_cases c145 : ([] : List Int).length < 17592186044416
          ·rw [if_pos c145] at H
           have LMc145 := am c145
           clear c145
           obtain ⟨y207, hy207⟩ : ∃ y_ : List Int, y_ = (([] : List Int) ++ [2]) := ⟨_, rfl⟩
           replace H : (some (x195000_82, x195001_82, y207)) = some (r1, r2, r3) := by first | (rw [hy207]; with_reducible exact H) | (have H2_ := (Option.bind_some _ _).symm.trans H; rw [hy207]; with_reducible exact H2_) | (have H2_ := (Option.bind_some _ _).symm.trans H; with_reducible exact H2_) | with_reducible exact H | (rw [hy207]; exact H) | exact H
           have Ny207 := am hy207
           clear hy207
           simp only [Option.some.injEq, Prod.mk.injEq] at H
           obtain ⟨rfl, rfl, rfl⟩ := H
           have hnb146 := NB178_177.out
           have hnc146 := NB177_178.out
           have hnb147 := NB178_179.out
           have hnc147 := NB179_178.out
           have hnb148 := NB178_194.out
           have hnc148 := NB194_178.out
           have hcz149_0 : wc.cell? ⟨gb178, 0, none⟩ = some (.int .i64 a1_0) := bc BK178 0
           have hcz149_1 : wc.cell? ⟨gb178, 1, none⟩ = some (.int .i64 a1_1) := bc BK178 1
           have hfz149_0 := blk_frozen BK178.out 0
           have hfz149_1 := blk_frozen BK178.out 1
           go_wp2_with (first | ((with_reducible refine gate_callee (f := 95) rfl ?_); refine goesL_ (some 53) rfl rfl Try.func95 (by kernel_rfl) rfl #[.agg #[.int .i64 a1_0, .int .i64 a1_1], .int .i64 0] rfl mz ?_; (with_reducible refine (impl_RangeHas.calls a1_0 a1_1 0 true _ A143.out).mono ?_); rintro e w150 ⟨rfl, hb⟩; refine ⟨_, rfl, ?_⟩; replace HO_14 := am (Kd.R_below (by (with_reducible repeat (first | apply Kd.R_alloc | apply Kd.R_drewN | apply Kd.R_drew)); exact HO_14.out) hb); replace BK177 := am (blk_below (g := gb177) (o := b2 a0_0 a0_1 24) (Z BK177) hb); replace BK178 := am (blk_below (g := gb178) (o := b2 a1_0 a1_1 24) (Z BK178) hb); replace BK179 := am (blk_below (g := gb179) (o := b2 0 0 24) (Z BK179) hb); replace BK194 := am (blk_below (g := gb194) (o := b2 x195000_82 x195001_82 24) (Z BK194) hb); replace HB := am (below_step (Y4 HB GE177 GE178 GE179 GE194) hb); (try clear hb); (try clear hb2); (try clear hk); (try clear hi)) | ((with_reducible refine gate_builtin (b := .append) (xs := #[.tmp 54, .tmp 55]) rfl ?_); at_builtin; refine Kd.R_append (Kd.int .i64) (w0 := w) w.heap.size rfl (.tmp 54) (.tmp 55) 25 3 (.int .i64 0) 8 rfl Try.underlying25 info3 rfl (by decide) (by omega) (.slice none 0 0) ([] : List Int) 2 [.int .i64 2] (fun _ => True) (fun _ => False) rfl rfl ?aP (fun _ hk => hk.elim) ?aF ?aO ?aB ?aS ?aL ?_; (case aP => exact rfl); (case aB => exact (Y4 HB GE177 GE178 GE179 GE194)); (case aF => exact (fun _ _ => trivial)); (case aO => exact (by (with_reducible repeat (first | apply Kd.R_alloc | apply Kd.R_drewN | apply Kd.R_drew)); exact HO_14.out)); (case aS => exact (below_size (Y4 HB GE177 GE178 GE179 GE194))); (case aL => have := LMc145.out; omega); intro v208 w151 ho hb hg hat; rw [← Ny207.out] at ho; have HO209 := am (ho); replace BK177 := am (blk_grown (g := gb177) (o := b2 a0_0 a0_1 24) (Z BK177) hg (Kd.R_ne HO_14.out BK177.out (by decide))); replace BK178 := am (blk_grown (g := gb178) (o := b2 a1_0 a1_1 24) (Z BK178) hg (Kd.R_ne HO_14.out BK178.out (by decide))); replace BK179 := am (blk_grown (g := gb179) (o := b2 0 0 24) (Z BK179) hg (Kd.R_ne HO_14.out BK179.out (by decide))); replace BK194 := am (blk_grown (g := gb194) (o := b2 x195000_82 x195001_82 24) (Z BK194) hg (Kd.R_ne HO_14.out BK194.out (by decide))); replace HB := am (hb); clear HO_14; clear ho hb hg hat; have hnb152 := NB194_177.out; have hnc152 := NB177_194.out; have hnb153 := NB194_179.out; have hnc153 := NB179_194.out; have hcz154_0 : w151.cell? ⟨gb194, 0, none⟩ = some (.int .i64 x195000_82) := bc BK194 0; have hcz154_1 : w151.cell? ⟨gb194, 1, none⟩ = some (.int .i64 x195001_82) := bc BK194 1; have hfz154_0 := blk_frozen BK194.out 0; have hfz154_1 := blk_frozen BK194.out 1; have hnb155 := NB179_177.out; have hnc155 := NB177_179.out; have hcz156_0 : w151.cell? ⟨gb179, 0, none⟩ = some (.int .i64 0) := bc BK179 0; have hcz156_1 : w151.cell? ⟨gb179, 1, none⟩ = some (.int .i64 0) := bc BK179 1; have hfz156_0 := blk_frozen BK179.out 0; have hfz156_1 := blk_frozen BK179.out 1))
           refine bodyPost_ret (results_ct rfl _ _ gb179 24 #[.int .i64 x195000_82, .int .i64 x195001_82] (0, 0) _ rfl (by (with_reducible repeat (first | refine blk_drewN ?_ _ | refine blk_drew ?_ | refine blk_alloc ?_ _)); refine blk_put (cs := #[.int .i64 x195000_82, .int .i64 0]) ?_ 1 _ rfl; (with_reducible repeat (first | refine blk_drewN ?_ _ | refine blk_drew ?_ | refine blk_alloc ?_ _)); refine blk_put (cs := #[.int .i64 0, .int .i64 0]) ?_ 0 _ rfl; (with_reducible repeat (first | refine blk_drewN ?_ _ | refine blk_drew ?_ | refine blk_alloc ?_ _)); exact BK179.out) Try.underlying24 rfl (by kernel_rfl)) rfl ?_
           exact ⟨_, by first | rfl | (simp [errW_none, errW_some] <;> rfl) | (simp [*, errW_none, errW_some] <;> rfl), by (with_reducible repeat (first | apply Kd.R_alloc | apply Kd.R_drewN | apply Kd.R_drew)); exact Kd.R_mono (Kd.R_far (p := ⟨gb179, 1, none⟩) (Kd.R_far (p := ⟨gb179, 0, none⟩) (Kd.R_types HO209.out BK179.out (by decide)) (fun _ hk => hk.2) (.int .i64 x195000_82)) (fun _ hk => hk.2) (.int .i64 x195001_82)) (fun _ hk => trivial), Y4 HB GE177 GE178 GE179 GE194⟩
          ·rw [if_neg c145] at H
           exact absurd H (by simp)
         ·replace c144 := Bool.eq_false_iff.mpr c144
          subst c144
          have H1 : (some (x195000_82, x195001_82, ([] : List Int))) = some (r1, r2, r3) := by rw [if_neg (show ¬ (false = true) by decide)] at H; exact H
          clear H
          have H := H1
          clear H1
          simp only [Option.some.injEq, Prod.mk.injEq] at H
          obtain ⟨rfl, rfl, rfl⟩ := H
          have hnb157 := NB178_177.out
          have hnc157 := NB177_178.out
          have hnb158 := NB178_179.out
          have hnc158 := NB179_178.out
          have hnb159 := NB178_194.out
          have hnc159 := NB194_178.out
          have hcz160_0 : wc.cell? ⟨gb178, 0, none⟩ = some (.int .i64 a1_0) := bc BK178 0
          have hcz160_1 : wc.cell? ⟨gb178, 1, none⟩ = some (.int .i64 a1_1) := bc BK178 1
          have hfz160_0 := blk_frozen BK178.out 0
          have hfz160_1 := blk_frozen BK178.out 1
          go_wp2_with (first | ((with_reducible refine gate_callee (f := 95) rfl ?_); refine goesL_ (some 53) rfl rfl Try.func95 (by kernel_rfl) rfl #[.agg #[.int .i64 a1_0, .int .i64 a1_1], .int .i64 0] rfl mz ?_; (with_reducible refine (impl_RangeHas.calls a1_0 a1_1 0 false _ A143.out).mono ?_); rintro e w161 ⟨rfl, hb⟩; refine ⟨_, rfl, ?_⟩; replace HO_14 := am (Kd.R_below (by (with_reducible repeat (first | apply Kd.R_alloc | apply Kd.R_drewN | apply Kd.R_drew)); exact HO_14.out) hb); replace BK177 := am (blk_below (g := gb177) (o := b2 a0_0 a0_1 24) (Z BK177) hb); replace BK178 := am (blk_below (g := gb178) (o := b2 a1_0 a1_1 24) (Z BK178) hb); replace BK179 := am (blk_below (g := gb179) (o := b2 0 0 24) (Z BK179) hb); replace BK194 := am (blk_below (g := gb194) (o := b2 x195000_82 x195001_82 24) (Z BK194) hb); replace HB := am (below_step (Y4 HB GE177 GE178 GE179 GE194) hb); (try clear hb); (try clear hb2); (try clear hk); (try clear hi); have hnb162 := NB194_177.out; have hnc162 := NB177_194.out; have hnb163 := NB194_179.out; have hnc163 := NB179_194.out; have hcz164_0 : w161.cell? ⟨gb194, 0, none⟩ = some (.int .i64 x195000_82) := bc BK194 0; have hcz164_1 : w161.cell? ⟨gb194, 1, none⟩ = some (.int .i64 x195001_82) := bc BK194 1; have hfz164_0 := blk_frozen BK194.out 0; have hfz164_1 := blk_frozen BK194.out 1; have hnb165 := NB179_177.out; have hnc165 := NB177_179.out; have hcz166_0 : w161.cell? ⟨gb179, 0, none⟩ = some (.int .i64 0) := bc BK179 0; have hcz166_1 : w161.cell? ⟨gb179, 1, none⟩ = some (.int .i64 0) := bc BK179 1; have hfz166_0 := blk_frozen BK179.out 0; have hfz166_1 := blk_frozen BK179.out 1))
          refine bodyPost_ret (results_ct rfl _ _ gb179 24 #[.int .i64 x195000_82, .int .i64 x195001_82] (0, 0) _ rfl (by (with_reducible repeat (first | refine blk_drewN ?_ _ | refine blk_drew ?_ | refine blk_alloc ?_ _)); refine blk_put (cs := #[.int .i64 x195000_82, .int .i64 0]) ?_ 1 _ rfl; (with_reducible repeat (first | refine blk_drewN ?_ _ | refine blk_drew ?_ | refine blk_alloc ?_ _)); refine blk_put (cs := #[.int .i64 0, .int .i64 0]) ?_ 0 _ rfl; (with_reducible repeat (first | refine blk_drewN ?_ _ | refine blk_drew ?_ | refine blk_alloc ?_ _)); exact BK179.out) Try.underlying24 rfl (by kernel_rfl)) rfl ?_
          exact ⟨_, by first | rfl | (simp [errW_none, errW_some] <;> rfl) | (simp [*, errW_none, errW_some] <;> rfl), by (with_reducible repeat (first | apply Kd.R_alloc | apply Kd.R_drewN | apply Kd.R_drew)); exact Kd.R_mono (Kd.R_far (p := ⟨gb179, 1, none⟩) (Kd.R_far (p := ⟨gb179, 0, none⟩) (Kd.R_types HO_14.out BK179.out (by decide)) (fun _ hk => hk.2) (.int .i64 x195000_82)) (fun _ hk => hk.2) (.int .i64 x195001_82)) (fun _ hk => trivial), Y4 HB GE177 GE178 GE179 GE194⟩

end Go.Proofs.Ythbkakcchgnhpaa.PFnRangeOne
