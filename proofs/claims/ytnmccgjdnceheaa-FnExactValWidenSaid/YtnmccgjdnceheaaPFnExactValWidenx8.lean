/- Written by this session's own driver (wip/dprint.py): the functions that the law FnExactValWiden reaches, as Lean functions, each with its contract. -/
import Derived.Test.YtnmccgjdnceheaaPFnExactValWidenx0
import Derived.Test.YtnmccgjdnceheaaPFnExactValWidenx2
import Derived.Test.YtnmccgjdnceheaaPFnExactValWidenx3
import Derived.Test.YtnmccgjdnceheaaPFnExactValWidenx4
import Derived.Test.YtnmccgjdnceheaaSv
namespace Go.Proofs.Ytnmccgjdnceheaa.PFnExactValWiden
open Go.RowKit Go.Proofs.YtnmccgjdnceheaaV.PrintWords Go.Proofs.YtnmccgjdnceheaaV.PrintLast Go.Proofs.YtnmccgjdnceheaaV.PrintMore Go.Proofs.YtnmccgjdnceheaaSv
attribute [local go_sem] max2_int min2_int max_two min_two max_three min_three max_four min_four   -- for this text's walks alone
set_option linter.unusedVariables false
set_option linter.unusedSimpArgs false

attribute [local go_sem high] eqA86
/-! ### spec_l8Min: function 126 -/
def spec_l8Min.f (a0 : Int) (a1 : Int) : Option (Int) := if a0 < a1 then (some a0) else (some a1)
set_option maxHeartbeats 8000000 in
set_option maxRecDepth 100000 in
theorem spec_l8Min.calls (a0 : Int) (a1 : Int) (r : Int) (w : World) (h : spec_l8Min.f a0 a1 = some r) :
  Calls Try.prog 126 #[.int .i64 a0, .int .i64 a1] w fun e w' => e = .returned (.int .i64 r) ∧ Drawn0 w w' := by
 have H : (if a0 < a1 then (some a0) else (some a1)) = some r := h
 clear h
 by_cases c3 : a0 < a1
 ·rw [if_pos c3] at H
  have c3b0 : decide (a0 < a1) = true := decide_eq_true c3
  clear c3
  obtain rfl := Option.some.inj H
  go_enter Try.func126, Try.ntmps126
  go_wp2
  go_ret
  exact ⟨by first | rfl | (simp; done) | (simp [*]; done), by repeat (first | exact Drawn0.refl _ | apply Drawn0.step)⟩
 ·rw [if_neg c3] at H
  have c3b0 : decide (a0 < a1) = false := decide_eq_false c3
  clear c3
  obtain rfl := Option.some.inj H
  go_enter Try.func126, Try.ntmps126
  go_wp2
  go_ret
  exact ⟨by first | rfl | (simp; done) | (simp [*]; done), by repeat (first | exact Drawn0.refl _ | apply Drawn0.step)⟩

/-! ### spec_l8Max: function 127 -/
def spec_l8Max.f (a0 : Int) (a1 : Int) : Option (Int) := if a0 > a1 then (some a0) else (some a1)
set_option maxHeartbeats 8000000 in
set_option maxRecDepth 100000 in
theorem spec_l8Max.calls (a0 : Int) (a1 : Int) (r : Int) (w : World) (h : spec_l8Max.f a0 a1 = some r) :
  Calls Try.prog 127 #[.int .i64 a0, .int .i64 a1] w fun e w' => e = .returned (.int .i64 r) ∧ Drawn0 w w' := by
 have H : (if a0 > a1 then (some a0) else (some a1)) = some r := h
 clear h
 by_cases c3 : a0 > a1
 ·rw [if_pos c3] at H
  have c3b0 : decide (a1 < a0) = true := decide_eq_true c3
  clear c3
  obtain rfl := Option.some.inj H
  go_enter Try.func127, Try.ntmps127
  go_wp2
  go_ret
  exact ⟨by first | rfl | (simp; done) | (simp [*]; done), by repeat (first | exact Drawn0.refl _ | apply Drawn0.step)⟩
 ·rw [if_neg c3] at H
  have c3b0 : decide (a1 < a0) = false := decide_eq_false c3
  clear c3
  obtain rfl := Option.some.inj H
  go_enter Try.func127, Try.ntmps127
  go_wp2
  go_ret
  exact ⟨by first | rfl | (simp; done) | (simp [*]; done), by repeat (first | exact Drawn0.refl _ | apply Drawn0.step)⟩

/-! ### spec_RangeJoin: function 74 -/
def spec_RangeJoin.j0 : Nat → Bool → Int → Int → Int → Int → Option (Int × Int)
 | 0, _, _, _, _, _ => none
 | k + 1, x12, x176000, x176001, x177000, x177001 => if x12 = true then ((spec_l8None.f).bind fun bt180 => (some (bt180.1, bt180.2))) else ((spec_l8None.f).bind fun bt182 => (if (x176000 == bt182.1 && (x176001 == bt182.2)) = true then (some (x177000, x177001)) else ((spec_l8None.f).bind fun bt184 => (if (x177000 == bt184.1 && (x177001 == bt184.2)) = true then (some (x176000, x176001)) else ((spec_l8Min.f x176000 x177000).bind fun t186 => ((spec_l8Max.f x176001 x177001).bind fun t187 => (some (t186, t187))))))))
def spec_RangeJoin.f (k : Nat) (a0_0 : Int) (a0_1 : Int) (a1_0 : Int) (a1_1 : Int) : Option (Int × Int) := (spec_RangeOk.f a0_0 a0_1).bind fun t178 => (if t178 = true then ((spec_RangeOk.f a1_0 a1_1).bind fun t179 => (spec_RangeJoin.j0 k (!t179) a0_0 a0_1 a1_0 a1_1)) else (spec_RangeJoin.j0 k true a0_0 a0_1 a1_0 a1_1))
theorem spec_RangeJoin.mono_l : ∀ k, (∀ y0 y1 y2 y3 y4, LeO (spec_RangeJoin.j0 k y0 y1 y2 y3 y4) (spec_RangeJoin.j0 (k + 1) y0 y1 y2 y3 y4))
 | 0 => fun _ _ _ _ _ r h => by simp [spec_RangeJoin.j0] at h
 | k + 1 => by
  have ih0 := spec_RangeJoin.mono_l k
  ·intro y0 y1 y2 y3 y4
   unfold spec_RangeJoin.j0
   repeat' first
   | (with_reducible exact ih0 _ _ _ _ _)
   | (with_reducible exact LeO.refl _)
   | (with_reducible exact LeO.none _)
   | (with_reducible refine LeO.ite ?_ ?_)
   | (with_reducible refine LeO.bind ?_ (fun _ => ?_))
   | exact ih0 _ _ _ _ _
   | exact LeO.none _
   | refine LeO.ite ?_ ?_
   | refine LeO.bind ?_ (fun _ => ?_)
theorem spec_RangeJoin.mono : ∀ a0 a1 a2 a3 k, LeO (spec_RangeJoin.f k a0 a1 a2 a3) (spec_RangeJoin.f (k + 1) a0 a1 a2 a3) := by
 intro a0 a1 a2 a3 k
 have ih0 := spec_RangeJoin.mono_l k
 unfold spec_RangeJoin.f
 repeat' first
   | (with_reducible exact ih0 _ _ _ _ _)
   | (with_reducible exact LeO.refl _)
   | (with_reducible exact LeO.none _)
   | (with_reducible refine LeO.ite ?_ ?_)
   | (with_reducible refine LeO.bind ?_ (fun _ => ?_))
   | exact ih0 _ _ _ _ _
   | exact LeO.none _
   | refine LeO.ite ?_ ?_
   | refine LeO.bind ?_ (fun _ => ?_)
def spec_RangeJoin.T7 : Bool × List (List Nat × List Nat) := (true, [([], []), ([0], [0]), ([], []), ([2], [2]), ([1, 3], [1, 3]), ([], []), ([5], [5]), ([], []), ([7], [7]), ([6, 8, 4], [6, 8]), ([4, 9], [4, 9]), ([10, 9, 0, 1, 2, 3, 4, 5, 6, 7, 8, 9, 10], [10])])
def spec_RangeJoin.B7 : List Nat := [0, 1, 0, 4, 15, 0, 32, 0, 128, 511, 1023, 2047]
theorem spec_RangeJoin.tab7 : rtab .any (opsOf Try.f74 7) = spec_RangeJoin.T7 := by kernel_rfl
theorem spec_RangeJoin.bits7 : waitsOk spec_RangeJoin.T7.2 spec_RangeJoin.B7 = true := by kernel_rfl
set_option maxHeartbeats 8000000 in
set_option maxRecDepth 100000 in
theorem spec_RangeJoin.calls (k : Nat) (a0_0 : Int) (a0_1 : Int) (a1_0 : Int) (a1_1 : Int) (r1 : Int) (r2 : Int) (w : World) (h : spec_RangeJoin.f k a0_0 a0_1 a1_0 a1_1 = some (r1, r2)) :
  Calls Try.prog 74 #[.agg #[.int .i64 a0_0, .int .i64 a0_1], .agg #[.int .i64 a1_0, .int .i64 a1_1]] w fun e w' => e = .returned (.agg #[.int .i64 r1, .int .i64 r2]) ∧ Below w.heap.size w w' := by
 have hu86 := Try.underlying86
 have HB := am (Below.refl w.heap.size w)
 have H : ((spec_RangeOk.f a0_0 a0_1).bind fun t178 => (if t178 = true then ((spec_RangeOk.f a1_0 a1_1).bind fun t179 => (spec_RangeJoin.j0 k (!t179) a0_0 a0_1 a1_0 a1_1)) else (spec_RangeJoin.j0 k true a0_0 a0_1 a1_0 a1_1))) = some (r1, r2) := h
 clear h
 have HC3 := am H
 clear H
 go_enter Try.func74, Try.ntmps74
 go_upto_region 1 with (first | ((with_reducible refine gate_dst (N := 2) rfl ?_); refine box_event ?hg (N := 2) ?hd (cs := #[.int .i64 a0_0, .int .i64 a0_1]) (t := 86) ?hr ?_; (case hd => rfl); (case hg => rfl); (case hr => first | (go_simp; done) | (go_simp; rfl)); intro gb175 hg w4 hbox hb; have n0_ := am (below_step (Y0 HB) hb); have n1_ := am (hbox); have n2_ := am ((by rw [hg]; exact (below_size (Y0 HB)) : w.heap.size ≤ gb175)); have n3_ := am ((by rw [hg]; exact (below_size (Y0 HB)) : w.heap.size ≤ gb175)); clear HB; have HB := n0_; have BK175 := n1_; have GW175 := n2_; have GE175 := n3_; clear n0_ n1_ n2_ n3_; clear hb hbox hg) | ((with_reducible refine gate_dst (N := 3) rfl ?_); refine box_event ?hg (N := 3) ?hd (cs := #[.int .i64 a1_0, .int .i64 a1_1]) (t := 86) ?hr ?_; (case hd => rfl); (case hg => rfl); (case hr => first | (go_simp; done) | (go_simp; rfl)); intro gb176 hg w5 hbox hb; have n0_ := am (blk_below (g := gb175) (o := b2 a0_0 a0_1 86) (Z BK175) hb); have n1_ := am (below_step (Y1 HB GE175) hb); have n2_ := am (hbox); have n3_ := am ((by rw [hg]; exact (below_size (Y1 HB GE175)) : w.heap.size ≤ gb176)); have n4_ := am ((by rw [hg]; exact (below_size (Y1 HB GE175)) : w.heap.size ≤ gb176)); have n5_ := am ((nl (o := b2 a0_0 a0_1 86) hg (Z BK175) : gb175 ≠ gb176)); have n6_ := am ((ng (o := b2 a0_0 a0_1 86) hg (Z BK175) : gb176 ≠ gb175)); clear BK175; clear HB; have BK175 := n0_; have HB := n1_; have BK176 := n2_; have GW176 := n3_; have GE176 := n4_; have NB175_176 := n5_; have NB176_175 := n6_; clear n0_ n1_ n2_ n3_ n4_ n5_ n6_; clear hb hbox hg) | ((with_reducible refine gate_dst (N := 4) rfl ?_); refine box_event ?hg (N := 4) ?hd (cs := #[.int .i64 0, .int .i64 0]) (t := 86) ?hr ?_; (case hd => rfl); (case hg => rfl); (case hr => first | (go_simp; done) | (go_simp; rfl)); intro gb177 hg w6 hbox hb; have n0_ := am (blk_below (g := gb175) (o := b2 a0_0 a0_1 86) (Z BK175) hb); have n1_ := am (blk_below (g := gb176) (o := b2 a1_0 a1_1 86) (Z BK176) hb); have n2_ := am (below_step (Y2 HB GE175 GE176) hb); have n3_ := am (hbox); have n4_ := am ((by rw [hg]; exact (below_size (Y2 HB GE175 GE176)) : w.heap.size ≤ gb177)); have n5_ := am ((by rw [hg]; exact (below_size (Y2 HB GE175 GE176)) : w.heap.size ≤ gb177)); have n6_ := am ((nl (o := b2 a0_0 a0_1 86) hg (Z BK175) : gb175 ≠ gb177)); have n7_ := am ((ng (o := b2 a0_0 a0_1 86) hg (Z BK175) : gb177 ≠ gb175)); have n8_ := am ((nl (o := b2 a1_0 a1_1 86) hg (Z BK176) : gb176 ≠ gb177)); have n9_ := am ((ng (o := b2 a1_0 a1_1 86) hg (Z BK176) : gb177 ≠ gb176)); clear BK175; clear BK176; clear HB; have BK175 := n0_; have BK176 := n1_; have HB := n2_; have BK177 := n3_; have GW177 := n4_; have GE177 := n5_; have NB175_177 := n6_; have NB177_175 := n7_; have NB176_177 := n8_; have NB177_176 := n9_; clear n0_ n1_ n2_ n3_ n4_ n5_ n6_ n7_ n8_ n9_; clear hb hbox hg))
 (try simp only [Act.put, List.setIfInBounds_toArray, List.set_cons_zero, List.set_cons_succ])
 go_cut [12] (fun v12 wc => ∃ (kq : Nat) (x12_2 : Bool), v12 = .bool x12_2 ∧ Aside0 (spec_RangeJoin.j0 kq x12_2 a0_0 a0_1 a1_0 a1_1 = some (r1, r2)) ∧ Aside0 (kq ≤ k) ∧ Aside0 (wc.heap[gb175]? = some (.cells #[.int .i64 a0_0, .int .i64 a0_1] 86 (0, 0))) ∧ Aside0 (wc.heap[gb176]? = some (.cells #[.int .i64 a1_0, .int .i64 a1_1] 86 (0, 0))) ∧ Aside0 (wc.heap[gb177]? = some (.cells #[.int .i64 0, .int .i64 0] 86 (0, 0))) ∧ Aside0 (Below w.heap.size w wc))
 case first =>
  have H := HC3.out
  clear HC3
  replace H := Option.bind_eq_some_iff.mp H
  obtain ⟨t178, A70, H⟩ := H
  replace H : (if t178 = true then ((spec_RangeOk.f a1_0 a1_1).bind fun t179 => (spec_RangeJoin.j0 k (!t179) a0_0 a0_1 a1_0 a1_1)) else (spec_RangeJoin.j0 k true a0_0 a0_1 a1_0 a1_1)) = some (r1, r2) := H
  have A7 := am A70
  clear A70
  by_cases c8 : t178 = true
  ·subst c8
   have H1 : ((spec_RangeOk.f a1_0 a1_1).bind fun t179 => (spec_RangeJoin.j0 k (!t179) a0_0 a0_1 a1_0 a1_1)) = some (r1, r2) := by rw [if_pos rfl] at H; exact H
   clear H
   have H := H1
   clear H1
   replace H := Option.bind_eq_some_iff.mp H
   obtain ⟨t179, A90, H⟩ := H
   replace H : (spec_RangeJoin.j0 k (!t179) a0_0 a0_1 a1_0 a1_1) = some (r1, r2) := H
   have A9 := am A90
   clear A90
   have H' := am H
   clear H
   have hnb10 := NB175_176.out
   have hnc10 := NB176_175.out
   have hnb11 := NB175_177.out
   have hnc11 := NB177_175.out
   have hcz12_0 : w6.cell? ⟨gb175, 0, none⟩ = some (.int .i64 a0_0) := bc BK175 0
   have hcz12_1 : w6.cell? ⟨gb175, 1, none⟩ = some (.int .i64 a0_1) := bc BK175 1
   have hfz12_0 := blk_frozen BK175.out 0
   have hfz12_1 := blk_frozen BK175.out 1
   go_wp2_with (first | ((with_reducible refine gate_callee (f := 117) rfl ?_); refine goesL_ (some 6) rfl rfl Try.func117 (by kernel_rfl) rfl #[.agg #[.int .i64 a0_0, .int .i64 a0_1]] rfl mz ?_; (with_reducible refine (spec_RangeOk.calls a0_0 a0_1 true _ A7.out).mono ?_); rintro e w13 ⟨rfl, hb⟩; refine ⟨_, rfl, ?_⟩; have n0_ := am (blk_below (g := gb175) (o := b2 a0_0 a0_1 86) (Z BK175) hb); have n1_ := am (blk_below (g := gb176) (o := b2 a1_0 a1_1 86) (Z BK176) hb); have n2_ := am (blk_below (g := gb177) (o := b2 0 0 86) (Z BK177) hb); have n3_ := am (below_step (Y3 HB GE175 GE176 GE177) hb); clear BK175; clear BK176; clear BK177; clear HB; have BK175 := n0_; have BK176 := n1_; have BK177 := n2_; have HB := n3_; clear n0_ n1_ n2_ n3_; (try clear hb); (try clear hb2); (try clear hk); (try clear hi); have hnb14 := NB176_177.out; have hnc14 := NB177_176.out; have hcz15_0 : w13.cell? ⟨gb176, 0, none⟩ = some (.int .i64 a1_0) := bc BK176 0; have hcz15_1 : w13.cell? ⟨gb176, 1, none⟩ = some (.int .i64 a1_1) := bc BK176 1; have hfz15_0 := blk_frozen BK176.out 0; have hfz15_1 := blk_frozen BK176.out 1) | (go_at_call 117; (with_reducible refine (spec_RangeOk.calls a1_0 a1_1 t179 _ A9.out).mono ?_); rintro e w16 ⟨rfl, hb⟩; have n0_ := am (blk_below (g := gb175) (o := b2 a0_0 a0_1 86) (Z BK175) hb); have n1_ := am (blk_below (g := gb176) (o := b2 a1_0 a1_1 86) (Z BK176) hb); have n2_ := am (blk_below (g := gb177) (o := b2 0 0 86) (Z BK177) hb); have n3_ := am (below_step (Y3 HB GE175 GE176 GE177) hb); clear BK175; clear BK176; clear BK177; clear HB; have BK175 := n0_; have BK176 := n1_; have BK177 := n2_; have HB := n3_; clear n0_ n1_ n2_ n3_; (try clear hb); (try clear hb2); (try clear hk); (try clear hi)))
   go_meet
   case rel => exact ⟨_, (!t179), (by first | rfl | (simp; done) | (simp [*]; done)), H', ⟨by first | omega | exact Nat.le_refl _⟩, ⟨Z BK175⟩, ⟨Z BK176⟩, ⟨Z BK177⟩, ⟨Y3 HB GE175 GE176 GE177⟩⟩
  ·replace c8 := Bool.eq_false_iff.mpr c8
   subst c8
   have H1 : (spec_RangeJoin.j0 k true a0_0 a0_1 a1_0 a1_1) = some (r1, r2) := by rw [if_neg (show ¬ (false = true) by decide)] at H; exact H
   clear H
   have H := H1
   clear H1
   have H' := am H
   clear H
   have hnb17 := NB175_176.out
   have hnc17 := NB176_175.out
   have hnb18 := NB175_177.out
   have hnc18 := NB177_175.out
   have hcz19_0 : w6.cell? ⟨gb175, 0, none⟩ = some (.int .i64 a0_0) := bc BK175 0
   have hcz19_1 : w6.cell? ⟨gb175, 1, none⟩ = some (.int .i64 a0_1) := bc BK175 1
   have hfz19_0 := blk_frozen BK175.out 0
   have hfz19_1 := blk_frozen BK175.out 1
   go_wp2_with (first | ((with_reducible refine gate_callee (f := 117) rfl ?_); refine goesL_ (some 6) rfl rfl Try.func117 (by kernel_rfl) rfl #[.agg #[.int .i64 a0_0, .int .i64 a0_1]] rfl mz ?_; (with_reducible refine (spec_RangeOk.calls a0_0 a0_1 false _ A7.out).mono ?_); rintro e w20 ⟨rfl, hb⟩; refine ⟨_, rfl, ?_⟩; have n0_ := am (blk_below (g := gb175) (o := b2 a0_0 a0_1 86) (Z BK175) hb); have n1_ := am (blk_below (g := gb176) (o := b2 a1_0 a1_1 86) (Z BK176) hb); have n2_ := am (blk_below (g := gb177) (o := b2 0 0 86) (Z BK177) hb); have n3_ := am (below_step (Y3 HB GE175 GE176 GE177) hb); clear BK175; clear BK176; clear BK177; clear HB; have BK175 := n0_; have BK176 := n1_; have BK177 := n2_; have HB := n3_; clear n0_ n1_ n2_ n3_; (try clear hb); (try clear hb2); (try clear hk); (try clear hi)))
   go_meet
   case rel => exact ⟨_, (true), (by first | rfl | (simp; done) | (simp [*]; done)), H', ⟨by first | omega | exact Nat.le_refl _⟩, ⟨Z BK175⟩, ⟨Z BK176⟩, ⟨Z BK177⟩, ⟨Y3 HB GE175 GE176 GE177⟩⟩
 case rest =>
  clear HC3
  try clear c1
  try clear p2
  try clear c7
  try clear c8
  try clear c10
  try clear c11
  try clear c14
  try clear c17
  try clear c18
  try clear hcz12_0
  try clear hcz12_1
  try clear hcz15_0
  try clear hcz15_1
  try clear hcz19_0
  try clear hcz19_1
  try clear hfz12_0
  try clear hfz12_1
  try clear hfz15_0
  try clear hfz15_1
  try clear hfz19_0
  try clear hfz19_1
  obtain ⟨kq, x12_2, rfl, HA, HJ2, BK175, BK176, BK177, HB⟩ := hcut
  cases kq with
  | zero => exact absurd HA.out (by simp [spec_RangeJoin.j0])
  | succ kj2 =>
   have H := HA.out
   clear HA
   simp only [spec_RangeJoin.j0] at H
   by_cases c21 : x12_2 = true
   ·subst c21
    have H1 : ((spec_l8None.f).bind fun bt180 => (some (bt180.1, bt180.2))) = some (r1, r2) := by rw [if_pos rfl] at H; exact H
    clear H
    have H := H1
    clear H1
    replace H := Option.bind_eq_some_iff.mp H
    obtain ⟨⟨t180, t181⟩, A220, H⟩ := H
    replace H : (some (t180, t181)) = some (r1, r2) := H
    have A22 := am A220
    clear A220
    simp only [Option.some.injEq, Prod.mk.injEq] at H
    obtain ⟨rfl, rfl⟩ := H
    go_wp2_with (first | ((with_reducible refine gate_callee (f := 123) rfl ?_); refine goesL_ (some 13) rfl rfl Try.func123 (by kernel_rfl) rfl #[] rfl mz ?_; (with_reducible refine (spec_l8None.calls  t180 t181 _ A22.out).mono ?_); rintro e w23 ⟨rfl, hb⟩; refine ⟨_, rfl, ?_⟩; have n0_ := am (blk_below (g := gb175) (o := b2 a0_0 a0_1 86) (Z BK175) hb); have n1_ := am (blk_below (g := gb176) (o := b2 a1_0 a1_1 86) (Z BK176) hb); have n2_ := am (blk_below (g := gb177) (o := b2 0 0 86) (Z BK177) hb); have n3_ := am (below_step (Y3 HB GE175 GE176 GE177) hb); clear BK175; clear BK176; clear BK177; clear HB; have BK175 := n0_; have BK176 := n1_; have BK177 := n2_; have HB := n3_; clear n0_ n1_ n2_ n3_; (try clear hb); (try clear hb2); (try clear hk); (try clear hi); have hnb24 := NB177_175.out; have hnc24 := NB175_177.out; have hnb25 := NB177_176.out; have hnc25 := NB176_177.out; have hcz26_0 : w23.cell? ⟨gb177, 0, none⟩ = some (.int .i64 0) := bc BK177 0; have hcz26_1 : w23.cell? ⟨gb177, 1, none⟩ = some (.int .i64 0) := bc BK177 1; have hfz26_0 := blk_frozen BK177.out 0; have hfz26_1 := blk_frozen BK177.out 1))
    refine bodyPost_ret (results_cell_row rfl _ _ gb177 86 #[.int .i64 t180, .int .i64 t181] (0, 0) _ rfl (by (with_reducible repeat (first | refine blk_drewN ?_ _ | refine blk_drew ?_ | refine blk_alloc ?_ _)); refine blk_put (cs := #[.int .i64 t180, .int .i64 0]) ?_ 1 _ rfl; (with_reducible repeat (first | refine blk_drewN ?_ _ | refine blk_drew ?_ | refine blk_alloc ?_ _)); refine blk_put (cs := #[.int .i64 0, .int .i64 0]) ?_ 0 _ rfl; (with_reducible repeat (first | refine blk_drewN ?_ _ | refine blk_drew ?_ | refine blk_alloc ?_ _)); exact BK177.out) Try.underlying86 rfl (by kernel_rfl)) rfl ?_
    exact ⟨by first | rfl | (simp [errW_none, errW_some] <;> rfl) | (simp [*, errW_none, errW_some] <;> rfl), Y3 HB GE175 GE176 GE177⟩
   ·replace c21 := Bool.eq_false_iff.mpr c21
    subst c21
    have H1 : ((spec_l8None.f).bind fun bt182 => (if (a0_0 == bt182.1 && (a0_1 == bt182.2)) = true then (some (a1_0, a1_1)) else ((spec_l8None.f).bind fun bt184 => (if (a1_0 == bt184.1 && (a1_1 == bt184.2)) = true then (some (a0_0, a0_1)) else ((spec_l8Min.f a0_0 a1_0).bind fun t186 => ((spec_l8Max.f a0_1 a1_1).bind fun t187 => (some (t186, t187)))))))) = some (r1, r2) := by rw [if_neg (show ¬ (false = true) by decide)] at H; exact H
    clear H
    have H := H1
    clear H1
    replace H := Option.bind_eq_some_iff.mp H
    obtain ⟨⟨t182, t183⟩, A270, H⟩ := H
    replace H : (if (a0_0 == t182 && (a0_1 == t183)) = true then (some (a1_0, a1_1)) else ((spec_l8None.f).bind fun bt184 => (if (a1_0 == bt184.1 && (a1_1 == bt184.2)) = true then (some (a0_0, a0_1)) else ((spec_l8Min.f a0_0 a1_0).bind fun t186 => ((spec_l8Max.f a0_1 a1_1).bind fun t187 => (some (t186, t187))))))) = some (r1, r2) := H
    have A27 := am A270
    clear A270
    by_cases c28 : (a0_0 == t182 && (a0_1 == t183)) = true
    ·rw [if_pos c28] at H
     have c28b0 : (a0_0 == t182 && (a0_1 == t183)) = true := c28
     (try (have c28b1 : decide (a0_0 = t182 && (a0_1 == t183)) = true := by simpa using c28))
     (try (have c28b2 : (a0_0 == t182 && (a0_1 == t183)) = true := by simpa using c28))
     clear c28
     simp only [Option.some.injEq, Prod.mk.injEq] at H
     obtain ⟨rfl, rfl⟩ := H
     try go_wp2
     have n0_ := am (blk_drew BK175.out)
     have n1_ := am (blk_drew BK176.out)
     have n2_ := am (blk_drew BK177.out)
     have n3_ := am (below_drew1 HB.out)
     clear BK175
     clear BK176
     clear BK177
     clear HB
     have BK175 := n0_
     have BK176 := n1_
     have BK177 := n2_
     have HB := n3_
     clear n0_ n1_ n2_ n3_
     refine start_ (n := 3) (S := fun w' => w'.cell? ⟨gb175, 0, none⟩ = some (.int .i64 a0_0) ∧ w'.cell? ⟨gb175, 1, none⟩ = some (.int .i64 a0_1)) (ds := []) #[F, F, F] (by kernel_rfl) rfl rfl ⟨bc BK175 0, bc BK175 1⟩ (fun hHeld => ?_)
     generalize wc.drew = w29 at BK175 BK176 BK177 HB hHeld ⊢
     refine take_ (i := 0) (N := some 14) (v := ?_) (a' := ?_) #[T, F, F] rfl rfl (by kernel_rfl) (fun _ _ _ h => h) (Or.inl ⟨by rfl, ?_⟩) hHeld ?_ ?_
     rotate_left
     ·rintro w' ⟨s0, s1⟩
      go_simp
      with_reducible rfl
     rotate_left
     ·exact pz
     refine one_ (i := 1) (N := some 15) #[T, T, F] rfl rfl (by kernel_rfl) (by decide) (fun K hK => ?_)
     refine goes_ Try.func123 (by kernel_rfl) rfl #[] (by rfl) rfl rfl mz ?_
     with_reducible refine (spec_l8None.calls  t182 t183 _ A27.out).mono ?_
     rintro e w30 ⟨rfl, hb⟩
     refine ⟨_, rfl, ?_⟩
     have n0_ := am (blk_below (g := gb175) (o := b2 a0_0 a0_1 86) (Z BK175) hb)
     have n1_ := am (blk_below (g := gb176) (o := b2 a1_0 a1_1 86) (Z BK176) hb)
     have n2_ := am (blk_below (g := gb177) (o := b2 0 0 86) (Z BK177) hb)
     have n3_ := am (below_step (Y3 HB GE175 GE176 GE177) hb)
     clear BK175
     clear BK176
     clear BK177
     clear HB
     have BK175 := n0_
     have BK176 := n1_
     have BK177 := n2_
     have HB := n3_
     clear n0_ n1_ n2_ n3_
     (try clear hb)
     (try clear hb2)
     (try clear hk)
     (try clear hi)
     refine hK.out _ _ ⟨bc BK175 0, bc BK175 1⟩ (fun hHeld => ?_)
     clear hK K
     refine norm_ (a' := ?_) ?_ ?_
     rotate_left
     ·show Act.put _ (some 15) _ = _
      simp only [Act.put, List.setIfInBounds_toArray, List.set_cons_zero, List.set_cons_succ, i64_w, i32_w]
      rfl
     refine pure_ (i := 2) (N := some 16) (v := ?_) (a' := ?_) #[T, T, T] rfl rfl (by kernel_rfl) (fun _ _ _ h => h) (Or.inl ⟨by rfl, ?_⟩) ?_ ?_
     rotate_left
     ·exact gz
     rotate_left
     ·exact pz
     refine done_ (by kernel_rfl) ?_
     have hnb31 := NB176_175.out
     have hnc31 := NB175_176.out
     have hnb32 := NB176_177.out
     have hnc32 := NB177_176.out
     have hcz33_0 : w30.cell? ⟨gb176, 0, none⟩ = some (.int .i64 a1_0) := bc BK176 0
     have hcz33_1 : w30.cell? ⟨gb176, 1, none⟩ = some (.int .i64 a1_1) := bc BK176 1
     have hfz33_0 := blk_frozen BK176.out 0
     have hfz33_1 := blk_frozen BK176.out 1
     have hnb34 := NB177_175.out
     have hnc34 := NB175_177.out
     have hcz35_0 : w30.cell? ⟨gb177, 0, none⟩ = some (.int .i64 0) := bc BK177 0
     have hcz35_1 : w30.cell? ⟨gb177, 1, none⟩ = some (.int .i64 0) := bc BK177 1
     have hfz35_0 := blk_frozen BK177.out 0
     have hfz35_1 := blk_frozen BK177.out 1
     try go_wp2
     refine bodyPost_ret (results_cell_row rfl _ _ gb177 86 #[.int .i64 a1_0, .int .i64 a1_1] (0, 0) _ rfl (by (with_reducible repeat (first | refine blk_drewN ?_ _ | refine blk_drew ?_ | refine blk_alloc ?_ _)); refine blk_put (cs := #[.int .i64 a1_0, .int .i64 0]) ?_ 1 _ rfl; (with_reducible repeat (first | refine blk_drewN ?_ _ | refine blk_drew ?_ | refine blk_alloc ?_ _)); refine blk_put (cs := #[.int .i64 0, .int .i64 0]) ?_ 0 _ rfl; (with_reducible repeat (first | refine blk_drewN ?_ _ | refine blk_drew ?_ | refine blk_alloc ?_ _)); exact BK177.out) Try.underlying86 rfl (by kernel_rfl)) rfl ?_
     exact ⟨by first | rfl | (simp [errW_none, errW_some] <;> rfl) | (simp [*, errW_none, errW_some] <;> rfl), Y3 HB GE175 GE176 GE177⟩
    ·rw [if_neg c28] at H
     have c28b0 : (a0_0 == t182 && (a0_1 == t183)) = false := by simpa using c28
     (try (have c28b1 : decide (a0_0 = t182 && (a0_1 == t183)) = false := by simpa using c28))
     (try (have c28b2 : (a0_0 == t182 && (a0_1 == t183)) = false := by simpa using c28))
     (try (have c28b3 : ¬ (a0_0 = t182 && (a0_1 == t183)) := by simpa using c28))
     clear c28
     replace H := Option.bind_eq_some_iff.mp H
     obtain ⟨⟨t184, t185⟩, A360, H⟩ := H
     replace H : (if (a1_0 == t184 && (a1_1 == t185)) = true then (some (a0_0, a0_1)) else ((spec_l8Min.f a0_0 a1_0).bind fun t186 => ((spec_l8Max.f a0_1 a1_1).bind fun t187 => (some (t186, t187))))) = some (r1, r2) := H
     have A36 := am A360
     clear A360
     by_cases c37 : (a1_0 == t184 && (a1_1 == t185)) = true
     ·rw [if_pos c37] at H
      have c37b0 : (a1_0 == t184 && (a1_1 == t185)) = true := c37
      (try (have c37b1 : decide (a1_0 = t184 && (a1_1 == t185)) = true := by simpa using c37))
      (try (have c37b2 : (a1_0 == t184 && (a1_1 == t185)) = true := by simpa using c37))
      clear c37
      simp only [Option.some.injEq, Prod.mk.injEq] at H
      obtain ⟨rfl, rfl⟩ := H
      try go_wp2
      have n0_ := am (blk_drew BK175.out)
      have n1_ := am (blk_drew BK176.out)
      have n2_ := am (blk_drew BK177.out)
      have n3_ := am (below_drew1 HB.out)
      clear BK175
      clear BK176
      clear BK177
      clear HB
      have BK175 := n0_
      have BK176 := n1_
      have BK177 := n2_
      have HB := n3_
      clear n0_ n1_ n2_ n3_
      refine start_ (n := 3) (S := fun w' => w'.cell? ⟨gb175, 0, none⟩ = some (.int .i64 a0_0) ∧ w'.cell? ⟨gb175, 1, none⟩ = some (.int .i64 a0_1)) (ds := []) #[F, F, F] (by kernel_rfl) rfl rfl ⟨bc BK175 0, bc BK175 1⟩ (fun hHeld => ?_)
      generalize wc.drew = w38 at BK175 BK176 BK177 HB hHeld ⊢
      refine take_ (i := 0) (N := some 14) (v := ?_) (a' := ?_) #[T, F, F] rfl rfl (by kernel_rfl) (fun _ _ _ h => h) (Or.inl ⟨by rfl, ?_⟩) hHeld ?_ ?_
      rotate_left
      ·rintro w' ⟨s0, s1⟩
       go_simp
       with_reducible rfl
      rotate_left
      ·exact pz
      refine one_ (i := 1) (N := some 15) #[T, T, F] rfl rfl (by kernel_rfl) (by decide) (fun K hK => ?_)
      refine goes_ Try.func123 (by kernel_rfl) rfl #[] (by rfl) rfl rfl mz ?_
      with_reducible refine (spec_l8None.calls  t182 t183 _ A27.out).mono ?_
      rintro e w39 ⟨rfl, hb⟩
      refine ⟨_, rfl, ?_⟩
      have n0_ := am (blk_below (g := gb175) (o := b2 a0_0 a0_1 86) (Z BK175) hb)
      have n1_ := am (blk_below (g := gb176) (o := b2 a1_0 a1_1 86) (Z BK176) hb)
      have n2_ := am (blk_below (g := gb177) (o := b2 0 0 86) (Z BK177) hb)
      have n3_ := am (below_step (Y3 HB GE175 GE176 GE177) hb)
      clear BK175
      clear BK176
      clear BK177
      clear HB
      have BK175 := n0_
      have BK176 := n1_
      have BK177 := n2_
      have HB := n3_
      clear n0_ n1_ n2_ n3_
      (try clear hb)
      (try clear hb2)
      (try clear hk)
      (try clear hi)
      refine hK.out _ _ ⟨bc BK175 0, bc BK175 1⟩ (fun hHeld => ?_)
      clear hK K
      refine norm_ (a' := ?_) ?_ ?_
      rotate_left
      ·show Act.put _ (some 15) _ = _
       simp only [Act.put, List.setIfInBounds_toArray, List.set_cons_zero, List.set_cons_succ, i64_w, i32_w]
       rfl
      refine pure_ (i := 2) (N := some 16) (v := ?_) (a' := ?_) #[T, T, T] rfl rfl (by kernel_rfl) (fun _ _ _ h => h) (Or.inl ⟨by rfl, ?_⟩) ?_ ?_
      rotate_left
      ·exact gz
      rotate_left
      ·exact pz
      refine done_ (by kernel_rfl) ?_
      try go_wp2
      have n0_ := am (blk_drew BK175.out)
      have n1_ := am (blk_drew BK176.out)
      have n2_ := am (blk_drew BK177.out)
      have n3_ := am (below_drew1 HB.out)
      clear BK175
      clear BK176
      clear BK177
      clear HB
      have BK175 := n0_
      have BK176 := n1_
      have BK177 := n2_
      have HB := n3_
      clear n0_ n1_ n2_ n3_
      refine start_ (n := 3) (S := fun w' => w'.cell? ⟨gb176, 0, none⟩ = some (.int .i64 a1_0) ∧ w'.cell? ⟨gb176, 1, none⟩ = some (.int .i64 a1_1)) (ds := []) #[F, F, F] (by kernel_rfl) rfl rfl ⟨bc BK176 0, bc BK176 1⟩ (fun hHeld => ?_)
      generalize w39.drew = w40 at BK175 BK176 BK177 HB hHeld ⊢
      refine take_ (i := 0) (N := some 18) (v := ?_) (a' := ?_) #[T, F, F] rfl rfl (by kernel_rfl) (fun _ _ _ h => h) (Or.inl ⟨by rfl, ?_⟩) hHeld ?_ ?_
      rotate_left
      ·rintro w' ⟨s0, s1⟩
       go_simp
       with_reducible rfl
      rotate_left
      ·exact pz
      refine one_ (i := 1) (N := some 19) #[T, T, F] rfl rfl (by kernel_rfl) (by decide) (fun K hK => ?_)
      refine goes_ Try.func123 (by kernel_rfl) rfl #[] (by rfl) rfl rfl mz ?_
      with_reducible refine (spec_l8None.calls  t184 t185 _ A36.out).mono ?_
      rintro e w41 ⟨rfl, hb⟩
      refine ⟨_, rfl, ?_⟩
      have n0_ := am (blk_below (g := gb175) (o := b2 a0_0 a0_1 86) (Z BK175) hb)
      have n1_ := am (blk_below (g := gb176) (o := b2 a1_0 a1_1 86) (Z BK176) hb)
      have n2_ := am (blk_below (g := gb177) (o := b2 0 0 86) (Z BK177) hb)
      have n3_ := am (below_step (Y3 HB GE175 GE176 GE177) hb)
      clear BK175
      clear BK176
      clear BK177
      clear HB
      have BK175 := n0_
      have BK176 := n1_
      have BK177 := n2_
      have HB := n3_
      clear n0_ n1_ n2_ n3_
      (try clear hb)
      (try clear hb2)
      (try clear hk)
      (try clear hi)
      refine hK.out _ _ ⟨bc BK176 0, bc BK176 1⟩ (fun hHeld => ?_)
      clear hK K
      refine norm_ (a' := ?_) ?_ ?_
      rotate_left
      ·show Act.put _ (some 19) _ = _
       simp only [Act.put, List.setIfInBounds_toArray, List.set_cons_zero, List.set_cons_succ, i64_w, i32_w]
       rfl
      refine pure_ (i := 2) (N := some 20) (v := ?_) (a' := ?_) #[T, T, T] rfl rfl (by kernel_rfl) (fun _ _ _ h => h) (Or.inl ⟨by rfl, ?_⟩) ?_ ?_
      rotate_left
      ·exact gz
      rotate_left
      ·exact pz
      refine done_ (by kernel_rfl) ?_
      have hnb42 := NB175_176.out
      have hnc42 := NB176_175.out
      have hnb43 := NB175_177.out
      have hnc43 := NB177_175.out
      have hcz44_0 : w41.cell? ⟨gb175, 0, none⟩ = some (.int .i64 a0_0) := bc BK175 0
      have hcz44_1 : w41.cell? ⟨gb175, 1, none⟩ = some (.int .i64 a0_1) := bc BK175 1
      have hfz44_0 := blk_frozen BK175.out 0
      have hfz44_1 := blk_frozen BK175.out 1
      have hnb45 := NB177_176.out
      have hnc45 := NB176_177.out
      have hcz46_0 : w41.cell? ⟨gb177, 0, none⟩ = some (.int .i64 0) := bc BK177 0
      have hcz46_1 : w41.cell? ⟨gb177, 1, none⟩ = some (.int .i64 0) := bc BK177 1
      have hfz46_0 := blk_frozen BK177.out 0
      have hfz46_1 := blk_frozen BK177.out 1
      try go_wp2
      refine bodyPost_ret (results_cell_row rfl _ _ gb177 86 #[.int .i64 a0_0, .int .i64 a0_1] (0, 0) _ rfl (by (with_reducible repeat (first | refine blk_drewN ?_ _ | refine blk_drew ?_ | refine blk_alloc ?_ _)); refine blk_put (cs := #[.int .i64 a0_0, .int .i64 0]) ?_ 1 _ rfl; (with_reducible repeat (first | refine blk_drewN ?_ _ | refine blk_drew ?_ | refine blk_alloc ?_ _)); refine blk_put (cs := #[.int .i64 0, .int .i64 0]) ?_ 0 _ rfl; (with_reducible repeat (first | refine blk_drewN ?_ _ | refine blk_drew ?_ | refine blk_alloc ?_ _)); exact BK177.out) Try.underlying86 rfl (by kernel_rfl)) rfl ?_
      exact ⟨by first | rfl | (simp [errW_none, errW_some] <;> rfl) | (simp [*, errW_none, errW_some] <;> rfl), Y3 HB GE175 GE176 GE177⟩
     ·rw [if_neg c37] at H
      have c37b0 : (a1_0 == t184 && (a1_1 == t185)) = false := by simpa using c37
      (try (have c37b1 : decide (a1_0 = t184 && (a1_1 == t185)) = false := by simpa using c37))
      (try (have c37b2 : (a1_0 == t184 && (a1_1 == t185)) = false := by simpa using c37))
      (try (have c37b3 : ¬ (a1_0 = t184 && (a1_1 == t185)) := by simpa using c37))
      clear c37
      replace H := Option.bind_eq_some_iff.mp H
      obtain ⟨t186, A470, H⟩ := H
      replace H : ((spec_l8Max.f a0_1 a1_1).bind fun t187 => (some (t186, t187))) = some (r1, r2) := H
      have A47 := am A470
      clear A470
      replace H := Option.bind_eq_some_iff.mp H
      obtain ⟨t187, A480, H⟩ := H
      replace H : (some (t186, t187)) = some (r1, r2) := H
      have A48 := am A480
      clear A480
      simp only [Option.some.injEq, Prod.mk.injEq] at H
      obtain ⟨rfl, rfl⟩ := H
      try go_wp2
      have n0_ := am (blk_drew BK175.out)
      have n1_ := am (blk_drew BK176.out)
      have n2_ := am (blk_drew BK177.out)
      have n3_ := am (below_drew1 HB.out)
      clear BK175
      clear BK176
      clear BK177
      clear HB
      have BK175 := n0_
      have BK176 := n1_
      have BK177 := n2_
      have HB := n3_
      clear n0_ n1_ n2_ n3_
      refine start_ (n := 3) (S := fun w' => w'.cell? ⟨gb175, 0, none⟩ = some (.int .i64 a0_0) ∧ w'.cell? ⟨gb175, 1, none⟩ = some (.int .i64 a0_1)) (ds := []) #[F, F, F] (by kernel_rfl) rfl rfl ⟨bc BK175 0, bc BK175 1⟩ (fun hHeld => ?_)
      generalize wc.drew = w49 at BK175 BK176 BK177 HB hHeld ⊢
      refine take_ (i := 0) (N := some 14) (v := ?_) (a' := ?_) #[T, F, F] rfl rfl (by kernel_rfl) (fun _ _ _ h => h) (Or.inl ⟨by rfl, ?_⟩) hHeld ?_ ?_
      rotate_left
      ·rintro w' ⟨s0, s1⟩
       go_simp
       with_reducible rfl
      rotate_left
      ·exact pz
      refine one_ (i := 1) (N := some 15) #[T, T, F] rfl rfl (by kernel_rfl) (by decide) (fun K hK => ?_)
      refine goes_ Try.func123 (by kernel_rfl) rfl #[] (by rfl) rfl rfl mz ?_
      with_reducible refine (spec_l8None.calls  t182 t183 _ A27.out).mono ?_
      rintro e w50 ⟨rfl, hb⟩
      refine ⟨_, rfl, ?_⟩
      have n0_ := am (blk_below (g := gb175) (o := b2 a0_0 a0_1 86) (Z BK175) hb)
      have n1_ := am (blk_below (g := gb176) (o := b2 a1_0 a1_1 86) (Z BK176) hb)
      have n2_ := am (blk_below (g := gb177) (o := b2 0 0 86) (Z BK177) hb)
      have n3_ := am (below_step (Y3 HB GE175 GE176 GE177) hb)
      clear BK175
      clear BK176
      clear BK177
      clear HB
      have BK175 := n0_
      have BK176 := n1_
      have BK177 := n2_
      have HB := n3_
      clear n0_ n1_ n2_ n3_
      (try clear hb)
      (try clear hb2)
      (try clear hk)
      (try clear hi)
      refine hK.out _ _ ⟨bc BK175 0, bc BK175 1⟩ (fun hHeld => ?_)
      clear hK K
      refine norm_ (a' := ?_) ?_ ?_
      rotate_left
      ·show Act.put _ (some 15) _ = _
       simp only [Act.put, List.setIfInBounds_toArray, List.set_cons_zero, List.set_cons_succ, i64_w, i32_w]
       rfl
      refine pure_ (i := 2) (N := some 16) (v := ?_) (a' := ?_) #[T, T, T] rfl rfl (by kernel_rfl) (fun _ _ _ h => h) (Or.inl ⟨by rfl, ?_⟩) ?_ ?_
      rotate_left
      ·exact gz
      rotate_left
      ·exact pz
      refine done_ (by kernel_rfl) ?_
      try go_wp2
      have n0_ := am (blk_drew BK175.out)
      have n1_ := am (blk_drew BK176.out)
      have n2_ := am (blk_drew BK177.out)
      have n3_ := am (below_drew1 HB.out)
      clear BK175
      clear BK176
      clear BK177
      clear HB
      have BK175 := n0_
      have BK176 := n1_
      have BK177 := n2_
      have HB := n3_
      clear n0_ n1_ n2_ n3_
      refine start_ (n := 3) (S := fun w' => w'.cell? ⟨gb176, 0, none⟩ = some (.int .i64 a1_0) ∧ w'.cell? ⟨gb176, 1, none⟩ = some (.int .i64 a1_1)) (ds := []) #[F, F, F] (by kernel_rfl) rfl rfl ⟨bc BK176 0, bc BK176 1⟩ (fun hHeld => ?_)
      generalize w50.drew = w51 at BK175 BK176 BK177 HB hHeld ⊢
      refine take_ (i := 0) (N := some 18) (v := ?_) (a' := ?_) #[T, F, F] rfl rfl (by kernel_rfl) (fun _ _ _ h => h) (Or.inl ⟨by rfl, ?_⟩) hHeld ?_ ?_
      rotate_left
      ·rintro w' ⟨s0, s1⟩
       go_simp
       with_reducible rfl
      rotate_left
      ·exact pz
      refine one_ (i := 1) (N := some 19) #[T, T, F] rfl rfl (by kernel_rfl) (by decide) (fun K hK => ?_)
      refine goes_ Try.func123 (by kernel_rfl) rfl #[] (by rfl) rfl rfl mz ?_
      with_reducible refine (spec_l8None.calls  t184 t185 _ A36.out).mono ?_
      rintro e w52 ⟨rfl, hb⟩
      refine ⟨_, rfl, ?_⟩
      have n0_ := am (blk_below (g := gb175) (o := b2 a0_0 a0_1 86) (Z BK175) hb)
      have n1_ := am (blk_below (g := gb176) (o := b2 a1_0 a1_1 86) (Z BK176) hb)
      have n2_ := am (blk_below (g := gb177) (o := b2 0 0 86) (Z BK177) hb)
      have n3_ := am (below_step (Y3 HB GE175 GE176 GE177) hb)
      clear BK175
      clear BK176
      clear BK177
      clear HB
      have BK175 := n0_
      have BK176 := n1_
      have BK177 := n2_
      have HB := n3_
      clear n0_ n1_ n2_ n3_
      (try clear hb)
      (try clear hb2)
      (try clear hk)
      (try clear hi)
      refine hK.out _ _ ⟨bc BK176 0, bc BK176 1⟩ (fun hHeld => ?_)
      clear hK K
      refine norm_ (a' := ?_) ?_ ?_
      rotate_left
      ·show Act.put _ (some 19) _ = _
       simp only [Act.put, List.setIfInBounds_toArray, List.set_cons_zero, List.set_cons_succ, i64_w, i32_w]
       rfl
      refine pure_ (i := 2) (N := some 20) (v := ?_) (a' := ?_) #[T, T, T] rfl rfl (by kernel_rfl) (fun _ _ _ h => h) (Or.inl ⟨by rfl, ?_⟩) ?_ ?_
      rotate_left
      ·exact gz
      rotate_left
      ·exact pz
      refine done_ (by kernel_rfl) ?_
      try go_wp2
      have n0_ := am (blk_drew BK175.out)
      have n1_ := am (blk_drew BK176.out)
      have n2_ := am (blk_drew BK177.out)
      have n3_ := am (below_drew1 HB.out)
      clear BK175
      clear BK176
      clear BK177
      clear HB
      have BK175 := n0_
      have BK176 := n1_
      have BK177 := n2_
      have HB := n3_
      clear n0_ n1_ n2_ n3_
      refine start_ (n := 12) (S := fun w' => w'.cell? ⟨gb175, 0, none⟩ = some (.int .i64 a0_0) ∧ w'.cell? ⟨gb175, 1, none⟩ = some (.int .i64 a0_1) ∧ w'.cell? ⟨gb176, 0, none⟩ = some (.int .i64 a1_0) ∧ w'.cell? ⟨gb176, 1, none⟩ = some (.int .i64 a1_1)) (ds := []) #[F, F, F, F, F, F, F, F, F, F, F, F] (by kernel_rfl) rfl rfl ⟨bc BK175 0, bc BK175 1, bc BK176 0, bc BK176 1⟩ (fun hHeld => ?_); refine with_tabW spec_RangeJoin.tab7 spec_RangeJoin.bits7 (fun HT_ HW_ => ?_)
      generalize w52.drew = w53 at BK175 BK176 BK177 HB hHeld ⊢
      refine pure_ (i := 0) (N := some 22) (v := ?_) (a' := ?_) #[T, F, F, F, F, F, F, F, F, F, F, F] rfl rfl (any_of HT_.out (by kernel_rfl)) (fun _ _ _ h => h) (Or.inl ⟨by rfl, ?_⟩) ?_ ?_
      rotate_left
      ·exact gz
      rotate_left
      ·exact pz
      refine pure_ (i := 2) (N := some 24) (v := ?_) (a' := ?_) #[T, F, T, F, F, F, F, F, F, F, F, F] rfl rfl (any_of HT_.out (by kernel_rfl)) (fun _ _ _ h => h) (Or.inl ⟨by rfl, ?_⟩) ?_ ?_
      rotate_left
      ·exact gz
      rotate_left
      ·exact pz
      refine pure_ (i := 5) (N := some 27) (v := ?_) (a' := ?_) #[T, F, T, F, F, T, F, F, F, F, F, F] rfl rfl (any_of HT_.out (by kernel_rfl)) (fun _ _ _ h => h) (Or.inl ⟨by rfl, ?_⟩) ?_ ?_
      rotate_left
      ·exact gz
      rotate_left
      ·exact pz
      refine pure_ (i := 7) (N := some 29) (v := ?_) (a' := ?_) #[T, F, T, F, F, T, F, T, F, F, F, F] rfl rfl (any_of HT_.out (by kernel_rfl)) (fun _ _ _ h => h) (Or.inl ⟨by rfl, ?_⟩) ?_ ?_
      rotate_left
      ·exact gz
      rotate_left
      ·exact pz
      refine take_ (i := 1) (N := some 23) (v := ?_) (a' := ?_) #[T, T, T, F, F, T, F, T, F, F, F, F] rfl rfl (take_ofW HT_.out HW_.out (by kernel_rfl)) (fun _ _ _ h => h) (Or.inl ⟨by rfl, ?_⟩) hHeld ?_ ?_
      rotate_left
      ·rintro w' ⟨s0, s1, s2, s3⟩
       go_simp
       with_reducible rfl
      rotate_left
      ·exact pz
      refine take_ (i := 3) (N := some 25) (v := ?_) (a' := ?_) #[T, T, T, T, F, T, F, T, F, F, F, F] rfl rfl (take_ofW HT_.out HW_.out (by kernel_rfl)) (fun _ _ _ h => h) (Or.inl ⟨by rfl, ?_⟩) hHeld ?_ ?_
      rotate_left
      ·rintro w' ⟨s0, s1, s2, s3⟩
       go_simp
       with_reducible rfl
      rotate_left
      ·exact pz
      refine take_ (i := 6) (N := some 28) (v := ?_) (a' := ?_) #[T, T, T, T, F, T, T, T, F, F, F, F] rfl rfl (take_ofW HT_.out HW_.out (by kernel_rfl)) (fun _ _ _ h => h) (Or.inl ⟨by rfl, ?_⟩) hHeld ?_ ?_
      rotate_left
      ·rintro w' ⟨s0, s1, s2, s3⟩
       go_simp
       with_reducible rfl
      rotate_left
      ·exact pz
      refine take_ (i := 8) (N := some 30) (v := ?_) (a' := ?_) #[T, T, T, T, F, T, T, T, T, F, F, F] rfl rfl (take_ofW HT_.out HW_.out (by kernel_rfl)) (fun _ _ _ h => h) (Or.inl ⟨by rfl, ?_⟩) hHeld ?_ ?_
      rotate_left
      ·rintro w' ⟨s0, s1, s2, s3⟩
       go_simp
       with_reducible rfl
      rotate_left
      ·exact pz
      refine one_ (i := 4) (N := some 26) #[T, T, T, T, T, T, T, T, T, F, F, F] rfl rfl (one_of HT_.out (by kernel_rfl)) (by decide) (fun K hK => ?_)
      refine goes_ Try.func126 (by kernel_rfl) rfl #[.int .i64 a0_0, .int .i64 a1_0] (by rfl) rfl rfl mz ?_
      with_reducible refine (spec_l8Min.calls a0_0 a1_0 t186 _ A47.out).mono ?_
      rintro e w' ⟨rfl, ⟨nd, rfl⟩⟩
      refine ⟨_, rfl, ?_⟩
      refine hK.out _ _ ⟨bc BK175 0, bc BK175 1, bc BK176 0, bc BK176 1⟩ (fun hHeld => ?_)
      clear hK K
      refine norm_ (a' := ?_) ?_ ?_
      rotate_left
      ·show Act.put _ (some 26) _ = _
       simp only [Act.put, List.setIfInBounds_toArray, List.set_cons_zero, List.set_cons_succ, i64_w, i32_w]
       rfl
      refine one_ (i := 9) (N := some 31) #[T, T, T, T, T, T, T, T, T, T, F, F] rfl rfl (one_of HT_.out (by kernel_rfl)) (by decide) (fun K hK => ?_)
      refine goes_ Try.func127 (by kernel_rfl) rfl #[.int .i64 a0_1, .int .i64 a1_1] (by rfl) rfl rfl mz ?_
      with_reducible refine (spec_l8Max.calls a0_1 a1_1 t187 _ A48.out).mono ?_
      rintro e w' ⟨rfl, ⟨nd, rfl⟩⟩
      refine ⟨_, rfl, ?_⟩
      refine hK.out _ _ ⟨bc BK175 0, bc BK175 1, bc BK176 0, bc BK176 1⟩ (fun hHeld => ?_)
      clear hK K
      refine norm_ (a' := ?_) ?_ ?_
      rotate_left
      ·show Act.put _ (some 31) _ = _
       simp only [Act.put, List.setIfInBounds_toArray, List.set_cons_zero, List.set_cons_succ, i64_w, i32_w]
       rfl
      refine pure_ (i := 10) (N := some 32) (v := ?_) (a' := ?_) #[T, T, T, T, T, T, T, T, T, T, T, F] rfl rfl (any_of HT_.out (by kernel_rfl)) (fun _ _ _ h => h) (Or.inl ⟨by rfl, ?_⟩) ?_ ?_
      rotate_left
      ·exact gz
      rotate_left
      ·exact pz
      refine one_ (i := 11) (N := none) #[T, T, T, T, T, T, T, T, T, T, T, T] rfl rfl (one_of HT_.out (by kernel_rfl)) (by decide) (fun K hK => ?_)
      have hs54 : w53.cell? ⟨gb177, 0, none⟩ = some (.int .i64 0) := bc BK177 0
      have hfs54 := blk_frozen BK177.out 0
      have hns54_0 := NB175_177.out
      have hns54_1 := NB176_177.out
      have hms54_0 := NB177_175.out
      have hms54_1 := NB177_176.out
      have hs55 : w53.cell? ⟨gb177, 1, none⟩ = some (.int .i64 0) := bc BK177 1
      have hfs55 := blk_frozen BK177.out 1
      have hns55_0 := NB175_177.out
      have hns55_1 := NB176_177.out
      have hms55_0 := NB177_175.out
      have hms55_1 := NB177_176.out
      refine skip_ (w1 := ?_) (by rfl) rfl ?_ ?_
      rotate_left
      ·go_simp
       rfl
      refine hK.out _ _ ⟨((cell_far (p := ⟨gb177, _, none⟩) NB175_177.out _).trans (((cell_far (p := ⟨gb177, _, none⟩) NB175_177.out _).trans (hHeld.1)))), ((cell_far (p := ⟨gb177, _, none⟩) NB175_177.out _).trans (((cell_far (p := ⟨gb177, _, none⟩) NB175_177.out _).trans (hHeld.2.1)))), ((cell_far (p := ⟨gb177, _, none⟩) NB176_177.out _).trans (((cell_far (p := ⟨gb177, _, none⟩) NB176_177.out _).trans (hHeld.2.2.1)))), ((cell_far (p := ⟨gb177, _, none⟩) NB176_177.out _).trans (((cell_far (p := ⟨gb177, _, none⟩) NB176_177.out _).trans (hHeld.2.2.2))))⟩ (fun hHeld => ?_)
      clear hK K
      refine done_ (done_of HT_.out (by kernel_rfl)) ?_
      try go_wp2
      refine bodyPost_ret (results_cell_row rfl _ _ gb177 86 #[.int .i64 t186, .int .i64 t187] (0, 0) _ rfl (by (with_reducible repeat (first | refine blk_drewN ?_ _ | refine blk_drew ?_ | refine blk_alloc ?_ _)); refine blk_put (cs := #[.int .i64 t186, .int .i64 0]) ?_ 1 _ rfl; (with_reducible repeat (first | refine blk_drewN ?_ _ | refine blk_drew ?_ | refine blk_alloc ?_ _)); refine blk_put (cs := #[.int .i64 0, .int .i64 0]) ?_ 0 _ rfl; (with_reducible repeat (first | refine blk_drewN ?_ _ | refine blk_drew ?_ | refine blk_alloc ?_ _)); exact BK177.out) Try.underlying86 rfl (by kernel_rfl)) rfl ?_
      exact ⟨by first | rfl | (simp [errW_none, errW_some] <;> rfl) | (simp [*, errW_none, errW_some] <;> rfl), Y3 HB GE175 GE176 GE177⟩

/-! ### spec_l9All: function 128 -/
def spec_l9All.f  : Option (Int × Int) := some (1, 0)
set_option maxHeartbeats 8000000 in
set_option maxRecDepth 100000 in
theorem spec_l9All.calls  (r1 : Int) (r2 : Int) (w : World) (h : spec_l9All.f  = some (r1, r2)) :
  Calls Try.prog 128 #[] w fun e w' => e = .returned (.agg #[.int .i64 r1, .int .i64 r2]) ∧ Below w.heap.size w w' := by
 have hu90 := Try.underlying90
 have HB := am (Below.refl w.heap.size w)
 have H : (some (1, 0)) = some (r1, r2) := h
 clear h
 simp only [Option.some.injEq, Prod.mk.injEq] at H
 obtain ⟨rfl, rfl⟩ := H
 go_enter Try.func128, Try.ntmps128
 go_wp2_with (first | ((with_reducible refine gate_dst (N := 0) rfl ?_); refine box_event ?hg (N := 0) ?hd (cs := #[.int .i64 0, .int .i64 0]) (t := 90) ?hr ?_; (case hd => rfl); (case hg => rfl); (case hr => first | (go_simp; done) | (go_simp; rfl)); intro gb188 hg w1 hbox hb; have n0_ := am (below_step (Y0 HB) hb); have n1_ := am (hbox); have n2_ := am ((by rw [hg]; exact (below_size (Y0 HB)) : w.heap.size ≤ gb188)); have n3_ := am ((by rw [hg]; exact (below_size (Y0 HB)) : w.heap.size ≤ gb188)); clear HB; have HB := n0_; have BK188 := n1_; have GW188 := n2_; have GE188 := n3_; clear n0_ n1_ n2_ n3_; clear hb hbox hg; have hcz2_0 : w1.cell? ⟨gb188, 0, none⟩ = some (.int .i64 0) := bc BK188 0; have hcz2_1 : w1.cell? ⟨gb188, 1, none⟩ = some (.int .i64 0) := bc BK188 1; have hfz2_0 := blk_frozen BK188.out 0; have hfz2_1 := blk_frozen BK188.out 1))
 refine bodyPost_ret (results_cell_row rfl _ _ gb188 90 #[.int .i64 1, .int .i64 0] (0, 0) _ rfl (by (with_reducible repeat (first | refine blk_drewN ?_ _ | refine blk_drew ?_ | refine blk_alloc ?_ _)); refine blk_put (cs := #[.int .i64 1, .int .i64 0]) ?_ 1 _ rfl; (with_reducible repeat (first | refine blk_drewN ?_ _ | refine blk_drew ?_ | refine blk_alloc ?_ _)); refine blk_put (cs := #[.int .i64 0, .int .i64 0]) ?_ 0 _ rfl; (with_reducible repeat (first | refine blk_drewN ?_ _ | refine blk_drew ?_ | refine blk_alloc ?_ _)); exact BK188.out) Try.underlying90 rfl (by kernel_rfl)) rfl ?_
 exact ⟨by first | rfl | (simp [errW_none, errW_some] <;> rfl) | (simp [*, errW_none, errW_some] <;> rfl), Y1 HB GE188⟩

end Go.Proofs.Ytnmccgjdnceheaa.PFnExactValWiden
