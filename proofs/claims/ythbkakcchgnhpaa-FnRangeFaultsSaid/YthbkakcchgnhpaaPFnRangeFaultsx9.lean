/- Written by this session's own driver (wip/dprint.py): the functions that the law FnRangeFaults reaches, as Lean functions, each with its contract. -/
import Derived.Test.YthbkakcchgnhpaaPFnRangeFaultsx0
import Derived.Test.YthbkakcchgnhpaaPFnRangeFaultsx3
import Derived.Test.YthbkakcchgnhpaaPFnRangeFaultsx5
import Derived.Test.YthbkakcchgnhpaaPFnRangeFaultsx8
import Derived.Test.YthbkakcchgnhpaaSv
namespace Go.Proofs.Ythbkakcchgnhpaa.PFnRangeFaults
open Go.RowKit Go.Proofs.YthbkakcchgnhpaaV.PrintWords Go.Proofs.YthbkakcchgnhpaaV.PrintLast Go.Proofs.YthbkakcchgnhpaaV.PrintMore Go.Proofs.YthbkakcchgnhpaaSv
attribute [local go_sem] max2_int min2_int max_two min_two max_three min_three max_four min_four   -- for this text's walks alone
set_option linter.unusedVariables false
set_option linter.unusedSimpArgs false

/-! ### spec_l8Bits: function 40 -/
attribute [local go_sem] Go.Proofs.YthbkakcchgnhpaaSet.isSome_setCell
mutual
def spec_l8Bits.j0 : Nat → Int → Bool → Int → Int → Int → Int → Option (Int × Int)
 | 0, _, _, _, _, _, _ => none
 | k + 1, x0, x19, x230000, x230001, x231000, x231001 => if x19 = true then ((spec_l1Bits.f k x0 x230000 x231000).bind fun t232 => (some (t232, t232))) else (if x0 = 6 then (if x230000 ≥ 0 then (spec_l8Bits.j1 k x0 (decide (x231000 ≥ 0)) x230000 x230001 x231000 x231001) else (spec_l8Bits.j1 k x0 false x230000 x230001 x231000 x231001)) else (spec_l8Bits.j1 k x0 false x230000 x230001 x231000 x231001))
def spec_l8Bits.j1 : Nat → Int → Bool → Int → Int → Int → Int → Option (Int × Int)
 | 0, _, _, _, _, _, _ => none
 | k + 1, x0, x40, x230000, x230001, x231000, x231001 => if x40 = true then ((spec_l8Min.f x230001 x231001).bind fun t233 => (some (0, t233))) else (if x0 = 6 then (spec_l8Bits.j2 k x0 (decide (x230000 ≥ 0)) x230000 x230001 x231000 x231001) else (spec_l8Bits.j2 k x0 false x230000 x230001 x231000 x231001))
def spec_l8Bits.j2 : Nat → Int → Bool → Int → Int → Int → Int → Option (Int × Int)
 | 0, _, _, _, _, _, _ => none
 | k + 1, x0, x53, x230000, x230001, x231000, x231001 => if x53 = true then (some (0, x230001)) else (if x0 = 6 then (spec_l8Bits.j3 k x0 (decide (x231000 ≥ 0)) x230000 x230001 x231000 x231001) else (spec_l8Bits.j3 k x0 false x230000 x230001 x231000 x231001))
def spec_l8Bits.j3 : Nat → Int → Bool → Int → Int → Int → Int → Option (Int × Int)
 | 0, _, _, _, _, _, _ => none
 | k + 1, x0, x63, x230000, x230001, x231000, x231001 => if x63 = true then (some (0, x231001)) else (if x230000 ≥ 0 then (if x231000 ≥ 0 then (spec_l8Bits.j4 k x0 (x0 == 7) x230000 x230001 x231000 x231001) else (spec_l8Bits.j4 k x0 false x230000 x230001 x231000 x231001)) else (spec_l8Bits.j4 k x0 false x230000 x230001 x231000 x231001))
def spec_l8Bits.j4 : Nat → Int → Bool → Int → Int → Int → Int → Option (Int × Int)
 | 0, _, _, _, _, _, _ => none
 | k + 1, x0, x78, x230000, x230001, x231000, x231001 => if x78 = true then ((spec_l8Max.f x230000 x231000).bind fun t234 => ((spec_l8Max.f x230001 x231001).bind fun t235 => ((spec_l8Mask.f k t235).bind fun t236 => (some (t234, t236))))) else (if x230000 ≥ 0 then (if x231000 ≥ 0 then (spec_l8Bits.j5 k (x0 == 8) x230000 x230001 x231000 x231001) else (spec_l8Bits.j5 k false x230000 x230001 x231000 x231001)) else (spec_l8Bits.j5 k false x230000 x230001 x231000 x231001))
def spec_l8Bits.j5 : Nat → Bool → Int → Int → Int → Int → Option (Int × Int)
 | 0, _, _, _, _, _ => none
 | k + 1, x102, x230000, x230001, x231000, x231001 => if x102 = true then ((spec_l8Max.f x230001 x231001).bind fun t237 => ((spec_l8Mask.f k t237).bind fun t238 => (some (0, t238)))) else (some ((-2147483648), 2147483647))
end
def spec_l8Bits.f (k : Nat) (a0 : Int) (a1_0 : Int) (a1_1 : Int) (a2_0 : Int) (a2_1 : Int) : Option (Int × Int) := if a1_0 = a1_1 then (spec_l8Bits.j0 k a0 (a2_0 == a2_1) a1_0 a1_1 a2_0 a2_1) else (spec_l8Bits.j0 k a0 false a1_0 a1_1 a2_0 a2_1)
theorem spec_l8Bits.mono_l : ∀ k, (∀ y0 y1 y2 y3 y4 y5, LeO (spec_l8Bits.j0 k y0 y1 y2 y3 y4 y5) (spec_l8Bits.j0 (k + 1) y0 y1 y2 y3 y4 y5)) ∧ (∀ y0 y1 y2 y3 y4 y5, LeO (spec_l8Bits.j1 k y0 y1 y2 y3 y4 y5) (spec_l8Bits.j1 (k + 1) y0 y1 y2 y3 y4 y5)) ∧ (∀ y0 y1 y2 y3 y4 y5, LeO (spec_l8Bits.j2 k y0 y1 y2 y3 y4 y5) (spec_l8Bits.j2 (k + 1) y0 y1 y2 y3 y4 y5)) ∧ (∀ y0 y1 y2 y3 y4 y5, LeO (spec_l8Bits.j3 k y0 y1 y2 y3 y4 y5) (spec_l8Bits.j3 (k + 1) y0 y1 y2 y3 y4 y5)) ∧ (∀ y0 y1 y2 y3 y4 y5, LeO (spec_l8Bits.j4 k y0 y1 y2 y3 y4 y5) (spec_l8Bits.j4 (k + 1) y0 y1 y2 y3 y4 y5)) ∧ (∀ y0 y1 y2 y3 y4, LeO (spec_l8Bits.j5 k y0 y1 y2 y3 y4) (spec_l8Bits.j5 (k + 1) y0 y1 y2 y3 y4))
 | 0 => ⟨fun _ _ _ _ _ _ r h => by simp [spec_l8Bits.j0] at h, fun _ _ _ _ _ _ r h => by simp [spec_l8Bits.j1] at h, fun _ _ _ _ _ _ r h => by simp [spec_l8Bits.j2] at h, fun _ _ _ _ _ _ r h => by simp [spec_l8Bits.j3] at h, fun _ _ _ _ _ _ r h => by simp [spec_l8Bits.j4] at h, fun _ _ _ _ _ r h => by simp [spec_l8Bits.j5] at h⟩
 | k + 1 => by
  obtain ⟨ih0, ih1, ih2, ih3, ih4, ih5⟩ := spec_l8Bits.mono_l k
  refine ⟨?_, ?_, ?_, ?_, ?_, ?_⟩ <;> (intros; (first | unfold spec_l8Bits.j0 | unfold spec_l8Bits.j1 | unfold spec_l8Bits.j2 | unfold spec_l8Bits.j3 | unfold spec_l8Bits.j4 | unfold spec_l8Bits.j5); repeat' first | (with_reducible first | apply ih0 | apply ih1 | apply ih2 | apply ih3 | apply ih4 | apply ih5 | apply spec_l1Bits.mono | apply spec_l8Mask.mono | apply LeO.refl | apply LeO.none | refine LeO.ite ?_ ?_ | refine LeO.bind ?_ (fun _ => ?_)) | apply ih0 | apply ih1 | apply ih2 | apply ih3 | apply ih4 | apply ih5 | apply spec_l1Bits.mono | apply spec_l8Mask.mono | apply LeO.none | refine LeO.ite ?_ ?_ | refine LeO.bind ?_ (fun _ => ?_))
theorem spec_l8Bits.mono : ∀ a0 a1 a2 a3 a4 k, LeO (spec_l8Bits.f k a0 a1 a2 a3 a4) (spec_l8Bits.f (k + 1) a0 a1 a2 a3 a4) := by
 intro a0 a1 a2 a3 a4 k
 obtain ⟨ih0, ih1, ih2, ih3, ih4, ih5⟩ := spec_l8Bits.mono_l k
 unfold spec_l8Bits.f
 repeat' first | (with_reducible first | apply ih0 | apply ih1 | apply ih2 | apply ih3 | apply ih4 | apply ih5 | apply spec_l1Bits.mono | apply spec_l8Mask.mono | apply LeO.refl | apply LeO.none | refine LeO.ite ?_ ?_ | refine LeO.bind ?_ (fun _ => ?_)) | apply ih0 | apply ih1 | apply ih2 | apply ih3 | apply ih4 | apply ih5 | apply spec_l1Bits.mono | apply spec_l8Mask.mono | apply LeO.none | refine LeO.ite ?_ ?_ | refine LeO.bind ?_ (fun _ => ?_)
def spec_l8Bits.T11 : Bool × List (List Nat × List Nat) := (true, [([], []), ([0], [0]), ([], []), ([2], [2]), ([1, 3], [1, 3]), ([], []), ([5], [5]), ([], []), ([7], [7]), ([6, 8, 4], [6, 8]), ([9, 9], [9]), ([4, 10], [4, 10]), ([11, 10, 0, 1, 2, 3, 4, 5, 6, 7, 8, 9, 10, 11], [11])])
def spec_l8Bits.B11 : List Nat := [0, 1, 0, 4, 15, 0, 32, 0, 128, 511, 1023, 2047, 4095]
theorem spec_l8Bits.tab11 : rtab .any (opsOf Try.f40 11) = spec_l8Bits.T11 := by kernel_rfl
theorem spec_l8Bits.bits11 : waitsOk spec_l8Bits.T11.2 spec_l8Bits.B11 = true := by kernel_rfl
set_option maxHeartbeats 8000000 in
set_option maxRecDepth 100000 in
theorem spec_l8Bits.calls (k : Nat) (a0 : Int) (a1_0 : Int) (a1_1 : Int) (a2_0 : Int) (a2_1 : Int) (r1 : Int) (r2 : Int) (w : World) (h : spec_l8Bits.f k a0 a1_0 a1_1 a2_0 a2_1 = some (r1, r2)) :
  Calls Try.prog 40 #[.int .i64 a0, .agg #[.int .i64 a1_0, .int .i64 a1_1], .agg #[.int .i64 a2_0, .int .i64 a2_1]] w fun e w' => e = .returned (.agg #[.int .i64 r1, .int .i64 r2]) ∧ Below w.heap.size w w' := by
 have hu24 := Try.underlying24
 have HB := am (Below.refl w.heap.size w)
 have H : (if a1_0 = a1_1 then (spec_l8Bits.j0 k a0 (a2_0 == a2_1) a1_0 a1_1 a2_0 a2_1) else (spec_l8Bits.j0 k a0 false a1_0 a1_1 a2_0 a2_1)) = some (r1, r2) := h
 clear h
 have HC4 := am H
 clear H
 go_enter Try.func40, Try.ntmps40
 go_upto_region 1 with (first | ((with_reducible refine gate_dst (N := 4) rfl ?_); refine bx 4 #[.int .i64 a1_0, .int .i64 a1_1] 24 ?_; intro gb229 hg w5 hbox hb; have BK229 := am (hbox); have GW229 := am (bs hg (YA HB)); have GE229 := GW229; replace HB := am (below_step (YA HB) hb); clear hb hbox hg) | ((with_reducible refine gate_dst (N := 5) rfl ?_); refine bx 5 #[.int .i64 a2_0, .int .i64 a2_1] 24 ?_; intro gb230 hg w6 hbox hb; have BK230 := am (hbox); have GW230 := am (bs hg (YA HB)); have GE230 := GW230; obtain ⟨NB229_230,NB230_229⟩ := ne_ hg BK229; obtain ⟨BK229, HB⟩ := bk1 BK229 HB hb; clear hb hbox hg) | ((with_reducible refine gate_dst (N := 6) rfl ?_); refine bx 6 #[.int .i64 0, .int .i64 0] 24 ?_; intro gb231 hg w7 hbox hb; have BK231 := am (hbox); have GW231 := am (bs hg (YA HB)); have GE231 := GW231; obtain ⟨NB229_231,NB231_229⟩ := ne_ hg BK229; obtain ⟨NB230_231,NB231_230⟩ := ne_ hg BK230; obtain ⟨BK229, BK230, HB⟩ := bk2 BK229 BK230 HB hb; clear hb hbox hg))
 (try simp only [Act.put, List.setIfInBounds_toArray, List.set_cons_zero, List.set_cons_succ])
 go_cut [19] (fun v19 wc => ∃ (kq : Nat) (x19_3 : Bool), v19 = .bool x19_3 ∧ Aside0 (spec_l8Bits.j0 kq a0 x19_3 a1_0 a1_1 a2_0 a2_1 = some (r1, r2)) ∧ Aside0 (kq ≤ k) ∧ Bx2 wc gb229 a1_0 a1_1 24 ∧ Bx2 wc gb230 a2_0 a2_1 24 ∧ Bx2 wc gb231 0 0 24 ∧ Aside0 (Below w.heap.size w wc))
 case first =>
  have H := HC4.out
  clear HC4
  by_cases c8 : a1_0 = a1_1
  rotate_left
  ·rw [if_neg c8] at H
   have c8b0 := eF c8
   have c8b1 := nT c8
   (first | rw [c8b0] | (simp only [i64_w, i32_w]; rw [c8b0]) | skip)
   have H' := am H
   clear H
   obtain ⟨hnb14,hnc14⟩ := nn NB229_230
   obtain ⟨hnb15,hnc15⟩ := nn NB229_231
   obtain ⟨hcz16_0,hcz16_1,hfz16_0,hfz16_1⟩ := cB2 BK229
   go_wp2
   go_meet
   case rel => exact ⟨_, (false), ey, H', le0, ⟨Z BK229⟩, ⟨Z BK230⟩, ⟨Z BK231⟩, ⟨YA HB⟩⟩
  rw [if_pos c8] at H
  have c8b0 := eT c8
  have c8b1 := nF c8
  clear c8
  (first | rw [c8b0] | (simp only [i64_w, i32_w]; rw [c8b0]) | skip)
  have H' := am H
  clear H
  obtain ⟨hnb9,hnc9⟩ := nn NB229_230
  obtain ⟨hnb10,hnc10⟩ := nn NB229_231
  obtain ⟨hcz11_0,hcz11_1,hfz11_0,hfz11_1⟩ := cB2 BK229
  obtain ⟨hnb12,hnc12⟩ := nn NB230_231
  obtain ⟨hcz13_0,hcz13_1,hfz13_0,hfz13_1⟩ := cB2 BK230
  go_wp2
  go_meet
  case rel => exact ⟨_, ((a2_0 == a2_1)), ey, H', le0, ⟨Z BK229⟩, ⟨Z BK230⟩, ⟨Z BK231⟩, ⟨YA HB⟩⟩
 case rest =>
  clear HC4
  obtain ⟨kq, x19_3, rfl, HA, HJ3, BK229, BK230, BK231, HB⟩ := hcut
  cases kq with
  | zero => exact absurd HA.out (by simp [spec_l8Bits.j0])
  | succ kj3 =>
   have H := HA.out
   clear HA
   simp only [spec_l8Bits.j0] at H
   by_cases c17 : x19_3 = true
   ·subst c17
    rw [if_pos rfl] at H
    obtain ⟨t232, A18, H⟩ := bd H
    try dsimp only at H
    simp only [Option.some.injEq, Prod.mk.injEq] at H
    obtain ⟨rfl, rfl⟩ := H
    obtain ⟨hnb19,hnc19⟩ := nn NB229_230
    obtain ⟨hnb20,hnc20⟩ := nn NB229_231
    obtain ⟨hcz21_0,hcz21_1,hfz21_0,hfz21_1⟩ := cB2 BK229
    obtain ⟨hnb22,hnc22⟩ := nn NB230_231
    obtain ⟨hcz23_0,hcz23_1,hfz23_0,hfz23_1⟩ := cB2 BK230
    go_wp2_with (first | ((with_reducible refine gate_callee (f := 90) rfl ?_); refine goesL_ (some 25) rfl rfl Try.func90 (by kernel_rfl) rfl #[.int .i64 a0, .int .i64 a1_0, .int .i64 a2_0] rfl mz ?_; (with_reducible refine (spec_l1Bits.calls _ _ _ _ _ _ A18.out).mono ?_); rintro e w' ⟨rfl, ⟨nd, rfl⟩⟩; refine ⟨_, rfl, ?_⟩; (try (rw [drewN_self wc]; generalize hq_ : World.drewN wc _ = wc; replace BK229 : Bx2 wc gb229 a1_0 a1_1 24 := ⟨by rw [← hq_]; exact (Z BK229)⟩; replace BK230 : Bx2 wc gb230 a2_0 a2_1 24 := ⟨by rw [← hq_]; exact (Z BK230)⟩; replace BK231 : Bx2 wc gb231 0 0 24 := ⟨by rw [← hq_]; exact (Z BK231)⟩; replace HB : Aside0 (Below w.heap.size w wc) := ⟨by rw [← hq_]; exact (YA HB)⟩; clear hq_)); obtain ⟨hcz24_0,hcz24_1,hfz24_0,hfz24_1⟩ := cB2 BK231))
    refine bodyPost_ret (results_cell_row rfl _ _ gb231 24 #[.int .i64 t232, .int .i64 t232] (0, 0) _ rfl (by refine pf ?_; refine blk_put (cs := #[.int .i64 t232, .int .i64 0]) ?_ 1 _ rfl; refine pf ?_; refine blk_put (cs := #[.int .i64 0, .int .i64 0]) ?_ 0 _ rfl; exact Z BK231) Try.underlying24 rfl (by kernel_rfl)) rfl ?_
    exact ⟨ez, YA HB⟩
   replace c17 := Bool.eq_false_iff.mpr c17
   subst c17
   rw [if_neg ff] at H
   have HC25 := am H
   clear H
   go_upto_region 4 with (fail)
   go_cut [40] (fun v40 wc => ∃ (kq : Nat) (x40_24 : Bool), v40 = .bool x40_24 ∧ Aside0 (spec_l8Bits.j1 kq a0 x40_24 a1_0 a1_1 a2_0 a2_1 = some (r1, r2)) ∧ Aside0 (kq ≤ kj3) ∧ Bx2 wc gb229 a1_0 a1_1 24 ∧ Bx2 wc gb230 a2_0 a2_1 24 ∧ Bx2 wc gb231 0 0 24 ∧ Aside0 (Below w.heap.size w wc))
   case first =>
    have H := HC25.out
    clear HC25
    by_cases c26 : a0 = 6
    rotate_left
    ·rw [if_neg c26] at H
     have c26b0 := eF c26
     have c26b1 := nT c26
     (first | rw [c26b0] | (simp only [i64_w, i32_w]; rw [c26b0]) | skip)
     have H' := am H
     clear H
     go_wp2
     go_meet
     case rel => exact ⟨_, (false), ey, H', le1 HJ3, ⟨Z BK229⟩, ⟨Z BK230⟩, ⟨Z BK231⟩, ⟨YA HB⟩⟩
    rw [if_pos c26] at H
    have c26b0 := eT c26
    have c26b1 := nF c26
    clear c26
    (first | rw [c26b0] | (simp only [i64_w, i32_w]; rw [c26b0]) | skip)
    by_cases c27 : a1_0 ≥ 0
    rotate_left
    ·rw [if_neg c27] at H
     have c27b0 := dF c27
     clear c27
     have H' := am H
     clear H
     obtain ⟨hnb33,hnc33⟩ := nn NB229_230
     obtain ⟨hnb34,hnc34⟩ := nn NB229_231
     obtain ⟨hcz35_0,hcz35_1,hfz35_0,hfz35_1⟩ := cB2 BK229
     go_wp2
     go_meet
     case rel => exact ⟨_, (false), ey, H', le1 HJ3, ⟨Z BK229⟩, ⟨Z BK230⟩, ⟨Z BK231⟩, ⟨YA HB⟩⟩
    rw [if_pos c27] at H
    have c27b0 := dT c27
    clear c27
    have H' := am H
    clear H
    obtain ⟨hnb28,hnc28⟩ := nn NB229_230
    obtain ⟨hnb29,hnc29⟩ := nn NB229_231
    obtain ⟨hcz30_0,hcz30_1,hfz30_0,hfz30_1⟩ := cB2 BK229
    obtain ⟨hnb31,hnc31⟩ := nn NB230_231
    obtain ⟨hcz32_0,hcz32_1,hfz32_0,hfz32_1⟩ := cB2 BK230
    go_wp2
    go_meet
    case rel => exact ⟨_, (decide (a2_0 ≥ 0)), ey, H', le1 HJ3, ⟨Z BK229⟩, ⟨Z BK230⟩, ⟨Z BK231⟩, ⟨YA HB⟩⟩
   case rest =>
    clear HC25
    try clear c17
    obtain ⟨kq, x40_24, rfl, HA, HJ24, BK229, BK230, BK231, HB⟩ := hcut
    cases kq with
    | zero => exact absurd HA.out (by simp [spec_l8Bits.j1])
    | succ kj24 =>
     have H := HA.out
     clear HA
     simp only [spec_l8Bits.j1] at H
     by_cases c36 : x40_24 = true
     ·subst c36
      rw [if_pos rfl] at H
      obtain ⟨t233, A37, H⟩ := bd H
      try dsimp only at H
      simp only [Option.some.injEq, Prod.mk.injEq] at H
      obtain ⟨rfl, rfl⟩ := H
      obtain ⟨hnb38,hnc38⟩ := nn NB229_230
      obtain ⟨hnb39,hnc39⟩ := nn NB229_231
      obtain ⟨hcz40_0,hcz40_1,hfz40_0,hfz40_1⟩ := cB2 BK229
      obtain ⟨hnb41,hnc41⟩ := nn NB230_231
      obtain ⟨hcz42_0,hcz42_1,hfz42_0,hfz42_1⟩ := cB2 BK230
      go_wp2_with (first | ((with_reducible refine gate_callee (f := 68) rfl ?_); refine goesL_ (some 45) rfl rfl Try.func68 (by kernel_rfl) rfl #[.int .i64 a1_1, .int .i64 a2_1] rfl mz ?_; (with_reducible refine (spec_l8Min.calls _ _ _ _ A37.out).mono ?_); rintro e w' ⟨rfl, ⟨nd, rfl⟩⟩; refine ⟨_, rfl, ?_⟩; (try (rw [drewN_self wc]; generalize hq_ : World.drewN wc _ = wc; replace BK229 : Bx2 wc gb229 a1_0 a1_1 24 := ⟨by rw [← hq_]; exact (Z BK229)⟩; replace BK230 : Bx2 wc gb230 a2_0 a2_1 24 := ⟨by rw [← hq_]; exact (Z BK230)⟩; replace BK231 : Bx2 wc gb231 0 0 24 := ⟨by rw [← hq_]; exact (Z BK231)⟩; replace HB : Aside0 (Below w.heap.size w wc) := ⟨by rw [← hq_]; exact (YA HB)⟩; clear hq_)); obtain ⟨hcz43_0,hcz43_1,hfz43_0,hfz43_1⟩ := cB2 BK231))
      refine bodyPost_ret (results_cell_row rfl _ _ gb231 24 #[.int .i64 0, .int .i64 t233] (0, 0) _ rfl (by refine pf ?_; refine blk_put (cs := #[.int .i64 0, .int .i64 0]) ?_ 1 _ rfl; refine pf ?_; refine blk_put (cs := #[.int .i64 0, .int .i64 0]) ?_ 0 _ rfl; exact Z BK231) Try.underlying24 rfl (by kernel_rfl)) rfl ?_
      exact ⟨ez, YA HB⟩
     replace c36 := Bool.eq_false_iff.mpr c36
     subst c36
     rw [if_neg ff] at H
     have HC44 := am H
     clear H
     go_upto_region 6 with (fail)
     go_cut [53] (fun v53 wc => ∃ (kq : Nat) (x53_43 : Bool), v53 = .bool x53_43 ∧ Aside0 (spec_l8Bits.j2 kq a0 x53_43 a1_0 a1_1 a2_0 a2_1 = some (r1, r2)) ∧ Aside0 (kq ≤ kj24) ∧ Bx2 wc gb229 a1_0 a1_1 24 ∧ Bx2 wc gb230 a2_0 a2_1 24 ∧ Bx2 wc gb231 0 0 24 ∧ Aside0 (Below w.heap.size w wc))
     case first =>
      have H := HC44.out
      clear HC44
      by_cases c45 : a0 = 6
      rotate_left
      ·rw [if_neg c45] at H
       have c45b0 := eF c45
       have c45b1 := nT c45
       (first | rw [c45b0] | (simp only [i64_w, i32_w]; rw [c45b0]) | skip)
       have H' := am H
       clear H
       go_wp2
       go_meet
       case rel => exact ⟨_, (false), ey, H', ⟨by have := HJ3.out; have := HJ24.out; first | omega | exact Nat.le_refl _⟩, ⟨Z BK229⟩, ⟨Z BK230⟩, ⟨Z BK231⟩, ⟨YA HB⟩⟩
      rw [if_pos c45] at H
      have c45b0 := eT c45
      have c45b1 := nF c45
      clear c45
      (first | rw [c45b0] | (simp only [i64_w, i32_w]; rw [c45b0]) | skip)
      have H' := am H
      clear H
      obtain ⟨hnb46,hnc46⟩ := nn NB229_230
      obtain ⟨hnb47,hnc47⟩ := nn NB229_231
      obtain ⟨hcz48_0,hcz48_1,hfz48_0,hfz48_1⟩ := cB2 BK229
      go_wp2
      go_meet
      case rel => exact ⟨_, (decide (a1_0 ≥ 0)), ey, H', ⟨by have := HJ3.out; have := HJ24.out; first | omega | exact Nat.le_refl _⟩, ⟨Z BK229⟩, ⟨Z BK230⟩, ⟨Z BK231⟩, ⟨YA HB⟩⟩
     case rest =>
      clear HC44
      try clear c36
      obtain ⟨kq, x53_43, rfl, HA, HJ43, BK229, BK230, BK231, HB⟩ := hcut
      cases kq with
      | zero => exact absurd HA.out (by simp [spec_l8Bits.j2])
      | succ kj43 =>
       have H := HA.out
       clear HA
       simp only [spec_l8Bits.j2] at H
       by_cases c49 : x53_43 = true
       ·subst c49
        rw [if_pos rfl] at H
        simp only [Option.some.injEq, Prod.mk.injEq] at H
        obtain ⟨rfl, rfl⟩ := H
        obtain ⟨hnb50,hnc50⟩ := nn NB229_230
        obtain ⟨hnb51,hnc51⟩ := nn NB229_231
        obtain ⟨hcz52_0,hcz52_1,hfz52_0,hfz52_1⟩ := cB2 BK229
        obtain ⟨hnb53,hnc53⟩ := nn NB231_230
        obtain ⟨hcz54_0,hcz54_1,hfz54_0,hfz54_1⟩ := cB2 BK231
        go_wp2
        refine bodyPost_ret (results_cell_row rfl _ _ gb231 24 #[.int .i64 0, .int .i64 a1_1] (0, 0) _ rfl (by refine pf ?_; refine blk_put (cs := #[.int .i64 0, .int .i64 0]) ?_ 1 _ rfl; refine pf ?_; refine blk_put (cs := #[.int .i64 0, .int .i64 0]) ?_ 0 _ rfl; exact Z BK231) Try.underlying24 rfl (by kernel_rfl)) rfl ?_
        exact ⟨ez, YA HB⟩
       replace c49 := Bool.eq_false_iff.mpr c49
       subst c49
       rw [if_neg ff] at H
       have HC55 := am H
       clear H
       go_upto_region 8 with (fail)
       go_cut [63] (fun v63 wc => ∃ (kq : Nat) (x63_54 : Bool), v63 = .bool x63_54 ∧ Aside0 (spec_l8Bits.j3 kq a0 x63_54 a1_0 a1_1 a2_0 a2_1 = some (r1, r2)) ∧ Aside0 (kq ≤ kj43) ∧ Bx2 wc gb229 a1_0 a1_1 24 ∧ Bx2 wc gb230 a2_0 a2_1 24 ∧ Bx2 wc gb231 0 0 24 ∧ Aside0 (Below w.heap.size w wc))
       case first =>
        have H := HC55.out
        clear HC55
        by_cases c56 : a0 = 6
        rotate_left
        ·rw [if_neg c56] at H
         have c56b0 := eF c56
         have c56b1 := nT c56
         (first | rw [c56b0] | (simp only [i64_w, i32_w]; rw [c56b0]) | skip)
         have H' := am H
         clear H
         go_wp2
         go_meet
         case rel => exact ⟨_, (false), ey, H', ⟨by have := HJ3.out; have := HJ24.out; have := HJ43.out; first | omega | exact Nat.le_refl _⟩, ⟨Z BK229⟩, ⟨Z BK230⟩, ⟨Z BK231⟩, ⟨YA HB⟩⟩
        rw [if_pos c56] at H
        have c56b0 := eT c56
        have c56b1 := nF c56
        clear c56
        (first | rw [c56b0] | (simp only [i64_w, i32_w]; rw [c56b0]) | skip)
        have H' := am H
        clear H
        obtain ⟨hnb57,hnc57⟩ := nn NB230_229
        obtain ⟨hnb58,hnc58⟩ := nn NB230_231
        obtain ⟨hcz59_0,hcz59_1,hfz59_0,hfz59_1⟩ := cB2 BK230
        go_wp2
        go_meet
        case rel => exact ⟨_, (decide (a2_0 ≥ 0)), ey, H', ⟨by have := HJ3.out; have := HJ24.out; have := HJ43.out; first | omega | exact Nat.le_refl _⟩, ⟨Z BK229⟩, ⟨Z BK230⟩, ⟨Z BK231⟩, ⟨YA HB⟩⟩
       case rest =>
        clear HC55
        try clear c49
        obtain ⟨kq, x63_54, rfl, HA, HJ54, BK229, BK230, BK231, HB⟩ := hcut
        cases kq with
        | zero => exact absurd HA.out (by simp [spec_l8Bits.j3])
        | succ kj54 =>
         have H := HA.out
         clear HA
         simp only [spec_l8Bits.j3] at H
         by_cases c60 : x63_54 = true
         ·subst c60
          rw [if_pos rfl] at H
          simp only [Option.some.injEq, Prod.mk.injEq] at H
          obtain ⟨rfl, rfl⟩ := H
          obtain ⟨hnb61,hnc61⟩ := nn NB230_229
          obtain ⟨hnb62,hnc62⟩ := nn NB230_231
          obtain ⟨hcz63_0,hcz63_1,hfz63_0,hfz63_1⟩ := cB2 BK230
          obtain ⟨hnb64,hnc64⟩ := nn NB231_229
          obtain ⟨hcz65_0,hcz65_1,hfz65_0,hfz65_1⟩ := cB2 BK231
          go_wp2
          refine bodyPost_ret (results_cell_row rfl _ _ gb231 24 #[.int .i64 0, .int .i64 a2_1] (0, 0) _ rfl (by refine pf ?_; refine blk_put (cs := #[.int .i64 0, .int .i64 0]) ?_ 1 _ rfl; refine pf ?_; refine blk_put (cs := #[.int .i64 0, .int .i64 0]) ?_ 0 _ rfl; exact Z BK231) Try.underlying24 rfl (by kernel_rfl)) rfl ?_
          exact ⟨ez, YA HB⟩
         replace c60 := Bool.eq_false_iff.mpr c60
         subst c60
         rw [if_neg ff] at H
         have HC66 := am H
         clear H
         go_upto_region 10 with (fail)
         go_cut [78] (fun v78 wc => ∃ (kq : Nat) (x78_65 : Bool), v78 = .bool x78_65 ∧ Aside0 (spec_l8Bits.j4 kq a0 x78_65 a1_0 a1_1 a2_0 a2_1 = some (r1, r2)) ∧ Aside0 (kq ≤ kj54) ∧ Bx2 wc gb229 a1_0 a1_1 24 ∧ Bx2 wc gb230 a2_0 a2_1 24 ∧ Bx2 wc gb231 0 0 24 ∧ Aside0 (Below w.heap.size w wc))
         case first =>
          have H := HC66.out
          clear HC66
          by_cases c67 : a1_0 ≥ 0
          rotate_left
          ·rw [if_neg c67] at H
           have c67b0 := dF c67
           clear c67
           (first | rw [c67b0] | (simp only [i64_w, i32_w]; rw [c67b0]) | skip)
           have H' := am H
           clear H
           obtain ⟨hnb79,hnc79⟩ := nn NB229_230
           obtain ⟨hnb80,hnc80⟩ := nn NB229_231
           obtain ⟨hcz81_0,hcz81_1,hfz81_0,hfz81_1⟩ := cB2 BK229
           go_wp2
           go_meet
           case rel => exact ⟨_, (false), ey, H', ⟨by have := HJ3.out; have := HJ24.out; have := HJ43.out; have := HJ54.out; first | omega | exact Nat.le_refl _⟩, ⟨Z BK229⟩, ⟨Z BK230⟩, ⟨Z BK231⟩, ⟨YA HB⟩⟩
          rw [if_pos c67] at H
          have c67b0 := dT c67
          clear c67
          (first | rw [c67b0] | (simp only [i64_w, i32_w]; rw [c67b0]) | skip)
          by_cases c68 : a2_0 ≥ 0
          rotate_left
          ·rw [if_neg c68] at H
           have c68b0 := dF c68
           clear c68
           have H' := am H
           clear H
           obtain ⟨hnb74,hnc74⟩ := nn NB229_230
           obtain ⟨hnb75,hnc75⟩ := nn NB229_231
           obtain ⟨hcz76_0,hcz76_1,hfz76_0,hfz76_1⟩ := cB2 BK229
           obtain ⟨hnb77,hnc77⟩ := nn NB230_231
           obtain ⟨hcz78_0,hcz78_1,hfz78_0,hfz78_1⟩ := cB2 BK230
           go_wp2
           go_meet
           case rel => exact ⟨_, (false), ey, H', ⟨by have := HJ3.out; have := HJ24.out; have := HJ43.out; have := HJ54.out; first | omega | exact Nat.le_refl _⟩, ⟨Z BK229⟩, ⟨Z BK230⟩, ⟨Z BK231⟩, ⟨YA HB⟩⟩
          rw [if_pos c68] at H
          have c68b0 := dT c68
          clear c68
          have H' := am H
          clear H
          obtain ⟨hnb69,hnc69⟩ := nn NB229_230
          obtain ⟨hnb70,hnc70⟩ := nn NB229_231
          obtain ⟨hcz71_0,hcz71_1,hfz71_0,hfz71_1⟩ := cB2 BK229
          obtain ⟨hnb72,hnc72⟩ := nn NB230_231
          obtain ⟨hcz73_0,hcz73_1,hfz73_0,hfz73_1⟩ := cB2 BK230
          go_wp2
          go_meet
          case rel => exact ⟨_, ((a0 == 7)), ey, H', ⟨by have := HJ3.out; have := HJ24.out; have := HJ43.out; have := HJ54.out; first | omega | exact Nat.le_refl _⟩, ⟨Z BK229⟩, ⟨Z BK230⟩, ⟨Z BK231⟩, ⟨YA HB⟩⟩
         case rest =>
          clear HC66
          try clear c60
          obtain ⟨kq, x78_65, rfl, HA, HJ65, BK229, BK230, BK231, HB⟩ := hcut
          cases kq with
          | zero => exact absurd HA.out (by simp [spec_l8Bits.j4])
          | succ kj65 =>
           have H := HA.out
           clear HA
           simp only [spec_l8Bits.j4] at H
           by_cases c82 : x78_65 = true
           ·subst c82
            rw [if_pos rfl] at H
            obtain ⟨t234, A83, H⟩ := bd H
            try dsimp only at H
            obtain ⟨t235, A84, H⟩ := bd H
            try dsimp only at H
            obtain ⟨t236, A85, H⟩ := bd H
            try dsimp only at H
            simp only [Option.some.injEq, Prod.mk.injEq] at H
            obtain ⟨rfl, rfl⟩ := H
            try go_wp2
            obtain ⟨BK229, BK230, BK231, HB⟩ := dk3 BK229 BK230 BK231 HB
            refine start_ (n := 13) (S := fun w' => w'.cell? ⟨gb229, 0, none⟩ = some (.int .i64 a1_0) ∧ w'.cell? ⟨gb229, 1, none⟩ = some (.int .i64 a1_1) ∧ w'.cell? ⟨gb230, 0, none⟩ = some (.int .i64 a2_0) ∧ w'.cell? ⟨gb230, 1, none⟩ = some (.int .i64 a2_1)) (ds := []) (lb 13 0) (by kernel_rfl) rfl rfl ⟨bc BK229 0, bc BK229 1, bc BK230 0, bc BK230 1⟩ (fun hHeld => ?_); refine with_tabW spec_l8Bits.tab11 spec_l8Bits.bits11 (fun HT_ HW_ => ?_)
            generalize wc.drew = w86 at BK229 BK230 BK231 HB hHeld ⊢
            refine pk 0 79 1 ?_
            refine pk 2 81 5 ?_
            refine pk 5 84 37 ?_
            refine pk 7 86 165 ?_
            refine tk 1 80 167 hHeld ?_
            refine tk 3 82 175 hHeld ?_
            refine tk 6 85 239 hHeld ?_
            refine tk 8 87 495 hHeld ?_
            refine on 4 (some 83) 511 fun K hK => ?_
            refine goes_ Try.func69 (by kernel_rfl) rfl #[.int .i64 a1_0, .int .i64 a2_0] (by rfl) rfl rfl mz ?_
            with_reducible refine (spec_l8Max.calls _ _ _ _ A83.out).mono ?_
            rintro e w' ⟨rfl, ⟨nd, rfl⟩⟩
            refine ⟨_, rfl, ?_⟩
            refine kk hK ⟨bc BK229 0, bc BK229 1, bc BK230 0, bc BK230 1⟩ fun hHeld => ?_
            clear hK K
            refine on 9 (some 88) 1023 fun K hK => ?_
            refine goes_ Try.func69 (by kernel_rfl) rfl #[.int .i64 a1_1, .int .i64 a2_1] (by rfl) rfl rfl mz ?_
            with_reducible refine (spec_l8Max.calls _ _ _ _ A84.out).mono ?_
            rintro e w' ⟨rfl, ⟨nd, rfl⟩⟩
            refine ⟨_, rfl, ?_⟩
            refine kk hK ⟨bc BK229 0, bc BK229 1, bc BK230 0, bc BK230 1⟩ fun hHeld => ?_
            clear hK K
            refine on 10 (some 89) 2047 fun K hK => ?_
            refine goes_ Try.func91 (by kernel_rfl) rfl #[.int .i64 t235] (by rfl) rfl rfl mz ?_
            with_reducible refine (spec_l8Mask.calls _ _ _ _ A85.out).mono ?_
            rintro e w' ⟨rfl, ⟨nd, rfl⟩⟩
            refine ⟨_, rfl, ?_⟩
            refine kk hK ⟨bc BK229 0, bc BK229 1, bc BK230 0, bc BK230 1⟩ fun hHeld => ?_
            clear hK K
            refine pk 11 90 4095 ?_
            refine on 12 none 8191 fun K hK => ?_
            have hs87 : w86.cell? ⟨gb231, 0, none⟩ = some (.int .i64 0) := bc BK231 0
            have hfs87 := blk_frozen BK231.out 0
            have hns87_0 := NB229_231.out
            have hns87_1 := NB230_231.out
            have hms87_0 := NB231_229.out
            have hms87_1 := NB231_230.out
            have hs88 : w86.cell? ⟨gb231, 1, none⟩ = some (.int .i64 0) := bc BK231 1
            have hfs88 := blk_frozen BK231.out 1
            have hns88_0 := NB229_231.out
            have hns88_1 := NB230_231.out
            have hms88_0 := NB231_229.out
            have hms88_1 := NB231_230.out
            refine skip_ (w1 := ?_) (by rfl) rfl ?_ ?_
            rotate_left
            ·go_simp
             rfl
            refine hK.out _ _ ⟨((cell_far (p := ⟨gb231, _, none⟩) NB229_231.out _).trans (((cell_far (p := ⟨gb231, _, none⟩) NB229_231.out _).trans (hHeld.1)))), ((cell_far (p := ⟨gb231, _, none⟩) NB229_231.out _).trans (((cell_far (p := ⟨gb231, _, none⟩) NB229_231.out _).trans (hHeld.2.1)))), ((cell_far (p := ⟨gb231, _, none⟩) NB230_231.out _).trans (((cell_far (p := ⟨gb231, _, none⟩) NB230_231.out _).trans (hHeld.2.2.1)))), ((cell_far (p := ⟨gb231, _, none⟩) NB230_231.out _).trans (((cell_far (p := ⟨gb231, _, none⟩) NB230_231.out _).trans (hHeld.2.2.2))))⟩ (fun hHeld => ?_)
            clear hK K
            refine done_ (done_of HT_.out (by kernel_rfl)) ?_
            try go_wp2
            refine bodyPost_ret (results_cell_row rfl _ _ gb231 24 #[.int .i64 t234, .int .i64 t236] (0, 0) _ rfl (by refine pf ?_; refine blk_put (cs := #[.int .i64 t234, .int .i64 0]) ?_ 1 _ rfl; refine pf ?_; refine blk_put (cs := #[.int .i64 0, .int .i64 0]) ?_ 0 _ rfl; exact Z BK231) Try.underlying24 rfl (by kernel_rfl)) rfl ?_
            exact ⟨ez, YA HB⟩
           replace c82 := Bool.eq_false_iff.mpr c82
           subst c82
           rw [if_neg ff] at H
           have HC89 := am H
           clear H
           go_upto_region 12 with (fail)
           go_cut [102] (fun v102 wc => ∃ (kq : Nat) (x102_88 : Bool), v102 = .bool x102_88 ∧ Aside0 (spec_l8Bits.j5 kq x102_88 a1_0 a1_1 a2_0 a2_1 = some (r1, r2)) ∧ Aside0 (kq ≤ kj65) ∧ Bx2 wc gb229 a1_0 a1_1 24 ∧ Bx2 wc gb230 a2_0 a2_1 24 ∧ Bx2 wc gb231 0 0 24 ∧ Aside0 (Below w.heap.size w wc))
           case first =>
            have H := HC89.out
            clear HC89
            by_cases c90 : a1_0 ≥ 0
            rotate_left
            ·rw [if_neg c90] at H
             have c90b0 := dF c90
             clear c90
             (first | rw [c90b0] | (simp only [i64_w, i32_w]; rw [c90b0]) | skip)
             have H' := am H
             clear H
             obtain ⟨hnb102,hnc102⟩ := nn NB229_230
             obtain ⟨hnb103,hnc103⟩ := nn NB229_231
             obtain ⟨hcz104_0,hcz104_1,hfz104_0,hfz104_1⟩ := cB2 BK229
             go_wp2
             go_meet
             case rel => exact ⟨_, (false), ey, H', ⟨by have := HJ3.out; have := HJ24.out; have := HJ43.out; have := HJ54.out; have := HJ65.out; first | omega | exact Nat.le_refl _⟩, ⟨Z BK229⟩, ⟨Z BK230⟩, ⟨Z BK231⟩, ⟨YA HB⟩⟩
            rw [if_pos c90] at H
            have c90b0 := dT c90
            clear c90
            (first | rw [c90b0] | (simp only [i64_w, i32_w]; rw [c90b0]) | skip)
            by_cases c91 : a2_0 ≥ 0
            ·rw [if_pos c91] at H
             have c91b0 := dT c91
             clear c91
             have H' := am H
             clear H
             obtain ⟨hnb92,hnc92⟩ := nn NB229_230
             obtain ⟨hnb93,hnc93⟩ := nn NB229_231
             obtain ⟨hcz94_0,hcz94_1,hfz94_0,hfz94_1⟩ := cB2 BK229
             obtain ⟨hnb95,hnc95⟩ := nn NB230_231
             obtain ⟨hcz96_0,hcz96_1,hfz96_0,hfz96_1⟩ := cB2 BK230
             go_wp2
             go_meet
             case rel => exact ⟨_, ((a0 == 8)), ey, H', ⟨by have := HJ3.out; have := HJ24.out; have := HJ43.out; have := HJ54.out; have := HJ65.out; first | omega | exact Nat.le_refl _⟩, ⟨Z BK229⟩, ⟨Z BK230⟩, ⟨Z BK231⟩, ⟨YA HB⟩⟩
            rw [if_neg c91] at H
            have c91b0 := dF c91
            clear c91
            have H' := am H
            clear H
            obtain ⟨hnb97,hnc97⟩ := nn NB229_230
            obtain ⟨hnb98,hnc98⟩ := nn NB229_231
            obtain ⟨hcz99_0,hcz99_1,hfz99_0,hfz99_1⟩ := cB2 BK229
            obtain ⟨hnb100,hnc100⟩ := nn NB230_231
            obtain ⟨hcz101_0,hcz101_1,hfz101_0,hfz101_1⟩ := cB2 BK230
            go_wp2
            go_meet
            case rel => exact ⟨_, (false), ey, H', ⟨by have := HJ3.out; have := HJ24.out; have := HJ43.out; have := HJ54.out; have := HJ65.out; first | omega | exact Nat.le_refl _⟩, ⟨Z BK229⟩, ⟨Z BK230⟩, ⟨Z BK231⟩, ⟨YA HB⟩⟩
           case rest =>
            clear HC89
            try clear c82
            obtain ⟨kq, x102_88, rfl, HA, HJ88, BK229, BK230, BK231, HB⟩ := hcut
            cases kq with
            | zero => exact absurd HA.out (by simp [spec_l8Bits.j5])
            | succ kj88 =>
             have H := HA.out
             clear HA
             simp only [spec_l8Bits.j5] at H
             by_cases c105 : x102_88 = true
             rotate_left
             ·replace c105 := Bool.eq_false_iff.mpr c105
              subst c105
              rw [if_neg ff] at H
              simp only [Option.some.injEq, Prod.mk.injEq] at H
              obtain ⟨rfl, rfl⟩ := H
              obtain ⟨hnb114,hnc114⟩ := nn NB231_229
              obtain ⟨hnb115,hnc115⟩ := nn NB231_230
              obtain ⟨hcz116_0,hcz116_1,hfz116_0,hfz116_1⟩ := cB2 BK231
              go_wp2
              refine bodyPost_ret (results_cell_row rfl _ _ gb231 24 #[.int .i64 (-2147483648), .int .i64 2147483647] (0, 0) _ rfl (by refine pf ?_; refine blk_put (cs := #[.int .i64 (-2147483648), .int .i64 0]) ?_ 1 _ rfl; refine pf ?_; refine blk_put (cs := #[.int .i64 0, .int .i64 0]) ?_ 0 _ rfl; exact Z BK231) Try.underlying24 rfl (by kernel_rfl)) rfl ?_
              exact ⟨ez, YA HB⟩
             subst c105
             rw [if_pos rfl] at H
             obtain ⟨t237, A106, H⟩ := bd H
             try dsimp only at H
             obtain ⟨t238, A107, H⟩ := bd H
             try dsimp only at H
             simp only [Option.some.injEq, Prod.mk.injEq] at H
             obtain ⟨rfl, rfl⟩ := H
             obtain ⟨hnb108,hnc108⟩ := nn NB229_230
             obtain ⟨hnb109,hnc109⟩ := nn NB229_231
             obtain ⟨hcz110_0,hcz110_1,hfz110_0,hfz110_1⟩ := cB2 BK229
             obtain ⟨hnb111,hnc111⟩ := nn NB230_231
             obtain ⟨hcz112_0,hcz112_1,hfz112_0,hfz112_1⟩ := cB2 BK230
             go_wp2_with (first | ((with_reducible refine gate_callee (f := 69) rfl ?_); refine goesL_ (some 107) rfl rfl Try.func69 (by kernel_rfl) rfl #[.int .i64 a1_1, .int .i64 a2_1] rfl mz ?_; (with_reducible refine (spec_l8Max.calls _ _ _ _ A106.out).mono ?_); rintro e w' ⟨rfl, ⟨nd, rfl⟩⟩; refine ⟨_, rfl, ?_⟩; (try (rw [drewN_self wc]; generalize hq_ : World.drewN wc _ = wc; replace BK229 : Bx2 wc gb229 a1_0 a1_1 24 := ⟨by rw [← hq_]; exact (Z BK229)⟩; replace BK230 : Bx2 wc gb230 a2_0 a2_1 24 := ⟨by rw [← hq_]; exact (Z BK230)⟩; replace BK231 : Bx2 wc gb231 0 0 24 := ⟨by rw [← hq_]; exact (Z BK231)⟩; replace HB : Aside0 (Below w.heap.size w wc) := ⟨by rw [← hq_]; exact (YA HB)⟩; clear hq_))) | ((with_reducible refine gate_callee (f := 91) rfl ?_); refine goesL_ (some 108) rfl rfl Try.func91 (by kernel_rfl) rfl #[.int .i64 t237] rfl mz ?_; (with_reducible refine (spec_l8Mask.calls _ _ _ _ A107.out).mono ?_); rintro e w' ⟨rfl, ⟨nd, rfl⟩⟩; refine ⟨_, rfl, ?_⟩; (try (rw [drewN_self wc]; generalize hq_ : World.drewN wc _ = wc; replace BK229 : Bx2 wc gb229 a1_0 a1_1 24 := ⟨by rw [← hq_]; exact (Z BK229)⟩; replace BK230 : Bx2 wc gb230 a2_0 a2_1 24 := ⟨by rw [← hq_]; exact (Z BK230)⟩; replace BK231 : Bx2 wc gb231 0 0 24 := ⟨by rw [← hq_]; exact (Z BK231)⟩; replace HB : Aside0 (Below w.heap.size w wc) := ⟨by rw [← hq_]; exact (YA HB)⟩; clear hq_)); obtain ⟨hcz113_0,hcz113_1,hfz113_0,hfz113_1⟩ := cB2 BK231))
             refine bodyPost_ret (results_cell_row rfl _ _ gb231 24 #[.int .i64 0, .int .i64 t238] (0, 0) _ rfl (by refine pf ?_; refine blk_put (cs := #[.int .i64 0, .int .i64 0]) ?_ 1 _ rfl; refine pf ?_; refine blk_put (cs := #[.int .i64 0, .int .i64 0]) ?_ 0 _ rfl; exact Z BK231) Try.underlying24 rfl (by kernel_rfl)) rfl ?_
             exact ⟨ez, YA HB⟩

end Go.Proofs.Ythbkakcchgnhpaa.PFnRangeFaults
