/- Written by this session's own driver (wip/dprint.py): the functions that the law FnRangeFaults reaches, as Lean functions, each with its contract. -/
import Derived.Test.YthbkakcchgnhpaaPFnRangeFaultsx0
import Derived.Test.YthbkakcchgnhpaaPFnRangeFaultsx12
import Derived.Test.YthbkakcchgnhpaaPFnRangeFaultsx16
import Derived.Test.YthbkakcchgnhpaaPFnRangeFaultsx18
import Derived.Test.YthbkakcchgnhpaaSv
namespace Go.Proofs.Ythbkakcchgnhpaa.PFnRangeFaults
open Go.RowKit Go.Proofs.YthbkakcchgnhpaaV.PrintWords Go.Proofs.YthbkakcchgnhpaaV.PrintLast Go.Proofs.YthbkakcchgnhpaaV.PrintMore Go.Proofs.YthbkakcchgnhpaaSv
attribute [local go_sem] max2_int min2_int max_two min_two max_three min_three max_four min_four   -- for this text's walks alone
set_option linter.unusedVariables false
set_option linter.unusedSimpArgs false

/-! ### impl_rangeRem: function 54 -/
attribute [local go_sem] Go.Proofs.YthbkakcchgnhpaaSet.isSome_setCell
mutual
def impl_rangeRem.j0 : Nat → Bool → Int → Int → Int → Int → Option (Int × Int × List Int)
 | 0, _, _, _, _, _ => none
 | k + 1, x21, x411000, x411001, x412000, x412001 => if x21 = true then (if x412000 = 0 then (none) else (some (Int.tmod x411000 x412000, Int.tmod x411000 x412000, ([] : List Int)))) else ((impl_rangeSides.f k x412000 x412001).bind fun bt415 => ((impl_rangeNone.f).bind fun bt420 => ((impl_Range_empty.f bt415.1 bt415.2.1).bind fun t424 => (if t424 = true then (impl_rangeRem.j1 k x411000 x411001 x412000 x412001 bt415.1 bt415.2.1 bt415.2.2.1 bt415.2.2.2 bt420.1 bt420.2) else ((impl_rangeRemBy.f k x411000 x411001 (wrap64 (-bt415.2.1)) (wrap64 (-bt415.1))).bind fun bt425 => ((impl_RangeJoin.f k bt420.1 bt420.2 bt425.1 bt425.2).bind fun bt427 => (impl_rangeRem.j1 k x411000 x411001 x412000 x412001 bt415.1 bt415.2.1 bt415.2.2.1 bt415.2.2.2 bt427.1 bt427.2)))))))
def impl_rangeRem.j1 : Nat → Int → Int → Int → Int → Int → Int → Int → Int → Int → Int → Option (Int × Int × List Int)
 | 0, _, _, _, _, _, _, _, _, _, _ => none
 | k + 1, x411000, x411001, x412000, x412001, x420000, x420001, x420002, x420003, x423000, x423001 => (impl_Range_empty.f x420002 x420003).bind fun t430 => (if t430 = true then ((impl_RangeHas.f x412000 x412001 0).bind fun t431 => (if t431 = true then (some (x423000, x423001, (([2] : List Int)))) else (some (x423000, x423001, ([] : List Int))))) else ((impl_rangeRemBy.f k x411000 x411001 x420002 x420003).bind fun bt435 => ((impl_RangeJoin.f k x423000 x423001 bt435.1 bt435.2).bind fun bt437 => ((impl_RangeHas.f x412000 x412001 0).bind fun t439 => (if t439 = true then (some (bt437.1, bt437.2, (([2] : List Int)))) else (some (bt437.1, bt437.2, ([] : List Int))))))))
end
def impl_rangeRem.f (k : Nat) (a0_0 : Int) (a0_1 : Int) (a1_0 : Int) (a1_1 : Int) : Option (Int × Int × List Int) := (impl_Range_single.f a0_0 a0_1).bind fun t413 => (if t413 = true then ((impl_Range_single.f a1_0 a1_1).bind fun t414 => (if t414 = true then (impl_rangeRem.j0 k (a1_0 != 0) a0_0 a0_1 a1_0 a1_1) else (impl_rangeRem.j0 k false a0_0 a0_1 a1_0 a1_1))) else (impl_rangeRem.j0 k false a0_0 a0_1 a1_0 a1_1))
theorem impl_rangeRem.mono_l : ∀ k, (∀ y0 y1 y2 y3 y4, LeO (impl_rangeRem.j0 k y0 y1 y2 y3 y4) (impl_rangeRem.j0 (k + 1) y0 y1 y2 y3 y4)) ∧ (∀ y0 y1 y2 y3 y4 y5 y6 y7 y8 y9, LeO (impl_rangeRem.j1 k y0 y1 y2 y3 y4 y5 y6 y7 y8 y9) (impl_rangeRem.j1 (k + 1) y0 y1 y2 y3 y4 y5 y6 y7 y8 y9))
 | 0 => ⟨fun _ _ _ _ _ r h => by simp [impl_rangeRem.j0] at h, fun _ _ _ _ _ _ _ _ _ _ r h => by simp [impl_rangeRem.j1] at h⟩
 | k + 1 => by
  obtain ⟨ih0, ih1⟩ := impl_rangeRem.mono_l k
  refine ⟨?_, ?_⟩ <;> (intros; (first | unfold impl_rangeRem.j0 | unfold impl_rangeRem.j1); repeat' first | (with_reducible first | apply ih0 | apply ih1 | apply impl_RangeJoin.mono | apply impl_rangeRemBy.mono | apply impl_rangeSides.mono | apply LeO.refl | apply LeO.none | refine LeO.ite ?_ ?_ | refine LeO.bind ?_ (fun _ => ?_)) | apply ih0 | apply ih1 | apply impl_RangeJoin.mono | apply impl_rangeRemBy.mono | apply impl_rangeSides.mono | apply LeO.none | refine LeO.ite ?_ ?_ | refine LeO.bind ?_ (fun _ => ?_))
theorem impl_rangeRem.mono : ∀ a0 a1 a2 a3 k, LeO (impl_rangeRem.f k a0 a1 a2 a3) (impl_rangeRem.f (k + 1) a0 a1 a2 a3) := by
 intro a0 a1 a2 a3 k
 obtain ⟨ih0, ih1⟩ := impl_rangeRem.mono_l k
 unfold impl_rangeRem.f
 repeat' first | (with_reducible first | apply ih0 | apply ih1 | apply impl_RangeJoin.mono | apply impl_rangeRemBy.mono | apply impl_rangeSides.mono | apply LeO.refl | apply LeO.none | refine LeO.ite ?_ ?_ | refine LeO.bind ?_ (fun _ => ?_)) | apply ih0 | apply ih1 | apply impl_RangeJoin.mono | apply impl_rangeRemBy.mono | apply impl_rangeSides.mono | apply LeO.none | refine LeO.ite ?_ ?_ | refine LeO.bind ?_ (fun _ => ?_)
def impl_rangeRem.T8 : Bool × List (List Nat × List Nat) := (true, [([], []), ([], []), ([], []), ([2], [2]), ([3], [3]), ([], []), ([5], [5]), ([6], [6]), ([1, 4, 7], [1, 4, 7]), ([0, 8, 8], [0, 8]), ([9, 9, 0, 1, 2, 3, 4, 5, 6, 7, 8, 9], [9])])
def impl_rangeRem.B8 : List Nat := [0, 0, 0, 4, 12, 0, 32, 96, 254, 511, 1023]
theorem impl_rangeRem.tab8 : rtab .any (opsOf Try.f54 8) = impl_rangeRem.T8 := by kernel_rfl
theorem impl_rangeRem.bits8 : waitsOk impl_rangeRem.T8.2 impl_rangeRem.B8 = true := by kernel_rfl
def impl_rangeRem.T11 : Bool × List (List Nat × List Nat) := (true, [([], []), ([], []), ([], []), ([2], [2]), ([], []), ([4], [4]), ([1, 3, 5], [1, 3, 5]), ([0, 6, 6], [0, 6]), ([7, 7, 0, 1, 2, 3, 4, 5, 6, 7], [7])])
def impl_rangeRem.B11 : List Nat := [0, 0, 0, 4, 0, 16, 62, 127, 255]
theorem impl_rangeRem.tab11 : rtab .any (opsOf Try.f54 11) = impl_rangeRem.T11 := by kernel_rfl
theorem impl_rangeRem.bits11 : waitsOk impl_rangeRem.T11.2 impl_rangeRem.B11 = true := by kernel_rfl
set_option maxHeartbeats 8000000 in
set_option maxRecDepth 100000 in
theorem impl_rangeRem.calls (k : Nat) (a0_0 : Int) (a0_1 : Int) (a1_0 : Int) (a1_1 : Int) (r1 : Int) (r2 : Int) (r3 : List Int) (w : World) (h : impl_rangeRem.f k a0_0 a0_1 a1_0 a1_1 = some (r1, r2, r3)) :
  Calls Try.prog 54 #[.agg #[.int .i64 a0_0, .int .i64 a0_1], .agg #[.int .i64 a1_0, .int .i64 a1_1]] w fun e w' => ∃ v2_ : Value, e = .returned (.tuple #[.agg #[.int .i64 r1, .int .i64 r2], v2_]) ∧ Kd.R (Kd.int .i64) 3 w' w.heap.size (fun _ => True) v2_ r3 ∧ Below w.heap.size w w' := by
 have hu24 := Try.underlying24
 have hu96 := Try.underlying96
 have HB := am (Below.refl w.heap.size w)
 have H : ((impl_Range_single.f a0_0 a0_1).bind fun t413 => (if t413 = true then ((impl_Range_single.f a1_0 a1_1).bind fun t414 => (if t414 = true then (impl_rangeRem.j0 k (a1_0 != 0) a0_0 a0_1 a1_0 a1_1) else (impl_rangeRem.j0 k false a0_0 a0_1 a1_0 a1_1))) else (impl_rangeRem.j0 k false a0_0 a0_1 a1_0 a1_1))) = some (r1, r2, r3) := h
 clear h
 have HC3 := am H
 clear H
 go_enter Try.func54, Try.ntmps54
 go_upto_region 1 with (first | ((with_reducible refine gate_dst (N := 2) rfl ?_); refine bx 2 #[.int .i64 a0_0, .int .i64 a0_1] 24 ?_; intro gb410 hg w4 hbox hb; have BK410 := am (hbox); have GW410 := am (bs hg (YA HB)); have GE410 := GW410; replace HB := am (below_step (YA HB) hb); clear hb hbox hg) | ((with_reducible refine gate_dst (N := 3) rfl ?_); refine bx 3 #[.int .i64 a1_0, .int .i64 a1_1] 24 ?_; intro gb411 hg w5 hbox hb; have BK411 := am (hbox); have GW411 := am (bs hg (YA HB)); have GE411 := GW411; obtain ⟨NB410_411,NB411_410⟩ := ne_ hg BK410; obtain ⟨BK410, HB⟩ := bk1 BK410 HB hb; clear hb hbox hg) | ((with_reducible refine gate_dst (N := 4) rfl ?_); refine bx 4 #[.int .i64 0, .int .i64 0] 24 ?_; intro gb412 hg w6 hbox hb; have BK412 := am (hbox); have GW412 := am (bs hg (YA HB)); have GE412 := GW412; obtain ⟨NB410_412,NB412_410⟩ := ne_ hg BK410; obtain ⟨NB411_412,NB412_411⟩ := ne_ hg BK411; obtain ⟨BK410, BK411, HB⟩ := bk2 BK410 BK411 HB hb; clear hb hbox hg))
 (try simp only [Act.put, List.setIfInBounds_toArray, List.set_cons_zero, List.set_cons_succ])
 go_cut [21] (fun v21 wc => ∃ (kq : Nat) (x21_2 : Bool), v21 = .bool x21_2 ∧ Aside0 (impl_rangeRem.j0 kq x21_2 a0_0 a0_1 a1_0 a1_1 = some (r1, r2, r3)) ∧ Aside0 (kq ≤ k) ∧ Bx2 wc gb410 a0_0 a0_1 24 ∧ Bx2 wc gb411 a1_0 a1_1 24 ∧ Bx2 wc gb412 0 0 24 ∧ Aside0 (Below w.heap.size w wc))
 case first =>
  have H := HC3.out
  clear HC3
  obtain ⟨t413, A7, H⟩ := bd H
  try dsimp only at H
  by_cases c8 : t413 = true
  rotate_left
  ·replace c8 := Bool.eq_false_iff.mpr c8
   subst c8
   rw [if_neg ff] at H
   have H' := am H
   clear H
   obtain ⟨hnb26,hnc26⟩ := nn NB410_411
   obtain ⟨hnb27,hnc27⟩ := nn NB410_412
   obtain ⟨hcz28_0,hcz28_1,hfz28_0,hfz28_1⟩ := cB2 BK410
   go_wp2_with (first | ((with_reducible refine gate_callee (f := 96) rfl ?_); refine gL 12 Try.func96 (impl_Range_single.calls _ _ _ _ A7.out) fun w29 hb => ?_; obtain ⟨BK410, BK411, BK412, HB⟩ := bk3 BK410 BK411 BK412 HB hb; (try clear hb)))
   go_meet
   case rel => exact ⟨_, (false), ey, H', le0, ⟨Z BK410⟩, ⟨Z BK411⟩, ⟨Z BK412⟩, ⟨YA HB⟩⟩
  subst c8
  rw [if_pos rfl] at H
  obtain ⟨t414, A9, H⟩ := bd H
  try dsimp only at H
  by_cases c10 : t414 = true
  rotate_left
  ·replace c10 := Bool.eq_false_iff.mpr c10
   subst c10
   rw [if_neg ff] at H
   have H' := am H
   clear H
   obtain ⟨hnb19,hnc19⟩ := nn NB410_411
   obtain ⟨hnb20,hnc20⟩ := nn NB410_412
   obtain ⟨hcz21_0,hcz21_1,hfz21_0,hfz21_1⟩ := cB2 BK410
   go_wp2_with (first | ((with_reducible refine gate_callee (f := 96) rfl ?_); refine gL 12 Try.func96 (impl_Range_single.calls _ _ _ _ A7.out) fun w22 hb => ?_; obtain ⟨BK410, BK411, BK412, HB⟩ := bk3 BK410 BK411 BK412 HB hb; (try clear hb); obtain ⟨hnb23,hnc23⟩ := nn NB411_412; obtain ⟨hcz24_0,hcz24_1,hfz24_0,hfz24_1⟩ := cB2 BK411) | (go_at_call 96; (with_reducible refine (impl_Range_single.calls _ _ _ _ A9.out).mono ?_); rintro e w25 ⟨rfl, hb⟩; obtain ⟨BK410, BK411, BK412, HB⟩ := bk3 BK410 BK411 BK412 HB hb; (try clear hb)))
   go_meet
   case rel => exact ⟨_, (false), ey, H', le0, ⟨Z BK410⟩, ⟨Z BK411⟩, ⟨Z BK412⟩, ⟨YA HB⟩⟩
  subst c10
  rw [if_pos rfl] at H
  have H' := am H
  clear H
  obtain ⟨hnb11,hnc11⟩ := nn NB410_411
  obtain ⟨hnb12,hnc12⟩ := nn NB410_412
  obtain ⟨hcz13_0,hcz13_1,hfz13_0,hfz13_1⟩ := cB2 BK410
  go_wp2_with (first | ((with_reducible refine gate_callee (f := 96) rfl ?_); refine gL 12 Try.func96 (impl_Range_single.calls _ _ _ _ A7.out) fun w14 hb => ?_; obtain ⟨BK410, BK411, BK412, HB⟩ := bk3 BK410 BK411 BK412 HB hb; (try clear hb); obtain ⟨hnb15,hnc15⟩ := nn NB411_412; obtain ⟨hcz16_0,hcz16_1,hfz16_0,hfz16_1⟩ := cB2 BK411) | (go_at_call 96; (with_reducible refine (impl_Range_single.calls _ _ _ _ A9.out).mono ?_); rintro e w17 ⟨rfl, hb⟩; obtain ⟨BK410, BK411, BK412, HB⟩ := bk3 BK410 BK411 BK412 HB hb; (try clear hb); obtain ⟨hcz18_0,hcz18_1,hfz18_0,hfz18_1⟩ := cB2 BK411))
  go_meet
  case rel => exact ⟨_, ((a1_0 != 0)), ey, H', le0, ⟨Z BK410⟩, ⟨Z BK411⟩, ⟨Z BK412⟩, ⟨YA HB⟩⟩
 case rest =>
  clear HC3
  obtain ⟨kq, x21_2, rfl, HA, HJ2, BK410, BK411, BK412, HB⟩ := hcut
  cases kq with
  | zero => exact absurd HA.out (by simp [impl_rangeRem.j0])
  | succ kj2 =>
   have H := HA.out
   clear HA
   simp only [impl_rangeRem.j0] at H
   by_cases c30 : x21_2 = true
   ·subst c30
    rw [if_pos rfl] at H
    by_cases c31 : a1_0 = 0
    ·rw [if_pos c31] at H
     exact absurd H (by simp)
    rw [if_neg c31] at H
    have c31b0 := eF c31
    have c31b1 := nT c31
    simp only [Option.some.injEq, Prod.mk.injEq] at H
    obtain ⟨rfl, rfl, rfl⟩ := H
    obtain ⟨hnb32,hnc32⟩ := nn NB410_411
    obtain ⟨hnb33,hnc33⟩ := nn NB410_412
    obtain ⟨hcz34_0,hcz34_1,hfz34_0,hfz34_1⟩ := cB2 BK410
    obtain ⟨hnb35,hnc35⟩ := nn NB411_412
    obtain ⟨hcz36_0,hcz36_1,hfz36_0,hfz36_1⟩ := cB2 BK411
    obtain ⟨hcz37_0,hcz37_1,hfz37_0,hfz37_1⟩ := cB2 BK412
    go_wp2
    refine bodyPost_ret (results_ct rfl _ _ gb412 24 #[.int .i64 (Int.tmod a0_0 a1_0), .int .i64 (Int.tmod a0_0 a1_0)] (0, 0) _ rfl (by refine pf ?_; refine blk_put (cs := #[.int .i64 (Int.tmod a0_0 a1_0), .int .i64 0]) ?_ 1 _ rfl; refine pf ?_; refine blk_put (cs := #[.int .i64 0, .int .i64 0]) ?_ 0 _ rfl; exact Z BK412) Try.underlying24 rfl (by kernel_rfl)) rfl ?_
    exact ⟨_, ez, by first | exact Kd.R_nil _ _ _ _ _ | exact Kd.N_nil _ _ _ _ _ | exact Kd.V_nil _ _ _ _ _ | exact Kd.Q_nil _ _ _ _ _ | exact Kd.S_nil _ _ _ _ _, YA HB⟩
   replace c30 := Bool.eq_false_iff.mpr c30
   subst c30
   rw [if_neg ff] at H
   obtain ⟨⟨t415, t416, t417, t418⟩, A38, H⟩ := bd H
   try dsimp only at H
   obtain ⟨⟨t420, t421⟩, A39, H⟩ := bd H
   try dsimp only at H
   obtain ⟨t424, A40, H⟩ := bd H
   try dsimp only at H
   have HC41 := am H
   clear H
   obtain ⟨hnb42,hnc42⟩ := nn NB411_410
   obtain ⟨hnb43,hnc43⟩ := nn NB411_412
   obtain ⟨hcz44_0,hcz44_1,hfz44_0,hfz44_1⟩ := cB2 BK411
   go_upto_if 37 with (first | ((with_reducible refine gate_callee (f := 94) rfl ?_); refine gL 31 Try.func94 (impl_rangeSides.calls _ _ _ _ _ _ _ _ A38.out) fun w45 hb => ?_; obtain ⟨BK410, BK411, BK412, HB⟩ := bk3 BK410 BK411 BK412 HB hb; (try clear hb)) | ((with_reducible refine gate_dst (N := 7) rfl ?_); refine bx 7 #[.int .i64 0, .int .i64 0, .int .i64 0, .int .i64 0] 96 ?_; intro gb419 hg w46 hbox hb; have BK419 := am (hbox); have GW419 := am (bs hg (YA HB)); have GE419 := GW419; obtain ⟨NB410_419,NB419_410⟩ := ne_ hg BK410; obtain ⟨NB411_419,NB419_411⟩ := ne_ hg BK411; obtain ⟨NB412_419,NB419_412⟩ := ne_ hg BK412; obtain ⟨BK410, BK411, BK412, HB⟩ := bk3 BK410 BK411 BK412 HB hb; clear hb hbox hg; obtain ⟨hnb47,hnc47⟩ := nn NB419_410; obtain ⟨hnb48,hnc48⟩ := nn NB419_411; obtain ⟨hnb49,hnc49⟩ := nn NB419_412; obtain ⟨hcz50_0,hcz50_1,hcz50_2,hcz50_3,hfz50_0,hfz50_1,hfz50_2,hfz50_3⟩ := cB4 BK419) | ((with_reducible refine gate_callee (f := 48) rfl ?_); refine gL 32 Try.func48 (impl_rangeNone.calls _ _ _ A39.out) fun w51 hb => ?_; replace BK410 := am (blk_below (g := gb410) (o := b2 a0_0 a0_1 24) (by refine fa NB410_419 ?_; refine fa NB410_419 ?_; refine fa NB410_419 ?_; refine fa NB410_419 ?_; exact Z BK410) hb); replace BK411 := am (blk_below (g := gb411) (o := b2 a1_0 a1_1 24) (by refine fa NB411_419 ?_; refine fa NB411_419 ?_; refine fa NB411_419 ?_; refine fa NB411_419 ?_; exact Z BK411) hb); replace BK412 := am (blk_below (g := gb412) (o := b2 0 0 24) (by refine fa NB412_419 ?_; refine fa NB412_419 ?_; refine fa NB412_419 ?_; refine fa NB412_419 ?_; exact Z BK412) hb); replace BK419 := am (blk_below (g := gb419) (o := b4 t415 t416 t417 t418 96) (by refine pf ?_; refine blk_put (cs := #[.int .i64 t415, .int .i64 t416, .int .i64 t417, .int .i64 0]) ?_ 3 _ rfl; refine pf ?_; refine blk_put (cs := #[.int .i64 t415, .int .i64 t416, .int .i64 0, .int .i64 0]) ?_ 2 _ rfl; refine pf ?_; refine blk_put (cs := #[.int .i64 t415, .int .i64 0, .int .i64 0, .int .i64 0]) ?_ 1 _ rfl; refine pf ?_; refine blk_put (cs := #[.int .i64 0, .int .i64 0, .int .i64 0, .int .i64 0]) ?_ 0 _ rfl; exact Z BK419) hb); replace HB := am (below_step (YA HB) hb); (try clear hb)) | ((with_reducible refine gate_dst (N := 8) rfl ?_); refine bx 8 #[.int .i64 0, .int .i64 0] 24 ?_; intro gb422 hg w52 hbox hb; have BK422 := am (hbox); have GW422 := am (bs hg (YA HB)); have GE422 := GW422; obtain ⟨NB410_422,NB422_410⟩ := ne_ hg BK410; obtain ⟨NB411_422,NB422_411⟩ := ne_ hg BK411; obtain ⟨NB412_422,NB422_412⟩ := ne_ hg BK412; obtain ⟨NB419_422,NB422_419⟩ := ne_ hg BK419; obtain ⟨BK410, BK411, BK412, BK419, HB⟩ := bk4 BK410 BK411 BK412 BK419 HB hb; clear hb hbox hg; obtain ⟨hnb53,hnc53⟩ := nn NB422_410; obtain ⟨hnb54,hnc54⟩ := nn NB422_411; obtain ⟨hnb55,hnc55⟩ := nn NB422_412; obtain ⟨hnb56,hnc56⟩ := nn NB422_419; obtain ⟨hcz57_0,hcz57_1,hfz57_0,hfz57_1⟩ := cB2 BK422; obtain ⟨hcz58_0,hcz58_1,hcz58_2,hcz58_3,hfz58_0,hfz58_1,hfz58_2,hfz58_3⟩ := cB4 BK419) | ((with_reducible refine gate_dst (N := 9) rfl ?_); refine bx 9 #[.int .i64 0, .int .i64 0] 24 ?_; intro gb423 hg w59 hbox hb; have BK423 := am (hbox); have GW423 := am (bs hg (YA HB)); have GE423 := GW423; have NB410_423 := am ((by rw [hg]; exact Nat.ne_of_lt (blk_lt (g := gb410) (o := b2 a0_0 a0_1 24) (by refine fa NB410_422 ?_; refine fa NB410_422 ?_; exact Z BK410)) : gb410 ≠ gb423)); have NB423_410 := am ((by rw [hg]; exact Nat.ne_of_gt (blk_lt (g := gb410) (o := b2 a0_0 a0_1 24) (by refine fa NB410_422 ?_; refine fa NB410_422 ?_; exact Z BK410)) : gb423 ≠ gb410)); have NB411_423 := am ((by rw [hg]; exact Nat.ne_of_lt (blk_lt (g := gb411) (o := b2 a1_0 a1_1 24) (by refine fa NB411_422 ?_; refine fa NB411_422 ?_; exact Z BK411)) : gb411 ≠ gb423)); have NB423_411 := am ((by rw [hg]; exact Nat.ne_of_gt (blk_lt (g := gb411) (o := b2 a1_0 a1_1 24) (by refine fa NB411_422 ?_; refine fa NB411_422 ?_; exact Z BK411)) : gb423 ≠ gb411)); have NB412_423 := am ((by rw [hg]; exact Nat.ne_of_lt (blk_lt (g := gb412) (o := b2 0 0 24) (by refine fa NB412_422 ?_; refine fa NB412_422 ?_; exact Z BK412)) : gb412 ≠ gb423)); have NB423_412 := am ((by rw [hg]; exact Nat.ne_of_gt (blk_lt (g := gb412) (o := b2 0 0 24) (by refine fa NB412_422 ?_; refine fa NB412_422 ?_; exact Z BK412)) : gb423 ≠ gb412)); have NB419_423 := am ((by rw [hg]; exact Nat.ne_of_lt (blk_lt (g := gb419) (o := b4 t415 t416 t417 t418 96) (by refine fa NB419_422 ?_; refine fa NB419_422 ?_; exact Z BK419)) : gb419 ≠ gb423)); have NB423_419 := am ((by rw [hg]; exact Nat.ne_of_gt (blk_lt (g := gb419) (o := b4 t415 t416 t417 t418 96) (by refine fa NB419_422 ?_; refine fa NB419_422 ?_; exact Z BK419)) : gb423 ≠ gb419)); have NB422_423 := am ((by rw [hg]; exact Nat.ne_of_lt (blk_lt (g := gb422) (o := b2 t420 t421 24) (by refine pf ?_; refine blk_put (cs := #[.int .i64 t420, .int .i64 0]) ?_ 1 _ rfl; refine pf ?_; refine blk_put (cs := #[.int .i64 0, .int .i64 0]) ?_ 0 _ rfl; exact Z BK422)) : gb422 ≠ gb423)); have NB423_422 := am ((by rw [hg]; exact Nat.ne_of_gt (blk_lt (g := gb422) (o := b2 t420 t421 24) (by refine pf ?_; refine blk_put (cs := #[.int .i64 t420, .int .i64 0]) ?_ 1 _ rfl; refine pf ?_; refine blk_put (cs := #[.int .i64 0, .int .i64 0]) ?_ 0 _ rfl; exact Z BK422)) : gb423 ≠ gb422)); replace BK410 := am (blk_below (g := gb410) (o := b2 a0_0 a0_1 24) (by refine fa NB410_422 ?_; refine fa NB410_422 ?_; exact Z BK410) hb); replace BK411 := am (blk_below (g := gb411) (o := b2 a1_0 a1_1 24) (by refine fa NB411_422 ?_; refine fa NB411_422 ?_; exact Z BK411) hb); replace BK412 := am (blk_below (g := gb412) (o := b2 0 0 24) (by refine fa NB412_422 ?_; refine fa NB412_422 ?_; exact Z BK412) hb); replace BK419 := am (blk_below (g := gb419) (o := b4 t415 t416 t417 t418 96) (by refine fa NB419_422 ?_; refine fa NB419_422 ?_; exact Z BK419) hb); replace BK422 := am (blk_below (g := gb422) (o := b2 t420 t421 24) (by refine pf ?_; refine blk_put (cs := #[.int .i64 t420, .int .i64 0]) ?_ 1 _ rfl; refine pf ?_; refine blk_put (cs := #[.int .i64 0, .int .i64 0]) ?_ 0 _ rfl; exact Z BK422) hb); replace HB := am (below_step (YA HB) hb); clear hb hbox hg; obtain ⟨hnb60,hnc60⟩ := nn NB423_410; obtain ⟨hnb61,hnc61⟩ := nn NB423_411; obtain ⟨hnb62,hnc62⟩ := nn NB423_412; obtain ⟨hnb63,hnc63⟩ := nn NB423_419; obtain ⟨hnb64,hnc64⟩ := nn NB423_422; obtain ⟨hcz65_0,hcz65_1,hfz65_0,hfz65_1⟩ := cB2 BK423) | ((with_reducible refine gate_callee (f := 47) rfl ?_); refine gL 36 Try.func47 (impl_Range_empty.calls _ _ _ _ A40.out) fun w66 hb => ?_; replace BK410 := am (blk_below (g := gb410) (o := b2 a0_0 a0_1 24) (by refine fa NB410_423 ?_; refine fa NB410_423 ?_; exact Z BK410) hb); replace BK411 := am (blk_below (g := gb411) (o := b2 a1_0 a1_1 24) (by refine fa NB411_423 ?_; refine fa NB411_423 ?_; exact Z BK411) hb); replace BK412 := am (blk_below (g := gb412) (o := b2 0 0 24) (by refine fa NB412_423 ?_; refine fa NB412_423 ?_; exact Z BK412) hb); replace BK419 := am (blk_below (g := gb419) (o := b4 t415 t416 t417 t418 96) (by refine fa NB419_423 ?_; refine fa NB419_423 ?_; exact Z BK419) hb); replace BK422 := am (blk_below (g := gb422) (o := b2 t420 t421 24) (by refine fa NB422_423 ?_; refine fa NB422_423 ?_; exact Z BK422) hb); replace BK423 := am (blk_below (g := gb423) (o := b2 t415 t416 24) (by refine pf ?_; refine blk_put (cs := #[.int .i64 t415, .int .i64 0]) ?_ 1 _ rfl; refine pf ?_; refine blk_put (cs := #[.int .i64 0, .int .i64 0]) ?_ 0 _ rfl; exact Z BK423) hb); replace HB := am (below_step (YA HB) hb); (try clear hb)))
   (try simp only [Act.put, List.setIfInBounds_toArray, List.set_cons_zero, List.set_cons_succ])
   go_cut [] (fun wc => ∃ (kq : Nat) (x423000_40 : Int) (x423001_40 : Int), Aside0 (impl_rangeRem.j1 kq a0_0 a0_1 a1_0 a1_1 t415 t416 t417 t418 x423000_40 x423001_40 = some (r1, r2, r3)) ∧ Aside0 (kq ≤ kj2) ∧ Bx2 wc gb410 a0_0 a0_1 24 ∧ Bx2 wc gb411 a1_0 a1_1 24 ∧ Bx2 wc gb412 0 0 24 ∧ Bx4 wc gb419 t415 t416 t417 t418 96 ∧ Bx2 wc gb422 x423000_40 x423001_40 24 ∧ Bx2 wc gb423 t415 t416 24 ∧ Aside0 (Below w.heap.size w wc))
   case first =>
    have H := HC41.out
    clear HC41
    by_cases c67 : t424 = true
    ·subst c67
     rw [if_pos rfl] at H
     have H' := am H
     clear H
     go_wp2
     go_meet
     case rel => exact ⟨_, (t420), (t421), H', le1 HJ2, ⟨Z BK410⟩, ⟨Z BK411⟩, ⟨Z BK412⟩, ⟨Z BK419⟩, ⟨Z BK422⟩, ⟨Z BK423⟩, ⟨YA HB⟩⟩
    replace c67 := Bool.eq_false_iff.mpr c67
    subst c67
    rw [if_neg ff] at H
    obtain ⟨⟨t425, t426⟩, A68, H⟩ := bd H
    try dsimp only at H
    obtain ⟨⟨t427, t428⟩, A69, H⟩ := bd H
    try dsimp only at H
    have H' := am H
    clear H
    try go_wp2
    obtain ⟨BK410, BK411, BK412, BK419, BK422, BK423, HB⟩ := dk6 BK410 BK411 BK412 BK419 BK422 BK423 HB
    refine start_ (n := 11) (S := fun w' => w'.cell? ⟨gb422, 0, none⟩ = some (.int .i64 t420) ∧ w'.cell? ⟨gb422, 1, none⟩ = some (.int .i64 t421) ∧ w'.cell? ⟨gb410, 0, none⟩ = some (.int .i64 a0_0) ∧ w'.cell? ⟨gb410, 1, none⟩ = some (.int .i64 a0_1) ∧ w'.cell? ⟨gb423, 0, none⟩ = some (.int .i64 t415) ∧ w'.cell? ⟨gb423, 1, none⟩ = some (.int .i64 t416)) (ds := [10]) (lb 11 0) (by kernel_rfl) rfl rfl ⟨bc BK422 0, bc BK422 1, bc BK410 0, bc BK410 1, bc BK423 0, bc BK423 1⟩ (fun hHeld => ?_); refine with_tabW impl_rangeRem.tab8 impl_rangeRem.bits8 (fun HT_ HW_ => ?_)
    generalize w66.drew = w70 at BK410 BK411 BK412 BK419 BK422 BK423 HB hHeld ⊢
    refine pk 2 40 4 ?_
    refine pk 5 43 36 ?_
    refine tk 0 38 37 hHeld ?_
    refine tk 1 39 39 hHeld ?_
    refine tk 3 41 47 hHeld ?_
    refine pk 4 42 63 ?_
    refine tk 6 44 127 hHeld ?_
    refine pk 7 45 255 ?_
    refine on 8 (some 46) 511 fun K hK => ?_
    refine gq Try.func97 (impl_rangeRemBy.calls _ _ _ _ _ _ _ _ A68.out) fun w71 hb => ?_
    obtain ⟨BK410, BK411, BK412, BK419, BK422, BK423, HB⟩ := bk6 BK410 BK411 BK412 BK419 BK422 BK423 HB hb
    clear hb
    refine kk hK ⟨bc BK422 0, bc BK422 1, bc BK410 0, bc BK410 1, bc BK423 0, bc BK423 1⟩ fun hHeld => ?_
    clear hK K
    refine on 9 (some 47) 1023 fun K hK => ?_
    refine gq Try.func84 (impl_RangeJoin.calls _ _ _ _ _ _ _ _ A69.out) fun w72 hb => ?_
    obtain ⟨BK410, BK411, BK412, BK419, BK422, BK423, HB⟩ := bk6 BK410 BK411 BK412 BK419 BK422 BK423 HB hb
    clear hb
    refine kk hK ⟨bc BK422 0, bc BK422 1, bc BK410 0, bc BK410 1, bc BK423 0, bc BK423 1⟩ fun hHeld => ?_
    clear hK K
    refine last_ (i := 10) (N := none) (lb 11 2047) rfl rfl ow (by decide) (fun K hK => ?_)
    have hs73 : w72.cell? ⟨gb422, 0, none⟩ = some (.int .i64 t420) := bc BK422 0
    have hfs73 := blk_frozen BK422.out 0
    have hns73_0 := NB410_422.out
    have hns73_1 := NB411_422.out
    have hns73_2 := NB412_422.out
    have hns73_3 := NB419_422.out
    have hns73_5 := NB423_422.out
    have hms73_0 := NB422_410.out
    have hms73_1 := NB422_411.out
    have hms73_2 := NB422_412.out
    have hms73_3 := NB422_419.out
    have hms73_5 := NB422_423.out
    have hs74 : w72.cell? ⟨gb422, 1, none⟩ = some (.int .i64 t421) := bc BK422 1
    have hfs74 := blk_frozen BK422.out 1
    have hns74_0 := NB410_422.out
    have hns74_1 := NB411_422.out
    have hns74_2 := NB412_422.out
    have hns74_3 := NB419_422.out
    have hns74_5 := NB423_422.out
    have hms74_0 := NB422_410.out
    have hms74_1 := NB422_411.out
    have hms74_2 := NB422_412.out
    have hms74_3 := NB422_419.out
    have hms74_5 := NB422_423.out
    refine skip_ (w1 := ?_) (by rfl) rfl ?_ ?_
    rotate_left
    ·go_simp
     rfl
    refine hK.out _ _ ?_
    clear hK K
    refine done_ (done_of HT_.out (by kernel_rfl)) ?_
    try go_wp2
    go_meet
    case rel => exact ⟨_, (t427), (t428), H', le1 HJ2, ⟨by refine fa NB410_422 ?_; refine fa NB410_422 ?_; exact Z BK410⟩, ⟨by refine fa NB411_422 ?_; refine fa NB411_422 ?_; exact Z BK411⟩, ⟨by refine fa NB412_422 ?_; refine fa NB412_422 ?_; exact Z BK412⟩, ⟨by refine fa NB419_422 ?_; refine fa NB419_422 ?_; exact Z BK419⟩, ⟨by refine pf ?_; refine blk_put (cs := #[.int .i64 t427, .int .i64 t421]) ?_ 1 _ rfl; refine pf ?_; refine blk_put (cs := #[.int .i64 t420, .int .i64 t421]) ?_ 0 _ rfl; exact Z BK422⟩, ⟨by refine fa NB423_422 ?_; refine fa NB423_422 ?_; exact Z BK423⟩, ⟨YA HB⟩⟩
   case rest =>
    clear HC41
    (try clear c30);(try clear hcz44_0);(try clear hcz44_1);(try clear hcz50_0);(try clear hcz50_1);(try clear hcz50_2);(try clear hcz50_3);(try clear hcz57_0);(try clear hcz57_1);(try clear hcz58_0);(try clear hcz58_1);(try clear hcz58_2);(try clear hcz58_3);(try clear hcz65_0);(try clear hcz65_1);(try clear hfz44_0);(try clear hfz44_1);(try clear hfz50_0);(try clear hfz50_1);(try clear hfz50_2);(try clear hfz50_3);(try clear hfz57_0);(try clear hfz57_1);(try clear hfz58_0);(try clear hfz58_1);(try clear hfz58_2);(try clear hfz58_3);(try clear hfz65_0);(try clear hfz65_1)
    obtain ⟨kq, x423000_40, x423001_40, HA, HJ40, BK410, BK411, BK412, BK419, BK422, BK423, HB⟩ := hcut
    cases kq with
    | zero => exact absurd HA.out (by simp [impl_rangeRem.j1])
    | succ kj40 =>
     have H := HA.out
     clear HA
     simp only [impl_rangeRem.j1] at H
     obtain ⟨t430, A75, H⟩ := bd H
     try dsimp only at H
     by_cases c76 : t430 = true
     ·subst c76
      rw [if_pos rfl] at H
      obtain ⟨t431, A77, H⟩ := bd H
      try dsimp only at H
      by_cases c78 : t431 = true
      rotate_left
      ·replace c78 := Bool.eq_false_iff.mpr c78
       subst c78
       rw [if_neg ff] at H
       simp only [Option.some.injEq, Prod.mk.injEq] at H
       obtain ⟨rfl, rfl, rfl⟩ := H
       obtain ⟨hnb109,hnc109⟩ := nn NB419_410
       obtain ⟨hnb110,hnc110⟩ := nn NB419_411
       obtain ⟨hnb111,hnc111⟩ := nn NB419_412
       obtain ⟨hnb112,hnc112⟩ := nn NB419_422
       obtain ⟨hnb113,hnc113⟩ := nn NB419_423
       obtain ⟨hcz114_0,hcz114_1,hcz114_2,hcz114_3,hfz114_0,hfz114_1,hfz114_2,hfz114_3⟩ := cB4 BK419
       go_wp2_with (first | ((with_reducible refine gate_dst (N := 10) rfl ?_); refine bx 10 #[.int .i64 0, .int .i64 0] 24 ?_; intro gb429 hg w115 hbox hb; have BK429 := am (hbox); have GW429 := am (bs hg (YA HB)); have GE429 := GW429; obtain ⟨NB410_429,NB429_410⟩ := ne_ hg BK410; obtain ⟨NB411_429,NB429_411⟩ := ne_ hg BK411; obtain ⟨NB412_429,NB429_412⟩ := ne_ hg BK412; obtain ⟨NB419_429,NB429_419⟩ := ne_ hg BK419; obtain ⟨NB422_429,NB429_422⟩ := ne_ hg BK422; obtain ⟨NB423_429,NB429_423⟩ := ne_ hg BK423; obtain ⟨BK410, BK411, BK412, BK419, BK422, BK423, HB⟩ := bk6 BK410 BK411 BK412 BK419 BK422 BK423 HB hb; clear hb hbox hg; obtain ⟨hnb116,hnc116⟩ := nn NB429_410; obtain ⟨hnb117,hnc117⟩ := nn NB429_411; obtain ⟨hnb118,hnc118⟩ := nn NB429_412; obtain ⟨hnb119,hnc119⟩ := nn NB429_419; obtain ⟨hnb120,hnc120⟩ := nn NB429_422; obtain ⟨hnb121,hnc121⟩ := nn NB429_423; obtain ⟨hcz122_0,hcz122_1,hfz122_0,hfz122_1⟩ := cB2 BK429) | ((with_reducible refine gate_callee (f := 47) rfl ?_); refine gL 51 Try.func47 (impl_Range_empty.calls _ _ _ _ A75.out) fun w123 hb => ?_; replace BK410 := am (blk_below (g := gb410) (o := b2 a0_0 a0_1 24) (by refine fa NB410_429 ?_; refine fa NB410_429 ?_; exact Z BK410) hb); replace BK411 := am (blk_below (g := gb411) (o := b2 a1_0 a1_1 24) (by refine fa NB411_429 ?_; refine fa NB411_429 ?_; exact Z BK411) hb); replace BK412 := am (blk_below (g := gb412) (o := b2 0 0 24) (by refine fa NB412_429 ?_; refine fa NB412_429 ?_; exact Z BK412) hb); replace BK419 := am (blk_below (g := gb419) (o := b4 t415 t416 t417 t418 96) (by refine fa NB419_429 ?_; refine fa NB419_429 ?_; exact Z BK419) hb); replace BK422 := am (blk_below (g := gb422) (o := b2 x423000_40 x423001_40 24) (by refine fa NB422_429 ?_; refine fa NB422_429 ?_; exact Z BK422) hb); replace BK423 := am (blk_below (g := gb423) (o := b2 t415 t416 24) (by refine fa NB423_429 ?_; refine fa NB423_429 ?_; exact Z BK423) hb); replace BK429 := am (blk_below (g := gb429) (o := b2 t417 t418 24) (by refine pf ?_; refine blk_put (cs := #[.int .i64 t417, .int .i64 0]) ?_ 1 _ rfl; refine pf ?_; refine blk_put (cs := #[.int .i64 0, .int .i64 0]) ?_ 0 _ rfl; exact Z BK429) hb); replace HB := am (below_step (YA HB) hb); (try clear hb); obtain ⟨hnb124,hnc124⟩ := nn NB411_410; obtain ⟨hnb125,hnc125⟩ := nn NB411_412; obtain ⟨hnb126,hnc126⟩ := nn NB411_422; obtain ⟨hnb127,hnc127⟩ := nn NB411_423; obtain ⟨hcz128_0,hcz128_1,hfz128_0,hfz128_1⟩ := cB2 BK411) | ((with_reducible refine gate_callee (f := 95) rfl ?_); refine gL 62 Try.func95 (impl_RangeHas.calls _ _ _ _ _ A77.out) fun w129 hb => ?_; obtain ⟨BK410, BK411, BK412, BK419, BK422, BK423, BK429, HB⟩ := bk7 BK410 BK411 BK412 BK419 BK422 BK423 BK429 HB hb; (try clear hb); obtain ⟨hnb130,hnc130⟩ := nn NB422_410; obtain ⟨hnb131,hnc131⟩ := nn NB422_412; obtain ⟨hnb132,hnc132⟩ := nn NB422_423; obtain ⟨hcz133_0,hcz133_1,hfz133_0,hfz133_1⟩ := cB2 BK422; obtain ⟨hnb134,hnc134⟩ := nn NB412_410; obtain ⟨hnb135,hnc135⟩ := nn NB412_423; obtain ⟨hcz136_0,hcz136_1,hfz136_0,hfz136_1⟩ := cB2 BK412))
       refine bodyPost_ret (results_ct rfl _ _ gb412 24 #[.int .i64 x423000_40, .int .i64 x423001_40] (0, 0) _ rfl (by refine pf ?_; refine blk_put (cs := #[.int .i64 x423000_40, .int .i64 0]) ?_ 1 _ rfl; refine pf ?_; refine blk_put (cs := #[.int .i64 0, .int .i64 0]) ?_ 0 _ rfl; exact Z BK412) Try.underlying24 rfl (by kernel_rfl)) rfl ?_
       exact ⟨_, ez, by first | exact Kd.R_nil _ _ _ _ _ | exact Kd.N_nil _ _ _ _ _ | exact Kd.V_nil _ _ _ _ _ | exact Kd.Q_nil _ _ _ _ _ | exact Kd.S_nil _ _ _ _ _, YA HB⟩
      subst c78
      rw [if_pos rfl] at H
      obtain ⟨y432, hy432⟩ : ∃ y_ : List Int, y_ = (([2] : List Int)) := ⟨_, rfl⟩
      replace H : (some (x423000_40, x423001_40, y432)) = some (r1, r2, r3) := by first | (rw [hy432]; with_reducible exact H) | (have H2_ := (Option.bind_some _ _).symm.trans H; rw [hy432]; with_reducible exact H2_) | (have H2_ := (Option.bind_some _ _).symm.trans H; with_reducible exact H2_) | with_reducible exact H | (rw [hy432]; exact H) | exact H
      have Ny432 := am hy432
      clear hy432
      simp only [Option.some.injEq, Prod.mk.injEq] at H
      obtain ⟨rfl, rfl, rfl⟩ := H
      obtain ⟨hnb79,hnc79⟩ := nn NB419_410
      obtain ⟨hnb80,hnc80⟩ := nn NB419_411
      obtain ⟨hnb81,hnc81⟩ := nn NB419_412
      obtain ⟨hnb82,hnc82⟩ := nn NB419_422
      obtain ⟨hnb83,hnc83⟩ := nn NB419_423
      obtain ⟨hcz84_0,hcz84_1,hcz84_2,hcz84_3,hfz84_0,hfz84_1,hfz84_2,hfz84_3⟩ := cB4 BK419
      go_wp2_with (first | ((with_reducible refine gate_dst (N := 10) rfl ?_); refine bx 10 #[.int .i64 0, .int .i64 0] 24 ?_; intro gb429 hg w85 hbox hb; have BK429 := am (hbox); have GW429 := am (bs hg (YA HB)); have GE429 := GW429; obtain ⟨NB410_429,NB429_410⟩ := ne_ hg BK410; obtain ⟨NB411_429,NB429_411⟩ := ne_ hg BK411; obtain ⟨NB412_429,NB429_412⟩ := ne_ hg BK412; obtain ⟨NB419_429,NB429_419⟩ := ne_ hg BK419; obtain ⟨NB422_429,NB429_422⟩ := ne_ hg BK422; obtain ⟨NB423_429,NB429_423⟩ := ne_ hg BK423; obtain ⟨BK410, BK411, BK412, BK419, BK422, BK423, HB⟩ := bk6 BK410 BK411 BK412 BK419 BK422 BK423 HB hb; clear hb hbox hg; obtain ⟨hnb86,hnc86⟩ := nn NB429_410; obtain ⟨hnb87,hnc87⟩ := nn NB429_411; obtain ⟨hnb88,hnc88⟩ := nn NB429_412; obtain ⟨hnb89,hnc89⟩ := nn NB429_419; obtain ⟨hnb90,hnc90⟩ := nn NB429_422; obtain ⟨hnb91,hnc91⟩ := nn NB429_423; obtain ⟨hcz92_0,hcz92_1,hfz92_0,hfz92_1⟩ := cB2 BK429) | ((with_reducible refine gate_callee (f := 47) rfl ?_); refine gL 51 Try.func47 (impl_Range_empty.calls _ _ _ _ A75.out) fun w93 hb => ?_; replace BK410 := am (blk_below (g := gb410) (o := b2 a0_0 a0_1 24) (by refine fa NB410_429 ?_; refine fa NB410_429 ?_; exact Z BK410) hb); replace BK411 := am (blk_below (g := gb411) (o := b2 a1_0 a1_1 24) (by refine fa NB411_429 ?_; refine fa NB411_429 ?_; exact Z BK411) hb); replace BK412 := am (blk_below (g := gb412) (o := b2 0 0 24) (by refine fa NB412_429 ?_; refine fa NB412_429 ?_; exact Z BK412) hb); replace BK419 := am (blk_below (g := gb419) (o := b4 t415 t416 t417 t418 96) (by refine fa NB419_429 ?_; refine fa NB419_429 ?_; exact Z BK419) hb); replace BK422 := am (blk_below (g := gb422) (o := b2 x423000_40 x423001_40 24) (by refine fa NB422_429 ?_; refine fa NB422_429 ?_; exact Z BK422) hb); replace BK423 := am (blk_below (g := gb423) (o := b2 t415 t416 24) (by refine fa NB423_429 ?_; refine fa NB423_429 ?_; exact Z BK423) hb); replace BK429 := am (blk_below (g := gb429) (o := b2 t417 t418 24) (by refine pf ?_; refine blk_put (cs := #[.int .i64 t417, .int .i64 0]) ?_ 1 _ rfl; refine pf ?_; refine blk_put (cs := #[.int .i64 0, .int .i64 0]) ?_ 0 _ rfl; exact Z BK429) hb); replace HB := am (below_step (YA HB) hb); (try clear hb); obtain ⟨hnb94,hnc94⟩ := nn NB411_410; obtain ⟨hnb95,hnc95⟩ := nn NB411_412; obtain ⟨hnb96,hnc96⟩ := nn NB411_422; obtain ⟨hnb97,hnc97⟩ := nn NB411_423; obtain ⟨hcz98_0,hcz98_1,hfz98_0,hfz98_1⟩ := cB2 BK411) | ((with_reducible refine gate_callee (f := 95) rfl ?_); refine gL 62 Try.func95 (impl_RangeHas.calls _ _ _ _ _ A77.out) fun w99 hb => ?_; obtain ⟨BK410, BK411, BK412, BK419, BK422, BK423, BK429, HB⟩ := bk7 BK410 BK411 BK412 BK419 BK422 BK423 BK429 HB hb; (try clear hb); obtain ⟨hnb100,hnc100⟩ := nn NB422_410; obtain ⟨hnb101,hnc101⟩ := nn NB422_412; obtain ⟨hnb102,hnc102⟩ := nn NB422_423; obtain ⟨hcz103_0,hcz103_1,hfz103_0,hfz103_1⟩ := cB2 BK422) | ((with_reducible refine gate_dst (N := 64) rfl ?_); refine Kd.R_lit (Kd.int .i64) _ 3 ?hg (N := 64) ?hd (xs := ([2] : List Int)) (inner := [.int .i64 2]) (ok := fun _ => True) (okp := fun _ => True) ?hr ?hp (fun _ hk => hk) trivial (Below.refl _ _) (Nat.le_refl _) (by simp) ?_; (case hd => rfl); (case hg => rfl); (case hr => first | (go_simp; done) | (go_simp; rfl)); (case hp => exact (Reps.one (show Kd.M (Kd.int .i64) _ _ _ 2 [.int .i64 2] from rfl) (Reps.none _ _))); intro v433 w104 ho105 hb hg_ hnew_; clear hg_ hnew_; (first | rw [← Ny432.out] at ho105 | (simp only [Int.reduceToNat] at ho105; rw [← Ny432.out] at ho105)); have HO434 := am (Kd.R_lower ho105 (below_size (YA HB))); obtain ⟨BK410, BK411, BK412, BK419, BK422, BK423, BK429, HB⟩ := bk7 BK410 BK411 BK412 BK419 BK422 BK423 BK429 HB hb; clear hb ho105; obtain ⟨hnb106,hnc106⟩ := nn NB412_410; obtain ⟨hnb107,hnc107⟩ := nn NB412_423; obtain ⟨hcz108_0,hcz108_1,hfz108_0,hfz108_1⟩ := cB2 BK412))
      refine bodyPost_ret (results_ct rfl _ _ gb412 24 #[.int .i64 x423000_40, .int .i64 x423001_40] (0, 0) _ rfl (by refine pf ?_; refine blk_put (cs := #[.int .i64 x423000_40, .int .i64 0]) ?_ 1 _ rfl; refine pf ?_; refine blk_put (cs := #[.int .i64 0, .int .i64 0]) ?_ 0 _ rfl; exact Z BK412) Try.underlying24 rfl (by kernel_rfl)) rfl ?_
      exact ⟨_, ez, by (with_reducible repeat (first | apply Kd.R_alloc | apply Kd.R_drewN | apply Kd.R_drew)); exact Kd.R_mono (Kd.R_far (p := ⟨gb412, 1, none⟩) (Kd.R_far (p := ⟨gb412, 0, none⟩) (Kd.R_types HO434.out BK412.out (by decide)) (fun _ hk => hk.2) (.int .i64 x423000_40)) (fun _ hk => hk.2) (.int .i64 x423001_40)) (fun _ hk => trivial), YA HB⟩
     replace c76 := Bool.eq_false_iff.mpr c76
     subst c76
     rw [if_neg ff] at H
     obtain ⟨⟨t435, t436⟩, A137, H⟩ := bd H
     try dsimp only at H
     obtain ⟨⟨t437, t438⟩, A138, H⟩ := bd H
     try dsimp only at H
     obtain ⟨t439, A139, H⟩ := bd H
     try dsimp only at H
     by_cases c140 : t439 = true
     rotate_left
     ·replace c140 := Bool.eq_false_iff.mpr c140
      subst c140
      rw [if_neg ff] at H
      simp only [Option.some.injEq, Prod.mk.injEq] at H
      obtain ⟨rfl, rfl, rfl⟩ := H
      obtain ⟨hnb176,hnc176⟩ := nn NB419_410
      obtain ⟨hnb177,hnc177⟩ := nn NB419_411
      obtain ⟨hnb178,hnc178⟩ := nn NB419_412
      obtain ⟨hnb179,hnc179⟩ := nn NB419_422
      obtain ⟨hnb180,hnc180⟩ := nn NB419_423
      obtain ⟨hcz181_0,hcz181_1,hcz181_2,hcz181_3,hfz181_0,hfz181_1,hfz181_2,hfz181_3⟩ := cB4 BK419
      try go_wp2_with (first | ((with_reducible refine gate_dst (N := 10) rfl ?_); refine bx 10 #[.int .i64 0, .int .i64 0] 24 ?_; intro gb429 hg w182 hbox hb; have BK429 := am (hbox); have GW429 := am (bs hg (YA HB)); have GE429 := GW429; obtain ⟨NB410_429,NB429_410⟩ := ne_ hg BK410; obtain ⟨NB411_429,NB429_411⟩ := ne_ hg BK411; obtain ⟨NB412_429,NB429_412⟩ := ne_ hg BK412; obtain ⟨NB419_429,NB429_419⟩ := ne_ hg BK419; obtain ⟨NB422_429,NB429_422⟩ := ne_ hg BK422; obtain ⟨NB423_429,NB429_423⟩ := ne_ hg BK423; obtain ⟨BK410, BK411, BK412, BK419, BK422, BK423, HB⟩ := bk6 BK410 BK411 BK412 BK419 BK422 BK423 HB hb; clear hb hbox hg; obtain ⟨hnb183,hnc183⟩ := nn NB429_410; obtain ⟨hnb184,hnc184⟩ := nn NB429_411; obtain ⟨hnb185,hnc185⟩ := nn NB429_412; obtain ⟨hnb186,hnc186⟩ := nn NB429_419; obtain ⟨hnb187,hnc187⟩ := nn NB429_422; obtain ⟨hnb188,hnc188⟩ := nn NB429_423; obtain ⟨hcz189_0,hcz189_1,hfz189_0,hfz189_1⟩ := cB2 BK429) | ((with_reducible refine gate_callee (f := 47) rfl ?_); refine gL 51 Try.func47 (impl_Range_empty.calls _ _ _ _ A75.out) fun w190 hb => ?_; replace BK410 := am (blk_below (g := gb410) (o := b2 a0_0 a0_1 24) (by refine fa NB410_429 ?_; refine fa NB410_429 ?_; exact Z BK410) hb); replace BK411 := am (blk_below (g := gb411) (o := b2 a1_0 a1_1 24) (by refine fa NB411_429 ?_; refine fa NB411_429 ?_; exact Z BK411) hb); replace BK412 := am (blk_below (g := gb412) (o := b2 0 0 24) (by refine fa NB412_429 ?_; refine fa NB412_429 ?_; exact Z BK412) hb); replace BK419 := am (blk_below (g := gb419) (o := b4 t415 t416 t417 t418 96) (by refine fa NB419_429 ?_; refine fa NB419_429 ?_; exact Z BK419) hb); replace BK422 := am (blk_below (g := gb422) (o := b2 x423000_40 x423001_40 24) (by refine fa NB422_429 ?_; refine fa NB422_429 ?_; exact Z BK422) hb); replace BK423 := am (blk_below (g := gb423) (o := b2 t415 t416 24) (by refine fa NB423_429 ?_; refine fa NB423_429 ?_; exact Z BK423) hb); replace BK429 := am (blk_below (g := gb429) (o := b2 t417 t418 24) (by refine pf ?_; refine blk_put (cs := #[.int .i64 t417, .int .i64 0]) ?_ 1 _ rfl; refine pf ?_; refine blk_put (cs := #[.int .i64 0, .int .i64 0]) ?_ 0 _ rfl; exact Z BK429) hb); replace HB := am (below_step (YA HB) hb); (try clear hb)))
      obtain ⟨BK410, BK411, BK412, BK419, BK422, BK423, BK429, HB⟩ := dk7 BK410 BK411 BK412 BK419 BK422 BK423 BK429 HB
      refine start_ (n := 9) (S := fun w' => w'.cell? ⟨gb422, 0, none⟩ = some (.int .i64 x423000_40) ∧ w'.cell? ⟨gb422, 1, none⟩ = some (.int .i64 x423001_40) ∧ w'.cell? ⟨gb410, 0, none⟩ = some (.int .i64 a0_0) ∧ w'.cell? ⟨gb410, 1, none⟩ = some (.int .i64 a0_1) ∧ w'.cell? ⟨gb429, 0, none⟩ = some (.int .i64 t417) ∧ w'.cell? ⟨gb429, 1, none⟩ = some (.int .i64 t418)) (ds := [8]) (lb 9 0) (by kernel_rfl) rfl rfl ⟨bc BK422 0, bc BK422 1, bc BK410 0, bc BK410 1, bc BK429 0, bc BK429 1⟩ (fun hHeld => ?_); refine with_tabW impl_rangeRem.tab11 impl_rangeRem.bits11 (fun HT_ HW_ => ?_)
      generalize w190.drew = w191 at BK410 BK411 BK412 BK419 BK422 BK423 BK429 HB hHeld ⊢
      refine pk 2 55 4 ?_
      refine pk 4 57 20 ?_
      refine tk 0 53 21 hHeld ?_
      refine tk 1 54 23 hHeld ?_
      refine tk 3 56 31 hHeld ?_
      refine tk 5 58 63 hHeld ?_
      refine on 6 (some 59) 127 fun K hK => ?_
      refine gq Try.func97 (impl_rangeRemBy.calls _ _ _ _ _ _ _ _ A137.out) fun w192 hb => ?_
      obtain ⟨BK410, BK411, BK412, BK419, BK422, BK423, BK429, HB⟩ := bk7 BK410 BK411 BK412 BK419 BK422 BK423 BK429 HB hb
      clear hb
      refine kk hK ⟨bc BK422 0, bc BK422 1, bc BK410 0, bc BK410 1, bc BK429 0, bc BK429 1⟩ fun hHeld => ?_
      clear hK K
      refine on 7 (some 60) 255 fun K hK => ?_
      refine gq Try.func84 (impl_RangeJoin.calls _ _ _ _ _ _ _ _ A138.out) fun w193 hb => ?_
      obtain ⟨BK410, BK411, BK412, BK419, BK422, BK423, BK429, HB⟩ := bk7 BK410 BK411 BK412 BK419 BK422 BK423 BK429 HB hb
      clear hb
      refine kk hK ⟨bc BK422 0, bc BK422 1, bc BK410 0, bc BK410 1, bc BK429 0, bc BK429 1⟩ fun hHeld => ?_
      clear hK K
      refine last_ (i := 8) (N := none) (lb 9 511) rfl rfl ow (by decide) (fun K hK => ?_)
      have hs194 : w193.cell? ⟨gb422, 0, none⟩ = some (.int .i64 x423000_40) := bc BK422 0
      have hfs194 := blk_frozen BK422.out 0
      have hns194_0 := NB410_422.out
      have hns194_1 := NB411_422.out
      have hns194_2 := NB412_422.out
      have hns194_3 := NB419_422.out
      have hns194_5 := NB423_422.out
      have hns194_6 := NB429_422.out
      have hms194_0 := NB422_410.out
      have hms194_1 := NB422_411.out
      have hms194_2 := NB422_412.out
      have hms194_3 := NB422_419.out
      have hms194_5 := NB422_423.out
      have hms194_6 := NB422_429.out
      have hs195 : w193.cell? ⟨gb422, 1, none⟩ = some (.int .i64 x423001_40) := bc BK422 1
      have hfs195 := blk_frozen BK422.out 1
      have hns195_0 := NB410_422.out
      have hns195_1 := NB411_422.out
      have hns195_2 := NB412_422.out
      have hns195_3 := NB419_422.out
      have hns195_5 := NB423_422.out
      have hns195_6 := NB429_422.out
      have hms195_0 := NB422_410.out
      have hms195_1 := NB422_411.out
      have hms195_2 := NB422_412.out
      have hms195_3 := NB422_419.out
      have hms195_5 := NB422_423.out
      have hms195_6 := NB422_429.out
      refine skip_ (w1 := ?_) (by rfl) rfl ?_ ?_
      rotate_left
      ·go_simp
       rfl
      refine hK.out _ _ ?_
      clear hK K
      refine done_ (done_of HT_.out (by kernel_rfl)) ?_
      obtain ⟨hnb196,hnc196⟩ := nn NB411_410
      obtain ⟨hnb197,hnc197⟩ := nn NB411_412
      obtain ⟨hnb198,hnc198⟩ := nn NB411_422
      obtain ⟨hnb199,hnc199⟩ := nn NB411_423
      obtain ⟨hcz200_0,hcz200_1,hfz200_0,hfz200_1⟩ := cB2 BK411
      try go_wp2_with (first | ((with_reducible refine gate_callee (f := 95) rfl ?_); refine gL 62 Try.func95 (impl_RangeHas.calls _ _ _ _ _ A139.out) fun w201 hb => ?_; replace BK410 := am (blk_below (g := gb410) (o := b2 a0_0 a0_1 24) (by refine fa NB410_422 ?_; refine fa NB410_422 ?_; exact Z BK410) hb); replace BK411 := am (blk_below (g := gb411) (o := b2 a1_0 a1_1 24) (by refine fa NB411_422 ?_; refine fa NB411_422 ?_; exact Z BK411) hb); replace BK412 := am (blk_below (g := gb412) (o := b2 0 0 24) (by refine fa NB412_422 ?_; refine fa NB412_422 ?_; exact Z BK412) hb); replace BK419 := am (blk_below (g := gb419) (o := b4 t415 t416 t417 t418 96) (by refine fa NB419_422 ?_; refine fa NB419_422 ?_; exact Z BK419) hb); replace BK422 := am (blk_below (g := gb422) (o := b2 t437 t438 24) (by refine pf ?_; refine blk_put (cs := #[.int .i64 t437, .int .i64 x423001_40]) ?_ 1 _ rfl; refine pf ?_; refine blk_put (cs := #[.int .i64 x423000_40, .int .i64 x423001_40]) ?_ 0 _ rfl; exact Z BK422) hb); replace BK423 := am (blk_below (g := gb423) (o := b2 t415 t416 24) (by refine fa NB423_422 ?_; refine fa NB423_422 ?_; exact Z BK423) hb); replace BK429 := am (blk_below (g := gb429) (o := b2 t417 t418 24) (by refine fa NB429_422 ?_; refine fa NB429_422 ?_; exact Z BK429) hb); replace HB := am (below_step (YA HB) hb); (try clear hb); obtain ⟨hnb202,hnc202⟩ := nn NB422_410; obtain ⟨hnb203,hnc203⟩ := nn NB422_412; obtain ⟨hnb204,hnc204⟩ := nn NB422_423; obtain ⟨hcz205_0,hcz205_1,hfz205_0,hfz205_1⟩ := cB2 BK422; obtain ⟨hnb206,hnc206⟩ := nn NB412_410; obtain ⟨hnb207,hnc207⟩ := nn NB412_423; obtain ⟨hcz208_0,hcz208_1,hfz208_0,hfz208_1⟩ := cB2 BK412))
      refine bodyPost_ret (results_ct rfl _ _ gb412 24 #[.int .i64 t437, .int .i64 t438] (0, 0) _ rfl (by refine pf ?_; refine blk_put (cs := #[.int .i64 t437, .int .i64 0]) ?_ 1 _ rfl; refine pf ?_; refine blk_put (cs := #[.int .i64 0, .int .i64 0]) ?_ 0 _ rfl; exact Z BK412) Try.underlying24 rfl (by kernel_rfl)) rfl ?_
      exact ⟨_, ez, by first | exact Kd.R_nil _ _ _ _ _ | exact Kd.N_nil _ _ _ _ _ | exact Kd.V_nil _ _ _ _ _ | exact Kd.Q_nil _ _ _ _ _ | exact Kd.S_nil _ _ _ _ _, YA HB⟩
     subst c140
     rw [if_pos rfl] at H
     obtain ⟨y440, hy440⟩ : ∃ y_ : List Int, y_ = (([2] : List Int)) := ⟨_, rfl⟩
     replace H : (some (t437, t438, y440)) = some (r1, r2, r3) := by first | (rw [hy440]; with_reducible exact H) | (have H2_ := (Option.bind_some _ _).symm.trans H; rw [hy440]; with_reducible exact H2_) | (have H2_ := (Option.bind_some _ _).symm.trans H; with_reducible exact H2_) | with_reducible exact H | (rw [hy440]; exact H) | exact H
     have Ny440 := am hy440
     clear hy440
     simp only [Option.some.injEq, Prod.mk.injEq] at H
     obtain ⟨rfl, rfl, rfl⟩ := H
     obtain ⟨hnb141,hnc141⟩ := nn NB419_410
     obtain ⟨hnb142,hnc142⟩ := nn NB419_411
     obtain ⟨hnb143,hnc143⟩ := nn NB419_412
     obtain ⟨hnb144,hnc144⟩ := nn NB419_422
     obtain ⟨hnb145,hnc145⟩ := nn NB419_423
     obtain ⟨hcz146_0,hcz146_1,hcz146_2,hcz146_3,hfz146_0,hfz146_1,hfz146_2,hfz146_3⟩ := cB4 BK419
     try go_wp2_with (first | ((with_reducible refine gate_dst (N := 10) rfl ?_); refine bx 10 #[.int .i64 0, .int .i64 0] 24 ?_; intro gb429 hg w147 hbox hb; have BK429 := am (hbox); have GW429 := am (bs hg (YA HB)); have GE429 := GW429; obtain ⟨NB410_429,NB429_410⟩ := ne_ hg BK410; obtain ⟨NB411_429,NB429_411⟩ := ne_ hg BK411; obtain ⟨NB412_429,NB429_412⟩ := ne_ hg BK412; obtain ⟨NB419_429,NB429_419⟩ := ne_ hg BK419; obtain ⟨NB422_429,NB429_422⟩ := ne_ hg BK422; obtain ⟨NB423_429,NB429_423⟩ := ne_ hg BK423; obtain ⟨BK410, BK411, BK412, BK419, BK422, BK423, HB⟩ := bk6 BK410 BK411 BK412 BK419 BK422 BK423 HB hb; clear hb hbox hg; obtain ⟨hnb148,hnc148⟩ := nn NB429_410; obtain ⟨hnb149,hnc149⟩ := nn NB429_411; obtain ⟨hnb150,hnc150⟩ := nn NB429_412; obtain ⟨hnb151,hnc151⟩ := nn NB429_419; obtain ⟨hnb152,hnc152⟩ := nn NB429_422; obtain ⟨hnb153,hnc153⟩ := nn NB429_423; obtain ⟨hcz154_0,hcz154_1,hfz154_0,hfz154_1⟩ := cB2 BK429) | ((with_reducible refine gate_callee (f := 47) rfl ?_); refine gL 51 Try.func47 (impl_Range_empty.calls _ _ _ _ A75.out) fun w155 hb => ?_; replace BK410 := am (blk_below (g := gb410) (o := b2 a0_0 a0_1 24) (by refine fa NB410_429 ?_; refine fa NB410_429 ?_; exact Z BK410) hb); replace BK411 := am (blk_below (g := gb411) (o := b2 a1_0 a1_1 24) (by refine fa NB411_429 ?_; refine fa NB411_429 ?_; exact Z BK411) hb); replace BK412 := am (blk_below (g := gb412) (o := b2 0 0 24) (by refine fa NB412_429 ?_; refine fa NB412_429 ?_; exact Z BK412) hb); replace BK419 := am (blk_below (g := gb419) (o := b4 t415 t416 t417 t418 96) (by refine fa NB419_429 ?_; refine fa NB419_429 ?_; exact Z BK419) hb); replace BK422 := am (blk_below (g := gb422) (o := b2 x423000_40 x423001_40 24) (by refine fa NB422_429 ?_; refine fa NB422_429 ?_; exact Z BK422) hb); replace BK423 := am (blk_below (g := gb423) (o := b2 t415 t416 24) (by refine fa NB423_429 ?_; refine fa NB423_429 ?_; exact Z BK423) hb); replace BK429 := am (blk_below (g := gb429) (o := b2 t417 t418 24) (by refine pf ?_; refine blk_put (cs := #[.int .i64 t417, .int .i64 0]) ?_ 1 _ rfl; refine pf ?_; refine blk_put (cs := #[.int .i64 0, .int .i64 0]) ?_ 0 _ rfl; exact Z BK429) hb); replace HB := am (below_step (YA HB) hb); (try clear hb)))
     obtain ⟨BK410, BK411, BK412, BK419, BK422, BK423, BK429, HB⟩ := dk7 BK410 BK411 BK412 BK419 BK422 BK423 BK429 HB
     refine start_ (n := 9) (S := fun w' => w'.cell? ⟨gb422, 0, none⟩ = some (.int .i64 x423000_40) ∧ w'.cell? ⟨gb422, 1, none⟩ = some (.int .i64 x423001_40) ∧ w'.cell? ⟨gb410, 0, none⟩ = some (.int .i64 a0_0) ∧ w'.cell? ⟨gb410, 1, none⟩ = some (.int .i64 a0_1) ∧ w'.cell? ⟨gb429, 0, none⟩ = some (.int .i64 t417) ∧ w'.cell? ⟨gb429, 1, none⟩ = some (.int .i64 t418)) (ds := [8]) (lb 9 0) (by kernel_rfl) rfl rfl ⟨bc BK422 0, bc BK422 1, bc BK410 0, bc BK410 1, bc BK429 0, bc BK429 1⟩ (fun hHeld => ?_); refine with_tabW impl_rangeRem.tab11 impl_rangeRem.bits11 (fun HT_ HW_ => ?_)
     generalize w155.drew = w156 at BK410 BK411 BK412 BK419 BK422 BK423 BK429 HB hHeld ⊢
     refine pk 2 55 4 ?_
     refine pk 4 57 20 ?_
     refine tk 0 53 21 hHeld ?_
     refine tk 1 54 23 hHeld ?_
     refine tk 3 56 31 hHeld ?_
     refine tk 5 58 63 hHeld ?_
     refine on 6 (some 59) 127 fun K hK => ?_
     refine gq Try.func97 (impl_rangeRemBy.calls _ _ _ _ _ _ _ _ A137.out) fun w157 hb => ?_
     obtain ⟨BK410, BK411, BK412, BK419, BK422, BK423, BK429, HB⟩ := bk7 BK410 BK411 BK412 BK419 BK422 BK423 BK429 HB hb
     clear hb
     refine kk hK ⟨bc BK422 0, bc BK422 1, bc BK410 0, bc BK410 1, bc BK429 0, bc BK429 1⟩ fun hHeld => ?_
     clear hK K
     refine on 7 (some 60) 255 fun K hK => ?_
     refine gq Try.func84 (impl_RangeJoin.calls _ _ _ _ _ _ _ _ A138.out) fun w158 hb => ?_
     obtain ⟨BK410, BK411, BK412, BK419, BK422, BK423, BK429, HB⟩ := bk7 BK410 BK411 BK412 BK419 BK422 BK423 BK429 HB hb
     clear hb
     refine kk hK ⟨bc BK422 0, bc BK422 1, bc BK410 0, bc BK410 1, bc BK429 0, bc BK429 1⟩ fun hHeld => ?_
     clear hK K
     refine last_ (i := 8) (N := none) (lb 9 511) rfl rfl ow (by decide) (fun K hK => ?_)
     have hs159 : w158.cell? ⟨gb422, 0, none⟩ = some (.int .i64 x423000_40) := bc BK422 0
     have hfs159 := blk_frozen BK422.out 0
     have hns159_0 := NB410_422.out
     have hns159_1 := NB411_422.out
     have hns159_2 := NB412_422.out
     have hns159_3 := NB419_422.out
     have hns159_5 := NB423_422.out
     have hns159_6 := NB429_422.out
     have hms159_0 := NB422_410.out
     have hms159_1 := NB422_411.out
     have hms159_2 := NB422_412.out
     have hms159_3 := NB422_419.out
     have hms159_5 := NB422_423.out
     have hms159_6 := NB422_429.out
     have hs160 : w158.cell? ⟨gb422, 1, none⟩ = some (.int .i64 x423001_40) := bc BK422 1
     have hfs160 := blk_frozen BK422.out 1
     have hns160_0 := NB410_422.out
     have hns160_1 := NB411_422.out
     have hns160_2 := NB412_422.out
     have hns160_3 := NB419_422.out
     have hns160_5 := NB423_422.out
     have hns160_6 := NB429_422.out
     have hms160_0 := NB422_410.out
     have hms160_1 := NB422_411.out
     have hms160_2 := NB422_412.out
     have hms160_3 := NB422_419.out
     have hms160_5 := NB422_423.out
     have hms160_6 := NB422_429.out
     refine skip_ (w1 := ?_) (by rfl) rfl ?_ ?_
     rotate_left
     ·go_simp
      rfl
     refine hK.out _ _ ?_
     clear hK K
     refine done_ (done_of HT_.out (by kernel_rfl)) ?_
     obtain ⟨hnb161,hnc161⟩ := nn NB411_410
     obtain ⟨hnb162,hnc162⟩ := nn NB411_412
     obtain ⟨hnb163,hnc163⟩ := nn NB411_422
     obtain ⟨hnb164,hnc164⟩ := nn NB411_423
     obtain ⟨hcz165_0,hcz165_1,hfz165_0,hfz165_1⟩ := cB2 BK411
     try go_wp2_with (first | ((with_reducible refine gate_callee (f := 95) rfl ?_); refine gL 62 Try.func95 (impl_RangeHas.calls _ _ _ _ _ A139.out) fun w166 hb => ?_; replace BK410 := am (blk_below (g := gb410) (o := b2 a0_0 a0_1 24) (by refine fa NB410_422 ?_; refine fa NB410_422 ?_; exact Z BK410) hb); replace BK411 := am (blk_below (g := gb411) (o := b2 a1_0 a1_1 24) (by refine fa NB411_422 ?_; refine fa NB411_422 ?_; exact Z BK411) hb); replace BK412 := am (blk_below (g := gb412) (o := b2 0 0 24) (by refine fa NB412_422 ?_; refine fa NB412_422 ?_; exact Z BK412) hb); replace BK419 := am (blk_below (g := gb419) (o := b4 t415 t416 t417 t418 96) (by refine fa NB419_422 ?_; refine fa NB419_422 ?_; exact Z BK419) hb); replace BK422 := am (blk_below (g := gb422) (o := b2 t437 t438 24) (by refine pf ?_; refine blk_put (cs := #[.int .i64 t437, .int .i64 x423001_40]) ?_ 1 _ rfl; refine pf ?_; refine blk_put (cs := #[.int .i64 x423000_40, .int .i64 x423001_40]) ?_ 0 _ rfl; exact Z BK422) hb); replace BK423 := am (blk_below (g := gb423) (o := b2 t415 t416 24) (by refine fa NB423_422 ?_; refine fa NB423_422 ?_; exact Z BK423) hb); replace BK429 := am (blk_below (g := gb429) (o := b2 t417 t418 24) (by refine fa NB429_422 ?_; refine fa NB429_422 ?_; exact Z BK429) hb); replace HB := am (below_step (YA HB) hb); (try clear hb); obtain ⟨hnb167,hnc167⟩ := nn NB422_410; obtain ⟨hnb168,hnc168⟩ := nn NB422_412; obtain ⟨hnb169,hnc169⟩ := nn NB422_423; obtain ⟨hcz170_0,hcz170_1,hfz170_0,hfz170_1⟩ := cB2 BK422) | ((with_reducible refine gate_dst (N := 64) rfl ?_); refine Kd.R_lit (Kd.int .i64) _ 3 ?hg (N := 64) ?hd (xs := ([2] : List Int)) (inner := [.int .i64 2]) (ok := fun _ => True) (okp := fun _ => True) ?hr ?hp (fun _ hk => hk) trivial (Below.refl _ _) (Nat.le_refl _) (by simp) ?_; (case hd => rfl); (case hg => rfl); (case hr => first | (go_simp; done) | (go_simp; rfl)); (case hp => exact (Reps.one (show Kd.M (Kd.int .i64) _ _ _ 2 [.int .i64 2] from rfl) (Reps.none _ _))); intro v441 w171 ho172 hb hg_ hnew_; clear hg_ hnew_; (first | rw [← Ny440.out] at ho172 | (simp only [Int.reduceToNat] at ho172; rw [← Ny440.out] at ho172)); have HO442 := am (Kd.R_lower ho172 (below_size (YA HB))); obtain ⟨BK410, BK411, BK412, BK419, BK422, BK423, BK429, HB⟩ := bk7 BK410 BK411 BK412 BK419 BK422 BK423 BK429 HB hb; clear hb ho172; obtain ⟨hnb173,hnc173⟩ := nn NB412_410; obtain ⟨hnb174,hnc174⟩ := nn NB412_423; obtain ⟨hcz175_0,hcz175_1,hfz175_0,hfz175_1⟩ := cB2 BK412))
     refine bodyPost_ret (results_ct rfl _ _ gb412 24 #[.int .i64 t437, .int .i64 t438] (0, 0) _ rfl (by refine pf ?_; refine blk_put (cs := #[.int .i64 t437, .int .i64 0]) ?_ 1 _ rfl; refine pf ?_; refine blk_put (cs := #[.int .i64 0, .int .i64 0]) ?_ 0 _ rfl; exact Z BK412) Try.underlying24 rfl (by kernel_rfl)) rfl ?_
     exact ⟨_, ez, by (with_reducible repeat (first | apply Kd.R_alloc | apply Kd.R_drewN | apply Kd.R_drew)); exact Kd.R_mono (Kd.R_far (p := ⟨gb412, 1, none⟩) (Kd.R_far (p := ⟨gb412, 0, none⟩) (Kd.R_types HO442.out BK412.out (by decide)) (fun _ hk => hk.2) (.int .i64 t437)) (fun _ hk => hk.2) (.int .i64 t438)) (fun _ hk => trivial), YA HB⟩

end Go.Proofs.Ythbkakcchgnhpaa.PFnRangeFaults
