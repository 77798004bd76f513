/- Written by this session's own driver (wip/dprint.py): the functions that the law FnRangeFaults reaches, as Lean functions, each with its contract. -/
import Derived.Test.YthbkakcchgnhpaaPFnRangeFaultsx0
import Derived.Test.YthbkakcchgnhpaaPFnRangeFaultsx13
import Derived.Test.YthbkakcchgnhpaaPFnRangeFaultsx18
import Derived.Test.YthbkakcchgnhpaaSv
namespace Go.Proofs.Ythbkakcchgnhpaa.PFnRangeFaults
open Go.RowKit Go.Proofs.YthbkakcchgnhpaaV.PrintWords Go.Proofs.YthbkakcchgnhpaaV.PrintLast Go.Proofs.YthbkakcchgnhpaaV.PrintMore Go.Proofs.YthbkakcchgnhpaaSv
attribute [local go_sem] max2_int min2_int max_two min_two max_three min_three max_four min_four   -- for this text's walks alone
set_option linter.unusedVariables false
set_option linter.unusedSimpArgs false

/-! ### impl_rangeBits: function 55 -/
attribute [local go_sem] Go.Proofs.YthbkakcchgnhpaaSet.isSome_setCell
mutual
def impl_rangeBits.j0 : Nat → Int → Bool → Int → Int → Int → Int → Option (Int × Int)
 | 0, _, _, _, _, _, _ => none
 | k + 1, x0, x14, x444000, x444001, x445000, x445001 => if x14 = true then ((impl_numExact.f k x0 x444000 x445000).bind fun t448 => (some (t448, t448))) else (if x0 = 6 then (if x444000 ≥ 0 then (impl_rangeBits.j1 k (decide (x445000 ≥ 0)) x444000 x444001 x445000 x445001) else (impl_rangeBits.j1 k false x444000 x444001 x445000 x445001)) else (if x444000 < 0 then (impl_rangeBits.j2 k x0 true x444000 x444001 x445000 x445001) else (impl_rangeBits.j2 k x0 (decide (x445000 < 0)) x444000 x444001 x445000 x445001)))
def impl_rangeBits.j1 : Nat → Bool → Int → Int → Int → Int → Option (Int × Int)
 | 0, _, _, _, _, _ => none
 | k + 1, x26, x444000, x444001, x445000, x445001 => if x26 = true then (some (0, mn x444001 x445001)) else (if x444000 ≥ 0 then (some (0, x444001)) else (if x445000 ≥ 0 then (some (0, x445001)) else (some ((-2147483648), 2147483647))))
def impl_rangeBits.j2 : Nat → Int → Bool → Int → Int → Int → Int → Option (Int × Int)
 | 0, _, _, _, _, _, _ => none
 | k + 1, x0, x63, x444000, x444001, x445000, x445001 => if x63 = true then (some ((-2147483648), 2147483647)) else (if x0 = 7 then (impl_rangeBits.j3 k x444000 x444001 x445000 x445001 (mx x444000 x445000) 0) else (impl_rangeBits.j3 k x444000 x444001 x445000 x445001 0 0))
def impl_rangeBits.j3 : Nat → Int → Int → Int → Int → Int → Int → Option (Int × Int)
 | 0, _, _, _, _, _, _ => none
 | k + 1, x444000, x444001, x445000, x445001, x450000, x450001 => impl_rangeBits.l0 k x444000 x444001 x445000 x445001 x450000 x450001
def impl_rangeBits.l0 : Nat → Int → Int → Int → Int → Int → Int → Option (Int × Int)
 | 0, _, _, _, _, _, _ => none
 | k + 1, x444000, x444001, x445000, x445001, x450000, x450001 => if x450001 < (mx x444001 x445001) then (impl_rangeBits.l0 k x444000 x444001 x445000 x445001 x450000 (wrap64 ((wrap64 (2 * x450001)) + 1))) else (some (x450000, x450001))
end
def impl_rangeBits.f (k : Nat) (a0 : Int) (a1_0 : Int) (a1_1 : Int) (a2_0 : Int) (a2_1 : Int) : Option (Int × Int) := (impl_Range_single.f a1_0 a1_1).bind fun t446 => (if t446 = true then ((impl_Range_single.f a2_0 a2_1).bind fun t447 => (impl_rangeBits.j0 k a0 t447 a1_0 a1_1 a2_0 a2_1)) else (impl_rangeBits.j0 k a0 false a1_0 a1_1 a2_0 a2_1))
theorem impl_rangeBits.mono_l : ∀ k, (∀ y0 y1 y2 y3 y4 y5, LeO (impl_rangeBits.j0 k y0 y1 y2 y3 y4 y5) (impl_rangeBits.j0 (k + 1) y0 y1 y2 y3 y4 y5)) ∧ (∀ y0 y1 y2 y3 y4, LeO (impl_rangeBits.j1 k y0 y1 y2 y3 y4) (impl_rangeBits.j1 (k + 1) y0 y1 y2 y3 y4)) ∧ (∀ y0 y1 y2 y3 y4 y5, LeO (impl_rangeBits.j2 k y0 y1 y2 y3 y4 y5) (impl_rangeBits.j2 (k + 1) y0 y1 y2 y3 y4 y5)) ∧ (∀ y0 y1 y2 y3 y4 y5, LeO (impl_rangeBits.j3 k y0 y1 y2 y3 y4 y5) (impl_rangeBits.j3 (k + 1) y0 y1 y2 y3 y4 y5)) ∧ (∀ y0 y1 y2 y3 y4 y5, LeO (impl_rangeBits.l0 k y0 y1 y2 y3 y4 y5) (impl_rangeBits.l0 (k + 1) y0 y1 y2 y3 y4 y5))
 | 0 => ⟨fun _ _ _ _ _ _ r h => by simp [impl_rangeBits.j0] at h, fun _ _ _ _ _ r h => by simp [impl_rangeBits.j1] at h, fun _ _ _ _ _ _ r h => by simp [impl_rangeBits.j2] at h, fun _ _ _ _ _ _ r h => by simp [impl_rangeBits.j3] at h, fun _ _ _ _ _ _ r h => by simp [impl_rangeBits.l0] at h⟩
 | k + 1 => by
  obtain ⟨ih0, ih1, ih2, ih3, ih4⟩ := impl_rangeBits.mono_l k
  refine ⟨?_, ?_, ?_, ?_, ?_⟩ <;> (intros; (first | unfold impl_rangeBits.j0 | unfold impl_rangeBits.j1 | unfold impl_rangeBits.j2 | unfold impl_rangeBits.j3 | unfold impl_rangeBits.l0); repeat' first | (with_reducible first | apply ih0 | apply ih1 | apply ih2 | apply ih3 | apply ih4 | apply impl_numExact.mono | apply LeO.refl | apply LeO.none | refine LeO.ite ?_ ?_ | refine LeO.bind ?_ (fun _ => ?_)) | apply ih0 | apply ih1 | apply ih2 | apply ih3 | apply ih4 | apply impl_numExact.mono | apply LeO.none | refine LeO.ite ?_ ?_ | refine LeO.bind ?_ (fun _ => ?_))
theorem impl_rangeBits.mono : ∀ a0 a1 a2 a3 a4 k, LeO (impl_rangeBits.f k a0 a1 a2 a3 a4) (impl_rangeBits.f (k + 1) a0 a1 a2 a3 a4) := by
 intro a0 a1 a2 a3 a4 k
 obtain ⟨ih0, ih1, ih2, ih3, ih4⟩ := impl_rangeBits.mono_l k
 unfold impl_rangeBits.f
 repeat' first | (with_reducible first | apply ih0 | apply ih1 | apply ih2 | apply ih3 | apply ih4 | apply impl_numExact.mono | apply LeO.refl | apply LeO.none | refine LeO.ite ?_ ?_ | refine LeO.bind ?_ (fun _ => ?_)) | apply ih0 | apply ih1 | apply ih2 | apply ih3 | apply ih4 | apply impl_numExact.mono | apply LeO.none | refine LeO.ite ?_ ?_ | refine LeO.bind ?_ (fun _ => ?_)
set_option maxHeartbeats 8000000 in
set_option maxRecDepth 100000 in
theorem impl_rangeBits.calls (k : Nat) (a0 : Int) (a1_0 : Int) (a1_1 : Int) (a2_0 : Int) (a2_1 : Int) (r1 : Int) (r2 : Int) (w : World) (h : impl_rangeBits.f k a0 a1_0 a1_1 a2_0 a2_1 = some (r1, r2)) :
  Calls Try.prog 55 #[.int .i64 a0, .agg #[.int .i64 a1_0, .int .i64 a1_1], .agg #[.int .i64 a2_0, .int .i64 a2_1]] w fun e w' => e = .returned (.agg #[.int .i64 r1, .int .i64 r2]) ∧ Below w.heap.size w w' := by
 have hu24 := Try.underlying24
 have HB := am (Below.refl w.heap.size w)
 have H : ((impl_Range_single.f a1_0 a1_1).bind fun t446 => (if t446 = true then ((impl_Range_single.f a2_0 a2_1).bind fun t447 => (impl_rangeBits.j0 k a0 t447 a1_0 a1_1 a2_0 a2_1)) else (impl_rangeBits.j0 k a0 false a1_0 a1_1 a2_0 a2_1))) = some (r1, r2) := h
 clear h
 have HC4 := am H
 clear H
 go_enter Try.func55, Try.ntmps55
 go_upto_region 1 with (first | ((with_reducible refine gate_dst (N := 4) rfl ?_); refine bx 4 #[.int .i64 a1_0, .int .i64 a1_1] 24 ?_; intro gb443 hg w5 hbox hb; have BK443 := am (hbox); have GW443 := am (bs hg (YA HB)); have GE443 := GW443; replace HB := am (below_step (YA HB) hb); clear hb hbox hg) | ((with_reducible refine gate_dst (N := 5) rfl ?_); refine bx 5 #[.int .i64 a2_0, .int .i64 a2_1] 24 ?_; intro gb444 hg w6 hbox hb; have BK444 := am (hbox); have GW444 := am (bs hg (YA HB)); have GE444 := GW444; obtain ⟨NB443_444,NB444_443⟩ := ne_ hg BK443; obtain ⟨BK443, HB⟩ := bk1 BK443 HB hb; clear hb hbox hg) | ((with_reducible refine gate_dst (N := 6) rfl ?_); refine bx 6 #[.int .i64 0, .int .i64 0] 24 ?_; intro gb445 hg w7 hbox hb; have BK445 := am (hbox); have GW445 := am (bs hg (YA HB)); have GE445 := GW445; obtain ⟨NB443_445,NB445_443⟩ := ne_ hg BK443; obtain ⟨NB444_445,NB445_444⟩ := ne_ hg BK444; obtain ⟨BK443, BK444, HB⟩ := bk2 BK443 BK444 HB hb; clear hb hbox hg))
 (try simp only [Act.put, List.setIfInBounds_toArray, List.set_cons_zero, List.set_cons_succ])
 go_cut [14] (fun v14 wc => ∃ (kq : Nat) (x14_3 : Bool), v14 = .bool x14_3 ∧ Aside0 (impl_rangeBits.j0 kq a0 x14_3 a1_0 a1_1 a2_0 a2_1 = some (r1, r2)) ∧ Aside0 (kq ≤ k) ∧ Bx2 wc gb443 a1_0 a1_1 24 ∧ Bx2 wc gb444 a2_0 a2_1 24 ∧ Bx2 wc gb445 0 0 24 ∧ Aside0 (Below w.heap.size w wc))
 case first =>
  have H := HC4.out
  clear HC4
  obtain ⟨t446, A8, H⟩ := bd H
  try dsimp only at H
  by_cases c9 : t446 = true
  rotate_left
  ·replace c9 := Bool.eq_false_iff.mpr c9
   subst c9
   rw [if_neg ff] at H
   have H' := am H
   clear H
   obtain ⟨hnb18,hnc18⟩ := nn NB443_444
   obtain ⟨hnb19,hnc19⟩ := nn NB443_445
   obtain ⟨hcz20_0,hcz20_1,hfz20_0,hfz20_1⟩ := cB2 BK443
   go_wp2_with (first | ((with_reducible refine gate_callee (f := 96) rfl ?_); refine gL 10 Try.func96 (impl_Range_single.calls _ _ _ _ A8.out) fun w21 hb => ?_; obtain ⟨BK443, BK444, BK445, HB⟩ := bk3 BK443 BK444 BK445 HB hb; (try clear hb)))
   go_meet
   case rel => exact ⟨_, (false), ey, H', le0, ⟨Z BK443⟩, ⟨Z BK444⟩, ⟨Z BK445⟩, ⟨YA HB⟩⟩
  subst c9
  rw [if_pos rfl] at H
  obtain ⟨t447, A10, H⟩ := bd H
  try dsimp only at H
  have H' := am H
  clear H
  obtain ⟨hnb11,hnc11⟩ := nn NB443_444
  obtain ⟨hnb12,hnc12⟩ := nn NB443_445
  obtain ⟨hcz13_0,hcz13_1,hfz13_0,hfz13_1⟩ := cB2 BK443
  go_wp2_with (first | ((with_reducible refine gate_callee (f := 96) rfl ?_); refine gL 10 Try.func96 (impl_Range_single.calls _ _ _ _ A8.out) fun w14 hb => ?_; obtain ⟨BK443, BK444, BK445, HB⟩ := bk3 BK443 BK444 BK445 HB hb; (try clear hb); obtain ⟨hnb15,hnc15⟩ := nn NB444_445; obtain ⟨hcz16_0,hcz16_1,hfz16_0,hfz16_1⟩ := cB2 BK444) | (go_at_call 96; (with_reducible refine (impl_Range_single.calls _ _ _ _ A10.out).mono ?_); rintro e w17 ⟨rfl, hb⟩; obtain ⟨BK443, BK444, BK445, HB⟩ := bk3 BK443 BK444 BK445 HB hb; (try clear hb)))
  go_meet
  case rel => exact ⟨_, (t447), ey, H', le0, ⟨Z BK443⟩, ⟨Z BK444⟩, ⟨Z BK445⟩, ⟨YA HB⟩⟩
 case rest =>
  clear HC4
  obtain ⟨kq, x14_3, rfl, HA, HJ3, BK443, BK444, BK445, HB⟩ := hcut
  cases kq with
  | zero => exact absurd HA.out (by simp [impl_rangeBits.j0])
  | succ kj3 =>
   have H := HA.out
   clear HA
   simp only [impl_rangeBits.j0] at H
   by_cases c22 : x14_3 = true
   ·subst c22
    rw [if_pos rfl] at H
    obtain ⟨t448, A23, H⟩ := bd H
    try dsimp only at H
    simp only [Option.some.injEq, Prod.mk.injEq] at H
    obtain ⟨rfl, rfl⟩ := H
    obtain ⟨hnb24,hnc24⟩ := nn NB443_444
    obtain ⟨hnb25,hnc25⟩ := nn NB443_445
    obtain ⟨hcz26_0,hcz26_1,hfz26_0,hfz26_1⟩ := cB2 BK443
    obtain ⟨hnb27,hnc27⟩ := nn NB444_445
    obtain ⟨hcz28_0,hcz28_1,hfz28_0,hfz28_1⟩ := cB2 BK444
    go_wp2_with (first | ((with_reducible refine gate_callee (f := 61) rfl ?_); refine goesL_ (some 20) rfl rfl Try.func61 (by kernel_rfl) rfl #[.int .i64 a0, .int .i64 a1_0, .int .i64 a2_0] rfl mz ?_; (with_reducible refine (impl_numExact.calls _ _ _ _ _ _ A23.out).mono ?_); rintro e w' ⟨rfl, ⟨nd, rfl⟩⟩; refine ⟨_, rfl, ?_⟩; (try (rw [drewN_self wc]; generalize hq_ : World.drewN wc _ = wc; replace BK443 : Bx2 wc gb443 a1_0 a1_1 24 := ⟨by rw [← hq_]; exact (Z BK443)⟩; replace BK444 : Bx2 wc gb444 a2_0 a2_1 24 := ⟨by rw [← hq_]; exact (Z BK444)⟩; replace BK445 : Bx2 wc gb445 0 0 24 := ⟨by rw [← hq_]; exact (Z BK445)⟩; replace HB : Aside0 (Below w.heap.size w wc) := ⟨by rw [← hq_]; exact (YA HB)⟩; clear hq_)); obtain ⟨hcz29_0,hcz29_1,hfz29_0,hfz29_1⟩ := cB2 BK445))
    refine bodyPost_ret (results_cell_row rfl _ _ gb445 24 #[.int .i64 t448, .int .i64 t448] (0, 0) _ rfl (by refine pf ?_; refine blk_put (cs := #[.int .i64 t448, .int .i64 0]) ?_ 1 _ rfl; refine pf ?_; refine blk_put (cs := #[.int .i64 0, .int .i64 0]) ?_ 0 _ rfl; exact Z BK445) Try.underlying24 rfl (by kernel_rfl)) rfl ?_
    exact ⟨ez, YA HB⟩
   replace c22 := Bool.eq_false_iff.mpr c22
   subst c22
   rw [if_neg ff] at H
   by_cases c30 : a0 = 6
   ·rw [if_pos c30] at H
    have c30b0 := eT c30
    have c30b1 := nF c30
    clear c30
    have HC31 := am H
    clear H
    go_upto_region 5 with (fail)
    go_cut [26] (fun v26 wc => ∃ (kq : Nat) (x26_30 : Bool), v26 = .bool x26_30 ∧ Aside0 (impl_rangeBits.j1 kq x26_30 a1_0 a1_1 a2_0 a2_1 = some (r1, r2)) ∧ Aside0 (kq ≤ kj3) ∧ Bx2 wc gb443 a1_0 a1_1 24 ∧ Bx2 wc gb444 a2_0 a2_1 24 ∧ Bx2 wc gb445 0 0 24 ∧ Aside0 (Below w.heap.size w wc))
    case first =>
     have H := HC31.out
     clear HC31
     by_cases c32 : a1_0 ≥ 0
     rotate_left
     ·rw [if_neg c32] at H
      have c32b0 := dF c32
      clear c32
      (first | rw [c32b0] | (simp only [i64_w, i32_w]; rw [c32b0]) | skip)
      have H' := am H
      clear H
      obtain ⟨hnb38,hnc38⟩ := nn NB443_444
      obtain ⟨hnb39,hnc39⟩ := nn NB443_445
      obtain ⟨hcz40_0,hcz40_1,hfz40_0,hfz40_1⟩ := cB2 BK443
      go_wp2
      go_meet
      case rel => exact ⟨_, (false), ey, H', le1 HJ3, ⟨Z BK443⟩, ⟨Z BK444⟩, ⟨Z BK445⟩, ⟨YA HB⟩⟩
     rw [if_pos c32] at H
     have c32b0 := dT c32
     clear c32
     (first | rw [c32b0] | (simp only [i64_w, i32_w]; rw [c32b0]) | skip)
     have H' := am H
     clear H
     obtain ⟨hnb33,hnc33⟩ := nn NB443_444
     obtain ⟨hnb34,hnc34⟩ := nn NB443_445
     obtain ⟨hcz35_0,hcz35_1,hfz35_0,hfz35_1⟩ := cB2 BK443
     obtain ⟨hnb36,hnc36⟩ := nn NB444_445
     obtain ⟨hcz37_0,hcz37_1,hfz37_0,hfz37_1⟩ := cB2 BK444
     go_wp2
     go_meet
     case rel => exact ⟨_, (decide (a2_0 ≥ 0)), ey, H', le1 HJ3, ⟨Z BK443⟩, ⟨Z BK444⟩, ⟨Z BK445⟩, ⟨YA HB⟩⟩
    case rest =>
     clear HC31
     (try clear c22);(try clear c30b0);(try clear c30b1)
     obtain ⟨kq, x26_30, rfl, HA, HJ30, BK443, BK444, BK445, HB⟩ := hcut
     cases kq with
     | zero => exact absurd HA.out (by simp [impl_rangeBits.j1])
     | succ kj30 =>
      have H := HA.out
      clear HA
      simp only [impl_rangeBits.j1] at H
      by_cases c41 : x26_30 = true
      ·subst c41
       rw [if_pos rfl] at H
       obtain ⟨ji42, hji42⟩ : ∃ j_ : Int, (mn a1_1 a2_1) = j_ := ⟨_, rfl⟩
       replace H : (some (0, ji42)) = some (r1, r2) := by first | (rw [hji42] at H; exact H) | (simp only [hji42] at H ⊢; exact H)
       have hji42_ : (if a2_1 < a1_1 then a2_1 else a1_1) = ji42 := hji42
       simp only [Option.some.injEq, Prod.mk.injEq] at H
       obtain ⟨rfl, rfl⟩ := H
       obtain ⟨hnb43,hnc43⟩ := nn NB443_444
       obtain ⟨hnb44,hnc44⟩ := nn NB443_445
       obtain ⟨hcz45_0,hcz45_1,hfz45_0,hfz45_1⟩ := cB2 BK443
       obtain ⟨hnb46,hnc46⟩ := nn NB444_445
       obtain ⟨hcz47_0,hcz47_1,hfz47_0,hfz47_1⟩ := cB2 BK444
       obtain ⟨hcz48_0,hcz48_1,hfz48_0,hfz48_1⟩ := cB2 BK445
       go_wp2
       refine bodyPost_ret (results_cell_row rfl _ _ gb445 24 #[.int .i64 0, .int .i64 ji42] (0, 0) _ rfl (by refine pf ?_; refine blk_put (cs := #[.int .i64 0, .int .i64 0]) ?_ 1 _ rfl; refine pf ?_; refine blk_put (cs := #[.int .i64 0, .int .i64 0]) ?_ 0 _ rfl; exact Z BK445) Try.underlying24 rfl (by kernel_rfl)) rfl ?_
       exact ⟨by first | rfl | (simp [errW_none, errW_some] <;> rfl) | (simp only [← hji42]; first | rfl | (simp [errW_none, errW_some] <;> rfl)) | (simp [*, errW_none, errW_some] <;> rfl), YA HB⟩
      replace c41 := Bool.eq_false_iff.mpr c41
      subst c41
      rw [if_neg ff] at H
      by_cases c49 : a1_0 ≥ 0
      ·rw [if_pos c49] at H
       have c49b0 := dT c49
       clear c49
       simp only [Option.some.injEq, Prod.mk.injEq] at H
       obtain ⟨rfl, rfl⟩ := H
       obtain ⟨hnb50,hnc50⟩ := nn NB443_444
       obtain ⟨hnb51,hnc51⟩ := nn NB443_445
       obtain ⟨hcz52_0,hcz52_1,hfz52_0,hfz52_1⟩ := cB2 BK443
       obtain ⟨hnb53,hnc53⟩ := nn NB445_444
       obtain ⟨hcz54_0,hcz54_1,hfz54_0,hfz54_1⟩ := cB2 BK445
       go_wp2
       refine bodyPost_ret (results_cell_row rfl _ _ gb445 24 #[.int .i64 0, .int .i64 a1_1] (0, 0) _ rfl (by refine pf ?_; refine blk_put (cs := #[.int .i64 0, .int .i64 0]) ?_ 1 _ rfl; refine pf ?_; refine blk_put (cs := #[.int .i64 0, .int .i64 0]) ?_ 0 _ rfl; exact Z BK445) Try.underlying24 rfl (by kernel_rfl)) rfl ?_
       exact ⟨ez, YA HB⟩
      rw [if_neg c49] at H
      have c49b0 := dF c49
      clear c49
      by_cases c55 : a2_0 ≥ 0
      ·rw [if_pos c55] at H
       have c55b0 := dT c55
       clear c55
       simp only [Option.some.injEq, Prod.mk.injEq] at H
       obtain ⟨rfl, rfl⟩ := H
       obtain ⟨hnb56,hnc56⟩ := nn NB443_444
       obtain ⟨hnb57,hnc57⟩ := nn NB443_445
       obtain ⟨hcz58_0,hcz58_1,hfz58_0,hfz58_1⟩ := cB2 BK443
       obtain ⟨hnb59,hnc59⟩ := nn NB444_445
       obtain ⟨hcz60_0,hcz60_1,hfz60_0,hfz60_1⟩ := cB2 BK444
       obtain ⟨hcz61_0,hcz61_1,hfz61_0,hfz61_1⟩ := cB2 BK445
       go_wp2
       refine bodyPost_ret (results_cell_row rfl _ _ gb445 24 #[.int .i64 0, .int .i64 a2_1] (0, 0) _ rfl (by refine pf ?_; refine blk_put (cs := #[.int .i64 0, .int .i64 0]) ?_ 1 _ rfl; refine pf ?_; refine blk_put (cs := #[.int .i64 0, .int .i64 0]) ?_ 0 _ rfl; exact Z BK445) Try.underlying24 rfl (by kernel_rfl)) rfl ?_
       exact ⟨ez, YA HB⟩
      rw [if_neg c55] at H
      have c55b0 := dF c55
      clear c55
      simp only [Option.some.injEq, Prod.mk.injEq] at H
      obtain ⟨rfl, rfl⟩ := H
      obtain ⟨hnb62,hnc62⟩ := nn NB443_444
      obtain ⟨hnb63,hnc63⟩ := nn NB443_445
      obtain ⟨hcz64_0,hcz64_1,hfz64_0,hfz64_1⟩ := cB2 BK443
      obtain ⟨hnb65,hnc65⟩ := nn NB444_445
      obtain ⟨hcz66_0,hcz66_1,hfz66_0,hfz66_1⟩ := cB2 BK444
      obtain ⟨hcz67_0,hcz67_1,hfz67_0,hfz67_1⟩ := cB2 BK445
      go_wp2
      refine bodyPost_ret (results_cell_row rfl _ _ gb445 24 #[.int .i64 (-2147483648), .int .i64 2147483647] (0, 0) _ rfl (by refine pf ?_; refine blk_put (cs := #[.int .i64 (-2147483648), .int .i64 0]) ?_ 1 _ rfl; refine pf ?_; refine blk_put (cs := #[.int .i64 0, .int .i64 0]) ?_ 0 _ rfl; exact Z BK445) Try.underlying24 rfl (by kernel_rfl)) rfl ?_
      exact ⟨ez, YA HB⟩
   rw [if_neg c30] at H
   have c30b0 := eF c30
   have c30b1 := nT c30
   have HC68 := am H
   clear H
   go_upto_region 12 with (fail)
   go_cut [63] (fun v63 wc => ∃ (kq : Nat) (x63_67 : Bool), v63 = .bool x63_67 ∧ Aside0 (impl_rangeBits.j2 kq a0 x63_67 a1_0 a1_1 a2_0 a2_1 = some (r1, r2)) ∧ Aside0 (kq ≤ kj3) ∧ Bx2 wc gb443 a1_0 a1_1 24 ∧ Bx2 wc gb444 a2_0 a2_1 24 ∧ Bx2 wc gb445 0 0 24 ∧ Aside0 (Below w.heap.size w wc))
   case first =>
    have H := HC68.out
    clear HC68
    by_cases c69 : a1_0 < 0
    ·rw [if_pos c69] at H
     have c69b0 := dT c69
     clear c69
     (first | rw [c69b0] | (simp only [i64_w, i32_w]; rw [c69b0]) | skip)
     have H' := am H
     clear H
     obtain ⟨hnb70,hnc70⟩ := nn NB443_444
     obtain ⟨hnb71,hnc71⟩ := nn NB443_445
     obtain ⟨hcz72_0,hcz72_1,hfz72_0,hfz72_1⟩ := cB2 BK443
     go_wp2
     go_meet
     case rel => exact ⟨_, (true), ey, H', le1 HJ3, ⟨Z BK443⟩, ⟨Z BK444⟩, ⟨Z BK445⟩, ⟨YA HB⟩⟩
    rw [if_neg c69] at H
    have c69b0 := dF c69
    clear c69
    (first | rw [c69b0] | (simp only [i64_w, i32_w]; rw [c69b0]) | skip)
    have H' := am H
    clear H
    obtain ⟨hnb73,hnc73⟩ := nn NB443_444
    obtain ⟨hnb74,hnc74⟩ := nn NB443_445
    obtain ⟨hcz75_0,hcz75_1,hfz75_0,hfz75_1⟩ := cB2 BK443
    obtain ⟨hnb76,hnc76⟩ := nn NB444_445
    obtain ⟨hcz77_0,hcz77_1,hfz77_0,hfz77_1⟩ := cB2 BK444
    go_wp2
    go_meet
    case rel => exact ⟨_, (decide (a2_0 < 0)), ey, H', le1 HJ3, ⟨Z BK443⟩, ⟨Z BK444⟩, ⟨Z BK445⟩, ⟨YA HB⟩⟩
   case rest =>
    clear HC68
    (try clear c22);(try clear c30);(try clear c30b0);(try clear c30b1)
    obtain ⟨kq, x63_67, rfl, HA, HJ67, BK443, BK444, BK445, HB⟩ := hcut
    cases kq with
    | zero => exact absurd HA.out (by simp [impl_rangeBits.j2])
    | succ kj67 =>
     have H := HA.out
     clear HA
     simp only [impl_rangeBits.j2] at H
     by_cases c78 : x63_67 = true
     ·subst c78
      rw [if_pos rfl] at H
      simp only [Option.some.injEq, Prod.mk.injEq] at H
      obtain ⟨rfl, rfl⟩ := H
      obtain ⟨hnb79,hnc79⟩ := nn NB445_443
      obtain ⟨hnb80,hnc80⟩ := nn NB445_444
      obtain ⟨hcz81_0,hcz81_1,hfz81_0,hfz81_1⟩ := cB2 BK445
      go_wp2
      refine bodyPost_ret (results_cell_row rfl _ _ gb445 24 #[.int .i64 (-2147483648), .int .i64 2147483647] (0, 0) _ rfl (by refine pf ?_; refine blk_put (cs := #[.int .i64 (-2147483648), .int .i64 0]) ?_ 1 _ rfl; refine pf ?_; refine blk_put (cs := #[.int .i64 0, .int .i64 0]) ?_ 0 _ rfl; exact Z BK445) Try.underlying24 rfl (by kernel_rfl)) rfl ?_
      exact ⟨ez, YA HB⟩
     replace c78 := Bool.eq_false_iff.mpr c78
     subst c78
     rw [if_neg ff] at H
     have HC82 := am H
     clear H
     go_upto_if 67 with (first | ((with_reducible refine gate_dst (N := 8) rfl ?_); refine bx 8 #[.int .i64 0, .int .i64 0] 24 ?_; intro gb449 hg w83 hbox hb; have BK449 := am (hbox); have GW449 := am (bs hg (YA HB)); have GE449 := GW449; obtain ⟨NB443_449,NB449_443⟩ := ne_ hg BK443; obtain ⟨NB444_449,NB449_444⟩ := ne_ hg BK444; obtain ⟨NB445_449,NB449_445⟩ := ne_ hg BK445; obtain ⟨BK443, BK444, BK445, HB⟩ := bk3 BK443 BK444 BK445 HB hb; clear hb hbox hg; obtain ⟨hnb84,hnc84⟩ := nn NB449_443; obtain ⟨hnb85,hnc85⟩ := nn NB449_444; obtain ⟨hnb86,hnc86⟩ := nn NB449_445; obtain ⟨hcz87_0,hcz87_1,hfz87_0,hfz87_1⟩ := cB2 BK449))
     (try simp only [Act.put, List.setIfInBounds_toArray, List.set_cons_zero, List.set_cons_succ])
     go_cut [] (fun wc => ∃ (kq : Nat) (x450000_81 : Int), Aside0 (impl_rangeBits.j3 kq a1_0 a1_1 a2_0 a2_1 x450000_81 0 = some (r1, r2)) ∧ Aside0 (kq ≤ kj67) ∧ Bx2 wc gb443 a1_0 a1_1 24 ∧ Bx2 wc gb444 a2_0 a2_1 24 ∧ Bx2 wc gb445 0 0 24 ∧ Bx2 wc gb449 x450000_81 0 24 ∧ Aside0 (Below w.heap.size w wc))
     case first =>
      have H := HC82.out
      clear HC82
      by_cases c88 : a0 = 7
      rotate_left
      ·rw [if_neg c88] at H
       have c88b0 := eF c88
       have c88b1 := nT c88
       (first | rw [c88b0] | (simp only [i64_w, i32_w]; rw [c88b0]) | skip)
       have H' := am H
       clear H
       go_wp2
       go_meet
       case rel => exact ⟨_, (0), H', ⟨by have := HJ3.out; have := HJ67.out; first | omega | exact Nat.le_refl _⟩, ⟨by refine fa NB443_449 ?_; refine fa NB443_449 ?_; exact Z BK443⟩, ⟨by refine fa NB444_449 ?_; refine fa NB444_449 ?_; exact Z BK444⟩, ⟨by refine fa NB445_449 ?_; refine fa NB445_449 ?_; exact Z BK445⟩, ⟨by refine pf ?_; refine blk_put (cs := #[.int .i64 0, .int .i64 0]) ?_ 1 _ rfl; refine pf ?_; refine blk_put (cs := #[.int .i64 0, .int .i64 0]) ?_ 0 _ rfl; exact Z BK449⟩, ⟨YA HB⟩⟩
      rw [if_pos c88] at H
      have c88b0 := eT c88
      have c88b1 := nF c88
      clear c88
      (first | rw [c88b0] | (simp only [i64_w, i32_w]; rw [c88b0]) | skip)
      obtain ⟨ji89, hji89⟩ : ∃ j_ : Int, (mx a1_0 a2_0) = j_ := ⟨_, rfl⟩
      replace H : (impl_rangeBits.j3 kj67 a1_0 a1_1 a2_0 a2_1 ji89 0) = some (r1, r2) := by first | (rw [hji89] at H; exact H) | (simp only [hji89] at H ⊢; exact H)
      have hji89_ : (if a1_0 < a2_0 then a2_0 else a1_0) = ji89 := hji89
      have H' := am H
      clear H
      obtain ⟨hnb90,hnc90⟩ := nn NB443_444
      obtain ⟨hnb91,hnc91⟩ := nn NB443_445
      obtain ⟨hnb92,hnc92⟩ := nn NB443_449
      obtain ⟨hcz93_0,hcz93_1,hfz93_0,hfz93_1⟩ := cB2 BK443
      obtain ⟨hnb94,hnc94⟩ := nn NB444_445
      obtain ⟨hnb95,hnc95⟩ := nn NB444_449
      obtain ⟨hcz96_0,hcz96_1,hfz96_0,hfz96_1⟩ := cB2 BK444
      obtain ⟨hnb97,hnc97⟩ := nn NB449_445
      obtain ⟨hcz98_0,hcz98_1,hfz98_0,hfz98_1⟩ := cB2 BK449
      go_wp2
      go_meet
      case rel => exact ⟨_, (ji89), H', ⟨by have := HJ3.out; have := HJ67.out; first | omega | exact Nat.le_refl _⟩, ⟨by refine fa NB443_449 ?_; refine fa NB443_449 ?_; refine fa NB443_449 ?_; exact Z BK443⟩, ⟨by refine fa NB444_449 ?_; refine fa NB444_449 ?_; refine fa NB444_449 ?_; exact Z BK444⟩, ⟨by refine fa NB445_449 ?_; refine fa NB445_449 ?_; refine fa NB445_449 ?_; exact Z BK445⟩, ⟨by refine pf ?_; refine blk_put (cs := #[.int .i64 0, .int .i64 0]) ?_ 0 _ rfl; refine pf ?_; refine blk_put (cs := #[.int .i64 0, .int .i64 0]) ?_ 1 _ rfl; refine pf ?_; refine blk_put (cs := #[.int .i64 0, .int .i64 0]) ?_ 0 _ rfl; exact Z BK449⟩, ⟨YA HB⟩⟩
     case rest =>
      clear HC82
      (try clear c78);(try clear hcz87_0);(try clear hcz87_1);(try clear hfz87_0);(try clear hfz87_1)
      obtain ⟨kq, x450000_81, HA, HJ81, BK443, BK444, BK445, BK449, HB⟩ := hcut
      cases kq with
      | zero => exact absurd HA.out (by simp [impl_rangeBits.j3])
      | succ kj81 =>
       have H := HA.out
       clear HA
       simp only [impl_rangeBits.j3] at H
       have H' := am H
       clear H
       go_wp2
       go_loopg [] kj81 (fun kq w' => ∃ (x450001_4 : Int), Aside0 (impl_rangeBits.l0 kq a1_0 a1_1 a2_0 a2_1 x450000_81 x450001_4 = some (r1, r2)) ∧ Aside0 (kq ≤ kj81) ∧ Aside0 (w'.heap[gb443]? = some (.cells #[.int .i64 a1_0, .int .i64 a1_1] 24 (0, 0))) ∧ Aside0 (w'.heap[gb444]? = some (.cells #[.int .i64 a2_0, .int .i64 a2_1] 24 (0, 0))) ∧ Aside0 (w'.heap[gb445]? = some (.cells #[.int .i64 0, .int .i64 0] 24 (0, 0))) ∧ Aside0 (w'.heap[gb449]? = some (.cells #[.int .i64 x450000_81, .int .i64 x450001_4] 24 (0, 0))) ∧ Aside0 (Below w.heap.size w w'))
       case atStart => exact ⟨(0), H', ⟨Nat.le_refl _⟩, ⟨Z BK443⟩, ⟨Z BK444⟩, ⟨Z BK445⟩, ⟨Z BK449⟩, ⟨YA HB⟩⟩
       case round =>
        clear H'
        obtain ⟨x450001_4, HA, HK4, BK443, BK444, BK445, BK449, HB⟩ := hrel
        cases gk with
        | zero => exact absurd HA.out (by simp [impl_rangeBits.l0])
        | succ k4 =>
         have H := HA.out
         clear HA
         simp only [impl_rangeBits.l0] at H
         obtain ⟨ji99, hji99⟩ : ∃ j_ : Int, (mx a1_1 a2_1) = j_ := ⟨_, rfl⟩
         replace H : (if x450001_4 < (ji99) then (impl_rangeBits.l0 k4 a1_0 a1_1 a2_0 a2_1 x450000_81 (wrap64 ((wrap64 (2 * x450001_4)) + 1))) else (some (x450000_81, x450001_4))) = some (r1, r2) := by first | (rw [hji99] at H; exact H) | (simp only [hji99] at H ⊢; exact H)
         have hji99_ : (if a1_1 < a2_1 then a2_1 else a1_1) = ji99 := hji99
         by_cases c100 : x450001_4 < (ji99)
         ·rw [if_pos c100] at H
          have c100b0 := dT c100
          clear c100
          have H' := am H
          clear H
          obtain ⟨hnb101,hnc101⟩ := nn NB449_443
          obtain ⟨hnb102,hnc102⟩ := nn NB449_444
          obtain ⟨hnb103,hnc103⟩ := nn NB449_445
          obtain ⟨hcz104_0,hcz104_1,hfz104_0,hfz104_1⟩ := cB2 BK449
          obtain ⟨hnb105,hnc105⟩ := nn NB443_444
          obtain ⟨hnb106,hnc106⟩ := nn NB443_445
          obtain ⟨hcz107_0,hcz107_1,hfz107_0,hfz107_1⟩ := cB2 BK443
          obtain ⟨hnb108,hnc108⟩ := nn NB444_445
          obtain ⟨hcz109_0,hcz109_1,hfz109_0,hfz109_1⟩ := cB2 BK444
          go_wp2
          go_roundg k4
          case measure => have := HJ3.out; have := HJ67.out; have := HJ81.out; have := HK4.out; omega
          case rel => exact ⟨(wrap64 ((wrap64 (2 * x450001_4)) + 1)), H', ⟨by have := HJ3.out; have := HJ67.out; have := HJ81.out; have := HK4.out; omega⟩, ⟨by refine fa NB443_449 ?_; exact Z BK443⟩, ⟨by refine fa NB444_449 ?_; exact Z BK444⟩, ⟨by refine fa NB445_449 ?_; exact Z BK445⟩, ⟨by refine pf ?_; refine blk_put (cs := #[.int .i64 x450000_81, .int .i64 x450001_4]) ?_ 1 _ rfl; exact Z BK449⟩, ⟨YA HB⟩⟩
         rw [if_neg c100] at H
         have c100b0 := dF c100
         clear c100
         simp only [Option.some.injEq, Prod.mk.injEq] at H
         obtain ⟨rfl, rfl⟩ := H
         obtain ⟨hnb110,hnc110⟩ := nn NB449_443
         obtain ⟨hnb111,hnc111⟩ := nn NB449_444
         obtain ⟨hnb112,hnc112⟩ := nn NB449_445
         obtain ⟨hcz113_0,hcz113_1,hfz113_0,hfz113_1⟩ := cB2 BK449
         obtain ⟨hnb114,hnc114⟩ := nn NB443_444
         obtain ⟨hnb115,hnc115⟩ := nn NB443_445
         obtain ⟨hcz116_0,hcz116_1,hfz116_0,hfz116_1⟩ := cB2 BK443
         obtain ⟨hnb117,hnc117⟩ := nn NB444_445
         obtain ⟨hcz118_0,hcz118_1,hfz118_0,hfz118_1⟩ := cB2 BK444
         obtain ⟨hcz119_0,hcz119_1,hfz119_0,hfz119_1⟩ := cB2 BK445
         go_wp2
         refine bodyPost_ret (results_cell_row rfl _ _ gb445 24 #[.int .i64 x450000_81, .int .i64 x450001_4] (0, 0) _ rfl (by refine pf ?_; refine blk_put (cs := #[.int .i64 x450000_81, .int .i64 0]) ?_ 1 _ rfl; refine pf ?_; refine blk_put (cs := #[.int .i64 0, .int .i64 0]) ?_ 0 _ rfl; exact Z BK445) Try.underlying24 rfl (by kernel_rfl)) rfl ?_
         exact ⟨by first | rfl | (simp [errW_none, errW_some] <;> rfl) | (simp only [← hji99]; first | rfl | (simp [errW_none, errW_some] <;> rfl)) | (simp [*, errW_none, errW_some] <;> rfl), YA HB⟩

end Go.Proofs.Ythbkakcchgnhpaa.PFnRangeFaults
