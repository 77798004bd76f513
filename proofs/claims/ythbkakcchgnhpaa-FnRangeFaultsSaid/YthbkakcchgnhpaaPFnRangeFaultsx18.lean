/- Written by this session's own driver (wip/dprint.py): the functions that the law FnRangeFaults reaches, as Lean functions, each with its contract. -/
import Derived.Test.YthbkakcchgnhpaaPFnRangeFaultsx0
import Derived.Test.YthbkakcchgnhpaaPFnRangeFaultsx12
import Derived.Test.YthbkakcchgnhpaaSv
namespace Go.Proofs.Ythbkakcchgnhpaa.PFnRangeFaults
open Go.RowKit Go.Proofs.YthbkakcchgnhpaaV.PrintWords Go.Proofs.YthbkakcchgnhpaaV.PrintLast Go.Proofs.YthbkakcchgnhpaaV.PrintMore Go.Proofs.YthbkakcchgnhpaaSv
attribute [local go_sem] max2_int min2_int max_two min_two max_three min_three max_four min_four   -- for this text's walks alone
set_option linter.unusedVariables false
set_option linter.unusedSimpArgs false

/-! ### impl_RangeJoin: function 84 -/
attribute [local go_sem] Go.Proofs.YthbkakcchgnhpaaSet.isSome_setCell
def impl_RangeJoin.j0 : Nat → Bool → Int → Int → Int → Int → Option (Int × Int)
 | 0, _, _, _, _, _ => none
 | k + 1, x5, x398000, x398001, x399000, x399001 => if x5 = true then ((impl_rangeNone.f).bind fun bt402 => (some (bt402.1, bt402.2))) else ((impl_Range_empty.f x398000 x398001).bind fun t404 => (if t404 = true then (some (x399000, x399001)) else ((impl_Range_empty.f x399000 x399001).bind fun t405 => (if t405 = true then (some (x398000, x398001)) else (some (mn x398000 x399000, mx x398001 x399001))))))
def impl_RangeJoin.f (k : Nat) (a0_0 : Int) (a0_1 : Int) (a1_0 : Int) (a1_1 : Int) : Option (Int × Int) := (impl_RangeOk.f a0_0 a0_1).bind fun t400 => (if t400 = true then ((impl_RangeOk.f a1_0 a1_1).bind fun t401 => (impl_RangeJoin.j0 k (!t401) a0_0 a0_1 a1_0 a1_1)) else (impl_RangeJoin.j0 k true a0_0 a0_1 a1_0 a1_1))
theorem impl_RangeJoin.mono_l : ∀ k, (∀ y0 y1 y2 y3 y4, LeO (impl_RangeJoin.j0 k y0 y1 y2 y3 y4) (impl_RangeJoin.j0 (k + 1) y0 y1 y2 y3 y4))
 | 0 => fun _ _ _ _ _ r h => by simp [impl_RangeJoin.j0] at h
 | k + 1 => by
  have ih0 := impl_RangeJoin.mono_l k
  ·intro y0 y1 y2 y3 y4
   unfold impl_RangeJoin.j0
   repeat' first | (with_reducible first | apply ih0 | apply LeO.refl | apply LeO.none | refine LeO.ite ?_ ?_ | refine LeO.bind ?_ (fun _ => ?_)) | apply ih0 | apply LeO.none | refine LeO.ite ?_ ?_ | refine LeO.bind ?_ (fun _ => ?_)
theorem impl_RangeJoin.mono : ∀ a0 a1 a2 a3 k, LeO (impl_RangeJoin.f k a0 a1 a2 a3) (impl_RangeJoin.f (k + 1) a0 a1 a2 a3) := by
 intro a0 a1 a2 a3 k
 have ih0 := impl_RangeJoin.mono_l k
 unfold impl_RangeJoin.f
 repeat' first | (with_reducible first | apply ih0 | apply LeO.refl | apply LeO.none | refine LeO.ite ?_ ?_ | refine LeO.bind ?_ (fun _ => ?_)) | apply ih0 | apply LeO.none | refine LeO.ite ?_ ?_ | refine LeO.bind ?_ (fun _ => ?_)
set_option maxHeartbeats 8000000 in
set_option maxRecDepth 100000 in
theorem impl_RangeJoin.calls (k : Nat) (a0_0 : Int) (a0_1 : Int) (a1_0 : Int) (a1_1 : Int) (r1 : Int) (r2 : Int) (w : World) (h : impl_RangeJoin.f k a0_0 a0_1 a1_0 a1_1 = some (r1, r2)) :
  Calls Try.prog 84 #[.agg #[.int .i64 a0_0, .int .i64 a0_1], .agg #[.int .i64 a1_0, .int .i64 a1_1]] w fun e w' => e = .returned (.agg #[.int .i64 r1, .int .i64 r2]) ∧ Below w.heap.size w w' := by
 have hu24 := Try.underlying24
 have HB := am (Below.refl w.heap.size w)
 have H : ((impl_RangeOk.f a0_0 a0_1).bind fun t400 => (if t400 = true then ((impl_RangeOk.f a1_0 a1_1).bind fun t401 => (impl_RangeJoin.j0 k (!t401) a0_0 a0_1 a1_0 a1_1)) else (impl_RangeJoin.j0 k true a0_0 a0_1 a1_0 a1_1))) = some (r1, r2) := h
 clear h
 have HC3 := am H
 clear H
 go_enter Try.func84, Try.ntmps84
 go_upto_region 1 with (first | ((with_reducible refine gate_dst (N := 2) rfl ?_); refine bx 2 #[.int .i64 a0_0, .int .i64 a0_1] 24 ?_; intro gb397 hg w4 hbox hb; have BK397 := am (hbox); have GW397 := am (bs hg (YA HB)); have GE397 := GW397; replace HB := am (below_step (YA HB) hb); clear hb hbox hg) | ((with_reducible refine gate_dst (N := 3) rfl ?_); refine bx 3 #[.int .i64 a1_0, .int .i64 a1_1] 24 ?_; intro gb398 hg w5 hbox hb; have BK398 := am (hbox); have GW398 := am (bs hg (YA HB)); have GE398 := GW398; obtain ⟨NB397_398,NB398_397⟩ := ne_ hg BK397; obtain ⟨BK397, HB⟩ := bk1 BK397 HB hb; clear hb hbox hg) | ((with_reducible refine gate_dst (N := 4) rfl ?_); refine bx 4 #[.int .i64 0, .int .i64 0] 24 ?_; intro gb399 hg w6 hbox hb; have BK399 := am (hbox); have GW399 := am (bs hg (YA HB)); have GE399 := GW399; obtain ⟨NB397_399,NB399_397⟩ := ne_ hg BK397; obtain ⟨NB398_399,NB399_398⟩ := ne_ hg BK398; obtain ⟨BK397, BK398, HB⟩ := bk2 BK397 BK398 HB hb; clear hb hbox hg))
 (try simp only [Act.put, List.setIfInBounds_toArray, List.set_cons_zero, List.set_cons_succ])
 go_cut [5] (fun v5 wc => ∃ (kq : Nat) (x5_2 : Bool), v5 = .bool x5_2 ∧ Aside0 (impl_RangeJoin.j0 kq x5_2 a0_0 a0_1 a1_0 a1_1 = some (r1, r2)) ∧ Aside0 (kq ≤ k) ∧ Bx2 wc gb397 a0_0 a0_1 24 ∧ Bx2 wc gb398 a1_0 a1_1 24 ∧ Bx2 wc gb399 0 0 24 ∧ Aside0 (Below w.heap.size w wc))
 case first =>
  have H := HC3.out
  clear HC3
  obtain ⟨t400, A7, H⟩ := bd H
  try dsimp only at H
  by_cases c8 : t400 = true
  rotate_left
  ·replace c8 := Bool.eq_false_iff.mpr c8
   subst c8
   rw [if_neg ff] at H
   have H' := am H
   clear H
   obtain ⟨hnb17,hnc17⟩ := nn NB397_398
   obtain ⟨hnb18,hnc18⟩ := nn NB397_399
   obtain ⟨hcz19_0,hcz19_1,hfz19_0,hfz19_1⟩ := cB2 BK397
   go_wp2_with (first | ((with_reducible refine gate_callee (f := 46) rfl ?_); refine gL 7 Try.func46 (impl_RangeOk.calls _ _ _ _ A7.out) fun w20 hb => ?_; obtain ⟨BK397, BK398, BK399, HB⟩ := bk3 BK397 BK398 BK399 HB hb; (try clear hb)))
   go_meet
   case rel => exact ⟨_, (true), ey, H', le0, ⟨Z BK397⟩, ⟨Z BK398⟩, ⟨Z BK399⟩, ⟨YA HB⟩⟩
  subst c8
  rw [if_pos rfl] at H
  obtain ⟨t401, A9, H⟩ := bd H
  try dsimp only at H
  have H' := am H
  clear H
  obtain ⟨hnb10,hnc10⟩ := nn NB397_398
  obtain ⟨hnb11,hnc11⟩ := nn NB397_399
  obtain ⟨hcz12_0,hcz12_1,hfz12_0,hfz12_1⟩ := cB2 BK397
  go_wp2_with (first | ((with_reducible refine gate_callee (f := 46) rfl ?_); refine gL 7 Try.func46 (impl_RangeOk.calls _ _ _ _ A7.out) fun w13 hb => ?_; obtain ⟨BK397, BK398, BK399, HB⟩ := bk3 BK397 BK398 BK399 HB hb; (try clear hb); obtain ⟨hnb14,hnc14⟩ := nn NB398_399; obtain ⟨hcz15_0,hcz15_1,hfz15_0,hfz15_1⟩ := cB2 BK398) | (go_at_call 46; (with_reducible refine (impl_RangeOk.calls _ _ _ _ A9.out).mono ?_); rintro e w16 ⟨rfl, hb⟩; obtain ⟨BK397, BK398, BK399, HB⟩ := bk3 BK397 BK398 BK399 HB hb; (try clear hb)))
  go_meet
  case rel => exact ⟨_, (!t401), ey, H', le0, ⟨Z BK397⟩, ⟨Z BK398⟩, ⟨Z BK399⟩, ⟨YA HB⟩⟩
 case rest =>
  clear HC3
  obtain ⟨kq, x5_2, rfl, HA, HJ2, BK397, BK398, BK399, HB⟩ := hcut
  cases kq with
  | zero => exact absurd HA.out (by simp [impl_RangeJoin.j0])
  | succ kj2 =>
   have H := HA.out
   clear HA
   simp only [impl_RangeJoin.j0] at H
   by_cases c21 : x5_2 = true
   ·subst c21
    rw [if_pos rfl] at H
    obtain ⟨⟨t402, t403⟩, A22, H⟩ := bd H
    try dsimp only at H
    simp only [Option.some.injEq, Prod.mk.injEq] at H
    obtain ⟨rfl, rfl⟩ := H
    go_wp2_with (first | ((with_reducible refine gate_callee (f := 48) rfl ?_); refine gL 14 Try.func48 (impl_rangeNone.calls _ _ _ A22.out) fun w23 hb => ?_; obtain ⟨BK397, BK398, BK399, HB⟩ := bk3 BK397 BK398 BK399 HB hb; (try clear hb); obtain ⟨hnb24,hnc24⟩ := nn NB399_397; obtain ⟨hnb25,hnc25⟩ := nn NB399_398; obtain ⟨hcz26_0,hcz26_1,hfz26_0,hfz26_1⟩ := cB2 BK399))
    refine bodyPost_ret (results_cell_row rfl _ _ gb399 24 #[.int .i64 t402, .int .i64 t403] (0, 0) _ rfl (by refine pf ?_; refine blk_put (cs := #[.int .i64 t402, .int .i64 0]) ?_ 1 _ rfl; refine pf ?_; refine blk_put (cs := #[.int .i64 0, .int .i64 0]) ?_ 0 _ rfl; exact Z BK399) Try.underlying24 rfl (by kernel_rfl)) rfl ?_
    exact ⟨ez, YA HB⟩
   replace c21 := Bool.eq_false_iff.mpr c21
   subst c21
   rw [if_neg ff] at H
   obtain ⟨t404, A27, H⟩ := bd H
   try dsimp only at H
   by_cases c28 : t404 = true
   ·subst c28
    rw [if_pos rfl] at H
    simp only [Option.some.injEq, Prod.mk.injEq] at H
    obtain ⟨rfl, rfl⟩ := H
    obtain ⟨hnb29,hnc29⟩ := nn NB397_398
    obtain ⟨hnb30,hnc30⟩ := nn NB397_399
    obtain ⟨hcz31_0,hcz31_1,hfz31_0,hfz31_1⟩ := cB2 BK397
    go_wp2_with (first | ((with_reducible refine gate_callee (f := 47) rfl ?_); refine gL 17 Try.func47 (impl_Range_empty.calls _ _ _ _ A27.out) fun w32 hb => ?_; obtain ⟨BK397, BK398, BK399, HB⟩ := bk3 BK397 BK398 BK399 HB hb; (try clear hb); obtain ⟨hnb33,hnc33⟩ := nn NB398_399; obtain ⟨hcz34_0,hcz34_1,hfz34_0,hfz34_1⟩ := cB2 BK398; obtain ⟨hcz35_0,hcz35_1,hfz35_0,hfz35_1⟩ := cB2 BK399))
    refine bodyPost_ret (results_cell_row rfl _ _ gb399 24 #[.int .i64 a1_0, .int .i64 a1_1] (0, 0) _ rfl (by refine pf ?_; refine blk_put (cs := #[.int .i64 a1_0, .int .i64 0]) ?_ 1 _ rfl; refine pf ?_; refine blk_put (cs := #[.int .i64 0, .int .i64 0]) ?_ 0 _ rfl; exact Z BK399) Try.underlying24 rfl (by kernel_rfl)) rfl ?_
    exact ⟨ez, YA HB⟩
   replace c28 := Bool.eq_false_iff.mpr c28
   subst c28
   rw [if_neg ff] at H
   obtain ⟨t405, A36, H⟩ := bd H
   try dsimp only at H
   by_cases c37 : t405 = true
   ·subst c37
    rw [if_pos rfl] at H
    simp only [Option.some.injEq, Prod.mk.injEq] at H
    obtain ⟨rfl, rfl⟩ := H
    obtain ⟨hnb38,hnc38⟩ := nn NB397_398
    obtain ⟨hnb39,hnc39⟩ := nn NB397_399
    obtain ⟨hcz40_0,hcz40_1,hfz40_0,hfz40_1⟩ := cB2 BK397
    go_wp2_with (first | ((with_reducible refine gate_callee (f := 47) rfl ?_); refine gL 17 Try.func47 (impl_Range_empty.calls _ _ _ _ A27.out) fun w41 hb => ?_; obtain ⟨BK397, BK398, BK399, HB⟩ := bk3 BK397 BK398 BK399 HB hb; (try clear hb); obtain ⟨hnb42,hnc42⟩ := nn NB398_399; obtain ⟨hcz43_0,hcz43_1,hfz43_0,hfz43_1⟩ := cB2 BK398) | ((with_reducible refine gate_callee (f := 47) rfl ?_); refine gL 21 Try.func47 (impl_Range_empty.calls _ _ _ _ A36.out) fun w44 hb => ?_; obtain ⟨BK397, BK398, BK399, HB⟩ := bk3 BK397 BK398 BK399 HB hb; (try clear hb); obtain ⟨hcz45_0,hcz45_1,hfz45_0,hfz45_1⟩ := cB2 BK397; obtain ⟨hcz46_0,hcz46_1,hfz46_0,hfz46_1⟩ := cB2 BK399))
    refine bodyPost_ret (results_cell_row rfl _ _ gb399 24 #[.int .i64 a0_0, .int .i64 a0_1] (0, 0) _ rfl (by refine pf ?_; refine blk_put (cs := #[.int .i64 a0_0, .int .i64 0]) ?_ 1 _ rfl; refine pf ?_; refine blk_put (cs := #[.int .i64 0, .int .i64 0]) ?_ 0 _ rfl; exact Z BK399) Try.underlying24 rfl (by kernel_rfl)) rfl ?_
    exact ⟨ez, YA HB⟩
   replace c37 := Bool.eq_false_iff.mpr c37
   subst c37
   rw [if_neg ff] at H
   obtain ⟨ji47, hji47⟩ : ∃ j_ : Int, (mn a0_0 a1_0) = j_ := ⟨_, rfl⟩
   replace H : (some (ji47, mx a0_1 a1_1)) = some (r1, r2) := by first | (rw [hji47] at H; exact H) | (simp only [hji47] at H ⊢; exact H)
   (try rw [hji47] at A27)
   (try rw [hji47] at A36)
   have hji47_ : (if a1_0 < a0_0 then a1_0 else a0_0) = ji47 := hji47
   obtain ⟨ji48, hji48⟩ : ∃ j_ : Int, (mx a0_1 a1_1) = j_ := ⟨_, rfl⟩
   replace H : (some (ji47, ji48)) = some (r1, r2) := by first | (rw [hji48] at H; exact H) | (simp only [hji48] at H ⊢; exact H)
   (try rw [hji48] at A27)
   (try rw [hji48] at A36)
   have hji48_ : (if a0_1 < a1_1 then a1_1 else a0_1) = ji48 := hji48
   simp only [Option.some.injEq, Prod.mk.injEq] at H
   obtain ⟨rfl, rfl⟩ := H
   obtain ⟨hnb49,hnc49⟩ := nn NB397_398
   obtain ⟨hnb50,hnc50⟩ := nn NB397_399
   obtain ⟨hcz51_0,hcz51_1,hfz51_0,hfz51_1⟩ := cB2 BK397
   go_wp2_with (first | ((with_reducible refine gate_callee (f := 47) rfl ?_); refine gL 17 Try.func47 (impl_Range_empty.calls _ _ _ _ A27.out) fun w52 hb => ?_; obtain ⟨BK397, BK398, BK399, HB⟩ := bk3 BK397 BK398 BK399 HB hb; (try clear hb); obtain ⟨hnb53,hnc53⟩ := nn NB398_399; obtain ⟨hcz54_0,hcz54_1,hfz54_0,hfz54_1⟩ := cB2 BK398) | ((with_reducible refine gate_callee (f := 47) rfl ?_); refine gL 21 Try.func47 (impl_Range_empty.calls _ _ _ _ A36.out) fun w55 hb => ?_; obtain ⟨BK397, BK398, BK399, HB⟩ := bk3 BK397 BK398 BK399 HB hb; (try clear hb); obtain ⟨hcz56_0,hcz56_1,hfz56_0,hfz56_1⟩ := cB2 BK397; obtain ⟨hcz57_0,hcz57_1,hfz57_0,hfz57_1⟩ := cB2 BK398; obtain ⟨hcz58_0,hcz58_1,hfz58_0,hfz58_1⟩ := cB2 BK399))
   refine bodyPost_ret (results_cell_row rfl _ _ gb399 24 #[.int .i64 ji47, .int .i64 ji48] (0, 0) _ rfl (by refine pf ?_; refine blk_put (cs := #[.int .i64 ji47, .int .i64 0]) ?_ 1 _ rfl; refine pf ?_; refine blk_put (cs := #[.int .i64 0, .int .i64 0]) ?_ 0 _ rfl; exact Z BK399) Try.underlying24 rfl (by kernel_rfl)) rfl ?_
   exact ⟨by first | rfl | (simp [errW_none, errW_some] <;> rfl) | (simp only [← hji47, ← hji48]; first | rfl | (simp [errW_none, errW_some] <;> rfl)) | (simp [*, errW_none, errW_some] <;> rfl), YA HB⟩

/-! ### impl_Range_single: function 96 -/
attribute [local go_sem] Go.Proofs.YthbkakcchgnhpaaSet.isSome_setCell
def impl_Range_single.f (a0_0 : Int) (a0_1 : Int) : Option (Bool) := some (a0_0 == a0_1)
set_option maxHeartbeats 8000000 in
set_option maxRecDepth 100000 in
theorem impl_Range_single.calls (a0_0 : Int) (a0_1 : Int) (r : Bool) (w : World) (h : impl_Range_single.f a0_0 a0_1 = some r) :
  Calls Try.prog 96 #[.agg #[.int .i64 a0_0, .int .i64 a0_1]] w fun e w' => e = .returned (.bool r) ∧ Below w.heap.size w w' := by
 have hu24 := Try.underlying24
 have HB := am (Below.refl w.heap.size w)
 have H : (some (a0_0 == a0_1)) = some r := h
 clear h
 obtain rfl := Option.some.inj H
 go_enter Try.func96, Try.ntmps96
 go_wp2_with (first | ((with_reducible refine gate_dst (N := 1) rfl ?_); refine bx 1 #[.int .i64 a0_0, .int .i64 a0_1] 24 ?_; intro gb406 hg w2 hbox hb; have BK406 := am (hbox); have GW406 := am (bs hg (YA HB)); have GE406 := GW406; replace HB := am (below_step (YA HB) hb); clear hb hbox hg; obtain ⟨hcz3_0,hcz3_1,hfz3_0,hfz3_1⟩ := cB2 BK406))
 go_ret
 exact ⟨ez, YA HB⟩

/-! ### impl_rangeRemBy: function 97 -/
attribute [local go_sem] Go.Proofs.YthbkakcchgnhpaaSet.isSome_setCell
def impl_rangeRemBy.j0 : Nat → Int → Bool → Int → Int → Option (Int × Int)
 | 0, _, _, _, _ => none
 | k + 1, x2, x18, x408000, x408001 => if x18 = true then (some (x408000, x408001)) else (if x408000 < 0 then (if x408001 > 0 then (some (mx x408000 (wrap64 (1 - x2)), mn x408001 (wrap64 (x2 - 1)))) else (some (mx x408000 (wrap64 (1 - x2)), 0))) else (if x408001 > 0 then (some (0, mn x408001 (wrap64 (x2 - 1)))) else (some (0, 0))))
def impl_rangeRemBy.f (k : Nat) (a0_0 : Int) (a0_1 : Int) (a1 : Int) (a2 : Int) : Option (Int × Int) := if a0_0 > (wrap64 (-a1)) then (impl_rangeRemBy.j0 k a2 (decide (a0_1 < a1)) a0_0 a0_1) else (impl_rangeRemBy.j0 k a2 false a0_0 a0_1)
theorem impl_rangeRemBy.mono_l : ∀ k, (∀ y0 y1 y2 y3, LeO (impl_rangeRemBy.j0 k y0 y1 y2 y3) (impl_rangeRemBy.j0 (k + 1) y0 y1 y2 y3))
 | 0 => fun _ _ _ _ r h => by simp [impl_rangeRemBy.j0] at h
 | k + 1 => by
  have ih0 := impl_rangeRemBy.mono_l k
  ·intro y0 y1 y2 y3
   unfold impl_rangeRemBy.j0
   repeat' first | (with_reducible first | apply ih0 | apply LeO.refl | apply LeO.none | refine LeO.ite ?_ ?_ | refine LeO.bind ?_ (fun _ => ?_)) | apply ih0 | apply LeO.none | refine LeO.ite ?_ ?_ | refine LeO.bind ?_ (fun _ => ?_)
theorem impl_rangeRemBy.mono : ∀ a0 a1 a2 a3 k, LeO (impl_rangeRemBy.f k a0 a1 a2 a3) (impl_rangeRemBy.f (k + 1) a0 a1 a2 a3) := by
 intro a0 a1 a2 a3 k
 have ih0 := impl_rangeRemBy.mono_l k
 unfold impl_rangeRemBy.f
 repeat' first | (with_reducible first | apply ih0 | apply LeO.refl | apply LeO.none | refine LeO.ite ?_ ?_ | refine LeO.bind ?_ (fun _ => ?_)) | apply ih0 | apply LeO.none | refine LeO.ite ?_ ?_ | refine LeO.bind ?_ (fun _ => ?_)
set_option maxHeartbeats 8000000 in
set_option maxRecDepth 100000 in
theorem impl_rangeRemBy.calls (k : Nat) (a0_0 : Int) (a0_1 : Int) (a1 : Int) (a2 : Int) (r1 : Int) (r2 : Int) (w : World) (h : impl_rangeRemBy.f k a0_0 a0_1 a1 a2 = some (r1, r2)) :
  Calls Try.prog 97 #[.agg #[.int .i64 a0_0, .int .i64 a0_1], .int .i64 a1, .int .i64 a2] w fun e w' => e = .returned (.agg #[.int .i64 r1, .int .i64 r2]) ∧ Below w.heap.size w w' := by
 have hu24 := Try.underlying24
 have HB := am (Below.refl w.heap.size w)
 have H : (if a0_0 > (wrap64 (-a1)) then (impl_rangeRemBy.j0 k a2 (decide (a0_1 < a1)) a0_0 a0_1) else (impl_rangeRemBy.j0 k a2 false a0_0 a0_1)) = some (r1, r2) := h
 clear h
 have HC4 := am H
 clear H
 go_enter Try.func97, Try.ntmps97
 go_upto_region 1 with (first | ((with_reducible refine gate_dst (N := 3) rfl ?_); refine bx 3 #[.int .i64 a0_0, .int .i64 a0_1] 24 ?_; intro gb407 hg w5 hbox hb; have BK407 := am (hbox); have GW407 := am (bs hg (YA HB)); have GE407 := GW407; replace HB := am (below_step (YA HB) hb); clear hb hbox hg) | ((with_reducible refine gate_dst (N := 6) rfl ?_); refine bx 6 #[.int .i64 0, .int .i64 0] 24 ?_; intro gb408 hg w6 hbox hb; have BK408 := am (hbox); have GW408 := am (bs hg (YA HB)); have GE408 := GW408; obtain ⟨NB407_408,NB408_407⟩ := ne_ hg BK407; obtain ⟨BK407, HB⟩ := bk1 BK407 HB hb; clear hb hbox hg))
 (try simp only [Act.put, List.setIfInBounds_toArray, List.set_cons_zero, List.set_cons_succ])
 go_cut [18] (fun v18 wc => ∃ (kq : Nat) (x18_3 : Bool), v18 = .bool x18_3 ∧ Aside0 (impl_rangeRemBy.j0 kq a2 x18_3 a0_0 a0_1 = some (r1, r2)) ∧ Aside0 (kq ≤ k) ∧ Bx2 wc gb407 a0_0 a0_1 24 ∧ Bx2 wc gb408 0 0 24 ∧ Aside0 (Below w.heap.size w wc))
 case first =>
  have H := HC4.out
  clear HC4
  by_cases c7 : a0_0 > (wrap64 (-a1))
  rotate_left
  ·rw [if_neg c7] at H
   have c7b0 := dF c7
   clear c7
   (first | rw [c7b0] | (simp only [i64_w, i32_w]; rw [c7b0]) | skip)
   have H' := am H
   clear H
   obtain ⟨hnb10,hnc10⟩ := nn NB407_408
   obtain ⟨hcz11_0,hcz11_1,hfz11_0,hfz11_1⟩ := cB2 BK407
   go_wp2
   go_meet
   case rel => exact ⟨_, (false), ey, H', le0, ⟨Z BK407⟩, ⟨Z BK408⟩, ⟨YA HB⟩⟩
  rw [if_pos c7] at H
  have c7b0 := dT c7
  clear c7
  (first | rw [c7b0] | (simp only [i64_w, i32_w]; rw [c7b0]) | skip)
  have H' := am H
  clear H
  obtain ⟨hnb8,hnc8⟩ := nn NB407_408
  obtain ⟨hcz9_0,hcz9_1,hfz9_0,hfz9_1⟩ := cB2 BK407
  go_wp2
  go_meet
  case rel => exact ⟨_, (decide (a0_1 < a1)), ey, H', le0, ⟨Z BK407⟩, ⟨Z BK408⟩, ⟨YA HB⟩⟩
 case rest =>
  clear HC4
  obtain ⟨kq, x18_3, rfl, HA, HJ3, BK407, BK408, HB⟩ := hcut
  cases kq with
  | zero => exact absurd HA.out (by simp [impl_rangeRemBy.j0])
  | succ kj3 =>
   have H := HA.out
   clear HA
   simp only [impl_rangeRemBy.j0] at H
   by_cases c12 : x18_3 = true
   ·subst c12
    rw [if_pos rfl] at H
    simp only [Option.some.injEq, Prod.mk.injEq] at H
    obtain ⟨rfl, rfl⟩ := H
    obtain ⟨hnb13,hnc13⟩ := nn NB407_408
    obtain ⟨hcz14_0,hcz14_1,hfz14_0,hfz14_1⟩ := cB2 BK407
    obtain ⟨hcz15_0,hcz15_1,hfz15_0,hfz15_1⟩ := cB2 BK408
    go_wp2
    refine bodyPost_ret (results_cell_row rfl _ _ gb408 24 #[.int .i64 a0_0, .int .i64 a0_1] (0, 0) _ rfl (by refine pf ?_; refine blk_put (cs := #[.int .i64 a0_0, .int .i64 0]) ?_ 1 _ rfl; refine pf ?_; refine blk_put (cs := #[.int .i64 0, .int .i64 0]) ?_ 0 _ rfl; exact Z BK408) Try.underlying24 rfl (by kernel_rfl)) rfl ?_
    exact ⟨ez, YA HB⟩
   replace c12 := Bool.eq_false_iff.mpr c12
   subst c12
   rw [if_neg ff] at H
   by_cases c16 : a0_0 < 0
   rotate_left
   ·rw [if_neg c16] at H
    have c16b0 := dF c16
    clear c16
    by_cases c34 : a0_1 > 0
    rotate_left
    ·rw [if_neg c34] at H
     have c34b0 := dF c34
     clear c34
     simp only [Option.some.injEq, Prod.mk.injEq] at H
     obtain ⟨rfl, rfl⟩ := H
     go_wp2_with (first | ((with_reducible refine gate_dst (N := 7) rfl ?_); refine bx 7 #[.int .i64 0, .int .i64 0] 24 ?_; intro gb409 hg w43 hbox hb; have BK409 := am (hbox); have GW409 := am (bs hg (YA HB)); have GE409 := GW409; obtain ⟨NB407_409,NB409_407⟩ := ne_ hg BK407; obtain ⟨NB408_409,NB409_408⟩ := ne_ hg BK408; obtain ⟨BK407, BK408, HB⟩ := bk2 BK407 BK408 HB hb; clear hb hbox hg; obtain ⟨hnb44,hnc44⟩ := nn NB409_407; obtain ⟨hnb45,hnc45⟩ := nn NB409_408; obtain ⟨hcz46_0,hcz46_1,hfz46_0,hfz46_1⟩ := cB2 BK409; obtain ⟨hnb47,hnc47⟩ := nn NB407_408; obtain ⟨hcz48_0,hcz48_1,hfz48_0,hfz48_1⟩ := cB2 BK407; obtain ⟨hcz49_0,hcz49_1,hfz49_0,hfz49_1⟩ := cB2 BK408))
     refine bodyPost_ret (results_cell_row rfl _ _ gb408 24 #[.int .i64 0, .int .i64 0] (0, 0) _ rfl (by refine pf ?_; refine blk_put (cs := #[.int .i64 0, .int .i64 0]) ?_ 1 _ rfl; refine pf ?_; refine blk_put (cs := #[.int .i64 0, .int .i64 0]) ?_ 0 _ rfl; refine fa NB408_409 ?_; refine fa NB408_409 ?_; exact Z BK408) Try.underlying24 rfl (by kernel_rfl)) rfl ?_
     exact ⟨ez, YA HB⟩
    rw [if_pos c34] at H
    have c34b0 := dT c34
    clear c34
    obtain ⟨ji35, hji35⟩ : ∃ j_ : Int, (mn a0_1 (wrap64 (a2 - 1))) = j_ := ⟨_, rfl⟩
    replace H : (some (0, ji35)) = some (r1, r2) := by first | (rw [hji35] at H; exact H) | (simp only [hji35] at H ⊢; exact H)
    have hji35_ : (if (wrap64 (a2 - 1)) < a0_1 then (wrap64 (a2 - 1)) else a0_1) = ji35 := hji35
    simp only [Option.some.injEq, Prod.mk.injEq] at H
    obtain ⟨rfl, rfl⟩ := H
    go_wp2_with (first | ((with_reducible refine gate_dst (N := 7) rfl ?_); refine bx 7 #[.int .i64 0, .int .i64 0] 24 ?_; intro gb409 hg w36 hbox hb; have BK409 := am (hbox); have GW409 := am (bs hg (YA HB)); have GE409 := GW409; obtain ⟨NB407_409,NB409_407⟩ := ne_ hg BK407; obtain ⟨NB408_409,NB409_408⟩ := ne_ hg BK408; obtain ⟨BK407, BK408, HB⟩ := bk2 BK407 BK408 HB hb; clear hb hbox hg; obtain ⟨hnb37,hnc37⟩ := nn NB409_407; obtain ⟨hnb38,hnc38⟩ := nn NB409_408; obtain ⟨hcz39_0,hcz39_1,hfz39_0,hfz39_1⟩ := cB2 BK409; obtain ⟨hnb40,hnc40⟩ := nn NB407_408; obtain ⟨hcz41_0,hcz41_1,hfz41_0,hfz41_1⟩ := cB2 BK407; obtain ⟨hcz42_0,hcz42_1,hfz42_0,hfz42_1⟩ := cB2 BK408))
    refine bodyPost_ret (results_cell_row rfl _ _ gb408 24 #[.int .i64 0, .int .i64 ji35] (0, 0) _ rfl (by refine pf ?_; refine blk_put (cs := #[.int .i64 0, .int .i64 0]) ?_ 1 _ rfl; refine pf ?_; refine blk_put (cs := #[.int .i64 0, .int .i64 0]) ?_ 0 _ rfl; refine fa NB408_409 ?_; refine fa NB408_409 ?_; refine fa NB408_409 ?_; exact Z BK408) Try.underlying24 rfl (by kernel_rfl)) rfl ?_
    exact ⟨by first | rfl | (simp [errW_none, errW_some] <;> rfl) | (simp only [← hji35]; first | rfl | (simp [errW_none, errW_some] <;> rfl)) | (simp [*, errW_none, errW_some] <;> rfl), YA HB⟩
   rw [if_pos c16] at H
   have c16b0 := dT c16
   clear c16
   obtain ⟨ji17, hji17⟩ : ∃ j_ : Int, (mx a0_0 (wrap64 (1 - a2))) = j_ := ⟨_, rfl⟩
   replace H : (if a0_1 > 0 then (some (ji17, mn a0_1 (wrap64 (a2 - 1)))) else (some (ji17, 0))) = some (r1, r2) := by first | (rw [hji17] at H; exact H) | (simp only [hji17] at H ⊢; exact H)
   have hji17_ : (if a0_0 < (wrap64 (1 - a2)) then (wrap64 (1 - a2)) else a0_0) = ji17 := hji17
   by_cases c18 : a0_1 > 0
   rotate_left
   ·rw [if_neg c18] at H
    have c18b0 := dF c18
    clear c18
    simp only [Option.some.injEq, Prod.mk.injEq] at H
    obtain ⟨rfl, rfl⟩ := H
    go_wp2_with (first | ((with_reducible refine gate_dst (N := 7) rfl ?_); refine bx 7 #[.int .i64 0, .int .i64 0] 24 ?_; intro gb409 hg w27 hbox hb; have BK409 := am (hbox); have GW409 := am (bs hg (YA HB)); have GE409 := GW409; obtain ⟨NB407_409,NB409_407⟩ := ne_ hg BK407; obtain ⟨NB408_409,NB409_408⟩ := ne_ hg BK408; obtain ⟨BK407, BK408, HB⟩ := bk2 BK407 BK408 HB hb; clear hb hbox hg; obtain ⟨hnb28,hnc28⟩ := nn NB409_407; obtain ⟨hnb29,hnc29⟩ := nn NB409_408; obtain ⟨hcz30_0,hcz30_1,hfz30_0,hfz30_1⟩ := cB2 BK409; obtain ⟨hnb31,hnc31⟩ := nn NB407_408; obtain ⟨hcz32_0,hcz32_1,hfz32_0,hfz32_1⟩ := cB2 BK407; obtain ⟨hcz33_0,hcz33_1,hfz33_0,hfz33_1⟩ := cB2 BK408))
    refine bodyPost_ret (results_cell_row rfl _ _ gb408 24 #[.int .i64 ji17, .int .i64 0] (0, 0) _ rfl (by refine pf ?_; refine blk_put (cs := #[.int .i64 ji17, .int .i64 0]) ?_ 1 _ rfl; refine pf ?_; refine blk_put (cs := #[.int .i64 0, .int .i64 0]) ?_ 0 _ rfl; refine fa NB408_409 ?_; refine fa NB408_409 ?_; refine fa NB408_409 ?_; exact Z BK408) Try.underlying24 rfl (by kernel_rfl)) rfl ?_
    exact ⟨by first | rfl | (simp [errW_none, errW_some] <;> rfl) | (simp only [← hji17]; first | rfl | (simp [errW_none, errW_some] <;> rfl)) | (simp [*, errW_none, errW_some] <;> rfl), YA HB⟩
   rw [if_pos c18] at H
   have c18b0 := dT c18
   clear c18
   obtain ⟨ji19, hji19⟩ : ∃ j_ : Int, (mn a0_1 (wrap64 (a2 - 1))) = j_ := ⟨_, rfl⟩
   replace H : (some (ji17, ji19)) = some (r1, r2) := by first | (rw [hji19] at H; exact H) | (simp only [hji19] at H ⊢; exact H)
   have hji19_ : (if (wrap64 (a2 - 1)) < a0_1 then (wrap64 (a2 - 1)) else a0_1) = ji19 := hji19
   simp only [Option.some.injEq, Prod.mk.injEq] at H
   obtain ⟨rfl, rfl⟩ := H
   go_wp2_with (first | ((with_reducible refine gate_dst (N := 7) rfl ?_); refine bx 7 #[.int .i64 0, .int .i64 0] 24 ?_; intro gb409 hg w20 hbox hb; have BK409 := am (hbox); have GW409 := am (bs hg (YA HB)); have GE409 := GW409; obtain ⟨NB407_409,NB409_407⟩ := ne_ hg BK407; obtain ⟨NB408_409,NB409_408⟩ := ne_ hg BK408; obtain ⟨BK407, BK408, HB⟩ := bk2 BK407 BK408 HB hb; clear hb hbox hg; obtain ⟨hnb21,hnc21⟩ := nn NB409_407; obtain ⟨hnb22,hnc22⟩ := nn NB409_408; obtain ⟨hcz23_0,hcz23_1,hfz23_0,hfz23_1⟩ := cB2 BK409; obtain ⟨hnb24,hnc24⟩ := nn NB407_408; obtain ⟨hcz25_0,hcz25_1,hfz25_0,hfz25_1⟩ := cB2 BK407; obtain ⟨hcz26_0,hcz26_1,hfz26_0,hfz26_1⟩ := cB2 BK408))
   refine bodyPost_ret (results_cell_row rfl _ _ gb408 24 #[.int .i64 ji17, .int .i64 ji19] (0, 0) _ rfl (by refine pf ?_; refine blk_put (cs := #[.int .i64 ji17, .int .i64 0]) ?_ 1 _ rfl; refine pf ?_; refine blk_put (cs := #[.int .i64 0, .int .i64 0]) ?_ 0 _ rfl; refine fa NB408_409 ?_; refine fa NB408_409 ?_; refine fa NB408_409 ?_; refine fa NB408_409 ?_; exact Z BK408) Try.underlying24 rfl (by kernel_rfl)) rfl ?_
   exact ⟨by first | rfl | (simp [errW_none, errW_some] <;> rfl) | (simp only [← hji17, ← hji19]; first | rfl | (simp [errW_none, errW_some] <;> rfl)) | (simp [*, errW_none, errW_some] <;> rfl), YA HB⟩

end Go.Proofs.Ythbkakcchgnhpaa.PFnRangeFaults
