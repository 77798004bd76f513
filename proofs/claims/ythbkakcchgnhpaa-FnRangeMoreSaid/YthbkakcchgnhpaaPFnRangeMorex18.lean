/- Written by this session's own driver (wip/dprint.py): the functions that the law FnRangeMore reaches, as Lean functions, each with its contract. -/
import Derived.Test.YthbkakcchgnhpaaPFnRangeMorex0
import Derived.Test.YthbkakcchgnhpaaPFnRangeMorex12
import Derived.Test.YthbkakcchgnhpaaSv
namespace Go.Proofs.Ythbkakcchgnhpaa.PFnRangeMore
open Go.RowKit Go.Proofs.YthbkakcchgnhpaaV.PrintWords Go.Proofs.YthbkakcchgnhpaaV.PrintLast Go.Proofs.YthbkakcchgnhpaaV.PrintMore Go.Proofs.YthbkakcchgnhpaaSv
attribute [local go_sem] max2_int min2_int max_two min_two max_three min_three max_four min_four   -- for this text's walks alone
set_option linter.unusedVariables false
set_option linter.unusedSimpArgs false

/-! ### impl_RangeJoin: function 84 -/
attribute [local go_sem] Go.Proofs.YthbkakcchgnhpaaSet.isSome_setCell
def impl_RangeJoin.j0 : Nat → Bool → Int → Int → Int → Int → Option (Int × Int)
 | 0, _, _, _, _, _ => none
 | k + 1, x1, x2, x3, x4, x5 => if x1 = true then ((impl_rangeNone.f).bind fun u1 => (some (u1.1, u1.2))) else ((impl_Range_empty.f x2 x3).bind fun t1 => (if t1 = true then (some (x4, x5)) else ((impl_Range_empty.f x4 x5).bind fun t2 => (if t2 = true then (some (x2, x3)) else (some (mn x2 x4, mx x3 x5))))))
def impl_RangeJoin.f (k : Nat) (a0_0 : Int) (a0_1 : Int) (a1_0 : Int) (a1_1 : Int) : Option (Int × Int) := (impl_RangeOk.f a0_0 a0_1).bind fun t1 => (if t1 = true then ((impl_RangeOk.f a1_0 a1_1).bind fun t2 => (impl_RangeJoin.j0 k (!t2) a0_0 a0_1 a1_0 a1_1)) else (impl_RangeJoin.j0 k true a0_0 a0_1 a1_0 a1_1))
theorem impl_RangeJoin.mono_l : ∀ k, (∀ y0 y1 y2 y3 y4, LeO (impl_RangeJoin.j0 k y0 y1 y2 y3 y4) (impl_RangeJoin.j0 (k + 1) y0 y1 y2 y3 y4))
 | 0 => fun _ _ _ _ _ r h => by simp [impl_RangeJoin.j0] at h
 | k + 1 => by
  have ih0 := impl_RangeJoin.mono_l k
  ·intro y0 y1 y2 y3 y4
   unfold impl_RangeJoin.j0
   repeat' first | (with_reducible first | apply ih0 | apply LeO.refl | apply LeO.none | refine LeO.ite ?_ ?_ | refine LeO.bind ?_ (fun _ => ?_)) | apply ih0 | apply LeO.none | refine LeO.ite ?_ ?_ | refine LeO.bind ?_ (fun _ => ?_)
theorem impl_RangeJoin.mono : ∀ a0 a1 a2 a3 k, LeO (impl_RangeJoin.f k a0 a1 a2 a3) (impl_RangeJoin.f (k + 1) a0 a1 a2 a3) := by
 intro a0 a1 a2 a3 k
 have ih0 := impl_RangeJoin.mono_l k
 unfold impl_RangeJoin.f
 repeat' first | (with_reducible first | apply ih0 | apply LeO.refl | apply LeO.none | refine LeO.ite ?_ ?_ | refine LeO.bind ?_ (fun _ => ?_)) | apply ih0 | apply LeO.none | refine LeO.ite ?_ ?_ | refine LeO.bind ?_ (fun _ => ?_)
set_option maxHeartbeats 8000000 in
set_option maxRecDepth 100000 in
theorem impl_RangeJoin.calls (k : Nat) (a0_0 : Int) (a0_1 : Int) (a1_0 : Int) (a1_1 : Int) (r1 : Int) (r2 : Int) (w : World) (h : impl_RangeJoin.f k a0_0 a0_1 a1_0 a1_1 = some (r1, r2)) :
  Calls Try.prog 84 #[.agg #[.int .i64 a0_0, .int .i64 a0_1], .agg #[.int .i64 a1_0, .int .i64 a1_1]] w fun e w' => e = .returned (.agg #[.int .i64 r1, .int .i64 r2]) ∧ Below w.heap.size w w' := by
 have hu24 := Try.underlying24
 have HB := am (Below.refl w.heap.size w)
 have H : ((impl_RangeOk.f a0_0 a0_1).bind fun t1 => (if t1 = true then ((impl_RangeOk.f a1_0 a1_1).bind fun t2 => (impl_RangeJoin.j0 k (!t2) a0_0 a0_1 a1_0 a1_1)) else (impl_RangeJoin.j0 k true a0_0 a0_1 a1_0 a1_1))) = some (r1, r2) := h
 clear h
 have C1 := am H
 clear H
 go_enter Try.func84, Try.ntmps84
 go_upto_region 1 with (first | ((with_reducible refine gate_dst (N := 2) rfl ?_); refine bxn 2 #[.int .i64 a0_0, .int .i64 a0_1] 24 HB fun g1 w1 K1 G1 hg hb => ?_; replace HB := am (below_step (YA HB) hb); clear hb hg) | ((with_reducible refine gate_dst (N := 3) rfl ?_); refine bxn 3 #[.int .i64 a1_0, .int .i64 a1_1] 24 HB fun g2 w2 K2 G2 hg hb => ?_; obtain ⟨N1,N2⟩ := ne_ hg K1; obtain ⟨K1, HB⟩ := bk1 K1 HB hb; clear hb hg) | ((with_reducible refine gate_dst (N := 4) rfl ?_); refine bxn 4 #[.int .i64 0, .int .i64 0] 24 HB fun g3 w3 K3 G3 hg hb => ?_; obtain ⟨N3,N4⟩ := ne_ hg K1; obtain ⟨N5,N6⟩ := ne_ hg K2; obtain ⟨K1, K2, HB⟩ := bk2 K1 K2 HB hb; clear hb hg))
 (try simp only [Act.put, List.setIfInBounds_toArray, List.set_cons_zero, List.set_cons_succ])
 go_cut [5] (fun v1 wc => ∃ (kq : Nat) (x1 : Bool), v1 = .bool x1 ∧ Aside0 (impl_RangeJoin.j0 kq x1 a0_0 a0_1 a1_0 a1_1 = some (r1, r2)) ∧ Aside0 (kq ≤ k) ∧ Bx2 wc g1 a0_0 a0_1 24 ∧ Bx2 wc g2 a1_0 a1_1 24 ∧ Bx2 wc g3 0 0 24 ∧ Aside0 (Below w.heap.size w wc))
 case first =>
  have H := C1.out
  clear C1
  obtain ⟨t1, A1, H⟩ := bd H
  try dsimp only at H
  by_cases c1 : t1 = true
  rotate_left
  ·replace c1 := Bool.eq_false_iff.mpr c1
   subst c1
   rw [if_neg ff] at H
   have H' := am H
   clear H
   have z_ := ns2 N1 N3
   have z_ := cB2 K1
   go_wp2_with (first | ((with_reducible refine gate_callee (f := 46) rfl ?_); refine gL 7 Try.func46 (impl_RangeOk.calls _ _ _ _ A1.out) fun w4 hb => ?_; obtain ⟨K1, K2, K3, HB⟩ := bk3 K1 K2 K3 HB hb; (try clear hb)))
   go_meet
   case rel => exact ⟨_, (true), ey, H', le0, ⟨Z K1⟩, ⟨Z K2⟩, ⟨Z K3⟩, ⟨YA HB⟩⟩
  subst c1
  rw [if_pos rfl] at H
  obtain ⟨t2, A2, H⟩ := bd H
  try dsimp only at H
  have H' := am H
  clear H
  have z_ := ns2 N1 N3
  have z_ := cB2 K1
  go_wp2_with (first | ((with_reducible refine gate_callee (f := 46) rfl ?_); refine gL 7 Try.func46 (impl_RangeOk.calls _ _ _ _ A1.out) fun w4 hb => ?_; obtain ⟨K1, K2, K3, HB⟩ := bk3 K1 K2 K3 HB hb; (try clear hb); have z_ := ns1 N5; have z_ := cB2 K2) | (go_at_call 46; (with_reducible refine (impl_RangeOk.calls _ _ _ _ A2.out).mono ?_); rintro e w5 ⟨rfl, hb⟩; obtain ⟨K1, K2, K3, HB⟩ := bk3 K1 K2 K3 HB hb; (try clear hb)))
  go_meet
  case rel => exact ⟨_, (!t2), ey, H', le0, ⟨Z K1⟩, ⟨Z K2⟩, ⟨Z K3⟩, ⟨YA HB⟩⟩
 case rest =>
  clear C1
  obtain ⟨kq, x1, rfl, HA, J1, K1, K2, K3, HB⟩ := hcut
  cases kq with
  | zero => exact absurd HA.out (by simp [impl_RangeJoin.j0])
  | succ k1 =>
   have H := HA.out
   clear HA
   simp only [impl_RangeJoin.j0] at H
   by_cases c1 : x1 = true
   ·subst c1
    rw [if_pos rfl] at H
    obtain ⟨⟨t3, t4⟩, A1, H⟩ := bd H
    try dsimp only at H
    simp only [Option.some.injEq, Prod.mk.injEq] at H
    obtain ⟨rfl, rfl⟩ := H
    go_wp2_with (first | ((with_reducible refine gate_callee (f := 48) rfl ?_); refine gL 14 Try.func48 (impl_rangeNone.calls _ _ _ A1.out) fun w4 hb => ?_; obtain ⟨K1, K2, K3, HB⟩ := bk3 K1 K2 K3 HB hb; (try clear hb); have z_ := ns2 N4 N6; have z_ := cB2 K3))
    refine bodyPost_ret (results_cell_row rfl _ _ g3 24 #[.int .i64 t3, .int .i64 t4] (0, 0) _ rfl (by refine pf ?_; refine blk_put (cs := #[.int .i64 t3, .int .i64 0]) ?_ 1 _ rfl; refine pf ?_; refine blk_put (cs := #[.int .i64 0, .int .i64 0]) ?_ 0 _ rfl; exact Z K3) Try.underlying24 rfl (by kernel_rfl)) rfl ?_
    exact ⟨ez, YA HB⟩
   replace c1 := Bool.eq_false_iff.mpr c1
   subst c1
   rw [if_neg ff] at H
   obtain ⟨t3, A1, H⟩ := bd H
   try dsimp only at H
   by_cases c2 : t3 = true
   ·subst c2
    rw [if_pos rfl] at H
    simp only [Option.some.injEq, Prod.mk.injEq] at H
    obtain ⟨rfl, rfl⟩ := H
    have z_ := ns2 N1 N3
    have z_ := cB2 K1
    go_wp2_with (first | ((with_reducible refine gate_callee (f := 47) rfl ?_); refine gL 17 Try.func47 (impl_Range_empty.calls _ _ _ _ A1.out) fun w4 hb => ?_; obtain ⟨K1, K2, K3, HB⟩ := bk3 K1 K2 K3 HB hb; (try clear hb); have z_ := ns1 N5; have z_ := cB2 K2; have z_ := cB2 K3))
    refine bodyPost_ret (results_cell_row rfl _ _ g3 24 #[.int .i64 a1_0, .int .i64 a1_1] (0, 0) _ rfl (by refine pf ?_; refine blk_put (cs := #[.int .i64 a1_0, .int .i64 0]) ?_ 1 _ rfl; refine pf ?_; refine blk_put (cs := #[.int .i64 0, .int .i64 0]) ?_ 0 _ rfl; exact Z K3) Try.underlying24 rfl (by kernel_rfl)) rfl ?_
    exact ⟨ez, YA HB⟩
   replace c2 := Bool.eq_false_iff.mpr c2
   subst c2
   rw [if_neg ff] at H
   obtain ⟨t4, A2, H⟩ := bd H
   try dsimp only at H
   by_cases c3 : t4 = true
   ·subst c3
    rw [if_pos rfl] at H
    simp only [Option.some.injEq, Prod.mk.injEq] at H
    obtain ⟨rfl, rfl⟩ := H
    have z_ := ns2 N1 N3
    have z_ := cB2 K1
    go_wp2_with (first | ((with_reducible refine gate_callee (f := 47) rfl ?_); refine gL 17 Try.func47 (impl_Range_empty.calls _ _ _ _ A1.out) fun w4 hb => ?_; obtain ⟨K1, K2, K3, HB⟩ := bk3 K1 K2 K3 HB hb; (try clear hb); have z_ := ns1 N5; have z_ := cB2 K2) | ((with_reducible refine gate_callee (f := 47) rfl ?_); refine gL 21 Try.func47 (impl_Range_empty.calls _ _ _ _ A2.out) fun w5 hb => ?_; obtain ⟨K1, K2, K3, HB⟩ := bk3 K1 K2 K3 HB hb; (try clear hb); have z_ := cB2 K1; have z_ := cB2 K3))
    refine bodyPost_ret (results_cell_row rfl _ _ g3 24 #[.int .i64 a0_0, .int .i64 a0_1] (0, 0) _ rfl (by refine pf ?_; refine blk_put (cs := #[.int .i64 a0_0, .int .i64 0]) ?_ 1 _ rfl; refine pf ?_; refine blk_put (cs := #[.int .i64 0, .int .i64 0]) ?_ 0 _ rfl; exact Z K3) Try.underlying24 rfl (by kernel_rfl)) rfl ?_
    exact ⟨ez, YA HB⟩
   replace c3 := Bool.eq_false_iff.mpr c3
   subst c3
   rw [if_neg ff] at H
   obtain ⟨i1, j9⟩ : ∃ j_ : Int, (mn a0_0 a1_0) = j_ := ⟨_, rfl⟩
   replace H : (some (i1, mx a0_1 a1_1)) = some (r1, r2) := by first | (rw [j9] at H; exact H) | (simp only [j9] at H ⊢; exact H)
   (try rw [j9] at A1)
   (try rw [j9] at A2)
   have hji47_ : (if a1_0 < a0_0 then a1_0 else a0_0) = i1 := j9
   obtain ⟨i2, j10⟩ : ∃ j_ : Int, (mx a0_1 a1_1) = j_ := ⟨_, rfl⟩
   replace H : (some (i1, i2)) = some (r1, r2) := by first | (rw [j10] at H; exact H) | (simp only [j10] at H ⊢; exact H)
   (try rw [j10] at A1)
   (try rw [j10] at A2)
   have hji48_ : (if a0_1 < a1_1 then a1_1 else a0_1) = i2 := j10
   simp only [Option.some.injEq, Prod.mk.injEq] at H
   obtain ⟨rfl, rfl⟩ := H
   have z_ := ns2 N1 N3
   have z_ := cB2 K1
   go_wp2_with (first | ((with_reducible refine gate_callee (f := 47) rfl ?_); refine gL 17 Try.func47 (impl_Range_empty.calls _ _ _ _ A1.out) fun w4 hb => ?_; obtain ⟨K1, K2, K3, HB⟩ := bk3 K1 K2 K3 HB hb; (try clear hb); have z_ := ns1 N5; have z_ := cB2 K2) | ((with_reducible refine gate_callee (f := 47) rfl ?_); refine gL 21 Try.func47 (impl_Range_empty.calls _ _ _ _ A2.out) fun w5 hb => ?_; obtain ⟨K1, K2, K3, HB⟩ := bk3 K1 K2 K3 HB hb; (try clear hb); have z_ := cB2 K1; have z_ := cB2 K2; have z_ := cB2 K3))
   refine bodyPost_ret (results_cell_row rfl _ _ g3 24 #[.int .i64 i1, .int .i64 i2] (0, 0) _ rfl (by refine pf ?_; refine blk_put (cs := #[.int .i64 i1, .int .i64 0]) ?_ 1 _ rfl; refine pf ?_; refine blk_put (cs := #[.int .i64 0, .int .i64 0]) ?_ 0 _ rfl; exact Z K3) Try.underlying24 rfl (by kernel_rfl)) rfl ?_
   exact ⟨by first | rfl | (simp [errW_none, errW_some] <;> rfl) | (simp only [← j9, ← j10]; first | rfl | (simp [errW_none, errW_some] <;> rfl)) | (simp [*, errW_none, errW_some] <;> rfl), YA HB⟩

/-! ### impl_Range_single: function 96 -/
attribute [local go_sem] Go.Proofs.YthbkakcchgnhpaaSet.isSome_setCell
def impl_Range_single.f (a0_0 : Int) (a0_1 : Int) : Option (Bool) := some (a0_0 == a0_1)
set_option maxHeartbeats 8000000 in
set_option maxRecDepth 100000 in
theorem impl_Range_single.calls (a0_0 : Int) (a0_1 : Int) (r : Bool) (w : World) (h : impl_Range_single.f a0_0 a0_1 = some r) :
  Calls Try.prog 96 #[.agg #[.int .i64 a0_0, .int .i64 a0_1]] w fun e w' => e = .returned (.bool r) ∧ Below w.heap.size w w' := by
 have hu24 := Try.underlying24
 have HB := am (Below.refl w.heap.size w)
 have H : (some (a0_0 == a0_1)) = some r := h
 clear h
 obtain rfl := Option.some.inj H
 go_enter Try.func96, Try.ntmps96
 go_wp2_with (first | ((with_reducible refine gate_dst (N := 1) rfl ?_); refine bxn 1 #[.int .i64 a0_0, .int .i64 a0_1] 24 HB fun g1 w1 K1 G1 hg hb => ?_; replace HB := am (below_step (YA HB) hb); clear hb hg; have z_ := cB2 K1))
 go_ret
 exact ⟨ez, YA HB⟩

/-! ### impl_rangeRemBy: function 97 -/
attribute [local go_sem] Go.Proofs.YthbkakcchgnhpaaSet.isSome_setCell
def impl_rangeRemBy.j0 : Nat → Int → Bool → Int → Int → Option (Int × Int)
 | 0, _, _, _, _ => none
 | k + 1, x1, x2, x3, x4 => if x2 = true then (some (x3, x4)) else (if x3 < 0 then (if x4 > 0 then (some (mx x3 (wrap64 (1 - x1)), mn x4 (wrap64 (x1 - 1)))) else (some (mx x3 (wrap64 (1 - x1)), 0))) else (if x4 > 0 then (some (0, mn x4 (wrap64 (x1 - 1)))) else (some (0, 0))))
def impl_rangeRemBy.f (k : Nat) (a0_0 : Int) (a0_1 : Int) (a1 : Int) (a2 : Int) : Option (Int × Int) := if a0_0 > (wrap64 (-a1)) then (impl_rangeRemBy.j0 k a2 (decide (a0_1 < a1)) a0_0 a0_1) else (impl_rangeRemBy.j0 k a2 false a0_0 a0_1)
theorem impl_rangeRemBy.mono_l : ∀ k, (∀ y0 y1 y2 y3, LeO (impl_rangeRemBy.j0 k y0 y1 y2 y3) (impl_rangeRemBy.j0 (k + 1) y0 y1 y2 y3))
 | 0 => fun _ _ _ _ r h => by simp [impl_rangeRemBy.j0] at h
 | k + 1 => by
  have ih0 := impl_rangeRemBy.mono_l k
  ·intro y0 y1 y2 y3
   unfold impl_rangeRemBy.j0
   repeat' first | (with_reducible first | apply ih0 | apply LeO.refl | apply LeO.none | refine LeO.ite ?_ ?_ | refine LeO.bind ?_ (fun _ => ?_)) | apply ih0 | apply LeO.none | refine LeO.ite ?_ ?_ | refine LeO.bind ?_ (fun _ => ?_)
theorem impl_rangeRemBy.mono : ∀ a0 a1 a2 a3 k, LeO (impl_rangeRemBy.f k a0 a1 a2 a3) (impl_rangeRemBy.f (k + 1) a0 a1 a2 a3) := by
 intro a0 a1 a2 a3 k
 have ih0 := impl_rangeRemBy.mono_l k
 unfold impl_rangeRemBy.f
 repeat' first | (with_reducible first | apply ih0 | apply LeO.refl | apply LeO.none | refine LeO.ite ?_ ?_ | refine LeO.bind ?_ (fun _ => ?_)) | apply ih0 | apply LeO.none | refine LeO.ite ?_ ?_ | refine LeO.bind ?_ (fun _ => ?_)
set_option maxHeartbeats 8000000 in
set_option maxRecDepth 100000 in
theorem impl_rangeRemBy.calls (k : Nat) (a0_0 : Int) (a0_1 : Int) (a1 : Int) (a2 : Int) (r1 : Int) (r2 : Int) (w : World) (h : impl_rangeRemBy.f k a0_0 a0_1 a1 a2 = some (r1, r2)) :
  Calls Try.prog 97 #[.agg #[.int .i64 a0_0, .int .i64 a0_1], .int .i64 a1, .int .i64 a2] w fun e w' => e = .returned (.agg #[.int .i64 r1, .int .i64 r2]) ∧ Below w.heap.size w w' := by
 have hu24 := Try.underlying24
 have HB := am (Below.refl w.heap.size w)
 have H : (if a0_0 > (wrap64 (-a1)) then (impl_rangeRemBy.j0 k a2 (decide (a0_1 < a1)) a0_0 a0_1) else (impl_rangeRemBy.j0 k a2 false a0_0 a0_1)) = some (r1, r2) := h
 clear h
 have C1 := am H
 clear H
 go_enter Try.func97, Try.ntmps97
 go_upto_region 1 with (first | ((with_reducible refine gate_dst (N := 3) rfl ?_); refine bxn 3 #[.int .i64 a0_0, .int .i64 a0_1] 24 HB fun g1 w1 K1 G1 hg hb => ?_; replace HB := am (below_step (YA HB) hb); clear hb hg) | ((with_reducible refine gate_dst (N := 6) rfl ?_); refine bxn 6 #[.int .i64 0, .int .i64 0] 24 HB fun g2 w2 K2 G2 hg hb => ?_; obtain ⟨N1,N2⟩ := ne_ hg K1; obtain ⟨K1, HB⟩ := bk1 K1 HB hb; clear hb hg))
 (try simp only [Act.put, List.setIfInBounds_toArray, List.set_cons_zero, List.set_cons_succ])
 go_cut [18] (fun v1 wc => ∃ (kq : Nat) (x1 : Bool), v1 = .bool x1 ∧ Aside0 (impl_rangeRemBy.j0 kq a2 x1 a0_0 a0_1 = some (r1, r2)) ∧ Aside0 (kq ≤ k) ∧ Bx2 wc g1 a0_0 a0_1 24 ∧ Bx2 wc g2 0 0 24 ∧ Aside0 (Below w.heap.size w wc))
 case first =>
  have H := C1.out
  clear C1
  by_cases c1 : a0_0 > (wrap64 (-a1))
  rotate_left
  ·rw [if_neg c1] at H
   have d1 := dF c1
   clear c1
   (first | rw [d1] | (simp only [i64_w, i32_w]; rw [d1]) | skip)
   have H' := am H
   clear H
   have z_ := ns1 N1
   have z_ := cB2 K1
   go_wp2
   go_meet
   case rel => exact ⟨_, (false), ey, H', le0, ⟨Z K1⟩, ⟨Z K2⟩, ⟨YA HB⟩⟩
  rw [if_pos c1] at H
  have d1 := dT c1
  clear c1
  (first | rw [d1] | (simp only [i64_w, i32_w]; rw [d1]) | skip)
  have H' := am H
  clear H
  have z_ := ns1 N1
  have z_ := cB2 K1
  go_wp2
  go_meet
  case rel => exact ⟨_, (decide (a0_1 < a1)), ey, H', le0, ⟨Z K1⟩, ⟨Z K2⟩, ⟨YA HB⟩⟩
 case rest =>
  clear C1
  obtain ⟨kq, x1, rfl, HA, J1, K1, K2, HB⟩ := hcut
  cases kq with
  | zero => exact absurd HA.out (by simp [impl_rangeRemBy.j0])
  | succ k1 =>
   have H := HA.out
   clear HA
   simp only [impl_rangeRemBy.j0] at H
   by_cases c1 : x1 = true
   ·subst c1
    rw [if_pos rfl] at H
    simp only [Option.some.injEq, Prod.mk.injEq] at H
    obtain ⟨rfl, rfl⟩ := H
    have z_ := ns1 N1
    have z_ := cB2 K1
    have z_ := cB2 K2
    go_wp2
    refine bodyPost_ret (results_cell_row rfl _ _ g2 24 #[.int .i64 a0_0, .int .i64 a0_1] (0, 0) _ rfl (by refine pf ?_; refine blk_put (cs := #[.int .i64 a0_0, .int .i64 0]) ?_ 1 _ rfl; refine pf ?_; refine blk_put (cs := #[.int .i64 0, .int .i64 0]) ?_ 0 _ rfl; exact Z K2) Try.underlying24 rfl (by kernel_rfl)) rfl ?_
    exact ⟨ez, YA HB⟩
   replace c1 := Bool.eq_false_iff.mpr c1
   subst c1
   rw [if_neg ff] at H
   by_cases c2 : a0_0 < 0
   rotate_left
   ·rw [if_neg c2] at H
    have d1 := dF c2
    clear c2
    by_cases c3 : a0_1 > 0
    rotate_left
    ·rw [if_neg c3] at H
     have d2 := dF c3
     clear c3
     simp only [Option.some.injEq, Prod.mk.injEq] at H
     obtain ⟨rfl, rfl⟩ := H
     go_wp2_with (first | ((with_reducible refine gate_dst (N := 7) rfl ?_); refine bxn 7 #[.int .i64 0, .int .i64 0] 24 HB fun g3 w3 K3 G3 hg hb => ?_; obtain ⟨N3,N4⟩ := ne_ hg K1; obtain ⟨N5,N6⟩ := ne_ hg K2; obtain ⟨K1, K2, HB⟩ := bk2 K1 K2 HB hb; clear hb hg; have z_ := ns3 N4 N6 N1; have z_ := cB2 K3; have z_ := cB2 K1; have z_ := cB2 K2))
     refine bodyPost_ret (results_cell_row rfl _ _ g2 24 #[.int .i64 0, .int .i64 0] (0, 0) _ rfl (by refine pf ?_; refine blk_put (cs := #[.int .i64 0, .int .i64 0]) ?_ 1 _ rfl; refine pf ?_; refine blk_put (cs := #[.int .i64 0, .int .i64 0]) ?_ 0 _ rfl; refine fa N5 ?_; refine fa N5 ?_; exact Z K2) Try.underlying24 rfl (by kernel_rfl)) rfl ?_
     exact ⟨ez, YA HB⟩
    rw [if_pos c3] at H
    have d2 := dT c3
    clear c3
    obtain ⟨i1, j9⟩ : ∃ j_ : Int, (mn a0_1 (wrap64 (a2 - 1))) = j_ := ⟨_, rfl⟩
    replace H : (some (0, i1)) = some (r1, r2) := by first | (rw [j9] at H; exact H) | (simp only [j9] at H ⊢; exact H)
    have hji35_ : (if (wrap64 (a2 - 1)) < a0_1 then (wrap64 (a2 - 1)) else a0_1) = i1 := j9
    simp only [Option.some.injEq, Prod.mk.injEq] at H
    obtain ⟨rfl, rfl⟩ := H
    go_wp2_with (first | ((with_reducible refine gate_dst (N := 7) rfl ?_); refine bxn 7 #[.int .i64 0, .int .i64 0] 24 HB fun g3 w3 K3 G3 hg hb => ?_; obtain ⟨N3,N4⟩ := ne_ hg K1; obtain ⟨N5,N6⟩ := ne_ hg K2; obtain ⟨K1, K2, HB⟩ := bk2 K1 K2 HB hb; clear hb hg; have z_ := ns3 N4 N6 N1; have z_ := cB2 K3; have z_ := cB2 K1; have z_ := cB2 K2))
    refine bodyPost_ret (results_cell_row rfl _ _ g2 24 #[.int .i64 0, .int .i64 i1] (0, 0) _ rfl (by refine pf ?_; refine blk_put (cs := #[.int .i64 0, .int .i64 0]) ?_ 1 _ rfl; refine pf ?_; refine blk_put (cs := #[.int .i64 0, .int .i64 0]) ?_ 0 _ rfl; refine fa N5 ?_; refine fa N5 ?_; refine fa N5 ?_; exact Z K2) Try.underlying24 rfl (by kernel_rfl)) rfl ?_
    exact ⟨by first | rfl | (simp [errW_none, errW_some] <;> rfl) | (simp only [← j9]; first | rfl | (simp [errW_none, errW_some] <;> rfl)) | (simp [*, errW_none, errW_some] <;> rfl), YA HB⟩
   rw [if_pos c2] at H
   have d1 := dT c2
   clear c2
   obtain ⟨i1, j9⟩ : ∃ j_ : Int, (mx a0_0 (wrap64 (1 - a2))) = j_ := ⟨_, rfl⟩
   replace H : (if a0_1 > 0 then (some (i1, mn a0_1 (wrap64 (a2 - 1)))) else (some (i1, 0))) = some (r1, r2) := by first | (rw [j9] at H; exact H) | (simp only [j9] at H ⊢; exact H)
   have hji17_ : (if a0_0 < (wrap64 (1 - a2)) then (wrap64 (1 - a2)) else a0_0) = i1 := j9
   by_cases c3 : a0_1 > 0
   rotate_left
   ·rw [if_neg c3] at H
    have d2 := dF c3
    clear c3
    simp only [Option.some.injEq, Prod.mk.injEq] at H
    obtain ⟨rfl, rfl⟩ := H
    go_wp2_with (first | ((with_reducible refine gate_dst (N := 7) rfl ?_); refine bxn 7 #[.int .i64 0, .int .i64 0] 24 HB fun g3 w3 K3 G3 hg hb => ?_; obtain ⟨N3,N4⟩ := ne_ hg K1; obtain ⟨N5,N6⟩ := ne_ hg K2; obtain ⟨K1, K2, HB⟩ := bk2 K1 K2 HB hb; clear hb hg; have z_ := ns3 N4 N6 N1; have z_ := cB2 K3; have z_ := cB2 K1; have z_ := cB2 K2))
    refine bodyPost_ret (results_cell_row rfl _ _ g2 24 #[.int .i64 i1, .int .i64 0] (0, 0) _ rfl (by refine pf ?_; refine blk_put (cs := #[.int .i64 i1, .int .i64 0]) ?_ 1 _ rfl; refine pf ?_; refine blk_put (cs := #[.int .i64 0, .int .i64 0]) ?_ 0 _ rfl; refine fa N5 ?_; refine fa N5 ?_; refine fa N5 ?_; exact Z K2) Try.underlying24 rfl (by kernel_rfl)) rfl ?_
    exact ⟨by first | rfl | (simp [errW_none, errW_some] <;> rfl) | (simp only [← j9]; first | rfl | (simp [errW_none, errW_some] <;> rfl)) | (simp [*, errW_none, errW_some] <;> rfl), YA HB⟩
   rw [if_pos c3] at H
   have d2 := dT c3
   clear c3
   obtain ⟨i2, j10⟩ : ∃ j_ : Int, (mn a0_1 (wrap64 (a2 - 1))) = j_ := ⟨_, rfl⟩
   replace H : (some (i1, i2)) = some (r1, r2) := by first | (rw [j10] at H; exact H) | (simp only [j10] at H ⊢; exact H)
   have hji19_ : (if (wrap64 (a2 - 1)) < a0_1 then (wrap64 (a2 - 1)) else a0_1) = i2 := j10
   simp only [Option.some.injEq, Prod.mk.injEq] at H
   obtain ⟨rfl, rfl⟩ := H
   go_wp2_with (first | ((with_reducible refine gate_dst (N := 7) rfl ?_); refine bxn 7 #[.int .i64 0, .int .i64 0] 24 HB fun g3 w3 K3 G3 hg hb => ?_; obtain ⟨N3,N4⟩ := ne_ hg K1; obtain ⟨N5,N6⟩ := ne_ hg K2; obtain ⟨K1, K2, HB⟩ := bk2 K1 K2 HB hb; clear hb hg; have z_ := ns3 N4 N6 N1; have z_ := cB2 K3; have z_ := cB2 K1; have z_ := cB2 K2))
   refine bodyPost_ret (results_cell_row rfl _ _ g2 24 #[.int .i64 i1, .int .i64 i2] (0, 0) _ rfl (by refine pf ?_; refine blk_put (cs := #[.int .i64 i1, .int .i64 0]) ?_ 1 _ rfl; refine pf ?_; refine blk_put (cs := #[.int .i64 0, .int .i64 0]) ?_ 0 _ rfl; refine fa N5 ?_; refine fa N5 ?_; refine fa N5 ?_; refine fa N5 ?_; exact Z K2) Try.underlying24 rfl (by kernel_rfl)) rfl ?_
   exact ⟨by first | rfl | (simp [errW_none, errW_some] <;> rfl) | (simp only [← j9, ← j10]; first | rfl | (simp [errW_none, errW_some] <;> rfl)) | (simp [*, errW_none, errW_some] <;> rfl), YA HB⟩

end Go.Proofs.Ythbkakcchgnhpaa.PFnRangeMore
