/- Written by this session's own driver (wip/dprint.py): the functions that the law FnRangeMore reaches, as Lean functions, each with its contract. -/
import Derived.Test.YthbkakcchgnhpaaPFnRangeMorex0
import Derived.Test.YthbkakcchgnhpaaPFnRangeMorex12
import Derived.Test.YthbkakcchgnhpaaPFnRangeMorex14
import Derived.Test.YthbkakcchgnhpaaPFnRangeMorex15
import Derived.Test.YthbkakcchgnhpaaPFnRangeMorex16
import Derived.Test.YthbkakcchgnhpaaPFnRangeMorex17
import Derived.Test.YthbkakcchgnhpaaPFnRangeMorex19
import Derived.Test.YthbkakcchgnhpaaPFnRangeMorex20
import Derived.Test.YthbkakcchgnhpaaSv
namespace Go.Proofs.Ythbkakcchgnhpaa.PFnRangeMore
open Go.RowKit Go.Proofs.YthbkakcchgnhpaaV.PrintWords Go.Proofs.YthbkakcchgnhpaaV.PrintLast Go.Proofs.YthbkakcchgnhpaaV.PrintMore Go.Proofs.YthbkakcchgnhpaaSv
attribute [local go_sem] max2_int min2_int max_two min_two max_three min_three max_four min_four   -- for this text's walks alone
set_option linter.unusedVariables false
set_option linter.unusedSimpArgs false

/-! ### impl_RangeDo: function 11 -/
attribute [local go_sem] Go.Proofs.YthbkakcchgnhpaaSet.isSome_setCell
mutual
def impl_RangeDo.j0 : Nat → Int → Bool → Int → Int → Int → Int → Option (Int × Int × List Int)
 | 0, _, _, _, _, _, _ => none
 | k + 1, x1, x2, x3, x4, x5, x6 => if x2 = true then ((impl_rangeNone.f).bind fun u1 => (some (u1.1, u1.2, ([] : List Int)))) else (if x1 = 1 then (impl_RangeDo.j1 k x1 x1 (x1 == 1) x3 x4 x5 x6) else (if x1 = 2 then (impl_RangeDo.j1 k x1 x1 (x1 == 2) x3 x4 x5 x6) else (impl_RangeDo.j1 k x1 x1 (x1 == 3) x3 x4 x5 x6)))
def impl_RangeDo.j1 : Nat → Int → Int → Bool → Int → Int → Int → Int → Option (Int × Int × List Int)
 | 0, _, _, _, _, _, _, _ => none
 | k + 1, x1, x2, x3, x4, x5, x6, x7 => if x3 = true then ((impl_rangeCorners.f k x1 x4 x5 x6 x7).bind fun u1 => (if u1.1 < (-2147483648) then (impl_RangeDo.j2 k u1.1 u1.2 true) else (impl_RangeDo.j2 k u1.1 u1.2 (decide (u1.2 > 2147483647))))) else (if x2 = 11 then (impl_RangeDo.j3 k x1 x2 (x2 == 11) x4 x5 x6 x7) else (if x2 = 12 then (impl_RangeDo.j3 k x1 x2 (x2 == 12) x4 x5 x6 x7) else (impl_RangeDo.j3 k x1 x2 (x2 == 13) x4 x5 x6 x7)))
def impl_RangeDo.j2 : Nat → Int → Int → Bool → Option (Int × Int × List Int)
 | 0, _, _, _ => none
 | k + 1, x1, x2, x3 => if x3 = true then ((impl_rangeFrom.f x1 x2).bind fun u1 => (some (u1.1, u1.2, (([1] : List Int))))) else ((impl_rangeFrom.f x1 x2).bind fun u2 => (some (u2.1, u2.2, ([] : List Int))))
def impl_RangeDo.j3 : Nat → Int → Int → Bool → Int → Int → Int → Int → Option (Int × Int × List Int)
 | 0, _, _, _, _, _, _, _ => none
 | k + 1, x1, x2, x3, x4, x5, x6, x7 => if x3 = true then ((impl_rangeWrap.f k x1 x4 x5 x6 x7).bind fun u1 => (some (u1.1, u1.2, ([] : List Int)))) else (if x2 = 9 then (impl_RangeDo.j4 k x1 x2 (x2 == 9) x4 x5 x6 x7) else (impl_RangeDo.j4 k x1 x2 (x2 == 10) x4 x5 x6 x7))
def impl_RangeDo.j4 : Nat → Int → Int → Bool → Int → Int → Int → Int → Option (Int × Int × List Int)
 | 0, _, _, _, _, _, _, _ => none
 | k + 1, x1, x2, x3, x4, x5, x6, x7 => if x3 = true then ((impl_rangeShift.f k x1 x4 x5 x6 x7).bind fun u1 => (some (u1.1, u1.2.1, u1.2.2))) else (if x2 = 4 then ((impl_rangeDiv.f k x4 x5 x6 x7).bind fun u2 => (some (u2.1, u2.2.1, u2.2.2))) else (if x2 = 5 then ((impl_rangeRem.f k x4 x5 x6 x7).bind fun u3 => (some (u3.1, u3.2.1, u3.2.2))) else ((impl_rangeBits.f k x1 x4 x5 x6 x7).bind fun u4 => (some (u4.1, u4.2, ([] : List Int))))))
end
def impl_RangeDo.f (k : Nat) (a0 : Int) (a1_0 : Int) (a1_1 : Int) (a2_0 : Int) (a2_1 : Int) : Option (Int × Int × List Int) := (impl_numOp.f a0).bind fun t1 => (if t1 = true then ((impl_RangeOk.f a1_0 a1_1).bind fun t2 => (if t2 = true then ((impl_RangeOk.f a2_0 a2_1).bind fun t3 => (if t3 = true then ((impl_Range_empty.f a1_0 a1_1).bind fun t4 => (if t4 = true then (impl_RangeDo.j0 k a0 true a1_0 a1_1 a2_0 a2_1) else ((impl_Range_empty.f a2_0 a2_1).bind fun t5 => (impl_RangeDo.j0 k a0 t5 a1_0 a1_1 a2_0 a2_1)))) else (impl_RangeDo.j0 k a0 true a1_0 a1_1 a2_0 a2_1))) else (impl_RangeDo.j0 k a0 true a1_0 a1_1 a2_0 a2_1))) else (impl_RangeDo.j0 k a0 true a1_0 a1_1 a2_0 a2_1))
theorem impl_RangeDo.mono_l : ∀ k, (∀ y0 y1 y2 y3 y4 y5, LeO (impl_RangeDo.j0 k y0 y1 y2 y3 y4 y5) (impl_RangeDo.j0 (k + 1) y0 y1 y2 y3 y4 y5)) ∧ (∀ y0 y1 y2 y3 y4 y5 y6, LeO (impl_RangeDo.j1 k y0 y1 y2 y3 y4 y5 y6) (impl_RangeDo.j1 (k + 1) y0 y1 y2 y3 y4 y5 y6)) ∧ (∀ y0 y1 y2, LeO (impl_RangeDo.j2 k y0 y1 y2) (impl_RangeDo.j2 (k + 1) y0 y1 y2)) ∧ (∀ y0 y1 y2 y3 y4 y5 y6, LeO (impl_RangeDo.j3 k y0 y1 y2 y3 y4 y5 y6) (impl_RangeDo.j3 (k + 1) y0 y1 y2 y3 y4 y5 y6)) ∧ (∀ y0 y1 y2 y3 y4 y5 y6, LeO (impl_RangeDo.j4 k y0 y1 y2 y3 y4 y5 y6) (impl_RangeDo.j4 (k + 1) y0 y1 y2 y3 y4 y5 y6))
 | 0 => ⟨fun _ _ _ _ _ _ r h => by simp [impl_RangeDo.j0] at h, fun _ _ _ _ _ _ _ r h => by simp [impl_RangeDo.j1] at h, fun _ _ _ r h => by simp [impl_RangeDo.j2] at h, fun _ _ _ _ _ _ _ r h => by simp [impl_RangeDo.j3] at h, fun _ _ _ _ _ _ _ r h => by simp [impl_RangeDo.j4] at h⟩
 | k + 1 => by
  obtain ⟨ih0, ih1, ih2, ih3, ih4⟩ := impl_RangeDo.mono_l k
  refine ⟨?_, ?_, ?_, ?_, ?_⟩ <;> (intros; (first | unfold impl_RangeDo.j0 | unfold impl_RangeDo.j1 | unfold impl_RangeDo.j2 | unfold impl_RangeDo.j3 | unfold impl_RangeDo.j4); repeat' first | (with_reducible first | apply ih0 | apply ih1 | apply ih2 | apply ih3 | apply ih4 | apply impl_rangeBits.mono | apply impl_rangeCorners.mono | apply impl_rangeDiv.mono | apply impl_rangeRem.mono | apply impl_rangeShift.mono | apply impl_rangeWrap.mono | apply LeO.refl | apply LeO.none | refine LeO.ite ?_ ?_ | refine LeO.bind ?_ (fun _ => ?_)) | apply ih0 | apply ih1 | apply ih2 | apply ih3 | apply ih4 | apply impl_rangeBits.mono | apply impl_rangeCorners.mono | apply impl_rangeDiv.mono | apply impl_rangeRem.mono | apply impl_rangeShift.mono | apply impl_rangeWrap.mono | apply LeO.none | refine LeO.ite ?_ ?_ | refine LeO.bind ?_ (fun _ => ?_))
theorem impl_RangeDo.mono : ∀ a0 a1 a2 a3 a4 k, LeO (impl_RangeDo.f k a0 a1 a2 a3 a4) (impl_RangeDo.f (k + 1) a0 a1 a2 a3 a4) := by
 intro a0 a1 a2 a3 a4 k
 obtain ⟨ih0, ih1, ih2, ih3, ih4⟩ := impl_RangeDo.mono_l k
 unfold impl_RangeDo.f
 repeat' first | (with_reducible first | apply ih0 | apply ih1 | apply ih2 | apply ih3 | apply ih4 | apply impl_rangeBits.mono | apply impl_rangeCorners.mono | apply impl_rangeDiv.mono | apply impl_rangeRem.mono | apply impl_rangeShift.mono | apply impl_rangeWrap.mono | apply LeO.refl | apply LeO.none | refine LeO.ite ?_ ?_ | refine LeO.bind ?_ (fun _ => ?_)) | apply ih0 | apply ih1 | apply ih2 | apply ih3 | apply ih4 | apply impl_rangeBits.mono | apply impl_rangeCorners.mono | apply impl_rangeDiv.mono | apply impl_rangeRem.mono | apply impl_rangeShift.mono | apply impl_rangeWrap.mono | apply LeO.none | refine LeO.ite ?_ ?_ | refine LeO.bind ?_ (fun _ => ?_)
set_option maxHeartbeats 8000000 in
set_option maxRecDepth 100000 in
theorem impl_RangeDo.calls (k : Nat) (a0 : Int) (a1_0 : Int) (a1_1 : Int) (a2_0 : Int) (a2_1 : Int) (r1 : Int) (r2 : Int) (r3 : List Int) (w : World) (h : impl_RangeDo.f k a0 a1_0 a1_1 a2_0 a2_1 = some (r1, r2, r3)) :
  Calls Try.prog 11 #[.int .i64 a0, .agg #[.int .i64 a1_0, .int .i64 a1_1], .agg #[.int .i64 a2_0, .int .i64 a2_1]] w fun e w' => ∃ v2_ : Value, e = .returned (.tuple #[.agg #[.int .i64 r1, .int .i64 r2], v2_]) ∧ Kd.R (Kd.int .i64) 3 w' w.heap.size (fun _ => True) v2_ r3 ∧ Below w.heap.size w w' := by
 have hu24 := Try.underlying24
 have HB := am (Below.refl w.heap.size w)
 have H : ((impl_numOp.f a0).bind fun t1 => (if t1 = true then ((impl_RangeOk.f a1_0 a1_1).bind fun t2 => (if t2 = true then ((impl_RangeOk.f a2_0 a2_1).bind fun t3 => (if t3 = true then ((impl_Range_empty.f a1_0 a1_1).bind fun t4 => (if t4 = true then (impl_RangeDo.j0 k a0 true a1_0 a1_1 a2_0 a2_1) else ((impl_Range_empty.f a2_0 a2_1).bind fun t5 => (impl_RangeDo.j0 k a0 t5 a1_0 a1_1 a2_0 a2_1)))) else (impl_RangeDo.j0 k a0 true a1_0 a1_1 a2_0 a2_1))) else (impl_RangeDo.j0 k a0 true a1_0 a1_1 a2_0 a2_1))) else (impl_RangeDo.j0 k a0 true a1_0 a1_1 a2_0 a2_1))) = some (r1, r2, r3) := h
 clear h
 have C1 := am H
 clear H
 go_enter Try.func11, Try.ntmps11
 go_upto_region 1 with (first | ((with_reducible refine gate_dst (N := 4) rfl ?_); refine bxn 4 #[.int .i64 a1_0, .int .i64 a1_1] 24 HB fun g1 w1 K1 G1 hg hb => ?_; replace HB := am (below_step (YA HB) hb); clear hb hg) | ((with_reducible refine gate_dst (N := 5) rfl ?_); refine bxn 5 #[.int .i64 a2_0, .int .i64 a2_1] 24 HB fun g2 w2 K2 G2 hg hb => ?_; obtain ⟨N1,N2⟩ := ne_ hg K1; obtain ⟨K1, HB⟩ := bk1 K1 HB hb; clear hb hg) | ((with_reducible refine gate_dst (N := 6) rfl ?_); refine bxn 6 #[.int .i64 0, .int .i64 0] 24 HB fun g3 w3 K3 G3 hg hb => ?_; obtain ⟨N3,N4⟩ := ne_ hg K1; obtain ⟨N5,N6⟩ := ne_ hg K2; obtain ⟨K1, K2, HB⟩ := bk2 K1 K2 HB hb; clear hb hg))
 (try simp only [Act.put, List.setIfInBounds_toArray, List.set_cons_zero, List.set_cons_succ])
 go_cut [30] (fun v1 wc => ∃ (kq : Nat) (x1 : Bool), v1 = .bool x1 ∧ Aside0 (impl_RangeDo.j0 kq a0 x1 a1_0 a1_1 a2_0 a2_1 = some (r1, r2, r3)) ∧ Aside0 (kq ≤ k) ∧ Bx2 wc g1 a1_0 a1_1 24 ∧ Bx2 wc g2 a2_0 a2_1 24 ∧ Bx2 wc g3 0 0 24 ∧ Aside0 (Below w.heap.size w wc))
 case first =>
  have H := C1.out
  clear C1
  obtain ⟨t1, A1, H⟩ := bd H
  try dsimp only at H
  by_cases c1 : t1 = true
  rotate_left
  ·replace c1 := Bool.eq_false_iff.mpr c1
   subst c1
   rw [if_neg ff] at H
   have H' := am H
   clear H
   go_wp2_with (first | ((with_reducible refine gate_callee (f := 45) rfl ?_); refine goesL_ (some 11) rfl rfl Try.func45 (by kernel_rfl) rfl #[.int .i64 a0] rfl mz ?_; (with_reducible refine (impl_numOp.calls _ _ _ A1.out).mono ?_); rintro e w' ⟨rfl, ⟨nd, rfl⟩⟩; refine ⟨_, rfl, ?_⟩))
   go_meet
   case rel => exact ⟨_, (true), ey, H', le0, ⟨Z K1⟩, ⟨Z K2⟩, ⟨Z K3⟩, ⟨YA HB⟩⟩
  subst c1
  rw [if_pos rfl] at H
  obtain ⟨t2, A2, H⟩ := bd H
  try dsimp only at H
  by_cases c2 : t2 = true
  rotate_left
  ·replace c2 := Bool.eq_false_iff.mpr c2
   subst c2
   rw [if_neg ff] at H
   have H' := am H
   clear H
   go_wp2_with (first | ((with_reducible refine gate_callee (f := 45) rfl ?_); refine goesL_ (some 11) rfl rfl Try.func45 (by kernel_rfl) rfl #[.int .i64 a0] rfl mz ?_; (with_reducible refine (impl_numOp.calls _ _ _ A1.out).mono ?_); rintro e w' ⟨rfl, ⟨nd, rfl⟩⟩; refine ⟨_, rfl, ?_⟩; have z_ := ns2 N1 N3; have z_ := cB2 K1) | (go_at_call 46; (with_reducible refine (impl_RangeOk.calls _ _ _ _ A2.out).mono ?_); rintro e w4 ⟨rfl, hb⟩; obtain ⟨K1, K2, K3, HB⟩ := bk3 K1 K2 K3 HB hb; (try clear hb)))
   go_meet
   case rel => exact ⟨_, (true), ey, H', le0, ⟨Z K1⟩, ⟨Z K2⟩, ⟨Z K3⟩, ⟨YA HB⟩⟩
  subst c2
  rw [if_pos rfl] at H
  obtain ⟨t3, A3, H⟩ := bd H
  try dsimp only at H
  by_cases c3 : t3 = true
  rotate_left
  ·replace c3 := Bool.eq_false_iff.mpr c3
   subst c3
   rw [if_neg ff] at H
   have H' := am H
   clear H
   go_wp2_with (first | ((with_reducible refine gate_callee (f := 45) rfl ?_); refine goesL_ (some 11) rfl rfl Try.func45 (by kernel_rfl) rfl #[.int .i64 a0] rfl mz ?_; (with_reducible refine (impl_numOp.calls _ _ _ A1.out).mono ?_); rintro e w' ⟨rfl, ⟨nd, rfl⟩⟩; refine ⟨_, rfl, ?_⟩; have z_ := ns2 N1 N3; have z_ := cB2 K1) | (go_at_call 46; (with_reducible refine (impl_RangeOk.calls _ _ _ _ A2.out).mono ?_); rintro e w4 ⟨rfl, hb⟩; obtain ⟨K1, K2, K3, HB⟩ := bk3 K1 K2 K3 HB hb; (try clear hb); have z_ := ns1 N5; have z_ := cB2 K2) | (go_at_call 46; (with_reducible refine (impl_RangeOk.calls _ _ _ _ A3.out).mono ?_); rintro e w5 ⟨rfl, hb⟩; obtain ⟨K1, K2, K3, HB⟩ := bk3 K1 K2 K3 HB hb; (try clear hb)))
   go_meet
   case rel => exact ⟨_, (true), ey, H', le0, ⟨Z K1⟩, ⟨Z K2⟩, ⟨Z K3⟩, ⟨YA HB⟩⟩
  subst c3
  rw [if_pos rfl] at H
  obtain ⟨t4, A4, H⟩ := bd H
  try dsimp only at H
  by_cases c4 : t4 = true
  ·subst c4
   rw [if_pos rfl] at H
   have H' := am H
   clear H
   go_wp2_with (first | ((with_reducible refine gate_callee (f := 45) rfl ?_); refine goesL_ (some 11) rfl rfl Try.func45 (by kernel_rfl) rfl #[.int .i64 a0] rfl mz ?_; (with_reducible refine (impl_numOp.calls _ _ _ A1.out).mono ?_); rintro e w' ⟨rfl, ⟨nd, rfl⟩⟩; refine ⟨_, rfl, ?_⟩; have z_ := ns2 N1 N3; have z_ := cB2 K1) | (go_at_call 46; (with_reducible refine (impl_RangeOk.calls _ _ _ _ A2.out).mono ?_); rintro e w4 ⟨rfl, hb⟩; obtain ⟨K1, K2, K3, HB⟩ := bk3 K1 K2 K3 HB hb; (try clear hb); have z_ := ns1 N5; have z_ := cB2 K2) | (go_at_call 46; (with_reducible refine (impl_RangeOk.calls _ _ _ _ A3.out).mono ?_); rintro e w5 ⟨rfl, hb⟩; obtain ⟨K1, K2, K3, HB⟩ := bk3 K1 K2 K3 HB hb; (try clear hb); have z_ := cB2 K1) | (go_at_call 47; (with_reducible refine (impl_Range_empty.calls _ _ _ _ A4.out).mono ?_); rintro e w6 ⟨rfl, hb⟩; obtain ⟨K1, K2, K3, HB⟩ := bk3 K1 K2 K3 HB hb; (try clear hb)))
   go_meet
   case rel => exact ⟨_, (true), ey, H', le0, ⟨Z K1⟩, ⟨Z K2⟩, ⟨Z K3⟩, ⟨YA HB⟩⟩
  replace c4 := Bool.eq_false_iff.mpr c4
  subst c4
  rw [if_neg ff] at H
  obtain ⟨t5, A5, H⟩ := bd H
  try dsimp only at H
  have H' := am H
  clear H
  go_wp2_with (first | ((with_reducible refine gate_callee (f := 45) rfl ?_); refine goesL_ (some 11) rfl rfl Try.func45 (by kernel_rfl) rfl #[.int .i64 a0] rfl mz ?_; (with_reducible refine (impl_numOp.calls _ _ _ A1.out).mono ?_); rintro e w' ⟨rfl, ⟨nd, rfl⟩⟩; refine ⟨_, rfl, ?_⟩; have z_ := ns2 N1 N3; have z_ := cB2 K1) | (go_at_call 46; (with_reducible refine (impl_RangeOk.calls _ _ _ _ A2.out).mono ?_); rintro e w4 ⟨rfl, hb⟩; obtain ⟨K1, K2, K3, HB⟩ := bk3 K1 K2 K3 HB hb; (try clear hb); have z_ := ns1 N5; have z_ := cB2 K2) | (go_at_call 46; (with_reducible refine (impl_RangeOk.calls _ _ _ _ A3.out).mono ?_); rintro e w5 ⟨rfl, hb⟩; obtain ⟨K1, K2, K3, HB⟩ := bk3 K1 K2 K3 HB hb; (try clear hb); have z_ := cB2 K1) | (go_at_call 47; (with_reducible refine (impl_Range_empty.calls _ _ _ _ A4.out).mono ?_); rintro e w6 ⟨rfl, hb⟩; obtain ⟨K1, K2, K3, HB⟩ := bk3 K1 K2 K3 HB hb; (try clear hb); have z_ := cB2 K2) | (go_at_call 47; (with_reducible refine (impl_Range_empty.calls _ _ _ _ A5.out).mono ?_); rintro e w7 ⟨rfl, hb⟩; obtain ⟨K1, K2, K3, HB⟩ := bk3 K1 K2 K3 HB hb; (try clear hb)))
  go_meet
  case rel => exact ⟨_, (t5), ey, H', le0, ⟨Z K1⟩, ⟨Z K2⟩, ⟨Z K3⟩, ⟨YA HB⟩⟩
 case rest =>
  clear C1
  obtain ⟨kq, x1, rfl, HA, J1, K1, K2, K3, HB⟩ := hcut
  cases kq with
  | zero => exact absurd HA.out (by simp [impl_RangeDo.j0])
  | succ k1 =>
   have H := HA.out
   clear HA
   simp only [impl_RangeDo.j0] at H
   by_cases c1 : x1 = true
   ·subst c1
    rw [if_pos rfl] at H
    obtain ⟨⟨t6, t7⟩, A1, H⟩ := bd H
    try dsimp only at H
    simp only [Option.some.injEq, Prod.mk.injEq] at H
    obtain ⟨rfl, rfl, rfl⟩ := H
    go_wp2_with (first | ((with_reducible refine gate_callee (f := 48) rfl ?_); refine gL 31 Try.func48 (impl_rangeNone.calls _ _ _ A1.out) fun w4 hb => ?_; obtain ⟨K1, K2, K3, HB⟩ := bk3 K1 K2 K3 HB hb; (try clear hb); have z_ := ns2 N4 N6; have z_ := cB2 K3))
    refine bodyPost_ret (results_ct rfl _ _ g3 24 #[.int .i64 t6, .int .i64 t7] (0, 0) _ rfl (by refine pf ?_; refine blk_put (cs := #[.int .i64 t6, .int .i64 0]) ?_ 1 _ rfl; refine pf ?_; refine blk_put (cs := #[.int .i64 0, .int .i64 0]) ?_ 0 _ rfl; exact Z K3) Try.underlying24 rfl (by kernel_rfl)) rfl ?_
    exact ⟨_, ez, by first | exact Kd.R_nil _ _ _ _ _ | exact Kd.N_nil _ _ _ _ _ | exact Kd.V_nil _ _ _ _ _ | exact Kd.Q_nil _ _ _ _ _ | exact Kd.S_nil _ _ _ _ _, YA HB⟩
   replace c1 := Bool.eq_false_iff.mpr c1
   subst c1
   rw [if_neg ff] at H
   have C2 := am H
   clear H
   go_upto_if 33 with (fail)
   go_cut [33] (fun v2 wc => ∃ (kq : Nat) (x2 : Bool), v2 = .bool x2 ∧ Aside0 (impl_RangeDo.j1 kq a0 a0 x2 a1_0 a1_1 a2_0 a2_1 = some (r1, r2, r3)) ∧ Aside0 (kq ≤ k1) ∧ Bx2 wc g1 a1_0 a1_1 24 ∧ Bx2 wc g2 a2_0 a2_1 24 ∧ Bx2 wc g3 0 0 24 ∧ Aside0 (Below w.heap.size w wc))
   case first =>
    have H := C2.out
    clear C2
    by_cases c2 : a0 = 1
    ·rw [if_pos c2] at H
     have d1 := eT c2
     have d2 := nF c2
     clear c2
     (first | rw [d1] | (simp only [i64_w, i32_w]; rw [d1]) | skip)
     have H' := am H
     clear H
     go_wp2
     go_meet
     case rel => exact ⟨_, ((a0 == 1)), ey, H', le1 J1, ⟨Z K1⟩, ⟨Z K2⟩, ⟨Z K3⟩, ⟨YA HB⟩⟩
    rw [if_neg c2] at H
    have d1 := eF c2
    have d2 := nT c2
    (first | rw [d1] | (simp only [i64_w, i32_w]; rw [d1]) | skip)
    by_cases c3 : a0 = 2
    rotate_left
    ·rw [if_neg c3] at H
     have d3 := eF c3
     have d4 := nT c3
     have H' := am H
     clear H
     go_wp2
     go_meet
     case rel => exact ⟨_, ((a0 == 3)), ey, H', le1 J1, ⟨Z K1⟩, ⟨Z K2⟩, ⟨Z K3⟩, ⟨YA HB⟩⟩
    rw [if_pos c3] at H
    have d3 := eT c3
    have d4 := nF c3
    clear c3
    have H' := am H
    clear H
    go_wp2
    go_meet
    case rel => exact ⟨_, ((a0 == 2)), ey, H', le1 J1, ⟨Z K1⟩, ⟨Z K2⟩, ⟨Z K3⟩, ⟨YA HB⟩⟩
   case rest =>
    clear C2
    try clear c1
    obtain ⟨kq, x2, rfl, HA, J2, K1, K2, K3, HB⟩ := hcut
    cases kq with
    | zero => exact absurd HA.out (by simp [impl_RangeDo.j1])
    | succ k2 =>
     have H := HA.out
     clear HA
     simp only [impl_RangeDo.j1] at H
     by_cases c2 : x2 = true
     ·subst c2
      rw [if_pos rfl] at H
      obtain ⟨⟨t6, t7⟩, A1, H⟩ := bd H
      try dsimp only at H
      have C3 := am H
      clear H
      have z_ := ns3 N1 N3 N5
      have z_ := cB2 K1
      have z_ := cB2 K2
      go_upto_region 8 with (first | ((with_reducible refine gate_callee (f := 49) rfl ?_); refine gL 41 Try.func49 (impl_rangeCorners.calls _ _ _ _ _ _ _ _ _ A1.out) fun w4 hb => ?_; obtain ⟨K1, K2, K3, HB⟩ := bk3 K1 K2 K3 HB hb; (try clear hb)))
      (try simp only [Act.put, List.setIfInBounds_toArray, List.set_cons_zero, List.set_cons_succ])
      go_cut [49] (fun v3 wc => ∃ (kq : Nat) (x3 : Bool), v3 = .bool x3 ∧ Aside0 (impl_RangeDo.j2 kq t6 t7 x3 = some (r1, r2, r3)) ∧ Aside0 (kq ≤ k2) ∧ Bx2 wc g1 a1_0 a1_1 24 ∧ Bx2 wc g2 a2_0 a2_1 24 ∧ Bx2 wc g3 0 0 24 ∧ Aside0 (Below w.heap.size w wc))
      case first =>
       have H := C3.out
       clear C3
       by_cases c3 : t6 < (-2147483648)
       ·rw [if_pos c3] at H
        have d1 := dT c3
        clear c3
        (first | rw [d1] | (simp only [i64_w, i32_w]; rw [d1]) | skip)
        have H' := am H
        clear H
        go_wp2
        go_meet
        case rel => exact ⟨_, (true), ey, H', ⟨by have := J1.out; have := J2.out; first | omega | exact Nat.le_refl _⟩, ⟨Z K1⟩, ⟨Z K2⟩, ⟨Z K3⟩, ⟨YA HB⟩⟩
       rw [if_neg c3] at H
       have d1 := dF c3
       clear c3
       (first | rw [d1] | (simp only [i64_w, i32_w]; rw [d1]) | skip)
       have H' := am H
       clear H
       go_wp2
       go_meet
       case rel => exact ⟨_, (decide (t7 > 2147483647)), ey, H', ⟨by have := J1.out; have := J2.out; first | omega | exact Nat.le_refl _⟩, ⟨Z K1⟩, ⟨Z K2⟩, ⟨Z K3⟩, ⟨YA HB⟩⟩
      case rest =>
       clear C3
       (try clear c2)
       obtain ⟨kq, x3, rfl, HA, J3, K1, K2, K3, HB⟩ := hcut
       cases kq with
       | zero => exact absurd HA.out (by simp [impl_RangeDo.j2])
       | succ k3 =>
        have H := HA.out
        clear HA
        simp only [impl_RangeDo.j2] at H
        by_cases c3 : x3 = true
        rotate_left
        ·replace c3 := Bool.eq_false_iff.mpr c3
         subst c3
         rw [if_neg ff] at H
         obtain ⟨⟨t8, t9⟩, A2, H⟩ := bd H
         try dsimp only at H
         simp only [Option.some.injEq, Prod.mk.injEq] at H
         obtain ⟨rfl, rfl, rfl⟩ := H
         go_wp2_with (first | ((with_reducible refine gate_callee (f := 50) rfl ?_); refine gL 56 Try.func50 (impl_rangeFrom.calls _ _ _ _ _ A2.out) fun w5 hb => ?_; obtain ⟨K1, K2, K3, HB⟩ := bk3 K1 K2 K3 HB hb; (try clear hb); have z_ := ns2 N4 N6; have z_ := cB2 K3))
         refine bodyPost_ret (results_ct rfl _ _ g3 24 #[.int .i64 t8, .int .i64 t9] (0, 0) _ rfl (by refine pf ?_; refine blk_put (cs := #[.int .i64 t8, .int .i64 0]) ?_ 1 _ rfl; refine pf ?_; refine blk_put (cs := #[.int .i64 0, .int .i64 0]) ?_ 0 _ rfl; exact Z K3) Try.underlying24 rfl (by kernel_rfl)) rfl ?_
         exact ⟨_, ez, by first | exact Kd.R_nil _ _ _ _ _ | exact Kd.N_nil _ _ _ _ _ | exact Kd.V_nil _ _ _ _ _ | exact Kd.Q_nil _ _ _ _ _ | exact Kd.S_nil _ _ _ _ _, YA HB⟩
        subst c3
        rw [if_pos rfl] at H
        obtain ⟨⟨t8, t9⟩, A2, H⟩ := bd H
        try dsimp only at H
        obtain ⟨y1, y2⟩ : ∃ y_ : List Int, y_ = (([1] : List Int)) := ⟨_, rfl⟩
        replace H : (some (t8, t9, y1)) = some (r1, r2, r3) := by first | (rw [y2]; with_reducible exact H) | (have H2_ := (Option.bind_some _ _).symm.trans H; rw [y2]; with_reducible exact H2_) | (have H2_ := (Option.bind_some _ _).symm.trans H; with_reducible exact H2_) | with_reducible exact H | (rw [y2]; exact H) | exact H
        have Y25 := am y2
        clear y2
        simp only [Option.some.injEq, Prod.mk.injEq] at H
        obtain ⟨rfl, rfl, rfl⟩ := H
        go_wp2_with (first | ((with_reducible refine gate_callee (f := 50) rfl ?_); refine gL 52 Try.func50 (impl_rangeFrom.calls _ _ _ _ _ A2.out) fun w5 hb => ?_; obtain ⟨K1, K2, K3, HB⟩ := bk3 K1 K2 K3 HB hb; (try clear hb)) | ((with_reducible refine gate_dst (N := 53) rfl ?_); refine Kd.R_lit (Kd.int .i64) _ 3 ?hg (N := 53) ?hd (xs := ([1] : List Int)) (inner := [.int .i64 1]) (ok := fun _ => True) (okp := fun _ => True) ?hr ?hp (fun _ hk => hk) trivial (Below.refl _ _) (Nat.le_refl _) (by simp) ?_; (case hd => rfl); (case hg => rfl); (case hr => first | (go_simp; done) | (go_simp; rfl)); (case hp => exact (Reps.one (show Kd.M (Kd.int .i64) _ _ _ 1 [.int .i64 1] from rfl) (Reps.none _ _))); intro v4 w6 o1 hb hg_ hnew_; clear hg_ hnew_; (first | rw [← Y25.out] at o1 | (simp only [Int.reduceToNat] at o1; rw [← Y25.out] at o1)); have O1 := am (Kd.R_lower o1 (below_size (YA HB))); obtain ⟨K1, K2, K3, HB⟩ := bk3 K1 K2 K3 HB hb; clear hb o1; have z_ := ns2 N4 N6; have z_ := cB2 K3))
        refine bodyPost_ret (results_ct rfl _ _ g3 24 #[.int .i64 t8, .int .i64 t9] (0, 0) _ rfl (by refine pf ?_; refine blk_put (cs := #[.int .i64 t8, .int .i64 0]) ?_ 1 _ rfl; refine pf ?_; refine blk_put (cs := #[.int .i64 0, .int .i64 0]) ?_ 0 _ rfl; exact Z K3) Try.underlying24 rfl (by kernel_rfl)) rfl ?_
        exact ⟨_, ez, by (with_reducible repeat (first | apply Kd.R_alloc | apply Kd.R_drewN | apply Kd.R_drew)); exact Kd.R_mono (Kd.R_far (p := ⟨g3, 1, none⟩) (Kd.R_far (p := ⟨g3, 0, none⟩) (Kd.R_types O1.out K3.out (by decide)) (fun _ hk => hk.2) (.int .i64 t8)) (fun _ hk => hk.2) (.int .i64 t9)) (fun _ hk => trivial), YA HB⟩
     replace c2 := Bool.eq_false_iff.mpr c2
     subst c2
     rw [if_neg ff] at H
     have C3 := am H
     clear H
     go_upto_if 57 with (fail)
     go_cut [57] (fun v3 wc => ∃ (kq : Nat) (x3 : Bool), v3 = .bool x3 ∧ Aside0 (impl_RangeDo.j3 kq a0 a0 x3 a1_0 a1_1 a2_0 a2_1 = some (r1, r2, r3)) ∧ Aside0 (kq ≤ k2) ∧ Bx2 wc g1 a1_0 a1_1 24 ∧ Bx2 wc g2 a2_0 a2_1 24 ∧ Bx2 wc g3 0 0 24 ∧ Aside0 (Below w.heap.size w wc))
     case first =>
      have H := C3.out
      clear C3
      by_cases c3 : a0 = 11
      ·rw [if_pos c3] at H
       have d1 := eT c3
       have d2 := nF c3
       clear c3
       (first | rw [d1] | (simp only [i64_w, i32_w]; rw [d1]) | skip)
       have H' := am H
       clear H
       go_wp2
       go_meet
       case rel => exact ⟨_, ((a0 == 11)), ey, H', ⟨by have := J1.out; have := J2.out; first | omega | exact Nat.le_refl _⟩, ⟨Z K1⟩, ⟨Z K2⟩, ⟨Z K3⟩, ⟨YA HB⟩⟩
      rw [if_neg c3] at H
      have d1 := eF c3
      have d2 := nT c3
      (first | rw [d1] | (simp only [i64_w, i32_w]; rw [d1]) | skip)
      by_cases c4 : a0 = 12
      rotate_left
      ·rw [if_neg c4] at H
       have d3 := eF c4
       have d4 := nT c4
       have H' := am H
       clear H
       go_wp2
       go_meet
       case rel => exact ⟨_, ((a0 == 13)), ey, H', ⟨by have := J1.out; have := J2.out; first | omega | exact Nat.le_refl _⟩, ⟨Z K1⟩, ⟨Z K2⟩, ⟨Z K3⟩, ⟨YA HB⟩⟩
      rw [if_pos c4] at H
      have d3 := eT c4
      have d4 := nF c4
      clear c4
      have H' := am H
      clear H
      go_wp2
      go_meet
      case rel => exact ⟨_, ((a0 == 12)), ey, H', ⟨by have := J1.out; have := J2.out; first | omega | exact Nat.le_refl _⟩, ⟨Z K1⟩, ⟨Z K2⟩, ⟨Z K3⟩, ⟨YA HB⟩⟩
     case rest =>
      clear C3
      try clear c2
      obtain ⟨kq, x3, rfl, HA, J3, K1, K2, K3, HB⟩ := hcut
      cases kq with
      | zero => exact absurd HA.out (by simp [impl_RangeDo.j3])
      | succ k3 =>
       have H := HA.out
       clear HA
       simp only [impl_RangeDo.j3] at H
       by_cases c3 : x3 = true
       ·subst c3
        rw [if_pos rfl] at H
        obtain ⟨⟨t6, t7⟩, A1, H⟩ := bd H
        try dsimp only at H
        simp only [Option.some.injEq, Prod.mk.injEq] at H
        obtain ⟨rfl, rfl, rfl⟩ := H
        have z_ := ns3 N1 N3 N5
        have z_ := cB2 K1
        have z_ := cB2 K2
        go_wp2_with (first | ((with_reducible refine gate_callee (f := 51) rfl ?_); refine gL 64 Try.func51 (impl_rangeWrap.calls _ _ _ _ _ _ _ _ _ A1.out) fun w4 hb => ?_; obtain ⟨K1, K2, K3, HB⟩ := bk3 K1 K2 K3 HB hb; (try clear hb); have z_ := cB2 K3))
        refine bodyPost_ret (results_ct rfl _ _ g3 24 #[.int .i64 t6, .int .i64 t7] (0, 0) _ rfl (by refine pf ?_; refine blk_put (cs := #[.int .i64 t6, .int .i64 0]) ?_ 1 _ rfl; refine pf ?_; refine blk_put (cs := #[.int .i64 0, .int .i64 0]) ?_ 0 _ rfl; exact Z K3) Try.underlying24 rfl (by kernel_rfl)) rfl ?_
        exact ⟨_, ez, by first | exact Kd.R_nil _ _ _ _ _ | exact Kd.N_nil _ _ _ _ _ | exact Kd.V_nil _ _ _ _ _ | exact Kd.Q_nil _ _ _ _ _ | exact Kd.S_nil _ _ _ _ _, YA HB⟩
       replace c3 := Bool.eq_false_iff.mpr c3
       subst c3
       rw [if_neg ff] at H
       have C4 := am H
       clear H
       go_upto_if 65 with (fail)
       go_cut [65] (fun v4 wc => ∃ (kq : Nat) (x4 : Bool), v4 = .bool x4 ∧ Aside0 (impl_RangeDo.j4 kq a0 a0 x4 a1_0 a1_1 a2_0 a2_1 = some (r1, r2, r3)) ∧ Aside0 (kq ≤ k3) ∧ Bx2 wc g1 a1_0 a1_1 24 ∧ Bx2 wc g2 a2_0 a2_1 24 ∧ Bx2 wc g3 0 0 24 ∧ Aside0 (Below w.heap.size w wc))
       case first =>
        have H := C4.out
        clear C4
        by_cases c4 : a0 = 9
        rotate_left
        ·rw [if_neg c4] at H
         have d1 := eF c4
         have d2 := nT c4
         (first | rw [d1] | (simp only [i64_w, i32_w]; rw [d1]) | skip)
         have H' := am H
         clear H
         go_wp2
         go_meet
         case rel => exact ⟨_, ((a0 == 10)), ey, H', ⟨by have := J1.out; have := J2.out; have := J3.out; first | omega | exact Nat.le_refl _⟩, ⟨Z K1⟩, ⟨Z K2⟩, ⟨Z K3⟩, ⟨YA HB⟩⟩
        rw [if_pos c4] at H
        have d1 := eT c4
        have d2 := nF c4
        clear c4
        (first | rw [d1] | (simp only [i64_w, i32_w]; rw [d1]) | skip)
        have H' := am H
        clear H
        go_wp2
        go_meet
        case rel => exact ⟨_, ((a0 == 9)), ey, H', ⟨by have := J1.out; have := J2.out; have := J3.out; first | omega | exact Nat.le_refl _⟩, ⟨Z K1⟩, ⟨Z K2⟩, ⟨Z K3⟩, ⟨YA HB⟩⟩
       case rest =>
        clear C4
        try clear c3
        obtain ⟨kq, x4, rfl, HA, J4, K1, K2, K3, HB⟩ := hcut
        cases kq with
        | zero => exact absurd HA.out (by simp [impl_RangeDo.j4])
        | succ k4 =>
         have H := HA.out
         clear HA
         simp only [impl_RangeDo.j4] at H
         by_cases c4 : x4 = true
         ·subst c4
          rw [if_pos rfl] at H
          obtain ⟨⟨t6, t7, t8⟩, A1, H⟩ := bd H
          try dsimp only at H
          simp only [Option.some.injEq, Prod.mk.injEq] at H
          obtain ⟨rfl, rfl, rfl⟩ := H
          have z_ := ns3 N1 N3 N5
          have z_ := cB2 K1
          have z_ := cB2 K2
          go_wp2_with (first | ((with_reducible refine gate_callee (f := 52) rfl ?_); refine goesL_ (some 71) rfl rfl Try.func52 (by kernel_rfl) rfl #[.int .i64 a0, .agg #[.int .i64 a1_0, .int .i64 a1_1], .agg #[.int .i64 a2_0, .int .i64 a2_1]] rfl mz ?_; (with_reducible refine (impl_rangeShift.calls _ _ _ _ _ _ _ _ _ _ A1.out).mono ?_); rintro e w4 ⟨v5, rfl, o1, hb⟩; refine ⟨_, rfl, ?_⟩; have O1 := am (Kd.R_lower o1 (below_size (YA HB))); obtain ⟨K1, K2, K3, HB⟩ := bk3 K1 K2 K3 HB hb; (try clear hb); (try clear o1); have z_ := cB2 K3))
          refine bodyPost_ret (results_ct rfl _ _ g3 24 #[.int .i64 t6, .int .i64 t7] (0, 0) _ rfl (by refine pf ?_; refine blk_put (cs := #[.int .i64 t6, .int .i64 0]) ?_ 1 _ rfl; refine pf ?_; refine blk_put (cs := #[.int .i64 0, .int .i64 0]) ?_ 0 _ rfl; exact Z K3) Try.underlying24 rfl (by kernel_rfl)) rfl ?_
          exact ⟨_, ez, by (with_reducible repeat (first | apply Kd.R_alloc | apply Kd.R_drewN | apply Kd.R_drew)); exact Kd.R_mono (Kd.R_far (p := ⟨g3, 1, none⟩) (Kd.R_far (p := ⟨g3, 0, none⟩) (Kd.R_types O1.out K3.out (by decide)) (fun _ hk => hk.2) (.int .i64 t6)) (fun _ hk => hk.2) (.int .i64 t7)) (fun _ hk => trivial), YA HB⟩
         replace c4 := Bool.eq_false_iff.mpr c4
         subst c4
         rw [if_neg ff] at H
         by_cases c5 : a0 = 4
         ·rw [if_pos c5] at H
          have d1 := eT c5
          have d2 := nF c5
          clear c5
          obtain ⟨⟨t6, t7, t8⟩, A1, H⟩ := bd H
          try dsimp only at H
          simp only [Option.some.injEq, Prod.mk.injEq] at H
          obtain ⟨rfl, rfl, rfl⟩ := H
          have z_ := ns3 N1 N3 N5
          have z_ := cB2 K1
          have z_ := cB2 K2
          go_wp2_with (first | ((with_reducible refine gate_callee (f := 53) rfl ?_); refine goesL_ (some 78) rfl rfl Try.func53 (by kernel_rfl) rfl #[.agg #[.int .i64 a1_0, .int .i64 a1_1], .agg #[.int .i64 a2_0, .int .i64 a2_1]] rfl mz ?_; (with_reducible refine (impl_rangeDiv.calls _ _ _ _ _ _ _ _ _ A1.out).mono ?_); rintro e w4 ⟨v5, rfl, o1, hb⟩; refine ⟨_, rfl, ?_⟩; have O1 := am (Kd.R_lower o1 (below_size (YA HB))); obtain ⟨K1, K2, K3, HB⟩ := bk3 K1 K2 K3 HB hb; (try clear hb); (try clear o1); have z_ := cB2 K3))
          refine bodyPost_ret (results_ct rfl _ _ g3 24 #[.int .i64 t6, .int .i64 t7] (0, 0) _ rfl (by refine pf ?_; refine blk_put (cs := #[.int .i64 t6, .int .i64 0]) ?_ 1 _ rfl; refine pf ?_; refine blk_put (cs := #[.int .i64 0, .int .i64 0]) ?_ 0 _ rfl; exact Z K3) Try.underlying24 rfl (by kernel_rfl)) rfl ?_
          exact ⟨_, ez, by (with_reducible repeat (first | apply Kd.R_alloc | apply Kd.R_drewN | apply Kd.R_drew)); exact Kd.R_mono (Kd.R_far (p := ⟨g3, 1, none⟩) (Kd.R_far (p := ⟨g3, 0, none⟩) (Kd.R_types O1.out K3.out (by decide)) (fun _ hk => hk.2) (.int .i64 t6)) (fun _ hk => hk.2) (.int .i64 t7)) (fun _ hk => trivial), YA HB⟩
         rw [if_neg c5] at H
         have d1 := eF c5
         have d2 := nT c5
         by_cases c6 : a0 = 5
         rotate_left
         ·rw [if_neg c6] at H
          have d3 := eF c6
          have d4 := nT c6
          obtain ⟨⟨t6, t7⟩, A1, H⟩ := bd H
          try dsimp only at H
          simp only [Option.some.injEq, Prod.mk.injEq] at H
          obtain ⟨rfl, rfl, rfl⟩ := H
          have z_ := ns3 N1 N3 N5
          have z_ := cB2 K1
          have z_ := cB2 K2
          go_wp2_with (first | ((with_reducible refine gate_callee (f := 55) rfl ?_); refine gL 91 Try.func55 (impl_rangeBits.calls _ _ _ _ _ _ _ _ _ A1.out) fun w4 hb => ?_; obtain ⟨K1, K2, K3, HB⟩ := bk3 K1 K2 K3 HB hb; (try clear hb); have z_ := cB2 K3))
          refine bodyPost_ret (results_ct rfl _ _ g3 24 #[.int .i64 t6, .int .i64 t7] (0, 0) _ rfl (by refine pf ?_; refine blk_put (cs := #[.int .i64 t6, .int .i64 0]) ?_ 1 _ rfl; refine pf ?_; refine blk_put (cs := #[.int .i64 0, .int .i64 0]) ?_ 0 _ rfl; exact Z K3) Try.underlying24 rfl (by kernel_rfl)) rfl ?_
          exact ⟨_, ez, by first | exact Kd.R_nil _ _ _ _ _ | exact Kd.N_nil _ _ _ _ _ | exact Kd.V_nil _ _ _ _ _ | exact Kd.Q_nil _ _ _ _ _ | exact Kd.S_nil _ _ _ _ _, YA HB⟩
         rw [if_pos c6] at H
         have d3 := eT c6
         have d4 := nF c6
         clear c6
         obtain ⟨⟨t6, t7, t8⟩, A1, H⟩ := bd H
         try dsimp only at H
         simp only [Option.some.injEq, Prod.mk.injEq] at H
         obtain ⟨rfl, rfl, rfl⟩ := H
         have z_ := ns3 N1 N3 N5
         have z_ := cB2 K1
         have z_ := cB2 K2
         go_wp2_with (first | ((with_reducible refine gate_callee (f := 54) rfl ?_); refine goesL_ (some 85) rfl rfl Try.func54 (by kernel_rfl) rfl #[.agg #[.int .i64 a1_0, .int .i64 a1_1], .agg #[.int .i64 a2_0, .int .i64 a2_1]] rfl mz ?_; (with_reducible refine (impl_rangeRem.calls _ _ _ _ _ _ _ _ _ A1.out).mono ?_); rintro e w4 ⟨v5, rfl, o1, hb⟩; refine ⟨_, rfl, ?_⟩; have O1 := am (Kd.R_lower o1 (below_size (YA HB))); obtain ⟨K1, K2, K3, HB⟩ := bk3 K1 K2 K3 HB hb; (try clear hb); (try clear o1); have z_ := cB2 K3))
         refine bodyPost_ret (results_ct rfl _ _ g3 24 #[.int .i64 t6, .int .i64 t7] (0, 0) _ rfl (by refine pf ?_; refine blk_put (cs := #[.int .i64 t6, .int .i64 0]) ?_ 1 _ rfl; refine pf ?_; refine blk_put (cs := #[.int .i64 0, .int .i64 0]) ?_ 0 _ rfl; exact Z K3) Try.underlying24 rfl (by kernel_rfl)) rfl ?_
         exact ⟨_, ez, by (with_reducible repeat (first | apply Kd.R_alloc | apply Kd.R_drewN | apply Kd.R_drew)); exact Kd.R_mono (Kd.R_far (p := ⟨g3, 1, none⟩) (Kd.R_far (p := ⟨g3, 0, none⟩) (Kd.R_types O1.out K3.out (by decide)) (fun _ hk => hk.2) (.int .i64 t6)) (fun _ hk => hk.2) (.int .i64 t7)) (fun _ hk => trivial), YA HB⟩

end Go.Proofs.Ythbkakcchgnhpaa.PFnRangeMore
