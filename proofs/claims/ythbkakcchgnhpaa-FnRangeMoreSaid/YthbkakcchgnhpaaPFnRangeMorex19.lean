/- Written by this session's own driver (wip/dprint.py): the functions that the law FnRangeMore reaches, as Lean functions, each with its contract. -/
import Derived.Test.YthbkakcchgnhpaaPFnRangeMorex0
import Derived.Test.YthbkakcchgnhpaaPFnRangeMorex12
import Derived.Test.YthbkakcchgnhpaaPFnRangeMorex16
import Derived.Test.YthbkakcchgnhpaaPFnRangeMorex18
import Derived.Test.YthbkakcchgnhpaaSv
namespace Go.Proofs.Ythbkakcchgnhpaa.PFnRangeMore
open Go.RowKit Go.Proofs.YthbkakcchgnhpaaV.PrintWords Go.Proofs.YthbkakcchgnhpaaV.PrintLast Go.Proofs.YthbkakcchgnhpaaV.PrintMore Go.Proofs.YthbkakcchgnhpaaSv
attribute [local go_sem] max2_int min2_int max_two min_two max_three min_three max_four min_four   -- for this text's walks alone
set_option linter.unusedVariables false
set_option linter.unusedSimpArgs false

/-! ### impl_rangeRem: function 54 -/
attribute [local go_sem] Go.Proofs.YthbkakcchgnhpaaSet.isSome_setCell
mutual
def impl_rangeRem.j0 : Nat → Bool → Int → Int → Int → Int → Option (Int × Int × List Int)
 | 0, _, _, _, _, _ => none
 | k + 1, x1, x2, x3, x4, x5 => if x1 = true then (if x4 = 0 then (none) else (some (Int.tmod x2 x4, Int.tmod x2 x4, ([] : List Int)))) else ((impl_rangeSides.f k x4 x5).bind fun u1 => ((impl_rangeNone.f).bind fun u2 => ((impl_Range_empty.f u1.1 u1.2.1).bind fun t1 => (if t1 = true then (impl_rangeRem.j1 k x2 x3 x4 x5 u1.1 u1.2.1 u1.2.2.1 u1.2.2.2 u2.1 u2.2) else ((impl_rangeRemBy.f k x2 x3 (wrap64 (-u1.2.1)) (wrap64 (-u1.1))).bind fun u3 => ((impl_RangeJoin.f k u2.1 u2.2 u3.1 u3.2).bind fun u4 => (impl_rangeRem.j1 k x2 x3 x4 x5 u1.1 u1.2.1 u1.2.2.1 u1.2.2.2 u4.1 u4.2)))))))
def impl_rangeRem.j1 : Nat → Int → Int → Int → Int → Int → Int → Int → Int → Int → Int → Option (Int × Int × List Int)
 | 0, _, _, _, _, _, _, _, _, _, _ => none
 | k + 1, x1, x2, x3, x4, x5, x6, x7, x8, x9, x10 => (impl_Range_empty.f x7 x8).bind fun t1 => (if t1 = true then ((impl_RangeHas.f x3 x4 0).bind fun t2 => (if t2 = true then (some (x9, x10, (([2] : List Int)))) else (some (x9, x10, ([] : List Int))))) else ((impl_rangeRemBy.f k x1 x2 x7 x8).bind fun u1 => ((impl_RangeJoin.f k x9 x10 u1.1 u1.2).bind fun u2 => ((impl_RangeHas.f x3 x4 0).bind fun t3 => (if t3 = true then (some (u2.1, u2.2, (([2] : List Int)))) else (some (u2.1, u2.2, ([] : List Int))))))))
end
def impl_rangeRem.f (k : Nat) (a0_0 : Int) (a0_1 : Int) (a1_0 : Int) (a1_1 : Int) : Option (Int × Int × List Int) := (impl_Range_single.f a0_0 a0_1).bind fun t1 => (if t1 = true then ((impl_Range_single.f a1_0 a1_1).bind fun t2 => (if t2 = true then (impl_rangeRem.j0 k (a1_0 != 0) a0_0 a0_1 a1_0 a1_1) else (impl_rangeRem.j0 k false a0_0 a0_1 a1_0 a1_1))) else (impl_rangeRem.j0 k false a0_0 a0_1 a1_0 a1_1))
theorem impl_rangeRem.mono_l : ∀ k, (∀ y0 y1 y2 y3 y4, LeO (impl_rangeRem.j0 k y0 y1 y2 y3 y4) (impl_rangeRem.j0 (k + 1) y0 y1 y2 y3 y4)) ∧ (∀ y0 y1 y2 y3 y4 y5 y6 y7 y8 y9, LeO (impl_rangeRem.j1 k y0 y1 y2 y3 y4 y5 y6 y7 y8 y9) (impl_rangeRem.j1 (k + 1) y0 y1 y2 y3 y4 y5 y6 y7 y8 y9))
 | 0 => ⟨fun _ _ _ _ _ r h => by simp [impl_rangeRem.j0] at h, fun _ _ _ _ _ _ _ _ _ _ r h => by simp [impl_rangeRem.j1] at h⟩
 | k + 1 => by
  obtain ⟨ih0, ih1⟩ := impl_rangeRem.mono_l k
  refine ⟨?_, ?_⟩ <;> (intros; (first | unfold impl_rangeRem.j0 | unfold impl_rangeRem.j1); repeat' first | (with_reducible first | apply ih0 | apply ih1 | apply impl_RangeJoin.mono | apply impl_rangeRemBy.mono | apply impl_rangeSides.mono | apply LeO.refl | apply LeO.none | refine LeO.ite ?_ ?_ | refine LeO.bind ?_ (fun _ => ?_)) | apply ih0 | apply ih1 | apply impl_RangeJoin.mono | apply impl_rangeRemBy.mono | apply impl_rangeSides.mono | apply LeO.none | refine LeO.ite ?_ ?_ | refine LeO.bind ?_ (fun _ => ?_))
theorem impl_rangeRem.mono : ∀ a0 a1 a2 a3 k, LeO (impl_rangeRem.f k a0 a1 a2 a3) (impl_rangeRem.f (k + 1) a0 a1 a2 a3) := by
 intro a0 a1 a2 a3 k
 obtain ⟨ih0, ih1⟩ := impl_rangeRem.mono_l k
 unfold impl_rangeRem.f
 repeat' first | (with_reducible first | apply ih0 | apply ih1 | apply impl_RangeJoin.mono | apply impl_rangeRemBy.mono | apply impl_rangeSides.mono | apply LeO.refl | apply LeO.none | refine LeO.ite ?_ ?_ | refine LeO.bind ?_ (fun _ => ?_)) | apply ih0 | apply ih1 | apply impl_RangeJoin.mono | apply impl_rangeRemBy.mono | apply impl_rangeSides.mono | apply LeO.none | refine LeO.ite ?_ ?_ | refine LeO.bind ?_ (fun _ => ?_)
def impl_rangeRem.T8 : Bool × List (List Nat × List Nat) := (true, [([], []), ([], []), ([], []), ([2], [2]), ([3], [3]), ([], []), ([5], [5]), ([6], [6]), ([1, 4, 7], [1, 4, 7]), ([0, 8, 8], [0, 8]), ([9, 9, 0, 1, 2, 3, 4, 5, 6, 7, 8, 9], [9])])
def impl_rangeRem.B8 : List Nat := [0, 0, 0, 4, 12, 0, 32, 96, 254, 511, 1023]
theorem impl_rangeRem.tab8 : rtab .any (opsOf Try.f54 8) = impl_rangeRem.T8 := by kernel_rfl
theorem impl_rangeRem.bits8 : waitsOk impl_rangeRem.T8.2 impl_rangeRem.B8 = true := by kernel_rfl
def impl_rangeRem.T11 : Bool × List (List Nat × List Nat) := (true, [([], []), ([], []), ([], []), ([2], [2]), ([], []), ([4], [4]), ([1, 3, 5], [1, 3, 5]), ([0, 6, 6], [0, 6]), ([7, 7, 0, 1, 2, 3, 4, 5, 6, 7], [7])])
def impl_rangeRem.B11 : List Nat := [0, 0, 0, 4, 0, 16, 62, 127, 255]
theorem impl_rangeRem.tab11 : rtab .any (opsOf Try.f54 11) = impl_rangeRem.T11 := by kernel_rfl
theorem impl_rangeRem.bits11 : waitsOk impl_rangeRem.T11.2 impl_rangeRem.B11 = true := by kernel_rfl
set_option maxHeartbeats 8000000 in
set_option maxRecDepth 100000 in
theorem impl_rangeRem.calls (k : Nat) (a0_0 : Int) (a0_1 : Int) (a1_0 : Int) (a1_1 : Int) (r1 : Int) (r2 : Int) (r3 : List Int) (w : World) (h : impl_rangeRem.f k a0_0 a0_1 a1_0 a1_1 = some (r1, r2, r3)) :
  Calls Try.prog 54 #[.agg #[.int .i64 a0_0, .int .i64 a0_1], .agg #[.int .i64 a1_0, .int .i64 a1_1]] w fun e w' => ∃ v2_ : Value, e = .returned (.tuple #[.agg #[.int .i64 r1, .int .i64 r2], v2_]) ∧ Kd.R (Kd.int .i64) 3 w' w.heap.size (fun _ => True) v2_ r3 ∧ Below w.heap.size w w' := by
 have hu24 := Try.underlying24
 have hu96 := Try.underlying96
 have HB := am (Below.refl w.heap.size w)
 have H : ((impl_Range_single.f a0_0 a0_1).bind fun t1 => (if t1 = true then ((impl_Range_single.f a1_0 a1_1).bind fun t2 => (if t2 = true then (impl_rangeRem.j0 k (a1_0 != 0) a0_0 a0_1 a1_0 a1_1) else (impl_rangeRem.j0 k false a0_0 a0_1 a1_0 a1_1))) else (impl_rangeRem.j0 k false a0_0 a0_1 a1_0 a1_1))) = some (r1, r2, r3) := h
 clear h
 have C1 := am H
 clear H
 go_enter Try.func54, Try.ntmps54
 go_upto_region 1 with (first | ((with_reducible refine gate_dst (N := 2) rfl ?_); refine bxn 2 #[.int .i64 a0_0, .int .i64 a0_1] 24 HB fun g1 w2 K1 G1 hg hb => ?_; replace HB := am (below_step (YA HB) hb); clear hb hg) | ((with_reducible refine gate_dst (N := 3) rfl ?_); refine bxn 3 #[.int .i64 a1_0, .int .i64 a1_1] 24 HB fun g2 w3 K2 G2 hg hb => ?_; obtain ⟨N1,N2⟩ := ne_ hg K1; obtain ⟨K1, HB⟩ := bk1 K1 HB hb; clear hb hg) | ((with_reducible refine gate_dst (N := 4) rfl ?_); refine bxn 4 #[.int .i64 0, .int .i64 0] 24 HB fun g3 w4 K3 G3 hg hb => ?_; obtain ⟨N3,N4⟩ := ne_ hg K1; obtain ⟨N5,N6⟩ := ne_ hg K2; obtain ⟨K1, K2, HB⟩ := bk2 K1 K2 HB hb; clear hb hg))
 (try simp only [Act.put, List.setIfInBounds_toArray, List.set_cons_zero, List.set_cons_succ])
 go_cut [21] (fun v1 wc => ∃ (kq : Nat) (x1 : Bool), v1 = .bool x1 ∧ Aside0 (impl_rangeRem.j0 kq x1 a0_0 a0_1 a1_0 a1_1 = some (r1, r2, r3)) ∧ Aside0 (kq ≤ k) ∧ Bx2 wc g1 a0_0 a0_1 24 ∧ Bx2 wc g2 a1_0 a1_1 24 ∧ Bx2 wc g3 0 0 24 ∧ Aside0 (Below w.heap.size w wc))
 case first =>
  have H := C1.out
  clear C1
  obtain ⟨t1, A1, H⟩ := bd H
  try dsimp only at H
  by_cases c1 : t1 = true
  rotate_left
  ·replace c1 := Bool.eq_false_iff.mpr c1
   subst c1
   rw [if_neg ff] at H
   have H' := am H
   clear H
   have z_ := ns2 N1 N3
   have z_ := cB2 K1
   go_wp2_with (first | ((with_reducible refine gate_callee (f := 96) rfl ?_); refine gL 12 Try.func96 (impl_Range_single.calls _ _ _ _ A1.out) fun w5 hb => ?_; obtain ⟨K1, K2, K3, HB⟩ := bk3 K1 K2 K3 HB hb; (try clear hb)))
   go_meet
   case rel => exact ⟨_, (false), ey, H', le0, ⟨Z K1⟩, ⟨Z K2⟩, ⟨Z K3⟩, ⟨YA HB⟩⟩
  subst c1
  rw [if_pos rfl] at H
  obtain ⟨t2, A2, H⟩ := bd H
  try dsimp only at H
  by_cases c2 : t2 = true
  rotate_left
  ·replace c2 := Bool.eq_false_iff.mpr c2
   subst c2
   rw [if_neg ff] at H
   have H' := am H
   clear H
   have z_ := ns2 N1 N3
   have z_ := cB2 K1
   go_wp2_with (first | ((with_reducible refine gate_callee (f := 96) rfl ?_); refine gL 12 Try.func96 (impl_Range_single.calls _ _ _ _ A1.out) fun w5 hb => ?_; obtain ⟨K1, K2, K3, HB⟩ := bk3 K1 K2 K3 HB hb; (try clear hb); have z_ := ns1 N5; have z_ := cB2 K2) | (go_at_call 96; (with_reducible refine (impl_Range_single.calls _ _ _ _ A2.out).mono ?_); rintro e w6 ⟨rfl, hb⟩; obtain ⟨K1, K2, K3, HB⟩ := bk3 K1 K2 K3 HB hb; (try clear hb)))
   go_meet
   case rel => exact ⟨_, (false), ey, H', le0, ⟨Z K1⟩, ⟨Z K2⟩, ⟨Z K3⟩, ⟨YA HB⟩⟩
  subst c2
  rw [if_pos rfl] at H
  have H' := am H
  clear H
  have z_ := ns2 N1 N3
  have z_ := cB2 K1
  go_wp2_with (first | ((with_reducible refine gate_callee (f := 96) rfl ?_); refine gL 12 Try.func96 (impl_Range_single.calls _ _ _ _ A1.out) fun w5 hb => ?_; obtain ⟨K1, K2, K3, HB⟩ := bk3 K1 K2 K3 HB hb; (try clear hb); have z_ := ns1 N5; have z_ := cB2 K2) | (go_at_call 96; (with_reducible refine (impl_Range_single.calls _ _ _ _ A2.out).mono ?_); rintro e w6 ⟨rfl, hb⟩; obtain ⟨K1, K2, K3, HB⟩ := bk3 K1 K2 K3 HB hb; (try clear hb); have z_ := cB2 K2))
  go_meet
  case rel => exact ⟨_, ((a1_0 != 0)), ey, H', le0, ⟨Z K1⟩, ⟨Z K2⟩, ⟨Z K3⟩, ⟨YA HB⟩⟩
 case rest =>
  clear C1
  obtain ⟨kq, x1, rfl, HA, J1, K1, K2, K3, HB⟩ := hcut
  cases kq with
  | zero => exact absurd HA.out (by simp [impl_rangeRem.j0])
  | succ k1 =>
   have H := HA.out
   clear HA
   simp only [impl_rangeRem.j0] at H
   by_cases c1 : x1 = true
   ·subst c1
    rw [if_pos rfl] at H
    by_cases c2 : a1_0 = 0
    ·rw [if_pos c2] at H
     exact absurd H (by simp)
    rw [if_neg c2] at H
    have d1 := eF c2
    have d2 := nT c2
    simp only [Option.some.injEq, Prod.mk.injEq] at H
    obtain ⟨rfl, rfl, rfl⟩ := H
    have z_ := ns3 N1 N3 N5
    have z_ := cB2 K1
    have z_ := cB2 K2
    have z_ := cB2 K3
    go_wp2
    refine bodyPost_ret (results_ct rfl _ _ g3 24 #[.int .i64 (Int.tmod a0_0 a1_0), .int .i64 (Int.tmod a0_0 a1_0)] (0, 0) _ rfl (by refine pf ?_; refine blk_put (cs := #[.int .i64 (Int.tmod a0_0 a1_0), .int .i64 0]) ?_ 1 _ rfl; refine pf ?_; refine blk_put (cs := #[.int .i64 0, .int .i64 0]) ?_ 0 _ rfl; exact Z K3) Try.underlying24 rfl (by kernel_rfl)) rfl ?_
    exact ⟨_, ez, by first | exact Kd.R_nil _ _ _ _ _ | exact Kd.N_nil _ _ _ _ _ | exact Kd.V_nil _ _ _ _ _ | exact Kd.Q_nil _ _ _ _ _ | exact Kd.S_nil _ _ _ _ _, YA HB⟩
   replace c1 := Bool.eq_false_iff.mpr c1
   subst c1
   rw [if_neg ff] at H
   obtain ⟨⟨t3, t4, t5, t6⟩, A1, H⟩ := bd H
   try dsimp only at H
   obtain ⟨⟨t7, t8⟩, A2, H⟩ := bd H
   try dsimp only at H
   obtain ⟨t9, A3, H⟩ := bd H
   try dsimp only at H
   have C2 := am H
   clear H
   have z_ := ns2 N2 N5
   have z_ := cB2 K2
   go_upto_if 37 with (first | ((with_reducible refine gate_callee (f := 94) rfl ?_); refine gL 31 Try.func94 (impl_rangeSides.calls _ _ _ _ _ _ _ _ A1.out) fun w5 hb => ?_; obtain ⟨K1, K2, K3, HB⟩ := bk3 K1 K2 K3 HB hb; (try clear hb)) | ((with_reducible refine gate_dst (N := 7) rfl ?_); refine bxn 7 #[.int .i64 0, .int .i64 0, .int .i64 0, .int .i64 0] 96 HB fun g4 w6 K4 G4 hg hb => ?_; obtain ⟨N7,N8⟩ := ne_ hg K1; obtain ⟨N9,N10⟩ := ne_ hg K2; obtain ⟨N11,N12⟩ := ne_ hg K3; obtain ⟨K1, K2, K3, HB⟩ := bk3 K1 K2 K3 HB hb; clear hb hg; have z_ := ns3 N8 N10 N12; have z_ := cB4 K4) | ((with_reducible refine gate_callee (f := 48) rfl ?_); refine gL 32 Try.func48 (impl_rangeNone.calls _ _ _ A2.out) fun w7 hb => ?_; replace K1 := am (blk_below (g := g1) (o := b2 a0_0 a0_1 24) (by refine fa N7 ?_; refine fa N7 ?_; refine fa N7 ?_; refine fa N7 ?_; exact Z K1) hb); replace K2 := am (blk_below (g := g2) (o := b2 a1_0 a1_1 24) (by refine fa N9 ?_; refine fa N9 ?_; refine fa N9 ?_; refine fa N9 ?_; exact Z K2) hb); replace K3 := am (blk_below (g := g3) (o := b2 0 0 24) (by refine fa N11 ?_; refine fa N11 ?_; refine fa N11 ?_; refine fa N11 ?_; exact Z K3) hb); replace K4 := am (blk_below (g := g4) (o := b4 t3 t4 t5 t6 96) (by refine pf ?_; refine blk_put (cs := #[.int .i64 t3, .int .i64 t4, .int .i64 t5, .int .i64 0]) ?_ 3 _ rfl; refine pf ?_; refine blk_put (cs := #[.int .i64 t3, .int .i64 t4, .int .i64 0, .int .i64 0]) ?_ 2 _ rfl; refine pf ?_; refine blk_put (cs := #[.int .i64 t3, .int .i64 0, .int .i64 0, .int .i64 0]) ?_ 1 _ rfl; refine pf ?_; refine blk_put (cs := #[.int .i64 0, .int .i64 0, .int .i64 0, .int .i64 0]) ?_ 0 _ rfl; exact Z K4) hb); replace HB := am (below_step (YA HB) hb); (try clear hb)) | ((with_reducible refine gate_dst (N := 8) rfl ?_); refine bxn 8 #[.int .i64 0, .int .i64 0] 24 HB fun g5 w8 K5 G5 hg hb => ?_; obtain ⟨N13,N14⟩ := ne_ hg K1; obtain ⟨N15,N16⟩ := ne_ hg K2; obtain ⟨N17,N18⟩ := ne_ hg K3; obtain ⟨N19,N20⟩ := ne_ hg K4; obtain ⟨K1, K2, K3, K4, HB⟩ := bk4 K1 K2 K3 K4 HB hb; clear hb hg; have z_ := ns4 N14 N16 N18 N20; have z_ := cB2 K5; have z_ := cB4 K4) | ((with_reducible refine gate_dst (N := 9) rfl ?_); refine bxn 9 #[.int .i64 0, .int .i64 0] 24 HB fun g6 w9 K6 G6 hg hb => ?_; have N21 := am ((by rw [hg]; exact Nat.ne_of_lt (blk_lt (g := g1) (o := b2 a0_0 a0_1 24) (by refine fa N13 ?_; refine fa N13 ?_; exact Z K1)) : g1 ≠ g6)); have N22 := am ((by rw [hg]; exact Nat.ne_of_gt (blk_lt (g := g1) (o := b2 a0_0 a0_1 24) (by refine fa N13 ?_; refine fa N13 ?_; exact Z K1)) : g6 ≠ g1)); have N23 := am ((by rw [hg]; exact Nat.ne_of_lt (blk_lt (g := g2) (o := b2 a1_0 a1_1 24) (by refine fa N15 ?_; refine fa N15 ?_; exact Z K2)) : g2 ≠ g6)); have N24 := am ((by rw [hg]; exact Nat.ne_of_gt (blk_lt (g := g2) (o := b2 a1_0 a1_1 24) (by refine fa N15 ?_; refine fa N15 ?_; exact Z K2)) : g6 ≠ g2)); have N25 := am ((by rw [hg]; exact Nat.ne_of_lt (blk_lt (g := g3) (o := b2 0 0 24) (by refine fa N17 ?_; refine fa N17 ?_; exact Z K3)) : g3 ≠ g6)); have N26 := am ((by rw [hg]; exact Nat.ne_of_gt (blk_lt (g := g3) (o := b2 0 0 24) (by refine fa N17 ?_; refine fa N17 ?_; exact Z K3)) : g6 ≠ g3)); have N27 := am ((by rw [hg]; exact Nat.ne_of_lt (blk_lt (g := g4) (o := b4 t3 t4 t5 t6 96) (by refine fa N19 ?_; refine fa N19 ?_; exact Z K4)) : g4 ≠ g6)); have N28 := am ((by rw [hg]; exact Nat.ne_of_gt (blk_lt (g := g4) (o := b4 t3 t4 t5 t6 96) (by refine fa N19 ?_; refine fa N19 ?_; exact Z K4)) : g6 ≠ g4)); have N29 := am ((by rw [hg]; exact Nat.ne_of_lt (blk_lt (g := g5) (o := b2 t7 t8 24) (by refine pf ?_; refine blk_put (cs := #[.int .i64 t7, .int .i64 0]) ?_ 1 _ rfl; refine pf ?_; refine blk_put (cs := #[.int .i64 0, .int .i64 0]) ?_ 0 _ rfl; exact Z K5)) : g5 ≠ g6)); have N30 := am ((by rw [hg]; exact Nat.ne_of_gt (blk_lt (g := g5) (o := b2 t7 t8 24) (by refine pf ?_; refine blk_put (cs := #[.int .i64 t7, .int .i64 0]) ?_ 1 _ rfl; refine pf ?_; refine blk_put (cs := #[.int .i64 0, .int .i64 0]) ?_ 0 _ rfl; exact Z K5)) : g6 ≠ g5)); replace K1 := am (blk_below (g := g1) (o := b2 a0_0 a0_1 24) (by refine fa N13 ?_; refine fa N13 ?_; exact Z K1) hb); replace K2 := am (blk_below (g := g2) (o := b2 a1_0 a1_1 24) (by refine fa N15 ?_; refine fa N15 ?_; exact Z K2) hb); replace K3 := am (blk_below (g := g3) (o := b2 0 0 24) (by refine fa N17 ?_; refine fa N17 ?_; exact Z K3) hb); replace K4 := am (blk_below (g := g4) (o := b4 t3 t4 t5 t6 96) (by refine fa N19 ?_; refine fa N19 ?_; exact Z K4) hb); replace K5 := am (blk_below (g := g5) (o := b2 t7 t8 24) (by refine pf ?_; refine blk_put (cs := #[.int .i64 t7, .int .i64 0]) ?_ 1 _ rfl; refine pf ?_; refine blk_put (cs := #[.int .i64 0, .int .i64 0]) ?_ 0 _ rfl; exact Z K5) hb); replace HB := am (below_step (YA HB) hb); clear hb hg; have z_ := ns5 N22 N24 N26 N28 N30; have z_ := cB2 K6) | ((with_reducible refine gate_callee (f := 47) rfl ?_); refine gL 36 Try.func47 (impl_Range_empty.calls _ _ _ _ A3.out) fun w10 hb => ?_; replace K1 := am (blk_below (g := g1) (o := b2 a0_0 a0_1 24) (by refine fa N21 ?_; refine fa N21 ?_; exact Z K1) hb); replace K2 := am (blk_below (g := g2) (o := b2 a1_0 a1_1 24) (by refine fa N23 ?_; refine fa N23 ?_; exact Z K2) hb); replace K3 := am (blk_below (g := g3) (o := b2 0 0 24) (by refine fa N25 ?_; refine fa N25 ?_; exact Z K3) hb); replace K4 := am (blk_below (g := g4) (o := b4 t3 t4 t5 t6 96) (by refine fa N27 ?_; refine fa N27 ?_; exact Z K4) hb); replace K5 := am (blk_below (g := g5) (o := b2 t7 t8 24) (by refine fa N29 ?_; refine fa N29 ?_; exact Z K5) hb); replace K6 := am (blk_below (g := g6) (o := b2 t3 t4 24) (by refine pf ?_; refine blk_put (cs := #[.int .i64 t3, .int .i64 0]) ?_ 1 _ rfl; refine pf ?_; refine blk_put (cs := #[.int .i64 0, .int .i64 0]) ?_ 0 _ rfl; exact Z K6) hb); replace HB := am (below_step (YA HB) hb); (try clear hb)))
   (try simp only [Act.put, List.setIfInBounds_toArray, List.set_cons_zero, List.set_cons_succ])
   go_cut [] (fun wc => ∃ (kq : Nat) (x2 : Int) (x3 : Int), Aside0 (impl_rangeRem.j1 kq a0_0 a0_1 a1_0 a1_1 t3 t4 t5 t6 x2 x3 = some (r1, r2, r3)) ∧ Aside0 (kq ≤ k1) ∧ Bx2 wc g1 a0_0 a0_1 24 ∧ Bx2 wc g2 a1_0 a1_1 24 ∧ Bx2 wc g3 0 0 24 ∧ Bx4 wc g4 t3 t4 t5 t6 96 ∧ Bx2 wc g5 x2 x3 24 ∧ Bx2 wc g6 t3 t4 24 ∧ Aside0 (Below w.heap.size w wc))
   case first =>
    have H := C2.out
    clear C2
    by_cases c2 : t9 = true
    ·subst c2
     rw [if_pos rfl] at H
     have H' := am H
     clear H
     go_wp2
     go_meet
     case rel => exact ⟨_, (t7), (t8), H', le1 J1, ⟨Z K1⟩, ⟨Z K2⟩, ⟨Z K3⟩, ⟨Z K4⟩, ⟨Z K5⟩, ⟨Z K6⟩, ⟨YA HB⟩⟩
    replace c2 := Bool.eq_false_iff.mpr c2
    subst c2
    rw [if_neg ff] at H
    obtain ⟨⟨t10, t11⟩, A4, H⟩ := bd H
    try dsimp only at H
    obtain ⟨⟨t12, t13⟩, A5, H⟩ := bd H
    try dsimp only at H
    have H' := am H
    clear H
    try go_wp2
    obtain ⟨K1, K2, K3, K4, K5, K6, HB⟩ := dk6 K1 K2 K3 K4 K5 K6 HB
    refine start_ (n := 11) (S := fun w' => w'.cell? ⟨g5, 0, none⟩ = some (.int .i64 t7) ∧ w'.cell? ⟨g5, 1, none⟩ = some (.int .i64 t8) ∧ w'.cell? ⟨g1, 0, none⟩ = some (.int .i64 a0_0) ∧ w'.cell? ⟨g1, 1, none⟩ = some (.int .i64 a0_1) ∧ w'.cell? ⟨g6, 0, none⟩ = some (.int .i64 t3) ∧ w'.cell? ⟨g6, 1, none⟩ = some (.int .i64 t4)) (ds := [10]) (lb 11 0) (by kernel_rfl) rfl rfl ⟨bc K5 0, bc K5 1, bc K1 0, bc K1 1, bc K6 0, bc K6 1⟩ (fun hHeld => ?_); refine with_tabW impl_rangeRem.tab8 impl_rangeRem.bits8 (fun HT_ HW_ => ?_)
    generalize w10.drew = w11 at K1 K2 K3 K4 K5 K6 HB hHeld ⊢
    refine pk 2 40 4 ?_
    refine pk 5 43 36 ?_
    refine tk 0 38 37 hHeld ?_
    refine tk 1 39 39 hHeld ?_
    refine tk 3 41 47 hHeld ?_
    refine pk 4 42 63 ?_
    refine tk 6 44 127 hHeld ?_
    refine pk 7 45 255 ?_
    refine on 8 (some 46) 511 fun K hK => ?_
    refine gq Try.func97 (impl_rangeRemBy.calls _ _ _ _ _ _ _ _ A4.out) fun w12 hb => ?_
    obtain ⟨K1, K2, K3, K4, K5, K6, HB⟩ := bk6 K1 K2 K3 K4 K5 K6 HB hb
    clear hb
    refine kk hK ⟨bc K5 0, bc K5 1, bc K1 0, bc K1 1, bc K6 0, bc K6 1⟩ fun hHeld => ?_
    clear hK K
    refine on 9 (some 47) 1023 fun K hK => ?_
    refine gq Try.func84 (impl_RangeJoin.calls _ _ _ _ _ _ _ _ A5.out) fun w13 hb => ?_
    obtain ⟨K1, K2, K3, K4, K5, K6, HB⟩ := bk6 K1 K2 K3 K4 K5 K6 HB hb
    clear hb
    refine kk hK ⟨bc K5 0, bc K5 1, bc K1 0, bc K1 1, bc K6 0, bc K6 1⟩ fun hHeld => ?_
    clear hK K
    refine last_ (i := 10) (N := none) (lb 11 2047) rfl rfl ow (by decide) (fun K hK => ?_)
    have s1 : w13.cell? ⟨g5, 0, none⟩ = some (.int .i64 t7) := bc K5 0
    have hfs73 := blk_frozen K5.out 0
    have z_ := ns10 N13 N15 N17 N19 N30 N14 N16 N18 N20 N29
    have s2 : w13.cell? ⟨g5, 1, none⟩ = some (.int .i64 t8) := bc K5 1
    have hfs74 := blk_frozen K5.out 1
    have z_ := ns10 N13 N15 N17 N19 N30 N14 N16 N18 N20 N29
    refine skip_ (w1 := ?_) (by rfl) rfl ?_ ?_
    rotate_left
    ·go_simp
     rfl
    refine hK.out _ _ ?_
    clear hK K
    refine done_ (done_of HT_.out (by kernel_rfl)) ?_
    try go_wp2
    go_meet
    case rel => exact ⟨_, (t12), (t13), H', le1 J1, ⟨by refine fa N13 ?_; refine fa N13 ?_; exact Z K1⟩, ⟨by refine fa N15 ?_; refine fa N15 ?_; exact Z K2⟩, ⟨by refine fa N17 ?_; refine fa N17 ?_; exact Z K3⟩, ⟨by refine fa N19 ?_; refine fa N19 ?_; exact Z K4⟩, ⟨by refine pf ?_; refine blk_put (cs := #[.int .i64 t12, .int .i64 t8]) ?_ 1 _ rfl; refine pf ?_; refine blk_put (cs := #[.int .i64 t7, .int .i64 t8]) ?_ 0 _ rfl; exact Z K5⟩, ⟨by refine fa N30 ?_; refine fa N30 ?_; exact Z K6⟩, ⟨YA HB⟩⟩
   case rest =>
    clear C2
    (try clear c1)
    obtain ⟨kq, x2, x3, HA, J2, K1, K2, K3, K4, K5, K6, HB⟩ := hcut
    cases kq with
    | zero => exact absurd HA.out (by simp [impl_rangeRem.j1])
    | succ k2 =>
     have H := HA.out
     clear HA
     simp only [impl_rangeRem.j1] at H
     obtain ⟨t10, A4, H⟩ := bd H
     try dsimp only at H
     by_cases c2 : t10 = true
     ·subst c2
      rw [if_pos rfl] at H
      obtain ⟨t11, A5, H⟩ := bd H
      try dsimp only at H
      by_cases c3 : t11 = true
      rotate_left
      ·replace c3 := Bool.eq_false_iff.mpr c3
       subst c3
       rw [if_neg ff] at H
       simp only [Option.some.injEq, Prod.mk.injEq] at H
       obtain ⟨rfl, rfl, rfl⟩ := H
       have z_ := ns5 N8 N10 N12 N19 N27
       have z_ := cB4 K4
       go_wp2_with (first | ((with_reducible refine gate_dst (N := 10) rfl ?_); refine bxn 10 #[.int .i64 0, .int .i64 0] 24 HB fun g7 w11 K7 G7 hg hb => ?_; obtain ⟨N31,N32⟩ := ne_ hg K1; obtain ⟨N33,N34⟩ := ne_ hg K2; obtain ⟨N35,N36⟩ := ne_ hg K3; obtain ⟨N37,N38⟩ := ne_ hg K4; obtain ⟨N39,N40⟩ := ne_ hg K5; obtain ⟨N41,N42⟩ := ne_ hg K6; obtain ⟨K1, K2, K3, K4, K5, K6, HB⟩ := bk6 K1 K2 K3 K4 K5 K6 HB hb; clear hb hg; have z_ := ns6 N32 N34 N36 N38 N40 N42; have z_ := cB2 K7) | ((with_reducible refine gate_callee (f := 47) rfl ?_); refine gL 51 Try.func47 (impl_Range_empty.calls _ _ _ _ A4.out) fun w12 hb => ?_; replace K1 := am (blk_below (g := g1) (o := b2 a0_0 a0_1 24) (by refine fa N31 ?_; refine fa N31 ?_; exact Z K1) hb); replace K2 := am (blk_below (g := g2) (o := b2 a1_0 a1_1 24) (by refine fa N33 ?_; refine fa N33 ?_; exact Z K2) hb); replace K3 := am (blk_below (g := g3) (o := b2 0 0 24) (by refine fa N35 ?_; refine fa N35 ?_; exact Z K3) hb); replace K4 := am (blk_below (g := g4) (o := b4 t3 t4 t5 t6 96) (by refine fa N37 ?_; refine fa N37 ?_; exact Z K4) hb); replace K5 := am (blk_below (g := g5) (o := b2 x2 x3 24) (by refine fa N39 ?_; refine fa N39 ?_; exact Z K5) hb); replace K6 := am (blk_below (g := g6) (o := b2 t3 t4 24) (by refine fa N41 ?_; refine fa N41 ?_; exact Z K6) hb); replace K7 := am (blk_below (g := g7) (o := b2 t5 t6 24) (by refine pf ?_; refine blk_put (cs := #[.int .i64 t5, .int .i64 0]) ?_ 1 _ rfl; refine pf ?_; refine blk_put (cs := #[.int .i64 0, .int .i64 0]) ?_ 0 _ rfl; exact Z K7) hb); replace HB := am (below_step (YA HB) hb); (try clear hb); have z_ := ns4 N2 N5 N15 N23; have z_ := cB2 K2) | ((with_reducible refine gate_callee (f := 95) rfl ?_); refine gL 62 Try.func95 (impl_RangeHas.calls _ _ _ _ _ A5.out) fun w13 hb => ?_; obtain ⟨K1, K2, K3, K4, K5, K6, K7, HB⟩ := bk7 K1 K2 K3 K4 K5 K6 K7 HB hb; (try clear hb); have z_ := ns5 N14 N18 N29 N4 N25; have z_ := cB2 K5; have z_ := cB2 K3))
       refine bodyPost_ret (results_ct rfl _ _ g3 24 #[.int .i64 x2, .int .i64 x3] (0, 0) _ rfl (by refine pf ?_; refine blk_put (cs := #[.int .i64 x2, .int .i64 0]) ?_ 1 _ rfl; refine pf ?_; refine blk_put (cs := #[.int .i64 0, .int .i64 0]) ?_ 0 _ rfl; exact Z K3) Try.underlying24 rfl (by kernel_rfl)) rfl ?_
       exact ⟨_, ez, by first | exact Kd.R_nil _ _ _ _ _ | exact Kd.N_nil _ _ _ _ _ | exact Kd.V_nil _ _ _ _ _ | exact Kd.Q_nil _ _ _ _ _ | exact Kd.S_nil _ _ _ _ _, YA HB⟩
      subst c3
      rw [if_pos rfl] at H
      obtain ⟨y1, y2⟩ : ∃ y_ : List Int, y_ = (([2] : List Int)) := ⟨_, rfl⟩
      replace H : (some (x2, x3, y1)) = some (r1, r2, r3) := by first | (rw [y2]; with_reducible exact H) | (have H2_ := (Option.bind_some _ _).symm.trans H; rw [y2]; with_reducible exact H2_) | (have H2_ := (Option.bind_some _ _).symm.trans H; with_reducible exact H2_) | with_reducible exact H | (rw [y2]; exact H) | exact H
      have Y25 := am y2
      clear y2
      simp only [Option.some.injEq, Prod.mk.injEq] at H
      obtain ⟨rfl, rfl, rfl⟩ := H
      have z_ := ns5 N8 N10 N12 N19 N27
      have z_ := cB4 K4
      go_wp2_with (first | ((with_reducible refine gate_dst (N := 10) rfl ?_); refine bxn 10 #[.int .i64 0, .int .i64 0] 24 HB fun g7 w11 K7 G7 hg hb => ?_; obtain ⟨N31,N32⟩ := ne_ hg K1; obtain ⟨N33,N34⟩ := ne_ hg K2; obtain ⟨N35,N36⟩ := ne_ hg K3; obtain ⟨N37,N38⟩ := ne_ hg K4; obtain ⟨N39,N40⟩ := ne_ hg K5; obtain ⟨N41,N42⟩ := ne_ hg K6; obtain ⟨K1, K2, K3, K4, K5, K6, HB⟩ := bk6 K1 K2 K3 K4 K5 K6 HB hb; clear hb hg; have z_ := ns6 N32 N34 N36 N38 N40 N42; have z_ := cB2 K7) | ((with_reducible refine gate_callee (f := 47) rfl ?_); refine gL 51 Try.func47 (impl_Range_empty.calls _ _ _ _ A4.out) fun w12 hb => ?_; replace K1 := am (blk_below (g := g1) (o := b2 a0_0 a0_1 24) (by refine fa N31 ?_; refine fa N31 ?_; exact Z K1) hb); replace K2 := am (blk_below (g := g2) (o := b2 a1_0 a1_1 24) (by refine fa N33 ?_; refine fa N33 ?_; exact Z K2) hb); replace K3 := am (blk_below (g := g3) (o := b2 0 0 24) (by refine fa N35 ?_; refine fa N35 ?_; exact Z K3) hb); replace K4 := am (blk_below (g := g4) (o := b4 t3 t4 t5 t6 96) (by refine fa N37 ?_; refine fa N37 ?_; exact Z K4) hb); replace K5 := am (blk_below (g := g5) (o := b2 x2 x3 24) (by refine fa N39 ?_; refine fa N39 ?_; exact Z K5) hb); replace K6 := am (blk_below (g := g6) (o := b2 t3 t4 24) (by refine fa N41 ?_; refine fa N41 ?_; exact Z K6) hb); replace K7 := am (blk_below (g := g7) (o := b2 t5 t6 24) (by refine pf ?_; refine blk_put (cs := #[.int .i64 t5, .int .i64 0]) ?_ 1 _ rfl; refine pf ?_; refine blk_put (cs := #[.int .i64 0, .int .i64 0]) ?_ 0 _ rfl; exact Z K7) hb); replace HB := am (below_step (YA HB) hb); (try clear hb); have z_ := ns4 N2 N5 N15 N23; have z_ := cB2 K2) | ((with_reducible refine gate_callee (f := 95) rfl ?_); refine gL 62 Try.func95 (impl_RangeHas.calls _ _ _ _ _ A5.out) fun w13 hb => ?_; obtain ⟨K1, K2, K3, K4, K5, K6, K7, HB⟩ := bk7 K1 K2 K3 K4 K5 K6 K7 HB hb; (try clear hb); have z_ := ns3 N14 N18 N29; have z_ := cB2 K5) | ((with_reducible refine gate_dst (N := 64) rfl ?_); refine Kd.R_lit (Kd.int .i64) _ 3 ?hg (N := 64) ?hd (xs := ([2] : List Int)) (inner := [.int .i64 2]) (ok := fun _ => True) (okp := fun _ => True) ?hr ?hp (fun _ hk => hk) trivial (Below.refl _ _) (Nat.le_refl _) (by simp) ?_; (case hd => rfl); (case hg => rfl); (case hr => first | (go_simp; done) | (go_simp; rfl)); (case hp => exact (Reps.one (show Kd.M (Kd.int .i64) _ _ _ 2 [.int .i64 2] from rfl) (Reps.none _ _))); intro v2 w14 o1 hb hg_ hnew_; clear hg_ hnew_; (first | rw [← Y25.out] at o1 | (simp only [Int.reduceToNat] at o1; rw [← Y25.out] at o1)); have O1 := am (Kd.R_lower o1 (below_size (YA HB))); obtain ⟨K1, K2, K3, K4, K5, K6, K7, HB⟩ := bk7 K1 K2 K3 K4 K5 K6 K7 HB hb; clear hb o1; have z_ := ns2 N4 N25; have z_ := cB2 K3))
      refine bodyPost_ret (results_ct rfl _ _ g3 24 #[.int .i64 x2, .int .i64 x3] (0, 0) _ rfl (by refine pf ?_; refine blk_put (cs := #[.int .i64 x2, .int .i64 0]) ?_ 1 _ rfl; refine pf ?_; refine blk_put (cs := #[.int .i64 0, .int .i64 0]) ?_ 0 _ rfl; exact Z K3) Try.underlying24 rfl (by kernel_rfl)) rfl ?_
      exact ⟨_, ez, by (with_reducible repeat (first | apply Kd.R_alloc | apply Kd.R_drewN | apply Kd.R_drew)); exact Kd.R_mono (Kd.R_far (p := ⟨g3, 1, none⟩) (Kd.R_far (p := ⟨g3, 0, none⟩) (Kd.R_types O1.out K3.out (by decide)) (fun _ hk => hk.2) (.int .i64 x2)) (fun _ hk => hk.2) (.int .i64 x3)) (fun _ hk => trivial), YA HB⟩
     replace c2 := Bool.eq_false_iff.mpr c2
     subst c2
     rw [if_neg ff] at H
     obtain ⟨⟨t11, t12⟩, A5, H⟩ := bd H
     try dsimp only at H
     obtain ⟨⟨t13, t14⟩, A6, H⟩ := bd H
     try dsimp only at H
     obtain ⟨t15, A7, H⟩ := bd H
     try dsimp only at H
     by_cases c3 : t15 = true
     rotate_left
     ·replace c3 := Bool.eq_false_iff.mpr c3
      subst c3
      rw [if_neg ff] at H
      simp only [Option.some.injEq, Prod.mk.injEq] at H
      obtain ⟨rfl, rfl, rfl⟩ := H
      have z_ := ns5 N8 N10 N12 N19 N27
      have z_ := cB4 K4
      try go_wp2_with (first | ((with_reducible refine gate_dst (N := 10) rfl ?_); refine bxn 10 #[.int .i64 0, .int .i64 0] 24 HB fun g7 w11 K7 G7 hg hb => ?_; obtain ⟨N31,N32⟩ := ne_ hg K1; obtain ⟨N33,N34⟩ := ne_ hg K2; obtain ⟨N35,N36⟩ := ne_ hg K3; obtain ⟨N37,N38⟩ := ne_ hg K4; obtain ⟨N39,N40⟩ := ne_ hg K5; obtain ⟨N41,N42⟩ := ne_ hg K6; obtain ⟨K1, K2, K3, K4, K5, K6, HB⟩ := bk6 K1 K2 K3 K4 K5 K6 HB hb; clear hb hg; have z_ := ns6 N32 N34 N36 N38 N40 N42; have z_ := cB2 K7) | ((with_reducible refine gate_callee (f := 47) rfl ?_); refine gL 51 Try.func47 (impl_Range_empty.calls _ _ _ _ A4.out) fun w12 hb => ?_; replace K1 := am (blk_below (g := g1) (o := b2 a0_0 a0_1 24) (by refine fa N31 ?_; refine fa N31 ?_; exact Z K1) hb); replace K2 := am (blk_below (g := g2) (o := b2 a1_0 a1_1 24) (by refine fa N33 ?_; refine fa N33 ?_; exact Z K2) hb); replace K3 := am (blk_below (g := g3) (o := b2 0 0 24) (by refine fa N35 ?_; refine fa N35 ?_; exact Z K3) hb); replace K4 := am (blk_below (g := g4) (o := b4 t3 t4 t5 t6 96) (by refine fa N37 ?_; refine fa N37 ?_; exact Z K4) hb); replace K5 := am (blk_below (g := g5) (o := b2 x2 x3 24) (by refine fa N39 ?_; refine fa N39 ?_; exact Z K5) hb); replace K6 := am (blk_below (g := g6) (o := b2 t3 t4 24) (by refine fa N41 ?_; refine fa N41 ?_; exact Z K6) hb); replace K7 := am (blk_below (g := g7) (o := b2 t5 t6 24) (by refine pf ?_; refine blk_put (cs := #[.int .i64 t5, .int .i64 0]) ?_ 1 _ rfl; refine pf ?_; refine blk_put (cs := #[.int .i64 0, .int .i64 0]) ?_ 0 _ rfl; exact Z K7) hb); replace HB := am (below_step (YA HB) hb); (try clear hb)))
      obtain ⟨K1, K2, K3, K4, K5, K6, K7, HB⟩ := dk7 K1 K2 K3 K4 K5 K6 K7 HB
      refine start_ (n := 9) (S := fun w' => w'.cell? ⟨g5, 0, none⟩ = some (.int .i64 x2) ∧ w'.cell? ⟨g5, 1, none⟩ = some (.int .i64 x3) ∧ w'.cell? ⟨g1, 0, none⟩ = some (.int .i64 a0_0) ∧ w'.cell? ⟨g1, 1, none⟩ = some (.int .i64 a0_1) ∧ w'.cell? ⟨g7, 0, none⟩ = some (.int .i64 t5) ∧ w'.cell? ⟨g7, 1, none⟩ = some (.int .i64 t6)) (ds := [8]) (lb 9 0) (by kernel_rfl) rfl rfl ⟨bc K5 0, bc K5 1, bc K1 0, bc K1 1, bc K7 0, bc K7 1⟩ (fun hHeld => ?_); refine with_tabW impl_rangeRem.tab11 impl_rangeRem.bits11 (fun HT_ HW_ => ?_)
      generalize w12.drew = w13 at K1 K2 K3 K4 K5 K6 K7 HB hHeld ⊢
      refine pk 2 55 4 ?_
      refine pk 4 57 20 ?_
      refine tk 0 53 21 hHeld ?_
      refine tk 1 54 23 hHeld ?_
      refine tk 3 56 31 hHeld ?_
      refine tk 5 58 63 hHeld ?_
      refine on 6 (some 59) 127 fun K hK => ?_
      refine gq Try.func97 (impl_rangeRemBy.calls _ _ _ _ _ _ _ _ A5.out) fun w14 hb => ?_
      obtain ⟨K1, K2, K3, K4, K5, K6, K7, HB⟩ := bk7 K1 K2 K3 K4 K5 K6 K7 HB hb
      clear hb
      refine kk hK ⟨bc K5 0, bc K5 1, bc K1 0, bc K1 1, bc K7 0, bc K7 1⟩ fun hHeld => ?_
      clear hK K
      refine on 7 (some 60) 255 fun K hK => ?_
      refine gq Try.func84 (impl_RangeJoin.calls _ _ _ _ _ _ _ _ A6.out) fun w15 hb => ?_
      obtain ⟨K1, K2, K3, K4, K5, K6, K7, HB⟩ := bk7 K1 K2 K3 K4 K5 K6 K7 HB hb
      clear hb
      refine kk hK ⟨bc K5 0, bc K5 1, bc K1 0, bc K1 1, bc K7 0, bc K7 1⟩ fun hHeld => ?_
      clear hK K
      refine last_ (i := 8) (N := none) (lb 9 511) rfl rfl ow (by decide) (fun K hK => ?_)
      have s1 : w15.cell? ⟨g5, 0, none⟩ = some (.int .i64 x2) := bc K5 0
      have hfs194 := blk_frozen K5.out 0
      have z_ := ns10 N13 N15 N17 N19 N30 N40 N14 N16 N18 N20
      have z_ := ns2 N29 N39
      have s2 : w15.cell? ⟨g5, 1, none⟩ = some (.int .i64 x3) := bc K5 1
      have hfs195 := blk_frozen K5.out 1
      have z_ := ns10 N13 N15 N17 N19 N30 N40 N14 N16 N18 N20
      have z_ := ns2 N29 N39
      refine skip_ (w1 := ?_) (by rfl) rfl ?_ ?_
      rotate_left
      ·go_simp
       rfl
      refine hK.out _ _ ?_
      clear hK K
      refine done_ (done_of HT_.out (by kernel_rfl)) ?_
      have z_ := ns4 N2 N5 N15 N23
      have z_ := cB2 K2
      try go_wp2_with (first | ((with_reducible refine gate_callee (f := 95) rfl ?_); refine gL 62 Try.func95 (impl_RangeHas.calls _ _ _ _ _ A7.out) fun w16 hb => ?_; replace K1 := am (blk_below (g := g1) (o := b2 a0_0 a0_1 24) (by refine fa N13 ?_; refine fa N13 ?_; exact Z K1) hb); replace K2 := am (blk_below (g := g2) (o := b2 a1_0 a1_1 24) (by refine fa N15 ?_; refine fa N15 ?_; exact Z K2) hb); replace K3 := am (blk_below (g := g3) (o := b2 0 0 24) (by refine fa N17 ?_; refine fa N17 ?_; exact Z K3) hb); replace K4 := am (blk_below (g := g4) (o := b4 t3 t4 t5 t6 96) (by refine fa N19 ?_; refine fa N19 ?_; exact Z K4) hb); replace K5 := am (blk_below (g := g5) (o := b2 t13 t14 24) (by refine pf ?_; refine blk_put (cs := #[.int .i64 t13, .int .i64 x3]) ?_ 1 _ rfl; refine pf ?_; refine blk_put (cs := #[.int .i64 x2, .int .i64 x3]) ?_ 0 _ rfl; exact Z K5) hb); replace K6 := am (blk_below (g := g6) (o := b2 t3 t4 24) (by refine fa N30 ?_; refine fa N30 ?_; exact Z K6) hb); replace K7 := am (blk_below (g := g7) (o := b2 t5 t6 24) (by refine fa N40 ?_; refine fa N40 ?_; exact Z K7) hb); replace HB := am (below_step (YA HB) hb); (try clear hb); have z_ := ns5 N14 N18 N29 N4 N25; have z_ := cB2 K5; have z_ := cB2 K3))
      refine bodyPost_ret (results_ct rfl _ _ g3 24 #[.int .i64 t13, .int .i64 t14] (0, 0) _ rfl (by refine pf ?_; refine blk_put (cs := #[.int .i64 t13, .int .i64 0]) ?_ 1 _ rfl; refine pf ?_; refine blk_put (cs := #[.int .i64 0, .int .i64 0]) ?_ 0 _ rfl; exact Z K3) Try.underlying24 rfl (by kernel_rfl)) rfl ?_
      exact ⟨_, ez, by first | exact Kd.R_nil _ _ _ _ _ | exact Kd.N_nil _ _ _ _ _ | exact Kd.V_nil _ _ _ _ _ | exact Kd.Q_nil _ _ _ _ _ | exact Kd.S_nil _ _ _ _ _, YA HB⟩
     subst c3
     rw [if_pos rfl] at H
     obtain ⟨y1, y2⟩ : ∃ y_ : List Int, y_ = (([2] : List Int)) := ⟨_, rfl⟩
     replace H : (some (t13, t14, y1)) = some (r1, r2, r3) := by first | (rw [y2]; with_reducible exact H) | (have H2_ := (Option.bind_some _ _).symm.trans H; rw [y2]; with_reducible exact H2_) | (have H2_ := (Option.bind_some _ _).symm.trans H; with_reducible exact H2_) | with_reducible exact H | (rw [y2]; exact H) | exact H
     have Y25 := am y2
     clear y2
     simp only [Option.some.injEq, Prod.mk.injEq] at H
     obtain ⟨rfl, rfl, rfl⟩ := H
     have z_ := ns5 N8 N10 N12 N19 N27
     have z_ := cB4 K4
     try go_wp2_with (first | ((with_reducible refine gate_dst (N := 10) rfl ?_); refine bxn 10 #[.int .i64 0, .int .i64 0] 24 HB fun g7 w11 K7 G7 hg hb => ?_; obtain ⟨N31,N32⟩ := ne_ hg K1; obtain ⟨N33,N34⟩ := ne_ hg K2; obtain ⟨N35,N36⟩ := ne_ hg K3; obtain ⟨N37,N38⟩ := ne_ hg K4; obtain ⟨N39,N40⟩ := ne_ hg K5; obtain ⟨N41,N42⟩ := ne_ hg K6; obtain ⟨K1, K2, K3, K4, K5, K6, HB⟩ := bk6 K1 K2 K3 K4 K5 K6 HB hb; clear hb hg; have z_ := ns6 N32 N34 N36 N38 N40 N42; have z_ := cB2 K7) | ((with_reducible refine gate_callee (f := 47) rfl ?_); refine gL 51 Try.func47 (impl_Range_empty.calls _ _ _ _ A4.out) fun w12 hb => ?_; replace K1 := am (blk_below (g := g1) (o := b2 a0_0 a0_1 24) (by refine fa N31 ?_; refine fa N31 ?_; exact Z K1) hb); replace K2 := am (blk_below (g := g2) (o := b2 a1_0 a1_1 24) (by refine fa N33 ?_; refine fa N33 ?_; exact Z K2) hb); replace K3 := am (blk_below (g := g3) (o := b2 0 0 24) (by refine fa N35 ?_; refine fa N35 ?_; exact Z K3) hb); replace K4 := am (blk_below (g := g4) (o := b4 t3 t4 t5 t6 96) (by refine fa N37 ?_; refine fa N37 ?_; exact Z K4) hb); replace K5 := am (blk_below (g := g5) (o := b2 x2 x3 24) (by refine fa N39 ?_; refine fa N39 ?_; exact Z K5) hb); replace K6 := am (blk_below (g := g6) (o := b2 t3 t4 24) (by refine fa N41 ?_; refine fa N41 ?_; exact Z K6) hb); replace K7 := am (blk_below (g := g7) (o := b2 t5 t6 24) (by refine pf ?_; refine blk_put (cs := #[.int .i64 t5, .int .i64 0]) ?_ 1 _ rfl; refine pf ?_; refine blk_put (cs := #[.int .i64 0, .int .i64 0]) ?_ 0 _ rfl; exact Z K7) hb); replace HB := am (below_step (YA HB) hb); (try clear hb)))
     obtain ⟨K1, K2, K3, K4, K5, K6, K7, HB⟩ := dk7 K1 K2 K3 K4 K5 K6 K7 HB
     refine start_ (n := 9) (S := fun w' => w'.cell? ⟨g5, 0, none⟩ = some (.int .i64 x2) ∧ w'.cell? ⟨g5, 1, none⟩ = some (.int .i64 x3) ∧ w'.cell? ⟨g1, 0, none⟩ = some (.int .i64 a0_0) ∧ w'.cell? ⟨g1, 1, none⟩ = some (.int .i64 a0_1) ∧ w'.cell? ⟨g7, 0, none⟩ = some (.int .i64 t5) ∧ w'.cell? ⟨g7, 1, none⟩ = some (.int .i64 t6)) (ds := [8]) (lb 9 0) (by kernel_rfl) rfl rfl ⟨bc K5 0, bc K5 1, bc K1 0, bc K1 1, bc K7 0, bc K7 1⟩ (fun hHeld => ?_); refine with_tabW impl_rangeRem.tab11 impl_rangeRem.bits11 (fun HT_ HW_ => ?_)
     generalize w12.drew = w13 at K1 K2 K3 K4 K5 K6 K7 HB hHeld ⊢
     refine pk 2 55 4 ?_
     refine pk 4 57 20 ?_
     refine tk 0 53 21 hHeld ?_
     refine tk 1 54 23 hHeld ?_
     refine tk 3 56 31 hHeld ?_
     refine tk 5 58 63 hHeld ?_
     refine on 6 (some 59) 127 fun K hK => ?_
     refine gq Try.func97 (impl_rangeRemBy.calls _ _ _ _ _ _ _ _ A5.out) fun w14 hb => ?_
     obtain ⟨K1, K2, K3, K4, K5, K6, K7, HB⟩ := bk7 K1 K2 K3 K4 K5 K6 K7 HB hb
     clear hb
     refine kk hK ⟨bc K5 0, bc K5 1, bc K1 0, bc K1 1, bc K7 0, bc K7 1⟩ fun hHeld => ?_
     clear hK K
     refine on 7 (some 60) 255 fun K hK => ?_
     refine gq Try.func84 (impl_RangeJoin.calls _ _ _ _ _ _ _ _ A6.out) fun w15 hb => ?_
     obtain ⟨K1, K2, K3, K4, K5, K6, K7, HB⟩ := bk7 K1 K2 K3 K4 K5 K6 K7 HB hb
     clear hb
     refine kk hK ⟨bc K5 0, bc K5 1, bc K1 0, bc K1 1, bc K7 0, bc K7 1⟩ fun hHeld => ?_
     clear hK K
     refine last_ (i := 8) (N := none) (lb 9 511) rfl rfl ow (by decide) (fun K hK => ?_)
     have s1 : w15.cell? ⟨g5, 0, none⟩ = some (.int .i64 x2) := bc K5 0
     have hfs159 := blk_frozen K5.out 0
     have z_ := ns10 N13 N15 N17 N19 N30 N40 N14 N16 N18 N20
     have z_ := ns2 N29 N39
     have s2 : w15.cell? ⟨g5, 1, none⟩ = some (.int .i64 x3) := bc K5 1
     have hfs160 := blk_frozen K5.out 1
     have z_ := ns10 N13 N15 N17 N19 N30 N40 N14 N16 N18 N20
     have z_ := ns2 N29 N39
     refine skip_ (w1 := ?_) (by rfl) rfl ?_ ?_
     rotate_left
     ·go_simp
      rfl
     refine hK.out _ _ ?_
     clear hK K
     refine done_ (done_of HT_.out (by kernel_rfl)) ?_
     have z_ := ns4 N2 N5 N15 N23
     have z_ := cB2 K2
     try go_wp2_with (first | ((with_reducible refine gate_callee (f := 95) rfl ?_); refine gL 62 Try.func95 (impl_RangeHas.calls _ _ _ _ _ A7.out) fun w16 hb => ?_; replace K1 := am (blk_below (g := g1) (o := b2 a0_0 a0_1 24) (by refine fa N13 ?_; refine fa N13 ?_; exact Z K1) hb); replace K2 := am (blk_below (g := g2) (o := b2 a1_0 a1_1 24) (by refine fa N15 ?_; refine fa N15 ?_; exact Z K2) hb); replace K3 := am (blk_below (g := g3) (o := b2 0 0 24) (by refine fa N17 ?_; refine fa N17 ?_; exact Z K3) hb); replace K4 := am (blk_below (g := g4) (o := b4 t3 t4 t5 t6 96) (by refine fa N19 ?_; refine fa N19 ?_; exact Z K4) hb); replace K5 := am (blk_below (g := g5) (o := b2 t13 t14 24) (by refine pf ?_; refine blk_put (cs := #[.int .i64 t13, .int .i64 x3]) ?_ 1 _ rfl; refine pf ?_; refine blk_put (cs := #[.int .i64 x2, .int .i64 x3]) ?_ 0 _ rfl; exact Z K5) hb); replace K6 := am (blk_below (g := g6) (o := b2 t3 t4 24) (by refine fa N30 ?_; refine fa N30 ?_; exact Z K6) hb); replace K7 := am (blk_below (g := g7) (o := b2 t5 t6 24) (by refine fa N40 ?_; refine fa N40 ?_; exact Z K7) hb); replace HB := am (below_step (YA HB) hb); (try clear hb); have z_ := ns3 N14 N18 N29; have z_ := cB2 K5) | ((with_reducible refine gate_dst (N := 64) rfl ?_); refine Kd.R_lit (Kd.int .i64) _ 3 ?hg (N := 64) ?hd (xs := ([2] : List Int)) (inner := [.int .i64 2]) (ok := fun _ => True) (okp := fun _ => True) ?hr ?hp (fun _ hk => hk) trivial (Below.refl _ _) (Nat.le_refl _) (by simp) ?_; (case hd => rfl); (case hg => rfl); (case hr => first | (go_simp; done) | (go_simp; rfl)); (case hp => exact (Reps.one (show Kd.M (Kd.int .i64) _ _ _ 2 [.int .i64 2] from rfl) (Reps.none _ _))); intro v2 w17 o1 hb hg_ hnew_; clear hg_ hnew_; (first | rw [← Y25.out] at o1 | (simp only [Int.reduceToNat] at o1; rw [← Y25.out] at o1)); have O1 := am (Kd.R_lower o1 (below_size (YA HB))); obtain ⟨K1, K2, K3, K4, K5, K6, K7, HB⟩ := bk7 K1 K2 K3 K4 K5 K6 K7 HB hb; clear hb o1; have z_ := ns2 N4 N25; have z_ := cB2 K3))
     refine bodyPost_ret (results_ct rfl _ _ g3 24 #[.int .i64 t13, .int .i64 t14] (0, 0) _ rfl (by refine pf ?_; refine blk_put (cs := #[.int .i64 t13, .int .i64 0]) ?_ 1 _ rfl; refine pf ?_; refine blk_put (cs := #[.int .i64 0, .int .i64 0]) ?_ 0 _ rfl; exact Z K3) Try.underlying24 rfl (by kernel_rfl)) rfl ?_
     exact ⟨_, ez, by (with_reducible repeat (first | apply Kd.R_alloc | apply Kd.R_drewN | apply Kd.R_drew)); exact Kd.R_mono (Kd.R_far (p := ⟨g3, 1, none⟩) (Kd.R_far (p := ⟨g3, 0, none⟩) (Kd.R_types O1.out K3.out (by decide)) (fun _ hk => hk.2) (.int .i64 t13)) (fun _ hk => hk.2) (.int .i64 t14)) (fun _ hk => trivial), YA HB⟩

end Go.Proofs.Ythbkakcchgnhpaa.PFnRangeMore
