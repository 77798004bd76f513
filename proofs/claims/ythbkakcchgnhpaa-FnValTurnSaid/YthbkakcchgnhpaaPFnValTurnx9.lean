/- Written by this session's own driver (wip/dprint.py): the functions that the law FnValTurn reaches, as Lean functions, each with its contract. -/
import Derived.Test.YthbkakcchgnhpaaPFnValTurnx0
import Derived.Test.YthbkakcchgnhpaaPFnValTurnx1
import Derived.Test.YthbkakcchgnhpaaPFnValTurnx4
import Derived.Test.YthbkakcchgnhpaaPFnValTurnx6
import Derived.Test.YthbkakcchgnhpaaPFnValTurnx7
import Derived.Test.YthbkakcchgnhpaaPFnValTurnx8
import Derived.Test.YthbkakcchgnhpaaSv
namespace Go.Proofs.Ythbkakcchgnhpaa.PFnValTurn
open Go.RowKit Go.Proofs.YthbkakcchgnhpaaV.PrintWords Go.Proofs.YthbkakcchgnhpaaV.PrintLast Go.Proofs.YthbkakcchgnhpaaV.PrintMore Go.Proofs.YthbkakcchgnhpaaSv
set_option linter.unusedVariables false
set_option linter.unusedSimpArgs false
section
attribute [local go_sem] max2_int min2_int max_two min_two max_three min_three max_four min_four
attribute [local go_sem high] eqA50
attribute [local go_sem] Go.Proofs.YthbkakcchgnhpaaSet.isSome_setCell
mutual
def laws_FnValTurn.j0 : Nat → Int → Bool → Int → Int → Int → Int → Int → Int → Int → Int → Option (Bool)
 | 0, _, _, _, _, _, _, _, _, _, _ => none
 | k + 1, x1, x2, x3, x4, x5, x6, x7, x8, x9, x10 => if x2 = true then (none) else (laws_FnValTurn.l0 k x1 0 x3 x4 x5 x6 x7 x8 x9 x10)
def laws_FnValTurn.l0 : Nat → Int → Int → Int → Int → Int → Int → Int → Int → Int → Int → Option (Bool)
 | 0, _, _, _, _, _, _, _, _, _, _ => none
 | k + 1, x1, x2, x3, x4, x5, x6, x7, x8, x9, x10 => if x2 < 2 then ((impl_ValDo.f k (wrap64 (1 + (wrap64 (2 * x2)))) x3 x4 x5 x6 x7 x8 x9 x10).bind fun u1 => ((impl_ValDo.f k (wrap64 (1 + (wrap64 (2 * x2)))) x7 x8 x9 x10 x3 x4 x5 x6).bind fun u2 => (if (!(u1.1 == u2.1) || (!(u1.2.1 == u2.2.1) || (!(u1.2.2.1 == u2.2.2.1) || (!(u1.2.2.2.1 == u2.2.2.2.1))))) = true then (none) else ((laws_sameInts.f k u1.2.2.2.2 u2.2.2.2.2).bind fun t1 => (if t1 = true then (laws_FnValTurn.l0 k x1 (wrap64 (x2 + 1)) x3 x4 x5 x6 x7 x8 x9 x10) else (none)))))) else (if x1 = 1 then (some true) else ((impl_ValCmp.f k x1 x3 x4 x5 x6 x7 x8 x9 x10).bind fun u3 => ((impl_CmpTurn.f k x1).bind fun t2 => ((impl_ValCmp.f k t2 x7 x8 x9 x10 x3 x4 x5 x6).bind fun u4 => (if (u3.1 == u4.2.2.2.2.1 && (u3.2.1 == u4.2.2.2.2.2.1 && (u3.2.2.1 == u4.2.2.2.2.2.2.1 && (u3.2.2.2.1 == u4.2.2.2.2.2.2.2)))) = true then (some (u3.2.2.2.2.1 == u4.1 && (u3.2.2.2.2.2.1 == u4.2.1 && (u3.2.2.2.2.2.2.1 == u4.2.2.1 && (u3.2.2.2.2.2.2.2 == u4.2.2.2.1))))) else (none))))))
end
def laws_FnValTurn.f (k : Nat) (l0 : List Int) : Option (Bool) := if (l0.length : Int) > 1048576 then (some true) else ((spec_DrawValCmp.f k l0).bind fun u1 => ((impl_ValJoin.f k u1.2.1 u1.2.2.1 u1.2.2.2.1 u1.2.2.2.2.1 u1.2.2.2.2.2.1 u1.2.2.2.2.2.2.1 u1.2.2.2.2.2.2.2.1 u1.2.2.2.2.2.2.2.2).bind fun u2 => ((spec_ValJoin.f k u1.2.1 u1.2.2.1 u1.2.2.2.1 u1.2.2.2.2.1 u1.2.2.2.2.2.1 u1.2.2.2.2.2.2.1 u1.2.2.2.2.2.2.2.1 u1.2.2.2.2.2.2.2.2).bind fun u3 => (if (!(u2.1 == u3.1) || (!(u2.2.1 == u3.2.1) || (!(u2.2.2.1 == u3.2.2.1) || (!(u2.2.2.2 == u3.2.2.2))))) = true then (laws_FnValTurn.j0 k u1.1 true u1.2.1 u1.2.2.1 u1.2.2.2.1 u1.2.2.2.2.1 u1.2.2.2.2.2.1 u1.2.2.2.2.2.2.1 u1.2.2.2.2.2.2.2.1 u1.2.2.2.2.2.2.2.2) else ((impl_ValJoin.f k u1.2.1 u1.2.2.1 u1.2.2.2.1 u1.2.2.2.2.1 u1.2.2.2.2.2.1 u1.2.2.2.2.2.2.1 u1.2.2.2.2.2.2.2.1 u1.2.2.2.2.2.2.2.2).bind fun u4 => ((impl_ValJoin.f k u1.2.2.2.2.2.1 u1.2.2.2.2.2.2.1 u1.2.2.2.2.2.2.2.1 u1.2.2.2.2.2.2.2.2 u1.2.1 u1.2.2.1 u1.2.2.2.1 u1.2.2.2.2.1).bind fun u5 => (laws_FnValTurn.j0 k u1.1 (!(u4.1 == u5.1) || (!(u4.2.1 == u5.2.1) || (!(u4.2.2.1 == u5.2.2.1) || (!(u4.2.2.2 == u5.2.2.2))))) u1.2.1 u1.2.2.1 u1.2.2.2.1 u1.2.2.2.2.1 u1.2.2.2.2.2.1 u1.2.2.2.2.2.2.1 u1.2.2.2.2.2.2.2.1 u1.2.2.2.2.2.2.2.2)))))))
theorem laws_FnValTurn.mono_l : ∀ k, (∀ y0 y1 y2 y3 y4 y5 y6 y7 y8 y9, LeO (laws_FnValTurn.j0 k y0 y1 y2 y3 y4 y5 y6 y7 y8 y9) (laws_FnValTurn.j0 (k + 1) y0 y1 y2 y3 y4 y5 y6 y7 y8 y9)) ∧ (∀ y0 y1 y2 y3 y4 y5 y6 y7 y8 y9, LeO (laws_FnValTurn.l0 k y0 y1 y2 y3 y4 y5 y6 y7 y8 y9) (laws_FnValTurn.l0 (k + 1) y0 y1 y2 y3 y4 y5 y6 y7 y8 y9))
 | 0 => ⟨fun _ _ _ _ _ _ _ _ _ _ r h => by simp [laws_FnValTurn.j0] at h, fun _ _ _ _ _ _ _ _ _ _ r h => by simp [laws_FnValTurn.l0] at h⟩
 | k + 1 => by
  obtain ⟨ih0, ih1⟩ := laws_FnValTurn.mono_l k
  refine ⟨?_, ?_⟩ <;> (intros; (first | unfold laws_FnValTurn.j0 | unfold laws_FnValTurn.l0); repeat' first | (with_reducible first | apply ih0 | apply ih1 | apply impl_CmpTurn.mono | apply impl_ValCmp.mono | apply impl_ValDo.mono | apply impl_ValJoin.mono | apply laws_sameInts.mono | apply spec_DrawValCmp.mono | apply spec_ValJoin.mono | apply LeO.refl | apply LeO.none | refine LeO.ite ?_ ?_ | refine LeO.bind ?_ (fun _ => ?_)) | apply ih0 | apply ih1 | apply impl_CmpTurn.mono | apply impl_ValCmp.mono | apply impl_ValDo.mono | apply impl_ValJoin.mono | apply laws_sameInts.mono | apply spec_DrawValCmp.mono | apply spec_ValJoin.mono | apply LeO.none | refine LeO.ite ?_ ?_ | refine LeO.bind ?_ (fun _ => ?_))
theorem laws_FnValTurn.mono : ∀ a0 k, LeO (laws_FnValTurn.f k a0) (laws_FnValTurn.f (k + 1) a0) := by
 intro a0 k
 obtain ⟨ih0, ih1⟩ := laws_FnValTurn.mono_l k
 unfold laws_FnValTurn.f
 repeat' first | (with_reducible first | apply ih0 | apply ih1 | apply impl_CmpTurn.mono | apply impl_ValCmp.mono | apply impl_ValDo.mono | apply impl_ValJoin.mono | apply laws_sameInts.mono | apply spec_DrawValCmp.mono | apply spec_ValJoin.mono | apply LeO.refl | apply LeO.none | refine LeO.ite ?_ ?_ | refine LeO.bind ?_ (fun _ => ?_)) | apply ih0 | apply ih1 | apply impl_CmpTurn.mono | apply impl_ValCmp.mono | apply impl_ValDo.mono | apply impl_ValJoin.mono | apply laws_sameInts.mono | apply spec_DrawValCmp.mono | apply spec_ValJoin.mono | apply LeO.none | refine LeO.ite ?_ ?_ | refine LeO.bind ?_ (fun _ => ?_)
def laws_FnValTurn.T4 : Bool × List (List Nat × List Nat) := (true, [([], []), ([], []), ([0, 1], [0, 1]), ([], []), ([], []), ([3, 4, 2], [3, 4]), ([2, 5], [2, 5]), ([6, 5], [6]), ([7], [7]), ([7], [7]), ([8, 9, 7, 7], [7, 8, 9]), ([7], [7]), ([7], [7]), ([11, 12, 10, 7], [7, 11, 12]), ([10, 13, 7], [7, 10, 13]), ([7, 14], [7, 14])])
def laws_FnValTurn.B4 : List Nat := [0, 0, 3, 0, 0, 31, 63, 127, 255, 255, 1023, 255, 255, 8191, 16383, 32767]
theorem laws_FnValTurn.tab4 : rtab .any (opsOf Try.f8 4) = laws_FnValTurn.T4 := by kernel_rfl
theorem laws_FnValTurn.bits4 : waitsOk laws_FnValTurn.T4.2 laws_FnValTurn.B4 = true := by kernel_rfl
def laws_FnValTurn.T17 : Bool × List (List Nat × List Nat) := (true, [([], []), ([0], [0]), ([], []), ([], []), ([1, 2, 3, 1], [1, 2, 3]), ([4], [4]), ([5], [5]), ([5], [5]), ([], []), ([], []), ([8, 6, 4, 0, 1, 2, 3, 4, 5, 6, 8, 9], [6, 8]), ([9, 7, 10, 0, 1, 2, 3, 4, 5, 6, 7, 8, 9, 10], [7, 9])])
def laws_FnValTurn.B17 : List Nat := [0, 1, 0, 0, 15, 31, 63, 63, 0, 0, 895, 2047]
theorem laws_FnValTurn.tab17 : rtab .any (opsOf Try.f8 17) = laws_FnValTurn.T17 := by kernel_rfl
theorem laws_FnValTurn.bits17 : waitsOk laws_FnValTurn.T17.2 laws_FnValTurn.B17 = true := by kernel_rfl
set_option maxHeartbeats 8000000 in
set_option maxRecDepth 100000 in
theorem laws_FnValTurn.calls (k : Nat) (A1 : Option Addr) (c1 : Nat) (l0 : List Int) (r : Bool) (w : World) (hr0 : Kd.C (Kd.int .u8) w A1 l0.length l0) (hc0 : l0.length ≤ c1) (h : laws_FnValTurn.f k l0 = some r) :
  Calls Try.prog 8 #[.slice A1 l0.length c1] w fun e w' => e = .returned (.bool r) ∧ Below w.heap.size w w' := by
 have hu50 := Try.underlying50
 have R1 := am hr0
 have C1 := am hc0
 clear hr0 hc0
 have HB := am (Below.refl w.heap.size w)
 have H : (if (l0.length : Int) > 1048576 then (some true) else ((spec_DrawValCmp.f k l0).bind fun u1 => ((impl_ValJoin.f k u1.2.1 u1.2.2.1 u1.2.2.2.1 u1.2.2.2.2.1 u1.2.2.2.2.2.1 u1.2.2.2.2.2.2.1 u1.2.2.2.2.2.2.2.1 u1.2.2.2.2.2.2.2.2).bind fun u2 => ((spec_ValJoin.f k u1.2.1 u1.2.2.1 u1.2.2.2.1 u1.2.2.2.2.1 u1.2.2.2.2.2.1 u1.2.2.2.2.2.2.1 u1.2.2.2.2.2.2.2.1 u1.2.2.2.2.2.2.2.2).bind fun u3 => (if (!(u2.1 == u3.1) || (!(u2.2.1 == u3.2.1) || (!(u2.2.2.1 == u3.2.2.1) || (!(u2.2.2.2 == u3.2.2.2))))) = true then (laws_FnValTurn.j0 k u1.1 true u1.2.1 u1.2.2.1 u1.2.2.2.1 u1.2.2.2.2.1 u1.2.2.2.2.2.1 u1.2.2.2.2.2.2.1 u1.2.2.2.2.2.2.2.1 u1.2.2.2.2.2.2.2.2) else ((impl_ValJoin.f k u1.2.1 u1.2.2.1 u1.2.2.2.1 u1.2.2.2.2.1 u1.2.2.2.2.2.1 u1.2.2.2.2.2.2.1 u1.2.2.2.2.2.2.2.1 u1.2.2.2.2.2.2.2.2).bind fun u4 => ((impl_ValJoin.f k u1.2.2.2.2.2.1 u1.2.2.2.2.2.2.1 u1.2.2.2.2.2.2.2.1 u1.2.2.2.2.2.2.2.2 u1.2.1 u1.2.2.1 u1.2.2.2.1 u1.2.2.2.2.1).bind fun u5 => (laws_FnValTurn.j0 k u1.1 (!(u4.1 == u5.1) || (!(u4.2.1 == u5.2.1) || (!(u4.2.2.1 == u5.2.2.1) || (!(u4.2.2.2 == u5.2.2.2))))) u1.2.1 u1.2.2.1 u1.2.2.2.1 u1.2.2.2.2.1 u1.2.2.2.2.2.1 u1.2.2.2.2.2.2.1 u1.2.2.2.2.2.2.2.1 u1.2.2.2.2.2.2.2.2)))))))) = some r := h
 clear h
 by_cases c2 : (l0.length : Int) > 1048576
 ·rw [if_pos c2] at H
  have d1 := dT c2
  have d2 : decide (1048576 < l0.length) = true := decide_eq_true (by omega)
  clear c2
  obtain rfl := Option.some.inj H
  go_enter Try.func8, Try.ntmps8
  go_wp2
  go_ret
  exact ⟨ez, YA HB⟩
 ·rw [if_neg c2] at H
  have d1 := dF c2
  have d2 : decide (1048576 < l0.length) = false := decide_eq_false (by omega)
  clear c2
  obtain ⟨⟨t1, t2, t3, t4, t5, t6, t7, t8, t9⟩, A2, H⟩ := bd H
  try dsimp only at H
  have C2 := am H
  clear H
  go_enter Try.func8, Try.ntmps8
  go_upto_region 4 with (first | ((with_reducible refine gate_callee (f := 32) rfl ?_); refine goesL_ (some 21) rfl rfl Try.func32 (by kernel_rfl) rfl #[.slice A1 l0.length c1] rfl mz ?_; (with_reducible refine (spec_DrawValCmp.calls k _ _ l0 t1 t2 t3 t4 t5 t6 t7 t8 t9 _ ?side1 ?side2 A2.out).mono ?_); (case side1 => repeat (first | exact R1.out | (with_reducible refine Kd.C_alloc ?_ _) | (with_reducible refine Kd.C_drewN ?_ _) | (with_reducible refine Kd.C_drew ?_))); (case side2 => exact C1.out); rintro e w2 ⟨rfl, hb⟩; refine ⟨_, rfl, ?_⟩; replace HB := am (below_step (YA HB) hb); (try clear hb)) | ((with_reducible refine gate_dst (N := 4) rfl ?_); refine bxn 4 #[.int .i64 0, .int .i64 0, .int .i64 0, .int .i64 0] 50 HB fun g1 w3 K1 G1 hg hb => ?_; replace HB := am (below_step (YA HB) hb); clear hb hg) | ((with_reducible refine gate_dst (N := 5) rfl ?_); refine bxn 5 #[.int .i64 0, .int .i64 0, .int .i64 0, .int .i64 0] 50 HB fun g2 w4 K2 G2 hg hb => ?_; obtain ⟨N1,N2⟩ := ne_ hg K1; obtain ⟨K1, HB⟩ := bk1 K1 HB hb; clear hb hg; have := ns1 N1; have := cB4 K1; have := cB4 K2))
  (try simp only [Act.put, List.setIfInBounds_toArray, List.set_cons_zero, List.set_cons_succ])
  go_cut [40] (fun v1 wc => ∃ (kq : Nat) (x1 : Bool), v1 = .bool x1 ∧ Aside0 (laws_FnValTurn.j0 kq t1 x1 t2 t3 t4 t5 t6 t7 t8 t9 = some r) ∧ Aside0 (kq ≤ k) ∧ Bx4 wc g1 t2 t3 t4 t5 50 ∧ Bx4 wc g2 t6 t7 t8 t9 50 ∧ Aside0 (Below w.heap.size w wc))
  case first =>
   have H := C2.out
   clear C2
   obtain ⟨⟨t10, t11, t12, t13⟩, A3, H⟩ := bd H
   try dsimp only at H
   obtain ⟨⟨t14, t15, t16, t17⟩, A4, H⟩ := bd H
   try dsimp only at H
   by_cases c3 : (!(t10 == t14) || (!(t11 == t15) || (!(t12 == t16) || (!(t13 == t17))))) = true
   ·rw [if_pos c3] at H
    have d3 : (!(t10 == t14) || (!(t11 == t15) || (!(t12 == t16) || (!(t13 == t17))))) = true := c3
    clear c3
    (first | rw [d3] | (simp only [i64_w, i32_w]; rw [d3]) | skip)
    have H' := am H
    clear H
    try go_wp2
    have n0_ : Aside0 (((((((((w4.setCell ⟨g1, 0, none⟩ (.int .i64 t2)).setCell ⟨g1, 1, none⟩ (.int .i64 t3)).setCell ⟨g1, 2, none⟩ (.int .i64 t4)).setCell ⟨g1, 3, none⟩ (.int .i64 t5)).setCell ⟨g2, 0, none⟩ (.int .i64 t6)).setCell ⟨g2, 1, none⟩ (.int .i64 t7)).setCell ⟨g2, 2, none⟩ (.int .i64 t8)).setCell ⟨g2, 3, none⟩ (.int .i64 t9)).heap[g1]? = some (.cells #[.int .i64 t2, .int .i64 t3, .int .i64 t4, .int .i64 t5] 50 (0, 0))) := ⟨by refine fa N1 ?_; refine fa N1 ?_; refine fa N1 ?_; refine fa N1 ?_; refine pf ?_; refine bp (ia4 t2 t3 t4 0) ?_ 3; refine pf ?_; refine bp (ia4 t2 t3 0 0) ?_ 2; refine pf ?_; refine bp (ia4 t2 0 0 0) ?_ 1; refine pf ?_; refine bp (ia4 0 0 0 0) ?_ 0; exact Z K1⟩
    have n1_ : Aside0 (((((((((w4.setCell ⟨g1, 0, none⟩ (.int .i64 t2)).setCell ⟨g1, 1, none⟩ (.int .i64 t3)).setCell ⟨g1, 2, none⟩ (.int .i64 t4)).setCell ⟨g1, 3, none⟩ (.int .i64 t5)).setCell ⟨g2, 0, none⟩ (.int .i64 t6)).setCell ⟨g2, 1, none⟩ (.int .i64 t7)).setCell ⟨g2, 2, none⟩ (.int .i64 t8)).setCell ⟨g2, 3, none⟩ (.int .i64 t9)).heap[g2]? = some (.cells #[.int .i64 t6, .int .i64 t7, .int .i64 t8, .int .i64 t9] 50 (0, 0))) := ⟨by refine pf ?_; refine bp (ia4 t6 t7 t8 0) ?_ 3; refine pf ?_; refine bp (ia4 t6 t7 0 0) ?_ 2; refine pf ?_; refine bp (ia4 t6 0 0 0) ?_ 1; refine pf ?_; refine bp (ia4 0 0 0 0) ?_ 0; refine fa N2 ?_; refine fa N2 ?_; refine fa N2 ?_; refine fa N2 ?_; exact Z K2⟩
    have n2_ : Aside0 (Below w.heap.size w ((((((((w4.setCell ⟨g1, 0, none⟩ (.int .i64 t2)).setCell ⟨g1, 1, none⟩ (.int .i64 t3)).setCell ⟨g1, 2, none⟩ (.int .i64 t4)).setCell ⟨g1, 3, none⟩ (.int .i64 t5)).setCell ⟨g2, 0, none⟩ (.int .i64 t6)).setCell ⟨g2, 1, none⟩ (.int .i64 t7)).setCell ⟨g2, 2, none⟩ (.int .i64 t8)).setCell ⟨g2, 3, none⟩ (.int .i64 t9))) := ⟨YA HB⟩
    (try clear K1)
    (try clear K2)
    (try clear HB)
    generalize ((((((((w4.setCell ⟨g1, 0, none⟩ (.int .i64 t2)).setCell ⟨g1, 1, none⟩ (.int .i64 t3)).setCell ⟨g1, 2, none⟩ (.int .i64 t4)).setCell ⟨g1, 3, none⟩ (.int .i64 t5)).setCell ⟨g2, 0, none⟩ (.int .i64 t6)).setCell ⟨g2, 1, none⟩ (.int .i64 t7)).setCell ⟨g2, 2, none⟩ (.int .i64 t8)).setCell ⟨g2, 3, none⟩ (.int .i64 t9)) = w5 at n0_ n1_ n2_ ⊢
    have K1 := n0_
    have K2 := n1_
    have HB := n2_
    clear n0_ n1_ n2_
    obtain ⟨K1, K2, HB⟩ := dk2 K1 K2 HB
    refine start_ (n := 16) (S := fun w' => ce4 w' g1 t2 t3 t4 t5 ∧ ce4 w' g2 t6 t7 t8 t9) (ds := []) (lb 16 0) (by kernel_rfl) rfl rfl ⟨cc4 K1, cc4 K2⟩ (fun hHeld => ?_); refine with_tabW laws_FnValTurn.tab4 laws_FnValTurn.bits4 (fun HT_ HW_ => ?_)
    generalize w5.drew = w6 at K1 K2 HB hHeld ⊢
    refine tk 0 25 1 hHeld ?_
    refine tk 1 26 3 hHeld ?_
    refine tk 3 28 11 hHeld ?_
    refine tk 4 29 27 hHeld ?_
    refine on 2 (some 27) 31 fun K hK => ?_
    refine ck hK Try.func33 (impl_ValJoin.calls _ _ _ _ _ _ _ _ _ _ _ _ _ _ A3.out) (fun _ b => bk2 K1 K2 HB b) fun w7 Q_ hHeld => ?_
    clear hK K
    obtain ⟨K1, K2, HB⟩ := Q_
    refine on 5 (some 30) 63 fun K hK => ?_
    refine ck hK Try.func34 (spec_ValJoin.calls _ _ _ _ _ _ _ _ _ _ _ _ _ _ A4.out) (fun _ b => bk2 K1 K2 HB b) fun w8 Q_ hHeld => ?_
    clear hK K
    obtain ⟨K1, K2, HB⟩ := Q_
    refine pk 6 31 127 ?_
    refine pk 7 32 255 ?_
    refine uk 8 33 511 ?_
    refine uk 9 34 1023 ?_
    refine uk 10 35 2047 ?_
    refine uk 11 36 4095 ?_
    refine uk 12 37 8191 ?_
    refine uk 13 38 16383 ?_
    refine uk 14 39 32767 ?_
    refine pk 15 40 65535 ?_
    refine done_ (done_of HT_.out (by kernel_rfl)) ?_
    try go_wp2
    go_meet
    case rel => exact ⟨_, (true), ey, H', le0, ⟨Z K1⟩, ⟨Z K2⟩, ⟨YA HB⟩⟩
   rw [if_neg c3] at H
   have d3 : (!(t10 == t14) || (!(t11 == t15) || (!(t12 == t16) || (!(t13 == t17))))) = false := by simpa using c3
   clear c3
   (first | rw [d3] | (simp only [i64_w, i32_w]; rw [d3]) | skip)
   obtain ⟨⟨t18, t19, t20, t21⟩, A5, H⟩ := bd H
   try dsimp only at H
   obtain ⟨⟨t22, t23, t24, t25⟩, A6, H⟩ := bd H
   try dsimp only at H
   have H' := am H
   clear H
   try go_wp2
   have n0_ : Aside0 (((((((((w4.setCell ⟨g1, 0, none⟩ (.int .i64 t2)).setCell ⟨g1, 1, none⟩ (.int .i64 t3)).setCell ⟨g1, 2, none⟩ (.int .i64 t4)).setCell ⟨g1, 3, none⟩ (.int .i64 t5)).setCell ⟨g2, 0, none⟩ (.int .i64 t6)).setCell ⟨g2, 1, none⟩ (.int .i64 t7)).setCell ⟨g2, 2, none⟩ (.int .i64 t8)).setCell ⟨g2, 3, none⟩ (.int .i64 t9)).heap[g1]? = some (.cells #[.int .i64 t2, .int .i64 t3, .int .i64 t4, .int .i64 t5] 50 (0, 0))) := ⟨by refine fa N1 ?_; refine fa N1 ?_; refine fa N1 ?_; refine fa N1 ?_; refine pf ?_; refine bp (ia4 t2 t3 t4 0) ?_ 3; refine pf ?_; refine bp (ia4 t2 t3 0 0) ?_ 2; refine pf ?_; refine bp (ia4 t2 0 0 0) ?_ 1; refine pf ?_; refine bp (ia4 0 0 0 0) ?_ 0; exact Z K1⟩
   have n1_ : Aside0 (((((((((w4.setCell ⟨g1, 0, none⟩ (.int .i64 t2)).setCell ⟨g1, 1, none⟩ (.int .i64 t3)).setCell ⟨g1, 2, none⟩ (.int .i64 t4)).setCell ⟨g1, 3, none⟩ (.int .i64 t5)).setCell ⟨g2, 0, none⟩ (.int .i64 t6)).setCell ⟨g2, 1, none⟩ (.int .i64 t7)).setCell ⟨g2, 2, none⟩ (.int .i64 t8)).setCell ⟨g2, 3, none⟩ (.int .i64 t9)).heap[g2]? = some (.cells #[.int .i64 t6, .int .i64 t7, .int .i64 t8, .int .i64 t9] 50 (0, 0))) := ⟨by refine pf ?_; refine bp (ia4 t6 t7 t8 0) ?_ 3; refine pf ?_; refine bp (ia4 t6 t7 0 0) ?_ 2; refine pf ?_; refine bp (ia4 t6 0 0 0) ?_ 1; refine pf ?_; refine bp (ia4 0 0 0 0) ?_ 0; refine fa N2 ?_; refine fa N2 ?_; refine fa N2 ?_; refine fa N2 ?_; exact Z K2⟩
   have n2_ : Aside0 (Below w.heap.size w ((((((((w4.setCell ⟨g1, 0, none⟩ (.int .i64 t2)).setCell ⟨g1, 1, none⟩ (.int .i64 t3)).setCell ⟨g1, 2, none⟩ (.int .i64 t4)).setCell ⟨g1, 3, none⟩ (.int .i64 t5)).setCell ⟨g2, 0, none⟩ (.int .i64 t6)).setCell ⟨g2, 1, none⟩ (.int .i64 t7)).setCell ⟨g2, 2, none⟩ (.int .i64 t8)).setCell ⟨g2, 3, none⟩ (.int .i64 t9))) := ⟨YA HB⟩
   (try clear K1)
   (try clear K2)
   (try clear HB)
   generalize ((((((((w4.setCell ⟨g1, 0, none⟩ (.int .i64 t2)).setCell ⟨g1, 1, none⟩ (.int .i64 t3)).setCell ⟨g1, 2, none⟩ (.int .i64 t4)).setCell ⟨g1, 3, none⟩ (.int .i64 t5)).setCell ⟨g2, 0, none⟩ (.int .i64 t6)).setCell ⟨g2, 1, none⟩ (.int .i64 t7)).setCell ⟨g2, 2, none⟩ (.int .i64 t8)).setCell ⟨g2, 3, none⟩ (.int .i64 t9)) = w5 at n0_ n1_ n2_ ⊢
   have K1 := n0_
   have K2 := n1_
   have HB := n2_
   clear n0_ n1_ n2_
   obtain ⟨K1, K2, HB⟩ := dk2 K1 K2 HB
   refine start_ (n := 16) (S := fun w' => ce4 w' g1 t2 t3 t4 t5 ∧ ce4 w' g2 t6 t7 t8 t9) (ds := []) (lb 16 0) (by kernel_rfl) rfl rfl ⟨cc4 K1, cc4 K2⟩ (fun hHeld => ?_); refine with_tabW laws_FnValTurn.tab4 laws_FnValTurn.bits4 (fun HT_ HW_ => ?_)
   generalize w5.drew = w6 at K1 K2 HB hHeld ⊢
   refine tk 0 25 1 hHeld ?_
   refine tk 1 26 3 hHeld ?_
   refine tk 3 28 11 hHeld ?_
   refine tk 4 29 27 hHeld ?_
   refine on 2 (some 27) 31 fun K hK => ?_
   refine ck hK Try.func33 (impl_ValJoin.calls _ _ _ _ _ _ _ _ _ _ _ _ _ _ A3.out) (fun _ b => bk2 K1 K2 HB b) fun w7 Q_ hHeld => ?_
   clear hK K
   obtain ⟨K1, K2, HB⟩ := Q_
   refine on 5 (some 30) 63 fun K hK => ?_
   refine ck hK Try.func34 (spec_ValJoin.calls _ _ _ _ _ _ _ _ _ _ _ _ _ _ A4.out) (fun _ b => bk2 K1 K2 HB b) fun w8 Q_ hHeld => ?_
   clear hK K
   obtain ⟨K1, K2, HB⟩ := Q_
   refine pk 6 31 127 ?_
   refine pk 7 32 255 ?_
   refine tk 8 33 511 hHeld ?_
   refine tk 9 34 1023 hHeld ?_
   refine tk 11 36 3071 hHeld ?_
   refine tk 12 37 7167 hHeld ?_
   refine on 10 (some 35) 8191 fun K hK => ?_
   refine ck hK Try.func33 (impl_ValJoin.calls _ _ _ _ _ _ _ _ _ _ _ _ _ _ A5.out) (fun _ b => bk2 K1 K2 HB b) fun w9 Q_ hHeld => ?_
   clear hK K
   obtain ⟨K1, K2, HB⟩ := Q_
   refine on 13 (some 38) 16383 fun K hK => ?_
   refine ck hK Try.func33 (impl_ValJoin.calls _ _ _ _ _ _ _ _ _ _ _ _ _ _ A6.out) (fun _ b => bk2 K1 K2 HB b) fun w10 Q_ hHeld => ?_
   clear hK K
   obtain ⟨K1, K2, HB⟩ := Q_
   refine pk 14 39 32767 ?_
   refine pk 15 40 65535 ?_
   refine done_ (done_of HT_.out (by kernel_rfl)) ?_
   try go_wp2
   go_meet
   case rel => exact ⟨_, ((!(t18 == t22) || (!(t19 == t23) || (!(t20 == t24) || (!(t21 == t25)))))), ey, H', le0, ⟨Z K1⟩, ⟨Z K2⟩, ⟨YA HB⟩⟩
  clear C2
  (try clear d1);(try clear d2)
  obtain ⟨kq, x1, rfl, HA, J1, K1, K2, HB⟩ := hcut
  cases kq with
  | zero => exact absurd HA.out (by simp [laws_FnValTurn.j0])
  | succ k1 => ?_
  have H := HA.out
  clear HA
  simp only [laws_FnValTurn.j0] at H
  by_cases c3 : x1 = true
  ·subst c3
   rw [if_pos rfl] at H
   exact absurd H (by simp)
  replace c3 := Bool.eq_false_iff.mpr c3
  subst c3
  rw [if_neg ff] at H
  have H' := am H
  clear H
  go_wp2
  go_loopg [6] k1 (fun kq v2 w' => ∃ (x2 : Int), v2 = .int .i64 x2 ∧ Aside0 (laws_FnValTurn.l0 kq t1 x2 t2 t3 t4 t5 t6 t7 t8 t9 = some r) ∧ Aside0 (kq ≤ k1) ∧ Aside0 (w'.heap[g1]? = some (.cells #[.int .i64 t2, .int .i64 t3, .int .i64 t4, .int .i64 t5] 50 (0, 0))) ∧ Aside0 (w'.heap[g2]? = some (.cells #[.int .i64 t6, .int .i64 t7, .int .i64 t8, .int .i64 t9] 50 (0, 0))) ∧ Aside0 (Below w.heap.size w w'))
  case atStart => exact ⟨(0), ey, H', ⟨Nat.le_refl _⟩, ⟨Z K1⟩, ⟨Z K2⟩, ⟨YA HB⟩⟩
  case round =>
   clear H'
   try clear c3
   obtain ⟨x2, rfl, HA, HK2, K1, K2, HB⟩ := hrel
   cases gk with
   | zero => exact absurd HA.out (by simp [laws_FnValTurn.l0])
   | succ k2 => ?_
   have H := HA.out
   clear HA
   simp only [laws_FnValTurn.l0] at H
   by_cases c4 : x2 < 2
   ·rw [if_pos c4] at H
    have d3 := dT c4
    clear c4
    obtain ⟨⟨t10, t11, t12, t13, t14⟩, A3, H⟩ := bd H
    try dsimp only at H
    obtain ⟨⟨t15, t16, t17, t18, t19⟩, A4, H⟩ := bd H
    try dsimp only at H
    by_cases c5 : (!(t10 == t15) || (!(t11 == t16) || (!(t12 == t17) || (!(t13 == t18))))) = true
    ·rw [if_pos c5] at H
     exact absurd H (by simp)
    rw [if_neg c5] at H
    have d4 : (!(t10 == t15) || (!(t11 == t16) || (!(t12 == t17) || (!(t13 == t18))))) = false := by simpa using c5
    clear c5
    obtain ⟨t20, A5, H⟩ := bd H
    try dsimp only at H
    by_cases c6 : t20 = true
    rotate_left
    ·replace c6 := Bool.eq_false_iff.mpr c6
     subst c6
     rw [if_neg ff] at H
     exact absurd H (by simp)
    subst c6
    rw [if_pos rfl] at H
    have H' := am H
    clear H
    have := ns1 N1
    have := cB4 K1
    have := cB4 K2
    go_wp2_with (first | ((with_reducible refine gate_callee (f := 30) rfl ?_); refine goesL_ (some 52) rfl rfl Try.func30 (by kernel_rfl) rfl #[.int .i64 (wrap64 (1 + (wrap64 (2 * x2)))), .agg #[.int .i64 t2, .int .i64 t3, .int .i64 t4, .int .i64 t5], .agg #[.int .i64 t6, .int .i64 t7, .int .i64 t8, .int .i64 t9]] rfl mz ?_; (with_reducible refine (impl_ValDo.calls _ _ _ _ _ _ _ _ _ _ _ _ _ _ _ _ A3.out).mono ?_); rintro e w5 ⟨v3, rfl, o1, hb⟩; refine ⟨_, rfl, ?_⟩; have O1 := am (Kd.R_lower o1 (below_size (YA HB))); obtain ⟨K1, K2, HB⟩ := bk2 K1 K2 HB hb; (try clear hb); (try clear o1)) | ((with_reducible refine gate_dst (N := 8) rfl ?_); refine bxn 8 #[.int .i64 0, .int .i64 0, .int .i64 0, .int .i64 0] 50 HB fun g3 w6 K3 G3 hg hb => ?_; obtain ⟨N3,N4⟩ := ne_ hg K1; obtain ⟨N5,N6⟩ := ne_ hg K2; replace O1 := am (Kd.R_below (RZ O1) hb); obtain ⟨K1, K2, HB⟩ := bk2 K1 K2 HB hb; clear hb hg; have := ns2 N4 N6; have := cB4 K3; have := cB4 K2; have := cB4 K1) | ((with_reducible refine gate_callee (f := 30) rfl ?_); refine goesL_ (some 59) rfl rfl Try.func30 (by kernel_rfl) rfl #[.int .i64 (wrap64 (1 + (wrap64 (2 * x2)))), .agg #[.int .i64 t6, .int .i64 t7, .int .i64 t8, .int .i64 t9], .agg #[.int .i64 t2, .int .i64 t3, .int .i64 t4, .int .i64 t5]] rfl mz ?_; (with_reducible refine (impl_ValDo.calls _ _ _ _ _ _ _ _ _ _ _ _ _ _ _ _ A4.out).mono ?_); rintro e w7 ⟨v4, rfl, o1, hb⟩; refine ⟨_, rfl, ?_⟩; have O2 := am (Kd.R_lower (Kd.R_new' o1 (Kd.R_lt (by (with_reducible repeat (first | apply Kd.R_alloc | apply Kd.R_drewN | apply Kd.R_drew)); exact (Kd.R_mono (Kd.R_far (p := ⟨g3, 3, none⟩) (Kd.R_far (p := ⟨g3, 2, none⟩) (Kd.R_far (p := ⟨g3, 1, none⟩) (Kd.R_far (p := ⟨g3, 0, none⟩) (Kd.R_types O1.out K3.out (by decide)) (fun _ hk => hk.2) (.int .i64 t10)) (fun _ hk => hk.2) (.int .i64 t11)) (fun _ hk => hk.2) (.int .i64 t12)) (fun _ hk => hk.2) (.int .i64 t13)) (fun _ h_ => h_.1))))) (below_size (YA HB))); replace O1 := am (Kd.R_elder' (by (with_reducible repeat (first | apply Kd.R_alloc | apply Kd.R_drewN | apply Kd.R_drew)); exact (Kd.R_mono (Kd.R_far (p := ⟨g3, 3, none⟩) (Kd.R_far (p := ⟨g3, 2, none⟩) (Kd.R_far (p := ⟨g3, 1, none⟩) (Kd.R_far (p := ⟨g3, 0, none⟩) (Kd.R_types O1.out K3.out (by decide)) (fun _ hk => hk.2) (.int .i64 t10)) (fun _ hk => hk.2) (.int .i64 t11)) (fun _ hk => hk.2) (.int .i64 t12)) (fun _ hk => hk.2) (.int .i64 t13)) (fun _ h_ => h_.1))) (Kd.R_base o1) hb); replace K1 := am (blk_below (g := g1) (o := b4 t2 t3 t4 t5 50) (ft N3 K1) hb); replace K2 := am (blk_below (g := g2) (o := b4 t6 t7 t8 t9 50) (ft N5 K2) hb); replace K3 := am (blk_below (g := g3) (o := b4 t10 t11 t12 t13 50) (by refine pf ?_; refine bp (ia4 t10 t11 t12 0) ?_ 3; refine pf ?_; refine bp (ia4 t10 t11 0 0) ?_ 2; refine pf ?_; refine bp (ia4 t10 0 0 0) ?_ 1; refine pf ?_; refine bp (ia4 0 0 0 0) ?_ 0; exact Z K3) hb); replace HB := am (below_step (YA HB) hb); (try clear hb); (try clear o1)) | ((with_reducible refine gate_dst (N := 10) rfl ?_); refine bxn 10 #[.int .i64 0, .int .i64 0, .int .i64 0, .int .i64 0] 50 HB fun g4 w8 K4 G4 hg hb => ?_; obtain ⟨N7,N8⟩ := ne_ hg K1; obtain ⟨N9,N10⟩ := ne_ hg K2; obtain ⟨N11,N12⟩ := ne_ hg K3; replace O1 := am (Kd.R_below (RZ O1) hb); replace O2 := am (Kd.R_below (RZ O2) hb); obtain ⟨K1, K2, K3, HB⟩ := bk3 K1 K2 K3 HB hb; clear hb hg; have := ns3 N8 N10 N12; have := cB4 K4; have := cB4 K3; obtain ⟨q1, f1, e1⟩ := Kd.R_slice O1.out; subst e1; obtain ⟨q2, f2, e2⟩ := Kd.R_slice O2.out; subst e2) | (go_at_call 20; (with_reducible refine (laws_sameInts.calls k2 _ _ t14 _ _ t19 true _ ?side1 ?side2 ?side3 ?side4 A5.out).mono ?_); (case side1 => refine (Kd.R_reads' (e := 3) (base := w.heap.size) (ok := fun k_ => (True ∧ some k_ ≠ (.slice q2 t19.length f2 : Value).ownBlock)) (n := t14.length) (c := f1) ?_).2.2; exact (by (with_reducible repeat (first | apply Kd.R_alloc | apply Kd.R_drewN | apply Kd.R_drew)); exact (Kd.R_mono (Kd.R_far (p := ⟨g4, 3, none⟩) (Kd.R_far (p := ⟨g4, 2, none⟩) (Kd.R_far (p := ⟨g4, 1, none⟩) (Kd.R_far (p := ⟨g4, 0, none⟩) (Kd.R_types O1.out K4.out (by decide)) (fun _ hk => hk.2) (.int .i64 t15)) (fun _ hk => hk.2) (.int .i64 t16)) (fun _ hk => hk.2) (.int .i64 t17)) (fun _ hk => hk.2) (.int .i64 t18)) (fun _ h_ => h_.1)))); (case side2 => exact (Kd.R_reads' O1.out).2.1); (case side3 => refine (Kd.R_reads' (e := 3) (base := w.heap.size) (ok := fun k_ => (True ∧ some k_ ≠ (.slice q1 t14.length f1 : Value).ownBlock)) (n := t19.length) (c := f2) ?_).2.2; exact (by (with_reducible repeat (first | apply Kd.R_alloc | apply Kd.R_drewN | apply Kd.R_drew)); exact (Kd.R_mono (Kd.R_far (p := ⟨g4, 3, none⟩) (Kd.R_far (p := ⟨g4, 2, none⟩) (Kd.R_far (p := ⟨g4, 1, none⟩) (Kd.R_far (p := ⟨g4, 0, none⟩) (Kd.R_types O2.out K4.out (by decide)) (fun _ hk => hk.2) (.int .i64 t15)) (fun _ hk => hk.2) (.int .i64 t16)) (fun _ hk => hk.2) (.int .i64 t17)) (fun _ hk => hk.2) (.int .i64 t18)) (fun _ h_ => h_.1)))); (case side4 => exact (Kd.R_reads' O2.out).2.1); rintro e w' ⟨rfl, ⟨nd, rfl⟩⟩))
    go_roundg k2
    case measure => have := J1.out; have := HK2.out; omega
    case rel => exact ⟨(wrap64 (x2 + 1)), ey, H', ⟨by have := J1.out; have := HK2.out; omega⟩, ⟨ft N7 K1⟩, ⟨ft N9 K2⟩, ⟨YA HB⟩⟩
   rw [if_neg c4] at H
   have d3 := dF c4
   clear c4
   by_cases c5 : t1 = 1
   ·rw [if_pos c5] at H
    have d4 := eT c5
    have d5 := nF c5
    clear c5
    obtain rfl := Option.some.inj H
    go_wp2
    go_ret
    exact ⟨ez, YA HB⟩
   rw [if_neg c5] at H
   have d4 := eF c5
   have d5 := nT c5
   obtain ⟨⟨t10, t11, t12, t13, t14, t15, t16, t17⟩, A3, H⟩ := bd H
   try dsimp only at H
   obtain ⟨t18, A4, H⟩ := bd H
   try dsimp only at H
   obtain ⟨⟨t19, t20, t21, t22, t23, t24, t25, t26⟩, A5, H⟩ := bd H
   try dsimp only at H
   by_cases c6 : (t10 == t23 && (t11 == t24 && (t12 == t25 && (t13 == t26)))) = true
   rotate_left
   ·rw [if_neg c6] at H
    exact absurd H (by simp)
   rw [if_pos c6] at H
   have d6 : (t10 == t23 && (t11 == t24 && (t12 == t25 && (t13 == t26)))) = true := c6
   (try (have d7 : decide (t10 = t23 && (t11 == t24 && (t12 == t25 && (t13 == t26)))) = true := by simpa using c6))
   (try (have d8 : (t10 == t23 && (t11 == t24 && (t12 == t25 && (t13 == t26)))) = true := by simpa using c6))
   clear c6
   obtain rfl := Option.some.inj H
   have := ns1 N1
   have := cB4 K1
   have := cB4 K2
   try go_wp2_with (first | ((with_reducible refine gate_callee (f := 35) rfl ?_); refine gL 77 Try.func35 (impl_ValCmp.calls _ _ _ _ _ _ _ _ _ _ _ _ _ _ _ _ _ _ _ A3.out) fun w5 hb => ?_; obtain ⟨K1, K2, HB⟩ := bk2 K1 K2 HB hb; (try clear hb)) | ((with_reducible refine gate_dst (N := 12) rfl ?_); refine bxn 12 #[.int .i64 0, .int .i64 0, .int .i64 0, .int .i64 0] 50 HB fun g3 w6 K3 G3 hg hb => ?_; obtain ⟨N3,N4⟩ := ne_ hg K1; obtain ⟨N5,N6⟩ := ne_ hg K2; obtain ⟨K1, K2, HB⟩ := bk2 K1 K2 HB hb; clear hb hg) | ((with_reducible refine gate_dst (N := 13) rfl ?_); refine bxn 13 #[.int .i64 0, .int .i64 0, .int .i64 0, .int .i64 0] 50 HB fun g4 w7 K4 G4 hg hb => ?_; obtain ⟨N7,N8⟩ := ne_ hg K1; obtain ⟨N9,N10⟩ := ne_ hg K2; obtain ⟨N11,N12⟩ := ne_ hg K3; obtain ⟨K1, K2, K3, HB⟩ := bk3 K1 K2 K3 HB hb; clear hb hg; have := ns5 N4 N6 N11 N8 N10; have := cB4 K3; have := cB4 K4))
   have n0_ : Aside0 (((((((((w7.setCell ⟨g3, 0, none⟩ (.int .i64 t10)).setCell ⟨g3, 1, none⟩ (.int .i64 t11)).setCell ⟨g3, 2, none⟩ (.int .i64 t12)).setCell ⟨g3, 3, none⟩ (.int .i64 t13)).setCell ⟨g4, 0, none⟩ (.int .i64 t14)).setCell ⟨g4, 1, none⟩ (.int .i64 t15)).setCell ⟨g4, 2, none⟩ (.int .i64 t16)).setCell ⟨g4, 3, none⟩ (.int .i64 t17)).heap[g1]? = some (.cells #[.int .i64 t2, .int .i64 t3, .int .i64 t4, .int .i64 t5] 50 (0, 0))) := ⟨ft2 N7 N3 K1⟩
   have n1_ : Aside0 (((((((((w7.setCell ⟨g3, 0, none⟩ (.int .i64 t10)).setCell ⟨g3, 1, none⟩ (.int .i64 t11)).setCell ⟨g3, 2, none⟩ (.int .i64 t12)).setCell ⟨g3, 3, none⟩ (.int .i64 t13)).setCell ⟨g4, 0, none⟩ (.int .i64 t14)).setCell ⟨g4, 1, none⟩ (.int .i64 t15)).setCell ⟨g4, 2, none⟩ (.int .i64 t16)).setCell ⟨g4, 3, none⟩ (.int .i64 t17)).heap[g2]? = some (.cells #[.int .i64 t6, .int .i64 t7, .int .i64 t8, .int .i64 t9] 50 (0, 0))) := ⟨ft2 N9 N5 K2⟩
   have n2_ : Aside0 (((((((((w7.setCell ⟨g3, 0, none⟩ (.int .i64 t10)).setCell ⟨g3, 1, none⟩ (.int .i64 t11)).setCell ⟨g3, 2, none⟩ (.int .i64 t12)).setCell ⟨g3, 3, none⟩ (.int .i64 t13)).setCell ⟨g4, 0, none⟩ (.int .i64 t14)).setCell ⟨g4, 1, none⟩ (.int .i64 t15)).setCell ⟨g4, 2, none⟩ (.int .i64 t16)).setCell ⟨g4, 3, none⟩ (.int .i64 t17)).heap[g3]? = some (.cells #[.int .i64 t10, .int .i64 t11, .int .i64 t12, .int .i64 t13] 50 (0, 0))) := ⟨by refine fa N11 ?_; refine fa N11 ?_; refine fa N11 ?_; refine fa N11 ?_; refine pf ?_; refine bp (ia4 t10 t11 t12 0) ?_ 3; refine pf ?_; refine bp (ia4 t10 t11 0 0) ?_ 2; refine pf ?_; refine bp (ia4 t10 0 0 0) ?_ 1; refine pf ?_; refine bp (ia4 0 0 0 0) ?_ 0; exact Z K3⟩
   have n3_ : Aside0 (((((((((w7.setCell ⟨g3, 0, none⟩ (.int .i64 t10)).setCell ⟨g3, 1, none⟩ (.int .i64 t11)).setCell ⟨g3, 2, none⟩ (.int .i64 t12)).setCell ⟨g3, 3, none⟩ (.int .i64 t13)).setCell ⟨g4, 0, none⟩ (.int .i64 t14)).setCell ⟨g4, 1, none⟩ (.int .i64 t15)).setCell ⟨g4, 2, none⟩ (.int .i64 t16)).setCell ⟨g4, 3, none⟩ (.int .i64 t17)).heap[g4]? = some (.cells #[.int .i64 t14, .int .i64 t15, .int .i64 t16, .int .i64 t17] 50 (0, 0))) := ⟨by refine pf ?_; refine bp (ia4 t14 t15 t16 0) ?_ 3; refine pf ?_; refine bp (ia4 t14 t15 0 0) ?_ 2; refine pf ?_; refine bp (ia4 t14 0 0 0) ?_ 1; refine pf ?_; refine bp (ia4 0 0 0 0) ?_ 0; refine fa N12 ?_; refine fa N12 ?_; refine fa N12 ?_; refine fa N12 ?_; exact Z K4⟩
   have n4_ : Aside0 (Below w.heap.size w ((((((((w7.setCell ⟨g3, 0, none⟩ (.int .i64 t10)).setCell ⟨g3, 1, none⟩ (.int .i64 t11)).setCell ⟨g3, 2, none⟩ (.int .i64 t12)).setCell ⟨g3, 3, none⟩ (.int .i64 t13)).setCell ⟨g4, 0, none⟩ (.int .i64 t14)).setCell ⟨g4, 1, none⟩ (.int .i64 t15)).setCell ⟨g4, 2, none⟩ (.int .i64 t16)).setCell ⟨g4, 3, none⟩ (.int .i64 t17))) := ⟨YA HB⟩
   (try clear K1)
   (try clear K2)
   (try clear K3)
   (try clear K4)
   (try clear HB)
   generalize ((((((((w7.setCell ⟨g3, 0, none⟩ (.int .i64 t10)).setCell ⟨g3, 1, none⟩ (.int .i64 t11)).setCell ⟨g3, 2, none⟩ (.int .i64 t12)).setCell ⟨g3, 3, none⟩ (.int .i64 t13)).setCell ⟨g4, 0, none⟩ (.int .i64 t14)).setCell ⟨g4, 1, none⟩ (.int .i64 t15)).setCell ⟨g4, 2, none⟩ (.int .i64 t16)).setCell ⟨g4, 3, none⟩ (.int .i64 t17)) = w8 at n0_ n1_ n2_ n3_ n4_ ⊢
   have K1 := n0_
   have K2 := n1_
   have K3 := n2_
   have K4 := n3_
   have HB := n4_
   clear n0_ n1_ n2_ n3_ n4_
   obtain ⟨K1, K2, K3, K4, HB⟩ := dk4 K1 K2 K3 K4 HB
   refine start_ (n := 12) (S := fun w' => ce4 w' g2 t6 t7 t8 t9 ∧ ce4 w' g1 t2 t3 t4 t5) (ds := []) (lb 12 0) (by kernel_rfl) rfl rfl ⟨cc4 K2, cc4 K1⟩ (fun hHeld => ?_); refine with_tabW laws_FnValTurn.tab17 laws_FnValTurn.bits17 (fun HT_ HW_ => ?_)
   generalize w8.drew = w9 at K1 K2 K3 K4 HB hHeld ⊢
   refine pk 0 81 1 ?_
   refine tk 2 83 5 hHeld ?_
   refine tk 3 84 13 hHeld ?_
   refine join_ (σ := Nat × Nat) 2 (lb 12 1023) (fun s_ => [(82, .int .i64 t18), (85, .tuple #[.agg #[.int .i64 t19, .int .i64 t20, .int .i64 t21, .int .i64 t22], .agg #[.int .i64 t23, .int .i64 t24, .int .i64 t25, .int .i64 t26]]), (14, .pointer (some ⟨s_.1, 0, none⟩)), (15, .pointer (some ⟨s_.2, 0, none⟩)), (80, .tuple #[.agg #[.int .i64 t19, .int .i64 t20, .int .i64 t21, .int .i64 t22], .agg #[.int .i64 t23, .int .i64 t24, .int .i64 t25, .int .i64 t26]]), (86, .agg #[.int .i64 t19, .int .i64 t20, .int .i64 t21, .int .i64 t22]), (87, .agg #[.int .i64 t23, .int .i64 t24, .int .i64 t25, .int .i64 t26])]) (fun s_ w' => (ce4 w' g2 t6 t7 t8 t9 ∧ ce4 w' g1 t2 t3 t4 t5) ∧ Bx4 w' g3 t10 t11 t12 t13 50 ∧ Bx4 w' g4 t14 t15 t16 t17 50 ∧ Bx4 w' s_.1 0 0 0 0 50 ∧ Bx4 w' s_.2 0 0 0 0 50 ∧ Bx4 w' g1 t2 t3 t4 t5 50 ∧ Bx4 w' g2 t6 t7 t8 t9 50 ∧ Aside0 (w.heap.size ≤ s_.1) ∧ Aside0 (w.heap.size ≤ s_.1) ∧ Aside0 (g3 ≠ s_.1) ∧ Aside0 (s_.1 ≠ g3) ∧ Aside0 (g4 ≠ s_.1) ∧ Aside0 (s_.1 ≠ g4) ∧ Aside0 (s_.2 ≠ s_.1) ∧ Aside0 (s_.1 ≠ s_.2) ∧ Aside0 (g1 ≠ s_.1) ∧ Aside0 (s_.1 ≠ g1) ∧ Aside0 (g2 ≠ s_.1) ∧ Aside0 (s_.1 ≠ g2) ∧ Aside0 (w.heap.size ≤ s_.2) ∧ Aside0 (w.heap.size ≤ s_.2) ∧ Aside0 (g3 ≠ s_.2) ∧ Aside0 (s_.2 ≠ g3) ∧ Aside0 (g4 ≠ s_.2) ∧ Aside0 (s_.2 ≠ g4) ∧ Aside0 (g1 ≠ s_.2) ∧ Aside0 (s_.2 ≠ g1) ∧ Aside0 (g2 ≠ s_.2) ∧ Aside0 (s_.2 ≠ g2) ∧ Aside0 (Below w.heap.size w w')) ?_ ?_
   rotate_left
   ·intro hJ1_4_8_9
    refine join_ (σ := Nat) 3 (lb 12 511) (fun s_ => [(82, .int .i64 t18), (85, .tuple #[.agg #[.int .i64 t19, .int .i64 t20, .int .i64 t21, .int .i64 t22], .agg #[.int .i64 t23, .int .i64 t24, .int .i64 t25, .int .i64 t26]]), (14, .pointer (some ⟨s_, 0, none⟩)), (80, .tuple #[.agg #[.int .i64 t19, .int .i64 t20, .int .i64 t21, .int .i64 t22], .agg #[.int .i64 t23, .int .i64 t24, .int .i64 t25, .int .i64 t26]]), (86, .agg #[.int .i64 t19, .int .i64 t20, .int .i64 t21, .int .i64 t22]), (87, .agg #[.int .i64 t23, .int .i64 t24, .int .i64 t25, .int .i64 t26])]) (fun s_ w' => (ce4 w' g2 t6 t7 t8 t9 ∧ ce4 w' g1 t2 t3 t4 t5) ∧ Bx4 w' g3 t10 t11 t12 t13 50 ∧ Bx4 w' g4 t14 t15 t16 t17 50 ∧ Bx4 w' s_ 0 0 0 0 50 ∧ Bx4 w' g1 t2 t3 t4 t5 50 ∧ Bx4 w' g2 t6 t7 t8 t9 50 ∧ Aside0 (w.heap.size ≤ s_) ∧ Aside0 (w.heap.size ≤ s_) ∧ Aside0 (g3 ≠ s_) ∧ Aside0 (s_ ≠ g3) ∧ Aside0 (g4 ≠ s_) ∧ Aside0 (s_ ≠ g4) ∧ Aside0 (g1 ≠ s_) ∧ Aside0 (s_ ≠ g1) ∧ Aside0 (g2 ≠ s_) ∧ Aside0 (s_ ≠ g2) ∧ Aside0 (Below w.heap.size w w')) ?_ ?_
    rotate_left
    rotate_left
    ·skip
     rintro g5 w10 ⟨hHeld, K3, K4, K5, K1, K2, G5, G6, N13, N14, N15, N16, N17, N18, N19, N20, HB⟩
     refine norm_ nz ?_
     refine on 9 (some 15) 1023 fun K hK => ?_
     refine box_step ?hg (N := 15) ?hd (cs := #[.int .i64 0, .int .i64 0, .int .i64 0, .int .i64 0]) (t := 50) ?hr ?_; (case hd => rfl); (case hg => rfl); (case hr => first | (go_simp; done) | (go_simp; rfl))
     intro g6 hg w11 hbox hb
     have K6 := am (hbox)
     have G7 := am (bs hg (YA HB))
     have G8 := am (bs hg (YA HB))
     obtain ⟨N21,N22⟩ := ne_ hg K1
     obtain ⟨N23,N24⟩ := ne_ hg K2
     obtain ⟨N25,N26⟩ := ne_ hg K3
     obtain ⟨N27,N28⟩ := ne_ hg K4
     obtain ⟨N29,N30⟩ := ne_ hg K5
     obtain ⟨K1, K2, K3, K4, K5, HB⟩ := bk5 K1 K2 K3 K4 K5 HB hb
     clear hb hbox hg
     refine kk hK ⟨cc4 K2, cc4 K1⟩ fun hHeld => ?_
     clear hK K
     exact norm_ nz (hJ1_4_8_9 (g5, g6) _ ⟨hHeld, ⟨Z K3⟩, ⟨Z K4⟩, ⟨Z K5⟩, ⟨Z K6⟩, ⟨Z K1⟩, ⟨Z K2⟩, G5, G6, N13, N14, N15, N16, N30, N29, N17, N18, N19, N20, G7, G8, N25, N26, N27, N28, N21, N22, N23, N24, ⟨YA HB⟩⟩)
    intro hJ1_4_8
    refine join_ (σ := Nat) 3 (lb 12 767) (fun s_ => [(82, .int .i64 t18), (85, .tuple #[.agg #[.int .i64 t19, .int .i64 t20, .int .i64 t21, .int .i64 t22], .agg #[.int .i64 t23, .int .i64 t24, .int .i64 t25, .int .i64 t26]]), (15, .pointer (some ⟨s_, 0, none⟩)), (80, .tuple #[.agg #[.int .i64 t19, .int .i64 t20, .int .i64 t21, .int .i64 t22], .agg #[.int .i64 t23, .int .i64 t24, .int .i64 t25, .int .i64 t26]]), (86, .agg #[.int .i64 t19, .int .i64 t20, .int .i64 t21, .int .i64 t22]), (87, .agg #[.int .i64 t23, .int .i64 t24, .int .i64 t25, .int .i64 t26])]) (fun s_ w' => (ce4 w' g2 t6 t7 t8 t9 ∧ ce4 w' g1 t2 t3 t4 t5) ∧ Bx4 w' g3 t10 t11 t12 t13 50 ∧ Bx4 w' g4 t14 t15 t16 t17 50 ∧ Bx4 w' s_ 0 0 0 0 50 ∧ Bx4 w' g1 t2 t3 t4 t5 50 ∧ Bx4 w' g2 t6 t7 t8 t9 50 ∧ Aside0 (w.heap.size ≤ s_) ∧ Aside0 (w.heap.size ≤ s_) ∧ Aside0 (g3 ≠ s_) ∧ Aside0 (s_ ≠ g3) ∧ Aside0 (g4 ≠ s_) ∧ Aside0 (s_ ≠ g4) ∧ Aside0 (g1 ≠ s_) ∧ Aside0 (s_ ≠ g1) ∧ Aside0 (g2 ≠ s_) ∧ Aside0 (s_ ≠ g2) ∧ Aside0 (Below w.heap.size w w')) ?_ ?_
    rotate_left
    rotate_left
    ·skip
     rintro g5 w10 ⟨hHeld, K3, K4, K5, K1, K2, G5, G6, N13, N14, N15, N16, N17, N18, N19, N20, HB⟩
     refine norm_ nz ?_
     refine on 8 (some 14) 1023 fun K hK => ?_
     refine box_step ?hg (N := 14) ?hd (cs := #[.int .i64 0, .int .i64 0, .int .i64 0, .int .i64 0]) (t := 50) ?hr ?_; (case hd => rfl); (case hg => rfl); (case hr => first | (go_simp; done) | (go_simp; rfl))
     intro g6 hg w11 hbox hb
     have K6 := am (hbox)
     have G7 := am (bs hg (YA HB))
     have G8 := am (bs hg (YA HB))
     obtain ⟨N21,N22⟩ := ne_ hg K1
     obtain ⟨N23,N24⟩ := ne_ hg K2
     obtain ⟨N25,N26⟩ := ne_ hg K3
     obtain ⟨N27,N28⟩ := ne_ hg K4
     obtain ⟨N29,N30⟩ := ne_ hg K5
     obtain ⟨K1, K2, K3, K4, K5, HB⟩ := bk5 K1 K2 K3 K4 K5 HB hb
     clear hb hbox hg
     refine kk hK ⟨cc4 K2, cc4 K1⟩ fun hHeld => ?_
     clear hK K
     exact norm_ nz (hJ1_4_8_9 (g6, g5) _ ⟨hHeld, ⟨Z K3⟩, ⟨Z K4⟩, ⟨Z K6⟩, ⟨Z K5⟩, ⟨Z K1⟩, ⟨Z K2⟩, G7, G8, N25, N26, N27, N28, N29, N30, N21, N22, N23, N24, G5, G6, N13, N14, N15, N16, N17, N18, N19, N20, ⟨YA HB⟩⟩)
    intro hJ1_4_9
    refine join_ (σ := Nat × Nat) 6 (lb 12 783) (fun s_ => [(82, .int .i64 t18), (14, .pointer (some ⟨s_.1, 0, none⟩)), (15, .pointer (some ⟨s_.2, 0, none⟩))]) (fun s_ w' => (ce4 w' g2 t6 t7 t8 t9 ∧ ce4 w' g1 t2 t3 t4 t5) ∧ Bx4 w' g3 t10 t11 t12 t13 50 ∧ Bx4 w' g4 t14 t15 t16 t17 50 ∧ Bx4 w' s_.1 0 0 0 0 50 ∧ Bx4 w' s_.2 0 0 0 0 50 ∧ Bx4 w' g1 t2 t3 t4 t5 50 ∧ Bx4 w' g2 t6 t7 t8 t9 50 ∧ Aside0 (w.heap.size ≤ s_.1) ∧ Aside0 (w.heap.size ≤ s_.1) ∧ Aside0 (g3 ≠ s_.1) ∧ Aside0 (s_.1 ≠ g3) ∧ Aside0 (g4 ≠ s_.1) ∧ Aside0 (s_.1 ≠ g4) ∧ Aside0 (s_.2 ≠ s_.1) ∧ Aside0 (s_.1 ≠ s_.2) ∧ Aside0 (g1 ≠ s_.1) ∧ Aside0 (s_.1 ≠ g1) ∧ Aside0 (g2 ≠ s_.1) ∧ Aside0 (s_.1 ≠ g2) ∧ Aside0 (w.heap.size ≤ s_.2) ∧ Aside0 (w.heap.size ≤ s_.2) ∧ Aside0 (g3 ≠ s_.2) ∧ Aside0 (s_.2 ≠ g3) ∧ Aside0 (g4 ≠ s_.2) ∧ Aside0 (s_.2 ≠ g4) ∧ Aside0 (g1 ≠ s_.2) ∧ Aside0 (s_.2 ≠ g1) ∧ Aside0 (g2 ≠ s_.2) ∧ Aside0 (s_.2 ≠ g2) ∧ Aside0 (Below w.heap.size w w')) ?_ ?_
    rotate_left
    rotate_left
    ·skip
     rintro ⟨g5, g6⟩ w10 H_
     dsimp only at H_
     obtain ⟨hHeld, K3, K4, K5, K6, K1, K2, G5, G6, N13, N14, N15, N16, N17, N18, N19, N20, N21, N22, G7, G8, N23, N24, N25, N26, N27, N28, N29, N30, HB⟩ := H_
     refine norm_ nz ?_
     refine on 4 (some 85) 799 fun K hK => ?_
     refine ck hK Try.func35 (impl_ValCmp.calls _ _ _ _ _ _ _ _ _ _ _ _ _ _ _ _ _ _ _ A5.out) (fun _ b => bk6 K1 K2 K3 K4 K5 K6 HB b) fun w11 Q_ hHeld => ?_
     clear hK K
     obtain ⟨K1, K2, K3, K4, K5, K6, HB⟩ := Q_
     refine pk 5 80 831 ?_
     refine pk 6 86 895 ?_
     refine pk 7 87 1023 ?_
     exact norm_ nz (hJ1_4_8_9 (g5, g6) _ ⟨hHeld, ⟨Z K3⟩, ⟨Z K4⟩, ⟨Z K5⟩, ⟨Z K6⟩, ⟨Z K1⟩, ⟨Z K2⟩, G5, G6, N13, N14, N15, N16, N17, N18, N19, N20, N21, N22, G7, G8, N23, N24, N25, N26, N27, N28, N29, N30, ⟨YA HB⟩⟩)
    intro hJ1_8_9
    refine join_ (σ := Unit) 4 (lb 12 255) (fun s_ => [(82, .int .i64 t18), (85, .tuple #[.agg #[.int .i64 t19, .int .i64 t20, .int .i64 t21, .int .i64 t22], .agg #[.int .i64 t23, .int .i64 t24, .int .i64 t25, .int .i64 t26]]), (80, .tuple #[.agg #[.int .i64 t19, .int .i64 t20, .int .i64 t21, .int .i64 t22], .agg #[.int .i64 t23, .int .i64 t24, .int .i64 t25, .int .i64 t26]]), (86, .agg #[.int .i64 t19, .int .i64 t20, .int .i64 t21, .int .i64 t22]), (87, .agg #[.int .i64 t23, .int .i64 t24, .int .i64 t25, .int .i64 t26])]) (fun s_ w' => (ce4 w' g2 t6 t7 t8 t9 ∧ ce4 w' g1 t2 t3 t4 t5) ∧ Bx4 w' g3 t10 t11 t12 t13 50 ∧ Bx4 w' g4 t14 t15 t16 t17 50 ∧ Bx4 w' g1 t2 t3 t4 t5 50 ∧ Bx4 w' g2 t6 t7 t8 t9 50 ∧ Aside0 (Below w.heap.size w w')) ?_ ?_
    rotate_left
    rotate_left
    ·skip
     rintro _ w10 ⟨hHeld, K3, K4, K1, K2, HB⟩
     refine norm_ nz ?_
     refine two_ (i := 8) (j := 9) (Ni := some 14) (Nj := some 15) (lb 12 511) (lb 12 767) rfl rfl rfl rfl (two_of HT_.out (by kernel_rfl)) (by decide) (by decide) (fun K hK => ?_) (fun K hK => ?_)
     ·skip
      refine box_step ?hg (N := 14) ?hd (cs := #[.int .i64 0, .int .i64 0, .int .i64 0, .int .i64 0]) (t := 50) ?hr ?_; (case hd => rfl); (case hg => rfl); (case hr => first | (go_simp; done) | (go_simp; rfl))
      intro g5 hg w11 hbox hb
      have K5 := am (hbox)
      have G5 := am (bs hg (YA HB))
      have G6 := am (bs hg (YA HB))
      obtain ⟨N13,N14⟩ := ne_ hg K1
      obtain ⟨N15,N16⟩ := ne_ hg K2
      obtain ⟨N17,N18⟩ := ne_ hg K3
      obtain ⟨N19,N20⟩ := ne_ hg K4
      obtain ⟨K1, K2, K3, K4, HB⟩ := bk4 K1 K2 K3 K4 HB hb
      clear hb hbox hg
      refine kk hK ⟨cc4 K2, cc4 K1⟩ fun hHeld => ?_
      clear hK K
      exact norm_ nz (hJ1_4_8 (g5) _ ⟨hHeld, ⟨Z K3⟩, ⟨Z K4⟩, ⟨Z K5⟩, ⟨Z K1⟩, ⟨Z K2⟩, G5, G6, N17, N18, N19, N20, N13, N14, N15, N16, ⟨YA HB⟩⟩)
     skip
     refine box_step ?hg (N := 15) ?hd (cs := #[.int .i64 0, .int .i64 0, .int .i64 0, .int .i64 0]) (t := 50) ?hr ?_; (case hd => rfl); (case hg => rfl); (case hr => first | (go_simp; done) | (go_simp; rfl))
     intro g5 hg w11 hbox hb
     have K5 := am (hbox)
     have G5 := am (bs hg (YA HB))
     have G6 := am (bs hg (YA HB))
     obtain ⟨N13,N14⟩ := ne_ hg K1
     obtain ⟨N15,N16⟩ := ne_ hg K2
     obtain ⟨N17,N18⟩ := ne_ hg K3
     obtain ⟨N19,N20⟩ := ne_ hg K4
     obtain ⟨K1, K2, K3, K4, HB⟩ := bk4 K1 K2 K3 K4 HB hb
     clear hb hbox hg
     refine kk hK ⟨cc4 K2, cc4 K1⟩ fun hHeld => ?_
     clear hK K
     exact norm_ nz (hJ1_4_9 (g5) _ ⟨hHeld, ⟨Z K3⟩, ⟨Z K4⟩, ⟨Z K5⟩, ⟨Z K1⟩, ⟨Z K2⟩, G5, G6, N17, N18, N19, N20, N13, N14, N15, N16, ⟨YA HB⟩⟩)
    intro hJ1_4
    refine join_ (σ := Nat) 7 (lb 12 271) (fun s_ => [(82, .int .i64 t18), (14, .pointer (some ⟨s_, 0, none⟩))]) (fun s_ w' => (ce4 w' g2 t6 t7 t8 t9 ∧ ce4 w' g1 t2 t3 t4 t5) ∧ Bx4 w' g3 t10 t11 t12 t13 50 ∧ Bx4 w' g4 t14 t15 t16 t17 50 ∧ Bx4 w' s_ 0 0 0 0 50 ∧ Bx4 w' g1 t2 t3 t4 t5 50 ∧ Bx4 w' g2 t6 t7 t8 t9 50 ∧ Aside0 (w.heap.size ≤ s_) ∧ Aside0 (w.heap.size ≤ s_) ∧ Aside0 (g3 ≠ s_) ∧ Aside0 (s_ ≠ g3) ∧ Aside0 (g4 ≠ s_) ∧ Aside0 (s_ ≠ g4) ∧ Aside0 (g1 ≠ s_) ∧ Aside0 (s_ ≠ g1) ∧ Aside0 (g2 ≠ s_) ∧ Aside0 (s_ ≠ g2) ∧ Aside0 (Below w.heap.size w w')) ?_ ?_
    rotate_left
    rotate_left
    ·skip
     rintro g5 w10 ⟨hHeld, K3, K4, K5, K1, K2, G5, G6, N13, N14, N15, N16, N17, N18, N19, N20, HB⟩
     refine norm_ nz ?_
     refine two_ (i := 4) (j := 9) (Ni := some 85) (Nj := some 15) (lb 12 287) (lb 12 783) rfl rfl rfl rfl (two_of HT_.out (by kernel_rfl)) (by decide) (by decide) (fun K hK => ?_) (fun K hK => ?_)
     ·skip
      refine ck hK Try.func35 (impl_ValCmp.calls _ _ _ _ _ _ _ _ _ _ _ _ _ _ _ _ _ _ _ A5.out) (fun _ b => bk5 K1 K2 K3 K4 K5 HB b) fun w11 Q_ hHeld => ?_
      clear hK K
      obtain ⟨K1, K2, K3, K4, K5, HB⟩ := Q_
      refine pk 5 80 319 ?_
      refine pk 6 86 383 ?_
      refine pk 7 87 511 ?_
      exact norm_ nz (hJ1_4_8 (g5) _ ⟨hHeld, ⟨Z K3⟩, ⟨Z K4⟩, ⟨Z K5⟩, ⟨Z K1⟩, ⟨Z K2⟩, G5, G6, N13, N14, N15, N16, N17, N18, N19, N20, ⟨YA HB⟩⟩)
     skip
     refine box_step ?hg (N := 15) ?hd (cs := #[.int .i64 0, .int .i64 0, .int .i64 0, .int .i64 0]) (t := 50) ?hr ?_; (case hd => rfl); (case hg => rfl); (case hr => first | (go_simp; done) | (go_simp; rfl))
     intro g6 hg w11 hbox hb
     have K6 := am (hbox)
     have G7 := am (bs hg (YA HB))
     have G8 := am (bs hg (YA HB))
     obtain ⟨N21,N22⟩ := ne_ hg K1
     obtain ⟨N23,N24⟩ := ne_ hg K2
     obtain ⟨N25,N26⟩ := ne_ hg K3
     obtain ⟨N27,N28⟩ := ne_ hg K4
     obtain ⟨N29,N30⟩ := ne_ hg K5
     obtain ⟨K1, K2, K3, K4, K5, HB⟩ := bk5 K1 K2 K3 K4 K5 HB hb
     clear hb hbox hg
     refine kk hK ⟨cc4 K2, cc4 K1⟩ fun hHeld => ?_
     clear hK K
     exact norm_ nz (hJ1_8_9 (g5, g6) _ ⟨hHeld, ⟨Z K3⟩, ⟨Z K4⟩, ⟨Z K5⟩, ⟨Z K6⟩, ⟨Z K1⟩, ⟨Z K2⟩, G5, G6, N13, N14, N15, N16, N30, N29, N17, N18, N19, N20, G7, G8, N25, N26, N27, N28, N21, N22, N23, N24, ⟨YA HB⟩⟩)
    intro hJ1_8
    refine join_ (σ := Nat) 7 (lb 12 527) (fun s_ => [(82, .int .i64 t18), (15, .pointer (some ⟨s_, 0, none⟩))]) (fun s_ w' => (ce4 w' g2 t6 t7 t8 t9 ∧ ce4 w' g1 t2 t3 t4 t5) ∧ Bx4 w' g3 t10 t11 t12 t13 50 ∧ Bx4 w' g4 t14 t15 t16 t17 50 ∧ Bx4 w' s_ 0 0 0 0 50 ∧ Bx4 w' g1 t2 t3 t4 t5 50 ∧ Bx4 w' g2 t6 t7 t8 t9 50 ∧ Aside0 (w.heap.size ≤ s_) ∧ Aside0 (w.heap.size ≤ s_) ∧ Aside0 (g3 ≠ s_) ∧ Aside0 (s_ ≠ g3) ∧ Aside0 (g4 ≠ s_) ∧ Aside0 (s_ ≠ g4) ∧ Aside0 (g1 ≠ s_) ∧ Aside0 (s_ ≠ g1) ∧ Aside0 (g2 ≠ s_) ∧ Aside0 (s_ ≠ g2) ∧ Aside0 (Below w.heap.size w w')) ?_ ?_
    rotate_left
    rotate_left
    ·skip
     rintro g5 w10 ⟨hHeld, K3, K4, K5, K1, K2, G5, G6, N13, N14, N15, N16, N17, N18, N19, N20, HB⟩
     refine norm_ nz ?_
     refine two_ (i := 4) (j := 8) (Ni := some 85) (Nj := some 14) (lb 12 543) (lb 12 783) rfl rfl rfl rfl (two_of HT_.out (by kernel_rfl)) (by decide) (by decide) (fun K hK => ?_) (fun K hK => ?_)
     ·skip
      refine ck hK Try.func35 (impl_ValCmp.calls _ _ _ _ _ _ _ _ _ _ _ _ _ _ _ _ _ _ _ A5.out) (fun _ b => bk5 K1 K2 K3 K4 K5 HB b) fun w11 Q_ hHeld => ?_
      clear hK K
      obtain ⟨K1, K2, K3, K4, K5, HB⟩ := Q_
      refine pk 5 80 575 ?_
      refine pk 6 86 639 ?_
      refine pk 7 87 767 ?_
      exact norm_ nz (hJ1_4_9 (g5) _ ⟨hHeld, ⟨Z K3⟩, ⟨Z K4⟩, ⟨Z K5⟩, ⟨Z K1⟩, ⟨Z K2⟩, G5, G6, N13, N14, N15, N16, N17, N18, N19, N20, ⟨YA HB⟩⟩)
     skip
     refine box_step ?hg (N := 14) ?hd (cs := #[.int .i64 0, .int .i64 0, .int .i64 0, .int .i64 0]) (t := 50) ?hr ?_; (case hd => rfl); (case hg => rfl); (case hr => first | (go_simp; done) | (go_simp; rfl))
     intro g6 hg w11 hbox hb
     have K6 := am (hbox)
     have G7 := am (bs hg (YA HB))
     have G8 := am (bs hg (YA HB))
     obtain ⟨N21,N22⟩ := ne_ hg K1
     obtain ⟨N23,N24⟩ := ne_ hg K2
     obtain ⟨N25,N26⟩ := ne_ hg K3
     obtain ⟨N27,N28⟩ := ne_ hg K4
     obtain ⟨N29,N30⟩ := ne_ hg K5
     obtain ⟨K1, K2, K3, K4, K5, HB⟩ := bk5 K1 K2 K3 K4 K5 HB hb
     clear hb hbox hg
     refine kk hK ⟨cc4 K2, cc4 K1⟩ fun hHeld => ?_
     clear hK K
     exact norm_ nz (hJ1_8_9 (g6, g5) _ ⟨hHeld, ⟨Z K3⟩, ⟨Z K4⟩, ⟨Z K6⟩, ⟨Z K5⟩, ⟨Z K1⟩, ⟨Z K2⟩, G7, G8, N25, N26, N27, N28, N29, N30, N21, N22, N23, N24, G5, G6, N13, N14, N15, N16, N17, N18, N19, N20, ⟨YA HB⟩⟩)
    intro hJ1_9
    refine join_ (σ := Nat × Nat) 7 (lb 12 781) (fun s_ => [(14, .pointer (some ⟨s_.1, 0, none⟩)), (15, .pointer (some ⟨s_.2, 0, none⟩))]) (fun s_ w' => (ce4 w' g2 t6 t7 t8 t9 ∧ ce4 w' g1 t2 t3 t4 t5) ∧ Bx4 w' g3 t10 t11 t12 t13 50 ∧ Bx4 w' g4 t14 t15 t16 t17 50 ∧ Bx4 w' s_.1 0 0 0 0 50 ∧ Bx4 w' s_.2 0 0 0 0 50 ∧ Bx4 w' g1 t2 t3 t4 t5 50 ∧ Bx4 w' g2 t6 t7 t8 t9 50 ∧ Aside0 (w.heap.size ≤ s_.1) ∧ Aside0 (w.heap.size ≤ s_.1) ∧ Aside0 (g3 ≠ s_.1) ∧ Aside0 (s_.1 ≠ g3) ∧ Aside0 (g4 ≠ s_.1) ∧ Aside0 (s_.1 ≠ g4) ∧ Aside0 (s_.2 ≠ s_.1) ∧ Aside0 (s_.1 ≠ s_.2) ∧ Aside0 (g1 ≠ s_.1) ∧ Aside0 (s_.1 ≠ g1) ∧ Aside0 (g2 ≠ s_.1) ∧ Aside0 (s_.1 ≠ g2) ∧ Aside0 (w.heap.size ≤ s_.2) ∧ Aside0 (w.heap.size ≤ s_.2) ∧ Aside0 (g3 ≠ s_.2) ∧ Aside0 (s_.2 ≠ g3) ∧ Aside0 (g4 ≠ s_.2) ∧ Aside0 (s_.2 ≠ g4) ∧ Aside0 (g1 ≠ s_.2) ∧ Aside0 (s_.2 ≠ g1) ∧ Aside0 (g2 ≠ s_.2) ∧ Aside0 (s_.2 ≠ g2) ∧ Aside0 (Below w.heap.size w w')) ?_ ?_
    rotate_left
    rotate_left
    ·skip
     rintro ⟨g5, g6⟩ w10 H_
     dsimp only at H_
     obtain ⟨hHeld, K3, K4, K5, K6, K1, K2, G5, G6, N13, N14, N15, N16, N17, N18, N19, N20, N21, N22, G7, G8, N23, N24, N25, N26, N27, N28, N29, N30, HB⟩ := H_
     refine norm_ nz ?_
     refine on 1 (some 82) 783 fun K hK => ?_
     refine goes_ Try.func36 (by kernel_rfl) rfl #[.int .i64 t1] (by rfl) rfl rfl mz ?_
     with_reducible refine (impl_CmpTurn.calls _ _ _ _ A4.out).mono ?_
     rintro e w' ⟨rfl, ⟨nd, rfl⟩⟩
     refine ⟨_, rfl, ?_⟩
     refine kk hK ⟨cc4 K2, cc4 K1⟩ fun hHeld => ?_
     clear hK K
     exact norm_ nz (hJ1_8_9 (g5, g6) _ ⟨hHeld, ⟨Z K3⟩, ⟨Z K4⟩, ⟨Z K5⟩, ⟨Z K6⟩, ⟨Z K1⟩, ⟨Z K2⟩, G5, G6, N13, N14, N15, N16, N17, N18, N19, N20, N21, N22, G7, G8, N23, N24, N25, N26, N27, N28, N29, N30, ⟨YA HB⟩⟩)
    intro hJ8_9
    refine join_ (σ := Unit) 8 (lb 12 15) (fun s_ => [(82, .int .i64 t18)]) (fun s_ w' => (ce4 w' g2 t6 t7 t8 t9 ∧ ce4 w' g1 t2 t3 t4 t5) ∧ Bx4 w' g3 t10 t11 t12 t13 50 ∧ Bx4 w' g4 t14 t15 t16 t17 50 ∧ Bx4 w' g1 t2 t3 t4 t5 50 ∧ Bx4 w' g2 t6 t7 t8 t9 50 ∧ Aside0 (Below w.heap.size w w')) ?_ ?_
    rotate_left
    rotate_left
    ·skip
     rintro _ w10 ⟨hHeld, K3, K4, K1, K2, HB⟩
     refine norm_ nz ?_
     refine three_ (i := 4) (j := 8) (k := 9) (Ni := some 85) (Nj := some 14) (Nk := some 15) (lb 12 31) (lb 12 271) (lb 12 527) rfl rfl rfl rfl rfl rfl (three_of HT_.out (by kernel_rfl)) (by decide) (by decide) (by decide) (fun K hK => ?_) (fun K hK => ?_) (fun K hK => ?_)
     ·skip
      refine ck hK Try.func35 (impl_ValCmp.calls _ _ _ _ _ _ _ _ _ _ _ _ _ _ _ _ _ _ _ A5.out) (fun _ b => bk4 K1 K2 K3 K4 HB b) fun w11 Q_ hHeld => ?_
      clear hK K
      obtain ⟨K1, K2, K3, K4, HB⟩ := Q_
      refine pk 5 80 63 ?_
      refine pk 6 86 127 ?_
      refine pk 7 87 255 ?_
      exact norm_ nz (hJ1_4 () _ ⟨hHeld, ⟨Z K3⟩, ⟨Z K4⟩, ⟨Z K1⟩, ⟨Z K2⟩, ⟨YA HB⟩⟩)
     ·skip
      refine box_step ?hg (N := 14) ?hd (cs := #[.int .i64 0, .int .i64 0, .int .i64 0, .int .i64 0]) (t := 50) ?hr ?_; (case hd => rfl); (case hg => rfl); (case hr => first | (go_simp; done) | (go_simp; rfl))
      intro g5 hg w11 hbox hb
      have K5 := am (hbox)
      have G5 := am (bs hg (YA HB))
      have G6 := am (bs hg (YA HB))
      obtain ⟨N13,N14⟩ := ne_ hg K1
      obtain ⟨N15,N16⟩ := ne_ hg K2
      obtain ⟨N17,N18⟩ := ne_ hg K3
      obtain ⟨N19,N20⟩ := ne_ hg K4
      obtain ⟨K1, K2, K3, K4, HB⟩ := bk4 K1 K2 K3 K4 HB hb
      clear hb hbox hg
      refine kk hK ⟨cc4 K2, cc4 K1⟩ fun hHeld => ?_
      clear hK K
      exact norm_ nz (hJ1_8 (g5) _ ⟨hHeld, ⟨Z K3⟩, ⟨Z K4⟩, ⟨Z K5⟩, ⟨Z K1⟩, ⟨Z K2⟩, G5, G6, N17, N18, N19, N20, N13, N14, N15, N16, ⟨YA HB⟩⟩)
     skip
     refine box_step ?hg (N := 15) ?hd (cs := #[.int .i64 0, .int .i64 0, .int .i64 0, .int .i64 0]) (t := 50) ?hr ?_; (case hd => rfl); (case hg => rfl); (case hr => first | (go_simp; done) | (go_simp; rfl))
     intro g5 hg w11 hbox hb
     have K5 := am (hbox)
     have G5 := am (bs hg (YA HB))
     have G6 := am (bs hg (YA HB))
     obtain ⟨N13,N14⟩ := ne_ hg K1
     obtain ⟨N15,N16⟩ := ne_ hg K2
     obtain ⟨N17,N18⟩ := ne_ hg K3
     obtain ⟨N19,N20⟩ := ne_ hg K4
     obtain ⟨K1, K2, K3, K4, HB⟩ := bk4 K1 K2 K3 K4 HB hb
     clear hb hbox hg
     refine kk hK ⟨cc4 K2, cc4 K1⟩ fun hHeld => ?_
     clear hK K
     exact norm_ nz (hJ1_9 (g5) _ ⟨hHeld, ⟨Z K3⟩, ⟨Z K4⟩, ⟨Z K5⟩, ⟨Z K1⟩, ⟨Z K2⟩, G5, G6, N17, N18, N19, N20, N13, N14, N15, N16, ⟨YA HB⟩⟩)
    intro hJ1
    refine join_ (σ := Nat) 8 (lb 12 269) (fun s_ => [(14, .pointer (some ⟨s_, 0, none⟩))]) (fun s_ w' => (ce4 w' g2 t6 t7 t8 t9 ∧ ce4 w' g1 t2 t3 t4 t5) ∧ Bx4 w' g3 t10 t11 t12 t13 50 ∧ Bx4 w' g4 t14 t15 t16 t17 50 ∧ Bx4 w' s_ 0 0 0 0 50 ∧ Bx4 w' g1 t2 t3 t4 t5 50 ∧ Bx4 w' g2 t6 t7 t8 t9 50 ∧ Aside0 (w.heap.size ≤ s_) ∧ Aside0 (w.heap.size ≤ s_) ∧ Aside0 (g3 ≠ s_) ∧ Aside0 (s_ ≠ g3) ∧ Aside0 (g4 ≠ s_) ∧ Aside0 (s_ ≠ g4) ∧ Aside0 (g1 ≠ s_) ∧ Aside0 (s_ ≠ g1) ∧ Aside0 (g2 ≠ s_) ∧ Aside0 (s_ ≠ g2) ∧ Aside0 (Below w.heap.size w w')) ?_ ?_
    rotate_left
    rotate_left
    ·skip
     rintro g5 w10 ⟨hHeld, K3, K4, K5, K1, K2, G5, G6, N13, N14, N15, N16, N17, N18, N19, N20, HB⟩
     refine norm_ nz ?_
     refine two_ (i := 1) (j := 9) (Ni := some 82) (Nj := some 15) (lb 12 271) (lb 12 781) rfl rfl rfl rfl (two_of HT_.out (by kernel_rfl)) (by decide) (by decide) (fun K hK => ?_) (fun K hK => ?_)
     ·skip
      refine goes_ Try.func36 (by kernel_rfl) rfl #[.int .i64 t1] (by rfl) rfl rfl mz ?_
      with_reducible refine (impl_CmpTurn.calls _ _ _ _ A4.out).mono ?_
      rintro e w' ⟨rfl, ⟨nd, rfl⟩⟩
      refine ⟨_, rfl, ?_⟩
      refine kk hK ⟨cc4 K2, cc4 K1⟩ fun hHeld => ?_
      clear hK K
      exact norm_ nz (hJ1_8 (g5) _ ⟨hHeld, ⟨Z K3⟩, ⟨Z K4⟩, ⟨Z K5⟩, ⟨Z K1⟩, ⟨Z K2⟩, G5, G6, N13, N14, N15, N16, N17, N18, N19, N20, ⟨YA HB⟩⟩)
     skip
     refine box_step ?hg (N := 15) ?hd (cs := #[.int .i64 0, .int .i64 0, .int .i64 0, .int .i64 0]) (t := 50) ?hr ?_; (case hd => rfl); (case hg => rfl); (case hr => first | (go_simp; done) | (go_simp; rfl))
     intro g6 hg w11 hbox hb
     have K6 := am (hbox)
     have G7 := am (bs hg (YA HB))
     have G8 := am (bs hg (YA HB))
     obtain ⟨N21,N22⟩ := ne_ hg K1
     obtain ⟨N23,N24⟩ := ne_ hg K2
     obtain ⟨N25,N26⟩ := ne_ hg K3
     obtain ⟨N27,N28⟩ := ne_ hg K4
     obtain ⟨N29,N30⟩ := ne_ hg K5
     obtain ⟨K1, K2, K3, K4, K5, HB⟩ := bk5 K1 K2 K3 K4 K5 HB hb
     clear hb hbox hg
     refine kk hK ⟨cc4 K2, cc4 K1⟩ fun hHeld => ?_
     clear hK K
     exact norm_ nz (hJ8_9 (g5, g6) _ ⟨hHeld, ⟨Z K3⟩, ⟨Z K4⟩, ⟨Z K5⟩, ⟨Z K6⟩, ⟨Z K1⟩, ⟨Z K2⟩, G5, G6, N13, N14, N15, N16, N30, N29, N17, N18, N19, N20, G7, G8, N25, N26, N27, N28, N21, N22, N23, N24, ⟨YA HB⟩⟩)
    intro hJ8
    refine join_ (σ := Nat) 8 (lb 12 525) (fun s_ => [(15, .pointer (some ⟨s_, 0, none⟩))]) (fun s_ w' => (ce4 w' g2 t6 t7 t8 t9 ∧ ce4 w' g1 t2 t3 t4 t5) ∧ Bx4 w' g3 t10 t11 t12 t13 50 ∧ Bx4 w' g4 t14 t15 t16 t17 50 ∧ Bx4 w' s_ 0 0 0 0 50 ∧ Bx4 w' g1 t2 t3 t4 t5 50 ∧ Bx4 w' g2 t6 t7 t8 t9 50 ∧ Aside0 (w.heap.size ≤ s_) ∧ Aside0 (w.heap.size ≤ s_) ∧ Aside0 (g3 ≠ s_) ∧ Aside0 (s_ ≠ g3) ∧ Aside0 (g4 ≠ s_) ∧ Aside0 (s_ ≠ g4) ∧ Aside0 (g1 ≠ s_) ∧ Aside0 (s_ ≠ g1) ∧ Aside0 (g2 ≠ s_) ∧ Aside0 (s_ ≠ g2) ∧ Aside0 (Below w.heap.size w w')) ?_ ?_
    rotate_left
    ·intro hJ9
     refine three_ (i := 1) (j := 8) (k := 9) (Ni := some 82) (Nj := some 14) (Nk := some 15) (lb 12 15) (lb 12 269) (lb 12 525) rfl rfl rfl rfl rfl rfl (three_of HT_.out (by kernel_rfl)) (by decide) (by decide) (by decide) (fun K hK => ?_) (fun K hK => ?_) (fun K hK => ?_)
     ·skip
      refine goes_ Try.func36 (by kernel_rfl) rfl #[.int .i64 t1] (by rfl) rfl rfl mz ?_
      with_reducible refine (impl_CmpTurn.calls _ _ _ _ A4.out).mono ?_
      rintro e w' ⟨rfl, ⟨nd, rfl⟩⟩
      refine ⟨_, rfl, ?_⟩
      refine kk hK ⟨cc4 K2, cc4 K1⟩ fun hHeld => ?_
      clear hK K
      exact norm_ nz (hJ1 () _ ⟨hHeld, ⟨Z K3⟩, ⟨Z K4⟩, ⟨Z K1⟩, ⟨Z K2⟩, ⟨YA HB⟩⟩)
     ·skip
      refine box_step ?hg (N := 14) ?hd (cs := #[.int .i64 0, .int .i64 0, .int .i64 0, .int .i64 0]) (t := 50) ?hr ?_; (case hd => rfl); (case hg => rfl); (case hr => first | (go_simp; done) | (go_simp; rfl))
      intro g5 hg w10 hbox hb
      have K5 := am (hbox)
      have G5 := am (bs hg (YA HB))
      have G6 := am (bs hg (YA HB))
      obtain ⟨N13,N14⟩ := ne_ hg K1
      obtain ⟨N15,N16⟩ := ne_ hg K2
      obtain ⟨N17,N18⟩ := ne_ hg K3
      obtain ⟨N19,N20⟩ := ne_ hg K4
      obtain ⟨K1, K2, K3, K4, HB⟩ := bk4 K1 K2 K3 K4 HB hb
      clear hb hbox hg
      refine kk hK ⟨cc4 K2, cc4 K1⟩ fun hHeld => ?_
      clear hK K
      exact norm_ nz (hJ8 (g5) _ ⟨hHeld, ⟨Z K3⟩, ⟨Z K4⟩, ⟨Z K5⟩, ⟨Z K1⟩, ⟨Z K2⟩, G5, G6, N17, N18, N19, N20, N13, N14, N15, N16, ⟨YA HB⟩⟩)
     skip
     refine box_step ?hg (N := 15) ?hd (cs := #[.int .i64 0, .int .i64 0, .int .i64 0, .int .i64 0]) (t := 50) ?hr ?_; (case hd => rfl); (case hg => rfl); (case hr => first | (go_simp; done) | (go_simp; rfl))
     intro g5 hg w10 hbox hb
     have K5 := am (hbox)
     have G5 := am (bs hg (YA HB))
     have G6 := am (bs hg (YA HB))
     obtain ⟨N13,N14⟩ := ne_ hg K1
     obtain ⟨N15,N16⟩ := ne_ hg K2
     obtain ⟨N17,N18⟩ := ne_ hg K3
     obtain ⟨N19,N20⟩ := ne_ hg K4
     obtain ⟨K1, K2, K3, K4, HB⟩ := bk4 K1 K2 K3 K4 HB hb
     clear hb hbox hg
     refine kk hK ⟨cc4 K2, cc4 K1⟩ fun hHeld => ?_
     clear hK K
     exact norm_ nz (hJ9 (g5) _ ⟨hHeld, ⟨Z K3⟩, ⟨Z K4⟩, ⟨Z K5⟩, ⟨Z K1⟩, ⟨Z K2⟩, G5, G6, N17, N18, N19, N20, N13, N14, N15, N16, ⟨YA HB⟩⟩)
    skip
    rintro g5 w10 ⟨hHeld, K3, K4, K5, K1, K2, G5, G6, N13, N14, N15, N16, N17, N18, N19, N20, HB⟩
    refine norm_ nz ?_
    refine two_ (i := 1) (j := 8) (Ni := some 82) (Nj := some 14) (lb 12 527) (lb 12 781) rfl rfl rfl rfl (two_of HT_.out (by kernel_rfl)) (by decide) (by decide) (fun K hK => ?_) (fun K hK => ?_)
    ·skip
     refine goes_ Try.func36 (by kernel_rfl) rfl #[.int .i64 t1] (by rfl) rfl rfl mz ?_
     with_reducible refine (impl_CmpTurn.calls _ _ _ _ A4.out).mono ?_
     rintro e w' ⟨rfl, ⟨nd, rfl⟩⟩
     refine ⟨_, rfl, ?_⟩
     refine kk hK ⟨cc4 K2, cc4 K1⟩ fun hHeld => ?_
     clear hK K
     exact norm_ nz (hJ1_9 (g5) _ ⟨hHeld, ⟨Z K3⟩, ⟨Z K4⟩, ⟨Z K5⟩, ⟨Z K1⟩, ⟨Z K2⟩, G5, G6, N13, N14, N15, N16, N17, N18, N19, N20, ⟨YA HB⟩⟩)
    skip
    refine box_step ?hg (N := 14) ?hd (cs := #[.int .i64 0, .int .i64 0, .int .i64 0, .int .i64 0]) (t := 50) ?hr ?_; (case hd => rfl); (case hg => rfl); (case hr => first | (go_simp; done) | (go_simp; rfl))
    intro g6 hg w11 hbox hb
    have K6 := am (hbox)
    have G7 := am (bs hg (YA HB))
    have G8 := am (bs hg (YA HB))
    obtain ⟨N21,N22⟩ := ne_ hg K1
    obtain ⟨N23,N24⟩ := ne_ hg K2
    obtain ⟨N25,N26⟩ := ne_ hg K3
    obtain ⟨N27,N28⟩ := ne_ hg K4
    obtain ⟨N29,N30⟩ := ne_ hg K5
    obtain ⟨K1, K2, K3, K4, K5, HB⟩ := bk5 K1 K2 K3 K4 K5 HB hb
    clear hb hbox hg
    refine kk hK ⟨cc4 K2, cc4 K1⟩ fun hHeld => ?_
    clear hK K
    exact norm_ nz (hJ8_9 (g6, g5) _ ⟨hHeld, ⟨Z K3⟩, ⟨Z K4⟩, ⟨Z K6⟩, ⟨Z K5⟩, ⟨Z K1⟩, ⟨Z K2⟩, G7, G8, N25, N26, N27, N28, N29, N30, N21, N22, N23, N24, G5, G6, N13, N14, N15, N16, N17, N18, N19, N20, ⟨YA HB⟩⟩)
   rintro ⟨g5, g6⟩ w10 H_
   dsimp only at H_
   obtain ⟨hHeld, K3, K4, K5, K6, K1, K2, G5, G6, N13, N14, N15, N16, N17, N18, N19, N20, N21, N22, G7, G8, N23, N24, N25, N26, N27, N28, N29, N30, HB⟩ := H_
   refine norm_ nz ?_
   refine on 10 none 2047 fun K hK => ?_
   have s1 : w10.cell? ⟨g5, 0, none⟩ = some (.int .i64 0) := bc K5 0
   have hfs76 := blk_frozen K5.out 0
   have := ns10 N19 N21 N13 N15 N17 N20 N22 N14 N16 N18
   have s2 : w10.cell? ⟨g5, 1, none⟩ = some (.int .i64 0) := bc K5 1
   have hfs77 := blk_frozen K5.out 1
   have := ns10 N19 N21 N13 N15 N17 N20 N22 N14 N16 N18
   have s3 : w10.cell? ⟨g5, 2, none⟩ = some (.int .i64 0) := bc K5 2
   have hfs78 := blk_frozen K5.out 2
   have := ns10 N19 N21 N13 N15 N17 N20 N22 N14 N16 N18
   have s4 : w10.cell? ⟨g5, 3, none⟩ = some (.int .i64 0) := bc K5 3
   have hfs79 := blk_frozen K5.out 3
   have := ns10 N19 N21 N13 N15 N17 N20 N22 N14 N16 N18
   refine skip_ (w1 := ?_) (by rfl) rfl ?_ ?_
   rotate_left
   ·go_simp
    rfl
   refine hK.out _ _ ⟨cf4 N21 (cf4 N21 (cf4 N21 (cf4 N21 hHeld.1))), cf4 N19 (cf4 N19 (cf4 N19 (cf4 N19 hHeld.2)))⟩ (fun hHeld => ?_)
   clear hK K
   refine on 11 none 4095 fun K hK => ?_
   have s5 : w10.cell? ⟨g6, 0, none⟩ = some (.int .i64 0) := bc K6 0
   have hfs80 := blk_frozen K6.out 0
   have := ns10 N27 N29 N23 N25 N18 N28 N30 N24 N26 N17
   have s6 : w10.cell? ⟨g6, 1, none⟩ = some (.int .i64 0) := bc K6 1
   have hfs81 := blk_frozen K6.out 1
   have := ns10 N27 N29 N23 N25 N18 N28 N30 N24 N26 N17
   have s7 : w10.cell? ⟨g6, 2, none⟩ = some (.int .i64 0) := bc K6 2
   have hfs82 := blk_frozen K6.out 2
   have := ns10 N27 N29 N23 N25 N18 N28 N30 N24 N26 N17
   have s8 : w10.cell? ⟨g6, 3, none⟩ = some (.int .i64 0) := bc K6 3
   have hfs83 := blk_frozen K6.out 3
   have := ns10 N27 N29 N23 N25 N18 N28 N30 N24 N26 N17
   refine skip_ (w1 := ?_) (by rfl) rfl ?_ ?_
   rotate_left
   ·go_simp
    rfl
   refine hK.out _ _ ⟨cf4 N29 (cf4 N29 (cf4 N29 (cf4 N29 hHeld.1))), cf4 N27 (cf4 N27 (cf4 N27 (cf4 N27 hHeld.2)))⟩ (fun hHeld => ?_)
   clear hK K
   refine done_ (done_of HT_.out (by kernel_rfl)) ?_
   have := ns9 N13 N23 N28 N30 N26 N17 N15 N20 N22
   have := cB4 K3
   have := cB4 K6
   have := cB4 K4
   have := cB4 K5
   try go_wp2
   go_ret
   exact ⟨ez, YA HB⟩
 -- THE ONE PURE STATEMENT of laws_FnValTurn: yours. -/
def laws_FnValTurn.Pure : Prop := ∀ (l0 : List Int), l0.length ≤ maxLen → l0.length * 1 ≤ 140737488351232 → (∀ x ∈ l0, (Lit.int .u8 x).wf = true) → ∃ k, laws_FnValTurn.f k l0 = some true
theorem laws_FnValTurn.walk (P : laws_FnValTurn.Pure) (a0 : Option Addr) (len0 cap0 : Nat) (z0 : List Int) (w : World) (w0 : (a0 = none ∧ len0 = 0 ∧ cap0 = 0 ∧ z0 = []) ∨ ∃ x, a0 = some x ∧ len0 ≤ cap0 ∧ cap0 ≤ maxLen ∧ z0.length = cap0 ∧ (∀ i, i < z0.length → w.cell? (x.add i) = some (.int .u8 (z0.getD i 0))) ∧ ∀ n ∈ z0, (Lit.int .u8 n).wf = true) (y0 : len0 * 1 ≤ 140737488351232) :
  Calls Try.prog 8 #[.slice a0 len0 cap0] w fun e w' => e = .returned (.bool true) ∧ Below w.heap.size w w' := by
 obtain ⟨l0, rfl, hr0, hm0, hw0, hc0⟩ := ReadsInt.ofRowC w0
 obtain ⟨k, h⟩ := P l0 hm0 y0 hw0
 refine (laws_FnValTurn.calls k _ _ l0 true w (Kd.C_of_reads (d := (0 : Int)) (h1 := fun _ => rfl) hr0) hc0 h).mono ?_
 rintro e w' ⟨rfl, hd⟩
 exact ⟨rfl, hd⟩
end
end Go.Proofs.Ythbkakcchgnhpaa.PFnValTurn
