/- Written by this session's own driver (wip/dprint.py): the functions that the law FnValTurn reaches, as Lean functions, each with its contract. -/
import Derived.Test.YthbkakcchgnhpaaPFnValTurnx0
import Derived.Test.YthbkakcchgnhpaaPFnValTurnx1
import Derived.Test.YthbkakcchgnhpaaSv
namespace Go.Proofs.Ythbkakcchgnhpaa.PFnValTurn
open Go.RowKit Go.Proofs.YthbkakcchgnhpaaV.PrintWords Go.Proofs.YthbkakcchgnhpaaV.PrintLast Go.Proofs.YthbkakcchgnhpaaV.PrintMore Go.Proofs.YthbkakcchgnhpaaSv
set_option linter.unusedVariables false
set_option linter.unusedSimpArgs false
section
attribute [local go_sem] max2_int min2_int max_two min_two max_three min_three max_four min_four
attribute [local go_sem high] eqA50
attribute [local go_sem] Go.Proofs.YthbkakcchgnhpaaSet.isSome_setCell
def impl_Val_span.f (a0_0 : Int) (a0_1 : Int) (a0_2 : Int) (a0_3 : Int) : Option (Int × Int) := some (a0_0, a0_1)
set_option maxHeartbeats 8000000 in
set_option maxRecDepth 100000 in
theorem impl_Val_span.calls (a0_0 : Int) (a0_1 : Int) (a0_2 : Int) (a0_3 : Int) (r1 : Int) (r2 : Int) (w : World) (h : impl_Val_span.f a0_0 a0_1 a0_2 a0_3 = some (r1, r2)) :
  Calls Try.prog 79 #[.agg #[.int .i64 a0_0, .int .i64 a0_1, .int .i64 a0_2, .int .i64 a0_3]] w fun e w' => e = .returned (.agg #[.int .i64 r1, .int .i64 r2]) ∧ Below w.heap.size w w' := by
 have hu50 := Try.underlying50
 have hu24 := Try.underlying24
 have HB := am (Below.refl w.heap.size w)
 have H : (some (a0_0, a0_1)) = some (r1, r2) := h
 clear h
 obtain ⟨rfl, rfl⟩ := sj2 H
 go_enter Try.func79, Try.ntmps79
 go_wp2_with (first | ((with_reducible refine gate_dst (N := 1) rfl ?_); refine bxn 1 #[.int .i64 a0_0, .int .i64 a0_1, .int .i64 a0_2, .int .i64 a0_3] 50 HB fun g1 w1 K1 G1 hg hb => ?_; replace HB := am (below_step (YA HB) hb); clear hb hg) | ((with_reducible refine gate_dst (N := 2) rfl ?_); refine bxn 2 #[.int .i64 0, .int .i64 0] 24 HB fun g2 w2 K2 G2 hg hb => ?_; obtain ⟨N1,N2⟩ := ne_ hg K1; obtain ⟨K1, HB⟩ := bk1 K1 HB hb; clear hb hg; have := ns1 N1; have := cB4 K1; have := cB2 K2))
 refine bodyPost_ret (results_cell_row rfl _ _ g2 24 #[.int .i64 a0_0, .int .i64 a0_1] (0, 0) _ rfl (by refine pf ?_; refine bp (ia2 a0_0 0) ?_ 1; refine pf ?_; refine bp (ia2 0 0) ?_ 0; exact Z K2) Try.underlying24 rfl (by kernel_rfl)) rfl ?_
 exact ⟨ez, YA HB⟩

def impl_valNone.f  : Option (Int × Int × Int × Int) := some (1, 0, 0, 0)
set_option maxHeartbeats 8000000 in
set_option maxRecDepth 100000 in
theorem impl_valNone.calls  (r1 : Int) (r2 : Int) (r3 : Int) (r4 : Int) (w : World) (h : impl_valNone.f  = some (r1, r2, r3, r4)) :
  Calls Try.prog 78 #[] w fun e w' => e = .returned (.agg #[.int .i64 r1, .int .i64 r2, .int .i64 r3, .int .i64 r4]) ∧ Below w.heap.size w w' := by
 have hu50 := Try.underlying50
 have HB := am (Below.refl w.heap.size w)
 have H : (some (1, 0, 0, 0)) = some (r1, r2, r3, r4) := h
 clear h
 obtain ⟨rfl, rfl, rfl, rfl⟩ := sj4 H
 go_enter Try.func78, Try.ntmps78
 go_wp2_with (first | ((with_reducible refine gate_dst (N := 0) rfl ?_); refine bxn 0 #[.int .i64 0, .int .i64 0, .int .i64 0, .int .i64 0] 50 HB fun g1 w1 K1 G1 hg hb => ?_; replace HB := am (below_step (YA HB) hb); clear hb hg; have := cB4 K1))
 refine bodyPost_ret (results_cell_row rfl _ _ g1 50 #[.int .i64 1, .int .i64 0, .int .i64 0, .int .i64 0] (0, 0) _ rfl (by refine pf ?_; refine bp (ia4 1 0 0 0) ?_ 3; refine pf ?_; refine bp (ia4 1 0 0 0) ?_ 2; refine pf ?_; refine bp (ia4 1 0 0 0) ?_ 1; refine pf ?_; refine bp (ia4 0 0 0 0) ?_ 0; exact Z K1) Try.underlying50 rfl (by kernel_rfl)) rfl ?_
 exact ⟨ez, YA HB⟩

def impl_RestOk.f (a0_0 : Int) (a0_1 : Int) : Option (Bool) := if a0_0 = 0 then ((impl_NumOk.f a0_1).bind fun t1 => (some t1)) else (if a0_0 ≥ 1 then (if a0_0 ≤ 65536 then (if a0_1 ≥ 0 then (some (decide (a0_1 < a0_0))) else (some false)) else (some false)) else (some false))
set_option maxHeartbeats 8000000 in
set_option maxRecDepth 100000 in
theorem impl_RestOk.calls (a0_0 : Int) (a0_1 : Int) (r : Bool) (w : World) (h : impl_RestOk.f a0_0 a0_1 = some r) :
  Calls Try.prog 108 #[.agg #[.int .i64 a0_0, .int .i64 a0_1]] w fun e w' => e = .returned (.bool r) ∧ Below w.heap.size w w' := by
 have hu86 := Try.underlying86
 have HB := am (Below.refl w.heap.size w)
 have H : (if a0_0 = 0 then ((impl_NumOk.f a0_1).bind fun t1 => (some t1)) else (if a0_0 ≥ 1 then (if a0_0 ≤ 65536 then (if a0_1 ≥ 0 then (some (decide (a0_1 < a0_0))) else (some false)) else (some false)) else (some false))) = some r := h
 clear h
 by_cases c1 : a0_0 = 0
 ·rw [if_pos c1] at H
  have d1 := eT c1
  have d2 := nF c1
  clear c1
  obtain ⟨t1, A1, H⟩ := bd H
  try dsimp only at H
  obtain rfl := Option.some.inj H
  go_enter Try.func108, Try.ntmps108
  go_wp2_with (first | ((with_reducible refine gate_dst (N := 1) rfl ?_); refine bxn 1 #[.int .i64 a0_0, .int .i64 a0_1] 86 HB fun g1 w1 K1 G1 hg hb => ?_; replace HB := am (below_step (YA HB) hb); clear hb hg; have := cB2 K1) | ((with_reducible refine gate_callee (f := 60) rfl ?_); refine goesL_ (some 8) rfl rfl Try.func60 (by kernel_rfl) rfl #[.int .i64 a0_1] rfl mz ?_; (with_reducible refine (impl_NumOk.calls _ _ _ A1.out).mono ?_); rintro e w' ⟨rfl, ⟨nd, rfl⟩⟩; refine ⟨_, rfl, ?_⟩))
  go_ret
  exact ⟨ez, YA HB⟩
 rw [if_neg c1] at H
 have d1 := eF c1
 have d2 := nT c1
 by_cases c2 : a0_0 ≥ 1
 rotate_left
 ·rw [if_neg c2] at H
  have d3 := dF c2
  clear c2
  obtain rfl := Option.some.inj H
  go_enter Try.func108, Try.ntmps108
  go_wp2_with (first | ((with_reducible refine gate_dst (N := 1) rfl ?_); refine bxn 1 #[.int .i64 a0_0, .int .i64 a0_1] 86 HB fun g1 w1 K1 G1 hg hb => ?_; replace HB := am (below_step (YA HB) hb); clear hb hg; have := cB2 K1))
  go_ret
  exact ⟨ez, YA HB⟩
 rw [if_pos c2] at H
 have d3 := dT c2
 clear c2
 by_cases c3 : a0_0 ≤ 65536
 rotate_left
 ·rw [if_neg c3] at H
  have d4 := dF c3
  clear c3
  obtain rfl := Option.some.inj H
  go_enter Try.func108, Try.ntmps108
  go_wp2_with (first | ((with_reducible refine gate_dst (N := 1) rfl ?_); refine bxn 1 #[.int .i64 a0_0, .int .i64 a0_1] 86 HB fun g1 w1 K1 G1 hg hb => ?_; replace HB := am (below_step (YA HB) hb); clear hb hg; have := cB2 K1))
  go_ret
  exact ⟨ez, YA HB⟩
 rw [if_pos c3] at H
 have d4 := dT c3
 clear c3
 by_cases c4 : a0_1 ≥ 0
 ·rw [if_pos c4] at H
  have d5 := dT c4
  clear c4
  obtain rfl := Option.some.inj H
  go_enter Try.func108, Try.ntmps108
  go_wp2_with (first | ((with_reducible refine gate_dst (N := 1) rfl ?_); refine bxn 1 #[.int .i64 a0_0, .int .i64 a0_1] 86 HB fun g1 w1 K1 G1 hg hb => ?_; replace HB := am (below_step (YA HB) hb); clear hb hg; have := cB2 K1))
  go_ret
  exact ⟨ez, YA HB⟩
 rw [if_neg c4] at H
 have d5 := dF c4
 clear c4
 obtain rfl := Option.some.inj H
 go_enter Try.func108, Try.ntmps108
 go_wp2_with (first | ((with_reducible refine gate_dst (N := 1) rfl ?_); refine bxn 1 #[.int .i64 a0_0, .int .i64 a0_1] 86 HB fun g1 w1 K1 G1 hg hb => ?_; replace HB := am (below_step (YA HB) hb); clear hb hg; have := cB2 K1))
 go_ret
 exact ⟨ez, YA HB⟩

def impl_valOne.f (a0 : Int) : Option (Int × Int × Int × Int) := some (a0, a0, 0, a0)
set_option maxHeartbeats 8000000 in
set_option maxRecDepth 100000 in
theorem impl_valOne.calls (a0 : Int) (r1 : Int) (r2 : Int) (r3 : Int) (r4 : Int) (w : World) (h : impl_valOne.f a0 = some (r1, r2, r3, r4)) :
  Calls Try.prog 109 #[.int .i64 a0] w fun e w' => e = .returned (.agg #[.int .i64 r1, .int .i64 r2, .int .i64 r3, .int .i64 r4]) ∧ Below w.heap.size w w' := by
 have hu50 := Try.underlying50
 have HB := am (Below.refl w.heap.size w)
 have H : (some (a0, a0, 0, a0)) = some (r1, r2, r3, r4) := h
 clear h
 obtain ⟨rfl, rfl, rfl, rfl⟩ := sj4 H
 go_enter Try.func109, Try.ntmps109
 go_wp2_with (first | ((with_reducible refine gate_dst (N := 2) rfl ?_); refine bxn 2 #[.int .i64 0, .int .i64 0, .int .i64 0, .int .i64 0] 50 HB fun g1 w1 K1 G1 hg hb => ?_; replace HB := am (below_step (YA HB) hb); clear hb hg; have := cB4 K1))
 refine bodyPost_ret (results_cell_row rfl _ _ g1 50 #[.int .i64 a0, .int .i64 a0, .int .i64 0, .int .i64 a0] (0, 0) _ rfl (by refine pf ?_; refine bp (ia4 a0 a0 0 0) ?_ 3; refine pf ?_; refine bp (ia4 a0 a0 0 0) ?_ 2; refine pf ?_; refine bp (ia4 a0 0 0 0) ?_ 1; refine pf ?_; refine bp (ia4 0 0 0 0) ?_ 0; exact Z K1) Try.underlying50 rfl (by kernel_rfl)) rfl ?_
 exact ⟨ez, YA HB⟩

def impl_restMod.f (a0 : Int) (a1 : Int) : Option (Int) := if a1 = 0 then (none) else (if (Int.tmod a0 a1) < 0 then (some (wrap64 ((Int.tmod a0 a1) + a1))) else (some (Int.tmod a0 a1)))
set_option maxHeartbeats 8000000 in
set_option maxRecDepth 100000 in
theorem impl_restMod.calls (a0 : Int) (a1 : Int) (r : Int) (w : World) (h : impl_restMod.f a0 a1 = some r) :
  Calls Try.prog 110 #[.int .i64 a0, .int .i64 a1] w fun e w' => e = .returned (.int .i64 r) ∧ Drawn0 w w' := by
 have H : (if a1 = 0 then (none) else (if (Int.tmod a0 a1) < 0 then (some (wrap64 ((Int.tmod a0 a1) + a1))) else (some (Int.tmod a0 a1)))) = some r := h
 clear h
 by_cases c1 : a1 = 0
 ·rw [if_pos c1] at H
  exact absurd H (by simp)
 rw [if_neg c1] at H
 have d1 := eF c1
 have d2 := nT c1
 by_cases c2 : (Int.tmod a0 a1) < 0
 ·rw [if_pos c2] at H
  have d3 := dT c2
  clear c2
  obtain rfl := Option.some.inj H
  go_enter Try.func110, Try.ntmps110
  go_wp2
  go_ret
  exact ⟨by first | rfl | (simp; done) | (simp [*]; done), qs1⟩
 rw [if_neg c2] at H
 have d3 := dF c2
 clear c2
 obtain rfl := Option.some.inj H
 go_enter Try.func110, Try.ntmps110
 go_wp2
 go_ret
 exact ⟨by first | rfl | (simp; done) | (simp [*]; done), qs1⟩

def impl_ValMake.j0 : Nat → Bool → Int → Int → Int → Int → Option (Int × Int × Int × Int)
 | 0, _, _, _, _, _ => none
 | k + 1, x1, x2, x3, x4, x5 => if x1 = true then ((impl_valNone.f).bind fun u1 => (some (u1.1, u1.2.1, u1.2.2.1, u1.2.2.2))) else (if x4 = 0 then ((impl_RangeHas.f x2 x3 x5).bind fun t1 => (if t1 = true then ((impl_valOne.f x5).bind fun u2 => (some (u2.1, u2.2.1, u2.2.2.1, u2.2.2.2))) else ((impl_valNone.f).bind fun u3 => (some (u3.1, u3.2.1, u3.2.2.1, u3.2.2.2))))) else ((impl_restMod.f (wrap64 (x5 - x2)) x4).bind fun t2 => ((impl_restMod.f (wrap64 (x3 - x5)) x4).bind fun t3 => (if (wrap64 (x2 + t2)) > (wrap64 (x3 - t3)) then ((impl_valNone.f).bind fun u4 => (some (u4.1, u4.2.1, u4.2.2.1, u4.2.2.2))) else (if (wrap64 (x2 + t2)) = (wrap64 (x3 - t3)) then ((impl_valOne.f (wrap64 (x2 + t2))).bind fun u5 => (some (u5.1, u5.2.1, u5.2.2.1, u5.2.2.2))) else (some (wrap64 (x2 + t2), wrap64 (x3 - t3), x4, x5)))))))
def impl_ValMake.f (k : Nat) (a0_0 : Int) (a0_1 : Int) (a1_0 : Int) (a1_1 : Int) : Option (Int × Int × Int × Int) := (impl_RangeOk.f a0_0 a0_1).bind fun t1 => (if t1 = true then ((impl_RestOk.f a1_0 a1_1).bind fun t2 => (if t2 = true then ((impl_Range_empty.f a0_0 a0_1).bind fun t3 => (impl_ValMake.j0 k t3 a0_0 a0_1 a1_0 a1_1)) else (impl_ValMake.j0 k true a0_0 a0_1 a1_0 a1_1))) else (impl_ValMake.j0 k true a0_0 a0_1 a1_0 a1_1))
theorem impl_ValMake.mono_l : ∀ k, (∀ y0 y1 y2 y3 y4, LeO (impl_ValMake.j0 k y0 y1 y2 y3 y4) (impl_ValMake.j0 (k + 1) y0 y1 y2 y3 y4))
 | 0 => fun _ _ _ _ _ r h => by simp [impl_ValMake.j0] at h
 | k + 1 => by
  have ih0 := impl_ValMake.mono_l k
  ·intro y0 y1 y2 y3 y4
   unfold impl_ValMake.j0
   repeat' first | (with_reducible first | apply ih0 | apply LeO.refl | apply LeO.none | refine LeO.ite ?_ ?_ | refine LeO.bind ?_ (fun _ => ?_)) | apply ih0 | apply LeO.none | refine LeO.ite ?_ ?_ | refine LeO.bind ?_ (fun _ => ?_)
theorem impl_ValMake.mono : ∀ a0 a1 a2 a3 k, LeO (impl_ValMake.f k a0 a1 a2 a3) (impl_ValMake.f (k + 1) a0 a1 a2 a3) := by
 intro a0 a1 a2 a3 k
 have ih0 := impl_ValMake.mono_l k
 unfold impl_ValMake.f
 repeat' first | (with_reducible first | apply ih0 | apply LeO.refl | apply LeO.none | refine LeO.ite ?_ ?_ | refine LeO.bind ?_ (fun _ => ?_)) | apply ih0 | apply LeO.none | refine LeO.ite ?_ ?_ | refine LeO.bind ?_ (fun _ => ?_)
set_option maxHeartbeats 8000000 in
set_option maxRecDepth 100000 in
theorem impl_ValMake.calls (k : Nat) (a0_0 : Int) (a0_1 : Int) (a1_0 : Int) (a1_1 : Int) (r1 : Int) (r2 : Int) (r3 : Int) (r4 : Int) (w : World) (h : impl_ValMake.f k a0_0 a0_1 a1_0 a1_1 = some (r1, r2, r3, r4)) :
  Calls Try.prog 80 #[.agg #[.int .i64 a0_0, .int .i64 a0_1], .agg #[.int .i64 a1_0, .int .i64 a1_1]] w fun e w' => e = .returned (.agg #[.int .i64 r1, .int .i64 r2, .int .i64 r3, .int .i64 r4]) ∧ Below w.heap.size w w' := by
 have hu24 := Try.underlying24
 have hu86 := Try.underlying86
 have hu50 := Try.underlying50
 have HB := am (Below.refl w.heap.size w)
 have H : ((impl_RangeOk.f a0_0 a0_1).bind fun t1 => (if t1 = true then ((impl_RestOk.f a1_0 a1_1).bind fun t2 => (if t2 = true then ((impl_Range_empty.f a0_0 a0_1).bind fun t3 => (impl_ValMake.j0 k t3 a0_0 a0_1 a1_0 a1_1)) else (impl_ValMake.j0 k true a0_0 a0_1 a1_0 a1_1))) else (impl_ValMake.j0 k true a0_0 a0_1 a1_0 a1_1))) = some (r1, r2, r3, r4) := h
 clear h
 have C1 := am H
 clear H
 go_enter Try.func80, Try.ntmps80
 go_upto_region 1 with (first | ((with_reducible refine gate_dst (N := 2) rfl ?_); refine bxn 2 #[.int .i64 a0_0, .int .i64 a0_1] 24 HB fun g1 w1 K1 G1 hg hb => ?_; replace HB := am (below_step (YA HB) hb); clear hb hg) | ((with_reducible refine gate_dst (N := 3) rfl ?_); refine bxn 3 #[.int .i64 a1_0, .int .i64 a1_1] 86 HB fun g2 w2 K2 G2 hg hb => ?_; obtain ⟨N1,N2⟩ := ne_ hg K1; obtain ⟨K1, HB⟩ := bk1 K1 HB hb; clear hb hg) | ((with_reducible refine gate_dst (N := 4) rfl ?_); refine bxn 4 #[.int .i64 0, .int .i64 0, .int .i64 0, .int .i64 0] 50 HB fun g3 w3 K3 G3 hg hb => ?_; obtain ⟨N3,N4⟩ := ne_ hg K1; obtain ⟨N5,N6⟩ := ne_ hg K2; obtain ⟨K1, K2, HB⟩ := bk2 K1 K2 HB hb; clear hb hg))
 repeat (go_quiet (first | ((with_reducible refine gate_dst (N := 2) rfl ?_); refine bxn 2 #[.int .i64 a0_0, .int .i64 a0_1] 24 HB fun g1 w1 K1 G1 hg hb => ?_; replace HB := am (below_step (YA HB) hb); clear hb hg) | ((with_reducible refine gate_dst (N := 3) rfl ?_); refine bxn 3 #[.int .i64 a1_0, .int .i64 a1_1] 86 HB fun g2 w2 K2 G2 hg hb => ?_; obtain ⟨N1,N2⟩ := ne_ hg K1; obtain ⟨K1, HB⟩ := bk1 K1 HB hb; clear hb hg) | ((with_reducible refine gate_dst (N := 4) rfl ?_); refine bxn 4 #[.int .i64 0, .int .i64 0, .int .i64 0, .int .i64 0] 50 HB fun g3 w3 K3 G3 hg hb => ?_; obtain ⟨N3,N4⟩ := ne_ hg K1; obtain ⟨N5,N6⟩ := ne_ hg K2; obtain ⟨K1, K2, HB⟩ := bk2 K1 K2 HB hb; clear hb hg)); go_upto_region 1 with (first | ((with_reducible refine gate_dst (N := 2) rfl ?_); refine bxn 2 #[.int .i64 a0_0, .int .i64 a0_1] 24 HB fun g1 w1 K1 G1 hg hb => ?_; replace HB := am (below_step (YA HB) hb); clear hb hg) | ((with_reducible refine gate_dst (N := 3) rfl ?_); refine bxn 3 #[.int .i64 a1_0, .int .i64 a1_1] 86 HB fun g2 w2 K2 G2 hg hb => ?_; obtain ⟨N1,N2⟩ := ne_ hg K1; obtain ⟨K1, HB⟩ := bk1 K1 HB hb; clear hb hg) | ((with_reducible refine gate_dst (N := 4) rfl ?_); refine bxn 4 #[.int .i64 0, .int .i64 0, .int .i64 0, .int .i64 0] 50 HB fun g3 w3 K3 G3 hg hb => ?_; obtain ⟨N3,N4⟩ := ne_ hg K1; obtain ⟨N5,N6⟩ := ne_ hg K2; obtain ⟨K1, K2, HB⟩ := bk2 K1 K2 HB hb; clear hb hg)))
 (try simp only [Act.put, List.setIfInBounds_toArray, List.set_cons_zero, List.set_cons_succ])
 go_cut [18] (fun v1 wc => ∃ (kq : Nat) (x1 : Bool), v1 = .bool x1 ∧ Aside0 (impl_ValMake.j0 kq x1 a0_0 a0_1 a1_0 a1_1 = some (r1, r2, r3, r4)) ∧ Aside0 (kq ≤ k) ∧ Bx2 wc g1 a0_0 a0_1 24 ∧ Bx2 wc g2 a1_0 a1_1 86 ∧ Bx4 wc g3 0 0 0 0 50 ∧ Aside0 (Below w.heap.size w wc))
 case first =>
  have H := C1.out
  clear C1
  obtain ⟨t1, A1, H⟩ := bd H
  try dsimp only at H
  by_cases c1 : t1 = true
  rotate_left
  ·replace c1 := Bool.eq_false_iff.mpr c1
   subst c1
   rw [if_neg ff] at H
   have H' := am H
   clear H
   have := ns2 N1 N3
   have := cB2 K1
   go_wp2_with (first | (go_at_call 46; (with_reducible refine (impl_RangeOk.calls _ _ _ _ A1.out).mono ?_); rintro e w4 ⟨rfl, hb⟩; obtain ⟨K1, K2, K3, HB⟩ := bk3 K1 K2 K3 HB hb; (try clear hb)))
   repeat (go_quiet (first | (go_at_call 46; (with_reducible refine (impl_RangeOk.calls _ _ _ _ A1.out).mono ?_); rintro e w4 ⟨rfl, hb⟩; obtain ⟨K1, K2, K3, HB⟩ := bk3 K1 K2 K3 HB hb; (try clear hb))); try go_wp2_with (first | (go_at_call 46; (with_reducible refine (impl_RangeOk.calls _ _ _ _ A1.out).mono ?_); rintro e w4 ⟨rfl, hb⟩; obtain ⟨K1, K2, K3, HB⟩ := bk3 K1 K2 K3 HB hb; (try clear hb))))
   go_meet
   case rel => exact ⟨_, (true), ey, H', le0, ⟨Z K1⟩, ⟨Z K2⟩, ⟨Z K3⟩, ⟨YA HB⟩⟩
  subst c1
  rw [if_pos rfl] at H
  obtain ⟨t2, A2, H⟩ := bd H
  try dsimp only at H
  by_cases c2 : t2 = true
  rotate_left
  ·replace c2 := Bool.eq_false_iff.mpr c2
   subst c2
   rw [if_neg ff] at H
   have H' := am H
   clear H
   have := ns2 N1 N3
   have := cB2 K1
   go_wp2_with (first | (go_at_call 46; (with_reducible refine (impl_RangeOk.calls _ _ _ _ A1.out).mono ?_); rintro e w4 ⟨rfl, hb⟩; obtain ⟨K1, K2, K3, HB⟩ := bk3 K1 K2 K3 HB hb; (try clear hb); have := ns1 N5; have := cB2 K2) | (go_at_call 108; (with_reducible refine (impl_RestOk.calls _ _ _ _ A2.out).mono ?_); rintro e w5 ⟨rfl, hb⟩; obtain ⟨K1, K2, K3, HB⟩ := bk3 K1 K2 K3 HB hb; (try clear hb)))
   try have z1 := N5.out
   try have z2 := N6.out
   try have z3 := bc K2 0
   try have z4 := bc K2 1
   try have z5 := blk_frozen K2.out 0
   try have z6 := blk_frozen K2.out 1
   repeat (go_quiet (first | (go_at_call 46; (with_reducible refine (impl_RangeOk.calls _ _ _ _ A1.out).mono ?_); rintro e w4 ⟨rfl, hb⟩; obtain ⟨K1, K2, K3, HB⟩ := bk3 K1 K2 K3 HB hb; (try clear hb); (try (have := ns1 N5; have := cB2 K2))) | (go_at_call 108; (with_reducible refine (impl_RestOk.calls _ _ _ _ A2.out).mono ?_); rintro e w5 ⟨rfl, hb⟩; obtain ⟨K1, K2, K3, HB⟩ := bk3 K1 K2 K3 HB hb; (try clear hb))); try go_wp2_with (first | (go_at_call 46; (with_reducible refine (impl_RangeOk.calls _ _ _ _ A1.out).mono ?_); rintro e w4 ⟨rfl, hb⟩; obtain ⟨K1, K2, K3, HB⟩ := bk3 K1 K2 K3 HB hb; (try clear hb); (try (have := ns1 N5; have := cB2 K2))) | (go_at_call 108; (with_reducible refine (impl_RestOk.calls _ _ _ _ A2.out).mono ?_); rintro e w5 ⟨rfl, hb⟩; obtain ⟨K1, K2, K3, HB⟩ := bk3 K1 K2 K3 HB hb; (try clear hb))))
   go_meet
   case rel => exact ⟨_, (true), ey, H', le0, ⟨Z K1⟩, ⟨Z K2⟩, ⟨Z K3⟩, ⟨YA HB⟩⟩
  subst c2
  rw [if_pos rfl] at H
  obtain ⟨t3, A3, H⟩ := bd H
  try dsimp only at H
  have H' := am H
  clear H
  have := ns2 N1 N3
  have := cB2 K1
  go_wp2_with (first | (go_at_call 46; (with_reducible refine (impl_RangeOk.calls _ _ _ _ A1.out).mono ?_); rintro e w4 ⟨rfl, hb⟩; obtain ⟨K1, K2, K3, HB⟩ := bk3 K1 K2 K3 HB hb; (try clear hb); have := ns1 N5; have := cB2 K2) | (go_at_call 108; (with_reducible refine (impl_RestOk.calls _ _ _ _ A2.out).mono ?_); rintro e w5 ⟨rfl, hb⟩; obtain ⟨K1, K2, K3, HB⟩ := bk3 K1 K2 K3 HB hb; (try clear hb); have := cB2 K1) | (go_at_call 47; (with_reducible refine (impl_Range_empty.calls _ _ _ _ A3.out).mono ?_); rintro e w6 ⟨rfl, hb⟩; obtain ⟨K1, K2, K3, HB⟩ := bk3 K1 K2 K3 HB hb; (try clear hb)))
  try have z1 := N5.out
  try have z2 := N6.out
  try have z3 := bc K2 0
  try have z4 := bc K2 1
  try have z5 := blk_frozen K2.out 0
  try have z6 := blk_frozen K2.out 1
  try have z7 := bc K1 0
  try have z8 := bc K1 1
  try have z9 := blk_frozen K1.out 0
  try have z10 := blk_frozen K1.out 1
  repeat (go_quiet (first | (go_at_call 46; (with_reducible refine (impl_RangeOk.calls _ _ _ _ A1.out).mono ?_); rintro e w4 ⟨rfl, hb⟩; obtain ⟨K1, K2, K3, HB⟩ := bk3 K1 K2 K3 HB hb; (try clear hb); (try (have := ns1 N5; have := cB2 K2))) | (go_at_call 108; (with_reducible refine (impl_RestOk.calls _ _ _ _ A2.out).mono ?_); rintro e w5 ⟨rfl, hb⟩; obtain ⟨K1, K2, K3, HB⟩ := bk3 K1 K2 K3 HB hb; (try clear hb); (try (have := cB2 K1))) | (go_at_call 47; (with_reducible refine (impl_Range_empty.calls _ _ _ _ A3.out).mono ?_); rintro e w6 ⟨rfl, hb⟩; obtain ⟨K1, K2, K3, HB⟩ := bk3 K1 K2 K3 HB hb; (try clear hb))); try go_wp2_with (first | (go_at_call 46; (with_reducible refine (impl_RangeOk.calls _ _ _ _ A1.out).mono ?_); rintro e w4 ⟨rfl, hb⟩; obtain ⟨K1, K2, K3, HB⟩ := bk3 K1 K2 K3 HB hb; (try clear hb); (try (have := ns1 N5; have := cB2 K2))) | (go_at_call 108; (with_reducible refine (impl_RestOk.calls _ _ _ _ A2.out).mono ?_); rintro e w5 ⟨rfl, hb⟩; obtain ⟨K1, K2, K3, HB⟩ := bk3 K1 K2 K3 HB hb; (try clear hb); (try (have := cB2 K1))) | (go_at_call 47; (with_reducible refine (impl_Range_empty.calls _ _ _ _ A3.out).mono ?_); rintro e w6 ⟨rfl, hb⟩; obtain ⟨K1, K2, K3, HB⟩ := bk3 K1 K2 K3 HB hb; (try clear hb))))
  go_meet
  case rel => exact ⟨_, (t3), ey, H', le0, ⟨Z K1⟩, ⟨Z K2⟩, ⟨Z K3⟩, ⟨YA HB⟩⟩
 clear C1
 obtain ⟨kq, x1, rfl, HA, J1, K1, K2, K3, HB⟩ := hcut
 cases kq with
 | zero => exact absurd HA.out (by simp [impl_ValMake.j0])
 | succ k1 => ?_
 have H := HA.out
 clear HA
 simp only [impl_ValMake.j0] at H
 by_cases c1 : x1 = true
 ·subst c1
  rw [if_pos rfl] at H
  obtain ⟨⟨t4, t5, t6, t7⟩, A1, H⟩ := bd H
  try dsimp only at H
  obtain ⟨rfl, rfl, rfl, rfl⟩ := sj4 H
  go_wp2_with (first | (go_at_call 78; (with_reducible refine (impl_valNone.calls _ _ _ _ _ A1.out).mono ?_); rintro e w4 ⟨rfl, hb⟩; obtain ⟨K1, K2, K3, HB⟩ := bk3 K1 K2 K3 HB hb; (try clear hb); have := ns2 N4 N6; have := cB4 K3))
  try have z1 := N4.out
  try have z2 := N3.out
  try have z3 := N6.out
  try have z4 := N5.out
  try have z5 := bc K3 0
  try have z6 := bc K3 1
  try have z7 := bc K3 2
  try have z8 := bc K3 3
  try have z9 := blk_frozen K3.out 0
  try have z10 := blk_frozen K3.out 1
  try have z11 := blk_frozen K3.out 2
  try have z12 := blk_frozen K3.out 3
  repeat (go_quiet (first | (go_at_call 78; (with_reducible refine (impl_valNone.calls _ _ _ _ _ A1.out).mono ?_); rintro e w4 ⟨rfl, hb⟩; obtain ⟨K1, K2, K3, HB⟩ := bk3 K1 K2 K3 HB hb; (try clear hb); (try (have := ns2 N4 N6; have := cB4 K3)))); try go_wp2_with (first | (go_at_call 78; (with_reducible refine (impl_valNone.calls _ _ _ _ _ A1.out).mono ?_); rintro e w4 ⟨rfl, hb⟩; obtain ⟨K1, K2, K3, HB⟩ := bk3 K1 K2 K3 HB hb; (try clear hb); (try (have := ns2 N4 N6; have := cB4 K3)))))
  refine bodyPost_ret (results_cell_row rfl _ _ g3 50 #[.int .i64 t4, .int .i64 t5, .int .i64 t6, .int .i64 t7] (0, 0) _ rfl (by refine pf ?_; refine bp (ia4 t4 t5 t6 0) ?_ 3; refine pf ?_; refine bp (ia4 t4 t5 0 0) ?_ 2; refine pf ?_; refine bp (ia4 t4 0 0 0) ?_ 1; refine pf ?_; refine bp (ia4 0 0 0 0) ?_ 0; exact Z K3) Try.underlying50 rfl (by kernel_rfl)) rfl ?_
  exact ⟨ez, YA HB⟩
 replace c1 := Bool.eq_false_iff.mpr c1
 subst c1
 rw [if_neg ff] at H
 by_cases c2 : a1_0 = 0
 ·rw [if_pos c2] at H
  have d1 := eT c2
  have d2 := nF c2
  clear c2
  obtain ⟨t4, A1, H⟩ := bd H
  try dsimp only at H
  by_cases c3 : t4 = true
  rotate_left
  ·replace c3 := Bool.eq_false_iff.mpr c3
   subst c3
   rw [if_neg ff] at H
   obtain ⟨⟨t5, t6, t7, t8⟩, A2, H⟩ := bd H
   try dsimp only at H
   obtain ⟨rfl, rfl, rfl, rfl⟩ := sj4 H
   have := ns3 N2 N5 N3
   have := cB2 K2
   have := cB2 K1
   go_wp2_with (first | (go_at_call 95; (with_reducible refine (impl_RangeHas.calls _ _ _ _ _ A1.out).mono ?_); rintro e w4 ⟨rfl, hb⟩; obtain ⟨K1, K2, K3, HB⟩ := bk3 K1 K2 K3 HB hb; (try clear hb)) | (go_at_call 78; (with_reducible refine (impl_valNone.calls _ _ _ _ _ A2.out).mono ?_); rintro e w5 ⟨rfl, hb⟩; obtain ⟨K1, K2, K3, HB⟩ := bk3 K1 K2 K3 HB hb; (try clear hb); have := cB4 K3))
   try have z1 := bc K3 0
   try have z2 := bc K3 1
   try have z3 := bc K3 2
   try have z4 := bc K3 3
   try have z5 := blk_frozen K3.out 0
   try have z6 := blk_frozen K3.out 1
   try have z7 := blk_frozen K3.out 2
   try have z8 := blk_frozen K3.out 3
   repeat (go_quiet (first | (go_at_call 95; (with_reducible refine (impl_RangeHas.calls _ _ _ _ _ A1.out).mono ?_); rintro e w4 ⟨rfl, hb⟩; obtain ⟨K1, K2, K3, HB⟩ := bk3 K1 K2 K3 HB hb; (try clear hb)) | (go_at_call 78; (with_reducible refine (impl_valNone.calls _ _ _ _ _ A2.out).mono ?_); rintro e w5 ⟨rfl, hb⟩; obtain ⟨K1, K2, K3, HB⟩ := bk3 K1 K2 K3 HB hb; (try clear hb); (try (have := cB4 K3)))); try go_wp2_with (first | (go_at_call 95; (with_reducible refine (impl_RangeHas.calls _ _ _ _ _ A1.out).mono ?_); rintro e w4 ⟨rfl, hb⟩; obtain ⟨K1, K2, K3, HB⟩ := bk3 K1 K2 K3 HB hb; (try clear hb)) | (go_at_call 78; (with_reducible refine (impl_valNone.calls _ _ _ _ _ A2.out).mono ?_); rintro e w5 ⟨rfl, hb⟩; obtain ⟨K1, K2, K3, HB⟩ := bk3 K1 K2 K3 HB hb; (try clear hb); (try (have := cB4 K3)))))
   refine bodyPost_ret (results_cell_row rfl _ _ g3 50 #[.int .i64 t5, .int .i64 t6, .int .i64 t7, .int .i64 t8] (0, 0) _ rfl (by refine pf ?_; refine bp (ia4 t5 t6 t7 0) ?_ 3; refine pf ?_; refine bp (ia4 t5 t6 0 0) ?_ 2; refine pf ?_; refine bp (ia4 t5 0 0 0) ?_ 1; refine pf ?_; refine bp (ia4 0 0 0 0) ?_ 0; exact Z K3) Try.underlying50 rfl (by kernel_rfl)) rfl ?_
   exact ⟨ez, YA HB⟩
  subst c3
  rw [if_pos rfl] at H
  obtain ⟨⟨t5, t6, t7, t8⟩, A2, H⟩ := bd H
  try dsimp only at H
  obtain ⟨rfl, rfl, rfl, rfl⟩ := sj4 H
  have := ns3 N2 N5 N3
  have := cB2 K2
  have := cB2 K1
  go_wp2_with (first | (go_at_call 95; (with_reducible refine (impl_RangeHas.calls _ _ _ _ _ A1.out).mono ?_); rintro e w4 ⟨rfl, hb⟩; obtain ⟨K1, K2, K3, HB⟩ := bk3 K1 K2 K3 HB hb; (try clear hb); have := cB2 K2) | (go_at_call 109; (with_reducible refine (impl_valOne.calls _ _ _ _ _ _ A2.out).mono ?_); rintro e w5 ⟨rfl, hb⟩; obtain ⟨K1, K2, K3, HB⟩ := bk3 K1 K2 K3 HB hb; (try clear hb); have := cB4 K3))
  try have z1 := bc K2 0
  try have z2 := bc K2 1
  try have z3 := blk_frozen K2.out 0
  try have z4 := blk_frozen K2.out 1
  try have z5 := bc K3 0
  try have z6 := bc K3 1
  try have z7 := bc K3 2
  try have z8 := bc K3 3
  try have z9 := blk_frozen K3.out 0
  try have z10 := blk_frozen K3.out 1
  try have z11 := blk_frozen K3.out 2
  try have z12 := blk_frozen K3.out 3
  repeat (go_quiet (first | (go_at_call 95; (with_reducible refine (impl_RangeHas.calls _ _ _ _ _ A1.out).mono ?_); rintro e w4 ⟨rfl, hb⟩; obtain ⟨K1, K2, K3, HB⟩ := bk3 K1 K2 K3 HB hb; (try clear hb); (try (have := cB2 K2))) | (go_at_call 109; (with_reducible refine (impl_valOne.calls _ _ _ _ _ _ A2.out).mono ?_); rintro e w5 ⟨rfl, hb⟩; obtain ⟨K1, K2, K3, HB⟩ := bk3 K1 K2 K3 HB hb; (try clear hb); (try (have := cB4 K3)))); try go_wp2_with (first | (go_at_call 95; (with_reducible refine (impl_RangeHas.calls _ _ _ _ _ A1.out).mono ?_); rintro e w4 ⟨rfl, hb⟩; obtain ⟨K1, K2, K3, HB⟩ := bk3 K1 K2 K3 HB hb; (try clear hb); (try (have := cB2 K2))) | (go_at_call 109; (with_reducible refine (impl_valOne.calls _ _ _ _ _ _ A2.out).mono ?_); rintro e w5 ⟨rfl, hb⟩; obtain ⟨K1, K2, K3, HB⟩ := bk3 K1 K2 K3 HB hb; (try clear hb); (try (have := cB4 K3)))))
  refine bodyPost_ret (results_cell_row rfl _ _ g3 50 #[.int .i64 t5, .int .i64 t6, .int .i64 t7, .int .i64 t8] (0, 0) _ rfl (by refine pf ?_; refine bp (ia4 t5 t6 t7 0) ?_ 3; refine pf ?_; refine bp (ia4 t5 t6 0 0) ?_ 2; refine pf ?_; refine bp (ia4 t5 0 0 0) ?_ 1; refine pf ?_; refine bp (ia4 0 0 0 0) ?_ 0; exact Z K3) Try.underlying50 rfl (by kernel_rfl)) rfl ?_
  exact ⟨ez, YA HB⟩
 rw [if_neg c2] at H
 have d1 := eF c2
 have d2 := nT c2
 obtain ⟨t4, A1, H⟩ := bd H
 try dsimp only at H
 obtain ⟨t5, A2, H⟩ := bd H
 try dsimp only at H
 by_cases c3 : (wrap64 (a0_0 + t4)) > (wrap64 (a0_1 - t5))
 ·rw [if_pos c3] at H
  have d3 := dT c3
  clear c3
  obtain ⟨⟨t6, t7, t8, t9⟩, A3, H⟩ := bd H
  try dsimp only at H
  obtain ⟨rfl, rfl, rfl, rfl⟩ := sj4 H
  have := ns3 N2 N5 N3
  have := cB2 K2
  have := cB2 K1
  go_wp2_with (first | (go_at_call 110; (with_reducible refine (impl_restMod.calls _ _ _ _ A1.out).mono ?_); rintro e w' ⟨rfl, ⟨nd, rfl⟩⟩; (try first | exact ⟨rfl, _, World.drewN_drewN _ _ _⟩ | exact ⟨rfl, _, Eq.trans (World.drewN_drewN _ _ _) (congrArg (World.drewN _) (Nat.add_assoc _ _ _))⟩)) | (go_at_call 110; (with_reducible refine (impl_restMod.calls _ _ _ _ A2.out).mono ?_); rintro e w' ⟨rfl, ⟨nd, rfl⟩⟩; (try first | exact ⟨rfl, _, World.drewN_drewN _ _ _⟩ | exact ⟨rfl, _, Eq.trans (World.drewN_drewN _ _ _) (congrArg (World.drewN _) (Nat.add_assoc _ _ _))⟩)) | (go_at_call 78; (with_reducible refine (impl_valNone.calls _ _ _ _ _ A3.out).mono ?_); rintro e w4 ⟨rfl, hb⟩; obtain ⟨K1, K2, K3, HB⟩ := bk3 K1 K2 K3 HB hb; (try clear hb); have := cB4 K3))
  try have z1 := bc K3 0
  try have z2 := bc K3 1
  try have z3 := bc K3 2
  try have z4 := bc K3 3
  try have z5 := blk_frozen K3.out 0
  try have z6 := blk_frozen K3.out 1
  try have z7 := blk_frozen K3.out 2
  try have z8 := blk_frozen K3.out 3
  repeat (go_quiet (first | (go_at_call 110; (with_reducible refine (impl_restMod.calls _ _ _ _ A1.out).mono ?_); rintro e w' ⟨rfl, ⟨nd, rfl⟩⟩; (try first | exact ⟨rfl, _, World.drewN_drewN _ _ _⟩ | exact ⟨rfl, _, Eq.trans (World.drewN_drewN _ _ _) (congrArg (World.drewN _) (Nat.add_assoc _ _ _))⟩)) | (go_at_call 110; (with_reducible refine (impl_restMod.calls _ _ _ _ A2.out).mono ?_); rintro e w' ⟨rfl, ⟨nd, rfl⟩⟩; (try first | exact ⟨rfl, _, World.drewN_drewN _ _ _⟩ | exact ⟨rfl, _, Eq.trans (World.drewN_drewN _ _ _) (congrArg (World.drewN _) (Nat.add_assoc _ _ _))⟩)) | (go_at_call 78; (with_reducible refine (impl_valNone.calls _ _ _ _ _ A3.out).mono ?_); rintro e w4 ⟨rfl, hb⟩; obtain ⟨K1, K2, K3, HB⟩ := bk3 K1 K2 K3 HB hb; (try clear hb); (try (have := cB4 K3)))); try go_wp2_with (first | (go_at_call 110; (with_reducible refine (impl_restMod.calls _ _ _ _ A1.out).mono ?_); rintro e w' ⟨rfl, ⟨nd, rfl⟩⟩; (try first | exact ⟨rfl, _, World.drewN_drewN _ _ _⟩ | exact ⟨rfl, _, Eq.trans (World.drewN_drewN _ _ _) (congrArg (World.drewN _) (Nat.add_assoc _ _ _))⟩)) | (go_at_call 110; (with_reducible refine (impl_restMod.calls _ _ _ _ A2.out).mono ?_); rintro e w' ⟨rfl, ⟨nd, rfl⟩⟩; (try first | exact ⟨rfl, _, World.drewN_drewN _ _ _⟩ | exact ⟨rfl, _, Eq.trans (World.drewN_drewN _ _ _) (congrArg (World.drewN _) (Nat.add_assoc _ _ _))⟩)) | (go_at_call 78; (with_reducible refine (impl_valNone.calls _ _ _ _ _ A3.out).mono ?_); rintro e w4 ⟨rfl, hb⟩; obtain ⟨K1, K2, K3, HB⟩ := bk3 K1 K2 K3 HB hb; (try clear hb); (try (have := cB4 K3)))))
  refine bodyPost_ret (results_cell_row rfl _ _ g3 50 #[.int .i64 t6, .int .i64 t7, .int .i64 t8, .int .i64 t9] (0, 0) _ rfl (by refine pf ?_; refine bp (ia4 t6 t7 t8 0) ?_ 3; refine pf ?_; refine bp (ia4 t6 t7 0 0) ?_ 2; refine pf ?_; refine bp (ia4 t6 0 0 0) ?_ 1; refine pf ?_; refine bp (ia4 0 0 0 0) ?_ 0; exact Z K3) Try.underlying50 rfl (by kernel_rfl)) rfl ?_
  exact ⟨ez, YA HB⟩
 rw [if_neg c3] at H
 have d3 := dF c3
 clear c3
 by_cases c4 : (wrap64 (a0_0 + t4)) = (wrap64 (a0_1 - t5))
 rotate_left
 ·rw [if_neg c4] at H
  have d4 := eF c4
  have d5 := nT c4
  obtain ⟨rfl, rfl, rfl, rfl⟩ := sj4 H
  have := ns3 N2 N5 N3
  have := cB2 K2
  have := cB2 K1
  go_wp2_with (first | (go_at_call 110; (with_reducible refine (impl_restMod.calls _ _ _ _ A1.out).mono ?_); rintro e w' ⟨rfl, ⟨nd, rfl⟩⟩; (try first | exact ⟨rfl, _, World.drewN_drewN _ _ _⟩ | exact ⟨rfl, _, Eq.trans (World.drewN_drewN _ _ _) (congrArg (World.drewN _) (Nat.add_assoc _ _ _))⟩)) | (go_at_call 110; (with_reducible refine (impl_restMod.calls _ _ _ _ A2.out).mono ?_); rintro e w' ⟨rfl, ⟨nd, rfl⟩⟩; (try first | exact ⟨rfl, _, World.drewN_drewN _ _ _⟩ | exact ⟨rfl, _, Eq.trans (World.drewN_drewN _ _ _) (congrArg (World.drewN _) (Nat.add_assoc _ _ _))⟩); have := cB4 K3))
  try have z1 := bc K3 0
  try have z2 := bc K3 1
  try have z3 := bc K3 2
  try have z4 := bc K3 3
  try have z5 := blk_frozen K3.out 0
  try have z6 := blk_frozen K3.out 1
  try have z7 := blk_frozen K3.out 2
  try have z8 := blk_frozen K3.out 3
  repeat (go_quiet (first | (go_at_call 110; (with_reducible refine (impl_restMod.calls _ _ _ _ A1.out).mono ?_); rintro e w' ⟨rfl, ⟨nd, rfl⟩⟩; (try first | exact ⟨rfl, _, World.drewN_drewN _ _ _⟩ | exact ⟨rfl, _, Eq.trans (World.drewN_drewN _ _ _) (congrArg (World.drewN _) (Nat.add_assoc _ _ _))⟩)) | (go_at_call 110; (with_reducible refine (impl_restMod.calls _ _ _ _ A2.out).mono ?_); rintro e w' ⟨rfl, ⟨nd, rfl⟩⟩; (try first | exact ⟨rfl, _, World.drewN_drewN _ _ _⟩ | exact ⟨rfl, _, Eq.trans (World.drewN_drewN _ _ _) (congrArg (World.drewN _) (Nat.add_assoc _ _ _))⟩); (try (have := cB4 K3)))); try go_wp2_with (first | (go_at_call 110; (with_reducible refine (impl_restMod.calls _ _ _ _ A1.out).mono ?_); rintro e w' ⟨rfl, ⟨nd, rfl⟩⟩; (try first | exact ⟨rfl, _, World.drewN_drewN _ _ _⟩ | exact ⟨rfl, _, Eq.trans (World.drewN_drewN _ _ _) (congrArg (World.drewN _) (Nat.add_assoc _ _ _))⟩)) | (go_at_call 110; (with_reducible refine (impl_restMod.calls _ _ _ _ A2.out).mono ?_); rintro e w' ⟨rfl, ⟨nd, rfl⟩⟩; (try first | exact ⟨rfl, _, World.drewN_drewN _ _ _⟩ | exact ⟨rfl, _, Eq.trans (World.drewN_drewN _ _ _) (congrArg (World.drewN _) (Nat.add_assoc _ _ _))⟩); (try (have := cB4 K3)))))
  refine bodyPost_ret (results_cell_row rfl _ _ g3 50 #[.int .i64 (wrap64 (a0_0 + t4)), .int .i64 (wrap64 (a0_1 - t5)), .int .i64 a1_0, .int .i64 a1_1] (0, 0) _ rfl (by refine pf ?_; refine bp (ia4 (wrap64 (a0_0 + t4)) (wrap64 (a0_1 - t5)) a1_0 0) ?_ 3; refine pf ?_; refine bp (ia4 (wrap64 (a0_0 + t4)) (wrap64 (a0_1 - t5)) 0 0) ?_ 2; refine pf ?_; refine bp (ia4 (wrap64 (a0_0 + t4)) 0 0 0) ?_ 1; refine pf ?_; refine bp (ia4 0 0 0 0) ?_ 0; exact Z K3) Try.underlying50 rfl (by kernel_rfl)) rfl ?_
  exact ⟨ez, YA HB⟩
 rw [if_pos c4] at H
 have d4 := eT c4
 have d5 := nF c4
 clear c4
 obtain ⟨⟨t6, t7, t8, t9⟩, A3, H⟩ := bd H
 try dsimp only at H
 obtain ⟨rfl, rfl, rfl, rfl⟩ := sj4 H
 have := ns3 N2 N5 N3
 have := cB2 K2
 have := cB2 K1
 go_wp2_with (first | (go_at_call 110; (with_reducible refine (impl_restMod.calls _ _ _ _ A1.out).mono ?_); rintro e w' ⟨rfl, ⟨nd, rfl⟩⟩; (try first | exact ⟨rfl, _, World.drewN_drewN _ _ _⟩ | exact ⟨rfl, _, Eq.trans (World.drewN_drewN _ _ _) (congrArg (World.drewN _) (Nat.add_assoc _ _ _))⟩)) | (go_at_call 110; (with_reducible refine (impl_restMod.calls _ _ _ _ A2.out).mono ?_); rintro e w' ⟨rfl, ⟨nd, rfl⟩⟩; (try first | exact ⟨rfl, _, World.drewN_drewN _ _ _⟩ | exact ⟨rfl, _, Eq.trans (World.drewN_drewN _ _ _) (congrArg (World.drewN _) (Nat.add_assoc _ _ _))⟩)) | (go_at_call 109; (with_reducible refine (impl_valOne.calls _ _ _ _ _ _ A3.out).mono ?_); rintro e w4 ⟨rfl, hb⟩; obtain ⟨K1, K2, K3, HB⟩ := bk3 K1 K2 K3 HB hb; (try clear hb); have := cB4 K3))
 try have z1 := bc K3 0
 try have z2 := bc K3 1
 try have z3 := bc K3 2
 try have z4 := bc K3 3
 try have z5 := blk_frozen K3.out 0
 try have z6 := blk_frozen K3.out 1
 try have z7 := blk_frozen K3.out 2
 try have z8 := blk_frozen K3.out 3
 repeat (go_quiet (first | (go_at_call 110; (with_reducible refine (impl_restMod.calls _ _ _ _ A1.out).mono ?_); rintro e w' ⟨rfl, ⟨nd, rfl⟩⟩; (try first | exact ⟨rfl, _, World.drewN_drewN _ _ _⟩ | exact ⟨rfl, _, Eq.trans (World.drewN_drewN _ _ _) (congrArg (World.drewN _) (Nat.add_assoc _ _ _))⟩)) | (go_at_call 110; (with_reducible refine (impl_restMod.calls _ _ _ _ A2.out).mono ?_); rintro e w' ⟨rfl, ⟨nd, rfl⟩⟩; (try first | exact ⟨rfl, _, World.drewN_drewN _ _ _⟩ | exact ⟨rfl, _, Eq.trans (World.drewN_drewN _ _ _) (congrArg (World.drewN _) (Nat.add_assoc _ _ _))⟩)) | (go_at_call 109; (with_reducible refine (impl_valOne.calls _ _ _ _ _ _ A3.out).mono ?_); rintro e w4 ⟨rfl, hb⟩; obtain ⟨K1, K2, K3, HB⟩ := bk3 K1 K2 K3 HB hb; (try clear hb); (try (have := cB4 K3)))); try go_wp2_with (first | (go_at_call 110; (with_reducible refine (impl_restMod.calls _ _ _ _ A1.out).mono ?_); rintro e w' ⟨rfl, ⟨nd, rfl⟩⟩; (try first | exact ⟨rfl, _, World.drewN_drewN _ _ _⟩ | exact ⟨rfl, _, Eq.trans (World.drewN_drewN _ _ _) (congrArg (World.drewN _) (Nat.add_assoc _ _ _))⟩)) | (go_at_call 110; (with_reducible refine (impl_restMod.calls _ _ _ _ A2.out).mono ?_); rintro e w' ⟨rfl, ⟨nd, rfl⟩⟩; (try first | exact ⟨rfl, _, World.drewN_drewN _ _ _⟩ | exact ⟨rfl, _, Eq.trans (World.drewN_drewN _ _ _) (congrArg (World.drewN _) (Nat.add_assoc _ _ _))⟩)) | (go_at_call 109; (with_reducible refine (impl_valOne.calls _ _ _ _ _ _ A3.out).mono ?_); rintro e w4 ⟨rfl, hb⟩; obtain ⟨K1, K2, K3, HB⟩ := bk3 K1 K2 K3 HB hb; (try clear hb); (try (have := cB4 K3)))))
 refine bodyPost_ret (results_cell_row rfl _ _ g3 50 #[.int .i64 t6, .int .i64 t7, .int .i64 t8, .int .i64 t9] (0, 0) _ rfl (by refine pf ?_; refine bp (ia4 t6 t7 t8 0) ?_ 3; refine pf ?_; refine bp (ia4 t6 t7 0 0) ?_ 2; refine pf ?_; refine bp (ia4 t6 0 0 0) ?_ 1; refine pf ?_; refine bp (ia4 0 0 0 0) ?_ 0; exact Z K3) Try.underlying50 rfl (by kernel_rfl)) rfl ?_
 exact ⟨ez, YA HB⟩

def impl_Val_rest.f (a0_0 : Int) (a0_1 : Int) (a0_2 : Int) (a0_3 : Int) : Option (Int × Int) := some (a0_2, a0_3)
set_option maxHeartbeats 8000000 in
set_option maxRecDepth 100000 in
theorem impl_Val_rest.calls (a0_0 : Int) (a0_1 : Int) (a0_2 : Int) (a0_3 : Int) (r1 : Int) (r2 : Int) (w : World) (h : impl_Val_rest.f a0_0 a0_1 a0_2 a0_3 = some (r1, r2)) :
  Calls Try.prog 82 #[.agg #[.int .i64 a0_0, .int .i64 a0_1, .int .i64 a0_2, .int .i64 a0_3]] w fun e w' => e = .returned (.agg #[.int .i64 r1, .int .i64 r2]) ∧ Below w.heap.size w w' := by
 have hu50 := Try.underlying50
 have hu86 := Try.underlying86
 have HB := am (Below.refl w.heap.size w)
 have H : (some (a0_2, a0_3)) = some (r1, r2) := h
 clear h
 obtain ⟨rfl, rfl⟩ := sj2 H
 go_enter Try.func82, Try.ntmps82
 go_wp2_with (first | ((with_reducible refine gate_dst (N := 1) rfl ?_); refine bxn 1 #[.int .i64 a0_0, .int .i64 a0_1, .int .i64 a0_2, .int .i64 a0_3] 50 HB fun g1 w1 K1 G1 hg hb => ?_; replace HB := am (below_step (YA HB) hb); clear hb hg) | ((with_reducible refine gate_dst (N := 2) rfl ?_); refine bxn 2 #[.int .i64 0, .int .i64 0] 86 HB fun g2 w2 K2 G2 hg hb => ?_; obtain ⟨N1,N2⟩ := ne_ hg K1; obtain ⟨K1, HB⟩ := bk1 K1 HB hb; clear hb hg; have := ns1 N1; have := cB4 K1; have := cB2 K2))
 refine bodyPost_ret (results_cell_row rfl _ _ g2 86 #[.int .i64 a0_2, .int .i64 a0_3] (0, 0) _ rfl (by refine pf ?_; refine bp (ia2 a0_2 0) ?_ 1; refine pf ?_; refine bp (ia2 0 0) ?_ 0; exact Z K2) Try.underlying86 rfl (by kernel_rfl)) rfl ?_
 exact ⟨ez, YA HB⟩

def impl_ValOk.f (k : Nat) (a0_0 : Int) (a0_1 : Int) (a0_2 : Int) (a0_3 : Int) : Option (Bool) := (impl_Val_span.f a0_0 a0_1 a0_2 a0_3).bind fun u1 => ((impl_Val_rest.f a0_0 a0_1 a0_2 a0_3).bind fun u2 => ((impl_ValMake.f k u1.1 u1.2 u2.1 u2.2).bind fun u3 => (some (a0_0 == u3.1 && (a0_1 == u3.2.1 && (a0_2 == u3.2.2.1 && (a0_3 == u3.2.2.2)))))))
theorem impl_ValOk.mono : ∀ a0 a1 a2 a3 k, LeO (impl_ValOk.f k a0 a1 a2 a3) (impl_ValOk.f (k + 1) a0 a1 a2 a3) := by
 intro a0 a1 a2 a3 k
 unfold impl_ValOk.f
 repeat' first | (with_reducible first | apply impl_ValMake.mono | apply LeO.refl | apply LeO.none | refine LeO.ite ?_ ?_ | refine LeO.bind ?_ (fun _ => ?_)) | apply impl_ValMake.mono | apply LeO.none | refine LeO.ite ?_ ?_ | refine LeO.bind ?_ (fun _ => ?_)
def impl_ValOk.T1 : Bool × List (List Nat × List Nat) := (true, [([], []), ([], []), ([1], [1]), ([], []), ([3, 2], [3]), ([2, 4, 4], [2, 4]), ([0, 5], [0, 5]), ([6, 5, 0, 1, 2, 3, 4, 5, 6], [6])])
def impl_ValOk.B1 : List Nat := [0, 0, 2, 0, 14, 30, 63, 127]
theorem impl_ValOk.tab1 : rtab .any (opsOf Try.f76 1) = impl_ValOk.T1 := by kernel_rfl
theorem impl_ValOk.bits1 : waitsOk impl_ValOk.T1.2 impl_ValOk.B1 = true := by kernel_rfl
set_option maxHeartbeats 8000000 in
set_option maxRecDepth 100000 in
theorem impl_ValOk.calls (k : Nat) (a0_0 : Int) (a0_1 : Int) (a0_2 : Int) (a0_3 : Int) (r : Bool) (w : World) (h : impl_ValOk.f k a0_0 a0_1 a0_2 a0_3 = some r) :
  Calls Try.prog 76 #[.agg #[.int .i64 a0_0, .int .i64 a0_1, .int .i64 a0_2, .int .i64 a0_3]] w fun e w' => e = .returned (.bool r) ∧ Below w.heap.size w w' := by
 have hu50 := Try.underlying50
 have HB := am (Below.refl w.heap.size w)
 have H : ((impl_Val_span.f a0_0 a0_1 a0_2 a0_3).bind fun u1 => ((impl_Val_rest.f a0_0 a0_1 a0_2 a0_3).bind fun u2 => ((impl_ValMake.f k u1.1 u1.2 u2.1 u2.2).bind fun u3 => (some (a0_0 == u3.1 && (a0_1 == u3.2.1 && (a0_2 == u3.2.2.1 && (a0_3 == u3.2.2.2)))))))) = some r := h
 clear h
 obtain ⟨⟨t1, t2⟩, A1, H⟩ := bd H
 try dsimp only at H
 obtain ⟨⟨t3, t4⟩, A2, H⟩ := bd H
 try dsimp only at H
 obtain ⟨⟨t5, t6, t7, t8⟩, A3, H⟩ := bd H
 try dsimp only at H
 obtain rfl := Option.some.inj H
 go_enter Try.func76, Try.ntmps76
 try go_wp2_with (first | ((with_reducible refine gate_dst (N := 1) rfl ?_); refine bxn 1 #[.int .i64 a0_0, .int .i64 a0_1, .int .i64 a0_2, .int .i64 a0_3] 50 HB fun g1 w1 K1 G1 hg hb => ?_; replace HB := am (below_step (YA HB) hb); clear hb hg))
 obtain ⟨K1, HB⟩ := dk1 K1 HB
 refine start_ (n := 8) (S := fun w' => ce4 w' g1 a0_0 a0_1 a0_2 a0_3) (ds := []) (lb 8 0) (by kernel_rfl) rfl rfl (cc4 K1) (fun hHeld => ?_); refine with_tabW impl_ValOk.tab1 impl_ValOk.bits1 (fun HT_ HW_ => ?_)
 generalize w1.drew = w2 at K1 HB hHeld ⊢
 refine tk 0 3 1 hHeld ?_
 refine tk 1 4 3 hHeld ?_
 refine tk 3 6 11 hHeld ?_
 refine on 2 (some 5) 15 fun K hK => ?_
 refine ck hK Try.func79 (impl_Val_span.calls _ _ _ _ _ _ _ A1.out) (fun _ b => bk1 K1 HB b) fun w3 Q_ hHeld => ?_
 clear hK K
 obtain ⟨K1, HB⟩ := Q_
 refine on 4 (some 7) 31 fun K hK => ?_
 refine ck hK Try.func82 (impl_Val_rest.calls _ _ _ _ _ _ _ A2.out) (fun _ b => bk1 K1 HB b) fun w4 Q_ hHeld => ?_
 clear hK K
 obtain ⟨K1, HB⟩ := Q_
 refine on 5 (some 8) 63 fun K hK => ?_
 refine ck hK Try.func80 (impl_ValMake.calls _ _ _ _ _ _ _ _ _ _ A3.out) (fun _ b => bk1 K1 HB b) fun w5 Q_ hHeld => ?_
 clear hK K
 obtain ⟨K1, HB⟩ := Q_
 refine pk 6 9 127 ?_
 refine pk 7 2 255 ?_
 refine done_ (done_of HT_.out (by kernel_rfl)) ?_
 try go_wp2
 go_ret
 exact ⟨ez, YA HB⟩

def impl_Val_none.f (a0_0 : Int) (a0_1 : Int) (a0_2 : Int) (a0_3 : Int) : Option (Bool) := (impl_valNone.f).bind fun u1 => (some (a0_0 == u1.1 && (a0_1 == u1.2.1 && (a0_2 == u1.2.2.1 && (a0_3 == u1.2.2.2)))))
set_option maxHeartbeats 8000000 in
set_option maxRecDepth 100000 in
theorem impl_Val_none.calls (a0_0 : Int) (a0_1 : Int) (a0_2 : Int) (a0_3 : Int) (r : Bool) (w : World) (h : impl_Val_none.f a0_0 a0_1 a0_2 a0_3 = some r) :
  Calls Try.prog 77 #[.agg #[.int .i64 a0_0, .int .i64 a0_1, .int .i64 a0_2, .int .i64 a0_3]] w fun e w' => e = .returned (.bool r) ∧ Below w.heap.size w w' := by
 have hu50 := Try.underlying50
 have HB := am (Below.refl w.heap.size w)
 have H : ((impl_valNone.f).bind fun u1 => (some (a0_0 == u1.1 && (a0_1 == u1.2.1 && (a0_2 == u1.2.2.1 && (a0_3 == u1.2.2.2)))))) = some r := h
 clear h
 obtain ⟨⟨t1, t2, t3, t4⟩, A1, H⟩ := bd H
 try dsimp only at H
 obtain rfl := Option.some.inj H
 go_enter Try.func77, Try.ntmps77
 try go_wp2_with (first | ((with_reducible refine gate_dst (N := 1) rfl ?_); refine bxn 1 #[.int .i64 a0_0, .int .i64 a0_1, .int .i64 a0_2, .int .i64 a0_3] 50 HB fun g1 w1 K1 G1 hg hb => ?_; replace HB := am (below_step (YA HB) hb); clear hb hg))
 obtain ⟨K1, HB⟩ := dk1 K1 HB
 refine start_ (n := 4) (S := fun w' => ce4 w' g1 a0_0 a0_1 a0_2 a0_3) (ds := []) (lb 4 0) (by kernel_rfl) rfl rfl (cc4 K1) (fun hHeld => ?_)
 generalize w1.drew = w2 at K1 HB hHeld ⊢
 refine tq 0 3 1 hHeld ?_
 refine one_ (i := 1) (N := some 4) (lb 4 3) rfl rfl (by kernel_rfl) (by decide) (fun K hK => ?_)
 refine ck hK Try.func78 (impl_valNone.calls _ _ _ _ _ A1.out) (fun _ b => bk1 K1 HB b) fun w3 Q_ hHeld => ?_
 clear hK K
 obtain ⟨K1, HB⟩ := Q_
 refine pure_ (i := 2) (N := some 5) (v := ?_) (a' := ?_) (lb 4 7) rfl rfl (by kernel_rfl) (fun _ _ _ h => h) (Or.inl ⟨by rfl, ?_⟩) ?_ ?_
 rotate_left
 ·exact gz
 rotate_left
 ·exact pz
 refine pure_ (i := 3) (N := some 2) (v := ?_) (a' := ?_) (lb 4 15) rfl rfl (by kernel_rfl) (fun _ _ _ h => h) (Or.inl ⟨by rfl, ?_⟩) ?_ ?_
 rotate_left
 ·exact gz
 rotate_left
 ·exact pz
 refine done_ (by kernel_rfl) ?_
 try go_wp2
 go_ret
 exact ⟨ez, YA HB⟩
end
section
attribute [local go_sem] max2_int min2_int max_two min_two max_three min_three max_four min_four
attribute [local go_sem] Go.Proofs.YthbkakcchgnhpaaSet.isSome_setCell
mutual
def impl_NumDo.j0 : Nat → Int → Int → Int → Bool → Option (Int × Int)
 | 0, _, _, _, _ => none
 | k + 1, x1, x2, x3, x4 => if x4 = true then (some (0, 0)) else (if x1 = 4 then (impl_NumDo.j1 k x1 x2 x3 x1 (x1 == 4)) else (impl_NumDo.j1 k x1 x2 x3 x1 (x1 == 5)))
def impl_NumDo.j3 : Nat → Int → Int → Int → Option (Int × Int)
 | 0, _, _, _ => none
 | k + 1, x1, x2, x3 => (impl_numExact.f k x1 x2 x3).bind fun t1 => (if x1 = 11 then (impl_NumDo.j4 k t1 (x1 == 11)) else (if x1 = 12 then (impl_NumDo.j4 k t1 (x1 == 12)) else (impl_NumDo.j4 k t1 (x1 == 13))))
def impl_NumDo.j4 : Nat → Int → Bool → Option (Int × Int)
 | 0, _, _ => none
 | k + 1, x1, x2 => if x2 = true then ((impl_NumWrap.f x1).bind fun t1 => (some (t1, 0))) else ((impl_NumOk.f x1).bind fun t2 => (if t2 = true then (some (x1, 0)) else (some (0, 1))))
def impl_NumDo.j1 : Nat → Int → Int → Int → Int → Bool → Option (Int × Int)
 | 0, _, _, _, _, _ => none
 | k + 1, x1, x2, x3, x4, x5 => if x5 = true then (if x3 = 0 then (some (0, 2)) else (impl_NumDo.j3 k x1 x2 x3)) else (if x4 = 9 then (impl_NumDo.j2 k x1 x2 x3 (x4 == 9)) else (impl_NumDo.j2 k x1 x2 x3 (x4 == 10)))
def impl_NumDo.j2 : Nat → Int → Int → Int → Bool → Option (Int × Int)
 | 0, _, _, _, _ => none
 | k + 1, x1, x2, x3, x4 => if x4 = true then (if x3 < 0 then (some (0, 3)) else (if x3 > 31 then (some (0, 3)) else (impl_NumDo.j3 k x1 x2 x3))) else (impl_NumDo.j3 k x1 x2 x3)
end
def impl_NumDo.f (k : Nat) (a0 : Int) (a1 : Int) (a2 : Int) : Option (Int × Int) := (impl_numOp.f a0).bind fun t1 => (if t1 = true then ((impl_NumOk.f a1).bind fun t2 => (if t2 = true then ((impl_NumOk.f a2).bind fun t3 => (impl_NumDo.j0 k a0 a1 a2 (!t3))) else (impl_NumDo.j0 k a0 a1 a2 true))) else (impl_NumDo.j0 k a0 a1 a2 true))
theorem impl_NumDo.mono_l : ∀ k, (∀ y0 y1 y2 y3, LeO (impl_NumDo.j0 k y0 y1 y2 y3) (impl_NumDo.j0 (k + 1) y0 y1 y2 y3)) ∧ (∀ y0 y1 y2, LeO (impl_NumDo.j3 k y0 y1 y2) (impl_NumDo.j3 (k + 1) y0 y1 y2)) ∧ (∀ y0 y1, LeO (impl_NumDo.j4 k y0 y1) (impl_NumDo.j4 (k + 1) y0 y1)) ∧ (∀ y0 y1 y2 y3 y4, LeO (impl_NumDo.j1 k y0 y1 y2 y3 y4) (impl_NumDo.j1 (k + 1) y0 y1 y2 y3 y4)) ∧ (∀ y0 y1 y2 y3, LeO (impl_NumDo.j2 k y0 y1 y2 y3) (impl_NumDo.j2 (k + 1) y0 y1 y2 y3))
 | 0 => ⟨fun _ _ _ _ r h => by simp [impl_NumDo.j0] at h, fun _ _ _ r h => by simp [impl_NumDo.j3] at h, fun _ _ r h => by simp [impl_NumDo.j4] at h, fun _ _ _ _ _ r h => by simp [impl_NumDo.j1] at h, fun _ _ _ _ r h => by simp [impl_NumDo.j2] at h⟩
 | k + 1 => by
  obtain ⟨ih0, ih1, ih2, ih3, ih4⟩ := impl_NumDo.mono_l k
  refine ⟨?_, ?_, ?_, ?_, ?_⟩ <;> (intros; (first | unfold impl_NumDo.j0 | unfold impl_NumDo.j3 | unfold impl_NumDo.j4 | unfold impl_NumDo.j1 | unfold impl_NumDo.j2); repeat' first | (with_reducible first | apply ih0 | apply ih1 | apply ih2 | apply ih3 | apply ih4 | apply impl_numExact.mono | apply LeO.refl | apply LeO.none | refine LeO.ite ?_ ?_ | refine LeO.bind ?_ (fun _ => ?_)) | apply ih0 | apply ih1 | apply ih2 | apply ih3 | apply ih4 | apply impl_numExact.mono | apply LeO.none | refine LeO.ite ?_ ?_ | refine LeO.bind ?_ (fun _ => ?_))
theorem impl_NumDo.mono : ∀ a0 a1 a2 k, LeO (impl_NumDo.f k a0 a1 a2) (impl_NumDo.f (k + 1) a0 a1 a2) := by
 intro a0 a1 a2 k
 obtain ⟨ih0, ih1, ih2, ih3, ih4⟩ := impl_NumDo.mono_l k
 unfold impl_NumDo.f
 repeat' first | (with_reducible first | apply ih0 | apply ih1 | apply ih2 | apply ih3 | apply ih4 | apply impl_numExact.mono | apply LeO.refl | apply LeO.none | refine LeO.ite ?_ ?_ | refine LeO.bind ?_ (fun _ => ?_)) | apply ih0 | apply ih1 | apply ih2 | apply ih3 | apply ih4 | apply impl_numExact.mono | apply LeO.none | refine LeO.ite ?_ ?_ | refine LeO.bind ?_ (fun _ => ?_)
set_option maxHeartbeats 8000000 in
set_option maxRecDepth 100000 in
theorem impl_NumDo.calls (k : Nat) (a0 : Int) (a1 : Int) (a2 : Int) (r1 : Int) (r2 : Int) (w : World) (h : impl_NumDo.f k a0 a1 a2 = some (r1, r2)) :
  Calls Try.prog 17 #[.int .i64 a0, .int .i64 a1, .int .i64 a2] w fun e w' => e = .returned (.tuple #[.int .i64 r1, .int .i64 r2]) ∧ Drawn0 w w' := by
 have H : ((impl_numOp.f a0).bind fun t1 => (if t1 = true then ((impl_NumOk.f a1).bind fun t2 => (if t2 = true then ((impl_NumOk.f a2).bind fun t3 => (impl_NumDo.j0 k a0 a1 a2 (!t3))) else (impl_NumDo.j0 k a0 a1 a2 true))) else (impl_NumDo.j0 k a0 a1 a2 true))) = some (r1, r2) := h
 clear h
 have C1 := am H
 clear H
 go_enter Try.func17, Try.ntmps17
 go_upto_region 1 with (fail)
 go_cut [21] (fun v1 wc => ∃ (kq : Nat) (x1 : Bool), v1 = .bool x1 ∧ Aside0 (impl_NumDo.j0 kq a0 a1 a2 x1 = some (r1, r2)) ∧ Aside0 (kq ≤ k) ∧ Drawn0 w wc)
 case first =>
  have H := C1.out
  clear C1
  obtain ⟨t1, A1, H⟩ := bd H
  try dsimp only at H
  by_cases c1 : t1 = true
  rotate_left
  ·replace c1 := Bool.eq_false_iff.mpr c1
   subst c1
   rw [if_neg ff] at H
   have H' := am H
   clear H
   go_wp2_with (first | ((with_reducible refine gate_callee (f := 45) rfl ?_); refine goesL_ (some 10) rfl rfl Try.func45 (by kernel_rfl) rfl #[.int .i64 a0] rfl mz ?_; (with_reducible refine (impl_numOp.calls _ _ _ A1.out).mono ?_); rintro e w' ⟨rfl, ⟨nd, rfl⟩⟩; refine ⟨_, rfl, ?_⟩))
   go_meet
   case rel => exact ⟨_, (true), ey, H', le0, qs1⟩
  subst c1
  rw [if_pos rfl] at H
  obtain ⟨t2, A2, H⟩ := bd H
  try dsimp only at H
  by_cases c2 : t2 = true
  rotate_left
  ·replace c2 := Bool.eq_false_iff.mpr c2
   subst c2
   rw [if_neg ff] at H
   have H' := am H
   clear H
   go_wp2_with (first | ((with_reducible refine gate_callee (f := 45) rfl ?_); refine goesL_ (some 10) rfl rfl Try.func45 (by kernel_rfl) rfl #[.int .i64 a0] rfl mz ?_; (with_reducible refine (impl_numOp.calls _ _ _ A1.out).mono ?_); rintro e w' ⟨rfl, ⟨nd, rfl⟩⟩; refine ⟨_, rfl, ?_⟩) | (go_at_call 60; (with_reducible refine (impl_NumOk.calls _ _ _ A2.out).mono ?_); rintro e w' ⟨rfl, ⟨nd, rfl⟩⟩))
   go_meet
   case rel => exact ⟨_, (true), ey, H', le0, qs1⟩
  subst c2
  rw [if_pos rfl] at H
  obtain ⟨t3, A3, H⟩ := bd H
  try dsimp only at H
  have H' := am H
  clear H
  go_wp2_with (first | ((with_reducible refine gate_callee (f := 45) rfl ?_); refine goesL_ (some 10) rfl rfl Try.func45 (by kernel_rfl) rfl #[.int .i64 a0] rfl mz ?_; (with_reducible refine (impl_numOp.calls _ _ _ A1.out).mono ?_); rintro e w' ⟨rfl, ⟨nd, rfl⟩⟩; refine ⟨_, rfl, ?_⟩) | (go_at_call 60; (with_reducible refine (impl_NumOk.calls _ _ _ A2.out).mono ?_); rintro e w' ⟨rfl, ⟨nd, rfl⟩⟩) | (go_at_call 60; (with_reducible refine (impl_NumOk.calls _ _ _ A3.out).mono ?_); rintro e w' ⟨rfl, ⟨nd, rfl⟩⟩))
  go_meet
  case rel => exact ⟨_, (!t3), ey, H', le0, qs1⟩
 clear C1
 obtain ⟨kq, x1, rfl, HA, J1, ⟨mc3, rfl⟩⟩ := hcut
 cases kq with
 | zero => exact absurd HA.out (by simp [impl_NumDo.j0])
 | succ k1 => ?_
 have H := HA.out
 clear HA
 simp only [impl_NumDo.j0] at H
 by_cases c1 : x1 = true
 ·subst c1
  rw [if_pos rfl] at H
  obtain ⟨rfl, rfl⟩ := sj2 H
  go_wp2
  go_ret2
  exact ⟨by first | rfl | (simp; done) | (simp [*]; done), qs1⟩
 replace c1 := Bool.eq_false_iff.mpr c1
 subst c1
 rw [if_neg ff] at H
 have C2 := am H
 clear H
 go_upto_block 0 with (fail)
 go_cut [] (fun wc => ∃ (kq : Nat), Aside0 (impl_NumDo.j3 kq a0 a1 a2 = some (r1, r2)) ∧ Aside0 (kq ≤ k1) ∧ Drawn0 w wc)
 case first =>
  have H := C2.out
  clear C2
  have C3 := am H
  clear H
  go_upto_if 23 with (fail)
  go_cut [23] (fun v2 wc => ∃ (kq : Nat) (x2 : Bool), v2 = .bool x2 ∧ Aside0 (impl_NumDo.j1 kq a0 a1 a2 a0 x2 = some (r1, r2)) ∧ Aside0 (kq ≤ k1) ∧ Drawn0 w wc)
  case first =>
   have H := C3.out
   clear C3
   by_cases c2 : a0 = 4
   rotate_left
   ·rw [if_neg c2] at H
    have d1 := eF c2
    have d2 := nT c2
    (first | rw [d1] | (simp only [i64_w, i32_w]; rw [d1]) | skip)
    have H' := am H
    clear H
    go_wp2
    go_meet
    case rel => exact ⟨_, ((a0 == 5)), ey, H', le1 J1, qs1⟩
   rw [if_pos c2] at H
   have d1 := eT c2
   have d2 := nF c2
   clear c2
   (first | rw [d1] | (simp only [i64_w, i32_w]; rw [d1]) | skip)
   have H' := am H
   clear H
   go_wp2
   go_meet
   case rel => exact ⟨_, ((a0 == 4)), ey, H', le1 J1, qs1⟩
  clear C3
  try clear c1
  obtain ⟨kq, x2, rfl, HA, J2, ⟨mc11, rfl⟩⟩ := hcut
  cases kq with
  | zero => exact absurd HA.out (by simp [impl_NumDo.j1])
  | succ k2 => ?_
  have H := HA.out
  clear HA
  simp only [impl_NumDo.j1] at H
  by_cases c2 : x2 = true
  ·subst c2
   rw [if_pos rfl] at H
   by_cases c3 : a2 = 0
   rotate_left
   ·rw [if_neg c3] at H
    have d1 := eF c3
    have d2 := nT c3
    have H' := am H
    clear H
    go_wp2
    go_meet
    case rel => exact ⟨_, H', ⟨by have := J1.out; have := J2.out; first | omega | exact Nat.le_refl _⟩, qs1⟩
   rw [if_pos c3] at H
   have d1 := eT c3
   have d2 := nF c3
   clear c3
   obtain ⟨rfl, rfl⟩ := sj2 H
   go_wp2
   go_ret2
   exact ⟨by first | rfl | (simp; done) | (simp [*]; done), qs1⟩
  replace c2 := Bool.eq_false_iff.mpr c2
  subst c2
  rw [if_neg ff] at H
  have C4 := am H
  clear H
  go_upto_if 28 with (fail)
  go_cut [28] (fun v3 wc => ∃ (kq : Nat) (x3 : Bool), v3 = .bool x3 ∧ Aside0 (impl_NumDo.j2 kq a0 a1 a2 x3 = some (r1, r2)) ∧ Aside0 (kq ≤ k2) ∧ Drawn0 w wc)
  case first =>
   have H := C4.out
   clear C4
   by_cases c3 : a0 = 9
   rotate_left
   ·rw [if_neg c3] at H
    have d1 := eF c3
    have d2 := nT c3
    (first | rw [d1] | (simp only [i64_w, i32_w]; rw [d1]) | skip)
    have H' := am H
    clear H
    go_wp2
    go_meet
    case rel => exact ⟨_, ((a0 == 10)), ey, H', ⟨by have := J1.out; have := J2.out; first | omega | exact Nat.le_refl _⟩, qs1⟩
   rw [if_pos c3] at H
   have d1 := eT c3
   have d2 := nF c3
   clear c3
   (first | rw [d1] | (simp only [i64_w, i32_w]; rw [d1]) | skip)
   have H' := am H
   clear H
   go_wp2
   go_meet
   case rel => exact ⟨_, ((a0 == 9)), ey, H', ⟨by have := J1.out; have := J2.out; first | omega | exact Nat.le_refl _⟩, qs1⟩
  clear C4
  try clear c2
  obtain ⟨kq, x3, rfl, HA, J3, ⟨mc15, rfl⟩⟩ := hcut
  cases kq with
  | zero => exact absurd HA.out (by simp [impl_NumDo.j2])
  | succ k3 => ?_
  have H := HA.out
  clear HA
  simp only [impl_NumDo.j2] at H
  by_cases c3 : x3 = true
  rotate_left
  ·replace c3 := Bool.eq_false_iff.mpr c3
   subst c3
   rw [if_neg ff] at H
   have H' := am H
   clear H
   go_wp2
   go_meet
   case rel => exact ⟨_, H', ⟨by have := J1.out; have := J2.out; have := J3.out; first | omega | exact Nat.le_refl _⟩, qs1⟩
  subst c3
  rw [if_pos rfl] at H
  by_cases c4 : a2 < 0
  ·rw [if_pos c4] at H
   have d1 := dT c4
   clear c4
   obtain ⟨rfl, rfl⟩ := sj2 H
   go_wp2
   go_ret2
   exact ⟨by first | rfl | (simp; done) | (simp [*]; done), qs1⟩
  rw [if_neg c4] at H
  have d1 := dF c4
  clear c4
  by_cases c5 : a2 > 31
  ·rw [if_pos c5] at H
   have d2 := dT c5
   clear c5
   obtain ⟨rfl, rfl⟩ := sj2 H
   go_wp2
   go_ret2
   exact ⟨by first | rfl | (simp; done) | (simp [*]; done), qs1⟩
  rw [if_neg c5] at H
  have d2 := dF c5
  clear c5
  have H' := am H
  clear H
  go_wp2
  go_meet
  case rel => exact ⟨_, H', ⟨by have := J1.out; have := J2.out; have := J3.out; first | omega | exact Nat.le_refl _⟩, qs1⟩
 clear C2
 try clear c1
 obtain ⟨kq, HA, J2, ⟨mc10, rfl⟩⟩ := hcut
 cases kq with
 | zero => exact absurd HA.out (by simp [impl_NumDo.j3])
 | succ k2 => ?_
 have H := HA.out
 clear HA
 simp only [impl_NumDo.j3] at H
 obtain ⟨t4, A1, H⟩ := bd H
 try dsimp only at H
 have C3 := am H
 clear H
 go_upto_if 42 with (first | ((with_reducible refine gate_callee (f := 61) rfl ?_); refine goesL_ (some 40) rfl rfl Try.func61 (by kernel_rfl) rfl #[.int .i64 a0, .int .i64 a1, .int .i64 a2] rfl mz ?_; (with_reducible refine (impl_numExact.calls _ _ _ _ _ _ A1.out).mono ?_); rintro e w' ⟨rfl, ⟨nd, rfl⟩⟩; refine ⟨_, rfl, ?_⟩))
 (try simp only [Act.put, List.setIfInBounds_toArray, List.set_cons_zero, List.set_cons_succ])
 go_cut [42] (fun v2 wc => ∃ (kq : Nat) (x2 : Bool), v2 = .bool x2 ∧ Aside0 (impl_NumDo.j4 kq t4 x2 = some (r1, r2)) ∧ Aside0 (kq ≤ k2) ∧ Drawn0 w wc)
 case first =>
  have H := C3.out
  clear C3
  by_cases c2 : a0 = 11
  ·rw [if_pos c2] at H
   have d1 := eT c2
   have d2 := nF c2
   clear c2
   (first | rw [d1] | (simp only [i64_w, i32_w]; rw [d1]) | skip)
   have H' := am H
   clear H
   go_wp2
   go_meet
   case rel => exact ⟨_, ((a0 == 11)), ey, H', ⟨by have := J1.out; have := J2.out; first | omega | exact Nat.le_refl _⟩, qs1⟩
  rw [if_neg c2] at H
  have d1 := eF c2
  have d2 := nT c2
  (first | rw [d1] | (simp only [i64_w, i32_w]; rw [d1]) | skip)
  by_cases c3 : a0 = 12
  rotate_left
  ·rw [if_neg c3] at H
   have d3 := eF c3
   have d4 := nT c3
   have H' := am H
   clear H
   go_wp2
   go_meet
   case rel => exact ⟨_, ((a0 == 13)), ey, H', ⟨by have := J1.out; have := J2.out; first | omega | exact Nat.le_refl _⟩, qs1⟩
  rw [if_pos c3] at H
  have d3 := eT c3
  have d4 := nF c3
  clear c3
  have H' := am H
  clear H
  go_wp2
  go_meet
  case rel => exact ⟨_, ((a0 == 12)), ey, H', ⟨by have := J1.out; have := J2.out; first | omega | exact Nat.le_refl _⟩, qs1⟩
 clear C3
 obtain ⟨kq, x2, rfl, HA, J3, ⟨mc21, rfl⟩⟩ := hcut
 cases kq with
 | zero => exact absurd HA.out (by simp [impl_NumDo.j4])
 | succ k3 => ?_
 have H := HA.out
 clear HA
 simp only [impl_NumDo.j4] at H
 by_cases c2 : x2 = true
 ·subst c2
  rw [if_pos rfl] at H
  obtain ⟨t5, A2, H⟩ := bd H
  try dsimp only at H
  obtain ⟨rfl, rfl⟩ := sj2 H
  go_wp2_with (first | ((with_reducible refine gate_callee (f := 62) rfl ?_); refine goesL_ (some 47) rfl rfl Try.func62 (by kernel_rfl) rfl #[.int .i64 t4] rfl mz ?_; (with_reducible refine (impl_NumWrap.calls _ _ _ A2.out).mono ?_); rintro e w' ⟨rfl, ⟨nd, rfl⟩⟩; refine ⟨_, rfl, ?_⟩))
  go_ret2
  exact ⟨by first | rfl | (simp; done) | (simp [*]; done), qs1⟩
 replace c2 := Bool.eq_false_iff.mpr c2
 subst c2
 rw [if_neg ff] at H
 obtain ⟨t5, A2, H⟩ := bd H
 try dsimp only at H
 by_cases c3 : t5 = true
 ·subst c3
  rw [if_pos rfl] at H
  obtain ⟨rfl, rfl⟩ := sj2 H
  go_wp2_with (first | ((with_reducible refine gate_callee (f := 60) rfl ?_); refine goesL_ (some 49) rfl rfl Try.func60 (by kernel_rfl) rfl #[.int .i64 t4] rfl mz ?_; (with_reducible refine (impl_NumOk.calls _ _ _ A2.out).mono ?_); rintro e w' ⟨rfl, ⟨nd, rfl⟩⟩; refine ⟨_, rfl, ?_⟩))
  go_ret2
  exact ⟨by first | rfl | (simp; done) | (simp [*]; done), qs1⟩
 replace c3 := Bool.eq_false_iff.mpr c3
 subst c3
 rw [if_neg ff] at H
 obtain ⟨rfl, rfl⟩ := sj2 H
 go_wp2_with (first | ((with_reducible refine gate_callee (f := 60) rfl ?_); refine goesL_ (some 49) rfl rfl Try.func60 (by kernel_rfl) rfl #[.int .i64 t4] rfl mz ?_; (with_reducible refine (impl_NumOk.calls _ _ _ A2.out).mono ?_); rintro e w' ⟨rfl, ⟨nd, rfl⟩⟩; refine ⟨_, rfl, ?_⟩))
 go_ret2
 exact ⟨by first | rfl | (simp; done) | (simp [*]; done), qs1⟩

def impl_restAll.f  : Option (Int × Int) := some (1, 0)
set_option maxHeartbeats 8000000 in
set_option maxRecDepth 100000 in
theorem impl_restAll.calls  (r1 : Int) (r2 : Int) (w : World) (h : impl_restAll.f  = some (r1, r2)) :
  Calls Try.prog 111 #[] w fun e w' => e = .returned (.agg #[.int .i64 r1, .int .i64 r2]) ∧ Below w.heap.size w w' := by
 have hu86 := Try.underlying86
 have HB := am (Below.refl w.heap.size w)
 have H : (some (1, 0)) = some (r1, r2) := h
 clear h
 obtain ⟨rfl, rfl⟩ := sj2 H
 go_enter Try.func111, Try.ntmps111
 go_wp2_with (first | ((with_reducible refine gate_dst (N := 0) rfl ?_); refine bxn 0 #[.int .i64 0, .int .i64 0] 86 HB fun g1 w1 K1 G1 hg hb => ?_; replace HB := am (below_step (YA HB) hb); clear hb hg; have := cB2 K1))
 refine bodyPost_ret (results_cell_row rfl _ _ g1 86 #[.int .i64 1, .int .i64 0] (0, 0) _ rfl (by refine pf ?_; refine bp (ia2 1 0) ?_ 1; refine pf ?_; refine bp (ia2 0 0) ?_ 0; exact Z K1) Try.underlying86 rfl (by kernel_rfl)) rfl ?_
 exact ⟨ez, YA HB⟩

mutual
def impl_restGcd.l0 : Nat → Int → List Int → Int → Int → Option (Int)
 | 0, _, _, _, _ => none
 | k + 1, x1, x2, x3, x4 => if x4 < x3 then (if 0 ≤ x4 then (if x4 < (x2.length : Int) then (impl_restGcd.l1 k x1 (rd x2 x4) x2 x3 x4) else (none)) else (none)) else (if x1 < 0 then (some (wrap64 (-x1))) else (some x1))
def impl_restGcd.l1 : Nat → Int → Int → List Int → Int → Int → Option (Int)
 | 0, _, _, _, _, _ => none
 | k + 1, x1, x2, x3, x4, x5 => if x2 = 0 then (impl_restGcd.l0 k x1 x3 x4 (wrap64 (x5 + 1))) else (impl_restGcd.l1 k x2 (Int.tmod x1 x2) x3 x4 x5)
end
def impl_restGcd.f (k : Nat) (l0 : List Int) : Option (Int) := impl_restGcd.l0 k 0 l0 (l0.length : Int) 0
theorem impl_restGcd.mono_l : ∀ k, (∀ y0 y1 y2 y3, LeO (impl_restGcd.l0 k y0 y1 y2 y3) (impl_restGcd.l0 (k + 1) y0 y1 y2 y3)) ∧ (∀ y0 y1 y2 y3 y4, LeO (impl_restGcd.l1 k y0 y1 y2 y3 y4) (impl_restGcd.l1 (k + 1) y0 y1 y2 y3 y4))
 | 0 => ⟨fun _ _ _ _ r h => by simp [impl_restGcd.l0] at h, fun _ _ _ _ _ r h => by simp [impl_restGcd.l1] at h⟩
 | k + 1 => by
  obtain ⟨ih0, ih1⟩ := impl_restGcd.mono_l k
  refine ⟨?_, ?_⟩ <;> (intros; (first | unfold impl_restGcd.l0 | unfold impl_restGcd.l1); repeat' first | (with_reducible first | apply ih0 | apply ih1 | apply LeO.refl | apply LeO.none | refine LeO.ite ?_ ?_ | refine LeO.bind ?_ (fun _ => ?_)) | apply ih0 | apply ih1 | apply LeO.none | refine LeO.ite ?_ ?_ | refine LeO.bind ?_ (fun _ => ?_))
theorem impl_restGcd.mono : ∀ a0 k, LeO (impl_restGcd.f k a0) (impl_restGcd.f (k + 1) a0) := by
 intro a0 k
 obtain ⟨ih0, ih1⟩ := impl_restGcd.mono_l k
 unfold impl_restGcd.f
 repeat' first | (with_reducible first | apply ih0 | apply ih1 | apply LeO.refl | apply LeO.none | refine LeO.ite ?_ ?_ | refine LeO.bind ?_ (fun _ => ?_)) | apply ih0 | apply ih1 | apply LeO.none | refine LeO.ite ?_ ?_ | refine LeO.bind ?_ (fun _ => ?_)
set_option maxHeartbeats 8000000 in
set_option maxRecDepth 100000 in
theorem impl_restGcd.calls (k : Nat) (A1 : Option Addr) (c1 : Nat) (l0 : List Int) (r : Int) (w : World) (hr0 : Kd.C (Kd.int .i64) w A1 l0.length l0) (hc0 : l0.length ≤ c1) (h : impl_restGcd.f k l0 = some r) :
  Calls Try.prog 113 #[.slice A1 l0.length c1] w fun e w' => e = .returned (.int .i64 r) ∧ Drawn0 w w' := by
 have R1 := am hr0
 have C1 := am hc0
 clear hr0 hc0
 have H : (impl_restGcd.l0 k 0 l0 (l0.length : Int) 0) = some r := h
 clear h
 have H' := am H
 clear H
 go_enter Try.func113, Try.ntmps113
 go_wp2
 repeat (go_quiet (fail); try go_wp2)
 go_loopg [3, 8] k (fun kq v1 v2 w' => ∃ (x1 : Int) (x2 : Int), v1 = .int .i64 x1 ∧ v2 = .int .i64 x2 ∧ Aside0 (impl_restGcd.l0 kq x1 l0 (l0.length : Int) x2 = some r) ∧ Aside0 (kq ≤ k) ∧ Drawn0 w w')
 case atStart => exact ⟨(0), (0), ey, ey, H', ⟨Nat.le_refl _⟩, qs1⟩
 case round =>
  clear H'
  obtain ⟨x1, x2, rfl, rfl, HA, HK1, ⟨m1, rfl⟩⟩ := hrel
  cases gk with
  | zero => exact absurd HA.out (by simp [impl_restGcd.l0])
  | succ k1 => ?_
  have H := HA.out
  clear HA
  simp only [impl_restGcd.l0] at H
  by_cases c2 : x2 < (l0.length : Int)
  rotate_left
  ·rw [if_neg c2] at H
   have d1 := dF c2
   clear c2
   by_cases c3 : x1 < 0
   ·rw [if_pos c3] at H
    have d2 := dT c3
    clear c3
    obtain rfl := Option.some.inj H
    go_wp2
    repeat (go_quiet (fail); try go_wp2)
    go_ret
    exact ⟨by first | rfl | (simp; done) | (simp [*]; done), qs1⟩
   rw [if_neg c3] at H
   have d2 := dF c3
   clear c3
   obtain rfl := Option.some.inj H
   go_wp2
   repeat (go_quiet (fail); try go_wp2)
   go_ret
   exact ⟨by first | rfl | (simp; done) | (simp [*]; done), qs1⟩
  rw [if_pos c2] at H
  have d1 := dT c2
  clear c2
  by_cases c3 : 0 ≤ x2
  rotate_left
  ·rw [if_neg c3] at H
   exact absurd H (by simp)
  rw [if_pos c3] at H
  have d2 := dT c3
  clear c3
  by_cases c4 : x2 < (l0.length : Int)
  rotate_left
  ·rw [if_neg c4] at H
   exact absurd H (by simp)
  rw [if_pos c4] at H
  have d3 := dT c4
  clear c4
  have H' := am H
  clear H
  have p361 : 0 ≤ (x2 : Int) := oz
  have q361 : x2 < (l0.length : Int) := oz
  obtain ⟨ad361, e361, hx361_0⟩ := Kd.at_int R1.out x2 p361 q361
  cases e361
  replace p361 := eq_true p361
  replace q361 := eq_true q361
  go_wp2
  repeat (go_quiet (fail); try go_wp2)
  go_loopg [3, 5] k1 (fun kq v1 v3 w' => ∃ (x3 : Int) (x4 : Int), v1 = .int .i64 x3 ∧ v3 = .int .i64 x4 ∧ Aside0 (impl_restGcd.l1 kq x3 x4 l0 (l0.length : Int) x2 = some r) ∧ Aside0 (kq ≤ k1) ∧ Drawn0 w w')
  case atStart => exact ⟨(x1), (rd l0 x2), ey, ey, H', ⟨Nat.le_refl _⟩, qs1⟩
  case round =>
   clear H'
   (try clear d1);(try clear d2);(try clear d3);(try clear hx361_0);(try clear p361);(try clear q361)
   obtain ⟨x3, x4, rfl, rfl, HA, HK2, ⟨m2, rfl⟩⟩ := hrel
   cases gk with
   | zero => exact absurd HA.out (by simp [impl_restGcd.l1])
   | succ k2 => ?_
   have H := HA.out
   clear HA
   simp only [impl_restGcd.l1] at H
   by_cases c5 : x4 = 0
   rotate_left
   ·rw [if_neg c5] at H
    have d4 := eF c5
    have d5 := nT c5
    have H' := am H
    clear H
    go_wp2
    repeat (go_quiet (fail); try go_wp2)
    go_roundg k2
    case measure => have := HK1.out; have := HK2.out; omega
    case rel => exact ⟨(x4), (Int.tmod x3 x4), ey, ey, H', ⟨by have := HK1.out; have := HK2.out; omega⟩, qs1⟩
   rw [if_pos c5] at H
   have d4 := eT c5
   have d5 := nF c5
   clear c5
   have H' := am H
   clear H
   go_wp2
   repeat (go_quiet (fail); try go_wp2)
   go_roundg k2
   case measure => have := HK1.out; have := HK2.out; omega
   case rel => exact ⟨(x3), (wrap64 (x2 + 1)), ey, ey, H', ⟨by have := HK1.out; have := HK2.out; omega⟩, qs1⟩

def impl_restOf.f (k : Nat) (a0 : Int) (a1 : Int) : Option (Int × Int) := if a1 > 65536 then ((impl_restGcd.f k (([a1, 65536] : List Int))).bind fun t1 => (if t1 = 0 then (some (0, a0)) else ((impl_restMod.f a0 t1).bind fun t2 => (some (t1, t2))))) else (if a1 = 0 then (some (0, a0)) else ((impl_restMod.f a0 a1).bind fun t3 => (some (a1, t3))))
theorem impl_restOf.mono : ∀ a0 a1 k, LeO (impl_restOf.f k a0 a1) (impl_restOf.f (k + 1) a0 a1) := by
 intro a0 a1 k
 unfold impl_restOf.f
 repeat' first | (with_reducible first | apply impl_restGcd.mono | apply LeO.refl | apply LeO.none | refine LeO.ite ?_ ?_ | refine LeO.bind ?_ (fun _ => ?_)) | apply impl_restGcd.mono | apply LeO.none | refine LeO.ite ?_ ?_ | refine LeO.bind ?_ (fun _ => ?_)
set_option maxHeartbeats 8000000 in
set_option maxRecDepth 100000 in
theorem impl_restOf.calls (k : Nat) (a0 : Int) (a1 : Int) (r1 : Int) (r2 : Int) (w : World) (h : impl_restOf.f k a0 a1 = some (r1, r2)) :
  Calls Try.prog 112 #[.int .i64 a0, .int .i64 a1] w fun e w' => e = .returned (.agg #[.int .i64 r1, .int .i64 r2]) ∧ Below w.heap.size w w' := by
 have hu86 := Try.underlying86
 have HB := am (Below.refl w.heap.size w)
 have H : (if a1 > 65536 then ((impl_restGcd.f k (([a1, 65536] : List Int))).bind fun t1 => (if t1 = 0 then (some (0, a0)) else ((impl_restMod.f a0 t1).bind fun t2 => (some (t1, t2))))) else (if a1 = 0 then (some (0, a0)) else ((impl_restMod.f a0 a1).bind fun t3 => (some (a1, t3))))) = some (r1, r2) := h
 clear h
 by_cases c1 : a1 > 65536
 rotate_left
 ·rw [if_neg c1] at H
  have d1 := dF c1
  clear c1
  by_cases c2 : a1 = 0
  ·rw [if_pos c2] at H
   have d2 := eT c2
   have d3 := nF c2
   clear c2
   obtain ⟨rfl, rfl⟩ := sj2 H
   go_enter Try.func112, Try.ntmps112
   go_wp2_with (first | ((with_reducible refine gate_dst (N := 4) rfl ?_); refine bxn 4 #[.int .i64 0, .int .i64 0] 86 HB fun g1 w1 K1 G1 hg hb => ?_; replace HB := am (below_step (YA HB) hb); clear hb hg; have := cB2 K1))
   refine bodyPost_ret (results_cell_row rfl _ _ g1 86 #[.int .i64 0, .int .i64 a0] (0, 0) _ rfl (by refine pf ?_; refine bp (ia2 0 0) ?_ 1; refine pf ?_; refine bp (ia2 0 0) ?_ 0; exact Z K1) Try.underlying86 rfl (by kernel_rfl)) rfl ?_
   exact ⟨ez, YA HB⟩
  rw [if_neg c2] at H
  have d2 := eF c2
  have d3 := nT c2
  obtain ⟨t3, A1, H⟩ := bd H
  try dsimp only at H
  obtain ⟨rfl, rfl⟩ := sj2 H
  go_enter Try.func112, Try.ntmps112
  go_wp2_with (first | ((with_reducible refine gate_dst (N := 4) rfl ?_); refine bxn 4 #[.int .i64 0, .int .i64 0] 86 HB fun g1 w1 K1 G1 hg hb => ?_; replace HB := am (below_step (YA HB) hb); clear hb hg) | ((with_reducible refine gate_callee (f := 110) rfl ?_); refine goesL_ (some 17) rfl rfl Try.func110 (by kernel_rfl) rfl #[.int .i64 a0, .int .i64 a1] rfl mz ?_; (with_reducible refine (impl_restMod.calls _ _ _ _ A1.out).mono ?_); rintro e w' ⟨rfl, ⟨nd, rfl⟩⟩; refine ⟨_, rfl, ?_⟩; (try (rw [drewN_self w1]; generalize hq_ : World.drewN w1 _ = w1; replace K1 : Bx2 w1 g1 0 0 86 := ⟨by rw [← hq_]; exact (Z K1)⟩; replace HB : Aside0 (Below w.heap.size w w1) := ⟨by rw [← hq_]; exact (YA HB)⟩; clear hq_)); have := cB2 K1))
  refine bodyPost_ret (results_cell_row rfl _ _ g1 86 #[.int .i64 a1, .int .i64 t3] (0, 0) _ rfl (by refine pf ?_; refine bp (ia2 a1 0) ?_ 1; refine pf ?_; refine bp (ia2 0 0) ?_ 0; exact Z K1) Try.underlying86 rfl (by kernel_rfl)) rfl ?_
  exact ⟨ez, YA HB⟩
 rw [if_pos c1] at H
 have d1 := dT c1
 clear c1
 obtain ⟨y1, y2⟩ : ∃ y_ : List Int, y_ = (([a1, 65536] : List Int)) := ⟨_, rfl⟩
 replace H : ((impl_restGcd.f k y1).bind fun t1 => (if t1 = 0 then (some (0, a0)) else ((impl_restMod.f a0 t1).bind fun t2 => (some (t1, t2))))) = some (r1, r2) := by first | (rw [y2]; with_reducible exact H) | (have H2_ := (Option.bind_some _ _).symm.trans H; rw [y2]; with_reducible exact H2_) | (have H2_ := (Option.bind_some _ _).symm.trans H; with_reducible exact H2_) | with_reducible exact H | (rw [y2]; exact H) | exact H
 have Y25 := am y2
 clear y2
 obtain ⟨t1, A1, H⟩ := bd H
 try dsimp only at H
 by_cases c2 : t1 = 0
 ·rw [if_pos c2] at H
  have d2 := eT c2
  have d3 := nF c2
  clear c2
  obtain ⟨rfl, rfl⟩ := sj2 H
  go_enter Try.func112, Try.ntmps112
  go_wp2_with (first | ((with_reducible refine gate_dst (N := 4) rfl ?_); refine bxn 4 #[.int .i64 0, .int .i64 0] 86 HB fun g1 w1 K1 G1 hg hb => ?_; replace HB := am (below_step (YA HB) hb); clear hb hg) | ((with_reducible refine gate_dst (N := 8) rfl ?_); refine Kd.R_lit (Kd.int .i64) _ 3 ?hg (N := 8) ?hd (xs := ([a1, 65536] : List Int)) (inner := [.int .i64 a1, .int .i64 65536]) (ok := fun _ => True) (okp := fun _ => True) ?hr ?hp (fun _ hk => hk) trivial (Below.refl _ _) (Nat.le_refl _) (by simp) ?_; (case hd => rfl); (case hg => rfl); (case hr => first | (go_simp; done) | (go_simp; rfl)); (case hp => exact (Reps.one (show Kd.M (Kd.int .i64) _ _ _ a1 [.int .i64 a1] from rfl) (Reps.one (show Kd.M (Kd.int .i64) _ _ _ 65536 [.int .i64 65536] from rfl) (Reps.none _ _)))); intro v1 w2 o1 hb hg_ hnew_; clear hg_ hnew_; (first | rw [← Y25.out] at o1 | (simp only [Int.reduceToNat] at o1; rw [← Y25.out] at o1)); have O1 := am (Kd.R_lower o1 (below_size (YA HB))); obtain ⟨K1, HB⟩ := bk1 K1 HB hb; clear hb o1; obtain ⟨q1, f1, e1⟩ := Kd.R_slice O1.out; subst e1) | ((with_reducible refine gate_callee (f := 113) rfl ?_); refine goesL_ (some 9) rfl rfl Try.func113 (by kernel_rfl) rfl #[.slice q1 y1.length f1] rfl mz ?_; (with_reducible refine (impl_restGcd.calls k _ _ y1 t1 _ ?side1 ?side2 A1.out).mono ?_); (case side1 => exact qs14); (case side2 => exact (Kd.R_reads' O1.out).2.1); rintro e w' ⟨rfl, ⟨nd, rfl⟩⟩; refine ⟨_, rfl, ?_⟩; (try (rw [drewN_self w2]; generalize hq_ : World.drewN w2 _ = w2; replace O1 : Aside0 (Kd.R (Kd.int .i64) 3 w2 w.heap.size (fun _ => True) (.slice q1 y1.length f1) y1) := ⟨by rw [← hq_]; exact (RZ O1)⟩; replace K1 : Bx2 w2 g1 0 0 86 := ⟨by rw [← hq_]; exact (Z K1)⟩; replace HB : Aside0 (Below w.heap.size w w2) := ⟨by rw [← hq_]; exact (YA HB)⟩; clear hq_)); have := cB2 K1))
  refine bodyPost_ret (results_cell_row rfl _ _ g1 86 #[.int .i64 0, .int .i64 a0] (0, 0) _ rfl (by refine pf ?_; refine bp (ia2 0 0) ?_ 1; refine pf ?_; refine bp (ia2 0 0) ?_ 0; exact Z K1) Try.underlying86 rfl (by kernel_rfl)) rfl ?_
  exact ⟨ez, YA HB⟩
 rw [if_neg c2] at H
 have d2 := eF c2
 have d3 := nT c2
 obtain ⟨t2, A2, H⟩ := bd H
 try dsimp only at H
 obtain ⟨rfl, rfl⟩ := sj2 H
 go_enter Try.func112, Try.ntmps112
 go_wp2_with (first | ((with_reducible refine gate_dst (N := 4) rfl ?_); refine bxn 4 #[.int .i64 0, .int .i64 0] 86 HB fun g1 w1 K1 G1 hg hb => ?_; replace HB := am (below_step (YA HB) hb); clear hb hg) | ((with_reducible refine gate_dst (N := 8) rfl ?_); refine Kd.R_lit (Kd.int .i64) _ 3 ?hg (N := 8) ?hd (xs := ([a1, 65536] : List Int)) (inner := [.int .i64 a1, .int .i64 65536]) (ok := fun _ => True) (okp := fun _ => True) ?hr ?hp (fun _ hk => hk) trivial (Below.refl _ _) (Nat.le_refl _) (by simp) ?_; (case hd => rfl); (case hg => rfl); (case hr => first | (go_simp; done) | (go_simp; rfl)); (case hp => exact (Reps.one (show Kd.M (Kd.int .i64) _ _ _ a1 [.int .i64 a1] from rfl) (Reps.one (show Kd.M (Kd.int .i64) _ _ _ 65536 [.int .i64 65536] from rfl) (Reps.none _ _)))); intro v1 w2 o1 hb hg_ hnew_; clear hg_ hnew_; (first | rw [← Y25.out] at o1 | (simp only [Int.reduceToNat] at o1; rw [← Y25.out] at o1)); have O1 := am (Kd.R_lower o1 (below_size (YA HB))); obtain ⟨K1, HB⟩ := bk1 K1 HB hb; clear hb o1; obtain ⟨q1, f1, e1⟩ := Kd.R_slice O1.out; subst e1) | ((with_reducible refine gate_callee (f := 113) rfl ?_); refine goesL_ (some 9) rfl rfl Try.func113 (by kernel_rfl) rfl #[.slice q1 y1.length f1] rfl mz ?_; (with_reducible refine (impl_restGcd.calls k _ _ y1 t1 _ ?side1 ?side2 A1.out).mono ?_); (case side1 => exact qs14); (case side2 => exact (Kd.R_reads' O1.out).2.1); rintro e w' ⟨rfl, ⟨nd, rfl⟩⟩; refine ⟨_, rfl, ?_⟩; (try (rw [drewN_self w2]; generalize hq_ : World.drewN w2 _ = w2; replace O1 : Aside0 (Kd.R (Kd.int .i64) 3 w2 w.heap.size (fun _ => True) (.slice q1 y1.length f1) y1) := ⟨by rw [← hq_]; exact (RZ O1)⟩; replace K1 : Bx2 w2 g1 0 0 86 := ⟨by rw [← hq_]; exact (Z K1)⟩; replace HB : Aside0 (Below w.heap.size w w2) := ⟨by rw [← hq_]; exact (YA HB)⟩; clear hq_))) | ((with_reducible refine gate_callee (f := 110) rfl ?_); refine goesL_ (some 17) rfl rfl Try.func110 (by kernel_rfl) rfl #[.int .i64 a0, .int .i64 t1] rfl mz ?_; (with_reducible refine (impl_restMod.calls _ _ _ _ A2.out).mono ?_); rintro e w' ⟨rfl, ⟨nd, rfl⟩⟩; refine ⟨_, rfl, ?_⟩; (try (rw [drewN_self w2]; generalize hq_ : World.drewN w2 _ = w2; replace O1 : Aside0 (Kd.R (Kd.int .i64) 3 w2 w.heap.size (fun _ => True) (.slice q1 y1.length f1) y1) := ⟨by rw [← hq_]; exact (RZ O1)⟩; replace K1 : Bx2 w2 g1 0 0 86 := ⟨by rw [← hq_]; exact (Z K1)⟩; replace HB : Aside0 (Below w.heap.size w w2) := ⟨by rw [← hq_]; exact (YA HB)⟩; clear hq_)); have := cB2 K1))
 refine bodyPost_ret (results_cell_row rfl _ _ g1 86 #[.int .i64 t1, .int .i64 t2] (0, 0) _ rfl (by refine pf ?_; refine bp (ia2 t1 0) ?_ 1; refine pf ?_; refine bp (ia2 0 0) ?_ 0; exact Z K1) Try.underlying86 rfl (by kernel_rfl)) rfl ?_
 exact ⟨ez, YA HB⟩
end
section
attribute [local go_sem] max2_int min2_int max_two min_two max_three min_three max_four min_four
attribute [local go_sem] Go.Proofs.YthbkakcchgnhpaaSet.isSome_setCell
mutual
def impl_RestDo.j0 : Nat → Int → Bool → Int → Int → Int → Int → Option (Int × Int)
 | 0, _, _, _, _, _, _ => none
 | k + 1, x1, x2, x3, x4, x5, x6 => if x2 = true then ((impl_restAll.f).bind fun u1 => (some (u1.1, u1.2))) else (if x3 = 0 then (impl_RestDo.j1 k x1 (x5 == 0) x3 x4 x5 x6) else (impl_RestDo.j1 k x1 false x3 x4 x5 x6))
def impl_RestDo.j1 : Nat → Int → Bool → Int → Int → Int → Int → Option (Int × Int)
 | 0, _, _, _, _, _, _ => none
 | k + 1, x1, x2, x3, x4, x5, x6 => if x2 = true then ((impl_NumDo.f k x1 x4 x6).bind fun u1 => (if u1.2 = 0 then (some (0, u1.1)) else ((impl_restAll.f).bind fun u2 => (some (u2.1, u2.2))))) else (if x1 = 11 then (impl_RestDo.j2 k x1 4294967296 x3 x4 x5 x6) else (if x1 = 12 then (impl_RestDo.j2 k x1 4294967296 x3 x4 x5 x6) else (if x1 = 13 then (impl_RestDo.j2 k x1 4294967296 x3 x4 x5 x6) else (impl_RestDo.j2 k x1 0 x3 x4 x5 x6))))
def impl_RestDo.j2 : Nat → Int → Int → Int → Int → Int → Int → Option (Int × Int)
 | 0, _, _, _, _, _, _ => none
 | k + 1, x1, x2, x3, x4, x5, x6 => if x1 = 1 then (impl_RestDo.j3 k x2 x1 (x1 == 1) x3 x4 x5 x6) else (impl_RestDo.j3 k x2 x1 (x1 == 11) x3 x4 x5 x6)
def impl_RestDo.j3 : Nat → Int → Int → Bool → Int → Int → Int → Int → Option (Int × Int)
 | 0, _, _, _, _, _, _, _ => none
 | k + 1, x1, x2, x3, x4, x5, x6, x7 => if x3 = true then ((impl_restGcd.f k (([x4, x6, x1] : List Int))).bind fun t1 => ((impl_restOf.f k (wrap64 (x5 + x7)) t1).bind fun u1 => (some (u1.1, u1.2)))) else (if x2 = 2 then (impl_RestDo.j4 k x1 x2 (x2 == 2) x4 x5 x6 x7) else (impl_RestDo.j4 k x1 x2 (x2 == 12) x4 x5 x6 x7))
def impl_RestDo.j4 : Nat → Int → Int → Bool → Int → Int → Int → Int → Option (Int × Int)
 | 0, _, _, _, _, _, _, _ => none
 | k + 1, x1, x2, x3, x4, x5, x6, x7 => if x3 = true then ((impl_restGcd.f k (([x4, x6, x1] : List Int))).bind fun t1 => ((impl_restOf.f k (wrap64 (x5 - x7)) t1).bind fun u1 => (some (u1.1, u1.2)))) else (if x2 = 3 then (impl_RestDo.j5 k x1 x2 (x2 == 3) x4 x5 x6 x7) else (impl_RestDo.j5 k x1 x2 (x2 == 13) x4 x5 x6 x7))
def impl_RestDo.j5 : Nat → Int → Int → Bool → Int → Int → Int → Int → Option (Int × Int)
 | 0, _, _, _, _, _, _, _ => none
 | k + 1, x1, x2, x3, x4, x5, x6, x7 => if x3 = true then ((impl_restGcd.f k (([wrap64 (x4 * x6), wrap64 (x4 * x7), wrap64 (x6 * x5)] : List Int))).bind fun t1 => (if t1 = 0 then (some (0, 0)) else ((impl_restGcd.f k (([t1, x1] : List Int))).bind fun t2 => ((impl_restOf.f k (wrap64 (x5 * x7)) t2).bind fun u1 => (some (u1.1, u1.2)))))) else (if x2 = 9 then (if x6 = 0 then (if x7 ≥ 0 then (impl_RestDo.j6 k (decide (x7 ≤ 31)) x4 x5 x6 x7) else (impl_RestDo.j6 k false x4 x5 x6 x7)) else (impl_RestDo.j6 k false x4 x5 x6 x7)) else (if x2 = 5 then ((impl_restGcd.f k (([x4, x6, x7] : List Int))).bind fun t3 => (if t3 = 0 then ((impl_restAll.f).bind fun u2 => (some (u2.1, u2.2))) else ((impl_restOf.f k x5 t3).bind fun u3 => (some (u3.1, u3.2))))) else ((impl_restAll.f).bind fun u4 => (some (u4.1, u4.2)))))
def impl_RestDo.j6 : Nat → Bool → Int → Int → Int → Int → Option (Int × Int)
 | 0, _, _, _, _, _ => none
 | k + 1, x1, x2, x3, x4, x5 => if x1 = true then (if 0 ≤ (IntKind.u64.wrap (x5)) then ((impl_restOf.f k (wrap64 (x3 * (shl .i64 1 (IntKind.u64.wrap (x5))))) (wrap64 (x2 * (shl .i64 1 (IntKind.u64.wrap (x5)))))).bind fun u1 => (some (u1.1, u1.2))) else (none)) else ((impl_restAll.f).bind fun u2 => (some (u2.1, u2.2)))
end
def impl_RestDo.f (k : Nat) (a0 : Int) (a1_0 : Int) (a1_1 : Int) (a2_0 : Int) (a2_1 : Int) : Option (Int × Int) := (impl_numOp.f a0).bind fun t1 => (if t1 = true then ((impl_RestOk.f a1_0 a1_1).bind fun t2 => (if t2 = true then ((impl_RestOk.f a2_0 a2_1).bind fun t3 => (impl_RestDo.j0 k a0 (!t3) a1_0 a1_1 a2_0 a2_1)) else (impl_RestDo.j0 k a0 true a1_0 a1_1 a2_0 a2_1))) else (impl_RestDo.j0 k a0 true a1_0 a1_1 a2_0 a2_1))
theorem impl_RestDo.mono_l : ∀ k, (∀ y0 y1 y2 y3 y4 y5, LeO (impl_RestDo.j0 k y0 y1 y2 y3 y4 y5) (impl_RestDo.j0 (k + 1) y0 y1 y2 y3 y4 y5)) ∧ (∀ y0 y1 y2 y3 y4 y5, LeO (impl_RestDo.j1 k y0 y1 y2 y3 y4 y5) (impl_RestDo.j1 (k + 1) y0 y1 y2 y3 y4 y5)) ∧ (∀ y0 y1 y2 y3 y4 y5, LeO (impl_RestDo.j2 k y0 y1 y2 y3 y4 y5) (impl_RestDo.j2 (k + 1) y0 y1 y2 y3 y4 y5)) ∧ (∀ y0 y1 y2 y3 y4 y5 y6, LeO (impl_RestDo.j3 k y0 y1 y2 y3 y4 y5 y6) (impl_RestDo.j3 (k + 1) y0 y1 y2 y3 y4 y5 y6)) ∧ (∀ y0 y1 y2 y3 y4 y5 y6, LeO (impl_RestDo.j4 k y0 y1 y2 y3 y4 y5 y6) (impl_RestDo.j4 (k + 1) y0 y1 y2 y3 y4 y5 y6)) ∧ (∀ y0 y1 y2 y3 y4 y5 y6, LeO (impl_RestDo.j5 k y0 y1 y2 y3 y4 y5 y6) (impl_RestDo.j5 (k + 1) y0 y1 y2 y3 y4 y5 y6)) ∧ (∀ y0 y1 y2 y3 y4, LeO (impl_RestDo.j6 k y0 y1 y2 y3 y4) (impl_RestDo.j6 (k + 1) y0 y1 y2 y3 y4))
 | 0 => ⟨fun _ _ _ _ _ _ r h => by simp [impl_RestDo.j0] at h, fun _ _ _ _ _ _ r h => by simp [impl_RestDo.j1] at h, fun _ _ _ _ _ _ r h => by simp [impl_RestDo.j2] at h, fun _ _ _ _ _ _ _ r h => by simp [impl_RestDo.j3] at h, fun _ _ _ _ _ _ _ r h => by simp [impl_RestDo.j4] at h, fun _ _ _ _ _ _ _ r h => by simp [impl_RestDo.j5] at h, fun _ _ _ _ _ r h => by simp [impl_RestDo.j6] at h⟩
 | k + 1 => by
  obtain ⟨ih0, ih1, ih2, ih3, ih4, ih5, ih6⟩ := impl_RestDo.mono_l k
  refine ⟨?_, ?_, ?_, ?_, ?_, ?_, ?_⟩ <;> (intros; (first | unfold impl_RestDo.j0 | unfold impl_RestDo.j1 | unfold impl_RestDo.j2 | unfold impl_RestDo.j3 | unfold impl_RestDo.j4 | unfold impl_RestDo.j5 | unfold impl_RestDo.j6); repeat' first | (with_reducible first | apply ih0 | apply ih1 | apply ih2 | apply ih3 | apply ih4 | apply ih5 | apply ih6 | apply impl_NumDo.mono | apply impl_restGcd.mono | apply impl_restOf.mono | apply LeO.refl | apply LeO.none | refine LeO.ite ?_ ?_ | refine LeO.bind ?_ (fun _ => ?_)) | apply ih0 | apply ih1 | apply ih2 | apply ih3 | apply ih4 | apply ih5 | apply ih6 | apply impl_NumDo.mono | apply impl_restGcd.mono | apply impl_restOf.mono | apply LeO.none | refine LeO.ite ?_ ?_ | refine LeO.bind ?_ (fun _ => ?_))
theorem impl_RestDo.mono : ∀ a0 a1 a2 a3 a4 k, LeO (impl_RestDo.f k a0 a1 a2 a3 a4) (impl_RestDo.f (k + 1) a0 a1 a2 a3 a4) := by
 intro a0 a1 a2 a3 a4 k
 obtain ⟨ih0, ih1, ih2, ih3, ih4, ih5, ih6⟩ := impl_RestDo.mono_l k
 unfold impl_RestDo.f
 repeat' first | (with_reducible first | apply ih0 | apply ih1 | apply ih2 | apply ih3 | apply ih4 | apply ih5 | apply ih6 | apply impl_NumDo.mono | apply impl_restGcd.mono | apply impl_restOf.mono | apply LeO.refl | apply LeO.none | refine LeO.ite ?_ ?_ | refine LeO.bind ?_ (fun _ => ?_)) | apply ih0 | apply ih1 | apply ih2 | apply ih3 | apply ih4 | apply ih5 | apply ih6 | apply impl_NumDo.mono | apply impl_restGcd.mono | apply impl_restOf.mono | apply LeO.none | refine LeO.ite ?_ ?_ | refine LeO.bind ?_ (fun _ => ?_)
def impl_RestDo.T17 : Bool × List (List Nat × List Nat) := (true, [([], []), ([0], [0]), ([], []), ([2], [2]), ([1, 3], [1, 3]), ([], []), ([5], [5]), ([], []), ([7], [7]), ([], []), ([6, 8, 9], [6, 8, 9]), ([10], [10]), ([4, 11, 11], [4, 11]), ([12, 12, 0, 1, 2, 3, 4, 5, 6, 7, 8, 9, 10, 11, 12], [12])])
def impl_RestDo.B17 : List Nat := [0, 1, 0, 4, 15, 0, 32, 0, 128, 0, 992, 2016, 4095, 8191]
theorem impl_RestDo.tab17 : rtab .any (opsOf Try.f81 17) = impl_RestDo.T17 := by kernel_rfl
theorem impl_RestDo.bits17 : waitsOk impl_RestDo.T17.2 impl_RestDo.B17 = true := by kernel_rfl
def impl_RestDo.T20 : Bool × List (List Nat × List Nat) := (true, [([], []), ([0], [0]), ([], []), ([2], [2]), ([1, 3], [1, 3]), ([], []), ([5], [5]), ([], []), ([7], [7]), ([], []), ([6, 8, 9], [6, 8, 9]), ([10], [10]), ([4, 11, 11], [4, 11]), ([12, 12, 0, 1, 2, 3, 4, 5, 6, 7, 8, 9, 10, 11, 12], [12])])
def impl_RestDo.B20 : List Nat := [0, 1, 0, 4, 15, 0, 32, 0, 128, 0, 992, 2016, 4095, 8191]
theorem impl_RestDo.tab20 : rtab .any (opsOf Try.f81 20) = impl_RestDo.T20 := by kernel_rfl
theorem impl_RestDo.bits20 : waitsOk impl_RestDo.T20.2 impl_RestDo.B20 = true := by kernel_rfl
def impl_RestDo.T26 : Bool × List (List Nat × List Nat) := (true, [([], []), ([0], [0]), ([], []), ([2], [2]), ([1, 3], [1, 3]), ([], []), ([], []), ([5, 6], [5, 6]), ([7], [7]), ([4, 8, 8], [4, 8]), ([9, 9, 0, 1, 2, 3, 4, 5, 6, 7, 8, 9], [9])])
def impl_RestDo.B26 : List Nat := [0, 1, 0, 4, 15, 0, 0, 96, 224, 511, 1023]
theorem impl_RestDo.tab26 : rtab .any (opsOf Try.f81 26) = impl_RestDo.T26 := by kernel_rfl
theorem impl_RestDo.bits26 : waitsOk impl_RestDo.T26.2 impl_RestDo.B26 = true := by kernel_rfl
set_option maxHeartbeats 8000000 in
set_option maxRecDepth 100000 in
theorem impl_RestDo.calls (k : Nat) (a0 : Int) (a1_0 : Int) (a1_1 : Int) (a2_0 : Int) (a2_1 : Int) (r1 : Int) (r2 : Int) (w : World) (h : impl_RestDo.f k a0 a1_0 a1_1 a2_0 a2_1 = some (r1, r2)) :
  Calls Try.prog 81 #[.int .i64 a0, .agg #[.int .i64 a1_0, .int .i64 a1_1], .agg #[.int .i64 a2_0, .int .i64 a2_1]] w fun e w' => e = .returned (.agg #[.int .i64 r1, .int .i64 r2]) ∧ Below w.heap.size w w' := by
 have hu86 := Try.underlying86
 have HB := am (Below.refl w.heap.size w)
 have H : ((impl_numOp.f a0).bind fun t1 => (if t1 = true then ((impl_RestOk.f a1_0 a1_1).bind fun t2 => (if t2 = true then ((impl_RestOk.f a2_0 a2_1).bind fun t3 => (impl_RestDo.j0 k a0 (!t3) a1_0 a1_1 a2_0 a2_1)) else (impl_RestDo.j0 k a0 true a1_0 a1_1 a2_0 a2_1))) else (impl_RestDo.j0 k a0 true a1_0 a1_1 a2_0 a2_1))) = some (r1, r2) := h
 clear h
 have C1 := am H
 clear H
 go_enter Try.func81, Try.ntmps81
 go_upto_region 1 with (first | ((with_reducible refine gate_dst (N := 4) rfl ?_); refine bxn 4 #[.int .i64 a1_0, .int .i64 a1_1] 86 HB fun g1 w2 K1 G1 hg hb => ?_; replace HB := am (below_step (YA HB) hb); clear hb hg) | ((with_reducible refine gate_dst (N := 5) rfl ?_); refine bxn 5 #[.int .i64 a2_0, .int .i64 a2_1] 86 HB fun g2 w3 K2 G2 hg hb => ?_; obtain ⟨N1,N2⟩ := ne_ hg K1; obtain ⟨K1, HB⟩ := bk1 K1 HB hb; clear hb hg) | ((with_reducible refine gate_dst (N := 6) rfl ?_); refine bxn 6 #[.int .i64 0, .int .i64 0] 86 HB fun g3 w4 K3 G3 hg hb => ?_; obtain ⟨N3,N4⟩ := ne_ hg K1; obtain ⟨N5,N6⟩ := ne_ hg K2; obtain ⟨K1, K2, HB⟩ := bk2 K1 K2 HB hb; clear hb hg))
 (try simp only [Act.put, List.setIfInBounds_toArray, List.set_cons_zero, List.set_cons_succ])
 go_cut [25] (fun v1 wc => ∃ (kq : Nat) (x1 : Bool), v1 = .bool x1 ∧ Aside0 (impl_RestDo.j0 kq a0 x1 a1_0 a1_1 a2_0 a2_1 = some (r1, r2)) ∧ Aside0 (kq ≤ k) ∧ Bx2 wc g1 a1_0 a1_1 86 ∧ Bx2 wc g2 a2_0 a2_1 86 ∧ Bx2 wc g3 0 0 86 ∧ Aside0 (Below w.heap.size w wc))
 case first =>
  have H := C1.out
  clear C1
  obtain ⟨t1, A1, H⟩ := bd H
  try dsimp only at H
  by_cases c1 : t1 = true
  rotate_left
  ·replace c1 := Bool.eq_false_iff.mpr c1
   subst c1
   rw [if_neg ff] at H
   have H' := am H
   clear H
   go_wp2_with (first | ((with_reducible refine gate_callee (f := 45) rfl ?_); refine goesL_ (some 14) rfl rfl Try.func45 (by kernel_rfl) rfl #[.int .i64 a0] rfl mz ?_; (with_reducible refine (impl_numOp.calls _ _ _ A1.out).mono ?_); rintro e w' ⟨rfl, ⟨nd, rfl⟩⟩; refine ⟨_, rfl, ?_⟩))
   go_meet
   case rel => exact ⟨_, (true), ey, H', le0, ⟨Z K1⟩, ⟨Z K2⟩, ⟨Z K3⟩, ⟨YA HB⟩⟩
  subst c1
  rw [if_pos rfl] at H
  obtain ⟨t2, A2, H⟩ := bd H
  try dsimp only at H
  by_cases c2 : t2 = true
  rotate_left
  ·replace c2 := Bool.eq_false_iff.mpr c2
   subst c2
   rw [if_neg ff] at H
   have H' := am H
   clear H
   go_wp2_with (first | ((with_reducible refine gate_callee (f := 45) rfl ?_); refine goesL_ (some 14) rfl rfl Try.func45 (by kernel_rfl) rfl #[.int .i64 a0] rfl mz ?_; (with_reducible refine (impl_numOp.calls _ _ _ A1.out).mono ?_); rintro e w' ⟨rfl, ⟨nd, rfl⟩⟩; refine ⟨_, rfl, ?_⟩; have := ns2 N1 N3; have := cB2 K1) | (go_at_call 108; (with_reducible refine (impl_RestOk.calls _ _ _ _ A2.out).mono ?_); rintro e w5 ⟨rfl, hb⟩; obtain ⟨K1, K2, K3, HB⟩ := bk3 K1 K2 K3 HB hb; (try clear hb)))
   go_meet
   case rel => exact ⟨_, (true), ey, H', le0, ⟨Z K1⟩, ⟨Z K2⟩, ⟨Z K3⟩, ⟨YA HB⟩⟩
  subst c2
  rw [if_pos rfl] at H
  obtain ⟨t3, A3, H⟩ := bd H
  try dsimp only at H
  have H' := am H
  clear H
  go_wp2_with (first | ((with_reducible refine gate_callee (f := 45) rfl ?_); refine goesL_ (some 14) rfl rfl Try.func45 (by kernel_rfl) rfl #[.int .i64 a0] rfl mz ?_; (with_reducible refine (impl_numOp.calls _ _ _ A1.out).mono ?_); rintro e w' ⟨rfl, ⟨nd, rfl⟩⟩; refine ⟨_, rfl, ?_⟩; have := ns2 N1 N3; have := cB2 K1) | (go_at_call 108; (with_reducible refine (impl_RestOk.calls _ _ _ _ A2.out).mono ?_); rintro e w5 ⟨rfl, hb⟩; obtain ⟨K1, K2, K3, HB⟩ := bk3 K1 K2 K3 HB hb; (try clear hb); have := ns1 N5; have := cB2 K2) | (go_at_call 108; (with_reducible refine (impl_RestOk.calls _ _ _ _ A3.out).mono ?_); rintro e w6 ⟨rfl, hb⟩; obtain ⟨K1, K2, K3, HB⟩ := bk3 K1 K2 K3 HB hb; (try clear hb)))
  go_meet
  case rel => exact ⟨_, (!t3), ey, H', le0, ⟨Z K1⟩, ⟨Z K2⟩, ⟨Z K3⟩, ⟨YA HB⟩⟩
 clear C1
 obtain ⟨kq, x1, rfl, HA, J1, K1, K2, K3, HB⟩ := hcut
 cases kq with
 | zero => exact absurd HA.out (by simp [impl_RestDo.j0])
 | succ k1 => ?_
 have H := HA.out
 clear HA
 simp only [impl_RestDo.j0] at H
 by_cases c1 : x1 = true
 ·subst c1
  rw [if_pos rfl] at H
  obtain ⟨⟨t4, t5⟩, A1, H⟩ := bd H
  try dsimp only at H
  obtain ⟨rfl, rfl⟩ := sj2 H
  go_wp2_with (first | ((with_reducible refine gate_callee (f := 111) rfl ?_); refine gL 26 Try.func111 (impl_restAll.calls _ _ _ A1.out) fun w5 hb => ?_; obtain ⟨K1, K2, K3, HB⟩ := bk3 K1 K2 K3 HB hb; (try clear hb); have := ns2 N4 N6; have := cB2 K3))
  refine bodyPost_ret (results_cell_row rfl _ _ g3 86 #[.int .i64 t4, .int .i64 t5] (0, 0) _ rfl (by refine pf ?_; refine bp (ia2 t4 0) ?_ 1; refine pf ?_; refine bp (ia2 0 0) ?_ 0; exact Z K3) Try.underlying86 rfl (by kernel_rfl)) rfl ?_
  exact ⟨ez, YA HB⟩
 replace c1 := Bool.eq_false_iff.mpr c1
 subst c1
 rw [if_neg ff] at H
 have C2 := am H
 clear H
 go_upto_region 3 with (fail)
 go_cut [34] (fun v2 wc => ∃ (kq : Nat) (x2 : Bool), v2 = .bool x2 ∧ Aside0 (impl_RestDo.j1 kq a0 x2 a1_0 a1_1 a2_0 a2_1 = some (r1, r2)) ∧ Aside0 (kq ≤ k1) ∧ Bx2 wc g1 a1_0 a1_1 86 ∧ Bx2 wc g2 a2_0 a2_1 86 ∧ Bx2 wc g3 0 0 86 ∧ Aside0 (Below w.heap.size w wc))
 case first =>
  have H := C2.out
  clear C2
  by_cases c2 : a1_0 = 0
  rotate_left
  ·rw [if_neg c2] at H
   have d1 := eF c2
   have d2 := nT c2
   (first | rw [d1] | (simp only [i64_w, i32_w]; rw [d1]) | skip)
   have H' := am H
   clear H
   have := ns2 N1 N3
   have := cB2 K1
   go_wp2
   go_meet
   case rel => exact ⟨_, (false), ey, H', le1 J1, ⟨Z K1⟩, ⟨Z K2⟩, ⟨Z K3⟩, ⟨YA HB⟩⟩
  rw [if_pos c2] at H
  have d1 := eT c2
  have d2 := nF c2
  clear c2
  (first | rw [d1] | (simp only [i64_w, i32_w]; rw [d1]) | skip)
  have H' := am H
  clear H
  have := ns3 N1 N3 N5
  have := cB2 K1
  have := cB2 K2
  go_wp2
  go_meet
  case rel => exact ⟨_, ((a2_0 == 0)), ey, H', le1 J1, ⟨Z K1⟩, ⟨Z K2⟩, ⟨Z K3⟩, ⟨YA HB⟩⟩
 clear C2
 try clear c1
 obtain ⟨kq, x2, rfl, HA, J2, K1, K2, K3, HB⟩ := hcut
 cases kq with
 | zero => exact absurd HA.out (by simp [impl_RestDo.j1])
 | succ k2 => ?_
 have H := HA.out
 clear HA
 simp only [impl_RestDo.j1] at H
 by_cases c2 : x2 = true
 ·subst c2
  rw [if_pos rfl] at H
  obtain ⟨⟨t4, t5⟩, A1, H⟩ := bd H
  try dsimp only at H
  by_cases c3 : t5 = 0
  ·rw [if_pos c3] at H
   have d1 := eT c3
   have d2 := nF c3
   clear c3
   obtain ⟨rfl, rfl⟩ := sj2 H
   have := ns3 N1 N3 N5
   have := cB2 K1
   have := cB2 K2
   go_wp2_with (first | ((with_reducible refine gate_callee (f := 17) rfl ?_); refine goesL_ (some 41) rfl rfl Try.func17 (by kernel_rfl) rfl #[.int .i64 a0, .int .i64 a1_1, .int .i64 a2_1] rfl mz ?_; (with_reducible refine (impl_NumDo.calls _ _ _ _ _ _ _ A1.out).mono ?_); rintro e w' ⟨rfl, ⟨nd, rfl⟩⟩; refine ⟨_, rfl, ?_⟩; (try (rw [drewN_self wc]; generalize hq_ : World.drewN wc _ = wc; replace K1 : Bx2 wc g1 a1_0 a1_1 86 := ⟨by rw [← hq_]; exact (Z K1)⟩; replace K2 : Bx2 wc g2 a2_0 a2_1 86 := ⟨by rw [← hq_]; exact (Z K2)⟩; replace K3 : Bx2 wc g3 0 0 86 := ⟨by rw [← hq_]; exact (Z K3)⟩; replace HB : Aside0 (Below w.heap.size w wc) := ⟨by rw [← hq_]; exact (YA HB)⟩; clear hq_)); have := cB2 K3))
   refine bodyPost_ret (results_cell_row rfl _ _ g3 86 #[.int .i64 0, .int .i64 t4] (0, 0) _ rfl (by refine pf ?_; refine bp (ia2 0 0) ?_ 1; refine pf ?_; refine bp (ia2 0 0) ?_ 0; exact Z K3) Try.underlying86 rfl (by kernel_rfl)) rfl ?_
   exact ⟨ez, YA HB⟩
  rw [if_neg c3] at H
  have d1 := eF c3
  have d2 := nT c3
  obtain ⟨⟨t6, t7⟩, A2, H⟩ := bd H
  try dsimp only at H
  obtain ⟨rfl, rfl⟩ := sj2 H
  have := ns3 N1 N3 N5
  have := cB2 K1
  have := cB2 K2
  go_wp2_with (first | ((with_reducible refine gate_callee (f := 17) rfl ?_); refine goesL_ (some 41) rfl rfl Try.func17 (by kernel_rfl) rfl #[.int .i64 a0, .int .i64 a1_1, .int .i64 a2_1] rfl mz ?_; (with_reducible refine (impl_NumDo.calls _ _ _ _ _ _ _ A1.out).mono ?_); rintro e w' ⟨rfl, ⟨nd, rfl⟩⟩; refine ⟨_, rfl, ?_⟩; (try (rw [drewN_self wc]; generalize hq_ : World.drewN wc _ = wc; replace K1 : Bx2 wc g1 a1_0 a1_1 86 := ⟨by rw [← hq_]; exact (Z K1)⟩; replace K2 : Bx2 wc g2 a2_0 a2_1 86 := ⟨by rw [← hq_]; exact (Z K2)⟩; replace K3 : Bx2 wc g3 0 0 86 := ⟨by rw [← hq_]; exact (Z K3)⟩; replace HB : Aside0 (Below w.heap.size w wc) := ⟨by rw [← hq_]; exact (YA HB)⟩; clear hq_))) | ((with_reducible refine gate_callee (f := 111) rfl ?_); refine gL 46 Try.func111 (impl_restAll.calls _ _ _ A2.out) fun w5 hb => ?_; obtain ⟨K1, K2, K3, HB⟩ := bk3 K1 K2 K3 HB hb; (try clear hb); have := cB2 K3))
  refine bodyPost_ret (results_cell_row rfl _ _ g3 86 #[.int .i64 t6, .int .i64 t7] (0, 0) _ rfl (by refine pf ?_; refine bp (ia2 t6 0) ?_ 1; refine pf ?_; refine bp (ia2 0 0) ?_ 0; exact Z K3) Try.underlying86 rfl (by kernel_rfl)) rfl ?_
  exact ⟨ez, YA HB⟩
 replace c2 := Bool.eq_false_iff.mpr c2
 subst c2
 rw [if_neg ff] at H
 have C3 := am H
 clear H
 go_upto_block 0 with (fail)
 go_cut [9] (fun v3 wc => ∃ (kq : Nat) (x3 : Int), v3 = .int .i64 x3 ∧ Aside0 (impl_RestDo.j2 kq a0 x3 a1_0 a1_1 a2_0 a2_1 = some (r1, r2)) ∧ Aside0 (kq ≤ k2) ∧ Bx2 wc g1 a1_0 a1_1 86 ∧ Bx2 wc g2 a2_0 a2_1 86 ∧ Bx2 wc g3 0 0 86 ∧ Aside0 (Below w.heap.size w wc))
 case first =>
  have H := C3.out
  clear C3
  by_cases c3 : a0 = 11
  ·rw [if_pos c3] at H
   have d1 := eT c3
   have d2 := nF c3
   clear c3
   (first | rw [d1] | (simp only [i64_w, i32_w]; rw [d1]) | skip)
   have H' := am H
   clear H
   go_wp2
   go_meet
   case rel => exact ⟨_, (4294967296), ey, H', ⟨by have := J1.out; have := J2.out; first | omega | exact Nat.le_refl _⟩, ⟨Z K1⟩, ⟨Z K2⟩, ⟨Z K3⟩, ⟨YA HB⟩⟩
  rw [if_neg c3] at H
  have d1 := eF c3
  have d2 := nT c3
  (first | rw [d1] | (simp only [i64_w, i32_w]; rw [d1]) | skip)
  by_cases c4 : a0 = 12
  ·rw [if_pos c4] at H
   have d3 := eT c4
   have d4 := nF c4
   clear c4
   have H' := am H
   clear H
   go_wp2
   go_meet
   case rel => exact ⟨_, (4294967296), ey, H', ⟨by have := J1.out; have := J2.out; first | omega | exact Nat.le_refl _⟩, ⟨Z K1⟩, ⟨Z K2⟩, ⟨Z K3⟩, ⟨YA HB⟩⟩
  rw [if_neg c4] at H
  have d3 := eF c4
  have d4 := nT c4
  by_cases c5 : a0 = 13
  rotate_left
  ·rw [if_neg c5] at H
   have d5 := eF c5
   have d6 := nT c5
   have H' := am H
   clear H
   go_wp2
   go_meet
   case rel => exact ⟨_, (0), ey, H', ⟨by have := J1.out; have := J2.out; first | omega | exact Nat.le_refl _⟩, ⟨Z K1⟩, ⟨Z K2⟩, ⟨Z K3⟩, ⟨YA HB⟩⟩
  rw [if_pos c5] at H
  have d5 := eT c5
  have d6 := nF c5
  clear c5
  have H' := am H
  clear H
  go_wp2
  go_meet
  case rel => exact ⟨_, (4294967296), ey, H', ⟨by have := J1.out; have := J2.out; first | omega | exact Nat.le_refl _⟩, ⟨Z K1⟩, ⟨Z K2⟩, ⟨Z K3⟩, ⟨YA HB⟩⟩
 clear C3
 try clear c2
 obtain ⟨kq, x3, rfl, HA, J3, K1, K2, K3, HB⟩ := hcut
 cases kq with
 | zero => exact absurd HA.out (by simp [impl_RestDo.j2])
 | succ k3 => ?_
 have H := HA.out
 clear HA
 simp only [impl_RestDo.j2] at H
 have C4 := am H
 clear H
 go_upto_if 55 with (fail)
 go_cut [55] (fun v4 wc => ∃ (kq : Nat) (x4 : Bool), v4 = .bool x4 ∧ Aside0 (impl_RestDo.j3 kq x3 a0 x4 a1_0 a1_1 a2_0 a2_1 = some (r1, r2)) ∧ Aside0 (kq ≤ k3) ∧ Bx2 wc g1 a1_0 a1_1 86 ∧ Bx2 wc g2 a2_0 a2_1 86 ∧ Bx2 wc g3 0 0 86 ∧ Aside0 (Below w.heap.size w wc))
 case first =>
  have H := C4.out
  clear C4
  by_cases c3 : a0 = 1
  rotate_left
  ·rw [if_neg c3] at H
   have d1 := eF c3
   have d2 := nT c3
   (first | rw [d1] | (simp only [i64_w, i32_w]; rw [d1]) | skip)
   have H' := am H
   clear H
   go_wp2
   go_meet
   case rel => exact ⟨_, ((a0 == 11)), ey, H', ⟨by have := J1.out; have := J2.out; have := J3.out; first | omega | exact Nat.le_refl _⟩, ⟨Z K1⟩, ⟨Z K2⟩, ⟨Z K3⟩, ⟨YA HB⟩⟩
  rw [if_pos c3] at H
  have d1 := eT c3
  have d2 := nF c3
  clear c3
  (first | rw [d1] | (simp only [i64_w, i32_w]; rw [d1]) | skip)
  have H' := am H
  clear H
  go_wp2
  go_meet
  case rel => exact ⟨_, ((a0 == 1)), ey, H', ⟨by have := J1.out; have := J2.out; have := J3.out; first | omega | exact Nat.le_refl _⟩, ⟨Z K1⟩, ⟨Z K2⟩, ⟨Z K3⟩, ⟨YA HB⟩⟩
 clear C4
 obtain ⟨kq, x4, rfl, HA, J4, K1, K2, K3, HB⟩ := hcut
 cases kq with
 | zero => exact absurd HA.out (by simp [impl_RestDo.j3])
 | succ k4 => ?_
 have H := HA.out
 clear HA
 simp only [impl_RestDo.j3] at H
 by_cases c3 : x4 = true
 ·subst c3
  rw [if_pos rfl] at H
  obtain ⟨y1, y2⟩ : ∃ y_ : List Int, y_ = (([a1_0, a2_0, x3] : List Int)) := ⟨_, rfl⟩
  replace H : ((impl_restGcd.f k4 y1).bind fun t4 => ((impl_restOf.f k4 (wrap64 (a1_1 + a2_1)) t4).bind fun u1 => (some (u1.1, u1.2)))) = some (r1, r2) := by first | (rw [y2]; with_reducible exact H) | (have H2_ := (Option.bind_some _ _).symm.trans H; rw [y2]; with_reducible exact H2_) | (have H2_ := (Option.bind_some _ _).symm.trans H; with_reducible exact H2_) | with_reducible exact H | (rw [y2]; exact H) | exact H
  have Y25 := am y2
  clear y2
  obtain ⟨t4, A1, H⟩ := bd H
  try dsimp only at H
  obtain ⟨⟨t5, t6⟩, A2, H⟩ := bd H
  try dsimp only at H
  obtain ⟨rfl, rfl⟩ := sj2 H
  try go_wp2
  obtain ⟨K1, K2, K3, HB⟩ := dk3 K1 K2 K3 HB
  refine start_ (n := 14) (S := fun w' => ce2 w' g1 a1_0 a1_1 ∧ ce2 w' g2 a2_0 a2_1) (ds := []) (lb 14 0) (by kernel_rfl) rfl rfl ⟨cc2 K1, cc2 K2⟩ (fun hHeld => ?_); refine with_tabW impl_RestDo.tab17 impl_RestDo.bits17 (fun HT_ HW_ => ?_)
  generalize wc.drew = w5 at K1 K2 K3 HB hHeld ⊢
  refine pk 0 58 1 ?_
  refine pk 2 60 5 ?_
  refine pk 5 63 37 ?_
  refine pk 7 65 165 ?_
  refine pk 9 67 677 ?_
  refine tk 1 59 679 hHeld ?_
  refine tk 3 61 687 hHeld ?_
  refine pk 4 62 703 ?_
  refine tk 6 64 767 hHeld ?_
  refine tk 8 66 1023 hHeld ?_
  refine on 10 (some 68) 2047 fun K hK => ?_
  refine Kd.R_lit_step (Kd.int .i64) _ 3 ?hg (N := 68) ?hd (xs := ([a1_0, a2_0, x3] : List Int)) (inner := [.int .i64 a1_0, .int .i64 a2_0, .int .i64 x3]) (ok := fun _ => True) (okp := fun _ => True) ?hr ?hp (fun _ hk => hk) trivial (Below.refl _ _) (Nat.le_refl _) (by simp) ?_; (case hd => rfl); (case hg => rfl); (case hr => first | (go_simp; done) | (go_simp; rfl)); (case hp => exact (Reps.one (show Kd.M (Kd.int .i64) _ _ _ a1_0 [.int .i64 a1_0] from rfl) (Reps.one (show Kd.M (Kd.int .i64) _ _ _ a2_0 [.int .i64 a2_0] from rfl) (Reps.one (show Kd.M (Kd.int .i64) _ _ _ x3 [.int .i64 x3] from rfl) (Reps.none _ _)))))
  intro v5 w6 o1 hb hg_ hnew_
  clear hg_ hnew_
  (first | rw [← Y25.out] at o1 | (simp only [Int.reduceToNat] at o1; rw [← Y25.out] at o1))
  have O1 := am (Kd.R_lower o1 (below_size (YA HB)))
  obtain ⟨K1, K2, K3, HB⟩ := bk3 K1 K2 K3 HB hb
  clear hb o1
  obtain ⟨q1, f1, e1⟩ := Kd.R_slice O1.out
  (first | subst e1 | (injection e1 with f1_ f2_ f3_; have f4_ := f1_.symm; have f5_ := f3_.symm; clear f1_ f2_ f3_; subst f4_; subst f5_))
  refine kk hK ⟨cc2 K1, cc2 K2⟩ fun hHeld => ?_
  clear hK K
  refine on 11 (some 69) 4095 fun K hK => ?_
  refine goes_ Try.func113 (by kernel_rfl) rfl #[.slice q1 y1.length f1] (by rfl) rfl rfl mz ?_
  with_reducible refine (impl_restGcd.calls k4 _ _ y1 t4 _ ?side1 ?side2 A1.out).mono ?_
  (case side1 => exact qs14)
  (case side2 => exact (Kd.R_reads' O1.out).2.1)
  rintro e w' ⟨rfl, ⟨nd, rfl⟩⟩
  refine ⟨_, rfl, ?_⟩
  refine kk hK ⟨cc2 K1, cc2 K2⟩ fun hHeld => ?_
  clear hK K
  refine on 12 (some 70) 8191 fun K hK => ?_
  refine gq Try.func112 (impl_restOf.calls _ _ _ _ _ _ A2.out) fun w7 hb => ?_
  replace O1 := am (Kd.R_below (RZ O1) hb)
  obtain ⟨K1, K2, K3, HB⟩ := bk3 K1 K2 K3 HB hb
  clear hb
  refine kk hK ⟨cc2 K1, cc2 K2⟩ fun hHeld => ?_
  clear hK K
  refine on 13 none 16383 fun K hK => ?_
  have s1 : w7.cell? ⟨g3, 0, none⟩ = some (.int .i64 0) := bc K3 0
  have hfs71 := blk_frozen K3.out 0
  have := ns4 N3 N5 N4 N6
  have s2 : w7.cell? ⟨g3, 1, none⟩ = some (.int .i64 0) := bc K3 1
  have hfs72 := blk_frozen K3.out 1
  have := ns4 N3 N5 N4 N6
  refine skip_ (w1 := ?_) (by rfl) rfl ?_ ?_
  rotate_left
  ·go_simp
   rfl
  refine hK.out _ _ ⟨cf2 N3 (cf2 N3 hHeld.1), cf2 N5 (cf2 N5 hHeld.2)⟩ (fun hHeld => ?_)
  clear hK K
  refine done_ (done_of HT_.out (by kernel_rfl)) ?_
  try go_wp2
  refine bodyPost_ret (results_cell_row rfl _ _ g3 86 #[.int .i64 t5, .int .i64 t6] (0, 0) _ rfl (by refine pf ?_; refine bp (ia2 t5 0) ?_ 1; refine pf ?_; refine bp (ia2 0 0) ?_ 0; exact Z K3) Try.underlying86 rfl (by kernel_rfl)) rfl ?_
  exact ⟨ez, YA HB⟩
 replace c3 := Bool.eq_false_iff.mpr c3
 subst c3
 rw [if_neg ff] at H
 have C5 := am H
 clear H
 go_upto_if 71 with (fail)
 go_cut [71] (fun v5 wc => ∃ (kq : Nat) (x5 : Bool), v5 = .bool x5 ∧ Aside0 (impl_RestDo.j4 kq x3 a0 x5 a1_0 a1_1 a2_0 a2_1 = some (r1, r2)) ∧ Aside0 (kq ≤ k4) ∧ Bx2 wc g1 a1_0 a1_1 86 ∧ Bx2 wc g2 a2_0 a2_1 86 ∧ Bx2 wc g3 0 0 86 ∧ Aside0 (Below w.heap.size w wc))
 case first =>
  have H := C5.out
  clear C5
  by_cases c4 : a0 = 2
  rotate_left
  ·rw [if_neg c4] at H
   have d1 := eF c4
   have d2 := nT c4
   (first | rw [d1] | (simp only [i64_w, i32_w]; rw [d1]) | skip)
   have H' := am H
   clear H
   go_wp2
   go_meet
   case rel => exact ⟨_, ((a0 == 12)), ey, H', ⟨by have := J1.out; have := J2.out; have := J3.out; have := J4.out; first | omega | exact Nat.le_refl _⟩, ⟨Z K1⟩, ⟨Z K2⟩, ⟨Z K3⟩, ⟨YA HB⟩⟩
  rw [if_pos c4] at H
  have d1 := eT c4
  have d2 := nF c4
  clear c4
  (first | rw [d1] | (simp only [i64_w, i32_w]; rw [d1]) | skip)
  have H' := am H
  clear H
  go_wp2
  go_meet
  case rel => exact ⟨_, ((a0 == 2)), ey, H', ⟨by have := J1.out; have := J2.out; have := J3.out; have := J4.out; first | omega | exact Nat.le_refl _⟩, ⟨Z K1⟩, ⟨Z K2⟩, ⟨Z K3⟩, ⟨YA HB⟩⟩
 clear C5
 try clear c3
 obtain ⟨kq, x5, rfl, HA, J5, K1, K2, K3, HB⟩ := hcut
 cases kq with
 | zero => exact absurd HA.out (by simp [impl_RestDo.j4])
 | succ k5 => ?_
 have H := HA.out
 clear HA
 simp only [impl_RestDo.j4] at H
 by_cases c4 : x5 = true
 ·subst c4
  rw [if_pos rfl] at H
  obtain ⟨y1, y2⟩ : ∃ y_ : List Int, y_ = (([a1_0, a2_0, x3] : List Int)) := ⟨_, rfl⟩
  replace H : ((impl_restGcd.f k5 y1).bind fun t4 => ((impl_restOf.f k5 (wrap64 (a1_1 - a2_1)) t4).bind fun u1 => (some (u1.1, u1.2)))) = some (r1, r2) := by first | (rw [y2]; with_reducible exact H) | (have H2_ := (Option.bind_some _ _).symm.trans H; rw [y2]; with_reducible exact H2_) | (have H2_ := (Option.bind_some _ _).symm.trans H; with_reducible exact H2_) | with_reducible exact H | (rw [y2]; exact H) | exact H
  have Y25 := am y2
  clear y2
  obtain ⟨t4, A1, H⟩ := bd H
  try dsimp only at H
  obtain ⟨⟨t5, t6⟩, A2, H⟩ := bd H
  try dsimp only at H
  obtain ⟨rfl, rfl⟩ := sj2 H
  try go_wp2
  obtain ⟨K1, K2, K3, HB⟩ := dk3 K1 K2 K3 HB
  refine start_ (n := 14) (S := fun w' => ce2 w' g1 a1_0 a1_1 ∧ ce2 w' g2 a2_0 a2_1) (ds := []) (lb 14 0) (by kernel_rfl) rfl rfl ⟨cc2 K1, cc2 K2⟩ (fun hHeld => ?_); refine with_tabW impl_RestDo.tab20 impl_RestDo.bits20 (fun HT_ HW_ => ?_)
  generalize wc.drew = w5 at K1 K2 K3 HB hHeld ⊢
  refine pk 0 74 1 ?_
  refine pk 2 76 5 ?_
  refine pk 5 79 37 ?_
  refine pk 7 81 165 ?_
  refine pk 9 83 677 ?_
  refine tk 1 75 679 hHeld ?_
  refine tk 3 77 687 hHeld ?_
  refine pk 4 78 703 ?_
  refine tk 6 80 767 hHeld ?_
  refine tk 8 82 1023 hHeld ?_
  refine on 10 (some 84) 2047 fun K hK => ?_
  refine Kd.R_lit_step (Kd.int .i64) _ 3 ?hg (N := 84) ?hd (xs := ([a1_0, a2_0, x3] : List Int)) (inner := [.int .i64 a1_0, .int .i64 a2_0, .int .i64 x3]) (ok := fun _ => True) (okp := fun _ => True) ?hr ?hp (fun _ hk => hk) trivial (Below.refl _ _) (Nat.le_refl _) (by simp) ?_; (case hd => rfl); (case hg => rfl); (case hr => first | (go_simp; done) | (go_simp; rfl)); (case hp => exact (Reps.one (show Kd.M (Kd.int .i64) _ _ _ a1_0 [.int .i64 a1_0] from rfl) (Reps.one (show Kd.M (Kd.int .i64) _ _ _ a2_0 [.int .i64 a2_0] from rfl) (Reps.one (show Kd.M (Kd.int .i64) _ _ _ x3 [.int .i64 x3] from rfl) (Reps.none _ _)))))
  intro v6 w6 o1 hb hg_ hnew_
  clear hg_ hnew_
  (first | rw [← Y25.out] at o1 | (simp only [Int.reduceToNat] at o1; rw [← Y25.out] at o1))
  have O1 := am (Kd.R_lower o1 (below_size (YA HB)))
  obtain ⟨K1, K2, K3, HB⟩ := bk3 K1 K2 K3 HB hb
  clear hb o1
  obtain ⟨q1, f1, e1⟩ := Kd.R_slice O1.out
  (first | subst e1 | (injection e1 with f1_ f2_ f3_; have f4_ := f1_.symm; have f5_ := f3_.symm; clear f1_ f2_ f3_; subst f4_; subst f5_))
  refine kk hK ⟨cc2 K1, cc2 K2⟩ fun hHeld => ?_
  clear hK K
  refine on 11 (some 85) 4095 fun K hK => ?_
  refine goes_ Try.func113 (by kernel_rfl) rfl #[.slice q1 y1.length f1] (by rfl) rfl rfl mz ?_
  with_reducible refine (impl_restGcd.calls k5 _ _ y1 t4 _ ?side1 ?side2 A1.out).mono ?_
  (case side1 => exact qs14)
  (case side2 => exact (Kd.R_reads' O1.out).2.1)
  rintro e w' ⟨rfl, ⟨nd, rfl⟩⟩
  refine ⟨_, rfl, ?_⟩
  refine kk hK ⟨cc2 K1, cc2 K2⟩ fun hHeld => ?_
  clear hK K
  refine on 12 (some 86) 8191 fun K hK => ?_
  refine gq Try.func112 (impl_restOf.calls _ _ _ _ _ _ A2.out) fun w7 hb => ?_
  replace O1 := am (Kd.R_below (RZ O1) hb)
  obtain ⟨K1, K2, K3, HB⟩ := bk3 K1 K2 K3 HB hb
  clear hb
  refine kk hK ⟨cc2 K1, cc2 K2⟩ fun hHeld => ?_
  clear hK K
  refine on 13 none 16383 fun K hK => ?_
  have s1 : w7.cell? ⟨g3, 0, none⟩ = some (.int .i64 0) := bc K3 0
  have hfs83 := blk_frozen K3.out 0
  have := ns4 N3 N5 N4 N6
  have s2 : w7.cell? ⟨g3, 1, none⟩ = some (.int .i64 0) := bc K3 1
  have hfs84 := blk_frozen K3.out 1
  have := ns4 N3 N5 N4 N6
  refine skip_ (w1 := ?_) (by rfl) rfl ?_ ?_
  rotate_left
  ·go_simp
   rfl
  refine hK.out _ _ ⟨cf2 N3 (cf2 N3 hHeld.1), cf2 N5 (cf2 N5 hHeld.2)⟩ (fun hHeld => ?_)
  clear hK K
  refine done_ (done_of HT_.out (by kernel_rfl)) ?_
  try go_wp2
  refine bodyPost_ret (results_cell_row rfl _ _ g3 86 #[.int .i64 t5, .int .i64 t6] (0, 0) _ rfl (by refine pf ?_; refine bp (ia2 t5 0) ?_ 1; refine pf ?_; refine bp (ia2 0 0) ?_ 0; exact Z K3) Try.underlying86 rfl (by kernel_rfl)) rfl ?_
  exact ⟨ez, YA HB⟩
 replace c4 := Bool.eq_false_iff.mpr c4
 subst c4
 rw [if_neg ff] at H
 have C6 := am H
 clear H
 go_upto_if 87 with (fail)
 go_cut [87] (fun v6 wc => ∃ (kq : Nat) (x6 : Bool), v6 = .bool x6 ∧ Aside0 (impl_RestDo.j5 kq x3 a0 x6 a1_0 a1_1 a2_0 a2_1 = some (r1, r2)) ∧ Aside0 (kq ≤ k5) ∧ Bx2 wc g1 a1_0 a1_1 86 ∧ Bx2 wc g2 a2_0 a2_1 86 ∧ Bx2 wc g3 0 0 86 ∧ Aside0 (Below w.heap.size w wc))
 case first =>
  have H := C6.out
  clear C6
  by_cases c5 : a0 = 3
  rotate_left
  ·rw [if_neg c5] at H
   have d1 := eF c5
   have d2 := nT c5
   (first | rw [d1] | (simp only [i64_w, i32_w]; rw [d1]) | skip)
   have H' := am H
   clear H
   go_wp2
   go_meet
   case rel => exact ⟨_, ((a0 == 13)), ey, H', ⟨by have := J1.out; have := J2.out; have := J3.out; have := J4.out; have := J5.out; first | omega | exact Nat.le_refl _⟩, ⟨Z K1⟩, ⟨Z K2⟩, ⟨Z K3⟩, ⟨YA HB⟩⟩
  rw [if_pos c5] at H
  have d1 := eT c5
  have d2 := nF c5
  clear c5
  (first | rw [d1] | (simp only [i64_w, i32_w]; rw [d1]) | skip)
  have H' := am H
  clear H
  go_wp2
  go_meet
  case rel => exact ⟨_, ((a0 == 3)), ey, H', ⟨by have := J1.out; have := J2.out; have := J3.out; have := J4.out; have := J5.out; first | omega | exact Nat.le_refl _⟩, ⟨Z K1⟩, ⟨Z K2⟩, ⟨Z K3⟩, ⟨YA HB⟩⟩
 clear C6
 try clear c4
 obtain ⟨kq, x6, rfl, HA, J6, K1, K2, K3, HB⟩ := hcut
 cases kq with
 | zero => exact absurd HA.out (by simp [impl_RestDo.j5])
 | succ k6 => ?_
 have H := HA.out
 clear HA
 simp only [impl_RestDo.j5] at H
 by_cases c5 : x6 = true
 ·subst c5
  rw [if_pos rfl] at H
  obtain ⟨y1, y2⟩ : ∃ y_ : List Int, y_ = (([wrap64 (a1_0 * a2_0), wrap64 (a1_0 * a2_1), wrap64 (a2_0 * a1_1)] : List Int)) := ⟨_, rfl⟩
  replace H : ((impl_restGcd.f k6 y1).bind fun t4 => (if t4 = 0 then (some (0, 0)) else ((impl_restGcd.f k6 (([t4, x3] : List Int))).bind fun t5 => ((impl_restOf.f k6 (wrap64 (a1_1 * a2_1)) t5).bind fun u1 => (some (u1.1, u1.2)))))) = some (r1, r2) := by first | (rw [y2]; with_reducible exact H) | (have H2_ := (Option.bind_some _ _).symm.trans H; rw [y2]; with_reducible exact H2_) | (have H2_ := (Option.bind_some _ _).symm.trans H; with_reducible exact H2_) | with_reducible exact H | (rw [y2]; exact H) | exact H
  have Y25 := am y2
  clear y2
  obtain ⟨t4, A1, H⟩ := bd H
  try dsimp only at H
  by_cases c6 : t4 = 0
  ·rw [if_pos c6] at H
   have d1 := eT c6
   have d2 := nF c6
   clear c6
   obtain ⟨rfl, rfl⟩ := sj2 H
   have := ns3 N1 N3 N5
   have := cB2 K1
   have := cB2 K2
   go_wp2_with (first | ((with_reducible refine gate_dst (N := 105) rfl ?_); refine Kd.R_lit (Kd.int .i64) _ 3 ?hg (N := 105) ?hd (xs := ([wrap64 (a1_0 * a2_0), wrap64 (a1_0 * a2_1), wrap64 (a2_0 * a1_1)] : List Int)) (inner := [.int .i64 (wrap64 (a1_0 * a2_0)), .int .i64 (wrap64 (a1_0 * a2_1)), .int .i64 (wrap64 (a2_0 * a1_1))]) (ok := fun _ => True) (okp := fun _ => True) ?hr ?hp (fun _ hk => hk) trivial (Below.refl _ _) (Nat.le_refl _) (by simp) ?_; (case hd => rfl); (case hg => rfl); (case hr => first | (go_simp; done) | (go_simp; rfl)); (case hp => exact (Reps.one (show Kd.M (Kd.int .i64) _ _ _ (wrap64 (a1_0 * a2_0)) [.int .i64 (wrap64 (a1_0 * a2_0))] from rfl) (Reps.one (show Kd.M (Kd.int .i64) _ _ _ (wrap64 (a1_0 * a2_1)) [.int .i64 (wrap64 (a1_0 * a2_1))] from rfl) (Reps.one (show Kd.M (Kd.int .i64) _ _ _ (wrap64 (a2_0 * a1_1)) [.int .i64 (wrap64 (a2_0 * a1_1))] from rfl) (Reps.none _ _))))); intro v7 w5 o1 hb hg_ hnew_; clear hg_ hnew_; (first | rw [← Y25.out] at o1 | (simp only [Int.reduceToNat] at o1; rw [← Y25.out] at o1)); have O1 := am (Kd.R_lower o1 (below_size (YA HB))); obtain ⟨K1, K2, K3, HB⟩ := bk3 K1 K2 K3 HB hb; clear hb o1; obtain ⟨q1, f1, e1⟩ := Kd.R_slice O1.out; subst e1) | ((with_reducible refine gate_callee (f := 113) rfl ?_); refine goesL_ (some 106) rfl rfl Try.func113 (by kernel_rfl) rfl #[.slice q1 y1.length f1] rfl mz ?_; (with_reducible refine (impl_restGcd.calls k6 _ _ y1 t4 _ ?side1 ?side2 A1.out).mono ?_); (case side1 => exact qs14); (case side2 => exact (Kd.R_reads' O1.out).2.1); rintro e w' ⟨rfl, ⟨nd, rfl⟩⟩; refine ⟨_, rfl, ?_⟩; (try (rw [drewN_self w5]; generalize hq_ : World.drewN w5 _ = w5; replace O1 : Aside0 (Kd.R (Kd.int .i64) 3 w5 w.heap.size (fun _ => True) (.slice q1 y1.length f1) y1) := ⟨by rw [← hq_]; exact (RZ O1)⟩; replace K1 : Bx2 w5 g1 a1_0 a1_1 86 := ⟨by rw [← hq_]; exact (Z K1)⟩; replace K2 : Bx2 w5 g2 a2_0 a2_1 86 := ⟨by rw [← hq_]; exact (Z K2)⟩; replace K3 : Bx2 w5 g3 0 0 86 := ⟨by rw [← hq_]; exact (Z K3)⟩; replace HB : Aside0 (Below w.heap.size w w5) := ⟨by rw [← hq_]; exact (YA HB)⟩; clear hq_)); have := cB2 K3))
   refine bodyPost_ret (results_cell_row rfl _ _ g3 86 #[.int .i64 0, .int .i64 0] (0, 0) _ rfl (by refine pf ?_; refine bp (ia2 0 0) ?_ 1; refine pf ?_; refine bp (ia2 0 0) ?_ 0; exact Z K3) Try.underlying86 rfl (by kernel_rfl)) rfl ?_
   exact ⟨ez, YA HB⟩
  rw [if_neg c6] at H
  have d1 := eF c6
  have d2 := nT c6
  obtain ⟨y3, y4⟩ : ∃ y_ : List Int, y_ = (([t4, x3] : List Int)) := ⟨_, rfl⟩
  replace H : ((impl_restGcd.f k6 y3).bind fun t5 => ((impl_restOf.f k6 (wrap64 (a1_1 * a2_1)) t5).bind fun u1 => (some (u1.1, u1.2)))) = some (r1, r2) := by first | (rw [y4]; with_reducible exact H) | (have H2_ := (Option.bind_some _ _).symm.trans H; rw [y4]; with_reducible exact H2_) | (have H2_ := (Option.bind_some _ _).symm.trans H; with_reducible exact H2_) | with_reducible exact H | (rw [y4]; exact H) | exact H
  have Y26 := am y4
  clear y4
  obtain ⟨t5, A2, H⟩ := bd H
  try dsimp only at H
  obtain ⟨⟨t6, t7⟩, A3, H⟩ := bd H
  try dsimp only at H
  obtain ⟨rfl, rfl⟩ := sj2 H
  have := ns3 N1 N3 N5
  have := cB2 K1
  have := cB2 K2
  try go_wp2_with (first | ((with_reducible refine gate_dst (N := 105) rfl ?_); refine Kd.R_lit (Kd.int .i64) _ 3 ?hg (N := 105) ?hd (xs := ([wrap64 (a1_0 * a2_0), wrap64 (a1_0 * a2_1), wrap64 (a2_0 * a1_1)] : List Int)) (inner := [.int .i64 (wrap64 (a1_0 * a2_0)), .int .i64 (wrap64 (a1_0 * a2_1)), .int .i64 (wrap64 (a2_0 * a1_1))]) (ok := fun _ => True) (okp := fun _ => True) ?hr ?hp (fun _ hk => hk) trivial (Below.refl _ _) (Nat.le_refl _) (by simp) ?_; (case hd => rfl); (case hg => rfl); (case hr => first | (go_simp; done) | (go_simp; rfl)); (case hp => exact (Reps.one (show Kd.M (Kd.int .i64) _ _ _ (wrap64 (a1_0 * a2_0)) [.int .i64 (wrap64 (a1_0 * a2_0))] from rfl) (Reps.one (show Kd.M (Kd.int .i64) _ _ _ (wrap64 (a1_0 * a2_1)) [.int .i64 (wrap64 (a1_0 * a2_1))] from rfl) (Reps.one (show Kd.M (Kd.int .i64) _ _ _ (wrap64 (a2_0 * a1_1)) [.int .i64 (wrap64 (a2_0 * a1_1))] from rfl) (Reps.none _ _))))); intro v7 w5 o1 hb hg_ hnew_; clear hg_ hnew_; (first | rw [← Y25.out] at o1 | (simp only [Int.reduceToNat] at o1; rw [← Y25.out] at o1)); have O1 := am (Kd.R_lower o1 (below_size (YA HB))); obtain ⟨K1, K2, K3, HB⟩ := bk3 K1 K2 K3 HB hb; clear hb o1; obtain ⟨q1, f1, e1⟩ := Kd.R_slice O1.out; subst e1) | ((with_reducible refine gate_callee (f := 113) rfl ?_); refine goesL_ (some 106) rfl rfl Try.func113 (by kernel_rfl) rfl #[.slice q1 y1.length f1] rfl mz ?_; (with_reducible refine (impl_restGcd.calls k6 _ _ y1 t4 _ ?side1 ?side2 A1.out).mono ?_); (case side1 => exact qs14); (case side2 => exact (Kd.R_reads' O1.out).2.1); rintro e w' ⟨rfl, ⟨nd, rfl⟩⟩; refine ⟨_, rfl, ?_⟩; (try (rw [drewN_self w5]; generalize hq_ : World.drewN w5 _ = w5; replace O1 : Aside0 (Kd.R (Kd.int .i64) 3 w5 w.heap.size (fun _ => True) (.slice q1 y1.length f1) y1) := ⟨by rw [← hq_]; exact (RZ O1)⟩; replace K1 : Bx2 w5 g1 a1_0 a1_1 86 := ⟨by rw [← hq_]; exact (Z K1)⟩; replace K2 : Bx2 w5 g2 a2_0 a2_1 86 := ⟨by rw [← hq_]; exact (Z K2)⟩; replace K3 : Bx2 w5 g3 0 0 86 := ⟨by rw [← hq_]; exact (Z K3)⟩; replace HB : Aside0 (Below w.heap.size w w5) := ⟨by rw [← hq_]; exact (YA HB)⟩; clear hq_))))
  replace O1 := am (Kd.R_drew O1.out)
  obtain ⟨K1, K2, K3, HB⟩ := dk3 K1 K2 K3 HB
  refine start_ (n := 11) (S := fun w' => ce2 w' g1 a1_0 a1_1 ∧ ce2 w' g2 a2_0 a2_1) (ds := []) (lb 11 0) (by kernel_rfl) rfl rfl ⟨cc2 K1, cc2 K2⟩ (fun hHeld => ?_); refine with_tabW impl_RestDo.tab26 impl_RestDo.bits26 (fun HT_ HW_ => ?_)
  generalize w5.drew = w6 at O1 K1 K2 K3 HB hHeld ⊢
  refine pk 0 110 1 ?_
  refine pk 2 112 5 ?_
  refine pk 5 115 37 ?_
  refine pk 6 116 101 ?_
  refine tk 1 111 103 hHeld ?_
  refine tk 3 113 111 hHeld ?_
  refine pk 4 114 127 ?_
  refine on 7 (some 117) 255 fun K hK => ?_
  refine Kd.R_lit_step (Kd.int .i64) _ 3 ?hg (N := 117) ?hd (xs := ([t4, x3] : List Int)) (inner := [.int .i64 t4, .int .i64 x3]) (ok := fun _ => True) (okp := fun _ => True) ?hr ?hp (fun _ hk => hk) trivial (Below.refl _ _) (Nat.le_refl _) (by simp) ?_; (case hd => rfl); (case hg => rfl); (case hr => first | (go_simp; done) | (go_simp; rfl)); (case hp => exact (Reps.one (show Kd.M (Kd.int .i64) _ _ _ t4 [.int .i64 t4] from rfl) (Reps.one (show Kd.M (Kd.int .i64) _ _ _ x3 [.int .i64 x3] from rfl) (Reps.none _ _))))
  intro v8 w7 o2 hb hg_ hnew_
  clear hg_ hnew_
  (first | rw [← Y26.out] at o2 | (simp only [Int.reduceToNat] at o2; rw [← Y26.out] at o2))
  have O2 := am (Kd.R_lower (Kd.R_new' o2 (Kd.R_lt (RZ O1))) (below_size (YA HB)))
  replace O1 := am (Kd.R_elder' (RZ O1) (Kd.R_base o2) hb)
  obtain ⟨K1, K2, K3, HB⟩ := bk3 K1 K2 K3 HB hb
  clear hb o2
  obtain ⟨q2, f2, e2⟩ := Kd.R_slice O2.out
  (first | subst e2 | (injection e2 with f1_ f2_ f3_; have f4_ := f1_.symm; have f5_ := f3_.symm; clear f1_ f2_ f3_; subst f4_; subst f5_))
  refine kk hK ⟨cc2 K1, cc2 K2⟩ fun hHeld => ?_
  clear hK K
  refine on 8 (some 118) 511 fun K hK => ?_
  refine goes_ Try.func113 (by kernel_rfl) rfl #[.slice q2 y3.length f2] (by rfl) rfl rfl mz ?_
  with_reducible refine (impl_restGcd.calls k6 _ _ y3 t5 _ ?side1 ?side2 A2.out).mono ?_
  (case side1 => repeat (first | exact (Kd.R_reads' O2.out).2.2 | (with_reducible refine Kd.C_alloc ?_ _) | (with_reducible refine Kd.C_drewN ?_ _) | (with_reducible refine Kd.C_drew ?_)))
  (case side2 => exact (Kd.R_reads' O2.out).2.1)
  rintro e w' ⟨rfl, ⟨nd, rfl⟩⟩
  refine ⟨_, rfl, ?_⟩
  refine kk hK ⟨cc2 K1, cc2 K2⟩ fun hHeld => ?_
  clear hK K
  refine on 9 (some 119) 1023 fun K hK => ?_
  refine gq Try.func112 (impl_restOf.calls _ _ _ _ _ _ A3.out) fun w8 hb => ?_
  replace O1 := am (Kd.R_below (RZ O1) hb)
  replace O2 := am (Kd.R_below (RZ O2) hb)
  obtain ⟨K1, K2, K3, HB⟩ := bk3 K1 K2 K3 HB hb
  clear hb
  refine kk hK ⟨cc2 K1, cc2 K2⟩ fun hHeld => ?_
  clear hK K
  refine on 10 none 2047 fun K hK => ?_
  have s1 : w8.cell? ⟨g3, 0, none⟩ = some (.int .i64 0) := bc K3 0
  have hfs114 := blk_frozen K3.out 0
  have := ns4 N3 N5 N4 N6
  have s2 : w8.cell? ⟨g3, 1, none⟩ = some (.int .i64 0) := bc K3 1
  have hfs115 := blk_frozen K3.out 1
  have := ns4 N3 N5 N4 N6
  refine skip_ (w1 := ?_) (by rfl) rfl ?_ ?_
  rotate_left
  ·go_simp
   rfl
  refine hK.out _ _ ⟨cf2 N3 (cf2 N3 hHeld.1), cf2 N5 (cf2 N5 hHeld.2)⟩ (fun hHeld => ?_)
  clear hK K
  refine done_ (done_of HT_.out (by kernel_rfl)) ?_
  try go_wp2
  refine bodyPost_ret (results_cell_row rfl _ _ g3 86 #[.int .i64 t6, .int .i64 t7] (0, 0) _ rfl (by refine pf ?_; refine bp (ia2 t6 0) ?_ 1; refine pf ?_; refine bp (ia2 0 0) ?_ 0; exact Z K3) Try.underlying86 rfl (by kernel_rfl)) rfl ?_
  exact ⟨ez, YA HB⟩
 replace c5 := Bool.eq_false_iff.mpr c5
 subst c5
 rw [if_neg ff] at H
 by_cases c6 : a0 = 9
 ·rw [if_pos c6] at H
  have d1 := eT c6
  have d2 := nF c6
  clear c6
  have C7 := am H
  clear H
  go_upto_region 28 with (fail)
  go_cut [134] (fun v7 wc => ∃ (kq : Nat) (x7 : Bool), v7 = .bool x7 ∧ Aside0 (impl_RestDo.j6 kq x7 a1_0 a1_1 a2_0 a2_1 = some (r1, r2)) ∧ Aside0 (kq ≤ k6) ∧ Bx2 wc g1 a1_0 a1_1 86 ∧ Bx2 wc g2 a2_0 a2_1 86 ∧ Bx2 wc g3 0 0 86 ∧ Aside0 (Below w.heap.size w wc))
  case first =>
   have H := C7.out
   clear C7
   by_cases c7 : a2_0 = 0
   rotate_left
   ·rw [if_neg c7] at H
    have d3 := eF c7
    have d4 := nT c7
    (first | rw [d3] | (simp only [i64_w, i32_w]; rw [d3]) | skip)
    have H' := am H
    clear H
    have := ns2 N2 N5
    have := cB2 K2
    go_wp2
    go_meet
    case rel => exact ⟨_, (false), ey, H', ⟨by have := J1.out; have := J2.out; have := J3.out; have := J4.out; have := J5.out; have := J6.out; first | omega | exact Nat.le_refl _⟩, ⟨Z K1⟩, ⟨Z K2⟩, ⟨Z K3⟩, ⟨YA HB⟩⟩
   rw [if_pos c7] at H
   have d3 := eT c7
   have d4 := nF c7
   clear c7
   (first | rw [d3] | (simp only [i64_w, i32_w]; rw [d3]) | skip)
   by_cases c8 : a2_1 ≥ 0
   rotate_left
   ·rw [if_neg c8] at H
    have d5 := dF c8
    clear c8
    have H' := am H
    clear H
    have := ns2 N2 N5
    have := cB2 K2
    go_wp2
    go_meet
    case rel => exact ⟨_, (false), ey, H', ⟨by have := J1.out; have := J2.out; have := J3.out; have := J4.out; have := J5.out; have := J6.out; first | omega | exact Nat.le_refl _⟩, ⟨Z K1⟩, ⟨Z K2⟩, ⟨Z K3⟩, ⟨YA HB⟩⟩
   rw [if_pos c8] at H
   have d5 := dT c8
   clear c8
   have H' := am H
   clear H
   have := ns2 N2 N5
   have := cB2 K2
   go_wp2
   go_meet
   case rel => exact ⟨_, (decide (a2_1 ≤ 31)), ey, H', ⟨by have := J1.out; have := J2.out; have := J3.out; have := J4.out; have := J5.out; have := J6.out; first | omega | exact Nat.le_refl _⟩, ⟨Z K1⟩, ⟨Z K2⟩, ⟨Z K3⟩, ⟨YA HB⟩⟩
  clear C7
  (try clear c5);(try clear d1);(try clear d2)
  obtain ⟨kq, x7, rfl, HA, J7, K1, K2, K3, HB⟩ := hcut
  cases kq with
  | zero => exact absurd HA.out (by simp [impl_RestDo.j6])
  | succ k7 => ?_
  have H := HA.out
  clear HA
  simp only [impl_RestDo.j6] at H
  by_cases c7 : x7 = true
  rotate_left
  ·replace c7 := Bool.eq_false_iff.mpr c7
   subst c7
   rw [if_neg ff] at H
   obtain ⟨⟨t4, t5⟩, A1, H⟩ := bd H
   try dsimp only at H
   obtain ⟨rfl, rfl⟩ := sj2 H
   go_wp2_with (first | ((with_reducible refine gate_callee (f := 111) rfl ?_); refine gL 164 Try.func111 (impl_restAll.calls _ _ _ A1.out) fun w5 hb => ?_; obtain ⟨K1, K2, K3, HB⟩ := bk3 K1 K2 K3 HB hb; (try clear hb); have := ns2 N4 N6; have := cB2 K3))
   refine bodyPost_ret (results_cell_row rfl _ _ g3 86 #[.int .i64 t4, .int .i64 t5] (0, 0) _ rfl (by refine pf ?_; refine bp (ia2 t4 0) ?_ 1; refine pf ?_; refine bp (ia2 0 0) ?_ 0; exact Z K3) Try.underlying86 rfl (by kernel_rfl)) rfl ?_
   exact ⟨ez, YA HB⟩
  subst c7
  rw [if_pos rfl] at H
  obtain ⟨i1, j7⟩ : ∃ j_ : Int, (IntKind.u64.wrap (a2_1)) = j_ := ⟨_, rfl⟩
  replace H : (if 0 ≤ (i1) then ((impl_restOf.f k7 (wrap64 (a1_1 * (shl .i64 1 (i1)))) (wrap64 (a1_0 * (shl .i64 1 (i1))))).bind fun u1 => (some (u1.1, u1.2))) else (none)) = some (r1, r2) := by first | (rw [j7] at H; exact H) | (simp only [j7] at H ⊢; exact H)
  by_cases c8 : 0 ≤ (i1)
  rotate_left
  ·rw [if_neg c8] at H
   exact absurd H (by simp)
  rw [if_pos c8] at H
  have d3 := eq_true c8
  have d4 := dT c8
  clear c8
  obtain ⟨i2, j8⟩ : ∃ j_ : Int, (shl .i64 1 (i1)) = j_ := ⟨_, rfl⟩
  replace H : ((impl_restOf.f k7 (wrap64 (a1_1 * (i2))) (wrap64 (a1_0 * (i2)))).bind fun u1 => (some (u1.1, u1.2))) = some (r1, r2) := by first | (rw [j8] at H; exact H) | (simp only [j8] at H ⊢; exact H)
  have hji132_ : (IntKind.i64.wrap (1 * 2 ^ min (i1).toNat 64)) = i2 := j8
  have hji132z : (i1) ≤ 64 → (IntKind.i64.wrap (1 * 2 ^ (i1).toNat)) = i2 := shl_small j8
  have hji132u : (IntKind.i64.wrap (2 ^ min (i1).toNat 64)) = i2 := by have h_ := hji132_; rw [Int.one_mul] at h_; exact h_
  have hji132v : (i1) ≤ 64 → (IntKind.i64.wrap (2 ^ (i1).toNat)) = i2 := fun hle_ => by have h_ := hji132z hle_; rw [Int.one_mul] at h_; exact h_
  have hji132y : (wrap64 (1 * 2 ^ min (i1).toNat 64)) = i2 := (i64_w _).symm.trans hji132_
  have hji132x : (i1) ≤ 64 → (wrap64 (1 * 2 ^ (i1).toNat)) = i2 := fun h_ => (i64_w _).symm.trans (hji132z h_)
  obtain ⟨⟨t4, t5⟩, A1, H⟩ := bd H
  try dsimp only at H
  obtain ⟨rfl, rfl⟩ := sj2 H
  have := ns3 N2 N5 N3
  have := cB2 K2
  have := cB2 K1
  go_wp2_with (first | ((with_reducible refine gate_callee (f := 112) rfl ?_); refine goesL_ (some 147) rfl rfl Try.func112 (by kernel_rfl) rfl #[.int .i64 (wrap64 (a1_1 * (i2))), .int .i64 (wrap64 (a1_0 * (i2)))] rfl (by (try simp only [List.map_toArray, List.map_cons, List.map_nil]); first | done | (simp only [j8]; rfl) | rfl | (simp only [List.length_drop, List.length_take]; rfl)) ?_; (with_reducible refine (impl_restOf.calls _ _ _ _ _ _ A1.out).mono ?_); rintro e w5 ⟨rfl, hb⟩; refine ⟨_, rfl, ?_⟩; obtain ⟨K1, K2, K3, HB⟩ := bk3 K1 K2 K3 HB hb; (try clear hb); have := cB2 K3))
  refine bodyPost_ret (results_cell_row rfl _ _ g3 86 #[.int .i64 t4, .int .i64 t5] (0, 0) _ rfl (by refine pf ?_; refine bp (ia2 t4 0) ?_ 1; refine pf ?_; refine bp (ia2 0 0) ?_ 0; exact Z K3) Try.underlying86 rfl (by kernel_rfl)) rfl ?_
  exact ⟨by first | rfl | (simp [errW_none, errW_some] <;> rfl) | (simp only [← j7, ← j8]; first | rfl | (simp [errW_none, errW_some] <;> rfl)) | (simp [*, errW_none, errW_some] <;> rfl), YA HB⟩
 rw [if_neg c6] at H
 have d1 := eF c6
 have d2 := nT c6
 by_cases c7 : a0 = 5
 rotate_left
 ·rw [if_neg c7] at H
  have d3 := eF c7
  have d4 := nT c7
  obtain ⟨⟨t4, t5⟩, A1, H⟩ := bd H
  try dsimp only at H
  obtain ⟨rfl, rfl⟩ := sj2 H
  go_wp2_with (first | ((with_reducible refine gate_callee (f := 111) rfl ?_); refine gL 164 Try.func111 (impl_restAll.calls _ _ _ A1.out) fun w5 hb => ?_; obtain ⟨K1, K2, K3, HB⟩ := bk3 K1 K2 K3 HB hb; (try clear hb); have := ns2 N4 N6; have := cB2 K3))
  refine bodyPost_ret (results_cell_row rfl _ _ g3 86 #[.int .i64 t4, .int .i64 t5] (0, 0) _ rfl (by refine pf ?_; refine bp (ia2 t4 0) ?_ 1; refine pf ?_; refine bp (ia2 0 0) ?_ 0; exact Z K3) Try.underlying86 rfl (by kernel_rfl)) rfl ?_
  exact ⟨ez, YA HB⟩
 rw [if_pos c7] at H
 have d3 := eT c7
 have d4 := nF c7
 clear c7
 obtain ⟨y1, y2⟩ : ∃ y_ : List Int, y_ = (([a1_0, a2_0, a2_1] : List Int)) := ⟨_, rfl⟩
 replace H : ((impl_restGcd.f k6 y1).bind fun t4 => (if t4 = 0 then ((impl_restAll.f).bind fun u1 => (some (u1.1, u1.2))) else ((impl_restOf.f k6 a1_1 t4).bind fun u2 => (some (u2.1, u2.2))))) = some (r1, r2) := by first | (rw [y2]; with_reducible exact H) | (have H2_ := (Option.bind_some _ _).symm.trans H; rw [y2]; with_reducible exact H2_) | (have H2_ := (Option.bind_some _ _).symm.trans H; with_reducible exact H2_) | with_reducible exact H | (rw [y2]; exact H) | exact H
 have Y25 := am y2
 clear y2
 obtain ⟨t4, A1, H⟩ := bd H
 try dsimp only at H
 by_cases c8 : t4 = 0
 ·rw [if_pos c8] at H
  have d5 := eT c8
  have d6 := nF c8
  clear c8
  obtain ⟨⟨t5, t6⟩, A2, H⟩ := bd H
  try dsimp only at H
  obtain ⟨rfl, rfl⟩ := sj2 H
  have := ns3 N1 N3 N5
  have := cB2 K1
  have := cB2 K2
  go_wp2_with (first | ((with_reducible refine gate_dst (N := 156) rfl ?_); refine Kd.R_lit (Kd.int .i64) _ 3 ?hg (N := 156) ?hd (xs := ([a1_0, a2_0, a2_1] : List Int)) (inner := [.int .i64 a1_0, .int .i64 a2_0, .int .i64 a2_1]) (ok := fun _ => True) (okp := fun _ => True) ?hr ?hp (fun _ hk => hk) trivial (Below.refl _ _) (Nat.le_refl _) (by simp) ?_; (case hd => rfl); (case hg => rfl); (case hr => first | (go_simp; done) | (go_simp; rfl)); (case hp => exact (Reps.one (show Kd.M (Kd.int .i64) _ _ _ a1_0 [.int .i64 a1_0] from rfl) (Reps.one (show Kd.M (Kd.int .i64) _ _ _ a2_0 [.int .i64 a2_0] from rfl) (Reps.one (show Kd.M (Kd.int .i64) _ _ _ a2_1 [.int .i64 a2_1] from rfl) (Reps.none _ _))))); intro v7 w5 o1 hb hg_ hnew_; clear hg_ hnew_; (first | rw [← Y25.out] at o1 | (simp only [Int.reduceToNat] at o1; rw [← Y25.out] at o1)); have O1 := am (Kd.R_lower o1 (below_size (YA HB))); obtain ⟨K1, K2, K3, HB⟩ := bk3 K1 K2 K3 HB hb; clear hb o1; obtain ⟨q1, f1, e1⟩ := Kd.R_slice O1.out; subst e1) | ((with_reducible refine gate_callee (f := 113) rfl ?_); refine goesL_ (some 157) rfl rfl Try.func113 (by kernel_rfl) rfl #[.slice q1 y1.length f1] rfl mz ?_; (with_reducible refine (impl_restGcd.calls k6 _ _ y1 t4 _ ?side1 ?side2 A1.out).mono ?_); (case side1 => exact qs14); (case side2 => exact (Kd.R_reads' O1.out).2.1); rintro e w' ⟨rfl, ⟨nd, rfl⟩⟩; refine ⟨_, rfl, ?_⟩; (try (rw [drewN_self w5]; generalize hq_ : World.drewN w5 _ = w5; replace O1 : Aside0 (Kd.R (Kd.int .i64) 3 w5 w.heap.size (fun _ => True) (.slice q1 y1.length f1) y1) := ⟨by rw [← hq_]; exact (RZ O1)⟩; replace K1 : Bx2 w5 g1 a1_0 a1_1 86 := ⟨by rw [← hq_]; exact (Z K1)⟩; replace K2 : Bx2 w5 g2 a2_0 a2_1 86 := ⟨by rw [← hq_]; exact (Z K2)⟩; replace K3 : Bx2 w5 g3 0 0 86 := ⟨by rw [← hq_]; exact (Z K3)⟩; replace HB : Aside0 (Below w.heap.size w w5) := ⟨by rw [← hq_]; exact (YA HB)⟩; clear hq_))) | ((with_reducible refine gate_callee (f := 111) rfl ?_); refine gL 164 Try.func111 (impl_restAll.calls _ _ _ A2.out) fun w6 hb => ?_; replace O1 := am (Kd.R_below (RZ O1) hb); obtain ⟨K1, K2, K3, HB⟩ := bk3 K1 K2 K3 HB hb; (try clear hb); have := cB2 K3))
  refine bodyPost_ret (results_cell_row rfl _ _ g3 86 #[.int .i64 t5, .int .i64 t6] (0, 0) _ rfl (by refine pf ?_; refine bp (ia2 t5 0) ?_ 1; refine pf ?_; refine bp (ia2 0 0) ?_ 0; exact Z K3) Try.underlying86 rfl (by kernel_rfl)) rfl ?_
  exact ⟨ez, YA HB⟩
 rw [if_neg c8] at H
 have d5 := eF c8
 have d6 := nT c8
 obtain ⟨⟨t5, t6⟩, A2, H⟩ := bd H
 try dsimp only at H
 obtain ⟨rfl, rfl⟩ := sj2 H
 have := ns3 N1 N3 N5
 have := cB2 K1
 have := cB2 K2
 go_wp2_with (first | ((with_reducible refine gate_dst (N := 156) rfl ?_); refine Kd.R_lit (Kd.int .i64) _ 3 ?hg (N := 156) ?hd (xs := ([a1_0, a2_0, a2_1] : List Int)) (inner := [.int .i64 a1_0, .int .i64 a2_0, .int .i64 a2_1]) (ok := fun _ => True) (okp := fun _ => True) ?hr ?hp (fun _ hk => hk) trivial (Below.refl _ _) (Nat.le_refl _) (by simp) ?_; (case hd => rfl); (case hg => rfl); (case hr => first | (go_simp; done) | (go_simp; rfl)); (case hp => exact (Reps.one (show Kd.M (Kd.int .i64) _ _ _ a1_0 [.int .i64 a1_0] from rfl) (Reps.one (show Kd.M (Kd.int .i64) _ _ _ a2_0 [.int .i64 a2_0] from rfl) (Reps.one (show Kd.M (Kd.int .i64) _ _ _ a2_1 [.int .i64 a2_1] from rfl) (Reps.none _ _))))); intro v7 w5 o1 hb hg_ hnew_; clear hg_ hnew_; (first | rw [← Y25.out] at o1 | (simp only [Int.reduceToNat] at o1; rw [← Y25.out] at o1)); have O1 := am (Kd.R_lower o1 (below_size (YA HB))); obtain ⟨K1, K2, K3, HB⟩ := bk3 K1 K2 K3 HB hb; clear hb o1; obtain ⟨q1, f1, e1⟩ := Kd.R_slice O1.out; subst e1) | ((with_reducible refine gate_callee (f := 113) rfl ?_); refine goesL_ (some 157) rfl rfl Try.func113 (by kernel_rfl) rfl #[.slice q1 y1.length f1] rfl mz ?_; (with_reducible refine (impl_restGcd.calls k6 _ _ y1 t4 _ ?side1 ?side2 A1.out).mono ?_); (case side1 => exact qs14); (case side2 => exact (Kd.R_reads' O1.out).2.1); rintro e w' ⟨rfl, ⟨nd, rfl⟩⟩; refine ⟨_, rfl, ?_⟩; (try (rw [drewN_self w5]; generalize hq_ : World.drewN w5 _ = w5; replace O1 : Aside0 (Kd.R (Kd.int .i64) 3 w5 w.heap.size (fun _ => True) (.slice q1 y1.length f1) y1) := ⟨by rw [← hq_]; exact (RZ O1)⟩; replace K1 : Bx2 w5 g1 a1_0 a1_1 86 := ⟨by rw [← hq_]; exact (Z K1)⟩; replace K2 : Bx2 w5 g2 a2_0 a2_1 86 := ⟨by rw [← hq_]; exact (Z K2)⟩; replace K3 : Bx2 w5 g3 0 0 86 := ⟨by rw [← hq_]; exact (Z K3)⟩; replace HB : Aside0 (Below w.heap.size w w5) := ⟨by rw [← hq_]; exact (YA HB)⟩; clear hq_)); have := cB2 K1) | ((with_reducible refine gate_callee (f := 112) rfl ?_); refine gL 163 Try.func112 (impl_restOf.calls _ _ _ _ _ _ A2.out) fun w6 hb => ?_; replace O1 := am (Kd.R_below (RZ O1) hb); obtain ⟨K1, K2, K3, HB⟩ := bk3 K1 K2 K3 HB hb; (try clear hb); have := cB2 K3))
 refine bodyPost_ret (results_cell_row rfl _ _ g3 86 #[.int .i64 t5, .int .i64 t6] (0, 0) _ rfl (by refine pf ?_; refine bp (ia2 t5 0) ?_ 1; refine pf ?_; refine bp (ia2 0 0) ?_ 0; exact Z K3) Try.underlying86 rfl (by kernel_rfl)) rfl ?_
 exact ⟨ez, YA HB⟩
end
end Go.Proofs.Ythbkakcchgnhpaa.PFnValTurn
