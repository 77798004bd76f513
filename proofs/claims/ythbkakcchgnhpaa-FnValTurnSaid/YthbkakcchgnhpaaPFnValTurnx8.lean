/- Written by this session's own driver (wip/dprint.py): the functions that the law FnValTurn reaches, as Lean functions, each with its contract. -/
import Derived.Test.YthbkakcchgnhpaaPFnValTurnx0
import Derived.Test.YthbkakcchgnhpaaPFnValTurnx3
import Derived.Test.YthbkakcchgnhpaaPFnValTurnx7
import Derived.Test.YthbkakcchgnhpaaSv
namespace Go.Proofs.Ythbkakcchgnhpaa.PFnValTurn
open Go.RowKit Go.Proofs.YthbkakcchgnhpaaV.PrintWords Go.Proofs.YthbkakcchgnhpaaV.PrintLast Go.Proofs.YthbkakcchgnhpaaV.PrintMore Go.Proofs.YthbkakcchgnhpaaSv
set_option linter.unusedVariables false
set_option linter.unusedSimpArgs false
section
attribute [local go_sem] max2_int min2_int max_two min_two max_three min_three max_four min_four
attribute [local go_sem] Go.Proofs.YthbkakcchgnhpaaSet.isSome_setCell
mutual
def impl_ValCmp.j0 : Nat → Int → Bool → Int → Int → Int → Int → Int → Int → Int → Int → Option (Int × Int × Int × Int × Int × Int × Int × Int)
 | 0, _, _, _, _, _, _, _, _, _, _ => none
 | k + 1, x1, x2, x3, x4, x5, x6, x7, x8, x9, x10 => if x2 = true then ((impl_valNone.f).bind fun u1 => ((impl_valNone.f).bind fun u2 => (some (u1.1, u1.2.1, u1.2.2.1, u1.2.2.2, u2.1, u2.2.1, u2.2.2.1, u2.2.2.2)))) else ((impl_Val_span.f x3 x4 x5 x6).bind fun u3 => ((impl_Val_span.f x7 x8 x9 x10).bind fun u4 => ((impl_RangeCmp.f k x1 u3.1 u3.2 u4.1 u4.2).bind fun u5 => ((impl_Val_rest.f x3 x4 x5 x6).bind fun u6 => ((impl_ValMake.f k u5.1 u5.2.1 u6.1 u6.2).bind fun u7 => ((impl_Val_rest.f x7 x8 x9 x10).bind fun u8 => ((impl_ValMake.f k u5.2.2.1 u5.2.2.2 u8.1 u8.2).bind fun u9 => (if x1 = 1 then ((impl_ValMeet.f k u7.1 u7.2.1 u7.2.2.1 u7.2.2.2 u9.1 u9.2.1 u9.2.2.1 u9.2.2.2).bind fun u10 => (impl_ValCmp.j1 k u10.1 u10.2.1 u10.2.2.1 u10.2.2.2 u10.1 u10.2.1 u10.2.2.1 u10.2.2.2)) else (impl_ValCmp.j1 k u7.1 u7.2.1 u7.2.2.1 u7.2.2.2 u9.1 u9.2.1 u9.2.2.1 u9.2.2.2)))))))))
def impl_ValCmp.j1 : Nat → Int → Int → Int → Int → Int → Int → Int → Int → Option (Int × Int × Int × Int × Int × Int × Int × Int)
 | 0, _, _, _, _, _, _, _, _ => none
 | k + 1, x1, x2, x3, x4, x5, x6, x7, x8 => (impl_Val_none.f x1 x2 x3 x4).bind fun t1 => (if t1 = true then (impl_ValCmp.j2 k true x1 x2 x3 x4 x5 x6 x7 x8) else ((impl_Val_none.f x5 x6 x7 x8).bind fun t2 => (impl_ValCmp.j2 k t2 x1 x2 x3 x4 x5 x6 x7 x8)))
def impl_ValCmp.j2 : Nat → Bool → Int → Int → Int → Int → Int → Int → Int → Int → Option (Int × Int × Int × Int × Int × Int × Int × Int)
 | 0, _, _, _, _, _, _, _, _, _ => none
 | k + 1, x1, x2, x3, x4, x5, x6, x7, x8, x9 => if x1 = true then ((impl_valNone.f).bind fun u1 => ((impl_valNone.f).bind fun u2 => (some (u1.1, u1.2.1, u1.2.2.1, u1.2.2.2, u2.1, u2.2.1, u2.2.2.1, u2.2.2.2)))) else (some (x2, x3, x4, x5, x6, x7, x8, x9))
end
def impl_ValCmp.f (k : Nat) (a0 : Int) (a1_0 : Int) (a1_1 : Int) (a1_2 : Int) (a1_3 : Int) (a2_0 : Int) (a2_1 : Int) (a2_2 : Int) (a2_3 : Int) : Option (Int × Int × Int × Int × Int × Int × Int × Int) := (impl_ValOk.f k a1_0 a1_1 a1_2 a1_3).bind fun t1 => (if t1 = true then ((impl_ValOk.f k a2_0 a2_1 a2_2 a2_3).bind fun t2 => (if t2 = true then ((impl_Val_none.f a1_0 a1_1 a1_2 a1_3).bind fun t3 => (if t3 = true then (impl_ValCmp.j0 k a0 true a1_0 a1_1 a1_2 a1_3 a2_0 a2_1 a2_2 a2_3) else ((impl_Val_none.f a2_0 a2_1 a2_2 a2_3).bind fun t4 => (impl_ValCmp.j0 k a0 t4 a1_0 a1_1 a1_2 a1_3 a2_0 a2_1 a2_2 a2_3)))) else (impl_ValCmp.j0 k a0 true a1_0 a1_1 a1_2 a1_3 a2_0 a2_1 a2_2 a2_3))) else (impl_ValCmp.j0 k a0 true a1_0 a1_1 a1_2 a1_3 a2_0 a2_1 a2_2 a2_3))
theorem impl_ValCmp.mono_l : ∀ k, (∀ y0 y1 y2 y3 y4 y5 y6 y7 y8 y9, LeO (impl_ValCmp.j0 k y0 y1 y2 y3 y4 y5 y6 y7 y8 y9) (impl_ValCmp.j0 (k + 1) y0 y1 y2 y3 y4 y5 y6 y7 y8 y9)) ∧ (∀ y0 y1 y2 y3 y4 y5 y6 y7, LeO (impl_ValCmp.j1 k y0 y1 y2 y3 y4 y5 y6 y7) (impl_ValCmp.j1 (k + 1) y0 y1 y2 y3 y4 y5 y6 y7)) ∧ (∀ y0 y1 y2 y3 y4 y5 y6 y7 y8, LeO (impl_ValCmp.j2 k y0 y1 y2 y3 y4 y5 y6 y7 y8) (impl_ValCmp.j2 (k + 1) y0 y1 y2 y3 y4 y5 y6 y7 y8))
 | 0 => ⟨fun _ _ _ _ _ _ _ _ _ _ r h => by simp [impl_ValCmp.j0] at h, fun _ _ _ _ _ _ _ _ r h => by simp [impl_ValCmp.j1] at h, fun _ _ _ _ _ _ _ _ _ r h => by simp [impl_ValCmp.j2] at h⟩
 | k + 1 => by
  obtain ⟨ih0, ih1, ih2⟩ := impl_ValCmp.mono_l k
  refine ⟨?_, ?_, ?_⟩ <;> (intros; (first | unfold impl_ValCmp.j0 | unfold impl_ValCmp.j1 | unfold impl_ValCmp.j2); repeat' first | (with_reducible first | apply ih0 | apply ih1 | apply ih2 | apply impl_RangeCmp.mono | apply impl_ValMake.mono | apply impl_ValMeet.mono | apply impl_ValOk.mono | apply LeO.refl | apply LeO.none | refine LeO.ite ?_ ?_ | refine LeO.bind ?_ (fun _ => ?_)) | apply ih0 | apply ih1 | apply ih2 | apply impl_RangeCmp.mono | apply impl_ValMake.mono | apply impl_ValMeet.mono | apply impl_ValOk.mono | apply LeO.none | refine LeO.ite ?_ ?_ | refine LeO.bind ?_ (fun _ => ?_))
theorem impl_ValCmp.mono : ∀ a0 a1 a2 a3 a4 a5 a6 a7 a8 k, LeO (impl_ValCmp.f k a0 a1 a2 a3 a4 a5 a6 a7 a8) (impl_ValCmp.f (k + 1) a0 a1 a2 a3 a4 a5 a6 a7 a8) := by
 intro a0 a1 a2 a3 a4 a5 a6 a7 a8 k
 obtain ⟨ih0, ih1, ih2⟩ := impl_ValCmp.mono_l k
 unfold impl_ValCmp.f
 repeat' first | (with_reducible first | apply ih0 | apply ih1 | apply ih2 | apply impl_RangeCmp.mono | apply impl_ValMake.mono | apply impl_ValMeet.mono | apply impl_ValOk.mono | apply LeO.refl | apply LeO.none | refine LeO.ite ?_ ?_ | refine LeO.bind ?_ (fun _ => ?_)) | apply ih0 | apply ih1 | apply ih2 | apply impl_RangeCmp.mono | apply impl_ValMake.mono | apply impl_ValMeet.mono | apply impl_ValOk.mono | apply LeO.none | refine LeO.ite ?_ ?_ | refine LeO.bind ?_ (fun _ => ?_)
def impl_ValCmp.T3 : Bool × List (List Nat × List Nat) := (true, [([], []), ([], []), ([1], [1]), ([], []), ([3, 2], [3]), ([0, 2, 4, 4], [0, 2, 4]), ([5], [5]), ([6], [6]), ([6], [6]), ([], []), ([], []), ([9, 7, 5, 0, 1, 2, 3, 4, 5, 6, 7, 9, 10], [7, 9]), ([10, 8, 11, 0, 1, 2, 3, 4, 5, 6, 7, 8, 9, 10, 11], [8, 10])])
def impl_ValCmp.B3 : List Nat := [0, 0, 2, 0, 14, 31, 63, 127, 127, 0, 0, 1791, 4095]
theorem impl_ValCmp.tab3 : rtab .any (opsOf Try.f35 3) = impl_ValCmp.T3 := by kernel_rfl
theorem impl_ValCmp.bits3 : waitsOk impl_ValCmp.T3.2 impl_ValCmp.B3 = true := by kernel_rfl
def impl_ValCmp.T4 : Bool × List (List Nat × List Nat) := (true, [([], []), ([], []), ([1], [1]), ([0, 2, 2], [0, 2]), ([], []), ([], []), ([5, 3], [5]), ([4, 6, 6], [4, 6]), ([], []), ([], []), ([8, 3, 7, 0, 1, 2, 3, 8, 9], [3, 8]), ([9, 7, 10, 0, 1, 2, 3, 4, 5, 6, 7, 8, 9, 10], [7, 9])])
def impl_ValCmp.B4 : List Nat := [0, 0, 2, 7, 0, 0, 47, 127, 0, 0, 1023, 2047]
theorem impl_ValCmp.tab4 : rtab .any (opsOf Try.f35 4) = impl_ValCmp.T4 := by kernel_rfl
theorem impl_ValCmp.bits4 : waitsOk impl_ValCmp.T4.2 impl_ValCmp.B4 = true := by kernel_rfl
set_option maxHeartbeats 8000000 in
set_option maxRecDepth 100000 in
theorem impl_ValCmp.calls (k : Nat) (a0 : Int) (a1_0 : Int) (a1_1 : Int) (a1_2 : Int) (a1_3 : Int) (a2_0 : Int) (a2_1 : Int) (a2_2 : Int) (a2_3 : Int) (r1 : Int) (r2 : Int) (r3 : Int) (r4 : Int) (r5 : Int) (r6 : Int) (r7 : Int) (r8 : Int) (w : World) (h : impl_ValCmp.f k a0 a1_0 a1_1 a1_2 a1_3 a2_0 a2_1 a2_2 a2_3 = some (r1, r2, r3, r4, r5, r6, r7, r8)) :
  Calls Try.prog 35 #[.int .i64 a0, .agg #[.int .i64 a1_0, .int .i64 a1_1, .int .i64 a1_2, .int .i64 a1_3], .agg #[.int .i64 a2_0, .int .i64 a2_1, .int .i64 a2_2, .int .i64 a2_3]] w fun e w' => e = .returned (.tuple #[.agg #[.int .i64 r1, .int .i64 r2, .int .i64 r3, .int .i64 r4], .agg #[.int .i64 r5, .int .i64 r6, .int .i64 r7, .int .i64 r8]]) ∧ Below w.heap.size w w' := by
 have hu50 := Try.underlying50
 have hu24 := Try.underlying24
 have HB := am (Below.refl w.heap.size w)
 have H : ((impl_ValOk.f k a1_0 a1_1 a1_2 a1_3).bind fun t1 => (if t1 = true then ((impl_ValOk.f k a2_0 a2_1 a2_2 a2_3).bind fun t2 => (if t2 = true then ((impl_Val_none.f a1_0 a1_1 a1_2 a1_3).bind fun t3 => (if t3 = true then (impl_ValCmp.j0 k a0 true a1_0 a1_1 a1_2 a1_3 a2_0 a2_1 a2_2 a2_3) else ((impl_Val_none.f a2_0 a2_1 a2_2 a2_3).bind fun t4 => (impl_ValCmp.j0 k a0 t4 a1_0 a1_1 a1_2 a1_3 a2_0 a2_1 a2_2 a2_3)))) else (impl_ValCmp.j0 k a0 true a1_0 a1_1 a1_2 a1_3 a2_0 a2_1 a2_2 a2_3))) else (impl_ValCmp.j0 k a0 true a1_0 a1_1 a1_2 a1_3 a2_0 a2_1 a2_2 a2_3))) = some (r1, r2, r3, r4, r5, r6, r7, r8) := h
 clear h
 have C1 := am H
 clear H
 go_enter Try.func35, Try.ntmps35
 go_upto_region 1 with (first | ((with_reducible refine gate_dst (N := 4) rfl ?_); refine bxn 4 #[.int .i64 a1_0, .int .i64 a1_1, .int .i64 a1_2, .int .i64 a1_3] 50 HB fun g1 w2 K1 G1 hg hb => ?_; replace HB := am (below_step (YA HB) hb); clear hb hg) | ((with_reducible refine gate_dst (N := 5) rfl ?_); refine bxn 5 #[.int .i64 a2_0, .int .i64 a2_1, .int .i64 a2_2, .int .i64 a2_3] 50 HB fun g2 w3 K2 G2 hg hb => ?_; obtain ⟨N1,N2⟩ := ne_ hg K1; obtain ⟨K1, HB⟩ := bk1 K1 HB hb; clear hb hg) | ((with_reducible refine gate_dst (N := 6) rfl ?_); refine bxn 6 #[.int .i64 0, .int .i64 0, .int .i64 0, .int .i64 0] 50 HB fun g3 w4 K3 G3 hg hb => ?_; obtain ⟨N3,N4⟩ := ne_ hg K1; obtain ⟨N5,N6⟩ := ne_ hg K2; obtain ⟨K1, K2, HB⟩ := bk2 K1 K2 HB hb; clear hb hg) | ((with_reducible refine gate_dst (N := 7) rfl ?_); refine bxn 7 #[.int .i64 0, .int .i64 0, .int .i64 0, .int .i64 0] 50 HB fun g4 w5 K4 G4 hg hb => ?_; obtain ⟨N7,N8⟩ := ne_ hg K1; obtain ⟨N9,N10⟩ := ne_ hg K2; obtain ⟨N11,N12⟩ := ne_ hg K3; obtain ⟨K1, K2, K3, HB⟩ := bk3 K1 K2 K3 HB hb; clear hb hg))
 (try simp only [Act.put, List.setIfInBounds_toArray, List.set_cons_zero, List.set_cons_succ])
 go_cut [27] (fun v1 wc => ∃ (kq : Nat) (x1 : Bool), v1 = .bool x1 ∧ Aside0 (impl_ValCmp.j0 kq a0 x1 a1_0 a1_1 a1_2 a1_3 a2_0 a2_1 a2_2 a2_3 = some (r1, r2, r3, r4, r5, r6, r7, r8)) ∧ Aside0 (kq ≤ k) ∧ Bx4 wc g1 a1_0 a1_1 a1_2 a1_3 50 ∧ Bx4 wc g2 a2_0 a2_1 a2_2 a2_3 50 ∧ Bx4 wc g3 0 0 0 0 50 ∧ Bx4 wc g4 0 0 0 0 50 ∧ Aside0 (Below w.heap.size w wc))
 case first =>
  have H := C1.out
  clear C1
  obtain ⟨t1, A1, H⟩ := bd H
  try dsimp only at H
  by_cases c1 : t1 = true
  rotate_left
  ·replace c1 := Bool.eq_false_iff.mpr c1
   subst c1
   rw [if_neg ff] at H
   have H' := am H
   clear H
   have := ns3 N1 N3 N7
   have := cB4 K1
   go_wp2_with (first | ((with_reducible refine gate_callee (f := 76) rfl ?_); refine gL 13 Try.func76 (impl_ValOk.calls _ _ _ _ _ _ _ A1.out) fun w6 hb => ?_; obtain ⟨K1, K2, K3, K4, HB⟩ := bk4 K1 K2 K3 K4 HB hb; (try clear hb)))
   go_meet
   case rel => exact ⟨_, (true), ey, H', le0, ⟨Z K1⟩, ⟨Z K2⟩, ⟨Z K3⟩, ⟨Z K4⟩, ⟨YA HB⟩⟩
  subst c1
  rw [if_pos rfl] at H
  obtain ⟨t2, A2, H⟩ := bd H
  try dsimp only at H
  by_cases c2 : t2 = true
  rotate_left
  ·replace c2 := Bool.eq_false_iff.mpr c2
   subst c2
   rw [if_neg ff] at H
   have H' := am H
   clear H
   have := ns3 N1 N3 N7
   have := cB4 K1
   go_wp2_with (first | ((with_reducible refine gate_callee (f := 76) rfl ?_); refine gL 13 Try.func76 (impl_ValOk.calls _ _ _ _ _ _ _ A1.out) fun w6 hb => ?_; obtain ⟨K1, K2, K3, K4, HB⟩ := bk4 K1 K2 K3 K4 HB hb; (try clear hb); have := ns2 N5 N9; have := cB4 K2) | (go_at_call 76; (with_reducible refine (impl_ValOk.calls _ _ _ _ _ _ _ A2.out).mono ?_); rintro e w7 ⟨rfl, hb⟩; obtain ⟨K1, K2, K3, K4, HB⟩ := bk4 K1 K2 K3 K4 HB hb; (try clear hb)))
   go_meet
   case rel => exact ⟨_, (true), ey, H', le0, ⟨Z K1⟩, ⟨Z K2⟩, ⟨Z K3⟩, ⟨Z K4⟩, ⟨YA HB⟩⟩
  subst c2
  rw [if_pos rfl] at H
  obtain ⟨t3, A3, H⟩ := bd H
  try dsimp only at H
  by_cases c3 : t3 = true
  ·subst c3
   rw [if_pos rfl] at H
   have H' := am H
   clear H
   have := ns3 N1 N3 N7
   have := cB4 K1
   go_wp2_with (first | ((with_reducible refine gate_callee (f := 76) rfl ?_); refine gL 13 Try.func76 (impl_ValOk.calls _ _ _ _ _ _ _ A1.out) fun w6 hb => ?_; obtain ⟨K1, K2, K3, K4, HB⟩ := bk4 K1 K2 K3 K4 HB hb; (try clear hb); have := ns2 N5 N9; have := cB4 K2) | (go_at_call 76; (with_reducible refine (impl_ValOk.calls _ _ _ _ _ _ _ A2.out).mono ?_); rintro e w7 ⟨rfl, hb⟩; obtain ⟨K1, K2, K3, K4, HB⟩ := bk4 K1 K2 K3 K4 HB hb; (try clear hb); have := cB4 K1) | (go_at_call 77; (with_reducible refine (impl_Val_none.calls _ _ _ _ _ _ A3.out).mono ?_); rintro e w8 ⟨rfl, hb⟩; obtain ⟨K1, K2, K3, K4, HB⟩ := bk4 K1 K2 K3 K4 HB hb; (try clear hb)))
   go_meet
   case rel => exact ⟨_, (true), ey, H', le0, ⟨Z K1⟩, ⟨Z K2⟩, ⟨Z K3⟩, ⟨Z K4⟩, ⟨YA HB⟩⟩
  replace c3 := Bool.eq_false_iff.mpr c3
  subst c3
  rw [if_neg ff] at H
  obtain ⟨t4, A4, H⟩ := bd H
  try dsimp only at H
  have H' := am H
  clear H
  have := ns3 N1 N3 N7
  have := cB4 K1
  go_wp2_with (first | ((with_reducible refine gate_callee (f := 76) rfl ?_); refine gL 13 Try.func76 (impl_ValOk.calls _ _ _ _ _ _ _ A1.out) fun w6 hb => ?_; obtain ⟨K1, K2, K3, K4, HB⟩ := bk4 K1 K2 K3 K4 HB hb; (try clear hb); have := ns2 N5 N9; have := cB4 K2) | (go_at_call 76; (with_reducible refine (impl_ValOk.calls _ _ _ _ _ _ _ A2.out).mono ?_); rintro e w7 ⟨rfl, hb⟩; obtain ⟨K1, K2, K3, K4, HB⟩ := bk4 K1 K2 K3 K4 HB hb; (try clear hb); have := cB4 K1) | (go_at_call 77; (with_reducible refine (impl_Val_none.calls _ _ _ _ _ _ A3.out).mono ?_); rintro e w8 ⟨rfl, hb⟩; obtain ⟨K1, K2, K3, K4, HB⟩ := bk4 K1 K2 K3 K4 HB hb; (try clear hb); have := cB4 K2) | (go_at_call 77; (with_reducible refine (impl_Val_none.calls _ _ _ _ _ _ A4.out).mono ?_); rintro e w9 ⟨rfl, hb⟩; obtain ⟨K1, K2, K3, K4, HB⟩ := bk4 K1 K2 K3 K4 HB hb; (try clear hb)))
  go_meet
  case rel => exact ⟨_, (t4), ey, H', le0, ⟨Z K1⟩, ⟨Z K2⟩, ⟨Z K3⟩, ⟨Z K4⟩, ⟨YA HB⟩⟩
 clear C1
 obtain ⟨kq, x1, rfl, HA, J1, K1, K2, K3, K4, HB⟩ := hcut
 cases kq with
 | zero => exact absurd HA.out (by simp [impl_ValCmp.j0])
 | succ k1 => ?_
 have H := HA.out
 clear HA
 simp only [impl_ValCmp.j0] at H
 by_cases c1 : x1 = true
 ·subst c1
  rw [if_pos rfl] at H
  obtain ⟨⟨t5, t6, t7, t8⟩, A1, H⟩ := bd H
  try dsimp only at H
  obtain ⟨⟨t9, t10, t11, t12⟩, A2, H⟩ := bd H
  try dsimp only at H
  obtain ⟨rfl, rfl, rfl, rfl, rfl, rfl, rfl, rfl⟩ := sj8 H
  go_wp2_with (first | ((with_reducible refine gate_callee (f := 78) rfl ?_); refine gL 28 Try.func78 (impl_valNone.calls _ _ _ _ _ A1.out) fun w6 hb => ?_; obtain ⟨K1, K2, K3, K4, HB⟩ := bk4 K1 K2 K3 K4 HB hb; (try clear hb)) | ((with_reducible refine gate_callee (f := 78) rfl ?_); refine gL 29 Try.func78 (impl_valNone.calls _ _ _ _ _ A2.out) fun w7 hb => ?_; obtain ⟨K1, K2, K3, K4, HB⟩ := bk4 K1 K2 K3 K4 HB hb; (try clear hb); have := ns5 N4 N6 N11 N8 N10; have := cB4 K3; have := cB4 K4))
  refine bodyPost_ret (results_cc rfl _ _ g3 g4 50 50 #[.int .i64 t5, .int .i64 t6, .int .i64 t7, .int .i64 t8] #[.int .i64 t9, .int .i64 t10, .int .i64 t11, .int .i64 t12] (0, 0) (0, 0) _ _ rfl (by refine fa N11 ?_; refine fa N11 ?_; refine fa N11 ?_; refine fa N11 ?_; refine pf ?_; refine bp (ia4 t5 t6 t7 0) ?_ 3; refine pf ?_; refine bp (ia4 t5 t6 0 0) ?_ 2; refine pf ?_; refine bp (ia4 t5 0 0 0) ?_ 1; refine pf ?_; refine bp (ia4 0 0 0 0) ?_ 0; exact Z K3) Try.underlying50 rfl (by kernel_rfl) rfl (by refine pf ?_; refine bp (ia4 t9 t10 t11 0) ?_ 3; refine pf ?_; refine bp (ia4 t9 t10 0 0) ?_ 2; refine pf ?_; refine bp (ia4 t9 0 0 0) ?_ 1; refine pf ?_; refine bp (ia4 0 0 0 0) ?_ 0; refine fa N12 ?_; refine fa N12 ?_; refine fa N12 ?_; refine fa N12 ?_; exact Z K4) Try.underlying50 rfl (by kernel_rfl)) rfl ?_
  exact ⟨ez, YA HB⟩
 replace c1 := Bool.eq_false_iff.mpr c1
 subst c1
 rw [if_neg ff] at H
 obtain ⟨⟨t5, t6⟩, A1, H⟩ := bd H
 try dsimp only at H
 obtain ⟨⟨t7, t8⟩, A2, H⟩ := bd H
 try dsimp only at H
 obtain ⟨⟨t9, t10, t11, t12⟩, A3, H⟩ := bd H
 try dsimp only at H
 obtain ⟨⟨t13, t14⟩, A4, H⟩ := bd H
 try dsimp only at H
 obtain ⟨⟨t15, t16, t17, t18⟩, A5, H⟩ := bd H
 try dsimp only at H
 obtain ⟨⟨t19, t20⟩, A6, H⟩ := bd H
 try dsimp only at H
 obtain ⟨⟨t21, t22, t23, t24⟩, A7, H⟩ := bd H
 try dsimp only at H
 have C2 := am H
 clear H
 try go_wp2
 obtain ⟨K1, K2, K3, K4, HB⟩ := dk4 K1 K2 K3 K4 HB
 refine start_ (n := 13) (S := fun w' => ce4 w' g1 a1_0 a1_1 a1_2 a1_3 ∧ ce4 w' g2 a2_0 a2_1 a2_2 a2_3) (ds := []) (lb 13 0) (by kernel_rfl) rfl rfl ⟨cc4 K1, cc4 K2⟩ (fun hHeld => ?_); refine with_tabW impl_ValCmp.tab3 impl_ValCmp.bits3 (fun HT_ HW_ => ?_)
 generalize wc.drew = w6 at K1 K2 K3 K4 HB hHeld ⊢
 refine pk 0 31 1 ?_
 refine tk 1 32 3 hHeld ?_
 refine tk 3 34 11 hHeld ?_
 refine join_ (σ := Nat × Nat) 2 (lb 13 2047) (fun s_ => [(33, .agg #[.int .i64 t5, .int .i64 t6]), (35, .agg #[.int .i64 t7, .int .i64 t8]), (36, .tuple #[.agg #[.int .i64 t9, .int .i64 t10], .agg #[.int .i64 t11, .int .i64 t12]]), (8, .pointer (some ⟨s_.1, 0, none⟩)), (9, .pointer (some ⟨s_.2, 0, none⟩)), (30, .tuple #[.agg #[.int .i64 t9, .int .i64 t10], .agg #[.int .i64 t11, .int .i64 t12]]), (37, .agg #[.int .i64 t9, .int .i64 t10]), (38, .agg #[.int .i64 t11, .int .i64 t12])]) (fun s_ w' => (ce4 w' g1 a1_0 a1_1 a1_2 a1_3 ∧ ce4 w' g2 a2_0 a2_1 a2_2 a2_3) ∧ Bx4 w' g1 a1_0 a1_1 a1_2 a1_3 50 ∧ Bx4 w' g2 a2_0 a2_1 a2_2 a2_3 50 ∧ Bx4 w' g3 0 0 0 0 50 ∧ Bx4 w' g4 0 0 0 0 50 ∧ Bx2 w' s_.1 0 0 24 ∧ Bx2 w' s_.2 0 0 24 ∧ Aside0 (w.heap.size ≤ s_.1) ∧ Aside0 (w.heap.size ≤ s_.1) ∧ Aside0 (g1 ≠ s_.1) ∧ Aside0 (s_.1 ≠ g1) ∧ Aside0 (g2 ≠ s_.1) ∧ Aside0 (s_.1 ≠ g2) ∧ Aside0 (g3 ≠ s_.1) ∧ Aside0 (s_.1 ≠ g3) ∧ Aside0 (g4 ≠ s_.1) ∧ Aside0 (s_.1 ≠ g4) ∧ Aside0 (s_.2 ≠ s_.1) ∧ Aside0 (s_.1 ≠ s_.2) ∧ Aside0 (w.heap.size ≤ s_.2) ∧ Aside0 (w.heap.size ≤ s_.2) ∧ Aside0 (g1 ≠ s_.2) ∧ Aside0 (s_.2 ≠ g1) ∧ Aside0 (g2 ≠ s_.2) ∧ Aside0 (s_.2 ≠ g2) ∧ Aside0 (g3 ≠ s_.2) ∧ Aside0 (s_.2 ≠ g3) ∧ Aside0 (g4 ≠ s_.2) ∧ Aside0 (s_.2 ≠ g4) ∧ Aside0 (Below w.heap.size w w')) ?_ ?_
 rotate_left
 ·intro hJ2_4_5_9_10
  refine join_ (σ := Nat) 3 (lb 13 1023) (fun s_ => [(33, .agg #[.int .i64 t5, .int .i64 t6]), (35, .agg #[.int .i64 t7, .int .i64 t8]), (36, .tuple #[.agg #[.int .i64 t9, .int .i64 t10], .agg #[.int .i64 t11, .int .i64 t12]]), (8, .pointer (some ⟨s_, 0, none⟩)), (30, .tuple #[.agg #[.int .i64 t9, .int .i64 t10], .agg #[.int .i64 t11, .int .i64 t12]]), (37, .agg #[.int .i64 t9, .int .i64 t10]), (38, .agg #[.int .i64 t11, .int .i64 t12])]) (fun s_ w' => (ce4 w' g1 a1_0 a1_1 a1_2 a1_3 ∧ ce4 w' g2 a2_0 a2_1 a2_2 a2_3) ∧ Bx4 w' g1 a1_0 a1_1 a1_2 a1_3 50 ∧ Bx4 w' g2 a2_0 a2_1 a2_2 a2_3 50 ∧ Bx4 w' g3 0 0 0 0 50 ∧ Bx4 w' g4 0 0 0 0 50 ∧ Bx2 w' s_ 0 0 24 ∧ Aside0 (w.heap.size ≤ s_) ∧ Aside0 (w.heap.size ≤ s_) ∧ Aside0 (g1 ≠ s_) ∧ Aside0 (s_ ≠ g1) ∧ Aside0 (g2 ≠ s_) ∧ Aside0 (s_ ≠ g2) ∧ Aside0 (g3 ≠ s_) ∧ Aside0 (s_ ≠ g3) ∧ Aside0 (g4 ≠ s_) ∧ Aside0 (s_ ≠ g4) ∧ Aside0 (Below w.heap.size w w')) ?_ ?_
  rotate_left
  rotate_left
  ·skip
   rintro g5 w7 ⟨hHeld, K1, K2, K3, K4, K5, G5, G6, N13, N14, N15, N16, N17, N18, N19, N20, HB⟩
   refine norm_ nz ?_
   refine on 10 (some 9) 2047 fun K hK => ?_
   refine box_step ?hg (N := 9) ?hd (cs := #[.int .i64 0, .int .i64 0]) (t := 24) ?hr ?_; (case hd => rfl); (case hg => rfl); (case hr => first | (go_simp; done) | (go_simp; rfl))
   intro g6 hg w8 hbox hb
   have K6 := am (hbox)
   have G7 := am (bs hg (YA HB))
   have G8 := am (bs hg (YA HB))
   obtain ⟨N21,N22⟩ := ne_ hg K1
   obtain ⟨N23,N24⟩ := ne_ hg K2
   obtain ⟨N25,N26⟩ := ne_ hg K3
   obtain ⟨N27,N28⟩ := ne_ hg K4
   obtain ⟨N29,N30⟩ := ne_ hg K5
   obtain ⟨K1, K2, K3, K4, K5, HB⟩ := bk5 K1 K2 K3 K4 K5 HB hb
   clear hb hbox hg
   refine kk hK ⟨cc4 K1, cc4 K2⟩ fun hHeld => ?_
   clear hK K
   exact norm_ nz (hJ2_4_5_9_10 (g5, g6) _ ⟨hHeld, ⟨Z K1⟩, ⟨Z K2⟩, ⟨Z K3⟩, ⟨Z K4⟩, ⟨Z K5⟩, ⟨Z K6⟩, G5, G6, N13, N14, N15, N16, N17, N18, N19, N20, N30, N29, G7, G8, N21, N22, N23, N24, N25, N26, N27, N28, ⟨YA HB⟩⟩)
  intro hJ2_4_5_9
  refine join_ (σ := Nat) 3 (lb 13 1535) (fun s_ => [(33, .agg #[.int .i64 t5, .int .i64 t6]), (35, .agg #[.int .i64 t7, .int .i64 t8]), (36, .tuple #[.agg #[.int .i64 t9, .int .i64 t10], .agg #[.int .i64 t11, .int .i64 t12]]), (9, .pointer (some ⟨s_, 0, none⟩)), (30, .tuple #[.agg #[.int .i64 t9, .int .i64 t10], .agg #[.int .i64 t11, .int .i64 t12]]), (37, .agg #[.int .i64 t9, .int .i64 t10]), (38, .agg #[.int .i64 t11, .int .i64 t12])]) (fun s_ w' => (ce4 w' g1 a1_0 a1_1 a1_2 a1_3 ∧ ce4 w' g2 a2_0 a2_1 a2_2 a2_3) ∧ Bx4 w' g1 a1_0 a1_1 a1_2 a1_3 50 ∧ Bx4 w' g2 a2_0 a2_1 a2_2 a2_3 50 ∧ Bx4 w' g3 0 0 0 0 50 ∧ Bx4 w' g4 0 0 0 0 50 ∧ Bx2 w' s_ 0 0 24 ∧ Aside0 (w.heap.size ≤ s_) ∧ Aside0 (w.heap.size ≤ s_) ∧ Aside0 (g1 ≠ s_) ∧ Aside0 (s_ ≠ g1) ∧ Aside0 (g2 ≠ s_) ∧ Aside0 (s_ ≠ g2) ∧ Aside0 (g3 ≠ s_) ∧ Aside0 (s_ ≠ g3) ∧ Aside0 (g4 ≠ s_) ∧ Aside0 (s_ ≠ g4) ∧ Aside0 (Below w.heap.size w w')) ?_ ?_
  rotate_left
  rotate_left
  ·skip
   rintro g5 w7 ⟨hHeld, K1, K2, K3, K4, K5, G5, G6, N13, N14, N15, N16, N17, N18, N19, N20, HB⟩
   refine norm_ nz ?_
   refine on 9 (some 8) 2047 fun K hK => ?_
   refine box_step ?hg (N := 8) ?hd (cs := #[.int .i64 0, .int .i64 0]) (t := 24) ?hr ?_; (case hd => rfl); (case hg => rfl); (case hr => first | (go_simp; done) | (go_simp; rfl))
   intro g6 hg w8 hbox hb
   have K6 := am (hbox)
   have G7 := am (bs hg (YA HB))
   have G8 := am (bs hg (YA HB))
   obtain ⟨N21,N22⟩ := ne_ hg K1
   obtain ⟨N23,N24⟩ := ne_ hg K2
   obtain ⟨N25,N26⟩ := ne_ hg K3
   obtain ⟨N27,N28⟩ := ne_ hg K4
   obtain ⟨N29,N30⟩ := ne_ hg K5
   obtain ⟨K1, K2, K3, K4, K5, HB⟩ := bk5 K1 K2 K3 K4 K5 HB hb
   clear hb hbox hg
   refine kk hK ⟨cc4 K1, cc4 K2⟩ fun hHeld => ?_
   clear hK K
   exact norm_ nz (hJ2_4_5_9_10 (g6, g5) _ ⟨hHeld, ⟨Z K1⟩, ⟨Z K2⟩, ⟨Z K3⟩, ⟨Z K4⟩, ⟨Z K6⟩, ⟨Z K5⟩, G7, G8, N21, N22, N23, N24, N25, N26, N27, N28, N29, N30, G5, G6, N13, N14, N15, N16, N17, N18, N19, N20, ⟨YA HB⟩⟩)
  intro hJ2_4_5_10
  refine join_ (σ := Nat × Nat) 6 (lb 13 1567) (fun s_ => [(33, .agg #[.int .i64 t5, .int .i64 t6]), (35, .agg #[.int .i64 t7, .int .i64 t8]), (8, .pointer (some ⟨s_.1, 0, none⟩)), (9, .pointer (some ⟨s_.2, 0, none⟩))]) (fun s_ w' => (ce4 w' g1 a1_0 a1_1 a1_2 a1_3 ∧ ce4 w' g2 a2_0 a2_1 a2_2 a2_3) ∧ Bx4 w' g1 a1_0 a1_1 a1_2 a1_3 50 ∧ Bx4 w' g2 a2_0 a2_1 a2_2 a2_3 50 ∧ Bx4 w' g3 0 0 0 0 50 ∧ Bx4 w' g4 0 0 0 0 50 ∧ Bx2 w' s_.1 0 0 24 ∧ Bx2 w' s_.2 0 0 24 ∧ Aside0 (w.heap.size ≤ s_.1) ∧ Aside0 (w.heap.size ≤ s_.1) ∧ Aside0 (g1 ≠ s_.1) ∧ Aside0 (s_.1 ≠ g1) ∧ Aside0 (g2 ≠ s_.1) ∧ Aside0 (s_.1 ≠ g2) ∧ Aside0 (g3 ≠ s_.1) ∧ Aside0 (s_.1 ≠ g3) ∧ Aside0 (g4 ≠ s_.1) ∧ Aside0 (s_.1 ≠ g4) ∧ Aside0 (s_.2 ≠ s_.1) ∧ Aside0 (s_.1 ≠ s_.2) ∧ Aside0 (w.heap.size ≤ s_.2) ∧ Aside0 (w.heap.size ≤ s_.2) ∧ Aside0 (g1 ≠ s_.2) ∧ Aside0 (s_.2 ≠ g1) ∧ Aside0 (g2 ≠ s_.2) ∧ Aside0 (s_.2 ≠ g2) ∧ Aside0 (g3 ≠ s_.2) ∧ Aside0 (s_.2 ≠ g3) ∧ Aside0 (g4 ≠ s_.2) ∧ Aside0 (s_.2 ≠ g4) ∧ Aside0 (Below w.heap.size w w')) ?_ ?_
  rotate_left
  rotate_left
  ·skip
   rintro ⟨g5, g6⟩ w7 H_
   dsimp only at H_
   obtain ⟨hHeld, K1, K2, K3, K4, K5, K6, G5, G6, N13, N14, N15, N16, N17, N18, N19, N20, N21, N22, G7, G8, N23, N24, N25, N26, N27, N28, N29, N30, HB⟩ := H_
   refine norm_ nz ?_
   refine on 5 (some 36) 1599 fun K hK => ?_
   refine ck hK Try.func87 (impl_RangeCmp.calls _ _ _ _ _ _ _ _ _ _ _ A3.out) (fun _ b => bk6 K1 K2 K3 K4 K5 K6 HB b) fun w8 Q_ hHeld => ?_
   clear hK K
   obtain ⟨K1, K2, K3, K4, K5, K6, HB⟩ := Q_
   refine pk 6 30 1663 ?_
   refine pk 7 37 1791 ?_
   refine pk 8 38 2047 ?_
   exact norm_ nz (hJ2_4_5_9_10 (g5, g6) _ ⟨hHeld, ⟨Z K1⟩, ⟨Z K2⟩, ⟨Z K3⟩, ⟨Z K4⟩, ⟨Z K5⟩, ⟨Z K6⟩, G5, G6, N13, N14, N15, N16, N17, N18, N19, N20, N21, N22, G7, G8, N23, N24, N25, N26, N27, N28, N29, N30, ⟨YA HB⟩⟩)
  intro hJ2_4_9_10
  refine join_ (σ := Unit) 4 (lb 13 511) (fun s_ => [(33, .agg #[.int .i64 t5, .int .i64 t6]), (35, .agg #[.int .i64 t7, .int .i64 t8]), (36, .tuple #[.agg #[.int .i64 t9, .int .i64 t10], .agg #[.int .i64 t11, .int .i64 t12]]), (30, .tuple #[.agg #[.int .i64 t9, .int .i64 t10], .agg #[.int .i64 t11, .int .i64 t12]]), (37, .agg #[.int .i64 t9, .int .i64 t10]), (38, .agg #[.int .i64 t11, .int .i64 t12])]) (fun s_ w' => (ce4 w' g1 a1_0 a1_1 a1_2 a1_3 ∧ ce4 w' g2 a2_0 a2_1 a2_2 a2_3) ∧ Bx4 w' g1 a1_0 a1_1 a1_2 a1_3 50 ∧ Bx4 w' g2 a2_0 a2_1 a2_2 a2_3 50 ∧ Bx4 w' g3 0 0 0 0 50 ∧ Bx4 w' g4 0 0 0 0 50 ∧ Aside0 (Below w.heap.size w w')) ?_ ?_
  rotate_left
  rotate_left
  ·skip
   rintro _ w7 ⟨hHeld, K1, K2, K3, K4, HB⟩
   refine norm_ nz ?_
   refine two_ (i := 9) (j := 10) (Ni := some 8) (Nj := some 9) (lb 13 1023) (lb 13 1535) rfl rfl rfl rfl (two_of HT_.out (by kernel_rfl)) (by decide) (by decide) (fun K hK => ?_) (fun K hK => ?_)
   ·skip
    refine box_step ?hg (N := 8) ?hd (cs := #[.int .i64 0, .int .i64 0]) (t := 24) ?hr ?_; (case hd => rfl); (case hg => rfl); (case hr => first | (go_simp; done) | (go_simp; rfl))
    intro g5 hg w8 hbox hb
    have K5 := am (hbox)
    have G5 := am (bs hg (YA HB))
    have G6 := am (bs hg (YA HB))
    obtain ⟨N13,N14⟩ := ne_ hg K1
    obtain ⟨N15,N16⟩ := ne_ hg K2
    obtain ⟨N17,N18⟩ := ne_ hg K3
    obtain ⟨N19,N20⟩ := ne_ hg K4
    obtain ⟨K1, K2, K3, K4, HB⟩ := bk4 K1 K2 K3 K4 HB hb
    clear hb hbox hg
    refine kk hK ⟨cc4 K1, cc4 K2⟩ fun hHeld => ?_
    clear hK K
    exact norm_ nz (hJ2_4_5_9 (g5) _ ⟨hHeld, ⟨Z K1⟩, ⟨Z K2⟩, ⟨Z K3⟩, ⟨Z K4⟩, ⟨Z K5⟩, G5, G6, N13, N14, N15, N16, N17, N18, N19, N20, ⟨YA HB⟩⟩)
   skip
   refine box_step ?hg (N := 9) ?hd (cs := #[.int .i64 0, .int .i64 0]) (t := 24) ?hr ?_; (case hd => rfl); (case hg => rfl); (case hr => first | (go_simp; done) | (go_simp; rfl))
   intro g5 hg w8 hbox hb
   have K5 := am (hbox)
   have G5 := am (bs hg (YA HB))
   have G6 := am (bs hg (YA HB))
   obtain ⟨N13,N14⟩ := ne_ hg K1
   obtain ⟨N15,N16⟩ := ne_ hg K2
   obtain ⟨N17,N18⟩ := ne_ hg K3
   obtain ⟨N19,N20⟩ := ne_ hg K4
   obtain ⟨K1, K2, K3, K4, HB⟩ := bk4 K1 K2 K3 K4 HB hb
   clear hb hbox hg
   refine kk hK ⟨cc4 K1, cc4 K2⟩ fun hHeld => ?_
   clear hK K
   exact norm_ nz (hJ2_4_5_10 (g5) _ ⟨hHeld, ⟨Z K1⟩, ⟨Z K2⟩, ⟨Z K3⟩, ⟨Z K4⟩, ⟨Z K5⟩, G5, G6, N13, N14, N15, N16, N17, N18, N19, N20, ⟨YA HB⟩⟩)
  intro hJ2_4_5
  refine join_ (σ := Nat) 7 (lb 13 543) (fun s_ => [(33, .agg #[.int .i64 t5, .int .i64 t6]), (35, .agg #[.int .i64 t7, .int .i64 t8]), (8, .pointer (some ⟨s_, 0, none⟩))]) (fun s_ w' => (ce4 w' g1 a1_0 a1_1 a1_2 a1_3 ∧ ce4 w' g2 a2_0 a2_1 a2_2 a2_3) ∧ Bx4 w' g1 a1_0 a1_1 a1_2 a1_3 50 ∧ Bx4 w' g2 a2_0 a2_1 a2_2 a2_3 50 ∧ Bx4 w' g3 0 0 0 0 50 ∧ Bx4 w' g4 0 0 0 0 50 ∧ Bx2 w' s_ 0 0 24 ∧ Aside0 (w.heap.size ≤ s_) ∧ Aside0 (w.heap.size ≤ s_) ∧ Aside0 (g1 ≠ s_) ∧ Aside0 (s_ ≠ g1) ∧ Aside0 (g2 ≠ s_) ∧ Aside0 (s_ ≠ g2) ∧ Aside0 (g3 ≠ s_) ∧ Aside0 (s_ ≠ g3) ∧ Aside0 (g4 ≠ s_) ∧ Aside0 (s_ ≠ g4) ∧ Aside0 (Below w.heap.size w w')) ?_ ?_
  rotate_left
  rotate_left
  ·skip
   rintro g5 w7 ⟨hHeld, K1, K2, K3, K4, K5, G5, G6, N13, N14, N15, N16, N17, N18, N19, N20, HB⟩
   refine norm_ nz ?_
   refine two_ (i := 5) (j := 10) (Ni := some 36) (Nj := some 9) (lb 13 575) (lb 13 1567) rfl rfl rfl rfl (two_of HT_.out (by kernel_rfl)) (by decide) (by decide) (fun K hK => ?_) (fun K hK => ?_)
   ·skip
    refine ck hK Try.func87 (impl_RangeCmp.calls _ _ _ _ _ _ _ _ _ _ _ A3.out) (fun _ b => bk5 K1 K2 K3 K4 K5 HB b) fun w8 Q_ hHeld => ?_
    clear hK K
    obtain ⟨K1, K2, K3, K4, K5, HB⟩ := Q_
    refine pk 6 30 639 ?_
    refine pk 7 37 767 ?_
    refine pk 8 38 1023 ?_
    exact norm_ nz (hJ2_4_5_9 (g5) _ ⟨hHeld, ⟨Z K1⟩, ⟨Z K2⟩, ⟨Z K3⟩, ⟨Z K4⟩, ⟨Z K5⟩, G5, G6, N13, N14, N15, N16, N17, N18, N19, N20, ⟨YA HB⟩⟩)
   skip
   refine box_step ?hg (N := 9) ?hd (cs := #[.int .i64 0, .int .i64 0]) (t := 24) ?hr ?_; (case hd => rfl); (case hg => rfl); (case hr => first | (go_simp; done) | (go_simp; rfl))
   intro g6 hg w8 hbox hb
   have K6 := am (hbox)
   have G7 := am (bs hg (YA HB))
   have G8 := am (bs hg (YA HB))
   obtain ⟨N21,N22⟩ := ne_ hg K1
   obtain ⟨N23,N24⟩ := ne_ hg K2
   obtain ⟨N25,N26⟩ := ne_ hg K3
   obtain ⟨N27,N28⟩ := ne_ hg K4
   obtain ⟨N29,N30⟩ := ne_ hg K5
   obtain ⟨K1, K2, K3, K4, K5, HB⟩ := bk5 K1 K2 K3 K4 K5 HB hb
   clear hb hbox hg
   refine kk hK ⟨cc4 K1, cc4 K2⟩ fun hHeld => ?_
   clear hK K
   exact norm_ nz (hJ2_4_9_10 (g5, g6) _ ⟨hHeld, ⟨Z K1⟩, ⟨Z K2⟩, ⟨Z K3⟩, ⟨Z K4⟩, ⟨Z K5⟩, ⟨Z K6⟩, G5, G6, N13, N14, N15, N16, N17, N18, N19, N20, N30, N29, G7, G8, N21, N22, N23, N24, N25, N26, N27, N28, ⟨YA HB⟩⟩)
  intro hJ2_4_9
  refine join_ (σ := Nat) 7 (lb 13 1055) (fun s_ => [(33, .agg #[.int .i64 t5, .int .i64 t6]), (35, .agg #[.int .i64 t7, .int .i64 t8]), (9, .pointer (some ⟨s_, 0, none⟩))]) (fun s_ w' => (ce4 w' g1 a1_0 a1_1 a1_2 a1_3 ∧ ce4 w' g2 a2_0 a2_1 a2_2 a2_3) ∧ Bx4 w' g1 a1_0 a1_1 a1_2 a1_3 50 ∧ Bx4 w' g2 a2_0 a2_1 a2_2 a2_3 50 ∧ Bx4 w' g3 0 0 0 0 50 ∧ Bx4 w' g4 0 0 0 0 50 ∧ Bx2 w' s_ 0 0 24 ∧ Aside0 (w.heap.size ≤ s_) ∧ Aside0 (w.heap.size ≤ s_) ∧ Aside0 (g1 ≠ s_) ∧ Aside0 (s_ ≠ g1) ∧ Aside0 (g2 ≠ s_) ∧ Aside0 (s_ ≠ g2) ∧ Aside0 (g3 ≠ s_) ∧ Aside0 (s_ ≠ g3) ∧ Aside0 (g4 ≠ s_) ∧ Aside0 (s_ ≠ g4) ∧ Aside0 (Below w.heap.size w w')) ?_ ?_
  rotate_left
  rotate_left
  ·skip
   rintro g5 w7 ⟨hHeld, K1, K2, K3, K4, K5, G5, G6, N13, N14, N15, N16, N17, N18, N19, N20, HB⟩
   refine norm_ nz ?_
   refine two_ (i := 5) (j := 9) (Ni := some 36) (Nj := some 8) (lb 13 1087) (lb 13 1567) rfl rfl rfl rfl (two_of HT_.out (by kernel_rfl)) (by decide) (by decide) (fun K hK => ?_) (fun K hK => ?_)
   ·skip
    refine ck hK Try.func87 (impl_RangeCmp.calls _ _ _ _ _ _ _ _ _ _ _ A3.out) (fun _ b => bk5 K1 K2 K3 K4 K5 HB b) fun w8 Q_ hHeld => ?_
    clear hK K
    obtain ⟨K1, K2, K3, K4, K5, HB⟩ := Q_
    refine pk 6 30 1151 ?_
    refine pk 7 37 1279 ?_
    refine pk 8 38 1535 ?_
    exact norm_ nz (hJ2_4_5_10 (g5) _ ⟨hHeld, ⟨Z K1⟩, ⟨Z K2⟩, ⟨Z K3⟩, ⟨Z K4⟩, ⟨Z K5⟩, G5, G6, N13, N14, N15, N16, N17, N18, N19, N20, ⟨YA HB⟩⟩)
   skip
   refine box_step ?hg (N := 8) ?hd (cs := #[.int .i64 0, .int .i64 0]) (t := 24) ?hr ?_; (case hd => rfl); (case hg => rfl); (case hr => first | (go_simp; done) | (go_simp; rfl))
   intro g6 hg w8 hbox hb
   have K6 := am (hbox)
   have G7 := am (bs hg (YA HB))
   have G8 := am (bs hg (YA HB))
   obtain ⟨N21,N22⟩ := ne_ hg K1
   obtain ⟨N23,N24⟩ := ne_ hg K2
   obtain ⟨N25,N26⟩ := ne_ hg K3
   obtain ⟨N27,N28⟩ := ne_ hg K4
   obtain ⟨N29,N30⟩ := ne_ hg K5
   obtain ⟨K1, K2, K3, K4, K5, HB⟩ := bk5 K1 K2 K3 K4 K5 HB hb
   clear hb hbox hg
   refine kk hK ⟨cc4 K1, cc4 K2⟩ fun hHeld => ?_
   clear hK K
   exact norm_ nz (hJ2_4_9_10 (g6, g5) _ ⟨hHeld, ⟨Z K1⟩, ⟨Z K2⟩, ⟨Z K3⟩, ⟨Z K4⟩, ⟨Z K6⟩, ⟨Z K5⟩, G7, G8, N21, N22, N23, N24, N25, N26, N27, N28, N29, N30, G5, G6, N13, N14, N15, N16, N17, N18, N19, N20, ⟨YA HB⟩⟩)
  intro hJ2_4_10
  refine join_ (σ := Nat × Nat) 7 (lb 13 1551) (fun s_ => [(33, .agg #[.int .i64 t5, .int .i64 t6]), (8, .pointer (some ⟨s_.1, 0, none⟩)), (9, .pointer (some ⟨s_.2, 0, none⟩))]) (fun s_ w' => (ce4 w' g1 a1_0 a1_1 a1_2 a1_3 ∧ ce4 w' g2 a2_0 a2_1 a2_2 a2_3) ∧ Bx4 w' g1 a1_0 a1_1 a1_2 a1_3 50 ∧ Bx4 w' g2 a2_0 a2_1 a2_2 a2_3 50 ∧ Bx4 w' g3 0 0 0 0 50 ∧ Bx4 w' g4 0 0 0 0 50 ∧ Bx2 w' s_.1 0 0 24 ∧ Bx2 w' s_.2 0 0 24 ∧ Aside0 (w.heap.size ≤ s_.1) ∧ Aside0 (w.heap.size ≤ s_.1) ∧ Aside0 (g1 ≠ s_.1) ∧ Aside0 (s_.1 ≠ g1) ∧ Aside0 (g2 ≠ s_.1) ∧ Aside0 (s_.1 ≠ g2) ∧ Aside0 (g3 ≠ s_.1) ∧ Aside0 (s_.1 ≠ g3) ∧ Aside0 (g4 ≠ s_.1) ∧ Aside0 (s_.1 ≠ g4) ∧ Aside0 (s_.2 ≠ s_.1) ∧ Aside0 (s_.1 ≠ s_.2) ∧ Aside0 (w.heap.size ≤ s_.2) ∧ Aside0 (w.heap.size ≤ s_.2) ∧ Aside0 (g1 ≠ s_.2) ∧ Aside0 (s_.2 ≠ g1) ∧ Aside0 (g2 ≠ s_.2) ∧ Aside0 (s_.2 ≠ g2) ∧ Aside0 (g3 ≠ s_.2) ∧ Aside0 (s_.2 ≠ g3) ∧ Aside0 (g4 ≠ s_.2) ∧ Aside0 (s_.2 ≠ g4) ∧ Aside0 (Below w.heap.size w w')) ?_ ?_
  rotate_left
  rotate_left
  ·skip
   rintro ⟨g5, g6⟩ w7 H_
   dsimp only at H_
   obtain ⟨hHeld, K1, K2, K3, K4, K5, K6, G5, G6, N13, N14, N15, N16, N17, N18, N19, N20, N21, N22, G7, G8, N23, N24, N25, N26, N27, N28, N29, N30, HB⟩ := H_
   refine norm_ nz ?_
   refine on 4 (some 35) 1567 fun K hK => ?_
   refine ck hK Try.func79 (impl_Val_span.calls _ _ _ _ _ _ _ A2.out) (fun _ b => bk6 K1 K2 K3 K4 K5 K6 HB b) fun w8 Q_ hHeld => ?_
   clear hK K
   obtain ⟨K1, K2, K3, K4, K5, K6, HB⟩ := Q_
   exact norm_ nz (hJ2_4_9_10 (g5, g6) _ ⟨hHeld, ⟨Z K1⟩, ⟨Z K2⟩, ⟨Z K3⟩, ⟨Z K4⟩, ⟨Z K5⟩, ⟨Z K6⟩, G5, G6, N13, N14, N15, N16, N17, N18, N19, N20, N21, N22, G7, G8, N23, N24, N25, N26, N27, N28, N29, N30, ⟨YA HB⟩⟩)
  intro hJ2_9_10
  refine join_ (σ := Unit) 8 (lb 13 31) (fun s_ => [(33, .agg #[.int .i64 t5, .int .i64 t6]), (35, .agg #[.int .i64 t7, .int .i64 t8])]) (fun s_ w' => (ce4 w' g1 a1_0 a1_1 a1_2 a1_3 ∧ ce4 w' g2 a2_0 a2_1 a2_2 a2_3) ∧ Bx4 w' g1 a1_0 a1_1 a1_2 a1_3 50 ∧ Bx4 w' g2 a2_0 a2_1 a2_2 a2_3 50 ∧ Bx4 w' g3 0 0 0 0 50 ∧ Bx4 w' g4 0 0 0 0 50 ∧ Aside0 (Below w.heap.size w w')) ?_ ?_
  rotate_left
  rotate_left
  ·skip
   rintro _ w7 ⟨hHeld, K1, K2, K3, K4, HB⟩
   refine norm_ nz ?_
   refine three_ (i := 5) (j := 9) (k := 10) (Ni := some 36) (Nj := some 8) (Nk := some 9) (lb 13 63) (lb 13 543) (lb 13 1055) rfl rfl rfl rfl rfl rfl (three_of HT_.out (by kernel_rfl)) (by decide) (by decide) (by decide) (fun K hK => ?_) (fun K hK => ?_) (fun K hK => ?_)
   ·skip
    refine ck hK Try.func87 (impl_RangeCmp.calls _ _ _ _ _ _ _ _ _ _ _ A3.out) (fun _ b => bk4 K1 K2 K3 K4 HB b) fun w8 Q_ hHeld => ?_
    clear hK K
    obtain ⟨K1, K2, K3, K4, HB⟩ := Q_
    refine pk 6 30 127 ?_
    refine pk 7 37 255 ?_
    refine pk 8 38 511 ?_
    exact norm_ nz (hJ2_4_5 () _ ⟨hHeld, ⟨Z K1⟩, ⟨Z K2⟩, ⟨Z K3⟩, ⟨Z K4⟩, ⟨YA HB⟩⟩)
   ·skip
    refine box_step ?hg (N := 8) ?hd (cs := #[.int .i64 0, .int .i64 0]) (t := 24) ?hr ?_; (case hd => rfl); (case hg => rfl); (case hr => first | (go_simp; done) | (go_simp; rfl))
    intro g5 hg w8 hbox hb
    have K5 := am (hbox)
    have G5 := am (bs hg (YA HB))
    have G6 := am (bs hg (YA HB))
    obtain ⟨N13,N14⟩ := ne_ hg K1
    obtain ⟨N15,N16⟩ := ne_ hg K2
    obtain ⟨N17,N18⟩ := ne_ hg K3
    obtain ⟨N19,N20⟩ := ne_ hg K4
    obtain ⟨K1, K2, K3, K4, HB⟩ := bk4 K1 K2 K3 K4 HB hb
    clear hb hbox hg
    refine kk hK ⟨cc4 K1, cc4 K2⟩ fun hHeld => ?_
    clear hK K
    exact norm_ nz (hJ2_4_9 (g5) _ ⟨hHeld, ⟨Z K1⟩, ⟨Z K2⟩, ⟨Z K3⟩, ⟨Z K4⟩, ⟨Z K5⟩, G5, G6, N13, N14, N15, N16, N17, N18, N19, N20, ⟨YA HB⟩⟩)
   skip
   refine box_step ?hg (N := 9) ?hd (cs := #[.int .i64 0, .int .i64 0]) (t := 24) ?hr ?_; (case hd => rfl); (case hg => rfl); (case hr => first | (go_simp; done) | (go_simp; rfl))
   intro g5 hg w8 hbox hb
   have K5 := am (hbox)
   have G5 := am (bs hg (YA HB))
   have G6 := am (bs hg (YA HB))
   obtain ⟨N13,N14⟩ := ne_ hg K1
   obtain ⟨N15,N16⟩ := ne_ hg K2
   obtain ⟨N17,N18⟩ := ne_ hg K3
   obtain ⟨N19,N20⟩ := ne_ hg K4
   obtain ⟨K1, K2, K3, K4, HB⟩ := bk4 K1 K2 K3 K4 HB hb
   clear hb hbox hg
   refine kk hK ⟨cc4 K1, cc4 K2⟩ fun hHeld => ?_
   clear hK K
   exact norm_ nz (hJ2_4_10 (g5) _ ⟨hHeld, ⟨Z K1⟩, ⟨Z K2⟩, ⟨Z K3⟩, ⟨Z K4⟩, ⟨Z K5⟩, G5, G6, N13, N14, N15, N16, N17, N18, N19, N20, ⟨YA HB⟩⟩)
  intro hJ2_4
  refine join_ (σ := Nat) 8 (lb 13 527) (fun s_ => [(33, .agg #[.int .i64 t5, .int .i64 t6]), (8, .pointer (some ⟨s_, 0, none⟩))]) (fun s_ w' => (ce4 w' g1 a1_0 a1_1 a1_2 a1_3 ∧ ce4 w' g2 a2_0 a2_1 a2_2 a2_3) ∧ Bx4 w' g1 a1_0 a1_1 a1_2 a1_3 50 ∧ Bx4 w' g2 a2_0 a2_1 a2_2 a2_3 50 ∧ Bx4 w' g3 0 0 0 0 50 ∧ Bx4 w' g4 0 0 0 0 50 ∧ Bx2 w' s_ 0 0 24 ∧ Aside0 (w.heap.size ≤ s_) ∧ Aside0 (w.heap.size ≤ s_) ∧ Aside0 (g1 ≠ s_) ∧ Aside0 (s_ ≠ g1) ∧ Aside0 (g2 ≠ s_) ∧ Aside0 (s_ ≠ g2) ∧ Aside0 (g3 ≠ s_) ∧ Aside0 (s_ ≠ g3) ∧ Aside0 (g4 ≠ s_) ∧ Aside0 (s_ ≠ g4) ∧ Aside0 (Below w.heap.size w w')) ?_ ?_
  rotate_left
  rotate_left
  ·skip
   rintro g5 w7 ⟨hHeld, K1, K2, K3, K4, K5, G5, G6, N13, N14, N15, N16, N17, N18, N19, N20, HB⟩
   refine norm_ nz ?_
   refine two_ (i := 4) (j := 10) (Ni := some 35) (Nj := some 9) (lb 13 543) (lb 13 1551) rfl rfl rfl rfl (two_of HT_.out (by kernel_rfl)) (by decide) (by decide) (fun K hK => ?_) (fun K hK => ?_)
   ·skip
    refine ck hK Try.func79 (impl_Val_span.calls _ _ _ _ _ _ _ A2.out) (fun _ b => bk5 K1 K2 K3 K4 K5 HB b) fun w8 Q_ hHeld => ?_
    clear hK K
    obtain ⟨K1, K2, K3, K4, K5, HB⟩ := Q_
    exact norm_ nz (hJ2_4_9 (g5) _ ⟨hHeld, ⟨Z K1⟩, ⟨Z K2⟩, ⟨Z K3⟩, ⟨Z K4⟩, ⟨Z K5⟩, G5, G6, N13, N14, N15, N16, N17, N18, N19, N20, ⟨YA HB⟩⟩)
   skip
   refine box_step ?hg (N := 9) ?hd (cs := #[.int .i64 0, .int .i64 0]) (t := 24) ?hr ?_; (case hd => rfl); (case hg => rfl); (case hr => first | (go_simp; done) | (go_simp; rfl))
   intro g6 hg w8 hbox hb
   have K6 := am (hbox)
   have G7 := am (bs hg (YA HB))
   have G8 := am (bs hg (YA HB))
   obtain ⟨N21,N22⟩ := ne_ hg K1
   obtain ⟨N23,N24⟩ := ne_ hg K2
   obtain ⟨N25,N26⟩ := ne_ hg K3
   obtain ⟨N27,N28⟩ := ne_ hg K4
   obtain ⟨N29,N30⟩ := ne_ hg K5
   obtain ⟨K1, K2, K3, K4, K5, HB⟩ := bk5 K1 K2 K3 K4 K5 HB hb
   clear hb hbox hg
   refine kk hK ⟨cc4 K1, cc4 K2⟩ fun hHeld => ?_
   clear hK K
   exact norm_ nz (hJ2_9_10 (g5, g6) _ ⟨hHeld, ⟨Z K1⟩, ⟨Z K2⟩, ⟨Z K3⟩, ⟨Z K4⟩, ⟨Z K5⟩, ⟨Z K6⟩, G5, G6, N13, N14, N15, N16, N17, N18, N19, N20, N30, N29, G7, G8, N21, N22, N23, N24, N25, N26, N27, N28, ⟨YA HB⟩⟩)
  intro hJ2_9
  refine join_ (σ := Nat) 8 (lb 13 1039) (fun s_ => [(33, .agg #[.int .i64 t5, .int .i64 t6]), (9, .pointer (some ⟨s_, 0, none⟩))]) (fun s_ w' => (ce4 w' g1 a1_0 a1_1 a1_2 a1_3 ∧ ce4 w' g2 a2_0 a2_1 a2_2 a2_3) ∧ Bx4 w' g1 a1_0 a1_1 a1_2 a1_3 50 ∧ Bx4 w' g2 a2_0 a2_1 a2_2 a2_3 50 ∧ Bx4 w' g3 0 0 0 0 50 ∧ Bx4 w' g4 0 0 0 0 50 ∧ Bx2 w' s_ 0 0 24 ∧ Aside0 (w.heap.size ≤ s_) ∧ Aside0 (w.heap.size ≤ s_) ∧ Aside0 (g1 ≠ s_) ∧ Aside0 (s_ ≠ g1) ∧ Aside0 (g2 ≠ s_) ∧ Aside0 (s_ ≠ g2) ∧ Aside0 (g3 ≠ s_) ∧ Aside0 (s_ ≠ g3) ∧ Aside0 (g4 ≠ s_) ∧ Aside0 (s_ ≠ g4) ∧ Aside0 (Below w.heap.size w w')) ?_ ?_
  rotate_left
  rotate_left
  ·skip
   rintro g5 w7 ⟨hHeld, K1, K2, K3, K4, K5, G5, G6, N13, N14, N15, N16, N17, N18, N19, N20, HB⟩
   refine norm_ nz ?_
   refine two_ (i := 4) (j := 9) (Ni := some 35) (Nj := some 8) (lb 13 1055) (lb 13 1551) rfl rfl rfl rfl (two_of HT_.out (by kernel_rfl)) (by decide) (by decide) (fun K hK => ?_) (fun K hK => ?_)
   ·skip
    refine ck hK Try.func79 (impl_Val_span.calls _ _ _ _ _ _ _ A2.out) (fun _ b => bk5 K1 K2 K3 K4 K5 HB b) fun w8 Q_ hHeld => ?_
    clear hK K
    obtain ⟨K1, K2, K3, K4, K5, HB⟩ := Q_
    exact norm_ nz (hJ2_4_10 (g5) _ ⟨hHeld, ⟨Z K1⟩, ⟨Z K2⟩, ⟨Z K3⟩, ⟨Z K4⟩, ⟨Z K5⟩, G5, G6, N13, N14, N15, N16, N17, N18, N19, N20, ⟨YA HB⟩⟩)
   skip
   refine box_step ?hg (N := 8) ?hd (cs := #[.int .i64 0, .int .i64 0]) (t := 24) ?hr ?_; (case hd => rfl); (case hg => rfl); (case hr => first | (go_simp; done) | (go_simp; rfl))
   intro g6 hg w8 hbox hb
   have K6 := am (hbox)
   have G7 := am (bs hg (YA HB))
   have G8 := am (bs hg (YA HB))
   obtain ⟨N21,N22⟩ := ne_ hg K1
   obtain ⟨N23,N24⟩ := ne_ hg K2
   obtain ⟨N25,N26⟩ := ne_ hg K3
   obtain ⟨N27,N28⟩ := ne_ hg K4
   obtain ⟨N29,N30⟩ := ne_ hg K5
   obtain ⟨K1, K2, K3, K4, K5, HB⟩ := bk5 K1 K2 K3 K4 K5 HB hb
   clear hb hbox hg
   refine kk hK ⟨cc4 K1, cc4 K2⟩ fun hHeld => ?_
   clear hK K
   exact norm_ nz (hJ2_9_10 (g6, g5) _ ⟨hHeld, ⟨Z K1⟩, ⟨Z K2⟩, ⟨Z K3⟩, ⟨Z K4⟩, ⟨Z K6⟩, ⟨Z K5⟩, G7, G8, N21, N22, N23, N24, N25, N26, N27, N28, N29, N30, G5, G6, N13, N14, N15, N16, N17, N18, N19, N20, ⟨YA HB⟩⟩)
  intro hJ2_10
  refine join_ (σ := Nat × Nat) 8 (lb 13 1547) (fun s_ => [(8, .pointer (some ⟨s_.1, 0, none⟩)), (9, .pointer (some ⟨s_.2, 0, none⟩))]) (fun s_ w' => (ce4 w' g1 a1_0 a1_1 a1_2 a1_3 ∧ ce4 w' g2 a2_0 a2_1 a2_2 a2_3) ∧ Bx4 w' g1 a1_0 a1_1 a1_2 a1_3 50 ∧ Bx4 w' g2 a2_0 a2_1 a2_2 a2_3 50 ∧ Bx4 w' g3 0 0 0 0 50 ∧ Bx4 w' g4 0 0 0 0 50 ∧ Bx2 w' s_.1 0 0 24 ∧ Bx2 w' s_.2 0 0 24 ∧ Aside0 (w.heap.size ≤ s_.1) ∧ Aside0 (w.heap.size ≤ s_.1) ∧ Aside0 (g1 ≠ s_.1) ∧ Aside0 (s_.1 ≠ g1) ∧ Aside0 (g2 ≠ s_.1) ∧ Aside0 (s_.1 ≠ g2) ∧ Aside0 (g3 ≠ s_.1) ∧ Aside0 (s_.1 ≠ g3) ∧ Aside0 (g4 ≠ s_.1) ∧ Aside0 (s_.1 ≠ g4) ∧ Aside0 (s_.2 ≠ s_.1) ∧ Aside0 (s_.1 ≠ s_.2) ∧ Aside0 (w.heap.size ≤ s_.2) ∧ Aside0 (w.heap.size ≤ s_.2) ∧ Aside0 (g1 ≠ s_.2) ∧ Aside0 (s_.2 ≠ g1) ∧ Aside0 (g2 ≠ s_.2) ∧ Aside0 (s_.2 ≠ g2) ∧ Aside0 (g3 ≠ s_.2) ∧ Aside0 (s_.2 ≠ g3) ∧ Aside0 (g4 ≠ s_.2) ∧ Aside0 (s_.2 ≠ g4) ∧ Aside0 (Below w.heap.size w w')) ?_ ?_
  rotate_left
  rotate_left
  ·skip
   rintro ⟨g5, g6⟩ w7 H_
   dsimp only at H_
   obtain ⟨hHeld, K1, K2, K3, K4, K5, K6, G5, G6, N13, N14, N15, N16, N17, N18, N19, N20, N21, N22, G7, G8, N23, N24, N25, N26, N27, N28, N29, N30, HB⟩ := H_
   refine norm_ nz ?_
   refine on 2 (some 33) 1551 fun K hK => ?_
   refine ck hK Try.func79 (impl_Val_span.calls _ _ _ _ _ _ _ A1.out) (fun _ b => bk6 K1 K2 K3 K4 K5 K6 HB b) fun w8 Q_ hHeld => ?_
   clear hK K
   obtain ⟨K1, K2, K3, K4, K5, K6, HB⟩ := Q_
   exact norm_ nz (hJ2_9_10 (g5, g6) _ ⟨hHeld, ⟨Z K1⟩, ⟨Z K2⟩, ⟨Z K3⟩, ⟨Z K4⟩, ⟨Z K5⟩, ⟨Z K6⟩, G5, G6, N13, N14, N15, N16, N17, N18, N19, N20, N21, N22, G7, G8, N23, N24, N25, N26, N27, N28, N29, N30, ⟨YA HB⟩⟩)
  intro hJ9_10
  refine join_ (σ := Unit) 9 (lb 13 15) (fun s_ => [(33, .agg #[.int .i64 t5, .int .i64 t6])]) (fun s_ w' => (ce4 w' g1 a1_0 a1_1 a1_2 a1_3 ∧ ce4 w' g2 a2_0 a2_1 a2_2 a2_3) ∧ Bx4 w' g1 a1_0 a1_1 a1_2 a1_3 50 ∧ Bx4 w' g2 a2_0 a2_1 a2_2 a2_3 50 ∧ Bx4 w' g3 0 0 0 0 50 ∧ Bx4 w' g4 0 0 0 0 50 ∧ Aside0 (Below w.heap.size w w')) ?_ ?_
  rotate_left
  rotate_left
  ·skip
   rintro _ w7 ⟨hHeld, K1, K2, K3, K4, HB⟩
   refine norm_ nz ?_
   refine three_ (i := 4) (j := 9) (k := 10) (Ni := some 35) (Nj := some 8) (Nk := some 9) (lb 13 31) (lb 13 527) (lb 13 1039) rfl rfl rfl rfl rfl rfl (three_of HT_.out (by kernel_rfl)) (by decide) (by decide) (by decide) (fun K hK => ?_) (fun K hK => ?_) (fun K hK => ?_)
   ·skip
    refine ck hK Try.func79 (impl_Val_span.calls _ _ _ _ _ _ _ A2.out) (fun _ b => bk4 K1 K2 K3 K4 HB b) fun w8 Q_ hHeld => ?_
    clear hK K
    obtain ⟨K1, K2, K3, K4, HB⟩ := Q_
    exact norm_ nz (hJ2_4 () _ ⟨hHeld, ⟨Z K1⟩, ⟨Z K2⟩, ⟨Z K3⟩, ⟨Z K4⟩, ⟨YA HB⟩⟩)
   ·skip
    refine box_step ?hg (N := 8) ?hd (cs := #[.int .i64 0, .int .i64 0]) (t := 24) ?hr ?_; (case hd => rfl); (case hg => rfl); (case hr => first | (go_simp; done) | (go_simp; rfl))
    intro g5 hg w8 hbox hb
    have K5 := am (hbox)
    have G5 := am (bs hg (YA HB))
    have G6 := am (bs hg (YA HB))
    obtain ⟨N13,N14⟩ := ne_ hg K1
    obtain ⟨N15,N16⟩ := ne_ hg K2
    obtain ⟨N17,N18⟩ := ne_ hg K3
    obtain ⟨N19,N20⟩ := ne_ hg K4
    obtain ⟨K1, K2, K3, K4, HB⟩ := bk4 K1 K2 K3 K4 HB hb
    clear hb hbox hg
    refine kk hK ⟨cc4 K1, cc4 K2⟩ fun hHeld => ?_
    clear hK K
    exact norm_ nz (hJ2_9 (g5) _ ⟨hHeld, ⟨Z K1⟩, ⟨Z K2⟩, ⟨Z K3⟩, ⟨Z K4⟩, ⟨Z K5⟩, G5, G6, N13, N14, N15, N16, N17, N18, N19, N20, ⟨YA HB⟩⟩)
   skip
   refine box_step ?hg (N := 9) ?hd (cs := #[.int .i64 0, .int .i64 0]) (t := 24) ?hr ?_; (case hd => rfl); (case hg => rfl); (case hr => first | (go_simp; done) | (go_simp; rfl))
   intro g5 hg w8 hbox hb
   have K5 := am (hbox)
   have G5 := am (bs hg (YA HB))
   have G6 := am (bs hg (YA HB))
   obtain ⟨N13,N14⟩ := ne_ hg K1
   obtain ⟨N15,N16⟩ := ne_ hg K2
   obtain ⟨N17,N18⟩ := ne_ hg K3
   obtain ⟨N19,N20⟩ := ne_ hg K4
   obtain ⟨K1, K2, K3, K4, HB⟩ := bk4 K1 K2 K3 K4 HB hb
   clear hb hbox hg
   refine kk hK ⟨cc4 K1, cc4 K2⟩ fun hHeld => ?_
   clear hK K
   exact norm_ nz (hJ2_10 (g5) _ ⟨hHeld, ⟨Z K1⟩, ⟨Z K2⟩, ⟨Z K3⟩, ⟨Z K4⟩, ⟨Z K5⟩, G5, G6, N13, N14, N15, N16, N17, N18, N19, N20, ⟨YA HB⟩⟩)
  intro hJ2
  refine join_ (σ := Nat) 9 (lb 13 523) (fun s_ => [(8, .pointer (some ⟨s_, 0, none⟩))]) (fun s_ w' => (ce4 w' g1 a1_0 a1_1 a1_2 a1_3 ∧ ce4 w' g2 a2_0 a2_1 a2_2 a2_3) ∧ Bx4 w' g1 a1_0 a1_1 a1_2 a1_3 50 ∧ Bx4 w' g2 a2_0 a2_1 a2_2 a2_3 50 ∧ Bx4 w' g3 0 0 0 0 50 ∧ Bx4 w' g4 0 0 0 0 50 ∧ Bx2 w' s_ 0 0 24 ∧ Aside0 (w.heap.size ≤ s_) ∧ Aside0 (w.heap.size ≤ s_) ∧ Aside0 (g1 ≠ s_) ∧ Aside0 (s_ ≠ g1) ∧ Aside0 (g2 ≠ s_) ∧ Aside0 (s_ ≠ g2) ∧ Aside0 (g3 ≠ s_) ∧ Aside0 (s_ ≠ g3) ∧ Aside0 (g4 ≠ s_) ∧ Aside0 (s_ ≠ g4) ∧ Aside0 (Below w.heap.size w w')) ?_ ?_
  rotate_left
  rotate_left
  ·skip
   rintro g5 w7 ⟨hHeld, K1, K2, K3, K4, K5, G5, G6, N13, N14, N15, N16, N17, N18, N19, N20, HB⟩
   refine norm_ nz ?_
   refine two_ (i := 2) (j := 10) (Ni := some 33) (Nj := some 9) (lb 13 527) (lb 13 1547) rfl rfl rfl rfl (two_of HT_.out (by kernel_rfl)) (by decide) (by decide) (fun K hK => ?_) (fun K hK => ?_)
   ·skip
    refine ck hK Try.func79 (impl_Val_span.calls _ _ _ _ _ _ _ A1.out) (fun _ b => bk5 K1 K2 K3 K4 K5 HB b) fun w8 Q_ hHeld => ?_
    clear hK K
    obtain ⟨K1, K2, K3, K4, K5, HB⟩ := Q_
    exact norm_ nz (hJ2_9 (g5) _ ⟨hHeld, ⟨Z K1⟩, ⟨Z K2⟩, ⟨Z K3⟩, ⟨Z K4⟩, ⟨Z K5⟩, G5, G6, N13, N14, N15, N16, N17, N18, N19, N20, ⟨YA HB⟩⟩)
   skip
   refine box_step ?hg (N := 9) ?hd (cs := #[.int .i64 0, .int .i64 0]) (t := 24) ?hr ?_; (case hd => rfl); (case hg => rfl); (case hr => first | (go_simp; done) | (go_simp; rfl))
   intro g6 hg w8 hbox hb
   have K6 := am (hbox)
   have G7 := am (bs hg (YA HB))
   have G8 := am (bs hg (YA HB))
   obtain ⟨N21,N22⟩ := ne_ hg K1
   obtain ⟨N23,N24⟩ := ne_ hg K2
   obtain ⟨N25,N26⟩ := ne_ hg K3
   obtain ⟨N27,N28⟩ := ne_ hg K4
   obtain ⟨N29,N30⟩ := ne_ hg K5
   obtain ⟨K1, K2, K3, K4, K5, HB⟩ := bk5 K1 K2 K3 K4 K5 HB hb
   clear hb hbox hg
   refine kk hK ⟨cc4 K1, cc4 K2⟩ fun hHeld => ?_
   clear hK K
   exact norm_ nz (hJ9_10 (g5, g6) _ ⟨hHeld, ⟨Z K1⟩, ⟨Z K2⟩, ⟨Z K3⟩, ⟨Z K4⟩, ⟨Z K5⟩, ⟨Z K6⟩, G5, G6, N13, N14, N15, N16, N17, N18, N19, N20, N30, N29, G7, G8, N21, N22, N23, N24, N25, N26, N27, N28, ⟨YA HB⟩⟩)
  intro hJ9
  refine join_ (σ := Nat) 9 (lb 13 1035) (fun s_ => [(9, .pointer (some ⟨s_, 0, none⟩))]) (fun s_ w' => (ce4 w' g1 a1_0 a1_1 a1_2 a1_3 ∧ ce4 w' g2 a2_0 a2_1 a2_2 a2_3) ∧ Bx4 w' g1 a1_0 a1_1 a1_2 a1_3 50 ∧ Bx4 w' g2 a2_0 a2_1 a2_2 a2_3 50 ∧ Bx4 w' g3 0 0 0 0 50 ∧ Bx4 w' g4 0 0 0 0 50 ∧ Bx2 w' s_ 0 0 24 ∧ Aside0 (w.heap.size ≤ s_) ∧ Aside0 (w.heap.size ≤ s_) ∧ Aside0 (g1 ≠ s_) ∧ Aside0 (s_ ≠ g1) ∧ Aside0 (g2 ≠ s_) ∧ Aside0 (s_ ≠ g2) ∧ Aside0 (g3 ≠ s_) ∧ Aside0 (s_ ≠ g3) ∧ Aside0 (g4 ≠ s_) ∧ Aside0 (s_ ≠ g4) ∧ Aside0 (Below w.heap.size w w')) ?_ ?_
  rotate_left
  ·intro hJ10
   refine three_ (i := 2) (j := 9) (k := 10) (Ni := some 33) (Nj := some 8) (Nk := some 9) (lb 13 15) (lb 13 523) (lb 13 1035) rfl rfl rfl rfl rfl rfl (three_of HT_.out (by kernel_rfl)) (by decide) (by decide) (by decide) (fun K hK => ?_) (fun K hK => ?_) (fun K hK => ?_)
   ·skip
    refine ck hK Try.func79 (impl_Val_span.calls _ _ _ _ _ _ _ A1.out) (fun _ b => bk4 K1 K2 K3 K4 HB b) fun w7 Q_ hHeld => ?_
    clear hK K
    obtain ⟨K1, K2, K3, K4, HB⟩ := Q_
    exact norm_ nz (hJ2 () _ ⟨hHeld, ⟨Z K1⟩, ⟨Z K2⟩, ⟨Z K3⟩, ⟨Z K4⟩, ⟨YA HB⟩⟩)
   ·skip
    refine box_step ?hg (N := 8) ?hd (cs := #[.int .i64 0, .int .i64 0]) (t := 24) ?hr ?_; (case hd => rfl); (case hg => rfl); (case hr => first | (go_simp; done) | (go_simp; rfl))
    intro g5 hg w7 hbox hb
    have K5 := am (hbox)
    have G5 := am (bs hg (YA HB))
    have G6 := am (bs hg (YA HB))
    obtain ⟨N13,N14⟩ := ne_ hg K1
    obtain ⟨N15,N16⟩ := ne_ hg K2
    obtain ⟨N17,N18⟩ := ne_ hg K3
    obtain ⟨N19,N20⟩ := ne_ hg K4
    obtain ⟨K1, K2, K3, K4, HB⟩ := bk4 K1 K2 K3 K4 HB hb
    clear hb hbox hg
    refine kk hK ⟨cc4 K1, cc4 K2⟩ fun hHeld => ?_
    clear hK K
    exact norm_ nz (hJ9 (g5) _ ⟨hHeld, ⟨Z K1⟩, ⟨Z K2⟩, ⟨Z K3⟩, ⟨Z K4⟩, ⟨Z K5⟩, G5, G6, N13, N14, N15, N16, N17, N18, N19, N20, ⟨YA HB⟩⟩)
   skip
   refine box_step ?hg (N := 9) ?hd (cs := #[.int .i64 0, .int .i64 0]) (t := 24) ?hr ?_; (case hd => rfl); (case hg => rfl); (case hr => first | (go_simp; done) | (go_simp; rfl))
   intro g5 hg w7 hbox hb
   have K5 := am (hbox)
   have G5 := am (bs hg (YA HB))
   have G6 := am (bs hg (YA HB))
   obtain ⟨N13,N14⟩ := ne_ hg K1
   obtain ⟨N15,N16⟩ := ne_ hg K2
   obtain ⟨N17,N18⟩ := ne_ hg K3
   obtain ⟨N19,N20⟩ := ne_ hg K4
   obtain ⟨K1, K2, K3, K4, HB⟩ := bk4 K1 K2 K3 K4 HB hb
   clear hb hbox hg
   refine kk hK ⟨cc4 K1, cc4 K2⟩ fun hHeld => ?_
   clear hK K
   exact norm_ nz (hJ10 (g5) _ ⟨hHeld, ⟨Z K1⟩, ⟨Z K2⟩, ⟨Z K3⟩, ⟨Z K4⟩, ⟨Z K5⟩, G5, G6, N13, N14, N15, N16, N17, N18, N19, N20, ⟨YA HB⟩⟩)
  skip
  rintro g5 w7 ⟨hHeld, K1, K2, K3, K4, K5, G5, G6, N13, N14, N15, N16, N17, N18, N19, N20, HB⟩
  refine norm_ nz ?_
  refine two_ (i := 2) (j := 9) (Ni := some 33) (Nj := some 8) (lb 13 1039) (lb 13 1547) rfl rfl rfl rfl (two_of HT_.out (by kernel_rfl)) (by decide) (by decide) (fun K hK => ?_) (fun K hK => ?_)
  ·skip
   refine ck hK Try.func79 (impl_Val_span.calls _ _ _ _ _ _ _ A1.out) (fun _ b => bk5 K1 K2 K3 K4 K5 HB b) fun w8 Q_ hHeld => ?_
   clear hK K
   obtain ⟨K1, K2, K3, K4, K5, HB⟩ := Q_
   exact norm_ nz (hJ2_10 (g5) _ ⟨hHeld, ⟨Z K1⟩, ⟨Z K2⟩, ⟨Z K3⟩, ⟨Z K4⟩, ⟨Z K5⟩, G5, G6, N13, N14, N15, N16, N17, N18, N19, N20, ⟨YA HB⟩⟩)
  skip
  refine box_step ?hg (N := 8) ?hd (cs := #[.int .i64 0, .int .i64 0]) (t := 24) ?hr ?_; (case hd => rfl); (case hg => rfl); (case hr => first | (go_simp; done) | (go_simp; rfl))
  intro g6 hg w8 hbox hb
  have K6 := am (hbox)
  have G7 := am (bs hg (YA HB))
  have G8 := am (bs hg (YA HB))
  obtain ⟨N21,N22⟩ := ne_ hg K1
  obtain ⟨N23,N24⟩ := ne_ hg K2
  obtain ⟨N25,N26⟩ := ne_ hg K3
  obtain ⟨N27,N28⟩ := ne_ hg K4
  obtain ⟨N29,N30⟩ := ne_ hg K5
  obtain ⟨K1, K2, K3, K4, K5, HB⟩ := bk5 K1 K2 K3 K4 K5 HB hb
  clear hb hbox hg
  refine kk hK ⟨cc4 K1, cc4 K2⟩ fun hHeld => ?_
  clear hK K
  exact norm_ nz (hJ9_10 (g6, g5) _ ⟨hHeld, ⟨Z K1⟩, ⟨Z K2⟩, ⟨Z K3⟩, ⟨Z K4⟩, ⟨Z K6⟩, ⟨Z K5⟩, G7, G8, N21, N22, N23, N24, N25, N26, N27, N28, N29, N30, G5, G6, N13, N14, N15, N16, N17, N18, N19, N20, ⟨YA HB⟩⟩)
 rintro ⟨g5, g6⟩ w7 H_
 dsimp only at H_
 obtain ⟨hHeld, K1, K2, K3, K4, K5, K6, G5, G6, N13, N14, N15, N16, N17, N18, N19, N20, N21, N22, G7, G8, N23, N24, N25, N26, N27, N28, N29, N30, HB⟩ := H_
 refine norm_ nz ?_
 refine on 11 none 4095 fun K hK => ?_
 have s8 : w7.cell? ⟨g5, 0, none⟩ = some (.int .i64 0) := bc K5 0
 have hfs81 := blk_frozen K5.out 0
 have := ns10 N13 N15 N17 N19 N21 N14 N16 N18 N20 N22
 have s9 : w7.cell? ⟨g5, 1, none⟩ = some (.int .i64 0) := bc K5 1
 have hfs82 := blk_frozen K5.out 1
 have := ns10 N13 N15 N17 N19 N21 N14 N16 N18 N20 N22
 refine skip_ (w1 := ?_) (by rfl) rfl ?_ ?_
 rotate_left
 ·go_simp
  rfl
 refine hK.out _ _ ⟨cf4 N13 (cf4 N13 hHeld.1), cf4 N15 (cf4 N15 hHeld.2)⟩ (fun hHeld => ?_)
 clear hK K
 refine on 12 none 8191 fun K hK => ?_
 have s10 : w7.cell? ⟨g6, 0, none⟩ = some (.int .i64 0) := bc K6 0
 have hfs83 := blk_frozen K6.out 0
 have := ns10 N23 N25 N27 N29 N22 N24 N26 N28 N30 N21
 have s11 : w7.cell? ⟨g6, 1, none⟩ = some (.int .i64 0) := bc K6 1
 have hfs84 := blk_frozen K6.out 1
 have := ns10 N23 N25 N27 N29 N22 N24 N26 N28 N30 N21
 refine skip_ (w1 := ?_) (by rfl) rfl ?_ ?_
 rotate_left
 ·go_simp
  rfl
 refine hK.out _ _ ⟨cf4 N23 (cf4 N23 hHeld.1), cf4 N25 (cf4 N25 hHeld.2)⟩ (fun hHeld => ?_)
 clear hK K
 refine done_ (done_of HT_.out (by kernel_rfl)) ?_
 try go_wp2
 have n0_ : Aside0 (((((w7.setCell ⟨g5, 0, none⟩ (.int .i64 t9)).setCell ⟨g5, 1, none⟩ (.int .i64 t10)).setCell ⟨g6, 0, none⟩ (.int .i64 t11)).setCell ⟨g6, 1, none⟩ (.int .i64 t12)).heap[g1]? = some (.cells #[.int .i64 a1_0, .int .i64 a1_1, .int .i64 a1_2, .int .i64 a1_3] 50 (0, 0))) := ⟨ft2 N23 N13 K1⟩
 have n1_ : Aside0 (((((w7.setCell ⟨g5, 0, none⟩ (.int .i64 t9)).setCell ⟨g5, 1, none⟩ (.int .i64 t10)).setCell ⟨g6, 0, none⟩ (.int .i64 t11)).setCell ⟨g6, 1, none⟩ (.int .i64 t12)).heap[g2]? = some (.cells #[.int .i64 a2_0, .int .i64 a2_1, .int .i64 a2_2, .int .i64 a2_3] 50 (0, 0))) := ⟨ft2 N25 N15 K2⟩
 have n2_ : Aside0 (((((w7.setCell ⟨g5, 0, none⟩ (.int .i64 t9)).setCell ⟨g5, 1, none⟩ (.int .i64 t10)).setCell ⟨g6, 0, none⟩ (.int .i64 t11)).setCell ⟨g6, 1, none⟩ (.int .i64 t12)).heap[g3]? = some (.cells #[.int .i64 0, .int .i64 0, .int .i64 0, .int .i64 0] 50 (0, 0))) := ⟨ft2 N27 N17 K3⟩
 have n3_ : Aside0 (((((w7.setCell ⟨g5, 0, none⟩ (.int .i64 t9)).setCell ⟨g5, 1, none⟩ (.int .i64 t10)).setCell ⟨g6, 0, none⟩ (.int .i64 t11)).setCell ⟨g6, 1, none⟩ (.int .i64 t12)).heap[g4]? = some (.cells #[.int .i64 0, .int .i64 0, .int .i64 0, .int .i64 0] 50 (0, 0))) := ⟨ft2 N29 N19 K4⟩
 have n4_ : Aside0 (((((w7.setCell ⟨g5, 0, none⟩ (.int .i64 t9)).setCell ⟨g5, 1, none⟩ (.int .i64 t10)).setCell ⟨g6, 0, none⟩ (.int .i64 t11)).setCell ⟨g6, 1, none⟩ (.int .i64 t12)).heap[g5]? = some (.cells #[.int .i64 t9, .int .i64 t10] 24 (0, 0))) := ⟨by refine fa N22 ?_; refine fa N22 ?_; refine pf ?_; refine bp (ia2 t9 0) ?_ 1; refine pf ?_; refine bp (ia2 0 0) ?_ 0; exact Z K5⟩
 have n5_ : Aside0 (((((w7.setCell ⟨g5, 0, none⟩ (.int .i64 t9)).setCell ⟨g5, 1, none⟩ (.int .i64 t10)).setCell ⟨g6, 0, none⟩ (.int .i64 t11)).setCell ⟨g6, 1, none⟩ (.int .i64 t12)).heap[g6]? = some (.cells #[.int .i64 t11, .int .i64 t12] 24 (0, 0))) := ⟨by refine pf ?_; refine bp (ia2 t11 0) ?_ 1; refine pf ?_; refine bp (ia2 0 0) ?_ 0; refine fa N21 ?_; refine fa N21 ?_; exact Z K6⟩
 have n6_ : Aside0 (Below w.heap.size w ((((w7.setCell ⟨g5, 0, none⟩ (.int .i64 t9)).setCell ⟨g5, 1, none⟩ (.int .i64 t10)).setCell ⟨g6, 0, none⟩ (.int .i64 t11)).setCell ⟨g6, 1, none⟩ (.int .i64 t12))) := ⟨YA HB⟩
 (try clear K1)
 (try clear K2)
 (try clear K3)
 (try clear K4)
 (try clear K5)
 (try clear K6)
 (try clear HB)
 generalize ((((w7.setCell ⟨g5, 0, none⟩ (.int .i64 t9)).setCell ⟨g5, 1, none⟩ (.int .i64 t10)).setCell ⟨g6, 0, none⟩ (.int .i64 t11)).setCell ⟨g6, 1, none⟩ (.int .i64 t12)) = w8 at n0_ n1_ n2_ n3_ n4_ n5_ n6_ ⊢
 have K1 := n0_
 have K2 := n1_
 have K3 := n2_
 have K4 := n3_
 have K5 := n4_
 have K6 := n5_
 have HB := n6_
 clear n0_ n1_ n2_ n3_ n4_ n5_ n6_
 obtain ⟨K1, K2, K3, K4, K5, K6, HB⟩ := dk6 K1 K2 K3 K4 K5 K6 HB
 refine start_ (n := 12) (S := fun w' => ce2 w' g5 t9 t10 ∧ ce4 w' g1 a1_0 a1_1 a1_2 a1_3 ∧ ce2 w' g6 t11 t12 ∧ ce4 w' g2 a2_0 a2_1 a2_2 a2_3) (ds := []) (lb 12 0) (by kernel_rfl) rfl rfl ⟨cc2 K5, cc4 K1, cc2 K6, cc4 K2⟩ (fun hHeld => ?_); refine with_tabW impl_ValCmp.tab4 impl_ValCmp.bits4 (fun HT_ HW_ => ?_)
 generalize w8.drew = w9 at K1 K2 K3 K4 K5 K6 HB hHeld ⊢
 refine tk 0 39 1 hHeld ?_
 refine tk 1 40 3 hHeld ?_
 refine tk 4 43 19 hHeld ?_
 refine tk 5 44 51 hHeld ?_
 refine join_ (σ := Nat × Nat) 2 (lb 12 1023) (fun s_ => [(41, .agg #[.int .i64 t13, .int .i64 t14]), (42, .agg #[.int .i64 t15, .int .i64 t16, .int .i64 t17, .int .i64 t18]), (45, .agg #[.int .i64 t19, .int .i64 t20]), (46, .agg #[.int .i64 t21, .int .i64 t22, .int .i64 t23, .int .i64 t24]), (10, .pointer (some ⟨s_.1, 0, none⟩)), (11, .pointer (some ⟨s_.2, 0, none⟩))]) (fun s_ w' => (ce2 w' g5 t9 t10 ∧ ce4 w' g1 a1_0 a1_1 a1_2 a1_3 ∧ ce2 w' g6 t11 t12 ∧ ce4 w' g2 a2_0 a2_1 a2_2 a2_3) ∧ Bx4 w' g1 a1_0 a1_1 a1_2 a1_3 50 ∧ Bx4 w' g2 a2_0 a2_1 a2_2 a2_3 50 ∧ Bx4 w' g3 0 0 0 0 50 ∧ Bx4 w' g4 0 0 0 0 50 ∧ Bx2 w' g5 t9 t10 24 ∧ Bx2 w' g6 t11 t12 24 ∧ Bx4 w' s_.1 0 0 0 0 50 ∧ Bx4 w' s_.2 0 0 0 0 50 ∧ Aside0 (w.heap.size ≤ s_.1) ∧ Aside0 (w.heap.size ≤ s_.1) ∧ Aside0 (g1 ≠ s_.1) ∧ Aside0 (s_.1 ≠ g1) ∧ Aside0 (g2 ≠ s_.1) ∧ Aside0 (s_.1 ≠ g2) ∧ Aside0 (g3 ≠ s_.1) ∧ Aside0 (s_.1 ≠ g3) ∧ Aside0 (g4 ≠ s_.1) ∧ Aside0 (s_.1 ≠ g4) ∧ Aside0 (g5 ≠ s_.1) ∧ Aside0 (s_.1 ≠ g5) ∧ Aside0 (g6 ≠ s_.1) ∧ Aside0 (s_.1 ≠ g6) ∧ Aside0 (s_.2 ≠ s_.1) ∧ Aside0 (s_.1 ≠ s_.2) ∧ Aside0 (w.heap.size ≤ s_.2) ∧ Aside0 (w.heap.size ≤ s_.2) ∧ Aside0 (g1 ≠ s_.2) ∧ Aside0 (s_.2 ≠ g1) ∧ Aside0 (g2 ≠ s_.2) ∧ Aside0 (s_.2 ≠ g2) ∧ Aside0 (g3 ≠ s_.2) ∧ Aside0 (s_.2 ≠ g3) ∧ Aside0 (g4 ≠ s_.2) ∧ Aside0 (s_.2 ≠ g4) ∧ Aside0 (g5 ≠ s_.2) ∧ Aside0 (s_.2 ≠ g5) ∧ Aside0 (g6 ≠ s_.2) ∧ Aside0 (s_.2 ≠ g6) ∧ Aside0 (Below w.heap.size w w')) ?_ ?_
 rotate_left
 ·intro hJ2_3_6_7_8_9
  refine join_ (σ := Nat) 3 (lb 12 511) (fun s_ => [(41, .agg #[.int .i64 t13, .int .i64 t14]), (42, .agg #[.int .i64 t15, .int .i64 t16, .int .i64 t17, .int .i64 t18]), (45, .agg #[.int .i64 t19, .int .i64 t20]), (46, .agg #[.int .i64 t21, .int .i64 t22, .int .i64 t23, .int .i64 t24]), (10, .pointer (some ⟨s_, 0, none⟩))]) (fun s_ w' => (ce2 w' g5 t9 t10 ∧ ce4 w' g1 a1_0 a1_1 a1_2 a1_3 ∧ ce2 w' g6 t11 t12 ∧ ce4 w' g2 a2_0 a2_1 a2_2 a2_3) ∧ Bx4 w' g1 a1_0 a1_1 a1_2 a1_3 50 ∧ Bx4 w' g2 a2_0 a2_1 a2_2 a2_3 50 ∧ Bx4 w' g3 0 0 0 0 50 ∧ Bx4 w' g4 0 0 0 0 50 ∧ Bx2 w' g5 t9 t10 24 ∧ Bx2 w' g6 t11 t12 24 ∧ Bx4 w' s_ 0 0 0 0 50 ∧ Aside0 (w.heap.size ≤ s_) ∧ Aside0 (w.heap.size ≤ s_) ∧ Aside0 (g1 ≠ s_) ∧ Aside0 (s_ ≠ g1) ∧ Aside0 (g2 ≠ s_) ∧ Aside0 (s_ ≠ g2) ∧ Aside0 (g3 ≠ s_) ∧ Aside0 (s_ ≠ g3) ∧ Aside0 (g4 ≠ s_) ∧ Aside0 (s_ ≠ g4) ∧ Aside0 (g5 ≠ s_) ∧ Aside0 (s_ ≠ g5) ∧ Aside0 (g6 ≠ s_) ∧ Aside0 (s_ ≠ g6) ∧ Aside0 (Below w.heap.size w w')) ?_ ?_
  rotate_left
  rotate_left
  ·skip
   rintro g7 w10 ⟨hHeld, K1, K2, K3, K4, K5, K6, K7, G9, G10, N31, N32, N33, N34, N35, N36, N37, N38, N39, N40, N41, N42, HB⟩
   refine norm_ nz ?_
   refine on 9 (some 11) 1023 fun K hK => ?_
   refine box_step ?hg (N := 11) ?hd (cs := #[.int .i64 0, .int .i64 0, .int .i64 0, .int .i64 0]) (t := 50) ?hr ?_; (case hd => rfl); (case hg => rfl); (case hr => first | (go_simp; done) | (go_simp; rfl))
   intro g8 hg w11 hbox hb
   have K8 := am (hbox)
   have G11 := am (bs hg (YA HB))
   have G12 := am (bs hg (YA HB))
   obtain ⟨N43,N44⟩ := ne_ hg K1
   obtain ⟨N45,N46⟩ := ne_ hg K2
   obtain ⟨N47,N48⟩ := ne_ hg K3
   obtain ⟨N49,N50⟩ := ne_ hg K4
   obtain ⟨N51,N52⟩ := ne_ hg K5
   obtain ⟨N53,N54⟩ := ne_ hg K6
   obtain ⟨N55,N56⟩ := ne_ hg K7
   obtain ⟨K1, K2, K3, K4, K5, K6, K7, HB⟩ := bk7 K1 K2 K3 K4 K5 K6 K7 HB hb
   clear hb hbox hg
   refine kk hK ⟨cc2 K5, cc4 K1, cc2 K6, cc4 K2⟩ fun hHeld => ?_
   clear hK K
   exact norm_ nz (hJ2_3_6_7_8_9 (g7, g8) _ ⟨hHeld, ⟨Z K1⟩, ⟨Z K2⟩, ⟨Z K3⟩, ⟨Z K4⟩, ⟨Z K5⟩, ⟨Z K6⟩, ⟨Z K7⟩, ⟨Z K8⟩, G9, G10, N31, N32, N33, N34, N35, N36, N37, N38, N39, N40, N41, N42, N56, N55, G11, G12, N43, N44, N45, N46, N47, N48, N49, N50, N51, N52, N53, N54, ⟨YA HB⟩⟩)
  intro hJ2_3_6_7_8
  refine join_ (σ := Nat) 3 (lb 12 767) (fun s_ => [(41, .agg #[.int .i64 t13, .int .i64 t14]), (42, .agg #[.int .i64 t15, .int .i64 t16, .int .i64 t17, .int .i64 t18]), (45, .agg #[.int .i64 t19, .int .i64 t20]), (46, .agg #[.int .i64 t21, .int .i64 t22, .int .i64 t23, .int .i64 t24]), (11, .pointer (some ⟨s_, 0, none⟩))]) (fun s_ w' => (ce2 w' g5 t9 t10 ∧ ce4 w' g1 a1_0 a1_1 a1_2 a1_3 ∧ ce2 w' g6 t11 t12 ∧ ce4 w' g2 a2_0 a2_1 a2_2 a2_3) ∧ Bx4 w' g1 a1_0 a1_1 a1_2 a1_3 50 ∧ Bx4 w' g2 a2_0 a2_1 a2_2 a2_3 50 ∧ Bx4 w' g3 0 0 0 0 50 ∧ Bx4 w' g4 0 0 0 0 50 ∧ Bx2 w' g5 t9 t10 24 ∧ Bx2 w' g6 t11 t12 24 ∧ Bx4 w' s_ 0 0 0 0 50 ∧ Aside0 (w.heap.size ≤ s_) ∧ Aside0 (w.heap.size ≤ s_) ∧ Aside0 (g1 ≠ s_) ∧ Aside0 (s_ ≠ g1) ∧ Aside0 (g2 ≠ s_) ∧ Aside0 (s_ ≠ g2) ∧ Aside0 (g3 ≠ s_) ∧ Aside0 (s_ ≠ g3) ∧ Aside0 (g4 ≠ s_) ∧ Aside0 (s_ ≠ g4) ∧ Aside0 (g5 ≠ s_) ∧ Aside0 (s_ ≠ g5) ∧ Aside0 (g6 ≠ s_) ∧ Aside0 (s_ ≠ g6) ∧ Aside0 (Below w.heap.size w w')) ?_ ?_
  rotate_left
  rotate_left
  ·skip
   rintro g7 w10 ⟨hHeld, K1, K2, K3, K4, K5, K6, K7, G9, G10, N31, N32, N33, N34, N35, N36, N37, N38, N39, N40, N41, N42, HB⟩
   refine norm_ nz ?_
   refine on 8 (some 10) 1023 fun K hK => ?_
   refine box_step ?hg (N := 10) ?hd (cs := #[.int .i64 0, .int .i64 0, .int .i64 0, .int .i64 0]) (t := 50) ?hr ?_; (case hd => rfl); (case hg => rfl); (case hr => first | (go_simp; done) | (go_simp; rfl))
   intro g8 hg w11 hbox hb
   have K8 := am (hbox)
   have G11 := am (bs hg (YA HB))
   have G12 := am (bs hg (YA HB))
   obtain ⟨N43,N44⟩ := ne_ hg K1
   obtain ⟨N45,N46⟩ := ne_ hg K2
   obtain ⟨N47,N48⟩ := ne_ hg K3
   obtain ⟨N49,N50⟩ := ne_ hg K4
   obtain ⟨N51,N52⟩ := ne_ hg K5
   obtain ⟨N53,N54⟩ := ne_ hg K6
   obtain ⟨N55,N56⟩ := ne_ hg K7
   obtain ⟨K1, K2, K3, K4, K5, K6, K7, HB⟩ := bk7 K1 K2 K3 K4 K5 K6 K7 HB hb
   clear hb hbox hg
   refine kk hK ⟨cc2 K5, cc4 K1, cc2 K6, cc4 K2⟩ fun hHeld => ?_
   clear hK K
   exact norm_ nz (hJ2_3_6_7_8_9 (g8, g7) _ ⟨hHeld, ⟨Z K1⟩, ⟨Z K2⟩, ⟨Z K3⟩, ⟨Z K4⟩, ⟨Z K5⟩, ⟨Z K6⟩, ⟨Z K8⟩, ⟨Z K7⟩, G11, G12, N43, N44, N45, N46, N47, N48, N49, N50, N51, N52, N53, N54, N55, N56, G9, G10, N31, N32, N33, N34, N35, N36, N37, N38, N39, N40, N41, N42, ⟨YA HB⟩⟩)
  intro hJ2_3_6_7_9
  refine join_ (σ := Nat × Nat) 3 (lb 12 895) (fun s_ => [(41, .agg #[.int .i64 t13, .int .i64 t14]), (42, .agg #[.int .i64 t15, .int .i64 t16, .int .i64 t17, .int .i64 t18]), (45, .agg #[.int .i64 t19, .int .i64 t20]), (10, .pointer (some ⟨s_.1, 0, none⟩)), (11, .pointer (some ⟨s_.2, 0, none⟩))]) (fun s_ w' => (ce2 w' g5 t9 t10 ∧ ce4 w' g1 a1_0 a1_1 a1_2 a1_3 ∧ ce2 w' g6 t11 t12 ∧ ce4 w' g2 a2_0 a2_1 a2_2 a2_3) ∧ Bx4 w' g1 a1_0 a1_1 a1_2 a1_3 50 ∧ Bx4 w' g2 a2_0 a2_1 a2_2 a2_3 50 ∧ Bx4 w' g3 0 0 0 0 50 ∧ Bx4 w' g4 0 0 0 0 50 ∧ Bx2 w' g5 t9 t10 24 ∧ Bx2 w' g6 t11 t12 24 ∧ Bx4 w' s_.1 0 0 0 0 50 ∧ Bx4 w' s_.2 0 0 0 0 50 ∧ Aside0 (w.heap.size ≤ s_.1) ∧ Aside0 (w.heap.size ≤ s_.1) ∧ Aside0 (g1 ≠ s_.1) ∧ Aside0 (s_.1 ≠ g1) ∧ Aside0 (g2 ≠ s_.1) ∧ Aside0 (s_.1 ≠ g2) ∧ Aside0 (g3 ≠ s_.1) ∧ Aside0 (s_.1 ≠ g3) ∧ Aside0 (g4 ≠ s_.1) ∧ Aside0 (s_.1 ≠ g4) ∧ Aside0 (g5 ≠ s_.1) ∧ Aside0 (s_.1 ≠ g5) ∧ Aside0 (g6 ≠ s_.1) ∧ Aside0 (s_.1 ≠ g6) ∧ Aside0 (s_.2 ≠ s_.1) ∧ Aside0 (s_.1 ≠ s_.2) ∧ Aside0 (w.heap.size ≤ s_.2) ∧ Aside0 (w.heap.size ≤ s_.2) ∧ Aside0 (g1 ≠ s_.2) ∧ Aside0 (s_.2 ≠ g1) ∧ Aside0 (g2 ≠ s_.2) ∧ Aside0 (s_.2 ≠ g2) ∧ Aside0 (g3 ≠ s_.2) ∧ Aside0 (s_.2 ≠ g3) ∧ Aside0 (g4 ≠ s_.2) ∧ Aside0 (s_.2 ≠ g4) ∧ Aside0 (g5 ≠ s_.2) ∧ Aside0 (s_.2 ≠ g5) ∧ Aside0 (g6 ≠ s_.2) ∧ Aside0 (s_.2 ≠ g6) ∧ Aside0 (Below w.heap.size w w')) ?_ ?_
  rotate_left
  rotate_left
  ·skip
   rintro ⟨g7, g8⟩ w10 H_
   dsimp only at H_
   obtain ⟨hHeld, K1, K2, K3, K4, K5, K6, K7, K8, G9, G10, N31, N32, N33, N34, N35, N36, N37, N38, N39, N40, N41, N42, N43, N44, G11, G12, N45, N46, N47, N48, N49, N50, N51, N52, N53, N54, N55, N56, HB⟩ := H_
   refine norm_ nz ?_
   refine on 7 (some 46) 1023 fun K hK => ?_
   refine ck hK Try.func80 (impl_ValMake.calls _ _ _ _ _ _ _ _ _ _ A7.out) (fun _ b => bk8 K1 K2 K3 K4 K5 K6 K7 K8 HB b) fun w11 Q_ hHeld => ?_
   clear hK K
   obtain ⟨K1, K2, K3, K4, K5, K6, K7, K8, HB⟩ := Q_
   exact norm_ nz (hJ2_3_6_7_8_9 (g7, g8) _ ⟨hHeld, ⟨Z K1⟩, ⟨Z K2⟩, ⟨Z K3⟩, ⟨Z K4⟩, ⟨Z K5⟩, ⟨Z K6⟩, ⟨Z K7⟩, ⟨Z K8⟩, G9, G10, N31, N32, N33, N34, N35, N36, N37, N38, N39, N40, N41, N42, N43, N44, G11, G12, N45, N46, N47, N48, N49, N50, N51, N52, N53, N54, N55, N56, ⟨YA HB⟩⟩)
  intro hJ2_3_6_8_9
  refine join_ (σ := Unit) 4 (lb 12 255) (fun s_ => [(41, .agg #[.int .i64 t13, .int .i64 t14]), (42, .agg #[.int .i64 t15, .int .i64 t16, .int .i64 t17, .int .i64 t18]), (45, .agg #[.int .i64 t19, .int .i64 t20]), (46, .agg #[.int .i64 t21, .int .i64 t22, .int .i64 t23, .int .i64 t24])]) (fun s_ w' => (ce2 w' g5 t9 t10 ∧ ce4 w' g1 a1_0 a1_1 a1_2 a1_3 ∧ ce2 w' g6 t11 t12 ∧ ce4 w' g2 a2_0 a2_1 a2_2 a2_3) ∧ Bx4 w' g1 a1_0 a1_1 a1_2 a1_3 50 ∧ Bx4 w' g2 a2_0 a2_1 a2_2 a2_3 50 ∧ Bx4 w' g3 0 0 0 0 50 ∧ Bx4 w' g4 0 0 0 0 50 ∧ Bx2 w' g5 t9 t10 24 ∧ Bx2 w' g6 t11 t12 24 ∧ Aside0 (Below w.heap.size w w')) ?_ ?_
  rotate_left
  rotate_left
  ·skip
   rintro _ w10 ⟨hHeld, K1, K2, K3, K4, K5, K6, HB⟩
   refine norm_ nz ?_
   refine two_ (i := 8) (j := 9) (Ni := some 10) (Nj := some 11) (lb 12 511) (lb 12 767) rfl rfl rfl rfl (two_of HT_.out (by kernel_rfl)) (by decide) (by decide) (fun K hK => ?_) (fun K hK => ?_)
   ·skip
    refine box_step ?hg (N := 10) ?hd (cs := #[.int .i64 0, .int .i64 0, .int .i64 0, .int .i64 0]) (t := 50) ?hr ?_; (case hd => rfl); (case hg => rfl); (case hr => first | (go_simp; done) | (go_simp; rfl))
    intro g7 hg w11 hbox hb
    have K7 := am (hbox)
    have G9 := am (bs hg (YA HB))
    have G10 := am (bs hg (YA HB))
    obtain ⟨N31,N32⟩ := ne_ hg K1
    obtain ⟨N33,N34⟩ := ne_ hg K2
    obtain ⟨N35,N36⟩ := ne_ hg K3
    obtain ⟨N37,N38⟩ := ne_ hg K4
    obtain ⟨N39,N40⟩ := ne_ hg K5
    obtain ⟨N41,N42⟩ := ne_ hg K6
    obtain ⟨K1, K2, K3, K4, K5, K6, HB⟩ := bk6 K1 K2 K3 K4 K5 K6 HB hb
    clear hb hbox hg
    refine kk hK ⟨cc2 K5, cc4 K1, cc2 K6, cc4 K2⟩ fun hHeld => ?_
    clear hK K
    exact norm_ nz (hJ2_3_6_7_8 (g7) _ ⟨hHeld, ⟨Z K1⟩, ⟨Z K2⟩, ⟨Z K3⟩, ⟨Z K4⟩, ⟨Z K5⟩, ⟨Z K6⟩, ⟨Z K7⟩, G9, G10, N31, N32, N33, N34, N35, N36, N37, N38, N39, N40, N41, N42, ⟨YA HB⟩⟩)
   skip
   refine box_step ?hg (N := 11) ?hd (cs := #[.int .i64 0, .int .i64 0, .int .i64 0, .int .i64 0]) (t := 50) ?hr ?_; (case hd => rfl); (case hg => rfl); (case hr => first | (go_simp; done) | (go_simp; rfl))
   intro g7 hg w11 hbox hb
   have K7 := am (hbox)
   have G9 := am (bs hg (YA HB))
   have G10 := am (bs hg (YA HB))
   obtain ⟨N31,N32⟩ := ne_ hg K1
   obtain ⟨N33,N34⟩ := ne_ hg K2
   obtain ⟨N35,N36⟩ := ne_ hg K3
   obtain ⟨N37,N38⟩ := ne_ hg K4
   obtain ⟨N39,N40⟩ := ne_ hg K5
   obtain ⟨N41,N42⟩ := ne_ hg K6
   obtain ⟨K1, K2, K3, K4, K5, K6, HB⟩ := bk6 K1 K2 K3 K4 K5 K6 HB hb
   clear hb hbox hg
   refine kk hK ⟨cc2 K5, cc4 K1, cc2 K6, cc4 K2⟩ fun hHeld => ?_
   clear hK K
   exact norm_ nz (hJ2_3_6_7_9 (g7) _ ⟨hHeld, ⟨Z K1⟩, ⟨Z K2⟩, ⟨Z K3⟩, ⟨Z K4⟩, ⟨Z K5⟩, ⟨Z K6⟩, ⟨Z K7⟩, G9, G10, N31, N32, N33, N34, N35, N36, N37, N38, N39, N40, N41, N42, ⟨YA HB⟩⟩)
  intro hJ2_3_6_7
  refine join_ (σ := Nat) 4 (lb 12 383) (fun s_ => [(41, .agg #[.int .i64 t13, .int .i64 t14]), (42, .agg #[.int .i64 t15, .int .i64 t16, .int .i64 t17, .int .i64 t18]), (45, .agg #[.int .i64 t19, .int .i64 t20]), (10, .pointer (some ⟨s_, 0, none⟩))]) (fun s_ w' => (ce2 w' g5 t9 t10 ∧ ce4 w' g1 a1_0 a1_1 a1_2 a1_3 ∧ ce2 w' g6 t11 t12 ∧ ce4 w' g2 a2_0 a2_1 a2_2 a2_3) ∧ Bx4 w' g1 a1_0 a1_1 a1_2 a1_3 50 ∧ Bx4 w' g2 a2_0 a2_1 a2_2 a2_3 50 ∧ Bx4 w' g3 0 0 0 0 50 ∧ Bx4 w' g4 0 0 0 0 50 ∧ Bx2 w' g5 t9 t10 24 ∧ Bx2 w' g6 t11 t12 24 ∧ Bx4 w' s_ 0 0 0 0 50 ∧ Aside0 (w.heap.size ≤ s_) ∧ Aside0 (w.heap.size ≤ s_) ∧ Aside0 (g1 ≠ s_) ∧ Aside0 (s_ ≠ g1) ∧ Aside0 (g2 ≠ s_) ∧ Aside0 (s_ ≠ g2) ∧ Aside0 (g3 ≠ s_) ∧ Aside0 (s_ ≠ g3) ∧ Aside0 (g4 ≠ s_) ∧ Aside0 (s_ ≠ g4) ∧ Aside0 (g5 ≠ s_) ∧ Aside0 (s_ ≠ g5) ∧ Aside0 (g6 ≠ s_) ∧ Aside0 (s_ ≠ g6) ∧ Aside0 (Below w.heap.size w w')) ?_ ?_
  rotate_left
  rotate_left
  ·skip
   rintro g7 w10 ⟨hHeld, K1, K2, K3, K4, K5, K6, K7, G9, G10, N31, N32, N33, N34, N35, N36, N37, N38, N39, N40, N41, N42, HB⟩
   refine norm_ nz ?_
   refine two_ (i := 7) (j := 9) (Ni := some 46) (Nj := some 11) (lb 12 511) (lb 12 895) rfl rfl rfl rfl (two_of HT_.out (by kernel_rfl)) (by decide) (by decide) (fun K hK => ?_) (fun K hK => ?_)
   ·skip
    refine ck hK Try.func80 (impl_ValMake.calls _ _ _ _ _ _ _ _ _ _ A7.out) (fun _ b => bk7 K1 K2 K3 K4 K5 K6 K7 HB b) fun w11 Q_ hHeld => ?_
    clear hK K
    obtain ⟨K1, K2, K3, K4, K5, K6, K7, HB⟩ := Q_
    exact norm_ nz (hJ2_3_6_7_8 (g7) _ ⟨hHeld, ⟨Z K1⟩, ⟨Z K2⟩, ⟨Z K3⟩, ⟨Z K4⟩, ⟨Z K5⟩, ⟨Z K6⟩, ⟨Z K7⟩, G9, G10, N31, N32, N33, N34, N35, N36, N37, N38, N39, N40, N41, N42, ⟨YA HB⟩⟩)
   skip
   refine box_step ?hg (N := 11) ?hd (cs := #[.int .i64 0, .int .i64 0, .int .i64 0, .int .i64 0]) (t := 50) ?hr ?_; (case hd => rfl); (case hg => rfl); (case hr => first | (go_simp; done) | (go_simp; rfl))
   intro g8 hg w11 hbox hb
   have K8 := am (hbox)
   have G11 := am (bs hg (YA HB))
   have G12 := am (bs hg (YA HB))
   obtain ⟨N43,N44⟩ := ne_ hg K1
   obtain ⟨N45,N46⟩ := ne_ hg K2
   obtain ⟨N47,N48⟩ := ne_ hg K3
   obtain ⟨N49,N50⟩ := ne_ hg K4
   obtain ⟨N51,N52⟩ := ne_ hg K5
   obtain ⟨N53,N54⟩ := ne_ hg K6
   obtain ⟨N55,N56⟩ := ne_ hg K7
   obtain ⟨K1, K2, K3, K4, K5, K6, K7, HB⟩ := bk7 K1 K2 K3 K4 K5 K6 K7 HB hb
   clear hb hbox hg
   refine kk hK ⟨cc2 K5, cc4 K1, cc2 K6, cc4 K2⟩ fun hHeld => ?_
   clear hK K
   exact norm_ nz (hJ2_3_6_8_9 (g7, g8) _ ⟨hHeld, ⟨Z K1⟩, ⟨Z K2⟩, ⟨Z K3⟩, ⟨Z K4⟩, ⟨Z K5⟩, ⟨Z K6⟩, ⟨Z K7⟩, ⟨Z K8⟩, G9, G10, N31, N32, N33, N34, N35, N36, N37, N38, N39, N40, N41, N42, N56, N55, G11, G12, N43, N44, N45, N46, N47, N48, N49, N50, N51, N52, N53, N54, ⟨YA HB⟩⟩)
  intro hJ2_3_6_8
  refine join_ (σ := Nat) 4 (lb 12 639) (fun s_ => [(41, .agg #[.int .i64 t13, .int .i64 t14]), (42, .agg #[.int .i64 t15, .int .i64 t16, .int .i64 t17, .int .i64 t18]), (45, .agg #[.int .i64 t19, .int .i64 t20]), (11, .pointer (some ⟨s_, 0, none⟩))]) (fun s_ w' => (ce2 w' g5 t9 t10 ∧ ce4 w' g1 a1_0 a1_1 a1_2 a1_3 ∧ ce2 w' g6 t11 t12 ∧ ce4 w' g2 a2_0 a2_1 a2_2 a2_3) ∧ Bx4 w' g1 a1_0 a1_1 a1_2 a1_3 50 ∧ Bx4 w' g2 a2_0 a2_1 a2_2 a2_3 50 ∧ Bx4 w' g3 0 0 0 0 50 ∧ Bx4 w' g4 0 0 0 0 50 ∧ Bx2 w' g5 t9 t10 24 ∧ Bx2 w' g6 t11 t12 24 ∧ Bx4 w' s_ 0 0 0 0 50 ∧ Aside0 (w.heap.size ≤ s_) ∧ Aside0 (w.heap.size ≤ s_) ∧ Aside0 (g1 ≠ s_) ∧ Aside0 (s_ ≠ g1) ∧ Aside0 (g2 ≠ s_) ∧ Aside0 (s_ ≠ g2) ∧ Aside0 (g3 ≠ s_) ∧ Aside0 (s_ ≠ g3) ∧ Aside0 (g4 ≠ s_) ∧ Aside0 (s_ ≠ g4) ∧ Aside0 (g5 ≠ s_) ∧ Aside0 (s_ ≠ g5) ∧ Aside0 (g6 ≠ s_) ∧ Aside0 (s_ ≠ g6) ∧ Aside0 (Below w.heap.size w w')) ?_ ?_
  rotate_left
  rotate_left
  ·skip
   rintro g7 w10 ⟨hHeld, K1, K2, K3, K4, K5, K6, K7, G9, G10, N31, N32, N33, N34, N35, N36, N37, N38, N39, N40, N41, N42, HB⟩
   refine norm_ nz ?_
   refine two_ (i := 7) (j := 8) (Ni := some 46) (Nj := some 10) (lb 12 767) (lb 12 895) rfl rfl rfl rfl (two_of HT_.out (by kernel_rfl)) (by decide) (by decide) (fun K hK => ?_) (fun K hK => ?_)
   ·skip
    refine ck hK Try.func80 (impl_ValMake.calls _ _ _ _ _ _ _ _ _ _ A7.out) (fun _ b => bk7 K1 K2 K3 K4 K5 K6 K7 HB b) fun w11 Q_ hHeld => ?_
    clear hK K
    obtain ⟨K1, K2, K3, K4, K5, K6, K7, HB⟩ := Q_
    exact norm_ nz (hJ2_3_6_7_9 (g7) _ ⟨hHeld, ⟨Z K1⟩, ⟨Z K2⟩, ⟨Z K3⟩, ⟨Z K4⟩, ⟨Z K5⟩, ⟨Z K6⟩, ⟨Z K7⟩, G9, G10, N31, N32, N33, N34, N35, N36, N37, N38, N39, N40, N41, N42, ⟨YA HB⟩⟩)
   skip
   refine box_step ?hg (N := 10) ?hd (cs := #[.int .i64 0, .int .i64 0, .int .i64 0, .int .i64 0]) (t := 50) ?hr ?_; (case hd => rfl); (case hg => rfl); (case hr => first | (go_simp; done) | (go_simp; rfl))
   intro g8 hg w11 hbox hb
   have K8 := am (hbox)
   have G11 := am (bs hg (YA HB))
   have G12 := am (bs hg (YA HB))
   obtain ⟨N43,N44⟩ := ne_ hg K1
   obtain ⟨N45,N46⟩ := ne_ hg K2
   obtain ⟨N47,N48⟩ := ne_ hg K3
   obtain ⟨N49,N50⟩ := ne_ hg K4
   obtain ⟨N51,N52⟩ := ne_ hg K5
   obtain ⟨N53,N54⟩ := ne_ hg K6
   obtain ⟨N55,N56⟩ := ne_ hg K7
   obtain ⟨K1, K2, K3, K4, K5, K6, K7, HB⟩ := bk7 K1 K2 K3 K4 K5 K6 K7 HB hb
   clear hb hbox hg
   refine kk hK ⟨cc2 K5, cc4 K1, cc2 K6, cc4 K2⟩ fun hHeld => ?_
   clear hK K
   exact norm_ nz (hJ2_3_6_8_9 (g8, g7) _ ⟨hHeld, ⟨Z K1⟩, ⟨Z K2⟩, ⟨Z K3⟩, ⟨Z K4⟩, ⟨Z K5⟩, ⟨Z K6⟩, ⟨Z K8⟩, ⟨Z K7⟩, G11, G12, N43, N44, N45, N46, N47, N48, N49, N50, N51, N52, N53, N54, N55, N56, G9, G10, N31, N32, N33, N34, N35, N36, N37, N38, N39, N40, N41, N42, ⟨YA HB⟩⟩)
  intro hJ2_3_6_9
  refine join_ (σ := Nat × Nat) 4 (lb 12 831) (fun s_ => [(41, .agg #[.int .i64 t13, .int .i64 t14]), (42, .agg #[.int .i64 t15, .int .i64 t16, .int .i64 t17, .int .i64 t18]), (10, .pointer (some ⟨s_.1, 0, none⟩)), (11, .pointer (some ⟨s_.2, 0, none⟩))]) (fun s_ w' => (ce2 w' g5 t9 t10 ∧ ce4 w' g1 a1_0 a1_1 a1_2 a1_3 ∧ ce2 w' g6 t11 t12 ∧ ce4 w' g2 a2_0 a2_1 a2_2 a2_3) ∧ Bx4 w' g1 a1_0 a1_1 a1_2 a1_3 50 ∧ Bx4 w' g2 a2_0 a2_1 a2_2 a2_3 50 ∧ Bx4 w' g3 0 0 0 0 50 ∧ Bx4 w' g4 0 0 0 0 50 ∧ Bx2 w' g5 t9 t10 24 ∧ Bx2 w' g6 t11 t12 24 ∧ Bx4 w' s_.1 0 0 0 0 50 ∧ Bx4 w' s_.2 0 0 0 0 50 ∧ Aside0 (w.heap.size ≤ s_.1) ∧ Aside0 (w.heap.size ≤ s_.1) ∧ Aside0 (g1 ≠ s_.1) ∧ Aside0 (s_.1 ≠ g1) ∧ Aside0 (g2 ≠ s_.1) ∧ Aside0 (s_.1 ≠ g2) ∧ Aside0 (g3 ≠ s_.1) ∧ Aside0 (s_.1 ≠ g3) ∧ Aside0 (g4 ≠ s_.1) ∧ Aside0 (s_.1 ≠ g4) ∧ Aside0 (g5 ≠ s_.1) ∧ Aside0 (s_.1 ≠ g5) ∧ Aside0 (g6 ≠ s_.1) ∧ Aside0 (s_.1 ≠ g6) ∧ Aside0 (s_.2 ≠ s_.1) ∧ Aside0 (s_.1 ≠ s_.2) ∧ Aside0 (w.heap.size ≤ s_.2) ∧ Aside0 (w.heap.size ≤ s_.2) ∧ Aside0 (g1 ≠ s_.2) ∧ Aside0 (s_.2 ≠ g1) ∧ Aside0 (g2 ≠ s_.2) ∧ Aside0 (s_.2 ≠ g2) ∧ Aside0 (g3 ≠ s_.2) ∧ Aside0 (s_.2 ≠ g3) ∧ Aside0 (g4 ≠ s_.2) ∧ Aside0 (s_.2 ≠ g4) ∧ Aside0 (g5 ≠ s_.2) ∧ Aside0 (s_.2 ≠ g5) ∧ Aside0 (g6 ≠ s_.2) ∧ Aside0 (s_.2 ≠ g6) ∧ Aside0 (Below w.heap.size w w')) ?_ ?_
  rotate_left
  rotate_left
  ·skip
   rintro ⟨g7, g8⟩ w10 H_
   dsimp only at H_
   obtain ⟨hHeld, K1, K2, K3, K4, K5, K6, K7, K8, G9, G10, N31, N32, N33, N34, N35, N36, N37, N38, N39, N40, N41, N42, N43, N44, G11, G12, N45, N46, N47, N48, N49, N50, N51, N52, N53, N54, N55, N56, HB⟩ := H_
   refine norm_ nz ?_
   refine on 6 (some 45) 895 fun K hK => ?_
   refine ck hK Try.func82 (impl_Val_rest.calls _ _ _ _ _ _ _ A6.out) (fun _ b => bk8 K1 K2 K3 K4 K5 K6 K7 K8 HB b) fun w11 Q_ hHeld => ?_
   clear hK K
   obtain ⟨K1, K2, K3, K4, K5, K6, K7, K8, HB⟩ := Q_
   exact norm_ nz (hJ2_3_6_8_9 (g7, g8) _ ⟨hHeld, ⟨Z K1⟩, ⟨Z K2⟩, ⟨Z K3⟩, ⟨Z K4⟩, ⟨Z K5⟩, ⟨Z K6⟩, ⟨Z K7⟩, ⟨Z K8⟩, G9, G10, N31, N32, N33, N34, N35, N36, N37, N38, N39, N40, N41, N42, N43, N44, G11, G12, N45, N46, N47, N48, N49, N50, N51, N52, N53, N54, N55, N56, ⟨YA HB⟩⟩)
  intro hJ2_3_8_9
  refine join_ (σ := Unit) 5 (lb 12 127) (fun s_ => [(41, .agg #[.int .i64 t13, .int .i64 t14]), (42, .agg #[.int .i64 t15, .int .i64 t16, .int .i64 t17, .int .i64 t18]), (45, .agg #[.int .i64 t19, .int .i64 t20])]) (fun s_ w' => (ce2 w' g5 t9 t10 ∧ ce4 w' g1 a1_0 a1_1 a1_2 a1_3 ∧ ce2 w' g6 t11 t12 ∧ ce4 w' g2 a2_0 a2_1 a2_2 a2_3) ∧ Bx4 w' g1 a1_0 a1_1 a1_2 a1_3 50 ∧ Bx4 w' g2 a2_0 a2_1 a2_2 a2_3 50 ∧ Bx4 w' g3 0 0 0 0 50 ∧ Bx4 w' g4 0 0 0 0 50 ∧ Bx2 w' g5 t9 t10 24 ∧ Bx2 w' g6 t11 t12 24 ∧ Aside0 (Below w.heap.size w w')) ?_ ?_
  rotate_left
  rotate_left
  ·skip
   rintro _ w10 ⟨hHeld, K1, K2, K3, K4, K5, K6, HB⟩
   refine norm_ nz ?_
   refine three_ (i := 7) (j := 8) (k := 9) (Ni := some 46) (Nj := some 10) (Nk := some 11) (lb 12 255) (lb 12 383) (lb 12 639) rfl rfl rfl rfl rfl rfl (three_of HT_.out (by kernel_rfl)) (by decide) (by decide) (by decide) (fun K hK => ?_) (fun K hK => ?_) (fun K hK => ?_)
   ·skip
    refine ck hK Try.func80 (impl_ValMake.calls _ _ _ _ _ _ _ _ _ _ A7.out) (fun _ b => bk6 K1 K2 K3 K4 K5 K6 HB b) fun w11 Q_ hHeld => ?_
    clear hK K
    obtain ⟨K1, K2, K3, K4, K5, K6, HB⟩ := Q_
    exact norm_ nz (hJ2_3_6_7 () _ ⟨hHeld, ⟨Z K1⟩, ⟨Z K2⟩, ⟨Z K3⟩, ⟨Z K4⟩, ⟨Z K5⟩, ⟨Z K6⟩, ⟨YA HB⟩⟩)
   ·skip
    refine box_step ?hg (N := 10) ?hd (cs := #[.int .i64 0, .int .i64 0, .int .i64 0, .int .i64 0]) (t := 50) ?hr ?_; (case hd => rfl); (case hg => rfl); (case hr => first | (go_simp; done) | (go_simp; rfl))
    intro g7 hg w11 hbox hb
    have K7 := am (hbox)
    have G9 := am (bs hg (YA HB))
    have G10 := am (bs hg (YA HB))
    obtain ⟨N31,N32⟩ := ne_ hg K1
    obtain ⟨N33,N34⟩ := ne_ hg K2
    obtain ⟨N35,N36⟩ := ne_ hg K3
    obtain ⟨N37,N38⟩ := ne_ hg K4
    obtain ⟨N39,N40⟩ := ne_ hg K5
    obtain ⟨N41,N42⟩ := ne_ hg K6
    obtain ⟨K1, K2, K3, K4, K5, K6, HB⟩ := bk6 K1 K2 K3 K4 K5 K6 HB hb
    clear hb hbox hg
    refine kk hK ⟨cc2 K5, cc4 K1, cc2 K6, cc4 K2⟩ fun hHeld => ?_
    clear hK K
    exact norm_ nz (hJ2_3_6_8 (g7) _ ⟨hHeld, ⟨Z K1⟩, ⟨Z K2⟩, ⟨Z K3⟩, ⟨Z K4⟩, ⟨Z K5⟩, ⟨Z K6⟩, ⟨Z K7⟩, G9, G10, N31, N32, N33, N34, N35, N36, N37, N38, N39, N40, N41, N42, ⟨YA HB⟩⟩)
   skip
   refine box_step ?hg (N := 11) ?hd (cs := #[.int .i64 0, .int .i64 0, .int .i64 0, .int .i64 0]) (t := 50) ?hr ?_; (case hd => rfl); (case hg => rfl); (case hr => first | (go_simp; done) | (go_simp; rfl))
   intro g7 hg w11 hbox hb
   have K7 := am (hbox)
   have G9 := am (bs hg (YA HB))
   have G10 := am (bs hg (YA HB))
   obtain ⟨N31,N32⟩ := ne_ hg K1
   obtain ⟨N33,N34⟩ := ne_ hg K2
   obtain ⟨N35,N36⟩ := ne_ hg K3
   obtain ⟨N37,N38⟩ := ne_ hg K4
   obtain ⟨N39,N40⟩ := ne_ hg K5
   obtain ⟨N41,N42⟩ := ne_ hg K6
   obtain ⟨K1, K2, K3, K4, K5, K6, HB⟩ := bk6 K1 K2 K3 K4 K5 K6 HB hb
   clear hb hbox hg
   refine kk hK ⟨cc2 K5, cc4 K1, cc2 K6, cc4 K2⟩ fun hHeld => ?_
   clear hK K
   exact norm_ nz (hJ2_3_6_9 (g7) _ ⟨hHeld, ⟨Z K1⟩, ⟨Z K2⟩, ⟨Z K3⟩, ⟨Z K4⟩, ⟨Z K5⟩, ⟨Z K6⟩, ⟨Z K7⟩, G9, G10, N31, N32, N33, N34, N35, N36, N37, N38, N39, N40, N41, N42, ⟨YA HB⟩⟩)
  intro hJ2_3_6
  refine join_ (σ := Nat) 5 (lb 12 319) (fun s_ => [(41, .agg #[.int .i64 t13, .int .i64 t14]), (42, .agg #[.int .i64 t15, .int .i64 t16, .int .i64 t17, .int .i64 t18]), (10, .pointer (some ⟨s_, 0, none⟩))]) (fun s_ w' => (ce2 w' g5 t9 t10 ∧ ce4 w' g1 a1_0 a1_1 a1_2 a1_3 ∧ ce2 w' g6 t11 t12 ∧ ce4 w' g2 a2_0 a2_1 a2_2 a2_3) ∧ Bx4 w' g1 a1_0 a1_1 a1_2 a1_3 50 ∧ Bx4 w' g2 a2_0 a2_1 a2_2 a2_3 50 ∧ Bx4 w' g3 0 0 0 0 50 ∧ Bx4 w' g4 0 0 0 0 50 ∧ Bx2 w' g5 t9 t10 24 ∧ Bx2 w' g6 t11 t12 24 ∧ Bx4 w' s_ 0 0 0 0 50 ∧ Aside0 (w.heap.size ≤ s_) ∧ Aside0 (w.heap.size ≤ s_) ∧ Aside0 (g1 ≠ s_) ∧ Aside0 (s_ ≠ g1) ∧ Aside0 (g2 ≠ s_) ∧ Aside0 (s_ ≠ g2) ∧ Aside0 (g3 ≠ s_) ∧ Aside0 (s_ ≠ g3) ∧ Aside0 (g4 ≠ s_) ∧ Aside0 (s_ ≠ g4) ∧ Aside0 (g5 ≠ s_) ∧ Aside0 (s_ ≠ g5) ∧ Aside0 (g6 ≠ s_) ∧ Aside0 (s_ ≠ g6) ∧ Aside0 (Below w.heap.size w w')) ?_ ?_
  rotate_left
  rotate_left
  ·skip
   rintro g7 w10 ⟨hHeld, K1, K2, K3, K4, K5, K6, K7, G9, G10, N31, N32, N33, N34, N35, N36, N37, N38, N39, N40, N41, N42, HB⟩
   refine norm_ nz ?_
   refine two_ (i := 6) (j := 9) (Ni := some 45) (Nj := some 11) (lb 12 383) (lb 12 831) rfl rfl rfl rfl (two_of HT_.out (by kernel_rfl)) (by decide) (by decide) (fun K hK => ?_) (fun K hK => ?_)
   ·skip
    refine ck hK Try.func82 (impl_Val_rest.calls _ _ _ _ _ _ _ A6.out) (fun _ b => bk7 K1 K2 K3 K4 K5 K6 K7 HB b) fun w11 Q_ hHeld => ?_
    clear hK K
    obtain ⟨K1, K2, K3, K4, K5, K6, K7, HB⟩ := Q_
    exact norm_ nz (hJ2_3_6_8 (g7) _ ⟨hHeld, ⟨Z K1⟩, ⟨Z K2⟩, ⟨Z K3⟩, ⟨Z K4⟩, ⟨Z K5⟩, ⟨Z K6⟩, ⟨Z K7⟩, G9, G10, N31, N32, N33, N34, N35, N36, N37, N38, N39, N40, N41, N42, ⟨YA HB⟩⟩)
   skip
   refine box_step ?hg (N := 11) ?hd (cs := #[.int .i64 0, .int .i64 0, .int .i64 0, .int .i64 0]) (t := 50) ?hr ?_; (case hd => rfl); (case hg => rfl); (case hr => first | (go_simp; done) | (go_simp; rfl))
   intro g8 hg w11 hbox hb
   have K8 := am (hbox)
   have G11 := am (bs hg (YA HB))
   have G12 := am (bs hg (YA HB))
   obtain ⟨N43,N44⟩ := ne_ hg K1
   obtain ⟨N45,N46⟩ := ne_ hg K2
   obtain ⟨N47,N48⟩ := ne_ hg K3
   obtain ⟨N49,N50⟩ := ne_ hg K4
   obtain ⟨N51,N52⟩ := ne_ hg K5
   obtain ⟨N53,N54⟩ := ne_ hg K6
   obtain ⟨N55,N56⟩ := ne_ hg K7
   obtain ⟨K1, K2, K3, K4, K5, K6, K7, HB⟩ := bk7 K1 K2 K3 K4 K5 K6 K7 HB hb
   clear hb hbox hg
   refine kk hK ⟨cc2 K5, cc4 K1, cc2 K6, cc4 K2⟩ fun hHeld => ?_
   clear hK K
   exact norm_ nz (hJ2_3_8_9 (g7, g8) _ ⟨hHeld, ⟨Z K1⟩, ⟨Z K2⟩, ⟨Z K3⟩, ⟨Z K4⟩, ⟨Z K5⟩, ⟨Z K6⟩, ⟨Z K7⟩, ⟨Z K8⟩, G9, G10, N31, N32, N33, N34, N35, N36, N37, N38, N39, N40, N41, N42, N56, N55, G11, G12, N43, N44, N45, N46, N47, N48, N49, N50, N51, N52, N53, N54, ⟨YA HB⟩⟩)
  intro hJ2_3_8
  refine join_ (σ := Nat) 5 (lb 12 575) (fun s_ => [(41, .agg #[.int .i64 t13, .int .i64 t14]), (42, .agg #[.int .i64 t15, .int .i64 t16, .int .i64 t17, .int .i64 t18]), (11, .pointer (some ⟨s_, 0, none⟩))]) (fun s_ w' => (ce2 w' g5 t9 t10 ∧ ce4 w' g1 a1_0 a1_1 a1_2 a1_3 ∧ ce2 w' g6 t11 t12 ∧ ce4 w' g2 a2_0 a2_1 a2_2 a2_3) ∧ Bx4 w' g1 a1_0 a1_1 a1_2 a1_3 50 ∧ Bx4 w' g2 a2_0 a2_1 a2_2 a2_3 50 ∧ Bx4 w' g3 0 0 0 0 50 ∧ Bx4 w' g4 0 0 0 0 50 ∧ Bx2 w' g5 t9 t10 24 ∧ Bx2 w' g6 t11 t12 24 ∧ Bx4 w' s_ 0 0 0 0 50 ∧ Aside0 (w.heap.size ≤ s_) ∧ Aside0 (w.heap.size ≤ s_) ∧ Aside0 (g1 ≠ s_) ∧ Aside0 (s_ ≠ g1) ∧ Aside0 (g2 ≠ s_) ∧ Aside0 (s_ ≠ g2) ∧ Aside0 (g3 ≠ s_) ∧ Aside0 (s_ ≠ g3) ∧ Aside0 (g4 ≠ s_) ∧ Aside0 (s_ ≠ g4) ∧ Aside0 (g5 ≠ s_) ∧ Aside0 (s_ ≠ g5) ∧ Aside0 (g6 ≠ s_) ∧ Aside0 (s_ ≠ g6) ∧ Aside0 (Below w.heap.size w w')) ?_ ?_
  rotate_left
  rotate_left
  ·skip
   rintro g7 w10 ⟨hHeld, K1, K2, K3, K4, K5, K6, K7, G9, G10, N31, N32, N33, N34, N35, N36, N37, N38, N39, N40, N41, N42, HB⟩
   refine norm_ nz ?_
   refine two_ (i := 6) (j := 8) (Ni := some 45) (Nj := some 10) (lb 12 639) (lb 12 831) rfl rfl rfl rfl (two_of HT_.out (by kernel_rfl)) (by decide) (by decide) (fun K hK => ?_) (fun K hK => ?_)
   ·skip
    refine ck hK Try.func82 (impl_Val_rest.calls _ _ _ _ _ _ _ A6.out) (fun _ b => bk7 K1 K2 K3 K4 K5 K6 K7 HB b) fun w11 Q_ hHeld => ?_
    clear hK K
    obtain ⟨K1, K2, K3, K4, K5, K6, K7, HB⟩ := Q_
    exact norm_ nz (hJ2_3_6_9 (g7) _ ⟨hHeld, ⟨Z K1⟩, ⟨Z K2⟩, ⟨Z K3⟩, ⟨Z K4⟩, ⟨Z K5⟩, ⟨Z K6⟩, ⟨Z K7⟩, G9, G10, N31, N32, N33, N34, N35, N36, N37, N38, N39, N40, N41, N42, ⟨YA HB⟩⟩)
   skip
   refine box_step ?hg (N := 10) ?hd (cs := #[.int .i64 0, .int .i64 0, .int .i64 0, .int .i64 0]) (t := 50) ?hr ?_; (case hd => rfl); (case hg => rfl); (case hr => first | (go_simp; done) | (go_simp; rfl))
   intro g8 hg w11 hbox hb
   have K8 := am (hbox)
   have G11 := am (bs hg (YA HB))
   have G12 := am (bs hg (YA HB))
   obtain ⟨N43,N44⟩ := ne_ hg K1
   obtain ⟨N45,N46⟩ := ne_ hg K2
   obtain ⟨N47,N48⟩ := ne_ hg K3
   obtain ⟨N49,N50⟩ := ne_ hg K4
   obtain ⟨N51,N52⟩ := ne_ hg K5
   obtain ⟨N53,N54⟩ := ne_ hg K6
   obtain ⟨N55,N56⟩ := ne_ hg K7
   obtain ⟨K1, K2, K3, K4, K5, K6, K7, HB⟩ := bk7 K1 K2 K3 K4 K5 K6 K7 HB hb
   clear hb hbox hg
   refine kk hK ⟨cc2 K5, cc4 K1, cc2 K6, cc4 K2⟩ fun hHeld => ?_
   clear hK K
   exact norm_ nz (hJ2_3_8_9 (g8, g7) _ ⟨hHeld, ⟨Z K1⟩, ⟨Z K2⟩, ⟨Z K3⟩, ⟨Z K4⟩, ⟨Z K5⟩, ⟨Z K6⟩, ⟨Z K8⟩, ⟨Z K7⟩, G11, G12, N43, N44, N45, N46, N47, N48, N49, N50, N51, N52, N53, N54, N55, N56, G9, G10, N31, N32, N33, N34, N35, N36, N37, N38, N39, N40, N41, N42, ⟨YA HB⟩⟩)
  intro hJ2_3_9
  refine join_ (σ := Nat × Nat) 5 (lb 12 823) (fun s_ => [(41, .agg #[.int .i64 t13, .int .i64 t14]), (10, .pointer (some ⟨s_.1, 0, none⟩)), (11, .pointer (some ⟨s_.2, 0, none⟩))]) (fun s_ w' => (ce2 w' g5 t9 t10 ∧ ce4 w' g1 a1_0 a1_1 a1_2 a1_3 ∧ ce2 w' g6 t11 t12 ∧ ce4 w' g2 a2_0 a2_1 a2_2 a2_3) ∧ Bx4 w' g1 a1_0 a1_1 a1_2 a1_3 50 ∧ Bx4 w' g2 a2_0 a2_1 a2_2 a2_3 50 ∧ Bx4 w' g3 0 0 0 0 50 ∧ Bx4 w' g4 0 0 0 0 50 ∧ Bx2 w' g5 t9 t10 24 ∧ Bx2 w' g6 t11 t12 24 ∧ Bx4 w' s_.1 0 0 0 0 50 ∧ Bx4 w' s_.2 0 0 0 0 50 ∧ Aside0 (w.heap.size ≤ s_.1) ∧ Aside0 (w.heap.size ≤ s_.1) ∧ Aside0 (g1 ≠ s_.1) ∧ Aside0 (s_.1 ≠ g1) ∧ Aside0 (g2 ≠ s_.1) ∧ Aside0 (s_.1 ≠ g2) ∧ Aside0 (g3 ≠ s_.1) ∧ Aside0 (s_.1 ≠ g3) ∧ Aside0 (g4 ≠ s_.1) ∧ Aside0 (s_.1 ≠ g4) ∧ Aside0 (g5 ≠ s_.1) ∧ Aside0 (s_.1 ≠ g5) ∧ Aside0 (g6 ≠ s_.1) ∧ Aside0 (s_.1 ≠ g6) ∧ Aside0 (s_.2 ≠ s_.1) ∧ Aside0 (s_.1 ≠ s_.2) ∧ Aside0 (w.heap.size ≤ s_.2) ∧ Aside0 (w.heap.size ≤ s_.2) ∧ Aside0 (g1 ≠ s_.2) ∧ Aside0 (s_.2 ≠ g1) ∧ Aside0 (g2 ≠ s_.2) ∧ Aside0 (s_.2 ≠ g2) ∧ Aside0 (g3 ≠ s_.2) ∧ Aside0 (s_.2 ≠ g3) ∧ Aside0 (g4 ≠ s_.2) ∧ Aside0 (s_.2 ≠ g4) ∧ Aside0 (g5 ≠ s_.2) ∧ Aside0 (s_.2 ≠ g5) ∧ Aside0 (g6 ≠ s_.2) ∧ Aside0 (s_.2 ≠ g6) ∧ Aside0 (Below w.heap.size w w')) ?_ ?_
  rotate_left
  rotate_left
  ·skip
   rintro ⟨g7, g8⟩ w10 H_
   dsimp only at H_
   obtain ⟨hHeld, K1, K2, K3, K4, K5, K6, K7, K8, G9, G10, N31, N32, N33, N34, N35, N36, N37, N38, N39, N40, N41, N42, N43, N44, G11, G12, N45, N46, N47, N48, N49, N50, N51, N52, N53, N54, N55, N56, HB⟩ := H_
   refine norm_ nz ?_
   refine on 3 (some 42) 831 fun K hK => ?_
   refine ck hK Try.func80 (impl_ValMake.calls _ _ _ _ _ _ _ _ _ _ A5.out) (fun _ b => bk8 K1 K2 K3 K4 K5 K6 K7 K8 HB b) fun w11 Q_ hHeld => ?_
   clear hK K
   obtain ⟨K1, K2, K3, K4, K5, K6, K7, K8, HB⟩ := Q_
   exact norm_ nz (hJ2_3_8_9 (g7, g8) _ ⟨hHeld, ⟨Z K1⟩, ⟨Z K2⟩, ⟨Z K3⟩, ⟨Z K4⟩, ⟨Z K5⟩, ⟨Z K6⟩, ⟨Z K7⟩, ⟨Z K8⟩, G9, G10, N31, N32, N33, N34, N35, N36, N37, N38, N39, N40, N41, N42, N43, N44, G11, G12, N45, N46, N47, N48, N49, N50, N51, N52, N53, N54, N55, N56, ⟨YA HB⟩⟩)
  intro hJ2_8_9
  refine join_ (σ := Unit) 6 (lb 12 63) (fun s_ => [(41, .agg #[.int .i64 t13, .int .i64 t14]), (42, .agg #[.int .i64 t15, .int .i64 t16, .int .i64 t17, .int .i64 t18])]) (fun s_ w' => (ce2 w' g5 t9 t10 ∧ ce4 w' g1 a1_0 a1_1 a1_2 a1_3 ∧ ce2 w' g6 t11 t12 ∧ ce4 w' g2 a2_0 a2_1 a2_2 a2_3) ∧ Bx4 w' g1 a1_0 a1_1 a1_2 a1_3 50 ∧ Bx4 w' g2 a2_0 a2_1 a2_2 a2_3 50 ∧ Bx4 w' g3 0 0 0 0 50 ∧ Bx4 w' g4 0 0 0 0 50 ∧ Bx2 w' g5 t9 t10 24 ∧ Bx2 w' g6 t11 t12 24 ∧ Aside0 (Below w.heap.size w w')) ?_ ?_
  rotate_left
  rotate_left
  ·skip
   rintro _ w10 ⟨hHeld, K1, K2, K3, K4, K5, K6, HB⟩
   refine norm_ nz ?_
   refine three_ (i := 6) (j := 8) (k := 9) (Ni := some 45) (Nj := some 10) (Nk := some 11) (lb 12 127) (lb 12 319) (lb 12 575) rfl rfl rfl rfl rfl rfl (three_of HT_.out (by kernel_rfl)) (by decide) (by decide) (by decide) (fun K hK => ?_) (fun K hK => ?_) (fun K hK => ?_)
   ·skip
    refine ck hK Try.func82 (impl_Val_rest.calls _ _ _ _ _ _ _ A6.out) (fun _ b => bk6 K1 K2 K3 K4 K5 K6 HB b) fun w11 Q_ hHeld => ?_
    clear hK K
    obtain ⟨K1, K2, K3, K4, K5, K6, HB⟩ := Q_
    exact norm_ nz (hJ2_3_6 () _ ⟨hHeld, ⟨Z K1⟩, ⟨Z K2⟩, ⟨Z K3⟩, ⟨Z K4⟩, ⟨Z K5⟩, ⟨Z K6⟩, ⟨YA HB⟩⟩)
   ·skip
    refine box_step ?hg (N := 10) ?hd (cs := #[.int .i64 0, .int .i64 0, .int .i64 0, .int .i64 0]) (t := 50) ?hr ?_; (case hd => rfl); (case hg => rfl); (case hr => first | (go_simp; done) | (go_simp; rfl))
    intro g7 hg w11 hbox hb
    have K7 := am (hbox)
    have G9 := am (bs hg (YA HB))
    have G10 := am (bs hg (YA HB))
    obtain ⟨N31,N32⟩ := ne_ hg K1
    obtain ⟨N33,N34⟩ := ne_ hg K2
    obtain ⟨N35,N36⟩ := ne_ hg K3
    obtain ⟨N37,N38⟩ := ne_ hg K4
    obtain ⟨N39,N40⟩ := ne_ hg K5
    obtain ⟨N41,N42⟩ := ne_ hg K6
    obtain ⟨K1, K2, K3, K4, K5, K6, HB⟩ := bk6 K1 K2 K3 K4 K5 K6 HB hb
    clear hb hbox hg
    refine kk hK ⟨cc2 K5, cc4 K1, cc2 K6, cc4 K2⟩ fun hHeld => ?_
    clear hK K
    exact norm_ nz (hJ2_3_8 (g7) _ ⟨hHeld, ⟨Z K1⟩, ⟨Z K2⟩, ⟨Z K3⟩, ⟨Z K4⟩, ⟨Z K5⟩, ⟨Z K6⟩, ⟨Z K7⟩, G9, G10, N31, N32, N33, N34, N35, N36, N37, N38, N39, N40, N41, N42, ⟨YA HB⟩⟩)
   skip
   refine box_step ?hg (N := 11) ?hd (cs := #[.int .i64 0, .int .i64 0, .int .i64 0, .int .i64 0]) (t := 50) ?hr ?_; (case hd => rfl); (case hg => rfl); (case hr => first | (go_simp; done) | (go_simp; rfl))
   intro g7 hg w11 hbox hb
   have K7 := am (hbox)
   have G9 := am (bs hg (YA HB))
   have G10 := am (bs hg (YA HB))
   obtain ⟨N31,N32⟩ := ne_ hg K1
   obtain ⟨N33,N34⟩ := ne_ hg K2
   obtain ⟨N35,N36⟩ := ne_ hg K3
   obtain ⟨N37,N38⟩ := ne_ hg K4
   obtain ⟨N39,N40⟩ := ne_ hg K5
   obtain ⟨N41,N42⟩ := ne_ hg K6
   obtain ⟨K1, K2, K3, K4, K5, K6, HB⟩ := bk6 K1 K2 K3 K4 K5 K6 HB hb
   clear hb hbox hg
   refine kk hK ⟨cc2 K5, cc4 K1, cc2 K6, cc4 K2⟩ fun hHeld => ?_
   clear hK K
   exact norm_ nz (hJ2_3_9 (g7) _ ⟨hHeld, ⟨Z K1⟩, ⟨Z K2⟩, ⟨Z K3⟩, ⟨Z K4⟩, ⟨Z K5⟩, ⟨Z K6⟩, ⟨Z K7⟩, G9, G10, N31, N32, N33, N34, N35, N36, N37, N38, N39, N40, N41, N42, ⟨YA HB⟩⟩)
  intro hJ2_3
  refine join_ (σ := Nat) 6 (lb 12 311) (fun s_ => [(41, .agg #[.int .i64 t13, .int .i64 t14]), (10, .pointer (some ⟨s_, 0, none⟩))]) (fun s_ w' => (ce2 w' g5 t9 t10 ∧ ce4 w' g1 a1_0 a1_1 a1_2 a1_3 ∧ ce2 w' g6 t11 t12 ∧ ce4 w' g2 a2_0 a2_1 a2_2 a2_3) ∧ Bx4 w' g1 a1_0 a1_1 a1_2 a1_3 50 ∧ Bx4 w' g2 a2_0 a2_1 a2_2 a2_3 50 ∧ Bx4 w' g3 0 0 0 0 50 ∧ Bx4 w' g4 0 0 0 0 50 ∧ Bx2 w' g5 t9 t10 24 ∧ Bx2 w' g6 t11 t12 24 ∧ Bx4 w' s_ 0 0 0 0 50 ∧ Aside0 (w.heap.size ≤ s_) ∧ Aside0 (w.heap.size ≤ s_) ∧ Aside0 (g1 ≠ s_) ∧ Aside0 (s_ ≠ g1) ∧ Aside0 (g2 ≠ s_) ∧ Aside0 (s_ ≠ g2) ∧ Aside0 (g3 ≠ s_) ∧ Aside0 (s_ ≠ g3) ∧ Aside0 (g4 ≠ s_) ∧ Aside0 (s_ ≠ g4) ∧ Aside0 (g5 ≠ s_) ∧ Aside0 (s_ ≠ g5) ∧ Aside0 (g6 ≠ s_) ∧ Aside0 (s_ ≠ g6) ∧ Aside0 (Below w.heap.size w w')) ?_ ?_
  rotate_left
  rotate_left
  ·skip
   rintro g7 w10 ⟨hHeld, K1, K2, K3, K4, K5, K6, K7, G9, G10, N31, N32, N33, N34, N35, N36, N37, N38, N39, N40, N41, N42, HB⟩
   refine norm_ nz ?_
   refine two_ (i := 3) (j := 9) (Ni := some 42) (Nj := some 11) (lb 12 319) (lb 12 823) rfl rfl rfl rfl (two_of HT_.out (by kernel_rfl)) (by decide) (by decide) (fun K hK => ?_) (fun K hK => ?_)
   ·skip
    refine ck hK Try.func80 (impl_ValMake.calls _ _ _ _ _ _ _ _ _ _ A5.out) (fun _ b => bk7 K1 K2 K3 K4 K5 K6 K7 HB b) fun w11 Q_ hHeld => ?_
    clear hK K
    obtain ⟨K1, K2, K3, K4, K5, K6, K7, HB⟩ := Q_
    exact norm_ nz (hJ2_3_8 (g7) _ ⟨hHeld, ⟨Z K1⟩, ⟨Z K2⟩, ⟨Z K3⟩, ⟨Z K4⟩, ⟨Z K5⟩, ⟨Z K6⟩, ⟨Z K7⟩, G9, G10, N31, N32, N33, N34, N35, N36, N37, N38, N39, N40, N41, N42, ⟨YA HB⟩⟩)
   skip
   refine box_step ?hg (N := 11) ?hd (cs := #[.int .i64 0, .int .i64 0, .int .i64 0, .int .i64 0]) (t := 50) ?hr ?_; (case hd => rfl); (case hg => rfl); (case hr => first | (go_simp; done) | (go_simp; rfl))
   intro g8 hg w11 hbox hb
   have K8 := am (hbox)
   have G11 := am (bs hg (YA HB))
   have G12 := am (bs hg (YA HB))
   obtain ⟨N43,N44⟩ := ne_ hg K1
   obtain ⟨N45,N46⟩ := ne_ hg K2
   obtain ⟨N47,N48⟩ := ne_ hg K3
   obtain ⟨N49,N50⟩ := ne_ hg K4
   obtain ⟨N51,N52⟩ := ne_ hg K5
   obtain ⟨N53,N54⟩ := ne_ hg K6
   obtain ⟨N55,N56⟩ := ne_ hg K7
   obtain ⟨K1, K2, K3, K4, K5, K6, K7, HB⟩ := bk7 K1 K2 K3 K4 K5 K6 K7 HB hb
   clear hb hbox hg
   refine kk hK ⟨cc2 K5, cc4 K1, cc2 K6, cc4 K2⟩ fun hHeld => ?_
   clear hK K
   exact norm_ nz (hJ2_8_9 (g7, g8) _ ⟨hHeld, ⟨Z K1⟩, ⟨Z K2⟩, ⟨Z K3⟩, ⟨Z K4⟩, ⟨Z K5⟩, ⟨Z K6⟩, ⟨Z K7⟩, ⟨Z K8⟩, G9, G10, N31, N32, N33, N34, N35, N36, N37, N38, N39, N40, N41, N42, N56, N55, G11, G12, N43, N44, N45, N46, N47, N48, N49, N50, N51, N52, N53, N54, ⟨YA HB⟩⟩)
  intro hJ2_8
  refine join_ (σ := Nat) 6 (lb 12 567) (fun s_ => [(41, .agg #[.int .i64 t13, .int .i64 t14]), (11, .pointer (some ⟨s_, 0, none⟩))]) (fun s_ w' => (ce2 w' g5 t9 t10 ∧ ce4 w' g1 a1_0 a1_1 a1_2 a1_3 ∧ ce2 w' g6 t11 t12 ∧ ce4 w' g2 a2_0 a2_1 a2_2 a2_3) ∧ Bx4 w' g1 a1_0 a1_1 a1_2 a1_3 50 ∧ Bx4 w' g2 a2_0 a2_1 a2_2 a2_3 50 ∧ Bx4 w' g3 0 0 0 0 50 ∧ Bx4 w' g4 0 0 0 0 50 ∧ Bx2 w' g5 t9 t10 24 ∧ Bx2 w' g6 t11 t12 24 ∧ Bx4 w' s_ 0 0 0 0 50 ∧ Aside0 (w.heap.size ≤ s_) ∧ Aside0 (w.heap.size ≤ s_) ∧ Aside0 (g1 ≠ s_) ∧ Aside0 (s_ ≠ g1) ∧ Aside0 (g2 ≠ s_) ∧ Aside0 (s_ ≠ g2) ∧ Aside0 (g3 ≠ s_) ∧ Aside0 (s_ ≠ g3) ∧ Aside0 (g4 ≠ s_) ∧ Aside0 (s_ ≠ g4) ∧ Aside0 (g5 ≠ s_) ∧ Aside0 (s_ ≠ g5) ∧ Aside0 (g6 ≠ s_) ∧ Aside0 (s_ ≠ g6) ∧ Aside0 (Below w.heap.size w w')) ?_ ?_
  rotate_left
  rotate_left
  ·skip
   rintro g7 w10 ⟨hHeld, K1, K2, K3, K4, K5, K6, K7, G9, G10, N31, N32, N33, N34, N35, N36, N37, N38, N39, N40, N41, N42, HB⟩
   refine norm_ nz ?_
   refine two_ (i := 3) (j := 8) (Ni := some 42) (Nj := some 10) (lb 12 575) (lb 12 823) rfl rfl rfl rfl (two_of HT_.out (by kernel_rfl)) (by decide) (by decide) (fun K hK => ?_) (fun K hK => ?_)
   ·skip
    refine ck hK Try.func80 (impl_ValMake.calls _ _ _ _ _ _ _ _ _ _ A5.out) (fun _ b => bk7 K1 K2 K3 K4 K5 K6 K7 HB b) fun w11 Q_ hHeld => ?_
    clear hK K
    obtain ⟨K1, K2, K3, K4, K5, K6, K7, HB⟩ := Q_
    exact norm_ nz (hJ2_3_9 (g7) _ ⟨hHeld, ⟨Z K1⟩, ⟨Z K2⟩, ⟨Z K3⟩, ⟨Z K4⟩, ⟨Z K5⟩, ⟨Z K6⟩, ⟨Z K7⟩, G9, G10, N31, N32, N33, N34, N35, N36, N37, N38, N39, N40, N41, N42, ⟨YA HB⟩⟩)
   skip
   refine box_step ?hg (N := 10) ?hd (cs := #[.int .i64 0, .int .i64 0, .int .i64 0, .int .i64 0]) (t := 50) ?hr ?_; (case hd => rfl); (case hg => rfl); (case hr => first | (go_simp; done) | (go_simp; rfl))
   intro g8 hg w11 hbox hb
   have K8 := am (hbox)
   have G11 := am (bs hg (YA HB))
   have G12 := am (bs hg (YA HB))
   obtain ⟨N43,N44⟩ := ne_ hg K1
   obtain ⟨N45,N46⟩ := ne_ hg K2
   obtain ⟨N47,N48⟩ := ne_ hg K3
   obtain ⟨N49,N50⟩ := ne_ hg K4
   obtain ⟨N51,N52⟩ := ne_ hg K5
   obtain ⟨N53,N54⟩ := ne_ hg K6
   obtain ⟨N55,N56⟩ := ne_ hg K7
   obtain ⟨K1, K2, K3, K4, K5, K6, K7, HB⟩ := bk7 K1 K2 K3 K4 K5 K6 K7 HB hb
   clear hb hbox hg
   refine kk hK ⟨cc2 K5, cc4 K1, cc2 K6, cc4 K2⟩ fun hHeld => ?_
   clear hK K
   exact norm_ nz (hJ2_8_9 (g8, g7) _ ⟨hHeld, ⟨Z K1⟩, ⟨Z K2⟩, ⟨Z K3⟩, ⟨Z K4⟩, ⟨Z K5⟩, ⟨Z K6⟩, ⟨Z K8⟩, ⟨Z K7⟩, G11, G12, N43, N44, N45, N46, N47, N48, N49, N50, N51, N52, N53, N54, N55, N56, G9, G10, N31, N32, N33, N34, N35, N36, N37, N38, N39, N40, N41, N42, ⟨YA HB⟩⟩)
  intro hJ2_9
  refine join_ (σ := Nat × Nat) 6 (lb 12 819) (fun s_ => [(10, .pointer (some ⟨s_.1, 0, none⟩)), (11, .pointer (some ⟨s_.2, 0, none⟩))]) (fun s_ w' => (ce2 w' g5 t9 t10 ∧ ce4 w' g1 a1_0 a1_1 a1_2 a1_3 ∧ ce2 w' g6 t11 t12 ∧ ce4 w' g2 a2_0 a2_1 a2_2 a2_3) ∧ Bx4 w' g1 a1_0 a1_1 a1_2 a1_3 50 ∧ Bx4 w' g2 a2_0 a2_1 a2_2 a2_3 50 ∧ Bx4 w' g3 0 0 0 0 50 ∧ Bx4 w' g4 0 0 0 0 50 ∧ Bx2 w' g5 t9 t10 24 ∧ Bx2 w' g6 t11 t12 24 ∧ Bx4 w' s_.1 0 0 0 0 50 ∧ Bx4 w' s_.2 0 0 0 0 50 ∧ Aside0 (w.heap.size ≤ s_.1) ∧ Aside0 (w.heap.size ≤ s_.1) ∧ Aside0 (g1 ≠ s_.1) ∧ Aside0 (s_.1 ≠ g1) ∧ Aside0 (g2 ≠ s_.1) ∧ Aside0 (s_.1 ≠ g2) ∧ Aside0 (g3 ≠ s_.1) ∧ Aside0 (s_.1 ≠ g3) ∧ Aside0 (g4 ≠ s_.1) ∧ Aside0 (s_.1 ≠ g4) ∧ Aside0 (g5 ≠ s_.1) ∧ Aside0 (s_.1 ≠ g5) ∧ Aside0 (g6 ≠ s_.1) ∧ Aside0 (s_.1 ≠ g6) ∧ Aside0 (s_.2 ≠ s_.1) ∧ Aside0 (s_.1 ≠ s_.2) ∧ Aside0 (w.heap.size ≤ s_.2) ∧ Aside0 (w.heap.size ≤ s_.2) ∧ Aside0 (g1 ≠ s_.2) ∧ Aside0 (s_.2 ≠ g1) ∧ Aside0 (g2 ≠ s_.2) ∧ Aside0 (s_.2 ≠ g2) ∧ Aside0 (g3 ≠ s_.2) ∧ Aside0 (s_.2 ≠ g3) ∧ Aside0 (g4 ≠ s_.2) ∧ Aside0 (s_.2 ≠ g4) ∧ Aside0 (g5 ≠ s_.2) ∧ Aside0 (s_.2 ≠ g5) ∧ Aside0 (g6 ≠ s_.2) ∧ Aside0 (s_.2 ≠ g6) ∧ Aside0 (Below w.heap.size w w')) ?_ ?_
  rotate_left
  rotate_left
  ·skip
   rintro ⟨g7, g8⟩ w10 H_
   dsimp only at H_
   obtain ⟨hHeld, K1, K2, K3, K4, K5, K6, K7, K8, G9, G10, N31, N32, N33, N34, N35, N36, N37, N38, N39, N40, N41, N42, N43, N44, G11, G12, N45, N46, N47, N48, N49, N50, N51, N52, N53, N54, N55, N56, HB⟩ := H_
   refine norm_ nz ?_
   refine on 2 (some 41) 823 fun K hK => ?_
   refine ck hK Try.func82 (impl_Val_rest.calls _ _ _ _ _ _ _ A4.out) (fun _ b => bk8 K1 K2 K3 K4 K5 K6 K7 K8 HB b) fun w11 Q_ hHeld => ?_
   clear hK K
   obtain ⟨K1, K2, K3, K4, K5, K6, K7, K8, HB⟩ := Q_
   exact norm_ nz (hJ2_8_9 (g7, g8) _ ⟨hHeld, ⟨Z K1⟩, ⟨Z K2⟩, ⟨Z K3⟩, ⟨Z K4⟩, ⟨Z K5⟩, ⟨Z K6⟩, ⟨Z K7⟩, ⟨Z K8⟩, G9, G10, N31, N32, N33, N34, N35, N36, N37, N38, N39, N40, N41, N42, N43, N44, G11, G12, N45, N46, N47, N48, N49, N50, N51, N52, N53, N54, N55, N56, ⟨YA HB⟩⟩)
  intro hJ8_9
  refine join_ (σ := Unit) 7 (lb 12 55) (fun s_ => [(41, .agg #[.int .i64 t13, .int .i64 t14])]) (fun s_ w' => (ce2 w' g5 t9 t10 ∧ ce4 w' g1 a1_0 a1_1 a1_2 a1_3 ∧ ce2 w' g6 t11 t12 ∧ ce4 w' g2 a2_0 a2_1 a2_2 a2_3) ∧ Bx4 w' g1 a1_0 a1_1 a1_2 a1_3 50 ∧ Bx4 w' g2 a2_0 a2_1 a2_2 a2_3 50 ∧ Bx4 w' g3 0 0 0 0 50 ∧ Bx4 w' g4 0 0 0 0 50 ∧ Bx2 w' g5 t9 t10 24 ∧ Bx2 w' g6 t11 t12 24 ∧ Aside0 (Below w.heap.size w w')) ?_ ?_
  rotate_left
  rotate_left
  ·skip
   rintro _ w10 ⟨hHeld, K1, K2, K3, K4, K5, K6, HB⟩
   refine norm_ nz ?_
   refine three_ (i := 3) (j := 8) (k := 9) (Ni := some 42) (Nj := some 10) (Nk := some 11) (lb 12 63) (lb 12 311) (lb 12 567) rfl rfl rfl rfl rfl rfl (three_of HT_.out (by kernel_rfl)) (by decide) (by decide) (by decide) (fun K hK => ?_) (fun K hK => ?_) (fun K hK => ?_)
   ·skip
    refine ck hK Try.func80 (impl_ValMake.calls _ _ _ _ _ _ _ _ _ _ A5.out) (fun _ b => bk6 K1 K2 K3 K4 K5 K6 HB b) fun w11 Q_ hHeld => ?_
    clear hK K
    obtain ⟨K1, K2, K3, K4, K5, K6, HB⟩ := Q_
    exact norm_ nz (hJ2_3 () _ ⟨hHeld, ⟨Z K1⟩, ⟨Z K2⟩, ⟨Z K3⟩, ⟨Z K4⟩, ⟨Z K5⟩, ⟨Z K6⟩, ⟨YA HB⟩⟩)
   ·skip
    refine box_step ?hg (N := 10) ?hd (cs := #[.int .i64 0, .int .i64 0, .int .i64 0, .int .i64 0]) (t := 50) ?hr ?_; (case hd => rfl); (case hg => rfl); (case hr => first | (go_simp; done) | (go_simp; rfl))
    intro g7 hg w11 hbox hb
    have K7 := am (hbox)
    have G9 := am (bs hg (YA HB))
    have G10 := am (bs hg (YA HB))
    obtain ⟨N31,N32⟩ := ne_ hg K1
    obtain ⟨N33,N34⟩ := ne_ hg K2
    obtain ⟨N35,N36⟩ := ne_ hg K3
    obtain ⟨N37,N38⟩ := ne_ hg K4
    obtain ⟨N39,N40⟩ := ne_ hg K5
    obtain ⟨N41,N42⟩ := ne_ hg K6
    obtain ⟨K1, K2, K3, K4, K5, K6, HB⟩ := bk6 K1 K2 K3 K4 K5 K6 HB hb
    clear hb hbox hg
    refine kk hK ⟨cc2 K5, cc4 K1, cc2 K6, cc4 K2⟩ fun hHeld => ?_
    clear hK K
    exact norm_ nz (hJ2_8 (g7) _ ⟨hHeld, ⟨Z K1⟩, ⟨Z K2⟩, ⟨Z K3⟩, ⟨Z K4⟩, ⟨Z K5⟩, ⟨Z K6⟩, ⟨Z K7⟩, G9, G10, N31, N32, N33, N34, N35, N36, N37, N38, N39, N40, N41, N42, ⟨YA HB⟩⟩)
   skip
   refine box_step ?hg (N := 11) ?hd (cs := #[.int .i64 0, .int .i64 0, .int .i64 0, .int .i64 0]) (t := 50) ?hr ?_; (case hd => rfl); (case hg => rfl); (case hr => first | (go_simp; done) | (go_simp; rfl))
   intro g7 hg w11 hbox hb
   have K7 := am (hbox)
   have G9 := am (bs hg (YA HB))
   have G10 := am (bs hg (YA HB))
   obtain ⟨N31,N32⟩ := ne_ hg K1
   obtain ⟨N33,N34⟩ := ne_ hg K2
   obtain ⟨N35,N36⟩ := ne_ hg K3
   obtain ⟨N37,N38⟩ := ne_ hg K4
   obtain ⟨N39,N40⟩ := ne_ hg K5
   obtain ⟨N41,N42⟩ := ne_ hg K6
   obtain ⟨K1, K2, K3, K4, K5, K6, HB⟩ := bk6 K1 K2 K3 K4 K5 K6 HB hb
   clear hb hbox hg
   refine kk hK ⟨cc2 K5, cc4 K1, cc2 K6, cc4 K2⟩ fun hHeld => ?_
   clear hK K
   exact norm_ nz (hJ2_9 (g7) _ ⟨hHeld, ⟨Z K1⟩, ⟨Z K2⟩, ⟨Z K3⟩, ⟨Z K4⟩, ⟨Z K5⟩, ⟨Z K6⟩, ⟨Z K7⟩, G9, G10, N31, N32, N33, N34, N35, N36, N37, N38, N39, N40, N41, N42, ⟨YA HB⟩⟩)
  intro hJ2
  refine join_ (σ := Nat) 7 (lb 12 307) (fun s_ => [(10, .pointer (some ⟨s_, 0, none⟩))]) (fun s_ w' => (ce2 w' g5 t9 t10 ∧ ce4 w' g1 a1_0 a1_1 a1_2 a1_3 ∧ ce2 w' g6 t11 t12 ∧ ce4 w' g2 a2_0 a2_1 a2_2 a2_3) ∧ Bx4 w' g1 a1_0 a1_1 a1_2 a1_3 50 ∧ Bx4 w' g2 a2_0 a2_1 a2_2 a2_3 50 ∧ Bx4 w' g3 0 0 0 0 50 ∧ Bx4 w' g4 0 0 0 0 50 ∧ Bx2 w' g5 t9 t10 24 ∧ Bx2 w' g6 t11 t12 24 ∧ Bx4 w' s_ 0 0 0 0 50 ∧ Aside0 (w.heap.size ≤ s_) ∧ Aside0 (w.heap.size ≤ s_) ∧ Aside0 (g1 ≠ s_) ∧ Aside0 (s_ ≠ g1) ∧ Aside0 (g2 ≠ s_) ∧ Aside0 (s_ ≠ g2) ∧ Aside0 (g3 ≠ s_) ∧ Aside0 (s_ ≠ g3) ∧ Aside0 (g4 ≠ s_) ∧ Aside0 (s_ ≠ g4) ∧ Aside0 (g5 ≠ s_) ∧ Aside0 (s_ ≠ g5) ∧ Aside0 (g6 ≠ s_) ∧ Aside0 (s_ ≠ g6) ∧ Aside0 (Below w.heap.size w w')) ?_ ?_
  rotate_left
  rotate_left
  ·skip
   rintro g7 w10 ⟨hHeld, K1, K2, K3, K4, K5, K6, K7, G9, G10, N31, N32, N33, N34, N35, N36, N37, N38, N39, N40, N41, N42, HB⟩
   refine norm_ nz ?_
   refine two_ (i := 2) (j := 9) (Ni := some 41) (Nj := some 11) (lb 12 311) (lb 12 819) rfl rfl rfl rfl (two_of HT_.out (by kernel_rfl)) (by decide) (by decide) (fun K hK => ?_) (fun K hK => ?_)
   ·skip
    refine ck hK Try.func82 (impl_Val_rest.calls _ _ _ _ _ _ _ A4.out) (fun _ b => bk7 K1 K2 K3 K4 K5 K6 K7 HB b) fun w11 Q_ hHeld => ?_
    clear hK K
    obtain ⟨K1, K2, K3, K4, K5, K6, K7, HB⟩ := Q_
    exact norm_ nz (hJ2_8 (g7) _ ⟨hHeld, ⟨Z K1⟩, ⟨Z K2⟩, ⟨Z K3⟩, ⟨Z K4⟩, ⟨Z K5⟩, ⟨Z K6⟩, ⟨Z K7⟩, G9, G10, N31, N32, N33, N34, N35, N36, N37, N38, N39, N40, N41, N42, ⟨YA HB⟩⟩)
   skip
   refine box_step ?hg (N := 11) ?hd (cs := #[.int .i64 0, .int .i64 0, .int .i64 0, .int .i64 0]) (t := 50) ?hr ?_; (case hd => rfl); (case hg => rfl); (case hr => first | (go_simp; done) | (go_simp; rfl))
   intro g8 hg w11 hbox hb
   have K8 := am (hbox)
   have G11 := am (bs hg (YA HB))
   have G12 := am (bs hg (YA HB))
   obtain ⟨N43,N44⟩ := ne_ hg K1
   obtain ⟨N45,N46⟩ := ne_ hg K2
   obtain ⟨N47,N48⟩ := ne_ hg K3
   obtain ⟨N49,N50⟩ := ne_ hg K4
   obtain ⟨N51,N52⟩ := ne_ hg K5
   obtain ⟨N53,N54⟩ := ne_ hg K6
   obtain ⟨N55,N56⟩ := ne_ hg K7
   obtain ⟨K1, K2, K3, K4, K5, K6, K7, HB⟩ := bk7 K1 K2 K3 K4 K5 K6 K7 HB hb
   clear hb hbox hg
   refine kk hK ⟨cc2 K5, cc4 K1, cc2 K6, cc4 K2⟩ fun hHeld => ?_
   clear hK K
   exact norm_ nz (hJ8_9 (g7, g8) _ ⟨hHeld, ⟨Z K1⟩, ⟨Z K2⟩, ⟨Z K3⟩, ⟨Z K4⟩, ⟨Z K5⟩, ⟨Z K6⟩, ⟨Z K7⟩, ⟨Z K8⟩, G9, G10, N31, N32, N33, N34, N35, N36, N37, N38, N39, N40, N41, N42, N56, N55, G11, G12, N43, N44, N45, N46, N47, N48, N49, N50, N51, N52, N53, N54, ⟨YA HB⟩⟩)
  intro hJ8
  refine join_ (σ := Nat) 7 (lb 12 563) (fun s_ => [(11, .pointer (some ⟨s_, 0, none⟩))]) (fun s_ w' => (ce2 w' g5 t9 t10 ∧ ce4 w' g1 a1_0 a1_1 a1_2 a1_3 ∧ ce2 w' g6 t11 t12 ∧ ce4 w' g2 a2_0 a2_1 a2_2 a2_3) ∧ Bx4 w' g1 a1_0 a1_1 a1_2 a1_3 50 ∧ Bx4 w' g2 a2_0 a2_1 a2_2 a2_3 50 ∧ Bx4 w' g3 0 0 0 0 50 ∧ Bx4 w' g4 0 0 0 0 50 ∧ Bx2 w' g5 t9 t10 24 ∧ Bx2 w' g6 t11 t12 24 ∧ Bx4 w' s_ 0 0 0 0 50 ∧ Aside0 (w.heap.size ≤ s_) ∧ Aside0 (w.heap.size ≤ s_) ∧ Aside0 (g1 ≠ s_) ∧ Aside0 (s_ ≠ g1) ∧ Aside0 (g2 ≠ s_) ∧ Aside0 (s_ ≠ g2) ∧ Aside0 (g3 ≠ s_) ∧ Aside0 (s_ ≠ g3) ∧ Aside0 (g4 ≠ s_) ∧ Aside0 (s_ ≠ g4) ∧ Aside0 (g5 ≠ s_) ∧ Aside0 (s_ ≠ g5) ∧ Aside0 (g6 ≠ s_) ∧ Aside0 (s_ ≠ g6) ∧ Aside0 (Below w.heap.size w w')) ?_ ?_
  rotate_left
  ·intro hJ9
   refine three_ (i := 2) (j := 8) (k := 9) (Ni := some 41) (Nj := some 10) (Nk := some 11) (lb 12 55) (lb 12 307) (lb 12 563) rfl rfl rfl rfl rfl rfl (three_of HT_.out (by kernel_rfl)) (by decide) (by decide) (by decide) (fun K hK => ?_) (fun K hK => ?_) (fun K hK => ?_)
   ·skip
    refine ck hK Try.func82 (impl_Val_rest.calls _ _ _ _ _ _ _ A4.out) (fun _ b => bk6 K1 K2 K3 K4 K5 K6 HB b) fun w10 Q_ hHeld => ?_
    clear hK K
    obtain ⟨K1, K2, K3, K4, K5, K6, HB⟩ := Q_
    exact norm_ nz (hJ2 () _ ⟨hHeld, ⟨Z K1⟩, ⟨Z K2⟩, ⟨Z K3⟩, ⟨Z K4⟩, ⟨Z K5⟩, ⟨Z K6⟩, ⟨YA HB⟩⟩)
   ·skip
    refine box_step ?hg (N := 10) ?hd (cs := #[.int .i64 0, .int .i64 0, .int .i64 0, .int .i64 0]) (t := 50) ?hr ?_; (case hd => rfl); (case hg => rfl); (case hr => first | (go_simp; done) | (go_simp; rfl))
    intro g7 hg w10 hbox hb
    have K7 := am (hbox)
    have G9 := am (bs hg (YA HB))
    have G10 := am (bs hg (YA HB))
    obtain ⟨N31,N32⟩ := ne_ hg K1
    obtain ⟨N33,N34⟩ := ne_ hg K2
    obtain ⟨N35,N36⟩ := ne_ hg K3
    obtain ⟨N37,N38⟩ := ne_ hg K4
    obtain ⟨N39,N40⟩ := ne_ hg K5
    obtain ⟨N41,N42⟩ := ne_ hg K6
    obtain ⟨K1, K2, K3, K4, K5, K6, HB⟩ := bk6 K1 K2 K3 K4 K5 K6 HB hb
    clear hb hbox hg
    refine kk hK ⟨cc2 K5, cc4 K1, cc2 K6, cc4 K2⟩ fun hHeld => ?_
    clear hK K
    exact norm_ nz (hJ8 (g7) _ ⟨hHeld, ⟨Z K1⟩, ⟨Z K2⟩, ⟨Z K3⟩, ⟨Z K4⟩, ⟨Z K5⟩, ⟨Z K6⟩, ⟨Z K7⟩, G9, G10, N31, N32, N33, N34, N35, N36, N37, N38, N39, N40, N41, N42, ⟨YA HB⟩⟩)
   skip
   refine box_step ?hg (N := 11) ?hd (cs := #[.int .i64 0, .int .i64 0, .int .i64 0, .int .i64 0]) (t := 50) ?hr ?_; (case hd => rfl); (case hg => rfl); (case hr => first | (go_simp; done) | (go_simp; rfl))
   intro g7 hg w10 hbox hb
   have K7 := am (hbox)
   have G9 := am (bs hg (YA HB))
   have G10 := am (bs hg (YA HB))
   obtain ⟨N31,N32⟩ := ne_ hg K1
   obtain ⟨N33,N34⟩ := ne_ hg K2
   obtain ⟨N35,N36⟩ := ne_ hg K3
   obtain ⟨N37,N38⟩ := ne_ hg K4
   obtain ⟨N39,N40⟩ := ne_ hg K5
   obtain ⟨N41,N42⟩ := ne_ hg K6
   obtain ⟨K1, K2, K3, K4, K5, K6, HB⟩ := bk6 K1 K2 K3 K4 K5 K6 HB hb
   clear hb hbox hg
   refine kk hK ⟨cc2 K5, cc4 K1, cc2 K6, cc4 K2⟩ fun hHeld => ?_
   clear hK K
   exact norm_ nz (hJ9 (g7) _ ⟨hHeld, ⟨Z K1⟩, ⟨Z K2⟩, ⟨Z K3⟩, ⟨Z K4⟩, ⟨Z K5⟩, ⟨Z K6⟩, ⟨Z K7⟩, G9, G10, N31, N32, N33, N34, N35, N36, N37, N38, N39, N40, N41, N42, ⟨YA HB⟩⟩)
  skip
  rintro g7 w10 ⟨hHeld, K1, K2, K3, K4, K5, K6, K7, G9, G10, N31, N32, N33, N34, N35, N36, N37, N38, N39, N40, N41, N42, HB⟩
  refine norm_ nz ?_
  refine two_ (i := 2) (j := 8) (Ni := some 41) (Nj := some 10) (lb 12 567) (lb 12 819) rfl rfl rfl rfl (two_of HT_.out (by kernel_rfl)) (by decide) (by decide) (fun K hK => ?_) (fun K hK => ?_)
  ·skip
   refine ck hK Try.func82 (impl_Val_rest.calls _ _ _ _ _ _ _ A4.out) (fun _ b => bk7 K1 K2 K3 K4 K5 K6 K7 HB b) fun w11 Q_ hHeld => ?_
   clear hK K
   obtain ⟨K1, K2, K3, K4, K5, K6, K7, HB⟩ := Q_
   exact norm_ nz (hJ2_9 (g7) _ ⟨hHeld, ⟨Z K1⟩, ⟨Z K2⟩, ⟨Z K3⟩, ⟨Z K4⟩, ⟨Z K5⟩, ⟨Z K6⟩, ⟨Z K7⟩, G9, G10, N31, N32, N33, N34, N35, N36, N37, N38, N39, N40, N41, N42, ⟨YA HB⟩⟩)
  skip
  refine box_step ?hg (N := 10) ?hd (cs := #[.int .i64 0, .int .i64 0, .int .i64 0, .int .i64 0]) (t := 50) ?hr ?_; (case hd => rfl); (case hg => rfl); (case hr => first | (go_simp; done) | (go_simp; rfl))
  intro g8 hg w11 hbox hb
  have K8 := am (hbox)
  have G11 := am (bs hg (YA HB))
  have G12 := am (bs hg (YA HB))
  obtain ⟨N43,N44⟩ := ne_ hg K1
  obtain ⟨N45,N46⟩ := ne_ hg K2
  obtain ⟨N47,N48⟩ := ne_ hg K3
  obtain ⟨N49,N50⟩ := ne_ hg K4
  obtain ⟨N51,N52⟩ := ne_ hg K5
  obtain ⟨N53,N54⟩ := ne_ hg K6
  obtain ⟨N55,N56⟩ := ne_ hg K7
  obtain ⟨K1, K2, K3, K4, K5, K6, K7, HB⟩ := bk7 K1 K2 K3 K4 K5 K6 K7 HB hb
  clear hb hbox hg
  refine kk hK ⟨cc2 K5, cc4 K1, cc2 K6, cc4 K2⟩ fun hHeld => ?_
  clear hK K
  exact norm_ nz (hJ8_9 (g8, g7) _ ⟨hHeld, ⟨Z K1⟩, ⟨Z K2⟩, ⟨Z K3⟩, ⟨Z K4⟩, ⟨Z K5⟩, ⟨Z K6⟩, ⟨Z K8⟩, ⟨Z K7⟩, G11, G12, N43, N44, N45, N46, N47, N48, N49, N50, N51, N52, N53, N54, N55, N56, G9, G10, N31, N32, N33, N34, N35, N36, N37, N38, N39, N40, N41, N42, ⟨YA HB⟩⟩)
 rintro ⟨g7, g8⟩ w10 H_
 dsimp only at H_
 obtain ⟨hHeld, K1, K2, K3, K4, K5, K6, K7, K8, G9, G10, N31, N32, N33, N34, N35, N36, N37, N38, N39, N40, N41, N42, N43, N44, G11, G12, N45, N46, N47, N48, N49, N50, N51, N52, N53, N54, N55, N56, HB⟩ := H_
 refine norm_ nz ?_
 refine on 10 none 2047 fun K hK => ?_
 have s12 : w10.cell? ⟨g7, 0, none⟩ = some (.int .i64 0) := bc K7 0
 have hfs94 := blk_frozen K7.out 0
 have := ns10 N31 N33 N35 N37 N39 N41 N43 N32 N34 N36
 have := ns4 N38 N40 N42 N44
 have s13 : w10.cell? ⟨g7, 1, none⟩ = some (.int .i64 0) := bc K7 1
 have hfs95 := blk_frozen K7.out 1
 have := ns10 N31 N33 N35 N37 N39 N41 N43 N32 N34 N36
 have := ns4 N38 N40 N42 N44
 have s14 : w10.cell? ⟨g7, 2, none⟩ = some (.int .i64 0) := bc K7 2
 have hfs96 := blk_frozen K7.out 2
 have := ns10 N31 N33 N35 N37 N39 N41 N43 N32 N34 N36
 have := ns4 N38 N40 N42 N44
 have s15 : w10.cell? ⟨g7, 3, none⟩ = some (.int .i64 0) := bc K7 3
 have hfs97 := blk_frozen K7.out 3
 have := ns10 N31 N33 N35 N37 N39 N41 N43 N32 N34 N36
 have := ns4 N38 N40 N42 N44
 refine skip_ (w1 := ?_) (by rfl) rfl ?_ ?_
 rotate_left
 ·go_simp
  rfl
 refine hK.out _ _ ⟨cf2 N39 (cf2 N39 (cf2 N39 (cf2 N39 hHeld.1))), cf4 N31 (cf4 N31 (cf4 N31 (cf4 N31 hHeld.2.1))), cf2 N41 (cf2 N41 (cf2 N41 (cf2 N41 hHeld.2.2.1))), cf4 N33 (cf4 N33 (cf4 N33 (cf4 N33 hHeld.2.2.2)))⟩ (fun hHeld => ?_)
 clear hK K
 refine on 11 none 4095 fun K hK => ?_
 have s16 : w10.cell? ⟨g8, 0, none⟩ = some (.int .i64 0) := bc K8 0
 have hfs98 := blk_frozen K8.out 0
 have := ns10 N45 N47 N49 N51 N53 N55 N44 N46 N48 N50
 have := ns4 N52 N54 N56 N43
 have s17 : w10.cell? ⟨g8, 1, none⟩ = some (.int .i64 0) := bc K8 1
 have hfs99 := blk_frozen K8.out 1
 have := ns10 N45 N47 N49 N51 N53 N55 N44 N46 N48 N50
 have := ns4 N52 N54 N56 N43
 have s18 : w10.cell? ⟨g8, 2, none⟩ = some (.int .i64 0) := bc K8 2
 have hfs100 := blk_frozen K8.out 2
 have := ns10 N45 N47 N49 N51 N53 N55 N44 N46 N48 N50
 have := ns4 N52 N54 N56 N43
 have s19 : w10.cell? ⟨g8, 3, none⟩ = some (.int .i64 0) := bc K8 3
 have hfs101 := blk_frozen K8.out 3
 have := ns10 N45 N47 N49 N51 N53 N55 N44 N46 N48 N50
 have := ns4 N52 N54 N56 N43
 refine skip_ (w1 := ?_) (by rfl) rfl ?_ ?_
 rotate_left
 ·go_simp
  rfl
 refine hK.out _ _ ⟨cf2 N53 (cf2 N53 (cf2 N53 (cf2 N53 hHeld.1))), cf4 N45 (cf4 N45 (cf4 N45 (cf4 N45 hHeld.2.1))), cf2 N55 (cf2 N55 (cf2 N55 (cf2 N55 hHeld.2.2.1))), cf4 N47 (cf4 N47 (cf4 N47 (cf4 N47 hHeld.2.2.2)))⟩ (fun hHeld => ?_)
 clear hK K
 refine done_ (done_of HT_.out (by kernel_rfl)) ?_
 go_upto_if 48 with (fail)
 go_cut [] (fun wc => ∃ (kq : Nat) (x2 : Int) (x3 : Int) (x4 : Int) (x5 : Int) (x6 : Int) (x7 : Int) (x8 : Int) (x9 : Int), Aside0 (impl_ValCmp.j1 kq x2 x3 x4 x5 x6 x7 x8 x9 = some (r1, r2, r3, r4, r5, r6, r7, r8)) ∧ Aside0 (kq ≤ k1) ∧ Bx4 wc g1 a1_0 a1_1 a1_2 a1_3 50 ∧ Bx4 wc g2 a2_0 a2_1 a2_2 a2_3 50 ∧ Bx4 wc g3 0 0 0 0 50 ∧ Bx4 wc g4 0 0 0 0 50 ∧ Bx2 wc g5 t9 t10 24 ∧ Bx2 wc g6 t11 t12 24 ∧ Bx4 wc g7 x2 x3 x4 x5 50 ∧ Bx4 wc g8 x6 x7 x8 x9 50 ∧ Aside0 (Below w.heap.size w wc))
 case first =>
  have H := C2.out
  clear C2
  by_cases c2 : a0 = 1
  rotate_left
  ·rw [if_neg c2] at H
   have d1 := eF c2
   have d2 := nT c2
   (first | rw [d1] | (simp only [i64_w, i32_w]; rw [d1]) | skip)
   have H' := am H
   clear H
   go_wp2
   go_meet
   case rel => exact ⟨_, (t15), (t16), (t17), (t18), (t21), (t22), (t23), (t24), H', le1 J1, ⟨ft2 N45 N31 K1⟩, ⟨ft2 N47 N33 K2⟩, ⟨ft2 N49 N35 K3⟩, ⟨ft2 N51 N37 K4⟩, ⟨ft2 N53 N39 K5⟩, ⟨ft2 N55 N41 K6⟩, ⟨by refine fa N44 ?_; refine fa N44 ?_; refine fa N44 ?_; refine fa N44 ?_; refine pf ?_; refine bp (ia4 t15 t16 t17 0) ?_ 3; refine pf ?_; refine bp (ia4 t15 t16 0 0) ?_ 2; refine pf ?_; refine bp (ia4 t15 0 0 0) ?_ 1; refine pf ?_; refine bp (ia4 0 0 0 0) ?_ 0; exact Z K7⟩, ⟨by refine pf ?_; refine bp (ia4 t21 t22 t23 0) ?_ 3; refine pf ?_; refine bp (ia4 t21 t22 0 0) ?_ 2; refine pf ?_; refine bp (ia4 t21 0 0 0) ?_ 1; refine pf ?_; refine bp (ia4 0 0 0 0) ?_ 0; refine fa N43 ?_; refine fa N43 ?_; refine fa N43 ?_; refine fa N43 ?_; exact Z K8⟩, ⟨YA HB⟩⟩
  rw [if_pos c2] at H
  have d1 := eT c2
  have d2 := nF c2
  clear c2
  (first | rw [d1] | (simp only [i64_w, i32_w]; rw [d1]) | skip)
  obtain ⟨⟨t25, t26, t27, t28⟩, A8, H⟩ := bd H
  try dsimp only at H
  have H' := am H
  clear H
  have := ns10 N32 N34 N36 N38 N40 N42 N44 N46 N48 N50
  have := ns3 N52 N54 N56
  have := cB4 K7
  have := cB4 K8
  go_wp2_with (first | ((with_reducible refine gate_callee (f := 88) rfl ?_); refine gL 51 Try.func88 (impl_ValMeet.calls _ _ _ _ _ _ _ _ _ _ _ _ _ _ A8.out) fun w11 hb => ?_; replace K1 := am (blk_below (g := g1) (o := b4 a1_0 a1_1 a1_2 a1_3 50) (ft2 N45 N31 K1) hb); replace K2 := am (blk_below (g := g2) (o := b4 a2_0 a2_1 a2_2 a2_3 50) (ft2 N47 N33 K2) hb); replace K3 := am (blk_below (g := g3) (o := b4 0 0 0 0 50) (ft2 N49 N35 K3) hb); replace K4 := am (blk_below (g := g4) (o := b4 0 0 0 0 50) (ft2 N51 N37 K4) hb); replace K5 := am (blk_below (g := g5) (o := b2 t9 t10 24) (ft2 N53 N39 K5) hb); replace K6 := am (blk_below (g := g6) (o := b2 t11 t12 24) (ft2 N55 N41 K6) hb); replace K7 := am (blk_below (g := g7) (o := b4 t15 t16 t17 t18 50) (by refine fa N44 ?_; refine fa N44 ?_; refine fa N44 ?_; refine fa N44 ?_; refine pf ?_; refine bp (ia4 t15 t16 t17 0) ?_ 3; refine pf ?_; refine bp (ia4 t15 t16 0 0) ?_ 2; refine pf ?_; refine bp (ia4 t15 0 0 0) ?_ 1; refine pf ?_; refine bp (ia4 0 0 0 0) ?_ 0; exact Z K7) hb); replace K8 := am (blk_below (g := g8) (o := b4 t21 t22 t23 t24 50) (by refine pf ?_; refine bp (ia4 t21 t22 t23 0) ?_ 3; refine pf ?_; refine bp (ia4 t21 t22 0 0) ?_ 2; refine pf ?_; refine bp (ia4 t21 0 0 0) ?_ 1; refine pf ?_; refine bp (ia4 0 0 0 0) ?_ 0; refine fa N43 ?_; refine fa N43 ?_; refine fa N43 ?_; refine fa N43 ?_; exact Z K8) hb); replace HB := am (below_step (YA HB) hb); (try clear hb); have := cB4 K7; have := cB4 K8))
  go_meet
  case rel => exact ⟨_, (t25), (t26), (t27), (t28), (t25), (t26), (t27), (t28), H', le1 J1, ⟨ft2 N45 N31 K1⟩, ⟨ft2 N47 N33 K2⟩, ⟨ft2 N49 N35 K3⟩, ⟨ft2 N51 N37 K4⟩, ⟨ft2 N53 N39 K5⟩, ⟨ft2 N55 N41 K6⟩, ⟨by refine fa N44 ?_; refine fa N44 ?_; refine fa N44 ?_; refine fa N44 ?_; refine pf ?_; refine bp (ia4 t25 t26 t27 t18) ?_ 3; refine pf ?_; refine bp (ia4 t25 t26 t17 t18) ?_ 2; refine pf ?_; refine bp (ia4 t25 t16 t17 t18) ?_ 1; refine pf ?_; refine bp (ia4 t15 t16 t17 t18) ?_ 0; exact Z K7⟩, ⟨by refine pf ?_; refine bp (ia4 t25 t26 t27 t24) ?_ 3; refine pf ?_; refine bp (ia4 t25 t26 t23 t24) ?_ 2; refine pf ?_; refine bp (ia4 t25 t22 t23 t24) ?_ 1; refine pf ?_; refine bp (ia4 t21 t22 t23 t24) ?_ 0; refine fa N43 ?_; refine fa N43 ?_; refine fa N43 ?_; refine fa N43 ?_; exact Z K8⟩, ⟨YA HB⟩⟩
 clear C2
 obtain ⟨kq, x2, x3, x4, x5, x6, x7, x8, x9, HA, J2, K1, K2, K3, K4, K5, K6, K7, K8, HB⟩ := hcut
 cases kq with
 | zero => exact absurd HA.out (by simp [impl_ValCmp.j1])
 | succ k2 => ?_
 have H := HA.out
 clear HA
 simp only [impl_ValCmp.j1] at H
 have C3 := am H
 clear H
 go_upto_region 8 with (fail)
 go_cut [58] (fun v2 wc => ∃ (kq : Nat) (x10 : Bool), v2 = .bool x10 ∧ Aside0 (impl_ValCmp.j2 kq x10 x2 x3 x4 x5 x6 x7 x8 x9 = some (r1, r2, r3, r4, r5, r6, r7, r8)) ∧ Aside0 (kq ≤ k2) ∧ Bx4 wc g1 a1_0 a1_1 a1_2 a1_3 50 ∧ Bx4 wc g2 a2_0 a2_1 a2_2 a2_3 50 ∧ Bx4 wc g3 0 0 0 0 50 ∧ Bx4 wc g4 0 0 0 0 50 ∧ Bx2 wc g5 t9 t10 24 ∧ Bx2 wc g6 t11 t12 24 ∧ Bx4 wc g7 x2 x3 x4 x5 50 ∧ Bx4 wc g8 x6 x7 x8 x9 50 ∧ Aside0 (Below w.heap.size w wc))
 case first =>
  have H := C3.out
  clear C3
  obtain ⟨t25, A8, H⟩ := bd H
  try dsimp only at H
  by_cases c2 : t25 = true
  ·subst c2
   rw [if_pos rfl] at H
   have H' := am H
   clear H
   have := ns7 N32 N34 N36 N38 N40 N42 N44
   have := cB4 K7
   go_wp2_with (first | ((with_reducible refine gate_callee (f := 77) rfl ?_); refine gL 54 Try.func77 (impl_Val_none.calls _ _ _ _ _ _ A8.out) fun w11 hb => ?_; obtain ⟨K1, K2, K3, K4, K5, K6, K7, K8, HB⟩ := bk8 K1 K2 K3 K4 K5 K6 K7 K8 HB hb; (try clear hb)))
   go_meet
   case rel => exact ⟨_, (true), ey, H', ⟨by have := J1.out; have := J2.out; first | omega | exact Nat.le_refl _⟩, ⟨Z K1⟩, ⟨Z K2⟩, ⟨Z K3⟩, ⟨Z K4⟩, ⟨Z K5⟩, ⟨Z K6⟩, ⟨Z K7⟩, ⟨Z K8⟩, ⟨YA HB⟩⟩
  replace c2 := Bool.eq_false_iff.mpr c2
  subst c2
  rw [if_neg ff] at H
  obtain ⟨t26, A9, H⟩ := bd H
  try dsimp only at H
  have H' := am H
  clear H
  have := ns7 N32 N34 N36 N38 N40 N42 N44
  have := cB4 K7
  go_wp2_with (first | ((with_reducible refine gate_callee (f := 77) rfl ?_); refine gL 54 Try.func77 (impl_Val_none.calls _ _ _ _ _ _ A8.out) fun w11 hb => ?_; obtain ⟨K1, K2, K3, K4, K5, K6, K7, K8, HB⟩ := bk8 K1 K2 K3 K4 K5 K6 K7 K8 HB hb; (try clear hb); have := ns6 N46 N48 N50 N52 N54 N56; have := cB4 K8) | (go_at_call 77; (with_reducible refine (impl_Val_none.calls _ _ _ _ _ _ A9.out).mono ?_); rintro e w12 ⟨rfl, hb⟩; obtain ⟨K1, K2, K3, K4, K5, K6, K7, K8, HB⟩ := bk8 K1 K2 K3 K4 K5 K6 K7 K8 HB hb; (try clear hb)))
  go_meet
  case rel => exact ⟨_, (t26), ey, H', ⟨by have := J1.out; have := J2.out; first | omega | exact Nat.le_refl _⟩, ⟨Z K1⟩, ⟨Z K2⟩, ⟨Z K3⟩, ⟨Z K4⟩, ⟨Z K5⟩, ⟨Z K6⟩, ⟨Z K7⟩, ⟨Z K8⟩, ⟨YA HB⟩⟩
 clear C3
 obtain ⟨kq, x10, rfl, HA, J3, K1, K2, K3, K4, K5, K6, K7, K8, HB⟩ := hcut
 cases kq with
 | zero => exact absurd HA.out (by simp [impl_ValCmp.j2])
 | succ k3 => ?_
 have H := HA.out
 clear HA
 simp only [impl_ValCmp.j2] at H
 by_cases c2 : x10 = true
 ·subst c2
  rw [if_pos rfl] at H
  obtain ⟨⟨t25, t26, t27, t28⟩, A8, H⟩ := bd H
  try dsimp only at H
  obtain ⟨⟨t29, t30, t31, t32⟩, A9, H⟩ := bd H
  try dsimp only at H
  obtain ⟨rfl, rfl, rfl, rfl, rfl, rfl, rfl, rfl⟩ := sj8 H
  go_wp2_with (first | ((with_reducible refine gate_callee (f := 78) rfl ?_); refine gL 59 Try.func78 (impl_valNone.calls _ _ _ _ _ A8.out) fun w11 hb => ?_; obtain ⟨K1, K2, K3, K4, K5, K6, K7, K8, HB⟩ := bk8 K1 K2 K3 K4 K5 K6 K7 K8 HB hb; (try clear hb)) | ((with_reducible refine gate_callee (f := 78) rfl ?_); refine gL 60 Try.func78 (impl_valNone.calls _ _ _ _ _ A9.out) fun w12 hb => ?_; obtain ⟨K1, K2, K3, K4, K5, K6, K7, K8, HB⟩ := bk8 K1 K2 K3 K4 K5 K6 K7 K8 HB hb; (try clear hb); have := ns10 N4 N6 N11 N17 N27 N35 N49 N8 N10 N19; have := ns3 N29 N37 N51; have := cB4 K3; have := cB4 K4))
  refine bodyPost_ret (results_cc rfl _ _ g3 g4 50 50 #[.int .i64 t25, .int .i64 t26, .int .i64 t27, .int .i64 t28] #[.int .i64 t29, .int .i64 t30, .int .i64 t31, .int .i64 t32] (0, 0) (0, 0) _ _ rfl (by refine fa N11 ?_; refine fa N11 ?_; refine fa N11 ?_; refine fa N11 ?_; refine pf ?_; refine bp (ia4 t25 t26 t27 0) ?_ 3; refine pf ?_; refine bp (ia4 t25 t26 0 0) ?_ 2; refine pf ?_; refine bp (ia4 t25 0 0 0) ?_ 1; refine pf ?_; refine bp (ia4 0 0 0 0) ?_ 0; exact Z K3) Try.underlying50 rfl (by kernel_rfl) rfl (by refine pf ?_; refine bp (ia4 t29 t30 t31 0) ?_ 3; refine pf ?_; refine bp (ia4 t29 t30 0 0) ?_ 2; refine pf ?_; refine bp (ia4 t29 0 0 0) ?_ 1; refine pf ?_; refine bp (ia4 0 0 0 0) ?_ 0; refine fa N12 ?_; refine fa N12 ?_; refine fa N12 ?_; refine fa N12 ?_; exact Z K4) Try.underlying50 rfl (by kernel_rfl)) rfl ?_
  exact ⟨ez, YA HB⟩
 replace c2 := Bool.eq_false_iff.mpr c2
 subst c2
 rw [if_neg ff] at H
 obtain ⟨rfl, rfl, rfl, rfl, rfl, rfl, rfl, rfl⟩ := sj8 H
 try go_wp2
 obtain ⟨K1, K2, K3, K4, K5, K6, K7, K8, HB⟩ := dk8 K1 K2 K3 K4 K5 K6 K7 K8 HB
 refine start_ (n := 4) (S := fun w' => ce4 w' g7 x2 x3 x4 x5 ∧ ce4 w' g8 x6 x7 x8 x9) (ds := []) (lb 4 0) (by kernel_rfl) rfl rfl ⟨cc4 K7, cc4 K8⟩ (fun hHeld => ?_)
 generalize wc.drew = w11 at K1 K2 K3 K4 K5 K6 K7 K8 HB hHeld ⊢
 refine tq 0 61 1 hHeld ?_
 refine tq 1 62 3 hHeld ?_
 refine one_ (i := 2) (N := none) (lb 4 7) rfl rfl (by kernel_rfl) (by decide) (fun K hK => ?_)
 have s20 : w11.cell? ⟨g3, 0, none⟩ = some (.int .i64 0) := bc K3 0
 have hfs173 := blk_frozen K3.out 0
 have := ns10 N3 N5 N12 N18 N28 N36 N50 N4 N6 N11
 have := ns4 N17 N27 N35 N49
 have s21 : w11.cell? ⟨g3, 1, none⟩ = some (.int .i64 0) := bc K3 1
 have hfs174 := blk_frozen K3.out 1
 have := ns10 N3 N5 N12 N18 N28 N36 N50 N4 N6 N11
 have := ns4 N17 N27 N35 N49
 have s22 : w11.cell? ⟨g3, 2, none⟩ = some (.int .i64 0) := bc K3 2
 have hfs175 := blk_frozen K3.out 2
 have := ns10 N3 N5 N12 N18 N28 N36 N50 N4 N6 N11
 have := ns4 N17 N27 N35 N49
 have s23 : w11.cell? ⟨g3, 3, none⟩ = some (.int .i64 0) := bc K3 3
 have hfs176 := blk_frozen K3.out 3
 have := ns10 N3 N5 N12 N18 N28 N36 N50 N4 N6 N11
 have := ns4 N17 N27 N35 N49
 refine skip_ (w1 := ?_) (by rfl) rfl ?_ ?_
 rotate_left
 ·go_simp
  rfl
 refine hK.out _ _ ⟨cf4 N36 (cf4 N36 (cf4 N36 (cf4 N36 hHeld.1))), cf4 N50 (cf4 N50 (cf4 N50 (cf4 N50 hHeld.2)))⟩ (fun hHeld => ?_)
 clear hK K
 refine one_ (i := 3) (N := none) (lb 4 15) rfl rfl (by kernel_rfl) (by decide) (fun K hK => ?_)
 have s24 : w11.cell? ⟨g4, 0, none⟩ = some (.int .i64 0) := bc K4 0
 have hfs177 := blk_frozen K4.out 0
 have := ns10 N7 N9 N11 N20 N30 N38 N52 N8 N10 N12
 have := ns4 N19 N29 N37 N51
 have s25 : w11.cell? ⟨g4, 1, none⟩ = some (.int .i64 0) := bc K4 1
 have hfs178 := blk_frozen K4.out 1
 have := ns10 N7 N9 N11 N20 N30 N38 N52 N8 N10 N12
 have := ns4 N19 N29 N37 N51
 have s26 : w11.cell? ⟨g4, 2, none⟩ = some (.int .i64 0) := bc K4 2
 have hfs179 := blk_frozen K4.out 2
 have := ns10 N7 N9 N11 N20 N30 N38 N52 N8 N10 N12
 have := ns4 N19 N29 N37 N51
 have s27 : w11.cell? ⟨g4, 3, none⟩ = some (.int .i64 0) := bc K4 3
 have hfs180 := blk_frozen K4.out 3
 have := ns10 N7 N9 N11 N20 N30 N38 N52 N8 N10 N12
 have := ns4 N19 N29 N37 N51
 refine skip_ (w1 := ?_) (by rfl) rfl ?_ ?_
 rotate_left
 ·go_simp
  rfl
 refine hK.out _ _ ⟨cf4 N38 (cf4 N38 (cf4 N38 (cf4 N38 hHeld.1))), cf4 N52 (cf4 N52 (cf4 N52 (cf4 N52 hHeld.2)))⟩ (fun hHeld => ?_)
 clear hK K
 refine done_ (by kernel_rfl) ?_
 try go_wp2
 refine bodyPost_ret (results_cc rfl _ _ g3 g4 50 50 #[.int .i64 x2, .int .i64 x3, .int .i64 x4, .int .i64 x5] #[.int .i64 x6, .int .i64 x7, .int .i64 x8, .int .i64 x9] (0, 0) (0, 0) _ _ rfl (by refine fa N11 ?_; refine fa N11 ?_; refine fa N11 ?_; refine fa N11 ?_; refine pf ?_; refine bp (ia4 x2 x3 x4 0) ?_ 3; refine pf ?_; refine bp (ia4 x2 x3 0 0) ?_ 2; refine pf ?_; refine bp (ia4 x2 0 0 0) ?_ 1; refine pf ?_; refine bp (ia4 0 0 0 0) ?_ 0; exact Z K3) Try.underlying50 rfl (by kernel_rfl) rfl (by refine pf ?_; refine bp (ia4 x6 x7 x8 0) ?_ 3; refine pf ?_; refine bp (ia4 x6 x7 0 0) ?_ 2; refine pf ?_; refine bp (ia4 x6 0 0 0) ?_ 1; refine pf ?_; refine bp (ia4 0 0 0 0) ?_ 0; refine fa N12 ?_; refine fa N12 ?_; refine fa N12 ?_; refine fa N12 ?_; exact Z K4) Try.underlying50 rfl (by kernel_rfl)) rfl ?_
 exact ⟨ez, YA HB⟩
end
end Go.Proofs.Ythbkakcchgnhpaa.PFnValTurn
