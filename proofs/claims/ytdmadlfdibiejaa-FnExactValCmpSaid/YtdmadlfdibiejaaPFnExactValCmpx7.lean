/- Written by this session's own driver (wip/dprint.py): the functions that the law FnExactValCmp reaches, as Lean functions, each with its contract. -/
import Derived.Test.YtdmadlfdibiejaaPFnExactValCmpx0
import Derived.Test.YtdmadlfdibiejaaPFnExactValCmpx5
import Derived.Test.YtdmadlfdibiejaaPFnExactValCmpx6
import Derived.Test.YtdmadlfdibiejaaSv
namespace Go.Proofs.Ytdmadlfdibiejaa.PFnExactValCmp
open Go.RowKit Go.Proofs.YtdmadlfdibiejaaV.PrintWords Go.Proofs.YtdmadlfdibiejaaV.PrintLast Go.Proofs.YtdmadlfdibiejaaV.PrintMore Go.Proofs.YtdmadlfdibiejaaSv
set_option linter.unusedVariables false
set_option linter.unusedSimpArgs false
section
attribute [local go_sem] max2_int min2_int max_two min_two max_three min_three max_four min_four
attribute [local go_sem] Go.Proofs.YtdmadlfdibiejaaSet.isSome_setCell
mutual
def impl_ValCmp.j0 : Nat → Int → Bool → Int → Int → Int → Int → Int → Int → Int → Int → Option (Int × Int × Int × Int × Int × Int × Int × Int)
 | 0, _, _, _, _, _, _, _, _, _, _ => none
 | k + 1, x1, x2, x3, x4, x5, x6, x7, x8, x9, x10 => if x2 = true then ((impl_valNone.f).bind fun u1 => ((impl_valNone.f).bind fun u2 => (some (u1.1, u1.2.1, u1.2.2.1, u1.2.2.2, u2.1, u2.2.1, u2.2.2.1, u2.2.2.2)))) else ((impl_Val_span.f x3 x4 x5 x6).bind fun u3 => ((impl_Val_span.f x7 x8 x9 x10).bind fun u4 => ((impl_RangeCmp.f k x1 u3.1 u3.2 u4.1 u4.2).bind fun u5 => ((impl_Val_rest.f x3 x4 x5 x6).bind fun u6 => ((impl_ValMake.f k u5.1 u5.2.1 u6.1 u6.2).bind fun u7 => ((impl_Val_rest.f x7 x8 x9 x10).bind fun u8 => ((impl_ValMake.f k u5.2.2.1 u5.2.2.2 u8.1 u8.2).bind fun u9 => (if x1 = 1 then ((impl_ValMeet.f k u7.1 u7.2.1 u7.2.2.1 u7.2.2.2 u9.1 u9.2.1 u9.2.2.1 u9.2.2.2).bind fun u10 => (impl_ValCmp.j1 k u10.1 u10.2.1 u10.2.2.1 u10.2.2.2 u10.1 u10.2.1 u10.2.2.1 u10.2.2.2)) else (impl_ValCmp.j1 k u7.1 u7.2.1 u7.2.2.1 u7.2.2.2 u9.1 u9.2.1 u9.2.2.1 u9.2.2.2)))))))))
def impl_ValCmp.j1 : Nat → Int → Int → Int → Int → Int → Int → Int → Int → Option (Int × Int × Int × Int × Int × Int × Int × Int)
 | 0, _, _, _, _, _, _, _, _ => none
 | k + 1, x1, x2, x3, x4, x5, x6, x7, x8 => (impl_Val_none.f x1 x2 x3 x4).bind fun t1 => (if t1 = true then (impl_ValCmp.j2 k true x1 x2 x3 x4 x5 x6 x7 x8) else ((impl_Val_none.f x5 x6 x7 x8).bind fun t2 => (impl_ValCmp.j2 k t2 x1 x2 x3 x4 x5 x6 x7 x8)))
def impl_ValCmp.j2 : Nat → Bool → Int → Int → Int → Int → Int → Int → Int → Int → Option (Int × Int × Int × Int × Int × Int × Int × Int)
 | 0, _, _, _, _, _, _, _, _, _ => none
 | k + 1, x1, x2, x3, x4, x5, x6, x7, x8, x9 => if x1 = true then ((impl_valNone.f).bind fun u1 => ((impl_valNone.f).bind fun u2 => (some (u1.1, u1.2.1, u1.2.2.1, u1.2.2.2, u2.1, u2.2.1, u2.2.2.1, u2.2.2.2)))) else (some (x2, x3, x4, x5, x6, x7, x8, x9))
end
def impl_ValCmp.f (k : Nat) (a0 : Int) (a1_0 : Int) (a1_1 : Int) (a1_2 : Int) (a1_3 : Int) (a2_0 : Int) (a2_1 : Int) (a2_2 : Int) (a2_3 : Int) : Option (Int × Int × Int × Int × Int × Int × Int × Int) := (impl_ValOk.f k a1_0 a1_1 a1_2 a1_3).bind fun t1 => (if t1 = true then ((impl_ValOk.f k a2_0 a2_1 a2_2 a2_3).bind fun t2 => (if t2 = true then ((impl_Val_none.f a1_0 a1_1 a1_2 a1_3).bind fun t3 => (if t3 = true then (impl_ValCmp.j0 k a0 true a1_0 a1_1 a1_2 a1_3 a2_0 a2_1 a2_2 a2_3) else ((impl_Val_none.f a2_0 a2_1 a2_2 a2_3).bind fun t4 => (impl_ValCmp.j0 k a0 t4 a1_0 a1_1 a1_2 a1_3 a2_0 a2_1 a2_2 a2_3)))) else (impl_ValCmp.j0 k a0 true a1_0 a1_1 a1_2 a1_3 a2_0 a2_1 a2_2 a2_3))) else (impl_ValCmp.j0 k a0 true a1_0 a1_1 a1_2 a1_3 a2_0 a2_1 a2_2 a2_3))
theorem impl_ValCmp.mono_l : ∀ k, (∀ y0 y1 y2 y3 y4 y5 y6 y7 y8 y9, LeO (impl_ValCmp.j0 k y0 y1 y2 y3 y4 y5 y6 y7 y8 y9) (impl_ValCmp.j0 (k + 1) y0 y1 y2 y3 y4 y5 y6 y7 y8 y9)) ∧ (∀ y0 y1 y2 y3 y4 y5 y6 y7, LeO (impl_ValCmp.j1 k y0 y1 y2 y3 y4 y5 y6 y7) (impl_ValCmp.j1 (k + 1) y0 y1 y2 y3 y4 y5 y6 y7)) ∧ (∀ y0 y1 y2 y3 y4 y5 y6 y7 y8, LeO (impl_ValCmp.j2 k y0 y1 y2 y3 y4 y5 y6 y7 y8) (impl_ValCmp.j2 (k + 1) y0 y1 y2 y3 y4 y5 y6 y7 y8))
 | 0 => ⟨fun _ _ _ _ _ _ _ _ _ _ r h => by simp [impl_ValCmp.j0] at h, fun _ _ _ _ _ _ _ _ r h => by simp [impl_ValCmp.j1] at h, fun _ _ _ _ _ _ _ _ _ r h => by simp [impl_ValCmp.j2] at h⟩
 | k + 1 => by
  obtain ⟨ih0, ih1, ih2⟩ := impl_ValCmp.mono_l k
  refine ⟨?_, ?_, ?_⟩ <;> (intros; (first | unfold impl_ValCmp.j0 | unfold impl_ValCmp.j1 | unfold impl_ValCmp.j2); repeat' first | (with_reducible first | apply ih0 | apply ih1 | apply ih2 | apply impl_RangeCmp.mono | apply impl_ValMake.mono | apply impl_ValMeet.mono | apply impl_ValOk.mono | apply LeO.refl | apply LeO.none | refine LeO.ite ?_ ?_ | refine LeO.bind ?_ (fun _ => ?_)) | apply ih0 | apply ih1 | apply ih2 | apply impl_RangeCmp.mono | apply impl_ValMake.mono | apply impl_ValMeet.mono | apply impl_ValOk.mono | apply LeO.none | refine LeO.ite ?_ ?_ | refine LeO.bind ?_ (fun _ => ?_))
theorem impl_ValCmp.mono : ∀ a0 a1 a2 a3 a4 a5 a6 a7 a8 k, LeO (impl_ValCmp.f k a0 a1 a2 a3 a4 a5 a6 a7 a8) (impl_ValCmp.f (k + 1) a0 a1 a2 a3 a4 a5 a6 a7 a8) := by
 intro a0 a1 a2 a3 a4 a5 a6 a7 a8 k
 obtain ⟨ih0, ih1, ih2⟩ := impl_ValCmp.mono_l k
 unfold impl_ValCmp.f
 repeat' first | (with_reducible first | apply ih0 | apply ih1 | apply ih2 | apply impl_RangeCmp.mono | apply impl_ValMake.mono | apply impl_ValMeet.mono | apply impl_ValOk.mono | apply LeO.refl | apply LeO.none | refine LeO.ite ?_ ?_ | refine LeO.bind ?_ (fun _ => ?_)) | apply ih0 | apply ih1 | apply ih2 | apply impl_RangeCmp.mono | apply impl_ValMake.mono | apply impl_ValMeet.mono | apply impl_ValOk.mono | apply LeO.none | refine LeO.ite ?_ ?_ | refine LeO.bind ?_ (fun _ => ?_)
def impl_ValCmp.T3 : Bool × List (List Nat × List Nat) := (true, [([], []), ([], []), ([1], [1]), ([], []), ([3, 2], [3]), ([0, 2, 4, 4], [0, 2, 4]), ([5], [5]), ([6], [6]), ([6], [6]), ([], []), ([], []), ([9, 7, 5, 0, 1, 2, 3, 4, 5, 6, 7, 9, 10], [7, 9]), ([10, 8, 11, 0, 1, 2, 3, 4, 5, 6, 7, 8, 9, 10, 11], [8, 10])])
def impl_ValCmp.B3 : List Nat := [0, 0, 2, 0, 14, 31, 63, 127, 127, 0, 0, 1791, 4095]
theorem impl_ValCmp.tab3 : rtab .any (opsOf Try.f6 3) = impl_ValCmp.T3 := by kernel_rfl
theorem impl_ValCmp.bits3 : waitsOk impl_ValCmp.T3.2 impl_ValCmp.B3 = true := by kernel_rfl
def impl_ValCmp.T4 : Bool × List (List Nat × List Nat) := (true, [([], []), ([], []), ([1], [1]), ([0, 2, 2], [0, 2]), ([], []), ([], []), ([5, 3], [5]), ([4, 6, 6], [4, 6]), ([], []), ([], []), ([8, 3, 7, 0, 1, 2, 3, 8, 9], [3, 8]), ([9, 7, 10, 0, 1, 2, 3, 4, 5, 6, 7, 8, 9, 10], [7, 9])])
def impl_ValCmp.B4 : List Nat := [0, 0, 2, 7, 0, 0, 47, 127, 0, 0, 1023, 2047]
theorem impl_ValCmp.tab4 : rtab .any (opsOf Try.f6 4) = impl_ValCmp.T4 := by kernel_rfl
theorem impl_ValCmp.bits4 : waitsOk impl_ValCmp.T4.2 impl_ValCmp.B4 = true := by kernel_rfl
set_option maxHeartbeats 8000000 in
set_option maxRecDepth 100000 in
theorem impl_ValCmp.calls (k : Nat) (a0 : Int) (a1_0 : Int) (a1_1 : Int) (a1_2 : Int) (a1_3 : Int) (a2_0 : Int) (a2_1 : Int) (a2_2 : Int) (a2_3 : Int) (r1 : Int) (r2 : Int) (r3 : Int) (r4 : Int) (r5 : Int) (r6 : Int) (r7 : Int) (r8 : Int) (w : World) (h : impl_ValCmp.f k a0 a1_0 a1_1 a1_2 a1_3 a2_0 a2_1 a2_2 a2_3 = some (r1, r2, r3, r4, r5, r6, r7, r8)) :
  Calls Try.prog 6 #[.int .i64 a0, .agg #[.int .i64 a1_0, .int .i64 a1_1, .int .i64 a1_2, .int .i64 a1_3], .agg #[.int .i64 a2_0, .int .i64 a2_1, .int .i64 a2_2, .int .i64 a2_3]] w fun e w' => e = .returned (.tuple #[.agg #[.int .i64 r1, .int .i64 r2, .int .i64 r3, .int .i64 r4], .agg #[.int .i64 r5, .int .i64 r6, .int .i64 r7, .int .i64 r8]]) ∧ Below w.heap.size w w' := by
 have hu24 := Try.underlying24
 have hu33 := Try.underlying33
 have HB := am (Below.refl w.heap.size w)
 have H : ((impl_ValOk.f k a1_0 a1_1 a1_2 a1_3).bind fun t1 => (if t1 = true then ((impl_ValOk.f k a2_0 a2_1 a2_2 a2_3).bind fun t2 => (if t2 = true then ((impl_Val_none.f a1_0 a1_1 a1_2 a1_3).bind fun t3 => (if t3 = true then (impl_ValCmp.j0 k a0 true a1_0 a1_1 a1_2 a1_3 a2_0 a2_1 a2_2 a2_3) else ((impl_Val_none.f a2_0 a2_1 a2_2 a2_3).bind fun t4 => (impl_ValCmp.j0 k a0 t4 a1_0 a1_1 a1_2 a1_3 a2_0 a2_1 a2_2 a2_3)))) else (impl_ValCmp.j0 k a0 true a1_0 a1_1 a1_2 a1_3 a2_0 a2_1 a2_2 a2_3))) else (impl_ValCmp.j0 k a0 true a1_0 a1_1 a1_2 a1_3 a2_0 a2_1 a2_2 a2_3))) = some (r1, r2, r3, r4, r5, r6, r7, r8) := h
 clear h
 have C1 := am H
 clear H
 go_enter Try.func6, Try.ntmps6
 go_upto_region 1 with (first | ((with_reducible refine gate_dst (N := 4) rfl ?_); refine bxn 4 #[.int .i64 a1_0, .int .i64 a1_1, .int .i64 a1_2, .int .i64 a1_3] 24 HB fun g1 w2 K1 G1 hg hb => ?_; replace HB := am (below_step (YA HB) hb); clear hb hg) | ((with_reducible refine gate_dst (N := 5) rfl ?_); refine bxn 5 #[.int .i64 a2_0, .int .i64 a2_1, .int .i64 a2_2, .int .i64 a2_3] 24 HB fun g2 w3 K2 G2 hg hb => ?_; obtain ⟨N1,N2⟩ := ne_ hg K1; obtain ⟨K1, HB⟩ := bk1 K1 HB hb; clear hb hg) | ((with_reducible refine gate_dst (N := 6) rfl ?_); refine bxn 6 #[.int .i64 0, .int .i64 0, .int .i64 0, .int .i64 0] 24 HB fun g3 w4 K3 G3 hg hb => ?_; obtain ⟨N3,N4⟩ := ne_ hg K1; obtain ⟨N5,N6⟩ := ne_ hg K2; obtain ⟨K1, K2, HB⟩ := bk2 K1 K2 HB hb; clear hb hg) | ((with_reducible refine gate_dst (N := 7) rfl ?_); refine bxn 7 #[.int .i64 0, .int .i64 0, .int .i64 0, .int .i64 0] 24 HB fun g4 w5 K4 G4 hg hb => ?_; obtain ⟨N7,N8⟩ := ne_ hg K1; obtain ⟨N9,N10⟩ := ne_ hg K2; obtain ⟨N11,N12⟩ := ne_ hg K3; obtain ⟨K1, K2, K3, HB⟩ := bk3 K1 K2 K3 HB hb; clear hb hg))
 (try simp only [Act.put, List.setIfInBounds_toArray, List.set_cons_zero, List.set_cons_succ])
 go_cut [27] (fun v1 wc => ∃ (kq : Nat) (x1 : Bool), v1 = .bool x1 ∧ Aside0 (impl_ValCmp.j0 kq a0 x1 a1_0 a1_1 a1_2 a1_3 a2_0 a2_1 a2_2 a2_3 = some (r1, r2, r3, r4, r5, r6, r7, r8)) ∧ Aside0 (kq ≤ k) ∧ Bx4 wc g1 a1_0 a1_1 a1_2 a1_3 24 ∧ Bx4 wc g2 a2_0 a2_1 a2_2 a2_3 24 ∧ Bx4 wc g3 0 0 0 0 24 ∧ Bx4 wc g4 0 0 0 0 24 ∧ Aside0 (Below w.heap.size w wc))
 case first =>
  have H := C1.out
  clear C1
  obtain ⟨t1, A1, H⟩ := bd H
  try dsimp only at H
  by_cases c1 : t1 = true
  rotate_left
  ·replace c1 := Bool.eq_false_iff.mpr c1
   subst c1
   rw [if_neg ff] at H
   have H' := am H
   clear H
   have z_ := ns3 N1 N3 N7
   have z_ := cB4 K1
   go_wp2_with (first | ((with_reducible refine gate_callee (f := 15) rfl ?_); refine gL 13 Try.func15 (impl_ValOk.calls _ _ _ _ _ _ _ A1.out) fun w6 hb => ?_; obtain ⟨K1, K2, K3, K4, HB⟩ := bk4 K1 K2 K3 K4 HB hb; (try clear hb)))
   go_meet
   case rel => exact ⟨_, (true), ey, H', le0, ⟨Z K1⟩, ⟨Z K2⟩, ⟨Z K3⟩, ⟨Z K4⟩, ⟨YA HB⟩⟩
  subst c1
  rw [if_pos rfl] at H
  obtain ⟨t2, A2, H⟩ := bd H
  try dsimp only at H
  by_cases c2 : t2 = true
  rotate_left
  ·replace c2 := Bool.eq_false_iff.mpr c2
   subst c2
   rw [if_neg ff] at H
   have H' := am H
   clear H
   have z_ := ns3 N1 N3 N7
   have z_ := cB4 K1
   go_wp2_with (first | ((with_reducible refine gate_callee (f := 15) rfl ?_); refine gL 13 Try.func15 (impl_ValOk.calls _ _ _ _ _ _ _ A1.out) fun w6 hb => ?_; obtain ⟨K1, K2, K3, K4, HB⟩ := bk4 K1 K2 K3 K4 HB hb; (try clear hb); have z_ := ns2 N5 N9; have z_ := cB4 K2) | (go_at_call 15; (with_reducible refine (impl_ValOk.calls _ _ _ _ _ _ _ A2.out).mono ?_); rintro e w7 ⟨rfl, hb⟩; obtain ⟨K1, K2, K3, K4, HB⟩ := bk4 K1 K2 K3 K4 HB hb; (try clear hb)))
   go_meet
   case rel => exact ⟨_, (true), ey, H', le0, ⟨Z K1⟩, ⟨Z K2⟩, ⟨Z K3⟩, ⟨Z K4⟩, ⟨YA HB⟩⟩
  subst c2
  rw [if_pos rfl] at H
  obtain ⟨t3, A3, H⟩ := bd H
  try dsimp only at H
  by_cases c3 : t3 = true
  ·subst c3
   rw [if_pos rfl] at H
   have H' := am H
   clear H
   have z_ := ns3 N1 N3 N7
   have z_ := cB4 K1
   go_wp2_with (first | ((with_reducible refine gate_callee (f := 15) rfl ?_); refine gL 13 Try.func15 (impl_ValOk.calls _ _ _ _ _ _ _ A1.out) fun w6 hb => ?_; obtain ⟨K1, K2, K3, K4, HB⟩ := bk4 K1 K2 K3 K4 HB hb; (try clear hb); have z_ := ns2 N5 N9; have z_ := cB4 K2) | (go_at_call 15; (with_reducible refine (impl_ValOk.calls _ _ _ _ _ _ _ A2.out).mono ?_); rintro e w7 ⟨rfl, hb⟩; obtain ⟨K1, K2, K3, K4, HB⟩ := bk4 K1 K2 K3 K4 HB hb; (try clear hb); have z_ := cB4 K1) | (go_at_call 16; (with_reducible refine (impl_Val_none.calls _ _ _ _ _ _ A3.out).mono ?_); rintro e w8 ⟨rfl, hb⟩; obtain ⟨K1, K2, K3, K4, HB⟩ := bk4 K1 K2 K3 K4 HB hb; (try clear hb)))
   go_meet
   case rel => exact ⟨_, (true), ey, H', le0, ⟨Z K1⟩, ⟨Z K2⟩, ⟨Z K3⟩, ⟨Z K4⟩, ⟨YA HB⟩⟩
  replace c3 := Bool.eq_false_iff.mpr c3
  subst c3
  rw [if_neg ff] at H
  obtain ⟨t4, A4, H⟩ := bd H
  try dsimp only at H
  have H' := am H
  clear H
  have z_ := ns3 N1 N3 N7
  have z_ := cB4 K1
  go_wp2_with (first | ((with_reducible refine gate_callee (f := 15) rfl ?_); refine gL 13 Try.func15 (impl_ValOk.calls _ _ _ _ _ _ _ A1.out) fun w6 hb => ?_; obtain ⟨K1, K2, K3, K4, HB⟩ := bk4 K1 K2 K3 K4 HB hb; (try clear hb); have z_ := ns2 N5 N9; have z_ := cB4 K2) | (go_at_call 15; (with_reducible refine (impl_ValOk.calls _ _ _ _ _ _ _ A2.out).mono ?_); rintro e w7 ⟨rfl, hb⟩; obtain ⟨K1, K2, K3, K4, HB⟩ := bk4 K1 K2 K3 K4 HB hb; (try clear hb); have z_ := cB4 K1) | (go_at_call 16; (with_reducible refine (impl_Val_none.calls _ _ _ _ _ _ A3.out).mono ?_); rintro e w8 ⟨rfl, hb⟩; obtain ⟨K1, K2, K3, K4, HB⟩ := bk4 K1 K2 K3 K4 HB hb; (try clear hb); have z_ := cB4 K2) | (go_at_call 16; (with_reducible refine (impl_Val_none.calls _ _ _ _ _ _ A4.out).mono ?_); rintro e w9 ⟨rfl, hb⟩; obtain ⟨K1, K2, K3, K4, HB⟩ := bk4 K1 K2 K3 K4 HB hb; (try clear hb)))
  go_meet
  case rel => exact ⟨_, (t4), ey, H', le0, ⟨Z K1⟩, ⟨Z K2⟩, ⟨Z K3⟩, ⟨Z K4⟩, ⟨YA HB⟩⟩
 case rest =>
  clear C1
  obtain ⟨kq, x1, rfl, HA, J1, K1, K2, K3, K4, HB⟩ := hcut
  cases kq with
  | zero => exact absurd HA.out (by simp [impl_ValCmp.j0])
  | succ k1 =>
   have H := HA.out
   clear HA
   simp only [impl_ValCmp.j0] at H
   by_cases c1 : x1 = true
   ·subst c1
    rw [if_pos rfl] at H
    obtain ⟨⟨t5, t6, t7, t8⟩, A1, H⟩ := bd H
    try dsimp only at H
    obtain ⟨⟨t9, t10, t11, t12⟩, A2, H⟩ := bd H
    try dsimp only at H
    simp only [Option.some.injEq, Prod.mk.injEq] at H
    obtain ⟨rfl, rfl, rfl, rfl, rfl, rfl, rfl, rfl⟩ := H
    go_wp2_with (first | ((with_reducible refine gate_callee (f := 17) rfl ?_); refine gL 28 Try.func17 (impl_valNone.calls _ _ _ _ _ A1.out) fun w6 hb => ?_; obtain ⟨K1, K2, K3, K4, HB⟩ := bk4 K1 K2 K3 K4 HB hb; (try clear hb)) | ((with_reducible refine gate_callee (f := 17) rfl ?_); refine gL 29 Try.func17 (impl_valNone.calls _ _ _ _ _ A2.out) fun w7 hb => ?_; obtain ⟨K1, K2, K3, K4, HB⟩ := bk4 K1 K2 K3 K4 HB hb; (try clear hb); have z_ := ns5 N4 N6 N11 N8 N10; have z_ := cB4 K3; have z_ := cB4 K4))
    refine bodyPost_ret (results_cc rfl _ _ g3 g4 24 24 #[.int .i64 t5, .int .i64 t6, .int .i64 t7, .int .i64 t8] #[.int .i64 t9, .int .i64 t10, .int .i64 t11, .int .i64 t12] (0, 0) (0, 0) _ _ rfl (by refine fa N11 ?_; refine fa N11 ?_; refine fa N11 ?_; refine fa N11 ?_; refine pf ?_; refine blk_put (cs := #[.int .i64 t5, .int .i64 t6, .int .i64 t7, .int .i64 0]) ?_ 3 _ rfl; refine pf ?_; refine blk_put (cs := #[.int .i64 t5, .int .i64 t6, .int .i64 0, .int .i64 0]) ?_ 2 _ rfl; refine pf ?_; refine blk_put (cs := #[.int .i64 t5, .int .i64 0, .int .i64 0, .int .i64 0]) ?_ 1 _ rfl; refine pf ?_; refine blk_put (cs := #[.int .i64 0, .int .i64 0, .int .i64 0, .int .i64 0]) ?_ 0 _ rfl; exact Z K3) Try.underlying24 rfl (by kernel_rfl) rfl (by refine pf ?_; refine blk_put (cs := #[.int .i64 t9, .int .i64 t10, .int .i64 t11, .int .i64 0]) ?_ 3 _ rfl; refine pf ?_; refine blk_put (cs := #[.int .i64 t9, .int .i64 t10, .int .i64 0, .int .i64 0]) ?_ 2 _ rfl; refine pf ?_; refine blk_put (cs := #[.int .i64 t9, .int .i64 0, .int .i64 0, .int .i64 0]) ?_ 1 _ rfl; refine pf ?_; refine blk_put (cs := #[.int .i64 0, .int .i64 0, .int .i64 0, .int .i64 0]) ?_ 0 _ rfl; refine fa N12 ?_; refine fa N12 ?_; refine fa N12 ?_; refine fa N12 ?_; exact Z K4) Try.underlying24 rfl (by kernel_rfl)) rfl ?_
    exact ⟨ez, YA HB⟩
   replace c1 := Bool.eq_false_iff.mpr c1
   subst c1
   rw [if_neg ff] at H
   obtain ⟨⟨t5, t6⟩, A1, H⟩ := bd H
   try dsimp only at H
   obtain ⟨⟨t7, t8⟩, A2, H⟩ := bd H
   try dsimp only at H
   obtain ⟨⟨t9, t10, t11, t12⟩, A3, H⟩ := bd H
   try dsimp only at H
   obtain ⟨⟨t13, t14⟩, A4, H⟩ := bd H
   try dsimp only at H
   obtain ⟨⟨t15, t16, t17, t18⟩, A5, H⟩ := bd H
   try dsimp only at H
   obtain ⟨⟨t19, t20⟩, A6, H⟩ := bd H
   try dsimp only at H
   obtain ⟨⟨t21, t22, t23, t24⟩, A7, H⟩ := bd H
   try dsimp only at H
   have C2 := am H
   clear H
   try go_wp2
   obtain ⟨K1, K2, K3, K4, HB⟩ := dk4 K1 K2 K3 K4 HB
   refine start_ (n := 13) (S := fun w' => w'.cell? ⟨g1, 0, none⟩ = some (.int .i64 a1_0) ∧ w'.cell? ⟨g1, 1, none⟩ = some (.int .i64 a1_1) ∧ w'.cell? ⟨g1, 2, none⟩ = some (.int .i64 a1_2) ∧ w'.cell? ⟨g1, 3, none⟩ = some (.int .i64 a1_3) ∧ w'.cell? ⟨g2, 0, none⟩ = some (.int .i64 a2_0) ∧ w'.cell? ⟨g2, 1, none⟩ = some (.int .i64 a2_1) ∧ w'.cell? ⟨g2, 2, none⟩ = some (.int .i64 a2_2) ∧ w'.cell? ⟨g2, 3, none⟩ = some (.int .i64 a2_3)) (ds := []) (lb 13 0) (by kernel_rfl) rfl rfl ⟨bc K1 0, bc K1 1, bc K1 2, bc K1 3, bc K2 0, bc K2 1, bc K2 2, bc K2 3⟩ (fun hHeld => ?_); refine with_tabW impl_ValCmp.tab3 impl_ValCmp.bits3 (fun HT_ HW_ => ?_)
   generalize wc.drew = w6 at K1 K2 K3 K4 HB hHeld ⊢
   refine pk 0 31 1 ?_
   refine tk 1 32 3 hHeld ?_
   refine tk 3 34 11 hHeld ?_
   refine join_ (σ := Nat × Nat) 2 (lb 13 2047) (fun s_ => [(33, .agg #[.int .i64 t5, .int .i64 t6]), (35, .agg #[.int .i64 t7, .int .i64 t8]), (36, .tuple #[.agg #[.int .i64 t9, .int .i64 t10], .agg #[.int .i64 t11, .int .i64 t12]]), (8, .pointer (some ⟨s_.1, 0, none⟩)), (9, .pointer (some ⟨s_.2, 0, none⟩)), (30, .tuple #[.agg #[.int .i64 t9, .int .i64 t10], .agg #[.int .i64 t11, .int .i64 t12]]), (37, .agg #[.int .i64 t9, .int .i64 t10]), (38, .agg #[.int .i64 t11, .int .i64 t12])]) (fun s_ w' => (w'.cell? ⟨g1, 0, none⟩ = some (.int .i64 a1_0) ∧ w'.cell? ⟨g1, 1, none⟩ = some (.int .i64 a1_1) ∧ w'.cell? ⟨g1, 2, none⟩ = some (.int .i64 a1_2) ∧ w'.cell? ⟨g1, 3, none⟩ = some (.int .i64 a1_3) ∧ w'.cell? ⟨g2, 0, none⟩ = some (.int .i64 a2_0) ∧ w'.cell? ⟨g2, 1, none⟩ = some (.int .i64 a2_1) ∧ w'.cell? ⟨g2, 2, none⟩ = some (.int .i64 a2_2) ∧ w'.cell? ⟨g2, 3, none⟩ = some (.int .i64 a2_3)) ∧ (w'.heap[g1]? = some (.cells #[.int .i64 a1_0, .int .i64 a1_1, .int .i64 a1_2, .int .i64 a1_3] 24 (0, 0))) ∧ (w'.heap[g2]? = some (.cells #[.int .i64 a2_0, .int .i64 a2_1, .int .i64 a2_2, .int .i64 a2_3] 24 (0, 0))) ∧ (w'.heap[g3]? = some (.cells #[.int .i64 0, .int .i64 0, .int .i64 0, .int .i64 0] 24 (0, 0))) ∧ (w'.heap[g4]? = some (.cells #[.int .i64 0, .int .i64 0, .int .i64 0, .int .i64 0] 24 (0, 0))) ∧ (w'.heap[s_.1]? = some (.cells #[.int .i64 0, .int .i64 0] 33 (0, 0))) ∧ (w'.heap[s_.2]? = some (.cells #[.int .i64 0, .int .i64 0] 33 (0, 0))) ∧ (w.heap.size ≤ s_.1) ∧ (w.heap.size ≤ s_.1) ∧ (g1 ≠ s_.1) ∧ (s_.1 ≠ g1) ∧ (g2 ≠ s_.1) ∧ (s_.1 ≠ g2) ∧ (g3 ≠ s_.1) ∧ (s_.1 ≠ g3) ∧ (g4 ≠ s_.1) ∧ (s_.1 ≠ g4) ∧ (s_.2 ≠ s_.1) ∧ (s_.1 ≠ s_.2) ∧ (w.heap.size ≤ s_.2) ∧ (w.heap.size ≤ s_.2) ∧ (g1 ≠ s_.2) ∧ (s_.2 ≠ g1) ∧ (g2 ≠ s_.2) ∧ (s_.2 ≠ g2) ∧ (g3 ≠ s_.2) ∧ (s_.2 ≠ g3) ∧ (g4 ≠ s_.2) ∧ (s_.2 ≠ g4) ∧ (Below w.heap.size w w')) ?_ ?_
   rotate_left
   ·intro hJ2_4_5_9_10
    refine join_ (σ := Nat) 3 (lb 13 1023) (fun s_ => [(33, .agg #[.int .i64 t5, .int .i64 t6]), (35, .agg #[.int .i64 t7, .int .i64 t8]), (36, .tuple #[.agg #[.int .i64 t9, .int .i64 t10], .agg #[.int .i64 t11, .int .i64 t12]]), (8, .pointer (some ⟨s_, 0, none⟩)), (30, .tuple #[.agg #[.int .i64 t9, .int .i64 t10], .agg #[.int .i64 t11, .int .i64 t12]]), (37, .agg #[.int .i64 t9, .int .i64 t10]), (38, .agg #[.int .i64 t11, .int .i64 t12])]) (fun s_ w' => (w'.cell? ⟨g1, 0, none⟩ = some (.int .i64 a1_0) ∧ w'.cell? ⟨g1, 1, none⟩ = some (.int .i64 a1_1) ∧ w'.cell? ⟨g1, 2, none⟩ = some (.int .i64 a1_2) ∧ w'.cell? ⟨g1, 3, none⟩ = some (.int .i64 a1_3) ∧ w'.cell? ⟨g2, 0, none⟩ = some (.int .i64 a2_0) ∧ w'.cell? ⟨g2, 1, none⟩ = some (.int .i64 a2_1) ∧ w'.cell? ⟨g2, 2, none⟩ = some (.int .i64 a2_2) ∧ w'.cell? ⟨g2, 3, none⟩ = some (.int .i64 a2_3)) ∧ (w'.heap[g1]? = some (.cells #[.int .i64 a1_0, .int .i64 a1_1, .int .i64 a1_2, .int .i64 a1_3] 24 (0, 0))) ∧ (w'.heap[g2]? = some (.cells #[.int .i64 a2_0, .int .i64 a2_1, .int .i64 a2_2, .int .i64 a2_3] 24 (0, 0))) ∧ (w'.heap[g3]? = some (.cells #[.int .i64 0, .int .i64 0, .int .i64 0, .int .i64 0] 24 (0, 0))) ∧ (w'.heap[g4]? = some (.cells #[.int .i64 0, .int .i64 0, .int .i64 0, .int .i64 0] 24 (0, 0))) ∧ (w'.heap[s_]? = some (.cells #[.int .i64 0, .int .i64 0] 33 (0, 0))) ∧ (w.heap.size ≤ s_) ∧ (w.heap.size ≤ s_) ∧ (g1 ≠ s_) ∧ (s_ ≠ g1) ∧ (g2 ≠ s_) ∧ (s_ ≠ g2) ∧ (g3 ≠ s_) ∧ (s_ ≠ g3) ∧ (g4 ≠ s_) ∧ (s_ ≠ g4) ∧ (Below w.heap.size w w')) ?_ ?_
    rotate_left
    rotate_left
    ·skip
     rintro g5 w7 ⟨hS_, h0_, h1_, h2_, h3_, h4_, h5_, h6_, h7_, h8_, h9_, h10_, h11_, h12_, h13_, h14_, h15_⟩
     have K5 : Bx2 w7 g5 0 0 33 := ⟨h4_⟩
     have G5 : Aside0 (w.heap.size ≤ g5) := ⟨h5_⟩
     have G6 : Aside0 (w.heap.size ≤ g5) := ⟨h6_⟩
     have N13 : Aside0 (g1 ≠ g5) := ⟨h7_⟩
     have N14 : Aside0 (g5 ≠ g1) := ⟨h8_⟩
     have N15 : Aside0 (g2 ≠ g5) := ⟨h9_⟩
     have N16 : Aside0 (g5 ≠ g2) := ⟨h10_⟩
     have N17 : Aside0 (g3 ≠ g5) := ⟨h11_⟩
     have N18 : Aside0 (g5 ≠ g3) := ⟨h12_⟩
     have N19 : Aside0 (g4 ≠ g5) := ⟨h13_⟩
     have N20 : Aside0 (g5 ≠ g4) := ⟨h14_⟩
     replace K1 : Bx4 w7 g1 a1_0 a1_1 a1_2 a1_3 24 := ⟨h0_⟩
     replace K2 : Bx4 w7 g2 a2_0 a2_1 a2_2 a2_3 24 := ⟨h1_⟩
     replace K3 : Bx4 w7 g3 0 0 0 0 24 := ⟨h2_⟩
     replace K4 : Bx4 w7 g4 0 0 0 0 24 := ⟨h3_⟩
     replace HB : Aside0 (Below w.heap.size w w7) := ⟨h15_⟩
     clear h0_ h1_ h2_ h3_ h4_ h5_ h6_ h7_ h8_ h9_ h10_ h11_ h12_ h13_ h14_ h15_
     have hHeld : w7.cell? ⟨g1, 0, none⟩ = some (.int .i64 a1_0) ∧ w7.cell? ⟨g1, 1, none⟩ = some (.int .i64 a1_1) ∧ w7.cell? ⟨g1, 2, none⟩ = some (.int .i64 a1_2) ∧ w7.cell? ⟨g1, 3, none⟩ = some (.int .i64 a1_3) ∧ w7.cell? ⟨g2, 0, none⟩ = some (.int .i64 a2_0) ∧ w7.cell? ⟨g2, 1, none⟩ = some (.int .i64 a2_1) ∧ w7.cell? ⟨g2, 2, none⟩ = some (.int .i64 a2_2) ∧ w7.cell? ⟨g2, 3, none⟩ = some (.int .i64 a2_3) := hS_
     refine norm_ (a' := ?_) ?_ ?_
     rotate_left
     ·simp only [putAll, Act.put, List.setIfInBounds_toArray, List.set_cons_zero, List.set_cons_succ]
      rfl
     refine on 10 (some 9) 2047 fun K hK => ?_
     refine box_step ?hg (N := 9) ?hd (cs := #[.int .i64 0, .int .i64 0]) (t := 33) ?hr ?_; (case hd => rfl); (case hg => rfl); (case hr => first | (go_simp; done) | (go_simp; rfl))
     intro g6 hg w8 hbox hb
     have K6 := am (hbox)
     have G7 := am (bs hg (YA HB))
     have G8 := am (bs hg (YA HB))
     obtain ⟨N21,N22⟩ := ne_ hg K1
     obtain ⟨N23,N24⟩ := ne_ hg K2
     obtain ⟨N25,N26⟩ := ne_ hg K3
     obtain ⟨N27,N28⟩ := ne_ hg K4
     obtain ⟨N29,N30⟩ := ne_ hg K5
     obtain ⟨K1, K2, K3, K4, K5, HB⟩ := bk5 K1 K2 K3 K4 K5 HB hb
     clear hb hbox hg
     refine kk hK ⟨bc K1 0, bc K1 1, bc K1 2, bc K1 3, bc K2 0, bc K2 1, bc K2 2, bc K2 3⟩ fun hHeld => ?_
     clear hK K
     exact norm_ nz (hJ2_4_5_9_10 (g5, g6) _ ⟨hHeld, (Z K1), (Z K2), (Z K3), (Z K4), (Z K5), (Z K6), G5.out, G6.out, N13.out, N14.out, N15.out, N16.out, N17.out, N18.out, N19.out, N20.out, N30.out, N29.out, G7.out, G8.out, N21.out, N22.out, N23.out, N24.out, N25.out, N26.out, N27.out, N28.out, (YA HB)⟩)
    intro hJ2_4_5_9
    refine join_ (σ := Nat) 3 (lb 13 1535) (fun s_ => [(33, .agg #[.int .i64 t5, .int .i64 t6]), (35, .agg #[.int .i64 t7, .int .i64 t8]), (36, .tuple #[.agg #[.int .i64 t9, .int .i64 t10], .agg #[.int .i64 t11, .int .i64 t12]]), (9, .pointer (some ⟨s_, 0, none⟩)), (30, .tuple #[.agg #[.int .i64 t9, .int .i64 t10], .agg #[.int .i64 t11, .int .i64 t12]]), (37, .agg #[.int .i64 t9, .int .i64 t10]), (38, .agg #[.int .i64 t11, .int .i64 t12])]) (fun s_ w' => (w'.cell? ⟨g1, 0, none⟩ = some (.int .i64 a1_0) ∧ w'.cell? ⟨g1, 1, none⟩ = some (.int .i64 a1_1) ∧ w'.cell? ⟨g1, 2, none⟩ = some (.int .i64 a1_2) ∧ w'.cell? ⟨g1, 3, none⟩ = some (.int .i64 a1_3) ∧ w'.cell? ⟨g2, 0, none⟩ = some (.int .i64 a2_0) ∧ w'.cell? ⟨g2, 1, none⟩ = some (.int .i64 a2_1) ∧ w'.cell? ⟨g2, 2, none⟩ = some (.int .i64 a2_2) ∧ w'.cell? ⟨g2, 3, none⟩ = some (.int .i64 a2_3)) ∧ (w'.heap[g1]? = some (.cells #[.int .i64 a1_0, .int .i64 a1_1, .int .i64 a1_2, .int .i64 a1_3] 24 (0, 0))) ∧ (w'.heap[g2]? = some (.cells #[.int .i64 a2_0, .int .i64 a2_1, .int .i64 a2_2, .int .i64 a2_3] 24 (0, 0))) ∧ (w'.heap[g3]? = some (.cells #[.int .i64 0, .int .i64 0, .int .i64 0, .int .i64 0] 24 (0, 0))) ∧ (w'.heap[g4]? = some (.cells #[.int .i64 0, .int .i64 0, .int .i64 0, .int .i64 0] 24 (0, 0))) ∧ (w'.heap[s_]? = some (.cells #[.int .i64 0, .int .i64 0] 33 (0, 0))) ∧ (w.heap.size ≤ s_) ∧ (w.heap.size ≤ s_) ∧ (g1 ≠ s_) ∧ (s_ ≠ g1) ∧ (g2 ≠ s_) ∧ (s_ ≠ g2) ∧ (g3 ≠ s_) ∧ (s_ ≠ g3) ∧ (g4 ≠ s_) ∧ (s_ ≠ g4) ∧ (Below w.heap.size w w')) ?_ ?_
    rotate_left
    rotate_left
    ·skip
     rintro g5 w7 ⟨hS_, h0_, h1_, h2_, h3_, h4_, h5_, h6_, h7_, h8_, h9_, h10_, h11_, h12_, h13_, h14_, h15_⟩
     have K5 : Bx2 w7 g5 0 0 33 := ⟨h4_⟩
     have G5 : Aside0 (w.heap.size ≤ g5) := ⟨h5_⟩
     have G6 : Aside0 (w.heap.size ≤ g5) := ⟨h6_⟩
     have N13 : Aside0 (g1 ≠ g5) := ⟨h7_⟩
     have N14 : Aside0 (g5 ≠ g1) := ⟨h8_⟩
     have N15 : Aside0 (g2 ≠ g5) := ⟨h9_⟩
     have N16 : Aside0 (g5 ≠ g2) := ⟨h10_⟩
     have N17 : Aside0 (g3 ≠ g5) := ⟨h11_⟩
     have N18 : Aside0 (g5 ≠ g3) := ⟨h12_⟩
     have N19 : Aside0 (g4 ≠ g5) := ⟨h13_⟩
     have N20 : Aside0 (g5 ≠ g4) := ⟨h14_⟩
     replace K1 : Bx4 w7 g1 a1_0 a1_1 a1_2 a1_3 24 := ⟨h0_⟩
     replace K2 : Bx4 w7 g2 a2_0 a2_1 a2_2 a2_3 24 := ⟨h1_⟩
     replace K3 : Bx4 w7 g3 0 0 0 0 24 := ⟨h2_⟩
     replace K4 : Bx4 w7 g4 0 0 0 0 24 := ⟨h3_⟩
     replace HB : Aside0 (Below w.heap.size w w7) := ⟨h15_⟩
     clear h0_ h1_ h2_ h3_ h4_ h5_ h6_ h7_ h8_ h9_ h10_ h11_ h12_ h13_ h14_ h15_
     have hHeld : w7.cell? ⟨g1, 0, none⟩ = some (.int .i64 a1_0) ∧ w7.cell? ⟨g1, 1, none⟩ = some (.int .i64 a1_1) ∧ w7.cell? ⟨g1, 2, none⟩ = some (.int .i64 a1_2) ∧ w7.cell? ⟨g1, 3, none⟩ = some (.int .i64 a1_3) ∧ w7.cell? ⟨g2, 0, none⟩ = some (.int .i64 a2_0) ∧ w7.cell? ⟨g2, 1, none⟩ = some (.int .i64 a2_1) ∧ w7.cell? ⟨g2, 2, none⟩ = some (.int .i64 a2_2) ∧ w7.cell? ⟨g2, 3, none⟩ = some (.int .i64 a2_3) := hS_
     refine norm_ (a' := ?_) ?_ ?_
     rotate_left
     ·simp only [putAll, Act.put, List.setIfInBounds_toArray, List.set_cons_zero, List.set_cons_succ]
      rfl
     refine on 9 (some 8) 2047 fun K hK => ?_
     refine box_step ?hg (N := 8) ?hd (cs := #[.int .i64 0, .int .i64 0]) (t := 33) ?hr ?_; (case hd => rfl); (case hg => rfl); (case hr => first | (go_simp; done) | (go_simp; rfl))
     intro g6 hg w8 hbox hb
     have K6 := am (hbox)
     have G7 := am (bs hg (YA HB))
     have G8 := am (bs hg (YA HB))
     obtain ⟨N21,N22⟩ := ne_ hg K1
     obtain ⟨N23,N24⟩ := ne_ hg K2
     obtain ⟨N25,N26⟩ := ne_ hg K3
     obtain ⟨N27,N28⟩ := ne_ hg K4
     obtain ⟨N29,N30⟩ := ne_ hg K5
     obtain ⟨K1, K2, K3, K4, K5, HB⟩ := bk5 K1 K2 K3 K4 K5 HB hb
     clear hb hbox hg
     refine kk hK ⟨bc K1 0, bc K1 1, bc K1 2, bc K1 3, bc K2 0, bc K2 1, bc K2 2, bc K2 3⟩ fun hHeld => ?_
     clear hK K
     exact norm_ nz (hJ2_4_5_9_10 (g6, g5) _ ⟨hHeld, (Z K1), (Z K2), (Z K3), (Z K4), (Z K6), (Z K5), G7.out, G8.out, N21.out, N22.out, N23.out, N24.out, N25.out, N26.out, N27.out, N28.out, N29.out, N30.out, G5.out, G6.out, N13.out, N14.out, N15.out, N16.out, N17.out, N18.out, N19.out, N20.out, (YA HB)⟩)
    intro hJ2_4_5_10
    refine join_ (σ := Nat × Nat) 6 (lb 13 1567) (fun s_ => [(33, .agg #[.int .i64 t5, .int .i64 t6]), (35, .agg #[.int .i64 t7, .int .i64 t8]), (8, .pointer (some ⟨s_.1, 0, none⟩)), (9, .pointer (some ⟨s_.2, 0, none⟩))]) (fun s_ w' => (w'.cell? ⟨g1, 0, none⟩ = some (.int .i64 a1_0) ∧ w'.cell? ⟨g1, 1, none⟩ = some (.int .i64 a1_1) ∧ w'.cell? ⟨g1, 2, none⟩ = some (.int .i64 a1_2) ∧ w'.cell? ⟨g1, 3, none⟩ = some (.int .i64 a1_3) ∧ w'.cell? ⟨g2, 0, none⟩ = some (.int .i64 a2_0) ∧ w'.cell? ⟨g2, 1, none⟩ = some (.int .i64 a2_1) ∧ w'.cell? ⟨g2, 2, none⟩ = some (.int .i64 a2_2) ∧ w'.cell? ⟨g2, 3, none⟩ = some (.int .i64 a2_3)) ∧ (w'.heap[g1]? = some (.cells #[.int .i64 a1_0, .int .i64 a1_1, .int .i64 a1_2, .int .i64 a1_3] 24 (0, 0))) ∧ (w'.heap[g2]? = some (.cells #[.int .i64 a2_0, .int .i64 a2_1, .int .i64 a2_2, .int .i64 a2_3] 24 (0, 0))) ∧ (w'.heap[g3]? = some (.cells #[.int .i64 0, .int .i64 0, .int .i64 0, .int .i64 0] 24 (0, 0))) ∧ (w'.heap[g4]? = some (.cells #[.int .i64 0, .int .i64 0, .int .i64 0, .int .i64 0] 24 (0, 0))) ∧ (w'.heap[s_.1]? = some (.cells #[.int .i64 0, .int .i64 0] 33 (0, 0))) ∧ (w'.heap[s_.2]? = some (.cells #[.int .i64 0, .int .i64 0] 33 (0, 0))) ∧ (w.heap.size ≤ s_.1) ∧ (w.heap.size ≤ s_.1) ∧ (g1 ≠ s_.1) ∧ (s_.1 ≠ g1) ∧ (g2 ≠ s_.1) ∧ (s_.1 ≠ g2) ∧ (g3 ≠ s_.1) ∧ (s_.1 ≠ g3) ∧ (g4 ≠ s_.1) ∧ (s_.1 ≠ g4) ∧ (s_.2 ≠ s_.1) ∧ (s_.1 ≠ s_.2) ∧ (w.heap.size ≤ s_.2) ∧ (w.heap.size ≤ s_.2) ∧ (g1 ≠ s_.2) ∧ (s_.2 ≠ g1) ∧ (g2 ≠ s_.2) ∧ (s_.2 ≠ g2) ∧ (g3 ≠ s_.2) ∧ (s_.2 ≠ g3) ∧ (g4 ≠ s_.2) ∧ (s_.2 ≠ g4) ∧ (Below w.heap.size w w')) ?_ ?_
    rotate_left
    rotate_left
    ·skip
     rintro ⟨g5, g6⟩ w7 ⟨hS_, h0_, h1_, h2_, h3_, h4_, h5_, h6_, h7_, h8_, h9_, h10_, h11_, h12_, h13_, h14_, h15_, h16_, h17_, h18_, h19_, h20_, h21_, h22_, h23_, h24_, h25_, h26_, h27_, h28_⟩
     have K5 : Bx2 w7 g5 0 0 33 := ⟨h4_⟩
     have K6 : Bx2 w7 g6 0 0 33 := ⟨h5_⟩
     have G5 : Aside0 (w.heap.size ≤ g5) := ⟨h6_⟩
     have G6 : Aside0 (w.heap.size ≤ g5) := ⟨h7_⟩
     have N13 : Aside0 (g1 ≠ g5) := ⟨h8_⟩
     have N14 : Aside0 (g5 ≠ g1) := ⟨h9_⟩
     have N15 : Aside0 (g2 ≠ g5) := ⟨h10_⟩
     have N16 : Aside0 (g5 ≠ g2) := ⟨h11_⟩
     have N17 : Aside0 (g3 ≠ g5) := ⟨h12_⟩
     have N18 : Aside0 (g5 ≠ g3) := ⟨h13_⟩
     have N19 : Aside0 (g4 ≠ g5) := ⟨h14_⟩
     have N20 : Aside0 (g5 ≠ g4) := ⟨h15_⟩
     have N21 : Aside0 (g6 ≠ g5) := ⟨h16_⟩
     have N22 : Aside0 (g5 ≠ g6) := ⟨h17_⟩
     have G7 : Aside0 (w.heap.size ≤ g6) := ⟨h18_⟩
     have G8 : Aside0 (w.heap.size ≤ g6) := ⟨h19_⟩
     have N23 : Aside0 (g1 ≠ g6) := ⟨h20_⟩
     have N24 : Aside0 (g6 ≠ g1) := ⟨h21_⟩
     have N25 : Aside0 (g2 ≠ g6) := ⟨h22_⟩
     have N26 : Aside0 (g6 ≠ g2) := ⟨h23_⟩
     have N27 : Aside0 (g3 ≠ g6) := ⟨h24_⟩
     have N28 : Aside0 (g6 ≠ g3) := ⟨h25_⟩
     have N29 : Aside0 (g4 ≠ g6) := ⟨h26_⟩
     have N30 : Aside0 (g6 ≠ g4) := ⟨h27_⟩
     replace K1 : Bx4 w7 g1 a1_0 a1_1 a1_2 a1_3 24 := ⟨h0_⟩
     replace K2 : Bx4 w7 g2 a2_0 a2_1 a2_2 a2_3 24 := ⟨h1_⟩
     replace K3 : Bx4 w7 g3 0 0 0 0 24 := ⟨h2_⟩
     replace K4 : Bx4 w7 g4 0 0 0 0 24 := ⟨h3_⟩
     replace HB : Aside0 (Below w.heap.size w w7) := ⟨h28_⟩
     clear h0_ h1_ h2_ h3_ h4_ h5_ h6_ h7_ h8_ h9_ h10_ h11_ h12_ h13_ h14_ h15_ h16_ h17_ h18_ h19_ h20_ h21_ h22_ h23_ h24_ h25_ h26_ h27_ h28_
     have hHeld : w7.cell? ⟨g1, 0, none⟩ = some (.int .i64 a1_0) ∧ w7.cell? ⟨g1, 1, none⟩ = some (.int .i64 a1_1) ∧ w7.cell? ⟨g1, 2, none⟩ = some (.int .i64 a1_2) ∧ w7.cell? ⟨g1, 3, none⟩ = some (.int .i64 a1_3) ∧ w7.cell? ⟨g2, 0, none⟩ = some (.int .i64 a2_0) ∧ w7.cell? ⟨g2, 1, none⟩ = some (.int .i64 a2_1) ∧ w7.cell? ⟨g2, 2, none⟩ = some (.int .i64 a2_2) ∧ w7.cell? ⟨g2, 3, none⟩ = some (.int .i64 a2_3) := hS_
     refine norm_ (a' := ?_) ?_ ?_
     rotate_left
     ·simp only [putAll, Act.put, List.setIfInBounds_toArray, List.set_cons_zero, List.set_cons_succ]
      rfl
     refine cl6 5 36 1599 Try.func18 (impl_RangeCmp.calls _ _ _ _ _ _ _ _ _ _ _ A3.out) K1 K2 K3 K4 K5 K6 HB fun w8 K1 K2 K3 K4 K5 K6 HB hHeld => ?_
     refine pk 6 30 1663 ?_
     refine pk 7 37 1791 ?_
     refine pk 8 38 2047 ?_
     exact norm_ nz (hJ2_4_5_9_10 (g5, g6) _ ⟨hHeld, (Z K1), (Z K2), (Z K3), (Z K4), (Z K5), (Z K6), G5.out, G6.out, N13.out, N14.out, N15.out, N16.out, N17.out, N18.out, N19.out, N20.out, N21.out, N22.out, G7.out, G8.out, N23.out, N24.out, N25.out, N26.out, N27.out, N28.out, N29.out, N30.out, (YA HB)⟩)
    intro hJ2_4_9_10
    refine join_ (σ := Unit) 4 (lb 13 511) (fun s_ => [(33, .agg #[.int .i64 t5, .int .i64 t6]), (35, .agg #[.int .i64 t7, .int .i64 t8]), (36, .tuple #[.agg #[.int .i64 t9, .int .i64 t10], .agg #[.int .i64 t11, .int .i64 t12]]), (30, .tuple #[.agg #[.int .i64 t9, .int .i64 t10], .agg #[.int .i64 t11, .int .i64 t12]]), (37, .agg #[.int .i64 t9, .int .i64 t10]), (38, .agg #[.int .i64 t11, .int .i64 t12])]) (fun s_ w' => (w'.cell? ⟨g1, 0, none⟩ = some (.int .i64 a1_0) ∧ w'.cell? ⟨g1, 1, none⟩ = some (.int .i64 a1_1) ∧ w'.cell? ⟨g1, 2, none⟩ = some (.int .i64 a1_2) ∧ w'.cell? ⟨g1, 3, none⟩ = some (.int .i64 a1_3) ∧ w'.cell? ⟨g2, 0, none⟩ = some (.int .i64 a2_0) ∧ w'.cell? ⟨g2, 1, none⟩ = some (.int .i64 a2_1) ∧ w'.cell? ⟨g2, 2, none⟩ = some (.int .i64 a2_2) ∧ w'.cell? ⟨g2, 3, none⟩ = some (.int .i64 a2_3)) ∧ (w'.heap[g1]? = some (.cells #[.int .i64 a1_0, .int .i64 a1_1, .int .i64 a1_2, .int .i64 a1_3] 24 (0, 0))) ∧ (w'.heap[g2]? = some (.cells #[.int .i64 a2_0, .int .i64 a2_1, .int .i64 a2_2, .int .i64 a2_3] 24 (0, 0))) ∧ (w'.heap[g3]? = some (.cells #[.int .i64 0, .int .i64 0, .int .i64 0, .int .i64 0] 24 (0, 0))) ∧ (w'.heap[g4]? = some (.cells #[.int .i64 0, .int .i64 0, .int .i64 0, .int .i64 0] 24 (0, 0))) ∧ (Below w.heap.size w w')) ?_ ?_
    rotate_left
    rotate_left
    ·skip
     rintro _ w7 ⟨hS_, h0_, h1_, h2_, h3_, h4_⟩
     replace K1 : Bx4 w7 g1 a1_0 a1_1 a1_2 a1_3 24 := ⟨h0_⟩
     replace K2 : Bx4 w7 g2 a2_0 a2_1 a2_2 a2_3 24 := ⟨h1_⟩
     replace K3 : Bx4 w7 g3 0 0 0 0 24 := ⟨h2_⟩
     replace K4 : Bx4 w7 g4 0 0 0 0 24 := ⟨h3_⟩
     replace HB : Aside0 (Below w.heap.size w w7) := ⟨h4_⟩
     clear h0_ h1_ h2_ h3_ h4_
     have hHeld : w7.cell? ⟨g1, 0, none⟩ = some (.int .i64 a1_0) ∧ w7.cell? ⟨g1, 1, none⟩ = some (.int .i64 a1_1) ∧ w7.cell? ⟨g1, 2, none⟩ = some (.int .i64 a1_2) ∧ w7.cell? ⟨g1, 3, none⟩ = some (.int .i64 a1_3) ∧ w7.cell? ⟨g2, 0, none⟩ = some (.int .i64 a2_0) ∧ w7.cell? ⟨g2, 1, none⟩ = some (.int .i64 a2_1) ∧ w7.cell? ⟨g2, 2, none⟩ = some (.int .i64 a2_2) ∧ w7.cell? ⟨g2, 3, none⟩ = some (.int .i64 a2_3) := hS_
     refine norm_ (a' := ?_) ?_ ?_
     rotate_left
     ·simp only [putAll, Act.put, List.setIfInBounds_toArray, List.set_cons_zero, List.set_cons_succ]
      rfl
     refine two_ (i := 9) (j := 10) (Ni := some 8) (Nj := some 9) (lb 13 1023) (lb 13 1535) rfl rfl rfl rfl (two_of HT_.out (by kernel_rfl)) (by decide) (by decide) (fun K hK => ?_) (fun K hK => ?_)
     ·skip
      refine box_step ?hg (N := 8) ?hd (cs := #[.int .i64 0, .int .i64 0]) (t := 33) ?hr ?_; (case hd => rfl); (case hg => rfl); (case hr => first | (go_simp; done) | (go_simp; rfl))
      intro g5 hg w8 hbox hb
      have K5 := am (hbox)
      have G5 := am (bs hg (YA HB))
      have G6 := am (bs hg (YA HB))
      obtain ⟨N13,N14⟩ := ne_ hg K1
      obtain ⟨N15,N16⟩ := ne_ hg K2
      obtain ⟨N17,N18⟩ := ne_ hg K3
      obtain ⟨N19,N20⟩ := ne_ hg K4
      obtain ⟨K1, K2, K3, K4, HB⟩ := bk4 K1 K2 K3 K4 HB hb
      clear hb hbox hg
      refine kk hK ⟨bc K1 0, bc K1 1, bc K1 2, bc K1 3, bc K2 0, bc K2 1, bc K2 2, bc K2 3⟩ fun hHeld => ?_
      clear hK K
      exact norm_ nz (hJ2_4_5_9 (g5) _ ⟨hHeld, (Z K1), (Z K2), (Z K3), (Z K4), (Z K5), G5.out, G6.out, N13.out, N14.out, N15.out, N16.out, N17.out, N18.out, N19.out, N20.out, (YA HB)⟩)
     skip
     refine box_step ?hg (N := 9) ?hd (cs := #[.int .i64 0, .int .i64 0]) (t := 33) ?hr ?_; (case hd => rfl); (case hg => rfl); (case hr => first | (go_simp; done) | (go_simp; rfl))
     intro g5 hg w8 hbox hb
     have K5 := am (hbox)
     have G5 := am (bs hg (YA HB))
     have G6 := am (bs hg (YA HB))
     obtain ⟨N13,N14⟩ := ne_ hg K1
     obtain ⟨N15,N16⟩ := ne_ hg K2
     obtain ⟨N17,N18⟩ := ne_ hg K3
     obtain ⟨N19,N20⟩ := ne_ hg K4
     obtain ⟨K1, K2, K3, K4, HB⟩ := bk4 K1 K2 K3 K4 HB hb
     clear hb hbox hg
     refine kk hK ⟨bc K1 0, bc K1 1, bc K1 2, bc K1 3, bc K2 0, bc K2 1, bc K2 2, bc K2 3⟩ fun hHeld => ?_
     clear hK K
     exact norm_ nz (hJ2_4_5_10 (g5) _ ⟨hHeld, (Z K1), (Z K2), (Z K3), (Z K4), (Z K5), G5.out, G6.out, N13.out, N14.out, N15.out, N16.out, N17.out, N18.out, N19.out, N20.out, (YA HB)⟩)
    intro hJ2_4_5
    refine join_ (σ := Nat) 7 (lb 13 543) (fun s_ => [(33, .agg #[.int .i64 t5, .int .i64 t6]), (35, .agg #[.int .i64 t7, .int .i64 t8]), (8, .pointer (some ⟨s_, 0, none⟩))]) (fun s_ w' => (w'.cell? ⟨g1, 0, none⟩ = some (.int .i64 a1_0) ∧ w'.cell? ⟨g1, 1, none⟩ = some (.int .i64 a1_1) ∧ w'.cell? ⟨g1, 2, none⟩ = some (.int .i64 a1_2) ∧ w'.cell? ⟨g1, 3, none⟩ = some (.int .i64 a1_3) ∧ w'.cell? ⟨g2, 0, none⟩ = some (.int .i64 a2_0) ∧ w'.cell? ⟨g2, 1, none⟩ = some (.int .i64 a2_1) ∧ w'.cell? ⟨g2, 2, none⟩ = some (.int .i64 a2_2) ∧ w'.cell? ⟨g2, 3, none⟩ = some (.int .i64 a2_3)) ∧ (w'.heap[g1]? = some (.cells #[.int .i64 a1_0, .int .i64 a1_1, .int .i64 a1_2, .int .i64 a1_3] 24 (0, 0))) ∧ (w'.heap[g2]? = some (.cells #[.int .i64 a2_0, .int .i64 a2_1, .int .i64 a2_2, .int .i64 a2_3] 24 (0, 0))) ∧ (w'.heap[g3]? = some (.cells #[.int .i64 0, .int .i64 0, .int .i64 0, .int .i64 0] 24 (0, 0))) ∧ (w'.heap[g4]? = some (.cells #[.int .i64 0, .int .i64 0, .int .i64 0, .int .i64 0] 24 (0, 0))) ∧ (w'.heap[s_]? = some (.cells #[.int .i64 0, .int .i64 0] 33 (0, 0))) ∧ (w.heap.size ≤ s_) ∧ (w.heap.size ≤ s_) ∧ (g1 ≠ s_) ∧ (s_ ≠ g1) ∧ (g2 ≠ s_) ∧ (s_ ≠ g2) ∧ (g3 ≠ s_) ∧ (s_ ≠ g3) ∧ (g4 ≠ s_) ∧ (s_ ≠ g4) ∧ (Below w.heap.size w w')) ?_ ?_
    rotate_left
    rotate_left
    ·skip
     rintro g5 w7 ⟨hS_, h0_, h1_, h2_, h3_, h4_, h5_, h6_, h7_, h8_, h9_, h10_, h11_, h12_, h13_, h14_, h15_⟩
     have K5 : Bx2 w7 g5 0 0 33 := ⟨h4_⟩
     have G5 : Aside0 (w.heap.size ≤ g5) := ⟨h5_⟩
     have G6 : Aside0 (w.heap.size ≤ g5) := ⟨h6_⟩
     have N13 : Aside0 (g1 ≠ g5) := ⟨h7_⟩
     have N14 : Aside0 (g5 ≠ g1) := ⟨h8_⟩
     have N15 : Aside0 (g2 ≠ g5) := ⟨h9_⟩
     have N16 : Aside0 (g5 ≠ g2) := ⟨h10_⟩
     have N17 : Aside0 (g3 ≠ g5) := ⟨h11_⟩
     have N18 : Aside0 (g5 ≠ g3) := ⟨h12_⟩
     have N19 : Aside0 (g4 ≠ g5) := ⟨h13_⟩
     have N20 : Aside0 (g5 ≠ g4) := ⟨h14_⟩
     replace K1 : Bx4 w7 g1 a1_0 a1_1 a1_2 a1_3 24 := ⟨h0_⟩
     replace K2 : Bx4 w7 g2 a2_0 a2_1 a2_2 a2_3 24 := ⟨h1_⟩
     replace K3 : Bx4 w7 g3 0 0 0 0 24 := ⟨h2_⟩
     replace K4 : Bx4 w7 g4 0 0 0 0 24 := ⟨h3_⟩
     replace HB : Aside0 (Below w.heap.size w w7) := ⟨h15_⟩
     clear h0_ h1_ h2_ h3_ h4_ h5_ h6_ h7_ h8_ h9_ h10_ h11_ h12_ h13_ h14_ h15_
     have hHeld : w7.cell? ⟨g1, 0, none⟩ = some (.int .i64 a1_0) ∧ w7.cell? ⟨g1, 1, none⟩ = some (.int .i64 a1_1) ∧ w7.cell? ⟨g1, 2, none⟩ = some (.int .i64 a1_2) ∧ w7.cell? ⟨g1, 3, none⟩ = some (.int .i64 a1_3) ∧ w7.cell? ⟨g2, 0, none⟩ = some (.int .i64 a2_0) ∧ w7.cell? ⟨g2, 1, none⟩ = some (.int .i64 a2_1) ∧ w7.cell? ⟨g2, 2, none⟩ = some (.int .i64 a2_2) ∧ w7.cell? ⟨g2, 3, none⟩ = some (.int .i64 a2_3) := hS_
     refine norm_ (a' := ?_) ?_ ?_
     rotate_left
     ·simp only [putAll, Act.put, List.setIfInBounds_toArray, List.set_cons_zero, List.set_cons_succ]
      rfl
     refine two_ (i := 5) (j := 10) (Ni := some 36) (Nj := some 9) (lb 13 575) (lb 13 1567) rfl rfl rfl rfl (two_of HT_.out (by kernel_rfl)) (by decide) (by decide) (fun K hK => ?_) (fun K hK => ?_)
     ·skip
      refine ck5 hK Try.func18 (impl_RangeCmp.calls _ _ _ _ _ _ _ _ _ _ _ A3.out) K1 K2 K3 K4 K5 HB fun w8 K1 K2 K3 K4 K5 HB hHeld => ?_
      clear hK K
      refine pk 6 30 639 ?_
      refine pk 7 37 767 ?_
      refine pk 8 38 1023 ?_
      exact norm_ nz (hJ2_4_5_9 (g5) _ ⟨hHeld, (Z K1), (Z K2), (Z K3), (Z K4), (Z K5), G5.out, G6.out, N13.out, N14.out, N15.out, N16.out, N17.out, N18.out, N19.out, N20.out, (YA HB)⟩)
     skip
     refine box_step ?hg (N := 9) ?hd (cs := #[.int .i64 0, .int .i64 0]) (t := 33) ?hr ?_; (case hd => rfl); (case hg => rfl); (case hr => first | (go_simp; done) | (go_simp; rfl))
     intro g6 hg w8 hbox hb
     have K6 := am (hbox)
     have G7 := am (bs hg (YA HB))
     have G8 := am (bs hg (YA HB))
     obtain ⟨N21,N22⟩ := ne_ hg K1
     obtain ⟨N23,N24⟩ := ne_ hg K2
     obtain ⟨N25,N26⟩ := ne_ hg K3
     obtain ⟨N27,N28⟩ := ne_ hg K4
     obtain ⟨N29,N30⟩ := ne_ hg K5
     obtain ⟨K1, K2, K3, K4, K5, HB⟩ := bk5 K1 K2 K3 K4 K5 HB hb
     clear hb hbox hg
     refine kk hK ⟨bc K1 0, bc K1 1, bc K1 2, bc K1 3, bc K2 0, bc K2 1, bc K2 2, bc K2 3⟩ fun hHeld => ?_
     clear hK K
     exact norm_ nz (hJ2_4_9_10 (g5, g6) _ ⟨hHeld, (Z K1), (Z K2), (Z K3), (Z K4), (Z K5), (Z K6), G5.out, G6.out, N13.out, N14.out, N15.out, N16.out, N17.out, N18.out, N19.out, N20.out, N30.out, N29.out, G7.out, G8.out, N21.out, N22.out, N23.out, N24.out, N25.out, N26.out, N27.out, N28.out, (YA HB)⟩)
    intro hJ2_4_9
    refine join_ (σ := Nat) 7 (lb 13 1055) (fun s_ => [(33, .agg #[.int .i64 t5, .int .i64 t6]), (35, .agg #[.int .i64 t7, .int .i64 t8]), (9, .pointer (some ⟨s_, 0, none⟩))]) (fun s_ w' => (w'.cell? ⟨g1, 0, none⟩ = some (.int .i64 a1_0) ∧ w'.cell? ⟨g1, 1, none⟩ = some (.int .i64 a1_1) ∧ w'.cell? ⟨g1, 2, none⟩ = some (.int .i64 a1_2) ∧ w'.cell? ⟨g1, 3, none⟩ = some (.int .i64 a1_3) ∧ w'.cell? ⟨g2, 0, none⟩ = some (.int .i64 a2_0) ∧ w'.cell? ⟨g2, 1, none⟩ = some (.int .i64 a2_1) ∧ w'.cell? ⟨g2, 2, none⟩ = some (.int .i64 a2_2) ∧ w'.cell? ⟨g2, 3, none⟩ = some (.int .i64 a2_3)) ∧ (w'.heap[g1]? = some (.cells #[.int .i64 a1_0, .int .i64 a1_1, .int .i64 a1_2, .int .i64 a1_3] 24 (0, 0))) ∧ (w'.heap[g2]? = some (.cells #[.int .i64 a2_0, .int .i64 a2_1, .int .i64 a2_2, .int .i64 a2_3] 24 (0, 0))) ∧ (w'.heap[g3]? = some (.cells #[.int .i64 0, .int .i64 0, .int .i64 0, .int .i64 0] 24 (0, 0))) ∧ (w'.heap[g4]? = some (.cells #[.int .i64 0, .int .i64 0, .int .i64 0, .int .i64 0] 24 (0, 0))) ∧ (w'.heap[s_]? = some (.cells #[.int .i64 0, .int .i64 0] 33 (0, 0))) ∧ (w.heap.size ≤ s_) ∧ (w.heap.size ≤ s_) ∧ (g1 ≠ s_) ∧ (s_ ≠ g1) ∧ (g2 ≠ s_) ∧ (s_ ≠ g2) ∧ (g3 ≠ s_) ∧ (s_ ≠ g3) ∧ (g4 ≠ s_) ∧ (s_ ≠ g4) ∧ (Below w.heap.size w w')) ?_ ?_
    rotate_left
    rotate_left
    ·skip
     rintro g5 w7 ⟨hS_, h0_, h1_, h2_, h3_, h4_, h5_, h6_, h7_, h8_, h9_, h10_, h11_, h12_, h13_, h14_, h15_⟩
     have K5 : Bx2 w7 g5 0 0 33 := ⟨h4_⟩
     have G5 : Aside0 (w.heap.size ≤ g5) := ⟨h5_⟩
     have G6 : Aside0 (w.heap.size ≤ g5) := ⟨h6_⟩
     have N13 : Aside0 (g1 ≠ g5) := ⟨h7_⟩
     have N14 : Aside0 (g5 ≠ g1) := ⟨h8_⟩
     have N15 : Aside0 (g2 ≠ g5) := ⟨h9_⟩
     have N16 : Aside0 (g5 ≠ g2) := ⟨h10_⟩
     have N17 : Aside0 (g3 ≠ g5) := ⟨h11_⟩
     have N18 : Aside0 (g5 ≠ g3) := ⟨h12_⟩
     have N19 : Aside0 (g4 ≠ g5) := ⟨h13_⟩
     have N20 : Aside0 (g5 ≠ g4) := ⟨h14_⟩
     replace K1 : Bx4 w7 g1 a1_0 a1_1 a1_2 a1_3 24 := ⟨h0_⟩
     replace K2 : Bx4 w7 g2 a2_0 a2_1 a2_2 a2_3 24 := ⟨h1_⟩
     replace K3 : Bx4 w7 g3 0 0 0 0 24 := ⟨h2_⟩
     replace K4 : Bx4 w7 g4 0 0 0 0 24 := ⟨h3_⟩
     replace HB : Aside0 (Below w.heap.size w w7) := ⟨h15_⟩
     clear h0_ h1_ h2_ h3_ h4_ h5_ h6_ h7_ h8_ h9_ h10_ h11_ h12_ h13_ h14_ h15_
     have hHeld : w7.cell? ⟨g1, 0, none⟩ = some (.int .i64 a1_0) ∧ w7.cell? ⟨g1, 1, none⟩ = some (.int .i64 a1_1) ∧ w7.cell? ⟨g1, 2, none⟩ = some (.int .i64 a1_2) ∧ w7.cell? ⟨g1, 3, none⟩ = some (.int .i64 a1_3) ∧ w7.cell? ⟨g2, 0, none⟩ = some (.int .i64 a2_0) ∧ w7.cell? ⟨g2, 1, none⟩ = some (.int .i64 a2_1) ∧ w7.cell? ⟨g2, 2, none⟩ = some (.int .i64 a2_2) ∧ w7.cell? ⟨g2, 3, none⟩ = some (.int .i64 a2_3) := hS_
     refine norm_ (a' := ?_) ?_ ?_
     rotate_left
     ·simp only [putAll, Act.put, List.setIfInBounds_toArray, List.set_cons_zero, List.set_cons_succ]
      rfl
     refine two_ (i := 5) (j := 9) (Ni := some 36) (Nj := some 8) (lb 13 1087) (lb 13 1567) rfl rfl rfl rfl (two_of HT_.out (by kernel_rfl)) (by decide) (by decide) (fun K hK => ?_) (fun K hK => ?_)
     ·skip
      refine ck5 hK Try.func18 (impl_RangeCmp.calls _ _ _ _ _ _ _ _ _ _ _ A3.out) K1 K2 K3 K4 K5 HB fun w8 K1 K2 K3 K4 K5 HB hHeld => ?_
      clear hK K
      refine pk 6 30 1151 ?_
      refine pk 7 37 1279 ?_
      refine pk 8 38 1535 ?_
      exact norm_ nz (hJ2_4_5_10 (g5) _ ⟨hHeld, (Z K1), (Z K2), (Z K3), (Z K4), (Z K5), G5.out, G6.out, N13.out, N14.out, N15.out, N16.out, N17.out, N18.out, N19.out, N20.out, (YA HB)⟩)
     skip
     refine box_step ?hg (N := 8) ?hd (cs := #[.int .i64 0, .int .i64 0]) (t := 33) ?hr ?_; (case hd => rfl); (case hg => rfl); (case hr => first | (go_simp; done) | (go_simp; rfl))
     intro g6 hg w8 hbox hb
     have K6 := am (hbox)
     have G7 := am (bs hg (YA HB))
     have G8 := am (bs hg (YA HB))
     obtain ⟨N21,N22⟩ := ne_ hg K1
     obtain ⟨N23,N24⟩ := ne_ hg K2
     obtain ⟨N25,N26⟩ := ne_ hg K3
     obtain ⟨N27,N28⟩ := ne_ hg K4
     obtain ⟨N29,N30⟩ := ne_ hg K5
     obtain ⟨K1, K2, K3, K4, K5, HB⟩ := bk5 K1 K2 K3 K4 K5 HB hb
     clear hb hbox hg
     refine kk hK ⟨bc K1 0, bc K1 1, bc K1 2, bc K1 3, bc K2 0, bc K2 1, bc K2 2, bc K2 3⟩ fun hHeld => ?_
     clear hK K
     exact norm_ nz (hJ2_4_9_10 (g6, g5) _ ⟨hHeld, (Z K1), (Z K2), (Z K3), (Z K4), (Z K6), (Z K5), G7.out, G8.out, N21.out, N22.out, N23.out, N24.out, N25.out, N26.out, N27.out, N28.out, N29.out, N30.out, G5.out, G6.out, N13.out, N14.out, N15.out, N16.out, N17.out, N18.out, N19.out, N20.out, (YA HB)⟩)
    intro hJ2_4_10
    refine join_ (σ := Nat × Nat) 7 (lb 13 1551) (fun s_ => [(33, .agg #[.int .i64 t5, .int .i64 t6]), (8, .pointer (some ⟨s_.1, 0, none⟩)), (9, .pointer (some ⟨s_.2, 0, none⟩))]) (fun s_ w' => (w'.cell? ⟨g1, 0, none⟩ = some (.int .i64 a1_0) ∧ w'.cell? ⟨g1, 1, none⟩ = some (.int .i64 a1_1) ∧ w'.cell? ⟨g1, 2, none⟩ = some (.int .i64 a1_2) ∧ w'.cell? ⟨g1, 3, none⟩ = some (.int .i64 a1_3) ∧ w'.cell? ⟨g2, 0, none⟩ = some (.int .i64 a2_0) ∧ w'.cell? ⟨g2, 1, none⟩ = some (.int .i64 a2_1) ∧ w'.cell? ⟨g2, 2, none⟩ = some (.int .i64 a2_2) ∧ w'.cell? ⟨g2, 3, none⟩ = some (.int .i64 a2_3)) ∧ (w'.heap[g1]? = some (.cells #[.int .i64 a1_0, .int .i64 a1_1, .int .i64 a1_2, .int .i64 a1_3] 24 (0, 0))) ∧ (w'.heap[g2]? = some (.cells #[.int .i64 a2_0, .int .i64 a2_1, .int .i64 a2_2, .int .i64 a2_3] 24 (0, 0))) ∧ (w'.heap[g3]? = some (.cells #[.int .i64 0, .int .i64 0, .int .i64 0, .int .i64 0] 24 (0, 0))) ∧ (w'.heap[g4]? = some (.cells #[.int .i64 0, .int .i64 0, .int .i64 0, .int .i64 0] 24 (0, 0))) ∧ (w'.heap[s_.1]? = some (.cells #[.int .i64 0, .int .i64 0] 33 (0, 0))) ∧ (w'.heap[s_.2]? = some (.cells #[.int .i64 0, .int .i64 0] 33 (0, 0))) ∧ (w.heap.size ≤ s_.1) ∧ (w.heap.size ≤ s_.1) ∧ (g1 ≠ s_.1) ∧ (s_.1 ≠ g1) ∧ (g2 ≠ s_.1) ∧ (s_.1 ≠ g2) ∧ (g3 ≠ s_.1) ∧ (s_.1 ≠ g3) ∧ (g4 ≠ s_.1) ∧ (s_.1 ≠ g4) ∧ (s_.2 ≠ s_.1) ∧ (s_.1 ≠ s_.2) ∧ (w.heap.size ≤ s_.2) ∧ (w.heap.size ≤ s_.2) ∧ (g1 ≠ s_.2) ∧ (s_.2 ≠ g1) ∧ (g2 ≠ s_.2) ∧ (s_.2 ≠ g2) ∧ (g3 ≠ s_.2) ∧ (s_.2 ≠ g3) ∧ (g4 ≠ s_.2) ∧ (s_.2 ≠ g4) ∧ (Below w.heap.size w w')) ?_ ?_
    rotate_left
    rotate_left
    ·skip
     rintro ⟨g5, g6⟩ w7 ⟨hS_, h0_, h1_, h2_, h3_, h4_, h5_, h6_, h7_, h8_, h9_, h10_, h11_, h12_, h13_, h14_, h15_, h16_, h17_, h18_, h19_, h20_, h21_, h22_, h23_, h24_, h25_, h26_, h27_, h28_⟩
     have K5 : Bx2 w7 g5 0 0 33 := ⟨h4_⟩
     have K6 : Bx2 w7 g6 0 0 33 := ⟨h5_⟩
     have G5 : Aside0 (w.heap.size ≤ g5) := ⟨h6_⟩
     have G6 : Aside0 (w.heap.size ≤ g5) := ⟨h7_⟩
     have N13 : Aside0 (g1 ≠ g5) := ⟨h8_⟩
     have N14 : Aside0 (g5 ≠ g1) := ⟨h9_⟩
     have N15 : Aside0 (g2 ≠ g5) := ⟨h10_⟩
     have N16 : Aside0 (g5 ≠ g2) := ⟨h11_⟩
     have N17 : Aside0 (g3 ≠ g5) := ⟨h12_⟩
     have N18 : Aside0 (g5 ≠ g3) := ⟨h13_⟩
     have N19 : Aside0 (g4 ≠ g5) := ⟨h14_⟩
     have N20 : Aside0 (g5 ≠ g4) := ⟨h15_⟩
     have N21 : Aside0 (g6 ≠ g5) := ⟨h16_⟩
     have N22 : Aside0 (g5 ≠ g6) := ⟨h17_⟩
     have G7 : Aside0 (w.heap.size ≤ g6) := ⟨h18_⟩
     have G8 : Aside0 (w.heap.size ≤ g6) := ⟨h19_⟩
     have N23 : Aside0 (g1 ≠ g6) := ⟨h20_⟩
     have N24 : Aside0 (g6 ≠ g1) := ⟨h21_⟩
     have N25 : Aside0 (g2 ≠ g6) := ⟨h22_⟩
     have N26 : Aside0 (g6 ≠ g2) := ⟨h23_⟩
     have N27 : Aside0 (g3 ≠ g6) := ⟨h24_⟩
     have N28 : Aside0 (g6 ≠ g3) := ⟨h25_⟩
     have N29 : Aside0 (g4 ≠ g6) := ⟨h26_⟩
     have N30 : Aside0 (g6 ≠ g4) := ⟨h27_⟩
     replace K1 : Bx4 w7 g1 a1_0 a1_1 a1_2 a1_3 24 := ⟨h0_⟩
     replace K2 : Bx4 w7 g2 a2_0 a2_1 a2_2 a2_3 24 := ⟨h1_⟩
     replace K3 : Bx4 w7 g3 0 0 0 0 24 := ⟨h2_⟩
     replace K4 : Bx4 w7 g4 0 0 0 0 24 := ⟨h3_⟩
     replace HB : Aside0 (Below w.heap.size w w7) := ⟨h28_⟩
     clear h0_ h1_ h2_ h3_ h4_ h5_ h6_ h7_ h8_ h9_ h10_ h11_ h12_ h13_ h14_ h15_ h16_ h17_ h18_ h19_ h20_ h21_ h22_ h23_ h24_ h25_ h26_ h27_ h28_
     have hHeld : w7.cell? ⟨g1, 0, none⟩ = some (.int .i64 a1_0) ∧ w7.cell? ⟨g1, 1, none⟩ = some (.int .i64 a1_1) ∧ w7.cell? ⟨g1, 2, none⟩ = some (.int .i64 a1_2) ∧ w7.cell? ⟨g1, 3, none⟩ = some (.int .i64 a1_3) ∧ w7.cell? ⟨g2, 0, none⟩ = some (.int .i64 a2_0) ∧ w7.cell? ⟨g2, 1, none⟩ = some (.int .i64 a2_1) ∧ w7.cell? ⟨g2, 2, none⟩ = some (.int .i64 a2_2) ∧ w7.cell? ⟨g2, 3, none⟩ = some (.int .i64 a2_3) := hS_
     refine norm_ (a' := ?_) ?_ ?_
     rotate_left
     ·simp only [putAll, Act.put, List.setIfInBounds_toArray, List.set_cons_zero, List.set_cons_succ]
      rfl
     refine cl6 4 35 1567 Try.func19 (impl_Val_span.calls _ _ _ _ _ _ _ A2.out) K1 K2 K3 K4 K5 K6 HB fun w8 K1 K2 K3 K4 K5 K6 HB hHeld => ?_
     exact norm_ nz (hJ2_4_9_10 (g5, g6) _ ⟨hHeld, (Z K1), (Z K2), (Z K3), (Z K4), (Z K5), (Z K6), G5.out, G6.out, N13.out, N14.out, N15.out, N16.out, N17.out, N18.out, N19.out, N20.out, N21.out, N22.out, G7.out, G8.out, N23.out, N24.out, N25.out, N26.out, N27.out, N28.out, N29.out, N30.out, (YA HB)⟩)
    intro hJ2_9_10
    refine join_ (σ := Unit) 8 (lb 13 31) (fun s_ => [(33, .agg #[.int .i64 t5, .int .i64 t6]), (35, .agg #[.int .i64 t7, .int .i64 t8])]) (fun s_ w' => (w'.cell? ⟨g1, 0, none⟩ = some (.int .i64 a1_0) ∧ w'.cell? ⟨g1, 1, none⟩ = some (.int .i64 a1_1) ∧ w'.cell? ⟨g1, 2, none⟩ = some (.int .i64 a1_2) ∧ w'.cell? ⟨g1, 3, none⟩ = some (.int .i64 a1_3) ∧ w'.cell? ⟨g2, 0, none⟩ = some (.int .i64 a2_0) ∧ w'.cell? ⟨g2, 1, none⟩ = some (.int .i64 a2_1) ∧ w'.cell? ⟨g2, 2, none⟩ = some (.int .i64 a2_2) ∧ w'.cell? ⟨g2, 3, none⟩ = some (.int .i64 a2_3)) ∧ (w'.heap[g1]? = some (.cells #[.int .i64 a1_0, .int .i64 a1_1, .int .i64 a1_2, .int .i64 a1_3] 24 (0, 0))) ∧ (w'.heap[g2]? = some (.cells #[.int .i64 a2_0, .int .i64 a2_1, .int .i64 a2_2, .int .i64 a2_3] 24 (0, 0))) ∧ (w'.heap[g3]? = some (.cells #[.int .i64 0, .int .i64 0, .int .i64 0, .int .i64 0] 24 (0, 0))) ∧ (w'.heap[g4]? = some (.cells #[.int .i64 0, .int .i64 0, .int .i64 0, .int .i64 0] 24 (0, 0))) ∧ (Below w.heap.size w w')) ?_ ?_
    rotate_left
    rotate_left
    ·skip
     rintro _ w7 ⟨hS_, h0_, h1_, h2_, h3_, h4_⟩
     replace K1 : Bx4 w7 g1 a1_0 a1_1 a1_2 a1_3 24 := ⟨h0_⟩
     replace K2 : Bx4 w7 g2 a2_0 a2_1 a2_2 a2_3 24 := ⟨h1_⟩
     replace K3 : Bx4 w7 g3 0 0 0 0 24 := ⟨h2_⟩
     replace K4 : Bx4 w7 g4 0 0 0 0 24 := ⟨h3_⟩
     replace HB : Aside0 (Below w.heap.size w w7) := ⟨h4_⟩
     clear h0_ h1_ h2_ h3_ h4_
     have hHeld : w7.cell? ⟨g1, 0, none⟩ = some (.int .i64 a1_0) ∧ w7.cell? ⟨g1, 1, none⟩ = some (.int .i64 a1_1) ∧ w7.cell? ⟨g1, 2, none⟩ = some (.int .i64 a1_2) ∧ w7.cell? ⟨g1, 3, none⟩ = some (.int .i64 a1_3) ∧ w7.cell? ⟨g2, 0, none⟩ = some (.int .i64 a2_0) ∧ w7.cell? ⟨g2, 1, none⟩ = some (.int .i64 a2_1) ∧ w7.cell? ⟨g2, 2, none⟩ = some (.int .i64 a2_2) ∧ w7.cell? ⟨g2, 3, none⟩ = some (.int .i64 a2_3) := hS_
     refine norm_ (a' := ?_) ?_ ?_
     rotate_left
     ·simp only [putAll, Act.put, List.setIfInBounds_toArray, List.set_cons_zero, List.set_cons_succ]
      rfl
     refine three_ (i := 5) (j := 9) (k := 10) (Ni := some 36) (Nj := some 8) (Nk := some 9) (lb 13 63) (lb 13 543) (lb 13 1055) rfl rfl rfl rfl rfl rfl (three_of HT_.out (by kernel_rfl)) (by decide) (by decide) (by decide) (fun K hK => ?_) (fun K hK => ?_) (fun K hK => ?_)
     ·skip
      refine ck4 hK Try.func18 (impl_RangeCmp.calls _ _ _ _ _ _ _ _ _ _ _ A3.out) K1 K2 K3 K4 HB fun w8 K1 K2 K3 K4 HB hHeld => ?_
      clear hK K
      refine pk 6 30 127 ?_
      refine pk 7 37 255 ?_
      refine pk 8 38 511 ?_
      exact norm_ nz (hJ2_4_5 () _ ⟨hHeld, (Z K1), (Z K2), (Z K3), (Z K4), (YA HB)⟩)
     ·skip
      refine box_step ?hg (N := 8) ?hd (cs := #[.int .i64 0, .int .i64 0]) (t := 33) ?hr ?_; (case hd => rfl); (case hg => rfl); (case hr => first | (go_simp; done) | (go_simp; rfl))
      intro g5 hg w8 hbox hb
      have K5 := am (hbox)
      have G5 := am (bs hg (YA HB))
      have G6 := am (bs hg (YA HB))
      obtain ⟨N13,N14⟩ := ne_ hg K1
      obtain ⟨N15,N16⟩ := ne_ hg K2
      obtain ⟨N17,N18⟩ := ne_ hg K3
      obtain ⟨N19,N20⟩ := ne_ hg K4
      obtain ⟨K1, K2, K3, K4, HB⟩ := bk4 K1 K2 K3 K4 HB hb
      clear hb hbox hg
      refine kk hK ⟨bc K1 0, bc K1 1, bc K1 2, bc K1 3, bc K2 0, bc K2 1, bc K2 2, bc K2 3⟩ fun hHeld => ?_
      clear hK K
      exact norm_ nz (hJ2_4_9 (g5) _ ⟨hHeld, (Z K1), (Z K2), (Z K3), (Z K4), (Z K5), G5.out, G6.out, N13.out, N14.out, N15.out, N16.out, N17.out, N18.out, N19.out, N20.out, (YA HB)⟩)
     skip
     refine box_step ?hg (N := 9) ?hd (cs := #[.int .i64 0, .int .i64 0]) (t := 33) ?hr ?_; (case hd => rfl); (case hg => rfl); (case hr => first | (go_simp; done) | (go_simp; rfl))
     intro g5 hg w8 hbox hb
     have K5 := am (hbox)
     have G5 := am (bs hg (YA HB))
     have G6 := am (bs hg (YA HB))
     obtain ⟨N13,N14⟩ := ne_ hg K1
     obtain ⟨N15,N16⟩ := ne_ hg K2
     obtain ⟨N17,N18⟩ := ne_ hg K3
     obtain ⟨N19,N20⟩ := ne_ hg K4
     obtain ⟨K1, K2, K3, K4, HB⟩ := bk4 K1 K2 K3 K4 HB hb
     clear hb hbox hg
     refine kk hK ⟨bc K1 0, bc K1 1, bc K1 2, bc K1 3, bc K2 0, bc K2 1, bc K2 2, bc K2 3⟩ fun hHeld => ?_
     clear hK K
     exact norm_ nz (hJ2_4_10 (g5) _ ⟨hHeld, (Z K1), (Z K2), (Z K3), (Z K4), (Z K5), G5.out, G6.out, N13.out, N14.out, N15.out, N16.out, N17.out, N18.out, N19.out, N20.out, (YA HB)⟩)
    intro hJ2_4
    refine join_ (σ := Nat) 8 (lb 13 527) (fun s_ => [(33, .agg #[.int .i64 t5, .int .i64 t6]), (8, .pointer (some ⟨s_, 0, none⟩))]) (fun s_ w' => (w'.cell? ⟨g1, 0, none⟩ = some (.int .i64 a1_0) ∧ w'.cell? ⟨g1, 1, none⟩ = some (.int .i64 a1_1) ∧ w'.cell? ⟨g1, 2, none⟩ = some (.int .i64 a1_2) ∧ w'.cell? ⟨g1, 3, none⟩ = some (.int .i64 a1_3) ∧ w'.cell? ⟨g2, 0, none⟩ = some (.int .i64 a2_0) ∧ w'.cell? ⟨g2, 1, none⟩ = some (.int .i64 a2_1) ∧ w'.cell? ⟨g2, 2, none⟩ = some (.int .i64 a2_2) ∧ w'.cell? ⟨g2, 3, none⟩ = some (.int .i64 a2_3)) ∧ (w'.heap[g1]? = some (.cells #[.int .i64 a1_0, .int .i64 a1_1, .int .i64 a1_2, .int .i64 a1_3] 24 (0, 0))) ∧ (w'.heap[g2]? = some (.cells #[.int .i64 a2_0, .int .i64 a2_1, .int .i64 a2_2, .int .i64 a2_3] 24 (0, 0))) ∧ (w'.heap[g3]? = some (.cells #[.int .i64 0, .int .i64 0, .int .i64 0, .int .i64 0] 24 (0, 0))) ∧ (w'.heap[g4]? = some (.cells #[.int .i64 0, .int .i64 0, .int .i64 0, .int .i64 0] 24 (0, 0))) ∧ (w'.heap[s_]? = some (.cells #[.int .i64 0, .int .i64 0] 33 (0, 0))) ∧ (w.heap.size ≤ s_) ∧ (w.heap.size ≤ s_) ∧ (g1 ≠ s_) ∧ (s_ ≠ g1) ∧ (g2 ≠ s_) ∧ (s_ ≠ g2) ∧ (g3 ≠ s_) ∧ (s_ ≠ g3) ∧ (g4 ≠ s_) ∧ (s_ ≠ g4) ∧ (Below w.heap.size w w')) ?_ ?_
    rotate_left
    rotate_left
    ·skip
     rintro g5 w7 ⟨hS_, h0_, h1_, h2_, h3_, h4_, h5_, h6_, h7_, h8_, h9_, h10_, h11_, h12_, h13_, h14_, h15_⟩
     have K5 : Bx2 w7 g5 0 0 33 := ⟨h4_⟩
     have G5 : Aside0 (w.heap.size ≤ g5) := ⟨h5_⟩
     have G6 : Aside0 (w.heap.size ≤ g5) := ⟨h6_⟩
     have N13 : Aside0 (g1 ≠ g5) := ⟨h7_⟩
     have N14 : Aside0 (g5 ≠ g1) := ⟨h8_⟩
     have N15 : Aside0 (g2 ≠ g5) := ⟨h9_⟩
     have N16 : Aside0 (g5 ≠ g2) := ⟨h10_⟩
     have N17 : Aside0 (g3 ≠ g5) := ⟨h11_⟩
     have N18 : Aside0 (g5 ≠ g3) := ⟨h12_⟩
     have N19 : Aside0 (g4 ≠ g5) := ⟨h13_⟩
     have N20 : Aside0 (g5 ≠ g4) := ⟨h14_⟩
     replace K1 : Bx4 w7 g1 a1_0 a1_1 a1_2 a1_3 24 := ⟨h0_⟩
     replace K2 : Bx4 w7 g2 a2_0 a2_1 a2_2 a2_3 24 := ⟨h1_⟩
     replace K3 : Bx4 w7 g3 0 0 0 0 24 := ⟨h2_⟩
     replace K4 : Bx4 w7 g4 0 0 0 0 24 := ⟨h3_⟩
     replace HB : Aside0 (Below w.heap.size w w7) := ⟨h15_⟩
     clear h0_ h1_ h2_ h3_ h4_ h5_ h6_ h7_ h8_ h9_ h10_ h11_ h12_ h13_ h14_ h15_
     have hHeld : w7.cell? ⟨g1, 0, none⟩ = some (.int .i64 a1_0) ∧ w7.cell? ⟨g1, 1, none⟩ = some (.int .i64 a1_1) ∧ w7.cell? ⟨g1, 2, none⟩ = some (.int .i64 a1_2) ∧ w7.cell? ⟨g1, 3, none⟩ = some (.int .i64 a1_3) ∧ w7.cell? ⟨g2, 0, none⟩ = some (.int .i64 a2_0) ∧ w7.cell? ⟨g2, 1, none⟩ = some (.int .i64 a2_1) ∧ w7.cell? ⟨g2, 2, none⟩ = some (.int .i64 a2_2) ∧ w7.cell? ⟨g2, 3, none⟩ = some (.int .i64 a2_3) := hS_
     refine norm_ (a' := ?_) ?_ ?_
     rotate_left
     ·simp only [putAll, Act.put, List.setIfInBounds_toArray, List.set_cons_zero, List.set_cons_succ]
      rfl
     refine two_ (i := 4) (j := 10) (Ni := some 35) (Nj := some 9) (lb 13 543) (lb 13 1551) rfl rfl rfl rfl (two_of HT_.out (by kernel_rfl)) (by decide) (by decide) (fun K hK => ?_) (fun K hK => ?_)
     ·skip
      refine ck5 hK Try.func19 (impl_Val_span.calls _ _ _ _ _ _ _ A2.out) K1 K2 K3 K4 K5 HB fun w8 K1 K2 K3 K4 K5 HB hHeld => ?_
      clear hK K
      exact norm_ nz (hJ2_4_9 (g5) _ ⟨hHeld, (Z K1), (Z K2), (Z K3), (Z K4), (Z K5), G5.out, G6.out, N13.out, N14.out, N15.out, N16.out, N17.out, N18.out, N19.out, N20.out, (YA HB)⟩)
     skip
     refine box_step ?hg (N := 9) ?hd (cs := #[.int .i64 0, .int .i64 0]) (t := 33) ?hr ?_; (case hd => rfl); (case hg => rfl); (case hr => first | (go_simp; done) | (go_simp; rfl))
     intro g6 hg w8 hbox hb
     have K6 := am (hbox)
     have G7 := am (bs hg (YA HB))
     have G8 := am (bs hg (YA HB))
     obtain ⟨N21,N22⟩ := ne_ hg K1
     obtain ⟨N23,N24⟩ := ne_ hg K2
     obtain ⟨N25,N26⟩ := ne_ hg K3
     obtain ⟨N27,N28⟩ := ne_ hg K4
     obtain ⟨N29,N30⟩ := ne_ hg K5
     obtain ⟨K1, K2, K3, K4, K5, HB⟩ := bk5 K1 K2 K3 K4 K5 HB hb
     clear hb hbox hg
     refine kk hK ⟨bc K1 0, bc K1 1, bc K1 2, bc K1 3, bc K2 0, bc K2 1, bc K2 2, bc K2 3⟩ fun hHeld => ?_
     clear hK K
     exact norm_ nz (hJ2_9_10 (g5, g6) _ ⟨hHeld, (Z K1), (Z K2), (Z K3), (Z K4), (Z K5), (Z K6), G5.out, G6.out, N13.out, N14.out, N15.out, N16.out, N17.out, N18.out, N19.out, N20.out, N30.out, N29.out, G7.out, G8.out, N21.out, N22.out, N23.out, N24.out, N25.out, N26.out, N27.out, N28.out, (YA HB)⟩)
    intro hJ2_9
    refine join_ (σ := Nat) 8 (lb 13 1039) (fun s_ => [(33, .agg #[.int .i64 t5, .int .i64 t6]), (9, .pointer (some ⟨s_, 0, none⟩))]) (fun s_ w' => (w'.cell? ⟨g1, 0, none⟩ = some (.int .i64 a1_0) ∧ w'.cell? ⟨g1, 1, none⟩ = some (.int .i64 a1_1) ∧ w'.cell? ⟨g1, 2, none⟩ = some (.int .i64 a1_2) ∧ w'.cell? ⟨g1, 3, none⟩ = some (.int .i64 a1_3) ∧ w'.cell? ⟨g2, 0, none⟩ = some (.int .i64 a2_0) ∧ w'.cell? ⟨g2, 1, none⟩ = some (.int .i64 a2_1) ∧ w'.cell? ⟨g2, 2, none⟩ = some (.int .i64 a2_2) ∧ w'.cell? ⟨g2, 3, none⟩ = some (.int .i64 a2_3)) ∧ (w'.heap[g1]? = some (.cells #[.int .i64 a1_0, .int .i64 a1_1, .int .i64 a1_2, .int .i64 a1_3] 24 (0, 0))) ∧ (w'.heap[g2]? = some (.cells #[.int .i64 a2_0, .int .i64 a2_1, .int .i64 a2_2, .int .i64 a2_3] 24 (0, 0))) ∧ (w'.heap[g3]? = some (.cells #[.int .i64 0, .int .i64 0, .int .i64 0, .int .i64 0] 24 (0, 0))) ∧ (w'.heap[g4]? = some (.cells #[.int .i64 0, .int .i64 0, .int .i64 0, .int .i64 0] 24 (0, 0))) ∧ (w'.heap[s_]? = some (.cells #[.int .i64 0, .int .i64 0] 33 (0, 0))) ∧ (w.heap.size ≤ s_) ∧ (w.heap.size ≤ s_) ∧ (g1 ≠ s_) ∧ (s_ ≠ g1) ∧ (g2 ≠ s_) ∧ (s_ ≠ g2) ∧ (g3 ≠ s_) ∧ (s_ ≠ g3) ∧ (g4 ≠ s_) ∧ (s_ ≠ g4) ∧ (Below w.heap.size w w')) ?_ ?_
    rotate_left
    rotate_left
    ·skip
     rintro g5 w7 ⟨hS_, h0_, h1_, h2_, h3_, h4_, h5_, h6_, h7_, h8_, h9_, h10_, h11_, h12_, h13_, h14_, h15_⟩
     have K5 : Bx2 w7 g5 0 0 33 := ⟨h4_⟩
     have G5 : Aside0 (w.heap.size ≤ g5) := ⟨h5_⟩
     have G6 : Aside0 (w.heap.size ≤ g5) := ⟨h6_⟩
     have N13 : Aside0 (g1 ≠ g5) := ⟨h7_⟩
     have N14 : Aside0 (g5 ≠ g1) := ⟨h8_⟩
     have N15 : Aside0 (g2 ≠ g5) := ⟨h9_⟩
     have N16 : Aside0 (g5 ≠ g2) := ⟨h10_⟩
     have N17 : Aside0 (g3 ≠ g5) := ⟨h11_⟩
     have N18 : Aside0 (g5 ≠ g3) := ⟨h12_⟩
     have N19 : Aside0 (g4 ≠ g5) := ⟨h13_⟩
     have N20 : Aside0 (g5 ≠ g4) := ⟨h14_⟩
     replace K1 : Bx4 w7 g1 a1_0 a1_1 a1_2 a1_3 24 := ⟨h0_⟩
     replace K2 : Bx4 w7 g2 a2_0 a2_1 a2_2 a2_3 24 := ⟨h1_⟩
     replace K3 : Bx4 w7 g3 0 0 0 0 24 := ⟨h2_⟩
     replace K4 : Bx4 w7 g4 0 0 0 0 24 := ⟨h3_⟩
     replace HB : Aside0 (Below w.heap.size w w7) := ⟨h15_⟩
     clear h0_ h1_ h2_ h3_ h4_ h5_ h6_ h7_ h8_ h9_ h10_ h11_ h12_ h13_ h14_ h15_
     have hHeld : w7.cell? ⟨g1, 0, none⟩ = some (.int .i64 a1_0) ∧ w7.cell? ⟨g1, 1, none⟩ = some (.int .i64 a1_1) ∧ w7.cell? ⟨g1, 2, none⟩ = some (.int .i64 a1_2) ∧ w7.cell? ⟨g1, 3, none⟩ = some (.int .i64 a1_3) ∧ w7.cell? ⟨g2, 0, none⟩ = some (.int .i64 a2_0) ∧ w7.cell? ⟨g2, 1, none⟩ = some (.int .i64 a2_1) ∧ w7.cell? ⟨g2, 2, none⟩ = some (.int .i64 a2_2) ∧ w7.cell? ⟨g2, 3, none⟩ = some (.int .i64 a2_3) := hS_
     refine norm_ (a' := ?_) ?_ ?_
     rotate_left
     ·simp only [putAll, Act.put, List.setIfInBounds_toArray, List.set_cons_zero, List.set_cons_succ]
      rfl
     refine two_ (i := 4) (j := 9) (Ni := some 35) (Nj := some 8) (lb 13 1055) (lb 13 1551) rfl rfl rfl rfl (two_of HT_.out (by kernel_rfl)) (by decide) (by decide) (fun K hK => ?_) (fun K hK => ?_)
     ·skip
      refine ck5 hK Try.func19 (impl_Val_span.calls _ _ _ _ _ _ _ A2.out) K1 K2 K3 K4 K5 HB fun w8 K1 K2 K3 K4 K5 HB hHeld => ?_
      clear hK K
      exact norm_ nz (hJ2_4_10 (g5) _ ⟨hHeld, (Z K1), (Z K2), (Z K3), (Z K4), (Z K5), G5.out, G6.out, N13.out, N14.out, N15.out, N16.out, N17.out, N18.out, N19.out, N20.out, (YA HB)⟩)
     skip
     refine box_step ?hg (N := 8) ?hd (cs := #[.int .i64 0, .int .i64 0]) (t := 33) ?hr ?_; (case hd => rfl); (case hg => rfl); (case hr => first | (go_simp; done) | (go_simp; rfl))
     intro g6 hg w8 hbox hb
     have K6 := am (hbox)
     have G7 := am (bs hg (YA HB))
     have G8 := am (bs hg (YA HB))
     obtain ⟨N21,N22⟩ := ne_ hg K1
     obtain ⟨N23,N24⟩ := ne_ hg K2
     obtain ⟨N25,N26⟩ := ne_ hg K3
     obtain ⟨N27,N28⟩ := ne_ hg K4
     obtain ⟨N29,N30⟩ := ne_ hg K5
     obtain ⟨K1, K2, K3, K4, K5, HB⟩ := bk5 K1 K2 K3 K4 K5 HB hb
     clear hb hbox hg
     refine kk hK ⟨bc K1 0, bc K1 1, bc K1 2, bc K1 3, bc K2 0, bc K2 1, bc K2 2, bc K2 3⟩ fun hHeld => ?_
     clear hK K
     exact norm_ nz (hJ2_9_10 (g6, g5) _ ⟨hHeld, (Z K1), (Z K2), (Z K3), (Z K4), (Z K6), (Z K5), G7.out, G8.out, N21.out, N22.out, N23.out, N24.out, N25.out, N26.out, N27.out, N28.out, N29.out, N30.out, G5.out, G6.out, N13.out, N14.out, N15.out, N16.out, N17.out, N18.out, N19.out, N20.out, (YA HB)⟩)
    intro hJ2_10
    refine join_ (σ := Nat × Nat) 8 (lb 13 1547) (fun s_ => [(8, .pointer (some ⟨s_.1, 0, none⟩)), (9, .pointer (some ⟨s_.2, 0, none⟩))]) (fun s_ w' => (w'.cell? ⟨g1, 0, none⟩ = some (.int .i64 a1_0) ∧ w'.cell? ⟨g1, 1, none⟩ = some (.int .i64 a1_1) ∧ w'.cell? ⟨g1, 2, none⟩ = some (.int .i64 a1_2) ∧ w'.cell? ⟨g1, 3, none⟩ = some (.int .i64 a1_3) ∧ w'.cell? ⟨g2, 0, none⟩ = some (.int .i64 a2_0) ∧ w'.cell? ⟨g2, 1, none⟩ = some (.int .i64 a2_1) ∧ w'.cell? ⟨g2, 2, none⟩ = some (.int .i64 a2_2) ∧ w'.cell? ⟨g2, 3, none⟩ = some (.int .i64 a2_3)) ∧ (w'.heap[g1]? = some (.cells #[.int .i64 a1_0, .int .i64 a1_1, .int .i64 a1_2, .int .i64 a1_3] 24 (0, 0))) ∧ (w'.heap[g2]? = some (.cells #[.int .i64 a2_0, .int .i64 a2_1, .int .i64 a2_2, .int .i64 a2_3] 24 (0, 0))) ∧ (w'.heap[g3]? = some (.cells #[.int .i64 0, .int .i64 0, .int .i64 0, .int .i64 0] 24 (0, 0))) ∧ (w'.heap[g4]? = some (.cells #[.int .i64 0, .int .i64 0, .int .i64 0, .int .i64 0] 24 (0, 0))) ∧ (w'.heap[s_.1]? = some (.cells #[.int .i64 0, .int .i64 0] 33 (0, 0))) ∧ (w'.heap[s_.2]? = some (.cells #[.int .i64 0, .int .i64 0] 33 (0, 0))) ∧ (w.heap.size ≤ s_.1) ∧ (w.heap.size ≤ s_.1) ∧ (g1 ≠ s_.1) ∧ (s_.1 ≠ g1) ∧ (g2 ≠ s_.1) ∧ (s_.1 ≠ g2) ∧ (g3 ≠ s_.1) ∧ (s_.1 ≠ g3) ∧ (g4 ≠ s_.1) ∧ (s_.1 ≠ g4) ∧ (s_.2 ≠ s_.1) ∧ (s_.1 ≠ s_.2) ∧ (w.heap.size ≤ s_.2) ∧ (w.heap.size ≤ s_.2) ∧ (g1 ≠ s_.2) ∧ (s_.2 ≠ g1) ∧ (g2 ≠ s_.2) ∧ (s_.2 ≠ g2) ∧ (g3 ≠ s_.2) ∧ (s_.2 ≠ g3) ∧ (g4 ≠ s_.2) ∧ (s_.2 ≠ g4) ∧ (Below w.heap.size w w')) ?_ ?_
    rotate_left
    rotate_left
    ·skip
     rintro ⟨g5, g6⟩ w7 ⟨hS_, h0_, h1_, h2_, h3_, h4_, h5_, h6_, h7_, h8_, h9_, h10_, h11_, h12_, h13_, h14_, h15_, h16_, h17_, h18_, h19_, h20_, h21_, h22_, h23_, h24_, h25_, h26_, h27_, h28_⟩
     have K5 : Bx2 w7 g5 0 0 33 := ⟨h4_⟩
     have K6 : Bx2 w7 g6 0 0 33 := ⟨h5_⟩
     have G5 : Aside0 (w.heap.size ≤ g5) := ⟨h6_⟩
     have G6 : Aside0 (w.heap.size ≤ g5) := ⟨h7_⟩
     have N13 : Aside0 (g1 ≠ g5) := ⟨h8_⟩
     have N14 : Aside0 (g5 ≠ g1) := ⟨h9_⟩
     have N15 : Aside0 (g2 ≠ g5) := ⟨h10_⟩
     have N16 : Aside0 (g5 ≠ g2) := ⟨h11_⟩
     have N17 : Aside0 (g3 ≠ g5) := ⟨h12_⟩
     have N18 : Aside0 (g5 ≠ g3) := ⟨h13_⟩
     have N19 : Aside0 (g4 ≠ g5) := ⟨h14_⟩
     have N20 : Aside0 (g5 ≠ g4) := ⟨h15_⟩
     have N21 : Aside0 (g6 ≠ g5) := ⟨h16_⟩
     have N22 : Aside0 (g5 ≠ g6) := ⟨h17_⟩
     have G7 : Aside0 (w.heap.size ≤ g6) := ⟨h18_⟩
     have G8 : Aside0 (w.heap.size ≤ g6) := ⟨h19_⟩
     have N23 : Aside0 (g1 ≠ g6) := ⟨h20_⟩
     have N24 : Aside0 (g6 ≠ g1) := ⟨h21_⟩
     have N25 : Aside0 (g2 ≠ g6) := ⟨h22_⟩
     have N26 : Aside0 (g6 ≠ g2) := ⟨h23_⟩
     have N27 : Aside0 (g3 ≠ g6) := ⟨h24_⟩
     have N28 : Aside0 (g6 ≠ g3) := ⟨h25_⟩
     have N29 : Aside0 (g4 ≠ g6) := ⟨h26_⟩
     have N30 : Aside0 (g6 ≠ g4) := ⟨h27_⟩
     replace K1 : Bx4 w7 g1 a1_0 a1_1 a1_2 a1_3 24 := ⟨h0_⟩
     replace K2 : Bx4 w7 g2 a2_0 a2_1 a2_2 a2_3 24 := ⟨h1_⟩
     replace K3 : Bx4 w7 g3 0 0 0 0 24 := ⟨h2_⟩
     replace K4 : Bx4 w7 g4 0 0 0 0 24 := ⟨h3_⟩
     replace HB : Aside0 (Below w.heap.size w w7) := ⟨h28_⟩
     clear h0_ h1_ h2_ h3_ h4_ h5_ h6_ h7_ h8_ h9_ h10_ h11_ h12_ h13_ h14_ h15_ h16_ h17_ h18_ h19_ h20_ h21_ h22_ h23_ h24_ h25_ h26_ h27_ h28_
     have hHeld : w7.cell? ⟨g1, 0, none⟩ = some (.int .i64 a1_0) ∧ w7.cell? ⟨g1, 1, none⟩ = some (.int .i64 a1_1) ∧ w7.cell? ⟨g1, 2, none⟩ = some (.int .i64 a1_2) ∧ w7.cell? ⟨g1, 3, none⟩ = some (.int .i64 a1_3) ∧ w7.cell? ⟨g2, 0, none⟩ = some (.int .i64 a2_0) ∧ w7.cell? ⟨g2, 1, none⟩ = some (.int .i64 a2_1) ∧ w7.cell? ⟨g2, 2, none⟩ = some (.int .i64 a2_2) ∧ w7.cell? ⟨g2, 3, none⟩ = some (.int .i64 a2_3) := hS_
     refine norm_ (a' := ?_) ?_ ?_
     rotate_left
     ·simp only [putAll, Act.put, List.setIfInBounds_toArray, List.set_cons_zero, List.set_cons_succ]
      rfl
     refine cl6 2 33 1551 Try.func19 (impl_Val_span.calls _ _ _ _ _ _ _ A1.out) K1 K2 K3 K4 K5 K6 HB fun w8 K1 K2 K3 K4 K5 K6 HB hHeld => ?_
     exact norm_ nz (hJ2_9_10 (g5, g6) _ ⟨hHeld, (Z K1), (Z K2), (Z K3), (Z K4), (Z K5), (Z K6), G5.out, G6.out, N13.out, N14.out, N15.out, N16.out, N17.out, N18.out, N19.out, N20.out, N21.out, N22.out, G7.out, G8.out, N23.out, N24.out, N25.out, N26.out, N27.out, N28.out, N29.out, N30.out, (YA HB)⟩)
    intro hJ9_10
    refine join_ (σ := Unit) 9 (lb 13 15) (fun s_ => [(33, .agg #[.int .i64 t5, .int .i64 t6])]) (fun s_ w' => (w'.cell? ⟨g1, 0, none⟩ = some (.int .i64 a1_0) ∧ w'.cell? ⟨g1, 1, none⟩ = some (.int .i64 a1_1) ∧ w'.cell? ⟨g1, 2, none⟩ = some (.int .i64 a1_2) ∧ w'.cell? ⟨g1, 3, none⟩ = some (.int .i64 a1_3) ∧ w'.cell? ⟨g2, 0, none⟩ = some (.int .i64 a2_0) ∧ w'.cell? ⟨g2, 1, none⟩ = some (.int .i64 a2_1) ∧ w'.cell? ⟨g2, 2, none⟩ = some (.int .i64 a2_2) ∧ w'.cell? ⟨g2, 3, none⟩ = some (.int .i64 a2_3)) ∧ (w'.heap[g1]? = some (.cells #[.int .i64 a1_0, .int .i64 a1_1, .int .i64 a1_2, .int .i64 a1_3] 24 (0, 0))) ∧ (w'.heap[g2]? = some (.cells #[.int .i64 a2_0, .int .i64 a2_1, .int .i64 a2_2, .int .i64 a2_3] 24 (0, 0))) ∧ (w'.heap[g3]? = some (.cells #[.int .i64 0, .int .i64 0, .int .i64 0, .int .i64 0] 24 (0, 0))) ∧ (w'.heap[g4]? = some (.cells #[.int .i64 0, .int .i64 0, .int .i64 0, .int .i64 0] 24 (0, 0))) ∧ (Below w.heap.size w w')) ?_ ?_
    rotate_left
    rotate_left
    ·skip
     rintro _ w7 ⟨hS_, h0_, h1_, h2_, h3_, h4_⟩
     replace K1 : Bx4 w7 g1 a1_0 a1_1 a1_2 a1_3 24 := ⟨h0_⟩
     replace K2 : Bx4 w7 g2 a2_0 a2_1 a2_2 a2_3 24 := ⟨h1_⟩
     replace K3 : Bx4 w7 g3 0 0 0 0 24 := ⟨h2_⟩
     replace K4 : Bx4 w7 g4 0 0 0 0 24 := ⟨h3_⟩
     replace HB : Aside0 (Below w.heap.size w w7) := ⟨h4_⟩
     clear h0_ h1_ h2_ h3_ h4_
     have hHeld : w7.cell? ⟨g1, 0, none⟩ = some (.int .i64 a1_0) ∧ w7.cell? ⟨g1, 1, none⟩ = some (.int .i64 a1_1) ∧ w7.cell? ⟨g1, 2, none⟩ = some (.int .i64 a1_2) ∧ w7.cell? ⟨g1, 3, none⟩ = some (.int .i64 a1_3) ∧ w7.cell? ⟨g2, 0, none⟩ = some (.int .i64 a2_0) ∧ w7.cell? ⟨g2, 1, none⟩ = some (.int .i64 a2_1) ∧ w7.cell? ⟨g2, 2, none⟩ = some (.int .i64 a2_2) ∧ w7.cell? ⟨g2, 3, none⟩ = some (.int .i64 a2_3) := hS_
     refine norm_ (a' := ?_) ?_ ?_
     rotate_left
     ·simp only [putAll, Act.put, List.setIfInBounds_toArray, List.set_cons_zero, List.set_cons_succ]
      rfl
     refine three_ (i := 4) (j := 9) (k := 10) (Ni := some 35) (Nj := some 8) (Nk := some 9) (lb 13 31) (lb 13 527) (lb 13 1039) rfl rfl rfl rfl rfl rfl (three_of HT_.out (by kernel_rfl)) (by decide) (by decide) (by decide) (fun K hK => ?_) (fun K hK => ?_) (fun K hK => ?_)
     ·skip
      refine ck4 hK Try.func19 (impl_Val_span.calls _ _ _ _ _ _ _ A2.out) K1 K2 K3 K4 HB fun w8 K1 K2 K3 K4 HB hHeld => ?_
      clear hK K
      exact norm_ nz (hJ2_4 () _ ⟨hHeld, (Z K1), (Z K2), (Z K3), (Z K4), (YA HB)⟩)
     ·skip
      refine box_step ?hg (N := 8) ?hd (cs := #[.int .i64 0, .int .i64 0]) (t := 33) ?hr ?_; (case hd => rfl); (case hg => rfl); (case hr => first | (go_simp; done) | (go_simp; rfl))
      intro g5 hg w8 hbox hb
      have K5 := am (hbox)
      have G5 := am (bs hg (YA HB))
      have G6 := am (bs hg (YA HB))
      obtain ⟨N13,N14⟩ := ne_ hg K1
      obtain ⟨N15,N16⟩ := ne_ hg K2
      obtain ⟨N17,N18⟩ := ne_ hg K3
      obtain ⟨N19,N20⟩ := ne_ hg K4
      obtain ⟨K1, K2, K3, K4, HB⟩ := bk4 K1 K2 K3 K4 HB hb
      clear hb hbox hg
      refine kk hK ⟨bc K1 0, bc K1 1, bc K1 2, bc K1 3, bc K2 0, bc K2 1, bc K2 2, bc K2 3⟩ fun hHeld => ?_
      clear hK K
      exact norm_ nz (hJ2_9 (g5) _ ⟨hHeld, (Z K1), (Z K2), (Z K3), (Z K4), (Z K5), G5.out, G6.out, N13.out, N14.out, N15.out, N16.out, N17.out, N18.out, N19.out, N20.out, (YA HB)⟩)
     skip
     refine box_step ?hg (N := 9) ?hd (cs := #[.int .i64 0, .int .i64 0]) (t := 33) ?hr ?_; (case hd => rfl); (case hg => rfl); (case hr => first | (go_simp; done) | (go_simp; rfl))
     intro g5 hg w8 hbox hb
     have K5 := am (hbox)
     have G5 := am (bs hg (YA HB))
     have G6 := am (bs hg (YA HB))
     obtain ⟨N13,N14⟩ := ne_ hg K1
     obtain ⟨N15,N16⟩ := ne_ hg K2
     obtain ⟨N17,N18⟩ := ne_ hg K3
     obtain ⟨N19,N20⟩ := ne_ hg K4
     obtain ⟨K1, K2, K3, K4, HB⟩ := bk4 K1 K2 K3 K4 HB hb
     clear hb hbox hg
     refine kk hK ⟨bc K1 0, bc K1 1, bc K1 2, bc K1 3, bc K2 0, bc K2 1, bc K2 2, bc K2 3⟩ fun hHeld => ?_
     clear hK K
     exact norm_ nz (hJ2_10 (g5) _ ⟨hHeld, (Z K1), (Z K2), (Z K3), (Z K4), (Z K5), G5.out, G6.out, N13.out, N14.out, N15.out, N16.out, N17.out, N18.out, N19.out, N20.out, (YA HB)⟩)
    intro hJ2
    refine join_ (σ := Nat) 9 (lb 13 523) (fun s_ => [(8, .pointer (some ⟨s_, 0, none⟩))]) (fun s_ w' => (w'.cell? ⟨g1, 0, none⟩ = some (.int .i64 a1_0) ∧ w'.cell? ⟨g1, 1, none⟩ = some (.int .i64 a1_1) ∧ w'.cell? ⟨g1, 2, none⟩ = some (.int .i64 a1_2) ∧ w'.cell? ⟨g1, 3, none⟩ = some (.int .i64 a1_3) ∧ w'.cell? ⟨g2, 0, none⟩ = some (.int .i64 a2_0) ∧ w'.cell? ⟨g2, 1, none⟩ = some (.int .i64 a2_1) ∧ w'.cell? ⟨g2, 2, none⟩ = some (.int .i64 a2_2) ∧ w'.cell? ⟨g2, 3, none⟩ = some (.int .i64 a2_3)) ∧ (w'.heap[g1]? = some (.cells #[.int .i64 a1_0, .int .i64 a1_1, .int .i64 a1_2, .int .i64 a1_3] 24 (0, 0))) ∧ (w'.heap[g2]? = some (.cells #[.int .i64 a2_0, .int .i64 a2_1, .int .i64 a2_2, .int .i64 a2_3] 24 (0, 0))) ∧ (w'.heap[g3]? = some (.cells #[.int .i64 0, .int .i64 0, .int .i64 0, .int .i64 0] 24 (0, 0))) ∧ (w'.heap[g4]? = some (.cells #[.int .i64 0, .int .i64 0, .int .i64 0, .int .i64 0] 24 (0, 0))) ∧ (w'.heap[s_]? = some (.cells #[.int .i64 0, .int .i64 0] 33 (0, 0))) ∧ (w.heap.size ≤ s_) ∧ (w.heap.size ≤ s_) ∧ (g1 ≠ s_) ∧ (s_ ≠ g1) ∧ (g2 ≠ s_) ∧ (s_ ≠ g2) ∧ (g3 ≠ s_) ∧ (s_ ≠ g3) ∧ (g4 ≠ s_) ∧ (s_ ≠ g4) ∧ (Below w.heap.size w w')) ?_ ?_
    rotate_left
    rotate_left
    ·skip
     rintro g5 w7 ⟨hS_, h0_, h1_, h2_, h3_, h4_, h5_, h6_, h7_, h8_, h9_, h10_, h11_, h12_, h13_, h14_, h15_⟩
     have K5 : Bx2 w7 g5 0 0 33 := ⟨h4_⟩
     have G5 : Aside0 (w.heap.size ≤ g5) := ⟨h5_⟩
     have G6 : Aside0 (w.heap.size ≤ g5) := ⟨h6_⟩
     have N13 : Aside0 (g1 ≠ g5) := ⟨h7_⟩
     have N14 : Aside0 (g5 ≠ g1) := ⟨h8_⟩
     have N15 : Aside0 (g2 ≠ g5) := ⟨h9_⟩
     have N16 : Aside0 (g5 ≠ g2) := ⟨h10_⟩
     have N17 : Aside0 (g3 ≠ g5) := ⟨h11_⟩
     have N18 : Aside0 (g5 ≠ g3) := ⟨h12_⟩
     have N19 : Aside0 (g4 ≠ g5) := ⟨h13_⟩
     have N20 : Aside0 (g5 ≠ g4) := ⟨h14_⟩
     replace K1 : Bx4 w7 g1 a1_0 a1_1 a1_2 a1_3 24 := ⟨h0_⟩
     replace K2 : Bx4 w7 g2 a2_0 a2_1 a2_2 a2_3 24 := ⟨h1_⟩
     replace K3 : Bx4 w7 g3 0 0 0 0 24 := ⟨h2_⟩
     replace K4 : Bx4 w7 g4 0 0 0 0 24 := ⟨h3_⟩
     replace HB : Aside0 (Below w.heap.size w w7) := ⟨h15_⟩
     clear h0_ h1_ h2_ h3_ h4_ h5_ h6_ h7_ h8_ h9_ h10_ h11_ h12_ h13_ h14_ h15_
     have hHeld : w7.cell? ⟨g1, 0, none⟩ = some (.int .i64 a1_0) ∧ w7.cell? ⟨g1, 1, none⟩ = some (.int .i64 a1_1) ∧ w7.cell? ⟨g1, 2, none⟩ = some (.int .i64 a1_2) ∧ w7.cell? ⟨g1, 3, none⟩ = some (.int .i64 a1_3) ∧ w7.cell? ⟨g2, 0, none⟩ = some (.int .i64 a2_0) ∧ w7.cell? ⟨g2, 1, none⟩ = some (.int .i64 a2_1) ∧ w7.cell? ⟨g2, 2, none⟩ = some (.int .i64 a2_2) ∧ w7.cell? ⟨g2, 3, none⟩ = some (.int .i64 a2_3) := hS_
     refine norm_ (a' := ?_) ?_ ?_
     rotate_left
     ·simp only [putAll, Act.put, List.setIfInBounds_toArray, List.set_cons_zero, List.set_cons_succ]
      rfl
     refine two_ (i := 2) (j := 10) (Ni := some 33) (Nj := some 9) (lb 13 527) (lb 13 1547) rfl rfl rfl rfl (two_of HT_.out (by kernel_rfl)) (by decide) (by decide) (fun K hK => ?_) (fun K hK => ?_)
     ·skip
      refine ck5 hK Try.func19 (impl_Val_span.calls _ _ _ _ _ _ _ A1.out) K1 K2 K3 K4 K5 HB fun w8 K1 K2 K3 K4 K5 HB hHeld => ?_
      clear hK K
      exact norm_ nz (hJ2_9 (g5) _ ⟨hHeld, (Z K1), (Z K2), (Z K3), (Z K4), (Z K5), G5.out, G6.out, N13.out, N14.out, N15.out, N16.out, N17.out, N18.out, N19.out, N20.out, (YA HB)⟩)
     skip
     refine box_step ?hg (N := 9) ?hd (cs := #[.int .i64 0, .int .i64 0]) (t := 33) ?hr ?_; (case hd => rfl); (case hg => rfl); (case hr => first | (go_simp; done) | (go_simp; rfl))
     intro g6 hg w8 hbox hb
     have K6 := am (hbox)
     have G7 := am (bs hg (YA HB))
     have G8 := am (bs hg (YA HB))
     obtain ⟨N21,N22⟩ := ne_ hg K1
     obtain ⟨N23,N24⟩ := ne_ hg K2
     obtain ⟨N25,N26⟩ := ne_ hg K3
     obtain ⟨N27,N28⟩ := ne_ hg K4
     obtain ⟨N29,N30⟩ := ne_ hg K5
     obtain ⟨K1, K2, K3, K4, K5, HB⟩ := bk5 K1 K2 K3 K4 K5 HB hb
     clear hb hbox hg
     refine kk hK ⟨bc K1 0, bc K1 1, bc K1 2, bc K1 3, bc K2 0, bc K2 1, bc K2 2, bc K2 3⟩ fun hHeld => ?_
     clear hK K
     exact norm_ nz (hJ9_10 (g5, g6) _ ⟨hHeld, (Z K1), (Z K2), (Z K3), (Z K4), (Z K5), (Z K6), G5.out, G6.out, N13.out, N14.out, N15.out, N16.out, N17.out, N18.out, N19.out, N20.out, N30.out, N29.out, G7.out, G8.out, N21.out, N22.out, N23.out, N24.out, N25.out, N26.out, N27.out, N28.out, (YA HB)⟩)
    intro hJ9
    refine join_ (σ := Nat) 9 (lb 13 1035) (fun s_ => [(9, .pointer (some ⟨s_, 0, none⟩))]) (fun s_ w' => (w'.cell? ⟨g1, 0, none⟩ = some (.int .i64 a1_0) ∧ w'.cell? ⟨g1, 1, none⟩ = some (.int .i64 a1_1) ∧ w'.cell? ⟨g1, 2, none⟩ = some (.int .i64 a1_2) ∧ w'.cell? ⟨g1, 3, none⟩ = some (.int .i64 a1_3) ∧ w'.cell? ⟨g2, 0, none⟩ = some (.int .i64 a2_0) ∧ w'.cell? ⟨g2, 1, none⟩ = some (.int .i64 a2_1) ∧ w'.cell? ⟨g2, 2, none⟩ = some (.int .i64 a2_2) ∧ w'.cell? ⟨g2, 3, none⟩ = some (.int .i64 a2_3)) ∧ (w'.heap[g1]? = some (.cells #[.int .i64 a1_0, .int .i64 a1_1, .int .i64 a1_2, .int .i64 a1_3] 24 (0, 0))) ∧ (w'.heap[g2]? = some (.cells #[.int .i64 a2_0, .int .i64 a2_1, .int .i64 a2_2, .int .i64 a2_3] 24 (0, 0))) ∧ (w'.heap[g3]? = some (.cells #[.int .i64 0, .int .i64 0, .int .i64 0, .int .i64 0] 24 (0, 0))) ∧ (w'.heap[g4]? = some (.cells #[.int .i64 0, .int .i64 0, .int .i64 0, .int .i64 0] 24 (0, 0))) ∧ (w'.heap[s_]? = some (.cells #[.int .i64 0, .int .i64 0] 33 (0, 0))) ∧ (w.heap.size ≤ s_) ∧ (w.heap.size ≤ s_) ∧ (g1 ≠ s_) ∧ (s_ ≠ g1) ∧ (g2 ≠ s_) ∧ (s_ ≠ g2) ∧ (g3 ≠ s_) ∧ (s_ ≠ g3) ∧ (g4 ≠ s_) ∧ (s_ ≠ g4) ∧ (Below w.heap.size w w')) ?_ ?_
    rotate_left
    ·intro hJ10
     refine three_ (i := 2) (j := 9) (k := 10) (Ni := some 33) (Nj := some 8) (Nk := some 9) (lb 13 15) (lb 13 523) (lb 13 1035) rfl rfl rfl rfl rfl rfl (three_of HT_.out (by kernel_rfl)) (by decide) (by decide) (by decide) (fun K hK => ?_) (fun K hK => ?_) (fun K hK => ?_)
     ·skip
      refine ck4 hK Try.func19 (impl_Val_span.calls _ _ _ _ _ _ _ A1.out) K1 K2 K3 K4 HB fun w7 K1 K2 K3 K4 HB hHeld => ?_
      clear hK K
      exact norm_ nz (hJ2 () _ ⟨hHeld, (Z K1), (Z K2), (Z K3), (Z K4), (YA HB)⟩)
     ·skip
      refine box_step ?hg (N := 8) ?hd (cs := #[.int .i64 0, .int .i64 0]) (t := 33) ?hr ?_; (case hd => rfl); (case hg => rfl); (case hr => first | (go_simp; done) | (go_simp; rfl))
      intro g5 hg w7 hbox hb
      have K5 := am (hbox)
      have G5 := am (bs hg (YA HB))
      have G6 := am (bs hg (YA HB))
      obtain ⟨N13,N14⟩ := ne_ hg K1
      obtain ⟨N15,N16⟩ := ne_ hg K2
      obtain ⟨N17,N18⟩ := ne_ hg K3
      obtain ⟨N19,N20⟩ := ne_ hg K4
      obtain ⟨K1, K2, K3, K4, HB⟩ := bk4 K1 K2 K3 K4 HB hb
      clear hb hbox hg
      refine kk hK ⟨bc K1 0, bc K1 1, bc K1 2, bc K1 3, bc K2 0, bc K2 1, bc K2 2, bc K2 3⟩ fun hHeld => ?_
      clear hK K
      exact norm_ nz (hJ9 (g5) _ ⟨hHeld, (Z K1), (Z K2), (Z K3), (Z K4), (Z K5), G5.out, G6.out, N13.out, N14.out, N15.out, N16.out, N17.out, N18.out, N19.out, N20.out, (YA HB)⟩)
     skip
     refine box_step ?hg (N := 9) ?hd (cs := #[.int .i64 0, .int .i64 0]) (t := 33) ?hr ?_; (case hd => rfl); (case hg => rfl); (case hr => first | (go_simp; done) | (go_simp; rfl))
     intro g5 hg w7 hbox hb
     have K5 := am (hbox)
     have G5 := am (bs hg (YA HB))
     have G6 := am (bs hg (YA HB))
     obtain ⟨N13,N14⟩ := ne_ hg K1
     obtain ⟨N15,N16⟩ := ne_ hg K2
     obtain ⟨N17,N18⟩ := ne_ hg K3
     obtain ⟨N19,N20⟩ := ne_ hg K4
     obtain ⟨K1, K2, K3, K4, HB⟩ := bk4 K1 K2 K3 K4 HB hb
     clear hb hbox hg
     refine kk hK ⟨bc K1 0, bc K1 1, bc K1 2, bc K1 3, bc K2 0, bc K2 1, bc K2 2, bc K2 3⟩ fun hHeld => ?_
     clear hK K
     exact norm_ nz (hJ10 (g5) _ ⟨hHeld, (Z K1), (Z K2), (Z K3), (Z K4), (Z K5), G5.out, G6.out, N13.out, N14.out, N15.out, N16.out, N17.out, N18.out, N19.out, N20.out, (YA HB)⟩)
    skip
    rintro g5 w7 ⟨hS_, h0_, h1_, h2_, h3_, h4_, h5_, h6_, h7_, h8_, h9_, h10_, h11_, h12_, h13_, h14_, h15_⟩
    have K5 : Bx2 w7 g5 0 0 33 := ⟨h4_⟩
    have G5 : Aside0 (w.heap.size ≤ g5) := ⟨h5_⟩
    have G6 : Aside0 (w.heap.size ≤ g5) := ⟨h6_⟩
    have N13 : Aside0 (g1 ≠ g5) := ⟨h7_⟩
    have N14 : Aside0 (g5 ≠ g1) := ⟨h8_⟩
    have N15 : Aside0 (g2 ≠ g5) := ⟨h9_⟩
    have N16 : Aside0 (g5 ≠ g2) := ⟨h10_⟩
    have N17 : Aside0 (g3 ≠ g5) := ⟨h11_⟩
    have N18 : Aside0 (g5 ≠ g3) := ⟨h12_⟩
    have N19 : Aside0 (g4 ≠ g5) := ⟨h13_⟩
    have N20 : Aside0 (g5 ≠ g4) := ⟨h14_⟩
    replace K1 : Bx4 w7 g1 a1_0 a1_1 a1_2 a1_3 24 := ⟨h0_⟩
    replace K2 : Bx4 w7 g2 a2_0 a2_1 a2_2 a2_3 24 := ⟨h1_⟩
    replace K3 : Bx4 w7 g3 0 0 0 0 24 := ⟨h2_⟩
    replace K4 : Bx4 w7 g4 0 0 0 0 24 := ⟨h3_⟩
    replace HB : Aside0 (Below w.heap.size w w7) := ⟨h15_⟩
    clear h0_ h1_ h2_ h3_ h4_ h5_ h6_ h7_ h8_ h9_ h10_ h11_ h12_ h13_ h14_ h15_
    have hHeld : w7.cell? ⟨g1, 0, none⟩ = some (.int .i64 a1_0) ∧ w7.cell? ⟨g1, 1, none⟩ = some (.int .i64 a1_1) ∧ w7.cell? ⟨g1, 2, none⟩ = some (.int .i64 a1_2) ∧ w7.cell? ⟨g1, 3, none⟩ = some (.int .i64 a1_3) ∧ w7.cell? ⟨g2, 0, none⟩ = some (.int .i64 a2_0) ∧ w7.cell? ⟨g2, 1, none⟩ = some (.int .i64 a2_1) ∧ w7.cell? ⟨g2, 2, none⟩ = some (.int .i64 a2_2) ∧ w7.cell? ⟨g2, 3, none⟩ = some (.int .i64 a2_3) := hS_
    refine norm_ (a' := ?_) ?_ ?_
    rotate_left
    ·simp only [putAll, Act.put, List.setIfInBounds_toArray, List.set_cons_zero, List.set_cons_succ]
     rfl
    refine two_ (i := 2) (j := 9) (Ni := some 33) (Nj := some 8) (lb 13 1039) (lb 13 1547) rfl rfl rfl rfl (two_of HT_.out (by kernel_rfl)) (by decide) (by decide) (fun K hK => ?_) (fun K hK => ?_)
    ·skip
     refine ck5 hK Try.func19 (impl_Val_span.calls _ _ _ _ _ _ _ A1.out) K1 K2 K3 K4 K5 HB fun w8 K1 K2 K3 K4 K5 HB hHeld => ?_
     clear hK K
     exact norm_ nz (hJ2_10 (g5) _ ⟨hHeld, (Z K1), (Z K2), (Z K3), (Z K4), (Z K5), G5.out, G6.out, N13.out, N14.out, N15.out, N16.out, N17.out, N18.out, N19.out, N20.out, (YA HB)⟩)
    skip
    refine box_step ?hg (N := 8) ?hd (cs := #[.int .i64 0, .int .i64 0]) (t := 33) ?hr ?_; (case hd => rfl); (case hg => rfl); (case hr => first | (go_simp; done) | (go_simp; rfl))
    intro g6 hg w8 hbox hb
    have K6 := am (hbox)
    have G7 := am (bs hg (YA HB))
    have G8 := am (bs hg (YA HB))
    obtain ⟨N21,N22⟩ := ne_ hg K1
    obtain ⟨N23,N24⟩ := ne_ hg K2
    obtain ⟨N25,N26⟩ := ne_ hg K3
    obtain ⟨N27,N28⟩ := ne_ hg K4
    obtain ⟨N29,N30⟩ := ne_ hg K5
    obtain ⟨K1, K2, K3, K4, K5, HB⟩ := bk5 K1 K2 K3 K4 K5 HB hb
    clear hb hbox hg
    refine kk hK ⟨bc K1 0, bc K1 1, bc K1 2, bc K1 3, bc K2 0, bc K2 1, bc K2 2, bc K2 3⟩ fun hHeld => ?_
    clear hK K
    exact norm_ nz (hJ9_10 (g6, g5) _ ⟨hHeld, (Z K1), (Z K2), (Z K3), (Z K4), (Z K6), (Z K5), G7.out, G8.out, N21.out, N22.out, N23.out, N24.out, N25.out, N26.out, N27.out, N28.out, N29.out, N30.out, G5.out, G6.out, N13.out, N14.out, N15.out, N16.out, N17.out, N18.out, N19.out, N20.out, (YA HB)⟩)
   rintro ⟨g5, g6⟩ w7 ⟨hS_, h0_, h1_, h2_, h3_, h4_, h5_, h6_, h7_, h8_, h9_, h10_, h11_, h12_, h13_, h14_, h15_, h16_, h17_, h18_, h19_, h20_, h21_, h22_, h23_, h24_, h25_, h26_, h27_, h28_⟩
   have K5 : Bx2 w7 g5 0 0 33 := ⟨h4_⟩
   have K6 : Bx2 w7 g6 0 0 33 := ⟨h5_⟩
   have G5 : Aside0 (w.heap.size ≤ g5) := ⟨h6_⟩
   have G6 : Aside0 (w.heap.size ≤ g5) := ⟨h7_⟩
   have N13 : Aside0 (g1 ≠ g5) := ⟨h8_⟩
   have N14 : Aside0 (g5 ≠ g1) := ⟨h9_⟩
   have N15 : Aside0 (g2 ≠ g5) := ⟨h10_⟩
   have N16 : Aside0 (g5 ≠ g2) := ⟨h11_⟩
   have N17 : Aside0 (g3 ≠ g5) := ⟨h12_⟩
   have N18 : Aside0 (g5 ≠ g3) := ⟨h13_⟩
   have N19 : Aside0 (g4 ≠ g5) := ⟨h14_⟩
   have N20 : Aside0 (g5 ≠ g4) := ⟨h15_⟩
   have N21 : Aside0 (g6 ≠ g5) := ⟨h16_⟩
   have N22 : Aside0 (g5 ≠ g6) := ⟨h17_⟩
   have G7 : Aside0 (w.heap.size ≤ g6) := ⟨h18_⟩
   have G8 : Aside0 (w.heap.size ≤ g6) := ⟨h19_⟩
   have N23 : Aside0 (g1 ≠ g6) := ⟨h20_⟩
   have N24 : Aside0 (g6 ≠ g1) := ⟨h21_⟩
   have N25 : Aside0 (g2 ≠ g6) := ⟨h22_⟩
   have N26 : Aside0 (g6 ≠ g2) := ⟨h23_⟩
   have N27 : Aside0 (g3 ≠ g6) := ⟨h24_⟩
   have N28 : Aside0 (g6 ≠ g3) := ⟨h25_⟩
   have N29 : Aside0 (g4 ≠ g6) := ⟨h26_⟩
   have N30 : Aside0 (g6 ≠ g4) := ⟨h27_⟩
   replace K1 : Bx4 w7 g1 a1_0 a1_1 a1_2 a1_3 24 := ⟨h0_⟩
   replace K2 : Bx4 w7 g2 a2_0 a2_1 a2_2 a2_3 24 := ⟨h1_⟩
   replace K3 : Bx4 w7 g3 0 0 0 0 24 := ⟨h2_⟩
   replace K4 : Bx4 w7 g4 0 0 0 0 24 := ⟨h3_⟩
   replace HB : Aside0 (Below w.heap.size w w7) := ⟨h28_⟩
   clear h0_ h1_ h2_ h3_ h4_ h5_ h6_ h7_ h8_ h9_ h10_ h11_ h12_ h13_ h14_ h15_ h16_ h17_ h18_ h19_ h20_ h21_ h22_ h23_ h24_ h25_ h26_ h27_ h28_
   have hHeld : w7.cell? ⟨g1, 0, none⟩ = some (.int .i64 a1_0) ∧ w7.cell? ⟨g1, 1, none⟩ = some (.int .i64 a1_1) ∧ w7.cell? ⟨g1, 2, none⟩ = some (.int .i64 a1_2) ∧ w7.cell? ⟨g1, 3, none⟩ = some (.int .i64 a1_3) ∧ w7.cell? ⟨g2, 0, none⟩ = some (.int .i64 a2_0) ∧ w7.cell? ⟨g2, 1, none⟩ = some (.int .i64 a2_1) ∧ w7.cell? ⟨g2, 2, none⟩ = some (.int .i64 a2_2) ∧ w7.cell? ⟨g2, 3, none⟩ = some (.int .i64 a2_3) := hS_
   refine norm_ (a' := ?_) ?_ ?_
   rotate_left
   ·simp only [putAll, Act.put, List.setIfInBounds_toArray, List.set_cons_zero, List.set_cons_succ]
    rfl
   refine on 11 none 4095 fun K hK => ?_
   have s8 : w7.cell? ⟨g5, 0, none⟩ = some (.int .i64 0) := bc K5 0
   have hfs81 := blk_frozen K5.out 0
   have z_ := ns10 N13 N15 N17 N19 N21 N14 N16 N18 N20 N22
   have s9 : w7.cell? ⟨g5, 1, none⟩ = some (.int .i64 0) := bc K5 1
   have hfs82 := blk_frozen K5.out 1
   have z_ := ns10 N13 N15 N17 N19 N21 N14 N16 N18 N20 N22
   refine skip_ (w1 := ?_) (by rfl) rfl ?_ ?_
   rotate_left
   ·go_simp
    rfl
   refine hK.out _ _ ⟨(cf N13 ((cf N13 (hHeld.1)))), (cf N13 ((cf N13 (hHeld.2.1)))), (cf N13 ((cf N13 (hHeld.2.2.1)))), (cf N13 ((cf N13 (hHeld.2.2.2.1)))), (cf N15 ((cf N15 (hHeld.2.2.2.2.1)))), (cf N15 ((cf N15 (hHeld.2.2.2.2.2.1)))), (cf N15 ((cf N15 (hHeld.2.2.2.2.2.2.1)))), (cf N15 ((cf N15 (hHeld.2.2.2.2.2.2.2))))⟩ (fun hHeld => ?_)
   clear hK K
   refine on 12 none 8191 fun K hK => ?_
   have s10 : w7.cell? ⟨g6, 0, none⟩ = some (.int .i64 0) := bc K6 0
   have hfs83 := blk_frozen K6.out 0
   have z_ := ns10 N23 N25 N27 N29 N22 N24 N26 N28 N30 N21
   have s11 : w7.cell? ⟨g6, 1, none⟩ = some (.int .i64 0) := bc K6 1
   have hfs84 := blk_frozen K6.out 1
   have z_ := ns10 N23 N25 N27 N29 N22 N24 N26 N28 N30 N21
   refine skip_ (w1 := ?_) (by rfl) rfl ?_ ?_
   rotate_left
   ·go_simp
    rfl
   refine hK.out _ _ ⟨(cf N23 ((cf N23 (hHeld.1)))), (cf N23 ((cf N23 (hHeld.2.1)))), (cf N23 ((cf N23 (hHeld.2.2.1)))), (cf N23 ((cf N23 (hHeld.2.2.2.1)))), (cf N25 ((cf N25 (hHeld.2.2.2.2.1)))), (cf N25 ((cf N25 (hHeld.2.2.2.2.2.1)))), (cf N25 ((cf N25 (hHeld.2.2.2.2.2.2.1)))), (cf N25 ((cf N25 (hHeld.2.2.2.2.2.2.2))))⟩ (fun hHeld => ?_)
   clear hK K
   refine done_ (done_of HT_.out (by kernel_rfl)) ?_
   try go_wp2
   have n0_ : Aside0 (((((w7.setCell ⟨g5, 0, none⟩ (.int .i64 t9)).setCell ⟨g5, 1, none⟩ (.int .i64 t10)).setCell ⟨g6, 0, none⟩ (.int .i64 t11)).setCell ⟨g6, 1, none⟩ (.int .i64 t12)).heap[g1]? = some (.cells #[.int .i64 a1_0, .int .i64 a1_1, .int .i64 a1_2, .int .i64 a1_3] 24 (0, 0))) := ⟨by refine fa N23 ?_; refine fa N23 ?_; refine fa N13 ?_; refine fa N13 ?_; exact Z K1⟩
   have n1_ : Aside0 (((((w7.setCell ⟨g5, 0, none⟩ (.int .i64 t9)).setCell ⟨g5, 1, none⟩ (.int .i64 t10)).setCell ⟨g6, 0, none⟩ (.int .i64 t11)).setCell ⟨g6, 1, none⟩ (.int .i64 t12)).heap[g2]? = some (.cells #[.int .i64 a2_0, .int .i64 a2_1, .int .i64 a2_2, .int .i64 a2_3] 24 (0, 0))) := ⟨by refine fa N25 ?_; refine fa N25 ?_; refine fa N15 ?_; refine fa N15 ?_; exact Z K2⟩
   have n2_ : Aside0 (((((w7.setCell ⟨g5, 0, none⟩ (.int .i64 t9)).setCell ⟨g5, 1, none⟩ (.int .i64 t10)).setCell ⟨g6, 0, none⟩ (.int .i64 t11)).setCell ⟨g6, 1, none⟩ (.int .i64 t12)).heap[g3]? = some (.cells #[.int .i64 0, .int .i64 0, .int .i64 0, .int .i64 0] 24 (0, 0))) := ⟨by refine fa N27 ?_; refine fa N27 ?_; refine fa N17 ?_; refine fa N17 ?_; exact Z K3⟩
   have n3_ : Aside0 (((((w7.setCell ⟨g5, 0, none⟩ (.int .i64 t9)).setCell ⟨g5, 1, none⟩ (.int .i64 t10)).setCell ⟨g6, 0, none⟩ (.int .i64 t11)).setCell ⟨g6, 1, none⟩ (.int .i64 t12)).heap[g4]? = some (.cells #[.int .i64 0, .int .i64 0, .int .i64 0, .int .i64 0] 24 (0, 0))) := ⟨by refine fa N29 ?_; refine fa N29 ?_; refine fa N19 ?_; refine fa N19 ?_; exact Z K4⟩
   have n4_ : Aside0 (((((w7.setCell ⟨g5, 0, none⟩ (.int .i64 t9)).setCell ⟨g5, 1, none⟩ (.int .i64 t10)).setCell ⟨g6, 0, none⟩ (.int .i64 t11)).setCell ⟨g6, 1, none⟩ (.int .i64 t12)).heap[g5]? = some (.cells #[.int .i64 t9, .int .i64 t10] 33 (0, 0))) := ⟨by refine fa N22 ?_; refine fa N22 ?_; refine pf ?_; refine blk_put (cs := #[.int .i64 t9, .int .i64 0]) ?_ 1 _ rfl; refine pf ?_; refine blk_put (cs := #[.int .i64 0, .int .i64 0]) ?_ 0 _ rfl; exact Z K5⟩
   have n5_ : Aside0 (((((w7.setCell ⟨g5, 0, none⟩ (.int .i64 t9)).setCell ⟨g5, 1, none⟩ (.int .i64 t10)).setCell ⟨g6, 0, none⟩ (.int .i64 t11)).setCell ⟨g6, 1, none⟩ (.int .i64 t12)).heap[g6]? = some (.cells #[.int .i64 t11, .int .i64 t12] 33 (0, 0))) := ⟨by refine pf ?_; refine blk_put (cs := #[.int .i64 t11, .int .i64 0]) ?_ 1 _ rfl; refine pf ?_; refine blk_put (cs := #[.int .i64 0, .int .i64 0]) ?_ 0 _ rfl; refine fa N21 ?_; refine fa N21 ?_; exact Z K6⟩
   have n6_ : Aside0 (Below w.heap.size w ((((w7.setCell ⟨g5, 0, none⟩ (.int .i64 t9)).setCell ⟨g5, 1, none⟩ (.int .i64 t10)).setCell ⟨g6, 0, none⟩ (.int .i64 t11)).setCell ⟨g6, 1, none⟩ (.int .i64 t12))) := ⟨YA HB⟩
   (try clear K1)
   (try clear K2)
   (try clear K3)
   (try clear K4)
   (try clear K5)
   (try clear K6)
   (try clear HB)
   generalize ((((w7.setCell ⟨g5, 0, none⟩ (.int .i64 t9)).setCell ⟨g5, 1, none⟩ (.int .i64 t10)).setCell ⟨g6, 0, none⟩ (.int .i64 t11)).setCell ⟨g6, 1, none⟩ (.int .i64 t12)) = w8 at n0_ n1_ n2_ n3_ n4_ n5_ n6_ ⊢
   have K1 := n0_
   have K2 := n1_
   have K3 := n2_
   have K4 := n3_
   have K5 := n4_
   have K6 := n5_
   have HB := n6_
   clear n0_ n1_ n2_ n3_ n4_ n5_ n6_
   obtain ⟨K1, K2, K3, K4, K5, K6, HB⟩ := dk6 K1 K2 K3 K4 K5 K6 HB
   refine start_ (n := 12) (S := fun w' => w'.cell? ⟨g5, 0, none⟩ = some (.int .i64 t9) ∧ w'.cell? ⟨g5, 1, none⟩ = some (.int .i64 t10) ∧ w'.cell? ⟨g1, 0, none⟩ = some (.int .i64 a1_0) ∧ w'.cell? ⟨g1, 1, none⟩ = some (.int .i64 a1_1) ∧ w'.cell? ⟨g1, 2, none⟩ = some (.int .i64 a1_2) ∧ w'.cell? ⟨g1, 3, none⟩ = some (.int .i64 a1_3) ∧ w'.cell? ⟨g6, 0, none⟩ = some (.int .i64 t11) ∧ w'.cell? ⟨g6, 1, none⟩ = some (.int .i64 t12) ∧ w'.cell? ⟨g2, 0, none⟩ = some (.int .i64 a2_0) ∧ w'.cell? ⟨g2, 1, none⟩ = some (.int .i64 a2_1) ∧ w'.cell? ⟨g2, 2, none⟩ = some (.int .i64 a2_2) ∧ w'.cell? ⟨g2, 3, none⟩ = some (.int .i64 a2_3)) (ds := []) (lb 12 0) (by kernel_rfl) rfl rfl ⟨bc K5 0, bc K5 1, bc K1 0, bc K1 1, bc K1 2, bc K1 3, bc K6 0, bc K6 1, bc K2 0, bc K2 1, bc K2 2, bc K2 3⟩ (fun hHeld => ?_); refine with_tabW impl_ValCmp.tab4 impl_ValCmp.bits4 (fun HT_ HW_ => ?_)
   generalize w8.drew = w9 at K1 K2 K3 K4 K5 K6 HB hHeld ⊢
   refine tk 0 39 1 hHeld ?_
   refine tk 1 40 3 hHeld ?_
   refine tk 4 43 19 hHeld ?_
   refine tk 5 44 51 hHeld ?_
   refine join_ (σ := Nat × Nat) 2 (lb 12 1023) (fun s_ => [(41, .agg #[.int .i64 t13, .int .i64 t14]), (42, .agg #[.int .i64 t15, .int .i64 t16, .int .i64 t17, .int .i64 t18]), (45, .agg #[.int .i64 t19, .int .i64 t20]), (46, .agg #[.int .i64 t21, .int .i64 t22, .int .i64 t23, .int .i64 t24]), (10, .pointer (some ⟨s_.1, 0, none⟩)), (11, .pointer (some ⟨s_.2, 0, none⟩))]) (fun s_ w' => (w'.cell? ⟨g5, 0, none⟩ = some (.int .i64 t9) ∧ w'.cell? ⟨g5, 1, none⟩ = some (.int .i64 t10) ∧ w'.cell? ⟨g1, 0, none⟩ = some (.int .i64 a1_0) ∧ w'.cell? ⟨g1, 1, none⟩ = some (.int .i64 a1_1) ∧ w'.cell? ⟨g1, 2, none⟩ = some (.int .i64 a1_2) ∧ w'.cell? ⟨g1, 3, none⟩ = some (.int .i64 a1_3) ∧ w'.cell? ⟨g6, 0, none⟩ = some (.int .i64 t11) ∧ w'.cell? ⟨g6, 1, none⟩ = some (.int .i64 t12) ∧ w'.cell? ⟨g2, 0, none⟩ = some (.int .i64 a2_0) ∧ w'.cell? ⟨g2, 1, none⟩ = some (.int .i64 a2_1) ∧ w'.cell? ⟨g2, 2, none⟩ = some (.int .i64 a2_2) ∧ w'.cell? ⟨g2, 3, none⟩ = some (.int .i64 a2_3)) ∧ (w'.heap[g1]? = some (.cells #[.int .i64 a1_0, .int .i64 a1_1, .int .i64 a1_2, .int .i64 a1_3] 24 (0, 0))) ∧ (w'.heap[g2]? = some (.cells #[.int .i64 a2_0, .int .i64 a2_1, .int .i64 a2_2, .int .i64 a2_3] 24 (0, 0))) ∧ (w'.heap[g3]? = some (.cells #[.int .i64 0, .int .i64 0, .int .i64 0, .int .i64 0] 24 (0, 0))) ∧ (w'.heap[g4]? = some (.cells #[.int .i64 0, .int .i64 0, .int .i64 0, .int .i64 0] 24 (0, 0))) ∧ (w'.heap[g5]? = some (.cells #[.int .i64 t9, .int .i64 t10] 33 (0, 0))) ∧ (w'.heap[g6]? = some (.cells #[.int .i64 t11, .int .i64 t12] 33 (0, 0))) ∧ (w'.heap[s_.1]? = some (.cells #[.int .i64 0, .int .i64 0, .int .i64 0, .int .i64 0] 24 (0, 0))) ∧ (w'.heap[s_.2]? = some (.cells #[.int .i64 0, .int .i64 0, .int .i64 0, .int .i64 0] 24 (0, 0))) ∧ (w.heap.size ≤ s_.1) ∧ (w.heap.size ≤ s_.1) ∧ (g1 ≠ s_.1) ∧ (s_.1 ≠ g1) ∧ (g2 ≠ s_.1) ∧ (s_.1 ≠ g2) ∧ (g3 ≠ s_.1) ∧ (s_.1 ≠ g3) ∧ (g4 ≠ s_.1) ∧ (s_.1 ≠ g4) ∧ (g5 ≠ s_.1) ∧ (s_.1 ≠ g5) ∧ (g6 ≠ s_.1) ∧ (s_.1 ≠ g6) ∧ (s_.2 ≠ s_.1) ∧ (s_.1 ≠ s_.2) ∧ (w.heap.size ≤ s_.2) ∧ (w.heap.size ≤ s_.2) ∧ (g1 ≠ s_.2) ∧ (s_.2 ≠ g1) ∧ (g2 ≠ s_.2) ∧ (s_.2 ≠ g2) ∧ (g3 ≠ s_.2) ∧ (s_.2 ≠ g3) ∧ (g4 ≠ s_.2) ∧ (s_.2 ≠ g4) ∧ (g5 ≠ s_.2) ∧ (s_.2 ≠ g5) ∧ (g6 ≠ s_.2) ∧ (s_.2 ≠ g6) ∧ (Below w.heap.size w w')) ?_ ?_
   rotate_left
   ·intro hJ2_3_6_7_8_9
    refine join_ (σ := Nat) 3 (lb 12 511) (fun s_ => [(41, .agg #[.int .i64 t13, .int .i64 t14]), (42, .agg #[.int .i64 t15, .int .i64 t16, .int .i64 t17, .int .i64 t18]), (45, .agg #[.int .i64 t19, .int .i64 t20]), (46, .agg #[.int .i64 t21, .int .i64 t22, .int .i64 t23, .int .i64 t24]), (10, .pointer (some ⟨s_, 0, none⟩))]) (fun s_ w' => (w'.cell? ⟨g5, 0, none⟩ = some (.int .i64 t9) ∧ w'.cell? ⟨g5, 1, none⟩ = some (.int .i64 t10) ∧ w'.cell? ⟨g1, 0, none⟩ = some (.int .i64 a1_0) ∧ w'.cell? ⟨g1, 1, none⟩ = some (.int .i64 a1_1) ∧ w'.cell? ⟨g1, 2, none⟩ = some (.int .i64 a1_2) ∧ w'.cell? ⟨g1, 3, none⟩ = some (.int .i64 a1_3) ∧ w'.cell? ⟨g6, 0, none⟩ = some (.int .i64 t11) ∧ w'.cell? ⟨g6, 1, none⟩ = some (.int .i64 t12) ∧ w'.cell? ⟨g2, 0, none⟩ = some (.int .i64 a2_0) ∧ w'.cell? ⟨g2, 1, none⟩ = some (.int .i64 a2_1) ∧ w'.cell? ⟨g2, 2, none⟩ = some (.int .i64 a2_2) ∧ w'.cell? ⟨g2, 3, none⟩ = some (.int .i64 a2_3)) ∧ (w'.heap[g1]? = some (.cells #[.int .i64 a1_0, .int .i64 a1_1, .int .i64 a1_2, .int .i64 a1_3] 24 (0, 0))) ∧ (w'.heap[g2]? = some (.cells #[.int .i64 a2_0, .int .i64 a2_1, .int .i64 a2_2, .int .i64 a2_3] 24 (0, 0))) ∧ (w'.heap[g3]? = some (.cells #[.int .i64 0, .int .i64 0, .int .i64 0, .int .i64 0] 24 (0, 0))) ∧ (w'.heap[g4]? = some (.cells #[.int .i64 0, .int .i64 0, .int .i64 0, .int .i64 0] 24 (0, 0))) ∧ (w'.heap[g5]? = some (.cells #[.int .i64 t9, .int .i64 t10] 33 (0, 0))) ∧ (w'.heap[g6]? = some (.cells #[.int .i64 t11, .int .i64 t12] 33 (0, 0))) ∧ (w'.heap[s_]? = some (.cells #[.int .i64 0, .int .i64 0, .int .i64 0, .int .i64 0] 24 (0, 0))) ∧ (w.heap.size ≤ s_) ∧ (w.heap.size ≤ s_) ∧ (g1 ≠ s_) ∧ (s_ ≠ g1) ∧ (g2 ≠ s_) ∧ (s_ ≠ g2) ∧ (g3 ≠ s_) ∧ (s_ ≠ g3) ∧ (g4 ≠ s_) ∧ (s_ ≠ g4) ∧ (g5 ≠ s_) ∧ (s_ ≠ g5) ∧ (g6 ≠ s_) ∧ (s_ ≠ g6) ∧ (Below w.heap.size w w')) ?_ ?_
    rotate_left
    rotate_left
    ·skip
     rintro g7 w10 ⟨hS_, h0_, h1_, h2_, h3_, h4_, h5_, h6_, h7_, h8_, h9_, h10_, h11_, h12_, h13_, h14_, h15_, h16_, h17_, h18_, h19_, h20_, h21_⟩
     have K7 : Bx4 w10 g7 0 0 0 0 24 := ⟨h6_⟩
     have G9 : Aside0 (w.heap.size ≤ g7) := ⟨h7_⟩
     have G10 : Aside0 (w.heap.size ≤ g7) := ⟨h8_⟩
     have N31 : Aside0 (g1 ≠ g7) := ⟨h9_⟩
     have N32 : Aside0 (g7 ≠ g1) := ⟨h10_⟩
     have N33 : Aside0 (g2 ≠ g7) := ⟨h11_⟩
     have N34 : Aside0 (g7 ≠ g2) := ⟨h12_⟩
     have N35 : Aside0 (g3 ≠ g7) := ⟨h13_⟩
     have N36 : Aside0 (g7 ≠ g3) := ⟨h14_⟩
     have N37 : Aside0 (g4 ≠ g7) := ⟨h15_⟩
     have N38 : Aside0 (g7 ≠ g4) := ⟨h16_⟩
     have N39 : Aside0 (g5 ≠ g7) := ⟨h17_⟩
     have N40 : Aside0 (g7 ≠ g5) := ⟨h18_⟩
     have N41 : Aside0 (g6 ≠ g7) := ⟨h19_⟩
     have N42 : Aside0 (g7 ≠ g6) := ⟨h20_⟩
     replace K1 : Bx4 w10 g1 a1_0 a1_1 a1_2 a1_3 24 := ⟨h0_⟩
     replace K2 : Bx4 w10 g2 a2_0 a2_1 a2_2 a2_3 24 := ⟨h1_⟩
     replace K3 : Bx4 w10 g3 0 0 0 0 24 := ⟨h2_⟩
     replace K4 : Bx4 w10 g4 0 0 0 0 24 := ⟨h3_⟩
     replace K5 : Bx2 w10 g5 t9 t10 33 := ⟨h4_⟩
     replace K6 : Bx2 w10 g6 t11 t12 33 := ⟨h5_⟩
     replace HB : Aside0 (Below w.heap.size w w10) := ⟨h21_⟩
     clear h0_ h1_ h2_ h3_ h4_ h5_ h6_ h7_ h8_ h9_ h10_ h11_ h12_ h13_ h14_ h15_ h16_ h17_ h18_ h19_ h20_ h21_
     have hHeld : w10.cell? ⟨g5, 0, none⟩ = some (.int .i64 t9) ∧ w10.cell? ⟨g5, 1, none⟩ = some (.int .i64 t10) ∧ w10.cell? ⟨g1, 0, none⟩ = some (.int .i64 a1_0) ∧ w10.cell? ⟨g1, 1, none⟩ = some (.int .i64 a1_1) ∧ w10.cell? ⟨g1, 2, none⟩ = some (.int .i64 a1_2) ∧ w10.cell? ⟨g1, 3, none⟩ = some (.int .i64 a1_3) ∧ w10.cell? ⟨g6, 0, none⟩ = some (.int .i64 t11) ∧ w10.cell? ⟨g6, 1, none⟩ = some (.int .i64 t12) ∧ w10.cell? ⟨g2, 0, none⟩ = some (.int .i64 a2_0) ∧ w10.cell? ⟨g2, 1, none⟩ = some (.int .i64 a2_1) ∧ w10.cell? ⟨g2, 2, none⟩ = some (.int .i64 a2_2) ∧ w10.cell? ⟨g2, 3, none⟩ = some (.int .i64 a2_3) := hS_
     refine norm_ (a' := ?_) ?_ ?_
     rotate_left
     ·simp only [putAll, Act.put, List.setIfInBounds_toArray, List.set_cons_zero, List.set_cons_succ]
      rfl
     refine on 9 (some 11) 1023 fun K hK => ?_
     refine box_step ?hg (N := 11) ?hd (cs := #[.int .i64 0, .int .i64 0, .int .i64 0, .int .i64 0]) (t := 24) ?hr ?_; (case hd => rfl); (case hg => rfl); (case hr => first | (go_simp; done) | (go_simp; rfl))
     intro g8 hg w11 hbox hb
     have K8 := am (hbox)
     have G11 := am (bs hg (YA HB))
     have G12 := am (bs hg (YA HB))
     obtain ⟨N43,N44⟩ := ne_ hg K1
     obtain ⟨N45,N46⟩ := ne_ hg K2
     obtain ⟨N47,N48⟩ := ne_ hg K3
     obtain ⟨N49,N50⟩ := ne_ hg K4
     obtain ⟨N51,N52⟩ := ne_ hg K5
     obtain ⟨N53,N54⟩ := ne_ hg K6
     obtain ⟨N55,N56⟩ := ne_ hg K7
     obtain ⟨K1, K2, K3, K4, K5, K6, K7, HB⟩ := bk7 K1 K2 K3 K4 K5 K6 K7 HB hb
     clear hb hbox hg
     refine kk hK ⟨bc K5 0, bc K5 1, bc K1 0, bc K1 1, bc K1 2, bc K1 3, bc K6 0, bc K6 1, bc K2 0, bc K2 1, bc K2 2, bc K2 3⟩ fun hHeld => ?_
     clear hK K
     exact norm_ nz (hJ2_3_6_7_8_9 (g7, g8) _ ⟨hHeld, (Z K1), (Z K2), (Z K3), (Z K4), (Z K5), (Z K6), (Z K7), (Z K8), G9.out, G10.out, N31.out, N32.out, N33.out, N34.out, N35.out, N36.out, N37.out, N38.out, N39.out, N40.out, N41.out, N42.out, N56.out, N55.out, G11.out, G12.out, N43.out, N44.out, N45.out, N46.out, N47.out, N48.out, N49.out, N50.out, N51.out, N52.out, N53.out, N54.out, (YA HB)⟩)
    intro hJ2_3_6_7_8
    refine join_ (σ := Nat) 3 (lb 12 767) (fun s_ => [(41, .agg #[.int .i64 t13, .int .i64 t14]), (42, .agg #[.int .i64 t15, .int .i64 t16, .int .i64 t17, .int .i64 t18]), (45, .agg #[.int .i64 t19, .int .i64 t20]), (46, .agg #[.int .i64 t21, .int .i64 t22, .int .i64 t23, .int .i64 t24]), (11, .pointer (some ⟨s_, 0, none⟩))]) (fun s_ w' => (w'.cell? ⟨g5, 0, none⟩ = some (.int .i64 t9) ∧ w'.cell? ⟨g5, 1, none⟩ = some (.int .i64 t10) ∧ w'.cell? ⟨g1, 0, none⟩ = some (.int .i64 a1_0) ∧ w'.cell? ⟨g1, 1, none⟩ = some (.int .i64 a1_1) ∧ w'.cell? ⟨g1, 2, none⟩ = some (.int .i64 a1_2) ∧ w'.cell? ⟨g1, 3, none⟩ = some (.int .i64 a1_3) ∧ w'.cell? ⟨g6, 0, none⟩ = some (.int .i64 t11) ∧ w'.cell? ⟨g6, 1, none⟩ = some (.int .i64 t12) ∧ w'.cell? ⟨g2, 0, none⟩ = some (.int .i64 a2_0) ∧ w'.cell? ⟨g2, 1, none⟩ = some (.int .i64 a2_1) ∧ w'.cell? ⟨g2, 2, none⟩ = some (.int .i64 a2_2) ∧ w'.cell? ⟨g2, 3, none⟩ = some (.int .i64 a2_3)) ∧ (w'.heap[g1]? = some (.cells #[.int .i64 a1_0, .int .i64 a1_1, .int .i64 a1_2, .int .i64 a1_3] 24 (0, 0))) ∧ (w'.heap[g2]? = some (.cells #[.int .i64 a2_0, .int .i64 a2_1, .int .i64 a2_2, .int .i64 a2_3] 24 (0, 0))) ∧ (w'.heap[g3]? = some (.cells #[.int .i64 0, .int .i64 0, .int .i64 0, .int .i64 0] 24 (0, 0))) ∧ (w'.heap[g4]? = some (.cells #[.int .i64 0, .int .i64 0, .int .i64 0, .int .i64 0] 24 (0, 0))) ∧ (w'.heap[g5]? = some (.cells #[.int .i64 t9, .int .i64 t10] 33 (0, 0))) ∧ (w'.heap[g6]? = some (.cells #[.int .i64 t11, .int .i64 t12] 33 (0, 0))) ∧ (w'.heap[s_]? = some (.cells #[.int .i64 0, .int .i64 0, .int .i64 0, .int .i64 0] 24 (0, 0))) ∧ (w.heap.size ≤ s_) ∧ (w.heap.size ≤ s_) ∧ (g1 ≠ s_) ∧ (s_ ≠ g1) ∧ (g2 ≠ s_) ∧ (s_ ≠ g2) ∧ (g3 ≠ s_) ∧ (s_ ≠ g3) ∧ (g4 ≠ s_) ∧ (s_ ≠ g4) ∧ (g5 ≠ s_) ∧ (s_ ≠ g5) ∧ (g6 ≠ s_) ∧ (s_ ≠ g6) ∧ (Below w.heap.size w w')) ?_ ?_
    rotate_left
    rotate_left
    ·skip
     rintro g7 w10 ⟨hS_, h0_, h1_, h2_, h3_, h4_, h5_, h6_, h7_, h8_, h9_, h10_, h11_, h12_, h13_, h14_, h15_, h16_, h17_, h18_, h19_, h20_, h21_⟩
     have K7 : Bx4 w10 g7 0 0 0 0 24 := ⟨h6_⟩
     have G9 : Aside0 (w.heap.size ≤ g7) := ⟨h7_⟩
     have G10 : Aside0 (w.heap.size ≤ g7) := ⟨h8_⟩
     have N31 : Aside0 (g1 ≠ g7) := ⟨h9_⟩
     have N32 : Aside0 (g7 ≠ g1) := ⟨h10_⟩
     have N33 : Aside0 (g2 ≠ g7) := ⟨h11_⟩
     have N34 : Aside0 (g7 ≠ g2) := ⟨h12_⟩
     have N35 : Aside0 (g3 ≠ g7) := ⟨h13_⟩
     have N36 : Aside0 (g7 ≠ g3) := ⟨h14_⟩
     have N37 : Aside0 (g4 ≠ g7) := ⟨h15_⟩
     have N38 : Aside0 (g7 ≠ g4) := ⟨h16_⟩
     have N39 : Aside0 (g5 ≠ g7) := ⟨h17_⟩
     have N40 : Aside0 (g7 ≠ g5) := ⟨h18_⟩
     have N41 : Aside0 (g6 ≠ g7) := ⟨h19_⟩
     have N42 : Aside0 (g7 ≠ g6) := ⟨h20_⟩
     replace K1 : Bx4 w10 g1 a1_0 a1_1 a1_2 a1_3 24 := ⟨h0_⟩
     replace K2 : Bx4 w10 g2 a2_0 a2_1 a2_2 a2_3 24 := ⟨h1_⟩
     replace K3 : Bx4 w10 g3 0 0 0 0 24 := ⟨h2_⟩
     replace K4 : Bx4 w10 g4 0 0 0 0 24 := ⟨h3_⟩
     replace K5 : Bx2 w10 g5 t9 t10 33 := ⟨h4_⟩
     replace K6 : Bx2 w10 g6 t11 t12 33 := ⟨h5_⟩
     replace HB : Aside0 (Below w.heap.size w w10) := ⟨h21_⟩
     clear h0_ h1_ h2_ h3_ h4_ h5_ h6_ h7_ h8_ h9_ h10_ h11_ h12_ h13_ h14_ h15_ h16_ h17_ h18_ h19_ h20_ h21_
     have hHeld : w10.cell? ⟨g5, 0, none⟩ = some (.int .i64 t9) ∧ w10.cell? ⟨g5, 1, none⟩ = some (.int .i64 t10) ∧ w10.cell? ⟨g1, 0, none⟩ = some (.int .i64 a1_0) ∧ w10.cell? ⟨g1, 1, none⟩ = some (.int .i64 a1_1) ∧ w10.cell? ⟨g1, 2, none⟩ = some (.int .i64 a1_2) ∧ w10.cell? ⟨g1, 3, none⟩ = some (.int .i64 a1_3) ∧ w10.cell? ⟨g6, 0, none⟩ = some (.int .i64 t11) ∧ w10.cell? ⟨g6, 1, none⟩ = some (.int .i64 t12) ∧ w10.cell? ⟨g2, 0, none⟩ = some (.int .i64 a2_0) ∧ w10.cell? ⟨g2, 1, none⟩ = some (.int .i64 a2_1) ∧ w10.cell? ⟨g2, 2, none⟩ = some (.int .i64 a2_2) ∧ w10.cell? ⟨g2, 3, none⟩ = some (.int .i64 a2_3) := hS_
     refine norm_ (a' := ?_) ?_ ?_
     rotate_left
     ·simp only [putAll, Act.put, List.setIfInBounds_toArray, List.set_cons_zero, List.set_cons_succ]
      rfl
     refine on 8 (some 10) 1023 fun K hK => ?_
     refine box_step ?hg (N := 10) ?hd (cs := #[.int .i64 0, .int .i64 0, .int .i64 0, .int .i64 0]) (t := 24) ?hr ?_; (case hd => rfl); (case hg => rfl); (case hr => first | (go_simp; done) | (go_simp; rfl))
     intro g8 hg w11 hbox hb
     have K8 := am (hbox)
     have G11 := am (bs hg (YA HB))
     have G12 := am (bs hg (YA HB))
     obtain ⟨N43,N44⟩ := ne_ hg K1
     obtain ⟨N45,N46⟩ := ne_ hg K2
     obtain ⟨N47,N48⟩ := ne_ hg K3
     obtain ⟨N49,N50⟩ := ne_ hg K4
     obtain ⟨N51,N52⟩ := ne_ hg K5
     obtain ⟨N53,N54⟩ := ne_ hg K6
     obtain ⟨N55,N56⟩ := ne_ hg K7
     obtain ⟨K1, K2, K3, K4, K5, K6, K7, HB⟩ := bk7 K1 K2 K3 K4 K5 K6 K7 HB hb
     clear hb hbox hg
     refine kk hK ⟨bc K5 0, bc K5 1, bc K1 0, bc K1 1, bc K1 2, bc K1 3, bc K6 0, bc K6 1, bc K2 0, bc K2 1, bc K2 2, bc K2 3⟩ fun hHeld => ?_
     clear hK K
     exact norm_ nz (hJ2_3_6_7_8_9 (g8, g7) _ ⟨hHeld, (Z K1), (Z K2), (Z K3), (Z K4), (Z K5), (Z K6), (Z K8), (Z K7), G11.out, G12.out, N43.out, N44.out, N45.out, N46.out, N47.out, N48.out, N49.out, N50.out, N51.out, N52.out, N53.out, N54.out, N55.out, N56.out, G9.out, G10.out, N31.out, N32.out, N33.out, N34.out, N35.out, N36.out, N37.out, N38.out, N39.out, N40.out, N41.out, N42.out, (YA HB)⟩)
    intro hJ2_3_6_7_9
    refine join_ (σ := Nat × Nat) 3 (lb 12 895) (fun s_ => [(41, .agg #[.int .i64 t13, .int .i64 t14]), (42, .agg #[.int .i64 t15, .int .i64 t16, .int .i64 t17, .int .i64 t18]), (45, .agg #[.int .i64 t19, .int .i64 t20]), (10, .pointer (some ⟨s_.1, 0, none⟩)), (11, .pointer (some ⟨s_.2, 0, none⟩))]) (fun s_ w' => (w'.cell? ⟨g5, 0, none⟩ = some (.int .i64 t9) ∧ w'.cell? ⟨g5, 1, none⟩ = some (.int .i64 t10) ∧ w'.cell? ⟨g1, 0, none⟩ = some (.int .i64 a1_0) ∧ w'.cell? ⟨g1, 1, none⟩ = some (.int .i64 a1_1) ∧ w'.cell? ⟨g1, 2, none⟩ = some (.int .i64 a1_2) ∧ w'.cell? ⟨g1, 3, none⟩ = some (.int .i64 a1_3) ∧ w'.cell? ⟨g6, 0, none⟩ = some (.int .i64 t11) ∧ w'.cell? ⟨g6, 1, none⟩ = some (.int .i64 t12) ∧ w'.cell? ⟨g2, 0, none⟩ = some (.int .i64 a2_0) ∧ w'.cell? ⟨g2, 1, none⟩ = some (.int .i64 a2_1) ∧ w'.cell? ⟨g2, 2, none⟩ = some (.int .i64 a2_2) ∧ w'.cell? ⟨g2, 3, none⟩ = some (.int .i64 a2_3)) ∧ (w'.heap[g1]? = some (.cells #[.int .i64 a1_0, .int .i64 a1_1, .int .i64 a1_2, .int .i64 a1_3] 24 (0, 0))) ∧ (w'.heap[g2]? = some (.cells #[.int .i64 a2_0, .int .i64 a2_1, .int .i64 a2_2, .int .i64 a2_3] 24 (0, 0))) ∧ (w'.heap[g3]? = some (.cells #[.int .i64 0, .int .i64 0, .int .i64 0, .int .i64 0] 24 (0, 0))) ∧ (w'.heap[g4]? = some (.cells #[.int .i64 0, .int .i64 0, .int .i64 0, .int .i64 0] 24 (0, 0))) ∧ (w'.heap[g5]? = some (.cells #[.int .i64 t9, .int .i64 t10] 33 (0, 0))) ∧ (w'.heap[g6]? = some (.cells #[.int .i64 t11, .int .i64 t12] 33 (0, 0))) ∧ (w'.heap[s_.1]? = some (.cells #[.int .i64 0, .int .i64 0, .int .i64 0, .int .i64 0] 24 (0, 0))) ∧ (w'.heap[s_.2]? = some (.cells #[.int .i64 0, .int .i64 0, .int .i64 0, .int .i64 0] 24 (0, 0))) ∧ (w.heap.size ≤ s_.1) ∧ (w.heap.size ≤ s_.1) ∧ (g1 ≠ s_.1) ∧ (s_.1 ≠ g1) ∧ (g2 ≠ s_.1) ∧ (s_.1 ≠ g2) ∧ (g3 ≠ s_.1) ∧ (s_.1 ≠ g3) ∧ (g4 ≠ s_.1) ∧ (s_.1 ≠ g4) ∧ (g5 ≠ s_.1) ∧ (s_.1 ≠ g5) ∧ (g6 ≠ s_.1) ∧ (s_.1 ≠ g6) ∧ (s_.2 ≠ s_.1) ∧ (s_.1 ≠ s_.2) ∧ (w.heap.size ≤ s_.2) ∧ (w.heap.size ≤ s_.2) ∧ (g1 ≠ s_.2) ∧ (s_.2 ≠ g1) ∧ (g2 ≠ s_.2) ∧ (s_.2 ≠ g2) ∧ (g3 ≠ s_.2) ∧ (s_.2 ≠ g3) ∧ (g4 ≠ s_.2) ∧ (s_.2 ≠ g4) ∧ (g5 ≠ s_.2) ∧ (s_.2 ≠ g5) ∧ (g6 ≠ s_.2) ∧ (s_.2 ≠ g6) ∧ (Below w.heap.size w w')) ?_ ?_
    rotate_left
    rotate_left
    ·skip
     rintro ⟨g7, g8⟩ w10 ⟨hS_, h0_, h1_, h2_, h3_, h4_, h5_, h6_, h7_, h8_, h9_, h10_, h11_, h12_, h13_, h14_, h15_, h16_, h17_, h18_, h19_, h20_, h21_, h22_, h23_, h24_, h25_, h26_, h27_, h28_, h29_, h30_, h31_, h32_, h33_, h34_, h35_, h36_, h37_, h38_⟩
     have K7 : Bx4 w10 g7 0 0 0 0 24 := ⟨h6_⟩
     have K8 : Bx4 w10 g8 0 0 0 0 24 := ⟨h7_⟩
     have G9 : Aside0 (w.heap.size ≤ g7) := ⟨h8_⟩
     have G10 : Aside0 (w.heap.size ≤ g7) := ⟨h9_⟩
     have N31 : Aside0 (g1 ≠ g7) := ⟨h10_⟩
     have N32 : Aside0 (g7 ≠ g1) := ⟨h11_⟩
     have N33 : Aside0 (g2 ≠ g7) := ⟨h12_⟩
     have N34 : Aside0 (g7 ≠ g2) := ⟨h13_⟩
     have N35 : Aside0 (g3 ≠ g7) := ⟨h14_⟩
     have N36 : Aside0 (g7 ≠ g3) := ⟨h15_⟩
     have N37 : Aside0 (g4 ≠ g7) := ⟨h16_⟩
     have N38 : Aside0 (g7 ≠ g4) := ⟨h17_⟩
     have N39 : Aside0 (g5 ≠ g7) := ⟨h18_⟩
     have N40 : Aside0 (g7 ≠ g5) := ⟨h19_⟩
     have N41 : Aside0 (g6 ≠ g7) := ⟨h20_⟩
     have N42 : Aside0 (g7 ≠ g6) := ⟨h21_⟩
     have N43 : Aside0 (g8 ≠ g7) := ⟨h22_⟩
     have N44 : Aside0 (g7 ≠ g8) := ⟨h23_⟩
     have G11 : Aside0 (w.heap.size ≤ g8) := ⟨h24_⟩
     have G12 : Aside0 (w.heap.size ≤ g8) := ⟨h25_⟩
     have N45 : Aside0 (g1 ≠ g8) := ⟨h26_⟩
     have N46 : Aside0 (g8 ≠ g1) := ⟨h27_⟩
     have N47 : Aside0 (g2 ≠ g8) := ⟨h28_⟩
     have N48 : Aside0 (g8 ≠ g2) := ⟨h29_⟩
     have N49 : Aside0 (g3 ≠ g8) := ⟨h30_⟩
     have N50 : Aside0 (g8 ≠ g3) := ⟨h31_⟩
     have N51 : Aside0 (g4 ≠ g8) := ⟨h32_⟩
     have N52 : Aside0 (g8 ≠ g4) := ⟨h33_⟩
     have N53 : Aside0 (g5 ≠ g8) := ⟨h34_⟩
     have N54 : Aside0 (g8 ≠ g5) := ⟨h35_⟩
     have N55 : Aside0 (g6 ≠ g8) := ⟨h36_⟩
     have N56 : Aside0 (g8 ≠ g6) := ⟨h37_⟩
     replace K1 : Bx4 w10 g1 a1_0 a1_1 a1_2 a1_3 24 := ⟨h0_⟩
     replace K2 : Bx4 w10 g2 a2_0 a2_1 a2_2 a2_3 24 := ⟨h1_⟩
     replace K3 : Bx4 w10 g3 0 0 0 0 24 := ⟨h2_⟩
     replace K4 : Bx4 w10 g4 0 0 0 0 24 := ⟨h3_⟩
     replace K5 : Bx2 w10 g5 t9 t10 33 := ⟨h4_⟩
     replace K6 : Bx2 w10 g6 t11 t12 33 := ⟨h5_⟩
     replace HB : Aside0 (Below w.heap.size w w10) := ⟨h38_⟩
     clear h0_ h1_ h2_ h3_ h4_ h5_ h6_ h7_ h8_ h9_ h10_ h11_ h12_ h13_ h14_ h15_ h16_ h17_ h18_ h19_ h20_ h21_ h22_ h23_ h24_ h25_ h26_ h27_ h28_ h29_ h30_ h31_ h32_ h33_ h34_ h35_ h36_ h37_ h38_
     have hHeld : w10.cell? ⟨g5, 0, none⟩ = some (.int .i64 t9) ∧ w10.cell? ⟨g5, 1, none⟩ = some (.int .i64 t10) ∧ w10.cell? ⟨g1, 0, none⟩ = some (.int .i64 a1_0) ∧ w10.cell? ⟨g1, 1, none⟩ = some (.int .i64 a1_1) ∧ w10.cell? ⟨g1, 2, none⟩ = some (.int .i64 a1_2) ∧ w10.cell? ⟨g1, 3, none⟩ = some (.int .i64 a1_3) ∧ w10.cell? ⟨g6, 0, none⟩ = some (.int .i64 t11) ∧ w10.cell? ⟨g6, 1, none⟩ = some (.int .i64 t12) ∧ w10.cell? ⟨g2, 0, none⟩ = some (.int .i64 a2_0) ∧ w10.cell? ⟨g2, 1, none⟩ = some (.int .i64 a2_1) ∧ w10.cell? ⟨g2, 2, none⟩ = some (.int .i64 a2_2) ∧ w10.cell? ⟨g2, 3, none⟩ = some (.int .i64 a2_3) := hS_
     refine norm_ (a' := ?_) ?_ ?_
     rotate_left
     ·simp only [putAll, Act.put, List.setIfInBounds_toArray, List.set_cons_zero, List.set_cons_succ]
      rfl
     refine cl8 7 46 1023 Try.func20 (impl_ValMake.calls _ _ _ _ _ _ _ _ _ _ A7.out) K1 K2 K3 K4 K5 K6 K7 K8 HB fun w11 K1 K2 K3 K4 K5 K6 K7 K8 HB hHeld => ?_
     exact norm_ nz (hJ2_3_6_7_8_9 (g7, g8) _ ⟨hHeld, (Z K1), (Z K2), (Z K3), (Z K4), (Z K5), (Z K6), (Z K7), (Z K8), G9.out, G10.out, N31.out, N32.out, N33.out, N34.out, N35.out, N36.out, N37.out, N38.out, N39.out, N40.out, N41.out, N42.out, N43.out, N44.out, G11.out, G12.out, N45.out, N46.out, N47.out, N48.out, N49.out, N50.out, N51.out, N52.out, N53.out, N54.out, N55.out, N56.out, (YA HB)⟩)
    intro hJ2_3_6_8_9
    refine join_ (σ := Unit) 4 (lb 12 255) (fun s_ => [(41, .agg #[.int .i64 t13, .int .i64 t14]), (42, .agg #[.int .i64 t15, .int .i64 t16, .int .i64 t17, .int .i64 t18]), (45, .agg #[.int .i64 t19, .int .i64 t20]), (46, .agg #[.int .i64 t21, .int .i64 t22, .int .i64 t23, .int .i64 t24])]) (fun s_ w' => (w'.cell? ⟨g5, 0, none⟩ = some (.int .i64 t9) ∧ w'.cell? ⟨g5, 1, none⟩ = some (.int .i64 t10) ∧ w'.cell? ⟨g1, 0, none⟩ = some (.int .i64 a1_0) ∧ w'.cell? ⟨g1, 1, none⟩ = some (.int .i64 a1_1) ∧ w'.cell? ⟨g1, 2, none⟩ = some (.int .i64 a1_2) ∧ w'.cell? ⟨g1, 3, none⟩ = some (.int .i64 a1_3) ∧ w'.cell? ⟨g6, 0, none⟩ = some (.int .i64 t11) ∧ w'.cell? ⟨g6, 1, none⟩ = some (.int .i64 t12) ∧ w'.cell? ⟨g2, 0, none⟩ = some (.int .i64 a2_0) ∧ w'.cell? ⟨g2, 1, none⟩ = some (.int .i64 a2_1) ∧ w'.cell? ⟨g2, 2, none⟩ = some (.int .i64 a2_2) ∧ w'.cell? ⟨g2, 3, none⟩ = some (.int .i64 a2_3)) ∧ (w'.heap[g1]? = some (.cells #[.int .i64 a1_0, .int .i64 a1_1, .int .i64 a1_2, .int .i64 a1_3] 24 (0, 0))) ∧ (w'.heap[g2]? = some (.cells #[.int .i64 a2_0, .int .i64 a2_1, .int .i64 a2_2, .int .i64 a2_3] 24 (0, 0))) ∧ (w'.heap[g3]? = some (.cells #[.int .i64 0, .int .i64 0, .int .i64 0, .int .i64 0] 24 (0, 0))) ∧ (w'.heap[g4]? = some (.cells #[.int .i64 0, .int .i64 0, .int .i64 0, .int .i64 0] 24 (0, 0))) ∧ (w'.heap[g5]? = some (.cells #[.int .i64 t9, .int .i64 t10] 33 (0, 0))) ∧ (w'.heap[g6]? = some (.cells #[.int .i64 t11, .int .i64 t12] 33 (0, 0))) ∧ (Below w.heap.size w w')) ?_ ?_
    rotate_left
    rotate_left
    ·skip
     rintro _ w10 ⟨hS_, h0_, h1_, h2_, h3_, h4_, h5_, h6_⟩
     replace K1 : Bx4 w10 g1 a1_0 a1_1 a1_2 a1_3 24 := ⟨h0_⟩
     replace K2 : Bx4 w10 g2 a2_0 a2_1 a2_2 a2_3 24 := ⟨h1_⟩
     replace K3 : Bx4 w10 g3 0 0 0 0 24 := ⟨h2_⟩
     replace K4 : Bx4 w10 g4 0 0 0 0 24 := ⟨h3_⟩
     replace K5 : Bx2 w10 g5 t9 t10 33 := ⟨h4_⟩
     replace K6 : Bx2 w10 g6 t11 t12 33 := ⟨h5_⟩
     replace HB : Aside0 (Below w.heap.size w w10) := ⟨h6_⟩
     clear h0_ h1_ h2_ h3_ h4_ h5_ h6_
     have hHeld : w10.cell? ⟨g5, 0, none⟩ = some (.int .i64 t9) ∧ w10.cell? ⟨g5, 1, none⟩ = some (.int .i64 t10) ∧ w10.cell? ⟨g1, 0, none⟩ = some (.int .i64 a1_0) ∧ w10.cell? ⟨g1, 1, none⟩ = some (.int .i64 a1_1) ∧ w10.cell? ⟨g1, 2, none⟩ = some (.int .i64 a1_2) ∧ w10.cell? ⟨g1, 3, none⟩ = some (.int .i64 a1_3) ∧ w10.cell? ⟨g6, 0, none⟩ = some (.int .i64 t11) ∧ w10.cell? ⟨g6, 1, none⟩ = some (.int .i64 t12) ∧ w10.cell? ⟨g2, 0, none⟩ = some (.int .i64 a2_0) ∧ w10.cell? ⟨g2, 1, none⟩ = some (.int .i64 a2_1) ∧ w10.cell? ⟨g2, 2, none⟩ = some (.int .i64 a2_2) ∧ w10.cell? ⟨g2, 3, none⟩ = some (.int .i64 a2_3) := hS_
     refine norm_ (a' := ?_) ?_ ?_
     rotate_left
     ·simp only [putAll, Act.put, List.setIfInBounds_toArray, List.set_cons_zero, List.set_cons_succ]
      rfl
     refine two_ (i := 8) (j := 9) (Ni := some 10) (Nj := some 11) (lb 12 511) (lb 12 767) rfl rfl rfl rfl (two_of HT_.out (by kernel_rfl)) (by decide) (by decide) (fun K hK => ?_) (fun K hK => ?_)
     ·skip
      refine box_step ?hg (N := 10) ?hd (cs := #[.int .i64 0, .int .i64 0, .int .i64 0, .int .i64 0]) (t := 24) ?hr ?_; (case hd => rfl); (case hg => rfl); (case hr => first | (go_simp; done) | (go_simp; rfl))
      intro g7 hg w11 hbox hb
      have K7 := am (hbox)
      have G9 := am (bs hg (YA HB))
      have G10 := am (bs hg (YA HB))
      obtain ⟨N31,N32⟩ := ne_ hg K1
      obtain ⟨N33,N34⟩ := ne_ hg K2
      obtain ⟨N35,N36⟩ := ne_ hg K3
      obtain ⟨N37,N38⟩ := ne_ hg K4
      obtain ⟨N39,N40⟩ := ne_ hg K5
      obtain ⟨N41,N42⟩ := ne_ hg K6
      obtain ⟨K1, K2, K3, K4, K5, K6, HB⟩ := bk6 K1 K2 K3 K4 K5 K6 HB hb
      clear hb hbox hg
      refine kk hK ⟨bc K5 0, bc K5 1, bc K1 0, bc K1 1, bc K1 2, bc K1 3, bc K6 0, bc K6 1, bc K2 0, bc K2 1, bc K2 2, bc K2 3⟩ fun hHeld => ?_
      clear hK K
      exact norm_ nz (hJ2_3_6_7_8 (g7) _ ⟨hHeld, (Z K1), (Z K2), (Z K3), (Z K4), (Z K5), (Z K6), (Z K7), G9.out, G10.out, N31.out, N32.out, N33.out, N34.out, N35.out, N36.out, N37.out, N38.out, N39.out, N40.out, N41.out, N42.out, (YA HB)⟩)
     skip
     refine box_step ?hg (N := 11) ?hd (cs := #[.int .i64 0, .int .i64 0, .int .i64 0, .int .i64 0]) (t := 24) ?hr ?_; (case hd => rfl); (case hg => rfl); (case hr => first | (go_simp; done) | (go_simp; rfl))
     intro g7 hg w11 hbox hb
     have K7 := am (hbox)
     have G9 := am (bs hg (YA HB))
     have G10 := am (bs hg (YA HB))
     obtain ⟨N31,N32⟩ := ne_ hg K1
     obtain ⟨N33,N34⟩ := ne_ hg K2
     obtain ⟨N35,N36⟩ := ne_ hg K3
     obtain ⟨N37,N38⟩ := ne_ hg K4
     obtain ⟨N39,N40⟩ := ne_ hg K5
     obtain ⟨N41,N42⟩ := ne_ hg K6
     obtain ⟨K1, K2, K3, K4, K5, K6, HB⟩ := bk6 K1 K2 K3 K4 K5 K6 HB hb
     clear hb hbox hg
     refine kk hK ⟨bc K5 0, bc K5 1, bc K1 0, bc K1 1, bc K1 2, bc K1 3, bc K6 0, bc K6 1, bc K2 0, bc K2 1, bc K2 2, bc K2 3⟩ fun hHeld => ?_
     clear hK K
     exact norm_ nz (hJ2_3_6_7_9 (g7) _ ⟨hHeld, (Z K1), (Z K2), (Z K3), (Z K4), (Z K5), (Z K6), (Z K7), G9.out, G10.out, N31.out, N32.out, N33.out, N34.out, N35.out, N36.out, N37.out, N38.out, N39.out, N40.out, N41.out, N42.out, (YA HB)⟩)
    intro hJ2_3_6_7
    refine join_ (σ := Nat) 4 (lb 12 383) (fun s_ => [(41, .agg #[.int .i64 t13, .int .i64 t14]), (42, .agg #[.int .i64 t15, .int .i64 t16, .int .i64 t17, .int .i64 t18]), (45, .agg #[.int .i64 t19, .int .i64 t20]), (10, .pointer (some ⟨s_, 0, none⟩))]) (fun s_ w' => (w'.cell? ⟨g5, 0, none⟩ = some (.int .i64 t9) ∧ w'.cell? ⟨g5, 1, none⟩ = some (.int .i64 t10) ∧ w'.cell? ⟨g1, 0, none⟩ = some (.int .i64 a1_0) ∧ w'.cell? ⟨g1, 1, none⟩ = some (.int .i64 a1_1) ∧ w'.cell? ⟨g1, 2, none⟩ = some (.int .i64 a1_2) ∧ w'.cell? ⟨g1, 3, none⟩ = some (.int .i64 a1_3) ∧ w'.cell? ⟨g6, 0, none⟩ = some (.int .i64 t11) ∧ w'.cell? ⟨g6, 1, none⟩ = some (.int .i64 t12) ∧ w'.cell? ⟨g2, 0, none⟩ = some (.int .i64 a2_0) ∧ w'.cell? ⟨g2, 1, none⟩ = some (.int .i64 a2_1) ∧ w'.cell? ⟨g2, 2, none⟩ = some (.int .i64 a2_2) ∧ w'.cell? ⟨g2, 3, none⟩ = some (.int .i64 a2_3)) ∧ (w'.heap[g1]? = some (.cells #[.int .i64 a1_0, .int .i64 a1_1, .int .i64 a1_2, .int .i64 a1_3] 24 (0, 0))) ∧ (w'.heap[g2]? = some (.cells #[.int .i64 a2_0, .int .i64 a2_1, .int .i64 a2_2, .int .i64 a2_3] 24 (0, 0))) ∧ (w'.heap[g3]? = some (.cells #[.int .i64 0, .int .i64 0, .int .i64 0, .int .i64 0] 24 (0, 0))) ∧ (w'.heap[g4]? = some (.cells #[.int .i64 0, .int .i64 0, .int .i64 0, .int .i64 0] 24 (0, 0))) ∧ (w'.heap[g5]? = some (.cells #[.int .i64 t9, .int .i64 t10] 33 (0, 0))) ∧ (w'.heap[g6]? = some (.cells #[.int .i64 t11, .int .i64 t12] 33 (0, 0))) ∧ (w'.heap[s_]? = some (.cells #[.int .i64 0, .int .i64 0, .int .i64 0, .int .i64 0] 24 (0, 0))) ∧ (w.heap.size ≤ s_) ∧ (w.heap.size ≤ s_) ∧ (g1 ≠ s_) ∧ (s_ ≠ g1) ∧ (g2 ≠ s_) ∧ (s_ ≠ g2) ∧ (g3 ≠ s_) ∧ (s_ ≠ g3) ∧ (g4 ≠ s_) ∧ (s_ ≠ g4) ∧ (g5 ≠ s_) ∧ (s_ ≠ g5) ∧ (g6 ≠ s_) ∧ (s_ ≠ g6) ∧ (Below w.heap.size w w')) ?_ ?_
    rotate_left
    rotate_left
    ·skip
     rintro g7 w10 ⟨hS_, h0_, h1_, h2_, h3_, h4_, h5_, h6_, h7_, h8_, h9_, h10_, h11_, h12_, h13_, h14_, h15_, h16_, h17_, h18_, h19_, h20_, h21_⟩
     have K7 : Bx4 w10 g7 0 0 0 0 24 := ⟨h6_⟩
     have G9 : Aside0 (w.heap.size ≤ g7) := ⟨h7_⟩
     have G10 : Aside0 (w.heap.size ≤ g7) := ⟨h8_⟩
     have N31 : Aside0 (g1 ≠ g7) := ⟨h9_⟩
     have N32 : Aside0 (g7 ≠ g1) := ⟨h10_⟩
     have N33 : Aside0 (g2 ≠ g7) := ⟨h11_⟩
     have N34 : Aside0 (g7 ≠ g2) := ⟨h12_⟩
     have N35 : Aside0 (g3 ≠ g7) := ⟨h13_⟩
     have N36 : Aside0 (g7 ≠ g3) := ⟨h14_⟩
     have N37 : Aside0 (g4 ≠ g7) := ⟨h15_⟩
     have N38 : Aside0 (g7 ≠ g4) := ⟨h16_⟩
     have N39 : Aside0 (g5 ≠ g7) := ⟨h17_⟩
     have N40 : Aside0 (g7 ≠ g5) := ⟨h18_⟩
     have N41 : Aside0 (g6 ≠ g7) := ⟨h19_⟩
     have N42 : Aside0 (g7 ≠ g6) := ⟨h20_⟩
     replace K1 : Bx4 w10 g1 a1_0 a1_1 a1_2 a1_3 24 := ⟨h0_⟩
     replace K2 : Bx4 w10 g2 a2_0 a2_1 a2_2 a2_3 24 := ⟨h1_⟩
     replace K3 : Bx4 w10 g3 0 0 0 0 24 := ⟨h2_⟩
     replace K4 : Bx4 w10 g4 0 0 0 0 24 := ⟨h3_⟩
     replace K5 : Bx2 w10 g5 t9 t10 33 := ⟨h4_⟩
     replace K6 : Bx2 w10 g6 t11 t12 33 := ⟨h5_⟩
     replace HB : Aside0 (Below w.heap.size w w10) := ⟨h21_⟩
     clear h0_ h1_ h2_ h3_ h4_ h5_ h6_ h7_ h8_ h9_ h10_ h11_ h12_ h13_ h14_ h15_ h16_ h17_ h18_ h19_ h20_ h21_
     have hHeld : w10.cell? ⟨g5, 0, none⟩ = some (.int .i64 t9) ∧ w10.cell? ⟨g5, 1, none⟩ = some (.int .i64 t10) ∧ w10.cell? ⟨g1, 0, none⟩ = some (.int .i64 a1_0) ∧ w10.cell? ⟨g1, 1, none⟩ = some (.int .i64 a1_1) ∧ w10.cell? ⟨g1, 2, none⟩ = some (.int .i64 a1_2) ∧ w10.cell? ⟨g1, 3, none⟩ = some (.int .i64 a1_3) ∧ w10.cell? ⟨g6, 0, none⟩ = some (.int .i64 t11) ∧ w10.cell? ⟨g6, 1, none⟩ = some (.int .i64 t12) ∧ w10.cell? ⟨g2, 0, none⟩ = some (.int .i64 a2_0) ∧ w10.cell? ⟨g2, 1, none⟩ = some (.int .i64 a2_1) ∧ w10.cell? ⟨g2, 2, none⟩ = some (.int .i64 a2_2) ∧ w10.cell? ⟨g2, 3, none⟩ = some (.int .i64 a2_3) := hS_
     refine norm_ (a' := ?_) ?_ ?_
     rotate_left
     ·simp only [putAll, Act.put, List.setIfInBounds_toArray, List.set_cons_zero, List.set_cons_succ]
      rfl
     refine two_ (i := 7) (j := 9) (Ni := some 46) (Nj := some 11) (lb 12 511) (lb 12 895) rfl rfl rfl rfl (two_of HT_.out (by kernel_rfl)) (by decide) (by decide) (fun K hK => ?_) (fun K hK => ?_)
     ·skip
      refine ck7 hK Try.func20 (impl_ValMake.calls _ _ _ _ _ _ _ _ _ _ A7.out) K1 K2 K3 K4 K5 K6 K7 HB fun w11 K1 K2 K3 K4 K5 K6 K7 HB hHeld => ?_
      clear hK K
      exact norm_ nz (hJ2_3_6_7_8 (g7) _ ⟨hHeld, (Z K1), (Z K2), (Z K3), (Z K4), (Z K5), (Z K6), (Z K7), G9.out, G10.out, N31.out, N32.out, N33.out, N34.out, N35.out, N36.out, N37.out, N38.out, N39.out, N40.out, N41.out, N42.out, (YA HB)⟩)
     skip
     refine box_step ?hg (N := 11) ?hd (cs := #[.int .i64 0, .int .i64 0, .int .i64 0, .int .i64 0]) (t := 24) ?hr ?_; (case hd => rfl); (case hg => rfl); (case hr => first | (go_simp; done) | (go_simp; rfl))
     intro g8 hg w11 hbox hb
     have K8 := am (hbox)
     have G11 := am (bs hg (YA HB))
     have G12 := am (bs hg (YA HB))
     obtain ⟨N43,N44⟩ := ne_ hg K1
     obtain ⟨N45,N46⟩ := ne_ hg K2
     obtain ⟨N47,N48⟩ := ne_ hg K3
     obtain ⟨N49,N50⟩ := ne_ hg K4
     obtain ⟨N51,N52⟩ := ne_ hg K5
     obtain ⟨N53,N54⟩ := ne_ hg K6
     obtain ⟨N55,N56⟩ := ne_ hg K7
     obtain ⟨K1, K2, K3, K4, K5, K6, K7, HB⟩ := bk7 K1 K2 K3 K4 K5 K6 K7 HB hb
     clear hb hbox hg
     refine kk hK ⟨bc K5 0, bc K5 1, bc K1 0, bc K1 1, bc K1 2, bc K1 3, bc K6 0, bc K6 1, bc K2 0, bc K2 1, bc K2 2, bc K2 3⟩ fun hHeld => ?_
     clear hK K
     exact norm_ nz (hJ2_3_6_8_9 (g7, g8) _ ⟨hHeld, (Z K1), (Z K2), (Z K3), (Z K4), (Z K5), (Z K6), (Z K7), (Z K8), G9.out, G10.out, N31.out, N32.out, N33.out, N34.out, N35.out, N36.out, N37.out, N38.out, N39.out, N40.out, N41.out, N42.out, N56.out, N55.out, G11.out, G12.out, N43.out, N44.out, N45.out, N46.out, N47.out, N48.out, N49.out, N50.out, N51.out, N52.out, N53.out, N54.out, (YA HB)⟩)
    intro hJ2_3_6_8
    refine join_ (σ := Nat) 4 (lb 12 639) (fun s_ => [(41, .agg #[.int .i64 t13, .int .i64 t14]), (42, .agg #[.int .i64 t15, .int .i64 t16, .int .i64 t17, .int .i64 t18]), (45, .agg #[.int .i64 t19, .int .i64 t20]), (11, .pointer (some ⟨s_, 0, none⟩))]) (fun s_ w' => (w'.cell? ⟨g5, 0, none⟩ = some (.int .i64 t9) ∧ w'.cell? ⟨g5, 1, none⟩ = some (.int .i64 t10) ∧ w'.cell? ⟨g1, 0, none⟩ = some (.int .i64 a1_0) ∧ w'.cell? ⟨g1, 1, none⟩ = some (.int .i64 a1_1) ∧ w'.cell? ⟨g1, 2, none⟩ = some (.int .i64 a1_2) ∧ w'.cell? ⟨g1, 3, none⟩ = some (.int .i64 a1_3) ∧ w'.cell? ⟨g6, 0, none⟩ = some (.int .i64 t11) ∧ w'.cell? ⟨g6, 1, none⟩ = some (.int .i64 t12) ∧ w'.cell? ⟨g2, 0, none⟩ = some (.int .i64 a2_0) ∧ w'.cell? ⟨g2, 1, none⟩ = some (.int .i64 a2_1) ∧ w'.cell? ⟨g2, 2, none⟩ = some (.int .i64 a2_2) ∧ w'.cell? ⟨g2, 3, none⟩ = some (.int .i64 a2_3)) ∧ (w'.heap[g1]? = some (.cells #[.int .i64 a1_0, .int .i64 a1_1, .int .i64 a1_2, .int .i64 a1_3] 24 (0, 0))) ∧ (w'.heap[g2]? = some (.cells #[.int .i64 a2_0, .int .i64 a2_1, .int .i64 a2_2, .int .i64 a2_3] 24 (0, 0))) ∧ (w'.heap[g3]? = some (.cells #[.int .i64 0, .int .i64 0, .int .i64 0, .int .i64 0] 24 (0, 0))) ∧ (w'.heap[g4]? = some (.cells #[.int .i64 0, .int .i64 0, .int .i64 0, .int .i64 0] 24 (0, 0))) ∧ (w'.heap[g5]? = some (.cells #[.int .i64 t9, .int .i64 t10] 33 (0, 0))) ∧ (w'.heap[g6]? = some (.cells #[.int .i64 t11, .int .i64 t12] 33 (0, 0))) ∧ (w'.heap[s_]? = some (.cells #[.int .i64 0, .int .i64 0, .int .i64 0, .int .i64 0] 24 (0, 0))) ∧ (w.heap.size ≤ s_) ∧ (w.heap.size ≤ s_) ∧ (g1 ≠ s_) ∧ (s_ ≠ g1) ∧ (g2 ≠ s_) ∧ (s_ ≠ g2) ∧ (g3 ≠ s_) ∧ (s_ ≠ g3) ∧ (g4 ≠ s_) ∧ (s_ ≠ g4) ∧ (g5 ≠ s_) ∧ (s_ ≠ g5) ∧ (g6 ≠ s_) ∧ (s_ ≠ g6) ∧ (Below w.heap.size w w')) ?_ ?_
    rotate_left
    rotate_left
    ·skip
     rintro g7 w10 ⟨hS_, h0_, h1_, h2_, h3_, h4_, h5_, h6_, h7_, h8_, h9_, h10_, h11_, h12_, h13_, h14_, h15_, h16_, h17_, h18_, h19_, h20_, h21_⟩
     have K7 : Bx4 w10 g7 0 0 0 0 24 := ⟨h6_⟩
     have G9 : Aside0 (w.heap.size ≤ g7) := ⟨h7_⟩
     have G10 : Aside0 (w.heap.size ≤ g7) := ⟨h8_⟩
     have N31 : Aside0 (g1 ≠ g7) := ⟨h9_⟩
     have N32 : Aside0 (g7 ≠ g1) := ⟨h10_⟩
     have N33 : Aside0 (g2 ≠ g7) := ⟨h11_⟩
     have N34 : Aside0 (g7 ≠ g2) := ⟨h12_⟩
     have N35 : Aside0 (g3 ≠ g7) := ⟨h13_⟩
     have N36 : Aside0 (g7 ≠ g3) := ⟨h14_⟩
     have N37 : Aside0 (g4 ≠ g7) := ⟨h15_⟩
     have N38 : Aside0 (g7 ≠ g4) := ⟨h16_⟩
     have N39 : Aside0 (g5 ≠ g7) := ⟨h17_⟩
     have N40 : Aside0 (g7 ≠ g5) := ⟨h18_⟩
     have N41 : Aside0 (g6 ≠ g7) := ⟨h19_⟩
     have N42 : Aside0 (g7 ≠ g6) := ⟨h20_⟩
     replace K1 : Bx4 w10 g1 a1_0 a1_1 a1_2 a1_3 24 := ⟨h0_⟩
     replace K2 : Bx4 w10 g2 a2_0 a2_1 a2_2 a2_3 24 := ⟨h1_⟩
     replace K3 : Bx4 w10 g3 0 0 0 0 24 := ⟨h2_⟩
     replace K4 : Bx4 w10 g4 0 0 0 0 24 := ⟨h3_⟩
     replace K5 : Bx2 w10 g5 t9 t10 33 := ⟨h4_⟩
     replace K6 : Bx2 w10 g6 t11 t12 33 := ⟨h5_⟩
     replace HB : Aside0 (Below w.heap.size w w10) := ⟨h21_⟩
     clear h0_ h1_ h2_ h3_ h4_ h5_ h6_ h7_ h8_ h9_ h10_ h11_ h12_ h13_ h14_ h15_ h16_ h17_ h18_ h19_ h20_ h21_
     have hHeld : w10.cell? ⟨g5, 0, none⟩ = some (.int .i64 t9) ∧ w10.cell? ⟨g5, 1, none⟩ = some (.int .i64 t10) ∧ w10.cell? ⟨g1, 0, none⟩ = some (.int .i64 a1_0) ∧ w10.cell? ⟨g1, 1, none⟩ = some (.int .i64 a1_1) ∧ w10.cell? ⟨g1, 2, none⟩ = some (.int .i64 a1_2) ∧ w10.cell? ⟨g1, 3, none⟩ = some (.int .i64 a1_3) ∧ w10.cell? ⟨g6, 0, none⟩ = some (.int .i64 t11) ∧ w10.cell? ⟨g6, 1, none⟩ = some (.int .i64 t12) ∧ w10.cell? ⟨g2, 0, none⟩ = some (.int .i64 a2_0) ∧ w10.cell? ⟨g2, 1, none⟩ = some (.int .i64 a2_1) ∧ w10.cell? ⟨g2, 2, none⟩ = some (.int .i64 a2_2) ∧ w10.cell? ⟨g2, 3, none⟩ = some (.int .i64 a2_3) := hS_
     refine norm_ (a' := ?_) ?_ ?_
     rotate_left
     ·simp only [putAll, Act.put, List.setIfInBounds_toArray, List.set_cons_zero, List.set_cons_succ]
      rfl
     refine two_ (i := 7) (j := 8) (Ni := some 46) (Nj := some 10) (lb 12 767) (lb 12 895) rfl rfl rfl rfl (two_of HT_.out (by kernel_rfl)) (by decide) (by decide) (fun K hK => ?_) (fun K hK => ?_)
     ·skip
      refine ck7 hK Try.func20 (impl_ValMake.calls _ _ _ _ _ _ _ _ _ _ A7.out) K1 K2 K3 K4 K5 K6 K7 HB fun w11 K1 K2 K3 K4 K5 K6 K7 HB hHeld => ?_
      clear hK K
      exact norm_ nz (hJ2_3_6_7_9 (g7) _ ⟨hHeld, (Z K1), (Z K2), (Z K3), (Z K4), (Z K5), (Z K6), (Z K7), G9.out, G10.out, N31.out, N32.out, N33.out, N34.out, N35.out, N36.out, N37.out, N38.out, N39.out, N40.out, N41.out, N42.out, (YA HB)⟩)
     skip
     refine box_step ?hg (N := 10) ?hd (cs := #[.int .i64 0, .int .i64 0, .int .i64 0, .int .i64 0]) (t := 24) ?hr ?_; (case hd => rfl); (case hg => rfl); (case hr => first | (go_simp; done) | (go_simp; rfl))
     intro g8 hg w11 hbox hb
     have K8 := am (hbox)
     have G11 := am (bs hg (YA HB))
     have G12 := am (bs hg (YA HB))
     obtain ⟨N43,N44⟩ := ne_ hg K1
     obtain ⟨N45,N46⟩ := ne_ hg K2
     obtain ⟨N47,N48⟩ := ne_ hg K3
     obtain ⟨N49,N50⟩ := ne_ hg K4
     obtain ⟨N51,N52⟩ := ne_ hg K5
     obtain ⟨N53,N54⟩ := ne_ hg K6
     obtain ⟨N55,N56⟩ := ne_ hg K7
     obtain ⟨K1, K2, K3, K4, K5, K6, K7, HB⟩ := bk7 K1 K2 K3 K4 K5 K6 K7 HB hb
     clear hb hbox hg
     refine kk hK ⟨bc K5 0, bc K5 1, bc K1 0, bc K1 1, bc K1 2, bc K1 3, bc K6 0, bc K6 1, bc K2 0, bc K2 1, bc K2 2, bc K2 3⟩ fun hHeld => ?_
     clear hK K
     exact norm_ nz (hJ2_3_6_8_9 (g8, g7) _ ⟨hHeld, (Z K1), (Z K2), (Z K3), (Z K4), (Z K5), (Z K6), (Z K8), (Z K7), G11.out, G12.out, N43.out, N44.out, N45.out, N46.out, N47.out, N48.out, N49.out, N50.out, N51.out, N52.out, N53.out, N54.out, N55.out, N56.out, G9.out, G10.out, N31.out, N32.out, N33.out, N34.out, N35.out, N36.out, N37.out, N38.out, N39.out, N40.out, N41.out, N42.out, (YA HB)⟩)
    intro hJ2_3_6_9
    refine join_ (σ := Nat × Nat) 4 (lb 12 831) (fun s_ => [(41, .agg #[.int .i64 t13, .int .i64 t14]), (42, .agg #[.int .i64 t15, .int .i64 t16, .int .i64 t17, .int .i64 t18]), (10, .pointer (some ⟨s_.1, 0, none⟩)), (11, .pointer (some ⟨s_.2, 0, none⟩))]) (fun s_ w' => (w'.cell? ⟨g5, 0, none⟩ = some (.int .i64 t9) ∧ w'.cell? ⟨g5, 1, none⟩ = some (.int .i64 t10) ∧ w'.cell? ⟨g1, 0, none⟩ = some (.int .i64 a1_0) ∧ w'.cell? ⟨g1, 1, none⟩ = some (.int .i64 a1_1) ∧ w'.cell? ⟨g1, 2, none⟩ = some (.int .i64 a1_2) ∧ w'.cell? ⟨g1, 3, none⟩ = some (.int .i64 a1_3) ∧ w'.cell? ⟨g6, 0, none⟩ = some (.int .i64 t11) ∧ w'.cell? ⟨g6, 1, none⟩ = some (.int .i64 t12) ∧ w'.cell? ⟨g2, 0, none⟩ = some (.int .i64 a2_0) ∧ w'.cell? ⟨g2, 1, none⟩ = some (.int .i64 a2_1) ∧ w'.cell? ⟨g2, 2, none⟩ = some (.int .i64 a2_2) ∧ w'.cell? ⟨g2, 3, none⟩ = some (.int .i64 a2_3)) ∧ (w'.heap[g1]? = some (.cells #[.int .i64 a1_0, .int .i64 a1_1, .int .i64 a1_2, .int .i64 a1_3] 24 (0, 0))) ∧ (w'.heap[g2]? = some (.cells #[.int .i64 a2_0, .int .i64 a2_1, .int .i64 a2_2, .int .i64 a2_3] 24 (0, 0))) ∧ (w'.heap[g3]? = some (.cells #[.int .i64 0, .int .i64 0, .int .i64 0, .int .i64 0] 24 (0, 0))) ∧ (w'.heap[g4]? = some (.cells #[.int .i64 0, .int .i64 0, .int .i64 0, .int .i64 0] 24 (0, 0))) ∧ (w'.heap[g5]? = some (.cells #[.int .i64 t9, .int .i64 t10] 33 (0, 0))) ∧ (w'.heap[g6]? = some (.cells #[.int .i64 t11, .int .i64 t12] 33 (0, 0))) ∧ (w'.heap[s_.1]? = some (.cells #[.int .i64 0, .int .i64 0, .int .i64 0, .int .i64 0] 24 (0, 0))) ∧ (w'.heap[s_.2]? = some (.cells #[.int .i64 0, .int .i64 0, .int .i64 0, .int .i64 0] 24 (0, 0))) ∧ (w.heap.size ≤ s_.1) ∧ (w.heap.size ≤ s_.1) ∧ (g1 ≠ s_.1) ∧ (s_.1 ≠ g1) ∧ (g2 ≠ s_.1) ∧ (s_.1 ≠ g2) ∧ (g3 ≠ s_.1) ∧ (s_.1 ≠ g3) ∧ (g4 ≠ s_.1) ∧ (s_.1 ≠ g4) ∧ (g5 ≠ s_.1) ∧ (s_.1 ≠ g5) ∧ (g6 ≠ s_.1) ∧ (s_.1 ≠ g6) ∧ (s_.2 ≠ s_.1) ∧ (s_.1 ≠ s_.2) ∧ (w.heap.size ≤ s_.2) ∧ (w.heap.size ≤ s_.2) ∧ (g1 ≠ s_.2) ∧ (s_.2 ≠ g1) ∧ (g2 ≠ s_.2) ∧ (s_.2 ≠ g2) ∧ (g3 ≠ s_.2) ∧ (s_.2 ≠ g3) ∧ (g4 ≠ s_.2) ∧ (s_.2 ≠ g4) ∧ (g5 ≠ s_.2) ∧ (s_.2 ≠ g5) ∧ (g6 ≠ s_.2) ∧ (s_.2 ≠ g6) ∧ (Below w.heap.size w w')) ?_ ?_
    rotate_left
    rotate_left
    ·skip
     rintro ⟨g7, g8⟩ w10 ⟨hS_, h0_, h1_, h2_, h3_, h4_, h5_, h6_, h7_, h8_, h9_, h10_, h11_, h12_, h13_, h14_, h15_, h16_, h17_, h18_, h19_, h20_, h21_, h22_, h23_, h24_, h25_, h26_, h27_, h28_, h29_, h30_, h31_, h32_, h33_, h34_, h35_, h36_, h37_, h38_⟩
     have K7 : Bx4 w10 g7 0 0 0 0 24 := ⟨h6_⟩
     have K8 : Bx4 w10 g8 0 0 0 0 24 := ⟨h7_⟩
     have G9 : Aside0 (w.heap.size ≤ g7) := ⟨h8_⟩
     have G10 : Aside0 (w.heap.size ≤ g7) := ⟨h9_⟩
     have N31 : Aside0 (g1 ≠ g7) := ⟨h10_⟩
     have N32 : Aside0 (g7 ≠ g1) := ⟨h11_⟩
     have N33 : Aside0 (g2 ≠ g7) := ⟨h12_⟩
     have N34 : Aside0 (g7 ≠ g2) := ⟨h13_⟩
     have N35 : Aside0 (g3 ≠ g7) := ⟨h14_⟩
     have N36 : Aside0 (g7 ≠ g3) := ⟨h15_⟩
     have N37 : Aside0 (g4 ≠ g7) := ⟨h16_⟩
     have N38 : Aside0 (g7 ≠ g4) := ⟨h17_⟩
     have N39 : Aside0 (g5 ≠ g7) := ⟨h18_⟩
     have N40 : Aside0 (g7 ≠ g5) := ⟨h19_⟩
     have N41 : Aside0 (g6 ≠ g7) := ⟨h20_⟩
     have N42 : Aside0 (g7 ≠ g6) := ⟨h21_⟩
     have N43 : Aside0 (g8 ≠ g7) := ⟨h22_⟩
     have N44 : Aside0 (g7 ≠ g8) := ⟨h23_⟩
     have G11 : Aside0 (w.heap.size ≤ g8) := ⟨h24_⟩
     have G12 : Aside0 (w.heap.size ≤ g8) := ⟨h25_⟩
     have N45 : Aside0 (g1 ≠ g8) := ⟨h26_⟩
     have N46 : Aside0 (g8 ≠ g1) := ⟨h27_⟩
     have N47 : Aside0 (g2 ≠ g8) := ⟨h28_⟩
     have N48 : Aside0 (g8 ≠ g2) := ⟨h29_⟩
     have N49 : Aside0 (g3 ≠ g8) := ⟨h30_⟩
     have N50 : Aside0 (g8 ≠ g3) := ⟨h31_⟩
     have N51 : Aside0 (g4 ≠ g8) := ⟨h32_⟩
     have N52 : Aside0 (g8 ≠ g4) := ⟨h33_⟩
     have N53 : Aside0 (g5 ≠ g8) := ⟨h34_⟩
     have N54 : Aside0 (g8 ≠ g5) := ⟨h35_⟩
     have N55 : Aside0 (g6 ≠ g8) := ⟨h36_⟩
     have N56 : Aside0 (g8 ≠ g6) := ⟨h37_⟩
     replace K1 : Bx4 w10 g1 a1_0 a1_1 a1_2 a1_3 24 := ⟨h0_⟩
     replace K2 : Bx4 w10 g2 a2_0 a2_1 a2_2 a2_3 24 := ⟨h1_⟩
     replace K3 : Bx4 w10 g3 0 0 0 0 24 := ⟨h2_⟩
     replace K4 : Bx4 w10 g4 0 0 0 0 24 := ⟨h3_⟩
     replace K5 : Bx2 w10 g5 t9 t10 33 := ⟨h4_⟩
     replace K6 : Bx2 w10 g6 t11 t12 33 := ⟨h5_⟩
     replace HB : Aside0 (Below w.heap.size w w10) := ⟨h38_⟩
     clear h0_ h1_ h2_ h3_ h4_ h5_ h6_ h7_ h8_ h9_ h10_ h11_ h12_ h13_ h14_ h15_ h16_ h17_ h18_ h19_ h20_ h21_ h22_ h23_ h24_ h25_ h26_ h27_ h28_ h29_ h30_ h31_ h32_ h33_ h34_ h35_ h36_ h37_ h38_
     have hHeld : w10.cell? ⟨g5, 0, none⟩ = some (.int .i64 t9) ∧ w10.cell? ⟨g5, 1, none⟩ = some (.int .i64 t10) ∧ w10.cell? ⟨g1, 0, none⟩ = some (.int .i64 a1_0) ∧ w10.cell? ⟨g1, 1, none⟩ = some (.int .i64 a1_1) ∧ w10.cell? ⟨g1, 2, none⟩ = some (.int .i64 a1_2) ∧ w10.cell? ⟨g1, 3, none⟩ = some (.int .i64 a1_3) ∧ w10.cell? ⟨g6, 0, none⟩ = some (.int .i64 t11) ∧ w10.cell? ⟨g6, 1, none⟩ = some (.int .i64 t12) ∧ w10.cell? ⟨g2, 0, none⟩ = some (.int .i64 a2_0) ∧ w10.cell? ⟨g2, 1, none⟩ = some (.int .i64 a2_1) ∧ w10.cell? ⟨g2, 2, none⟩ = some (.int .i64 a2_2) ∧ w10.cell? ⟨g2, 3, none⟩ = some (.int .i64 a2_3) := hS_
     refine norm_ (a' := ?_) ?_ ?_
     rotate_left
     ·simp only [putAll, Act.put, List.setIfInBounds_toArray, List.set_cons_zero, List.set_cons_succ]
      rfl
     refine cl8 6 45 895 Try.func21 (impl_Val_rest.calls _ _ _ _ _ _ _ A6.out) K1 K2 K3 K4 K5 K6 K7 K8 HB fun w11 K1 K2 K3 K4 K5 K6 K7 K8 HB hHeld => ?_
     exact norm_ nz (hJ2_3_6_8_9 (g7, g8) _ ⟨hHeld, (Z K1), (Z K2), (Z K3), (Z K4), (Z K5), (Z K6), (Z K7), (Z K8), G9.out, G10.out, N31.out, N32.out, N33.out, N34.out, N35.out, N36.out, N37.out, N38.out, N39.out, N40.out, N41.out, N42.out, N43.out, N44.out, G11.out, G12.out, N45.out, N46.out, N47.out, N48.out, N49.out, N50.out, N51.out, N52.out, N53.out, N54.out, N55.out, N56.out, (YA HB)⟩)
    intro hJ2_3_8_9
    refine join_ (σ := Unit) 5 (lb 12 127) (fun s_ => [(41, .agg #[.int .i64 t13, .int .i64 t14]), (42, .agg #[.int .i64 t15, .int .i64 t16, .int .i64 t17, .int .i64 t18]), (45, .agg #[.int .i64 t19, .int .i64 t20])]) (fun s_ w' => (w'.cell? ⟨g5, 0, none⟩ = some (.int .i64 t9) ∧ w'.cell? ⟨g5, 1, none⟩ = some (.int .i64 t10) ∧ w'.cell? ⟨g1, 0, none⟩ = some (.int .i64 a1_0) ∧ w'.cell? ⟨g1, 1, none⟩ = some (.int .i64 a1_1) ∧ w'.cell? ⟨g1, 2, none⟩ = some (.int .i64 a1_2) ∧ w'.cell? ⟨g1, 3, none⟩ = some (.int .i64 a1_3) ∧ w'.cell? ⟨g6, 0, none⟩ = some (.int .i64 t11) ∧ w'.cell? ⟨g6, 1, none⟩ = some (.int .i64 t12) ∧ w'.cell? ⟨g2, 0, none⟩ = some (.int .i64 a2_0) ∧ w'.cell? ⟨g2, 1, none⟩ = some (.int .i64 a2_1) ∧ w'.cell? ⟨g2, 2, none⟩ = some (.int .i64 a2_2) ∧ w'.cell? ⟨g2, 3, none⟩ = some (.int .i64 a2_3)) ∧ (w'.heap[g1]? = some (.cells #[.int .i64 a1_0, .int .i64 a1_1, .int .i64 a1_2, .int .i64 a1_3] 24 (0, 0))) ∧ (w'.heap[g2]? = some (.cells #[.int .i64 a2_0, .int .i64 a2_1, .int .i64 a2_2, .int .i64 a2_3] 24 (0, 0))) ∧ (w'.heap[g3]? = some (.cells #[.int .i64 0, .int .i64 0, .int .i64 0, .int .i64 0] 24 (0, 0))) ∧ (w'.heap[g4]? = some (.cells #[.int .i64 0, .int .i64 0, .int .i64 0, .int .i64 0] 24 (0, 0))) ∧ (w'.heap[g5]? = some (.cells #[.int .i64 t9, .int .i64 t10] 33 (0, 0))) ∧ (w'.heap[g6]? = some (.cells #[.int .i64 t11, .int .i64 t12] 33 (0, 0))) ∧ (Below w.heap.size w w')) ?_ ?_
    rotate_left
    rotate_left
    ·skip
     rintro _ w10 ⟨hS_, h0_, h1_, h2_, h3_, h4_, h5_, h6_⟩
     replace K1 : Bx4 w10 g1 a1_0 a1_1 a1_2 a1_3 24 := ⟨h0_⟩
     replace K2 : Bx4 w10 g2 a2_0 a2_1 a2_2 a2_3 24 := ⟨h1_⟩
     replace K3 : Bx4 w10 g3 0 0 0 0 24 := ⟨h2_⟩
     replace K4 : Bx4 w10 g4 0 0 0 0 24 := ⟨h3_⟩
     replace K5 : Bx2 w10 g5 t9 t10 33 := ⟨h4_⟩
     replace K6 : Bx2 w10 g6 t11 t12 33 := ⟨h5_⟩
     replace HB : Aside0 (Below w.heap.size w w10) := ⟨h6_⟩
     clear h0_ h1_ h2_ h3_ h4_ h5_ h6_
     have hHeld : w10.cell? ⟨g5, 0, none⟩ = some (.int .i64 t9) ∧ w10.cell? ⟨g5, 1, none⟩ = some (.int .i64 t10) ∧ w10.cell? ⟨g1, 0, none⟩ = some (.int .i64 a1_0) ∧ w10.cell? ⟨g1, 1, none⟩ = some (.int .i64 a1_1) ∧ w10.cell? ⟨g1, 2, none⟩ = some (.int .i64 a1_2) ∧ w10.cell? ⟨g1, 3, none⟩ = some (.int .i64 a1_3) ∧ w10.cell? ⟨g6, 0, none⟩ = some (.int .i64 t11) ∧ w10.cell? ⟨g6, 1, none⟩ = some (.int .i64 t12) ∧ w10.cell? ⟨g2, 0, none⟩ = some (.int .i64 a2_0) ∧ w10.cell? ⟨g2, 1, none⟩ = some (.int .i64 a2_1) ∧ w10.cell? ⟨g2, 2, none⟩ = some (.int .i64 a2_2) ∧ w10.cell? ⟨g2, 3, none⟩ = some (.int .i64 a2_3) := hS_
     refine norm_ (a' := ?_) ?_ ?_
     rotate_left
     ·simp only [putAll, Act.put, List.setIfInBounds_toArray, List.set_cons_zero, List.set_cons_succ]
      rfl
     refine three_ (i := 7) (j := 8) (k := 9) (Ni := some 46) (Nj := some 10) (Nk := some 11) (lb 12 255) (lb 12 383) (lb 12 639) rfl rfl rfl rfl rfl rfl (three_of HT_.out (by kernel_rfl)) (by decide) (by decide) (by decide) (fun K hK => ?_) (fun K hK => ?_) (fun K hK => ?_)
     ·skip
      refine ck6 hK Try.func20 (impl_ValMake.calls _ _ _ _ _ _ _ _ _ _ A7.out) K1 K2 K3 K4 K5 K6 HB fun w11 K1 K2 K3 K4 K5 K6 HB hHeld => ?_
      clear hK K
      exact norm_ nz (hJ2_3_6_7 () _ ⟨hHeld, (Z K1), (Z K2), (Z K3), (Z K4), (Z K5), (Z K6), (YA HB)⟩)
     ·skip
      refine box_step ?hg (N := 10) ?hd (cs := #[.int .i64 0, .int .i64 0, .int .i64 0, .int .i64 0]) (t := 24) ?hr ?_; (case hd => rfl); (case hg => rfl); (case hr => first | (go_simp; done) | (go_simp; rfl))
      intro g7 hg w11 hbox hb
      have K7 := am (hbox)
      have G9 := am (bs hg (YA HB))
      have G10 := am (bs hg (YA HB))
      obtain ⟨N31,N32⟩ := ne_ hg K1
      obtain ⟨N33,N34⟩ := ne_ hg K2
      obtain ⟨N35,N36⟩ := ne_ hg K3
      obtain ⟨N37,N38⟩ := ne_ hg K4
      obtain ⟨N39,N40⟩ := ne_ hg K5
      obtain ⟨N41,N42⟩ := ne_ hg K6
      obtain ⟨K1, K2, K3, K4, K5, K6, HB⟩ := bk6 K1 K2 K3 K4 K5 K6 HB hb
      clear hb hbox hg
      refine kk hK ⟨bc K5 0, bc K5 1, bc K1 0, bc K1 1, bc K1 2, bc K1 3, bc K6 0, bc K6 1, bc K2 0, bc K2 1, bc K2 2, bc K2 3⟩ fun hHeld => ?_
      clear hK K
      exact norm_ nz (hJ2_3_6_8 (g7) _ ⟨hHeld, (Z K1), (Z K2), (Z K3), (Z K4), (Z K5), (Z K6), (Z K7), G9.out, G10.out, N31.out, N32.out, N33.out, N34.out, N35.out, N36.out, N37.out, N38.out, N39.out, N40.out, N41.out, N42.out, (YA HB)⟩)
     skip
     refine box_step ?hg (N := 11) ?hd (cs := #[.int .i64 0, .int .i64 0, .int .i64 0, .int .i64 0]) (t := 24) ?hr ?_; (case hd => rfl); (case hg => rfl); (case hr => first | (go_simp; done) | (go_simp; rfl))
     intro g7 hg w11 hbox hb
     have K7 := am (hbox)
     have G9 := am (bs hg (YA HB))
     have G10 := am (bs hg (YA HB))
     obtain ⟨N31,N32⟩ := ne_ hg K1
     obtain ⟨N33,N34⟩ := ne_ hg K2
     obtain ⟨N35,N36⟩ := ne_ hg K3
     obtain ⟨N37,N38⟩ := ne_ hg K4
     obtain ⟨N39,N40⟩ := ne_ hg K5
     obtain ⟨N41,N42⟩ := ne_ hg K6
     obtain ⟨K1, K2, K3, K4, K5, K6, HB⟩ := bk6 K1 K2 K3 K4 K5 K6 HB hb
     clear hb hbox hg
     refine kk hK ⟨bc K5 0, bc K5 1, bc K1 0, bc K1 1, bc K1 2, bc K1 3, bc K6 0, bc K6 1, bc K2 0, bc K2 1, bc K2 2, bc K2 3⟩ fun hHeld => ?_
     clear hK K
     exact norm_ nz (hJ2_3_6_9 (g7) _ ⟨hHeld, (Z K1), (Z K2), (Z K3), (Z K4), (Z K5), (Z K6), (Z K7), G9.out, G10.out, N31.out, N32.out, N33.out, N34.out, N35.out, N36.out, N37.out, N38.out, N39.out, N40.out, N41.out, N42.out, (YA HB)⟩)
    intro hJ2_3_6
    refine join_ (σ := Nat) 5 (lb 12 319) (fun s_ => [(41, .agg #[.int .i64 t13, .int .i64 t14]), (42, .agg #[.int .i64 t15, .int .i64 t16, .int .i64 t17, .int .i64 t18]), (10, .pointer (some ⟨s_, 0, none⟩))]) (fun s_ w' => (w'.cell? ⟨g5, 0, none⟩ = some (.int .i64 t9) ∧ w'.cell? ⟨g5, 1, none⟩ = some (.int .i64 t10) ∧ w'.cell? ⟨g1, 0, none⟩ = some (.int .i64 a1_0) ∧ w'.cell? ⟨g1, 1, none⟩ = some (.int .i64 a1_1) ∧ w'.cell? ⟨g1, 2, none⟩ = some (.int .i64 a1_2) ∧ w'.cell? ⟨g1, 3, none⟩ = some (.int .i64 a1_3) ∧ w'.cell? ⟨g6, 0, none⟩ = some (.int .i64 t11) ∧ w'.cell? ⟨g6, 1, none⟩ = some (.int .i64 t12) ∧ w'.cell? ⟨g2, 0, none⟩ = some (.int .i64 a2_0) ∧ w'.cell? ⟨g2, 1, none⟩ = some (.int .i64 a2_1) ∧ w'.cell? ⟨g2, 2, none⟩ = some (.int .i64 a2_2) ∧ w'.cell? ⟨g2, 3, none⟩ = some (.int .i64 a2_3)) ∧ (w'.heap[g1]? = some (.cells #[.int .i64 a1_0, .int .i64 a1_1, .int .i64 a1_2, .int .i64 a1_3] 24 (0, 0))) ∧ (w'.heap[g2]? = some (.cells #[.int .i64 a2_0, .int .i64 a2_1, .int .i64 a2_2, .int .i64 a2_3] 24 (0, 0))) ∧ (w'.heap[g3]? = some (.cells #[.int .i64 0, .int .i64 0, .int .i64 0, .int .i64 0] 24 (0, 0))) ∧ (w'.heap[g4]? = some (.cells #[.int .i64 0, .int .i64 0, .int .i64 0, .int .i64 0] 24 (0, 0))) ∧ (w'.heap[g5]? = some (.cells #[.int .i64 t9, .int .i64 t10] 33 (0, 0))) ∧ (w'.heap[g6]? = some (.cells #[.int .i64 t11, .int .i64 t12] 33 (0, 0))) ∧ (w'.heap[s_]? = some (.cells #[.int .i64 0, .int .i64 0, .int .i64 0, .int .i64 0] 24 (0, 0))) ∧ (w.heap.size ≤ s_) ∧ (w.heap.size ≤ s_) ∧ (g1 ≠ s_) ∧ (s_ ≠ g1) ∧ (g2 ≠ s_) ∧ (s_ ≠ g2) ∧ (g3 ≠ s_) ∧ (s_ ≠ g3) ∧ (g4 ≠ s_) ∧ (s_ ≠ g4) ∧ (g5 ≠ s_) ∧ (s_ ≠ g5) ∧ (g6 ≠ s_) ∧ (s_ ≠ g6) ∧ (Below w.heap.size w w')) ?_ ?_
    rotate_left
    rotate_left
    ·skip
     rintro g7 w10 ⟨hS_, h0_, h1_, h2_, h3_, h4_, h5_, h6_, h7_, h8_, h9_, h10_, h11_, h12_, h13_, h14_, h15_, h16_, h17_, h18_, h19_, h20_, h21_⟩
     have K7 : Bx4 w10 g7 0 0 0 0 24 := ⟨h6_⟩
     have G9 : Aside0 (w.heap.size ≤ g7) := ⟨h7_⟩
     have G10 : Aside0 (w.heap.size ≤ g7) := ⟨h8_⟩
     have N31 : Aside0 (g1 ≠ g7) := ⟨h9_⟩
     have N32 : Aside0 (g7 ≠ g1) := ⟨h10_⟩
     have N33 : Aside0 (g2 ≠ g7) := ⟨h11_⟩
     have N34 : Aside0 (g7 ≠ g2) := ⟨h12_⟩
     have N35 : Aside0 (g3 ≠ g7) := ⟨h13_⟩
     have N36 : Aside0 (g7 ≠ g3) := ⟨h14_⟩
     have N37 : Aside0 (g4 ≠ g7) := ⟨h15_⟩
     have N38 : Aside0 (g7 ≠ g4) := ⟨h16_⟩
     have N39 : Aside0 (g5 ≠ g7) := ⟨h17_⟩
     have N40 : Aside0 (g7 ≠ g5) := ⟨h18_⟩
     have N41 : Aside0 (g6 ≠ g7) := ⟨h19_⟩
     have N42 : Aside0 (g7 ≠ g6) := ⟨h20_⟩
     replace K1 : Bx4 w10 g1 a1_0 a1_1 a1_2 a1_3 24 := ⟨h0_⟩
     replace K2 : Bx4 w10 g2 a2_0 a2_1 a2_2 a2_3 24 := ⟨h1_⟩
     replace K3 : Bx4 w10 g3 0 0 0 0 24 := ⟨h2_⟩
     replace K4 : Bx4 w10 g4 0 0 0 0 24 := ⟨h3_⟩
     replace K5 : Bx2 w10 g5 t9 t10 33 := ⟨h4_⟩
     replace K6 : Bx2 w10 g6 t11 t12 33 := ⟨h5_⟩
     replace HB : Aside0 (Below w.heap.size w w10) := ⟨h21_⟩
     clear h0_ h1_ h2_ h3_ h4_ h5_ h6_ h7_ h8_ h9_ h10_ h11_ h12_ h13_ h14_ h15_ h16_ h17_ h18_ h19_ h20_ h21_
     have hHeld : w10.cell? ⟨g5, 0, none⟩ = some (.int .i64 t9) ∧ w10.cell? ⟨g5, 1, none⟩ = some (.int .i64 t10) ∧ w10.cell? ⟨g1, 0, none⟩ = some (.int .i64 a1_0) ∧ w10.cell? ⟨g1, 1, none⟩ = some (.int .i64 a1_1) ∧ w10.cell? ⟨g1, 2, none⟩ = some (.int .i64 a1_2) ∧ w10.cell? ⟨g1, 3, none⟩ = some (.int .i64 a1_3) ∧ w10.cell? ⟨g6, 0, none⟩ = some (.int .i64 t11) ∧ w10.cell? ⟨g6, 1, none⟩ = some (.int .i64 t12) ∧ w10.cell? ⟨g2, 0, none⟩ = some (.int .i64 a2_0) ∧ w10.cell? ⟨g2, 1, none⟩ = some (.int .i64 a2_1) ∧ w10.cell? ⟨g2, 2, none⟩ = some (.int .i64 a2_2) ∧ w10.cell? ⟨g2, 3, none⟩ = some (.int .i64 a2_3) := hS_
     refine norm_ (a' := ?_) ?_ ?_
     rotate_left
     ·simp only [putAll, Act.put, List.setIfInBounds_toArray, List.set_cons_zero, List.set_cons_succ]
      rfl
     refine two_ (i := 6) (j := 9) (Ni := some 45) (Nj := some 11) (lb 12 383) (lb 12 831) rfl rfl rfl rfl (two_of HT_.out (by kernel_rfl)) (by decide) (by decide) (fun K hK => ?_) (fun K hK => ?_)
     ·skip
      refine ck7 hK Try.func21 (impl_Val_rest.calls _ _ _ _ _ _ _ A6.out) K1 K2 K3 K4 K5 K6 K7 HB fun w11 K1 K2 K3 K4 K5 K6 K7 HB hHeld => ?_
      clear hK K
      exact norm_ nz (hJ2_3_6_8 (g7) _ ⟨hHeld, (Z K1), (Z K2), (Z K3), (Z K4), (Z K5), (Z K6), (Z K7), G9.out, G10.out, N31.out, N32.out, N33.out, N34.out, N35.out, N36.out, N37.out, N38.out, N39.out, N40.out, N41.out, N42.out, (YA HB)⟩)
     skip
     refine box_step ?hg (N := 11) ?hd (cs := #[.int .i64 0, .int .i64 0, .int .i64 0, .int .i64 0]) (t := 24) ?hr ?_; (case hd => rfl); (case hg => rfl); (case hr => first | (go_simp; done) | (go_simp; rfl))
     intro g8 hg w11 hbox hb
     have K8 := am (hbox)
     have G11 := am (bs hg (YA HB))
     have G12 := am (bs hg (YA HB))
     obtain ⟨N43,N44⟩ := ne_ hg K1
     obtain ⟨N45,N46⟩ := ne_ hg K2
     obtain ⟨N47,N48⟩ := ne_ hg K3
     obtain ⟨N49,N50⟩ := ne_ hg K4
     obtain ⟨N51,N52⟩ := ne_ hg K5
     obtain ⟨N53,N54⟩ := ne_ hg K6
     obtain ⟨N55,N56⟩ := ne_ hg K7
     obtain ⟨K1, K2, K3, K4, K5, K6, K7, HB⟩ := bk7 K1 K2 K3 K4 K5 K6 K7 HB hb
     clear hb hbox hg
     refine kk hK ⟨bc K5 0, bc K5 1, bc K1 0, bc K1 1, bc K1 2, bc K1 3, bc K6 0, bc K6 1, bc K2 0, bc K2 1, bc K2 2, bc K2 3⟩ fun hHeld => ?_
     clear hK K
     exact norm_ nz (hJ2_3_8_9 (g7, g8) _ ⟨hHeld, (Z K1), (Z K2), (Z K3), (Z K4), (Z K5), (Z K6), (Z K7), (Z K8), G9.out, G10.out, N31.out, N32.out, N33.out, N34.out, N35.out, N36.out, N37.out, N38.out, N39.out, N40.out, N41.out, N42.out, N56.out, N55.out, G11.out, G12.out, N43.out, N44.out, N45.out, N46.out, N47.out, N48.out, N49.out, N50.out, N51.out, N52.out, N53.out, N54.out, (YA HB)⟩)
    intro hJ2_3_8
    refine join_ (σ := Nat) 5 (lb 12 575) (fun s_ => [(41, .agg #[.int .i64 t13, .int .i64 t14]), (42, .agg #[.int .i64 t15, .int .i64 t16, .int .i64 t17, .int .i64 t18]), (11, .pointer (some ⟨s_, 0, none⟩))]) (fun s_ w' => (w'.cell? ⟨g5, 0, none⟩ = some (.int .i64 t9) ∧ w'.cell? ⟨g5, 1, none⟩ = some (.int .i64 t10) ∧ w'.cell? ⟨g1, 0, none⟩ = some (.int .i64 a1_0) ∧ w'.cell? ⟨g1, 1, none⟩ = some (.int .i64 a1_1) ∧ w'.cell? ⟨g1, 2, none⟩ = some (.int .i64 a1_2) ∧ w'.cell? ⟨g1, 3, none⟩ = some (.int .i64 a1_3) ∧ w'.cell? ⟨g6, 0, none⟩ = some (.int .i64 t11) ∧ w'.cell? ⟨g6, 1, none⟩ = some (.int .i64 t12) ∧ w'.cell? ⟨g2, 0, none⟩ = some (.int .i64 a2_0) ∧ w'.cell? ⟨g2, 1, none⟩ = some (.int .i64 a2_1) ∧ w'.cell? ⟨g2, 2, none⟩ = some (.int .i64 a2_2) ∧ w'.cell? ⟨g2, 3, none⟩ = some (.int .i64 a2_3)) ∧ (w'.heap[g1]? = some (.cells #[.int .i64 a1_0, .int .i64 a1_1, .int .i64 a1_2, .int .i64 a1_3] 24 (0, 0))) ∧ (w'.heap[g2]? = some (.cells #[.int .i64 a2_0, .int .i64 a2_1, .int .i64 a2_2, .int .i64 a2_3] 24 (0, 0))) ∧ (w'.heap[g3]? = some (.cells #[.int .i64 0, .int .i64 0, .int .i64 0, .int .i64 0] 24 (0, 0))) ∧ (w'.heap[g4]? = some (.cells #[.int .i64 0, .int .i64 0, .int .i64 0, .int .i64 0] 24 (0, 0))) ∧ (w'.heap[g5]? = some (.cells #[.int .i64 t9, .int .i64 t10] 33 (0, 0))) ∧ (w'.heap[g6]? = some (.cells #[.int .i64 t11, .int .i64 t12] 33 (0, 0))) ∧ (w'.heap[s_]? = some (.cells #[.int .i64 0, .int .i64 0, .int .i64 0, .int .i64 0] 24 (0, 0))) ∧ (w.heap.size ≤ s_) ∧ (w.heap.size ≤ s_) ∧ (g1 ≠ s_) ∧ (s_ ≠ g1) ∧ (g2 ≠ s_) ∧ (s_ ≠ g2) ∧ (g3 ≠ s_) ∧ (s_ ≠ g3) ∧ (g4 ≠ s_) ∧ (s_ ≠ g4) ∧ (g5 ≠ s_) ∧ (s_ ≠ g5) ∧ (g6 ≠ s_) ∧ (s_ ≠ g6) ∧ (Below w.heap.size w w')) ?_ ?_
    rotate_left
    rotate_left
    ·skip
     rintro g7 w10 ⟨hS_, h0_, h1_, h2_, h3_, h4_, h5_, h6_, h7_, h8_, h9_, h10_, h11_, h12_, h13_, h14_, h15_, h16_, h17_, h18_, h19_, h20_, h21_⟩
     have K7 : Bx4 w10 g7 0 0 0 0 24 := ⟨h6_⟩
     have G9 : Aside0 (w.heap.size ≤ g7) := ⟨h7_⟩
     have G10 : Aside0 (w.heap.size ≤ g7) := ⟨h8_⟩
     have N31 : Aside0 (g1 ≠ g7) := ⟨h9_⟩
     have N32 : Aside0 (g7 ≠ g1) := ⟨h10_⟩
     have N33 : Aside0 (g2 ≠ g7) := ⟨h11_⟩
     have N34 : Aside0 (g7 ≠ g2) := ⟨h12_⟩
     have N35 : Aside0 (g3 ≠ g7) := ⟨h13_⟩
     have N36 : Aside0 (g7 ≠ g3) := ⟨h14_⟩
     have N37 : Aside0 (g4 ≠ g7) := ⟨h15_⟩
     have N38 : Aside0 (g7 ≠ g4) := ⟨h16_⟩
     have N39 : Aside0 (g5 ≠ g7) := ⟨h17_⟩
     have N40 : Aside0 (g7 ≠ g5) := ⟨h18_⟩
     have N41 : Aside0 (g6 ≠ g7) := ⟨h19_⟩
     have N42 : Aside0 (g7 ≠ g6) := ⟨h20_⟩
     replace K1 : Bx4 w10 g1 a1_0 a1_1 a1_2 a1_3 24 := ⟨h0_⟩
     replace K2 : Bx4 w10 g2 a2_0 a2_1 a2_2 a2_3 24 := ⟨h1_⟩
     replace K3 : Bx4 w10 g3 0 0 0 0 24 := ⟨h2_⟩
     replace K4 : Bx4 w10 g4 0 0 0 0 24 := ⟨h3_⟩
     replace K5 : Bx2 w10 g5 t9 t10 33 := ⟨h4_⟩
     replace K6 : Bx2 w10 g6 t11 t12 33 := ⟨h5_⟩
     replace HB : Aside0 (Below w.heap.size w w10) := ⟨h21_⟩
     clear h0_ h1_ h2_ h3_ h4_ h5_ h6_ h7_ h8_ h9_ h10_ h11_ h12_ h13_ h14_ h15_ h16_ h17_ h18_ h19_ h20_ h21_
     have hHeld : w10.cell? ⟨g5, 0, none⟩ = some (.int .i64 t9) ∧ w10.cell? ⟨g5, 1, none⟩ = some (.int .i64 t10) ∧ w10.cell? ⟨g1, 0, none⟩ = some (.int .i64 a1_0) ∧ w10.cell? ⟨g1, 1, none⟩ = some (.int .i64 a1_1) ∧ w10.cell? ⟨g1, 2, none⟩ = some (.int .i64 a1_2) ∧ w10.cell? ⟨g1, 3, none⟩ = some (.int .i64 a1_3) ∧ w10.cell? ⟨g6, 0, none⟩ = some (.int .i64 t11) ∧ w10.cell? ⟨g6, 1, none⟩ = some (.int .i64 t12) ∧ w10.cell? ⟨g2, 0, none⟩ = some (.int .i64 a2_0) ∧ w10.cell? ⟨g2, 1, none⟩ = some (.int .i64 a2_1) ∧ w10.cell? ⟨g2, 2, none⟩ = some (.int .i64 a2_2) ∧ w10.cell? ⟨g2, 3, none⟩ = some (.int .i64 a2_3) := hS_
     refine norm_ (a' := ?_) ?_ ?_
     rotate_left
     ·simp only [putAll, Act.put, List.setIfInBounds_toArray, List.set_cons_zero, List.set_cons_succ]
      rfl
     refine two_ (i := 6) (j := 8) (Ni := some 45) (Nj := some 10) (lb 12 639) (lb 12 831) rfl rfl rfl rfl (two_of HT_.out (by kernel_rfl)) (by decide) (by decide) (fun K hK => ?_) (fun K hK => ?_)
     ·skip
      refine ck7 hK Try.func21 (impl_Val_rest.calls _ _ _ _ _ _ _ A6.out) K1 K2 K3 K4 K5 K6 K7 HB fun w11 K1 K2 K3 K4 K5 K6 K7 HB hHeld => ?_
      clear hK K
      exact norm_ nz (hJ2_3_6_9 (g7) _ ⟨hHeld, (Z K1), (Z K2), (Z K3), (Z K4), (Z K5), (Z K6), (Z K7), G9.out, G10.out, N31.out, N32.out, N33.out, N34.out, N35.out, N36.out, N37.out, N38.out, N39.out, N40.out, N41.out, N42.out, (YA HB)⟩)
     skip
     refine box_step ?hg (N := 10) ?hd (cs := #[.int .i64 0, .int .i64 0, .int .i64 0, .int .i64 0]) (t := 24) ?hr ?_; (case hd => rfl); (case hg => rfl); (case hr => first | (go_simp; done) | (go_simp; rfl))
     intro g8 hg w11 hbox hb
     have K8 := am (hbox)
     have G11 := am (bs hg (YA HB))
     have G12 := am (bs hg (YA HB))
     obtain ⟨N43,N44⟩ := ne_ hg K1
     obtain ⟨N45,N46⟩ := ne_ hg K2
     obtain ⟨N47,N48⟩ := ne_ hg K3
     obtain ⟨N49,N50⟩ := ne_ hg K4
     obtain ⟨N51,N52⟩ := ne_ hg K5
     obtain ⟨N53,N54⟩ := ne_ hg K6
     obtain ⟨N55,N56⟩ := ne_ hg K7
     obtain ⟨K1, K2, K3, K4, K5, K6, K7, HB⟩ := bk7 K1 K2 K3 K4 K5 K6 K7 HB hb
     clear hb hbox hg
     refine kk hK ⟨bc K5 0, bc K5 1, bc K1 0, bc K1 1, bc K1 2, bc K1 3, bc K6 0, bc K6 1, bc K2 0, bc K2 1, bc K2 2, bc K2 3⟩ fun hHeld => ?_
     clear hK K
     exact norm_ nz (hJ2_3_8_9 (g8, g7) _ ⟨hHeld, (Z K1), (Z K2), (Z K3), (Z K4), (Z K5), (Z K6), (Z K8), (Z K7), G11.out, G12.out, N43.out, N44.out, N45.out, N46.out, N47.out, N48.out, N49.out, N50.out, N51.out, N52.out, N53.out, N54.out, N55.out, N56.out, G9.out, G10.out, N31.out, N32.out, N33.out, N34.out, N35.out, N36.out, N37.out, N38.out, N39.out, N40.out, N41.out, N42.out, (YA HB)⟩)
    intro hJ2_3_9
    refine join_ (σ := Nat × Nat) 5 (lb 12 823) (fun s_ => [(41, .agg #[.int .i64 t13, .int .i64 t14]), (10, .pointer (some ⟨s_.1, 0, none⟩)), (11, .pointer (some ⟨s_.2, 0, none⟩))]) (fun s_ w' => (w'.cell? ⟨g5, 0, none⟩ = some (.int .i64 t9) ∧ w'.cell? ⟨g5, 1, none⟩ = some (.int .i64 t10) ∧ w'.cell? ⟨g1, 0, none⟩ = some (.int .i64 a1_0) ∧ w'.cell? ⟨g1, 1, none⟩ = some (.int .i64 a1_1) ∧ w'.cell? ⟨g1, 2, none⟩ = some (.int .i64 a1_2) ∧ w'.cell? ⟨g1, 3, none⟩ = some (.int .i64 a1_3) ∧ w'.cell? ⟨g6, 0, none⟩ = some (.int .i64 t11) ∧ w'.cell? ⟨g6, 1, none⟩ = some (.int .i64 t12) ∧ w'.cell? ⟨g2, 0, none⟩ = some (.int .i64 a2_0) ∧ w'.cell? ⟨g2, 1, none⟩ = some (.int .i64 a2_1) ∧ w'.cell? ⟨g2, 2, none⟩ = some (.int .i64 a2_2) ∧ w'.cell? ⟨g2, 3, none⟩ = some (.int .i64 a2_3)) ∧ (w'.heap[g1]? = some (.cells #[.int .i64 a1_0, .int .i64 a1_1, .int .i64 a1_2, .int .i64 a1_3] 24 (0, 0))) ∧ (w'.heap[g2]? = some (.cells #[.int .i64 a2_0, .int .i64 a2_1, .int .i64 a2_2, .int .i64 a2_3] 24 (0, 0))) ∧ (w'.heap[g3]? = some (.cells #[.int .i64 0, .int .i64 0, .int .i64 0, .int .i64 0] 24 (0, 0))) ∧ (w'.heap[g4]? = some (.cells #[.int .i64 0, .int .i64 0, .int .i64 0, .int .i64 0] 24 (0, 0))) ∧ (w'.heap[g5]? = some (.cells #[.int .i64 t9, .int .i64 t10] 33 (0, 0))) ∧ (w'.heap[g6]? = some (.cells #[.int .i64 t11, .int .i64 t12] 33 (0, 0))) ∧ (w'.heap[s_.1]? = some (.cells #[.int .i64 0, .int .i64 0, .int .i64 0, .int .i64 0] 24 (0, 0))) ∧ (w'.heap[s_.2]? = some (.cells #[.int .i64 0, .int .i64 0, .int .i64 0, .int .i64 0] 24 (0, 0))) ∧ (w.heap.size ≤ s_.1) ∧ (w.heap.size ≤ s_.1) ∧ (g1 ≠ s_.1) ∧ (s_.1 ≠ g1) ∧ (g2 ≠ s_.1) ∧ (s_.1 ≠ g2) ∧ (g3 ≠ s_.1) ∧ (s_.1 ≠ g3) ∧ (g4 ≠ s_.1) ∧ (s_.1 ≠ g4) ∧ (g5 ≠ s_.1) ∧ (s_.1 ≠ g5) ∧ (g6 ≠ s_.1) ∧ (s_.1 ≠ g6) ∧ (s_.2 ≠ s_.1) ∧ (s_.1 ≠ s_.2) ∧ (w.heap.size ≤ s_.2) ∧ (w.heap.size ≤ s_.2) ∧ (g1 ≠ s_.2) ∧ (s_.2 ≠ g1) ∧ (g2 ≠ s_.2) ∧ (s_.2 ≠ g2) ∧ (g3 ≠ s_.2) ∧ (s_.2 ≠ g3) ∧ (g4 ≠ s_.2) ∧ (s_.2 ≠ g4) ∧ (g5 ≠ s_.2) ∧ (s_.2 ≠ g5) ∧ (g6 ≠ s_.2) ∧ (s_.2 ≠ g6) ∧ (Below w.heap.size w w')) ?_ ?_
    rotate_left
    rotate_left
    ·skip
     rintro ⟨g7, g8⟩ w10 ⟨hS_, h0_, h1_, h2_, h3_, h4_, h5_, h6_, h7_, h8_, h9_, h10_, h11_, h12_, h13_, h14_, h15_, h16_, h17_, h18_, h19_, h20_, h21_, h22_, h23_, h24_, h25_, h26_, h27_, h28_, h29_, h30_, h31_, h32_, h33_, h34_, h35_, h36_, h37_, h38_⟩
     have K7 : Bx4 w10 g7 0 0 0 0 24 := ⟨h6_⟩
     have K8 : Bx4 w10 g8 0 0 0 0 24 := ⟨h7_⟩
     have G9 : Aside0 (w.heap.size ≤ g7) := ⟨h8_⟩
     have G10 : Aside0 (w.heap.size ≤ g7) := ⟨h9_⟩
     have N31 : Aside0 (g1 ≠ g7) := ⟨h10_⟩
     have N32 : Aside0 (g7 ≠ g1) := ⟨h11_⟩
     have N33 : Aside0 (g2 ≠ g7) := ⟨h12_⟩
     have N34 : Aside0 (g7 ≠ g2) := ⟨h13_⟩
     have N35 : Aside0 (g3 ≠ g7) := ⟨h14_⟩
     have N36 : Aside0 (g7 ≠ g3) := ⟨h15_⟩
     have N37 : Aside0 (g4 ≠ g7) := ⟨h16_⟩
     have N38 : Aside0 (g7 ≠ g4) := ⟨h17_⟩
     have N39 : Aside0 (g5 ≠ g7) := ⟨h18_⟩
     have N40 : Aside0 (g7 ≠ g5) := ⟨h19_⟩
     have N41 : Aside0 (g6 ≠ g7) := ⟨h20_⟩
     have N42 : Aside0 (g7 ≠ g6) := ⟨h21_⟩
     have N43 : Aside0 (g8 ≠ g7) := ⟨h22_⟩
     have N44 : Aside0 (g7 ≠ g8) := ⟨h23_⟩
     have G11 : Aside0 (w.heap.size ≤ g8) := ⟨h24_⟩
     have G12 : Aside0 (w.heap.size ≤ g8) := ⟨h25_⟩
     have N45 : Aside0 (g1 ≠ g8) := ⟨h26_⟩
     have N46 : Aside0 (g8 ≠ g1) := ⟨h27_⟩
     have N47 : Aside0 (g2 ≠ g8) := ⟨h28_⟩
     have N48 : Aside0 (g8 ≠ g2) := ⟨h29_⟩
     have N49 : Aside0 (g3 ≠ g8) := ⟨h30_⟩
     have N50 : Aside0 (g8 ≠ g3) := ⟨h31_⟩
     have N51 : Aside0 (g4 ≠ g8) := ⟨h32_⟩
     have N52 : Aside0 (g8 ≠ g4) := ⟨h33_⟩
     have N53 : Aside0 (g5 ≠ g8) := ⟨h34_⟩
     have N54 : Aside0 (g8 ≠ g5) := ⟨h35_⟩
     have N55 : Aside0 (g6 ≠ g8) := ⟨h36_⟩
     have N56 : Aside0 (g8 ≠ g6) := ⟨h37_⟩
     replace K1 : Bx4 w10 g1 a1_0 a1_1 a1_2 a1_3 24 := ⟨h0_⟩
     replace K2 : Bx4 w10 g2 a2_0 a2_1 a2_2 a2_3 24 := ⟨h1_⟩
     replace K3 : Bx4 w10 g3 0 0 0 0 24 := ⟨h2_⟩
     replace K4 : Bx4 w10 g4 0 0 0 0 24 := ⟨h3_⟩
     replace K5 : Bx2 w10 g5 t9 t10 33 := ⟨h4_⟩
     replace K6 : Bx2 w10 g6 t11 t12 33 := ⟨h5_⟩
     replace HB : Aside0 (Below w.heap.size w w10) := ⟨h38_⟩
     clear h0_ h1_ h2_ h3_ h4_ h5_ h6_ h7_ h8_ h9_ h10_ h11_ h12_ h13_ h14_ h15_ h16_ h17_ h18_ h19_ h20_ h21_ h22_ h23_ h24_ h25_ h26_ h27_ h28_ h29_ h30_ h31_ h32_ h33_ h34_ h35_ h36_ h37_ h38_
     have hHeld : w10.cell? ⟨g5, 0, none⟩ = some (.int .i64 t9) ∧ w10.cell? ⟨g5, 1, none⟩ = some (.int .i64 t10) ∧ w10.cell? ⟨g1, 0, none⟩ = some (.int .i64 a1_0) ∧ w10.cell? ⟨g1, 1, none⟩ = some (.int .i64 a1_1) ∧ w10.cell? ⟨g1, 2, none⟩ = some (.int .i64 a1_2) ∧ w10.cell? ⟨g1, 3, none⟩ = some (.int .i64 a1_3) ∧ w10.cell? ⟨g6, 0, none⟩ = some (.int .i64 t11) ∧ w10.cell? ⟨g6, 1, none⟩ = some (.int .i64 t12) ∧ w10.cell? ⟨g2, 0, none⟩ = some (.int .i64 a2_0) ∧ w10.cell? ⟨g2, 1, none⟩ = some (.int .i64 a2_1) ∧ w10.cell? ⟨g2, 2, none⟩ = some (.int .i64 a2_2) ∧ w10.cell? ⟨g2, 3, none⟩ = some (.int .i64 a2_3) := hS_
     refine norm_ (a' := ?_) ?_ ?_
     rotate_left
     ·simp only [putAll, Act.put, List.setIfInBounds_toArray, List.set_cons_zero, List.set_cons_succ]
      rfl
     refine cl8 3 42 831 Try.func20 (impl_ValMake.calls _ _ _ _ _ _ _ _ _ _ A5.out) K1 K2 K3 K4 K5 K6 K7 K8 HB fun w11 K1 K2 K3 K4 K5 K6 K7 K8 HB hHeld => ?_
     exact norm_ nz (hJ2_3_8_9 (g7, g8) _ ⟨hHeld, (Z K1), (Z K2), (Z K3), (Z K4), (Z K5), (Z K6), (Z K7), (Z K8), G9.out, G10.out, N31.out, N32.out, N33.out, N34.out, N35.out, N36.out, N37.out, N38.out, N39.out, N40.out, N41.out, N42.out, N43.out, N44.out, G11.out, G12.out, N45.out, N46.out, N47.out, N48.out, N49.out, N50.out, N51.out, N52.out, N53.out, N54.out, N55.out, N56.out, (YA HB)⟩)
    intro hJ2_8_9
    refine join_ (σ := Unit) 6 (lb 12 63) (fun s_ => [(41, .agg #[.int .i64 t13, .int .i64 t14]), (42, .agg #[.int .i64 t15, .int .i64 t16, .int .i64 t17, .int .i64 t18])]) (fun s_ w' => (w'.cell? ⟨g5, 0, none⟩ = some (.int .i64 t9) ∧ w'.cell? ⟨g5, 1, none⟩ = some (.int .i64 t10) ∧ w'.cell? ⟨g1, 0, none⟩ = some (.int .i64 a1_0) ∧ w'.cell? ⟨g1, 1, none⟩ = some (.int .i64 a1_1) ∧ w'.cell? ⟨g1, 2, none⟩ = some (.int .i64 a1_2) ∧ w'.cell? ⟨g1, 3, none⟩ = some (.int .i64 a1_3) ∧ w'.cell? ⟨g6, 0, none⟩ = some (.int .i64 t11) ∧ w'.cell? ⟨g6, 1, none⟩ = some (.int .i64 t12) ∧ w'.cell? ⟨g2, 0, none⟩ = some (.int .i64 a2_0) ∧ w'.cell? ⟨g2, 1, none⟩ = some (.int .i64 a2_1) ∧ w'.cell? ⟨g2, 2, none⟩ = some (.int .i64 a2_2) ∧ w'.cell? ⟨g2, 3, none⟩ = some (.int .i64 a2_3)) ∧ (w'.heap[g1]? = some (.cells #[.int .i64 a1_0, .int .i64 a1_1, .int .i64 a1_2, .int .i64 a1_3] 24 (0, 0))) ∧ (w'.heap[g2]? = some (.cells #[.int .i64 a2_0, .int .i64 a2_1, .int .i64 a2_2, .int .i64 a2_3] 24 (0, 0))) ∧ (w'.heap[g3]? = some (.cells #[.int .i64 0, .int .i64 0, .int .i64 0, .int .i64 0] 24 (0, 0))) ∧ (w'.heap[g4]? = some (.cells #[.int .i64 0, .int .i64 0, .int .i64 0, .int .i64 0] 24 (0, 0))) ∧ (w'.heap[g5]? = some (.cells #[.int .i64 t9, .int .i64 t10] 33 (0, 0))) ∧ (w'.heap[g6]? = some (.cells #[.int .i64 t11, .int .i64 t12] 33 (0, 0))) ∧ (Below w.heap.size w w')) ?_ ?_
    rotate_left
    rotate_left
    ·skip
     rintro _ w10 ⟨hS_, h0_, h1_, h2_, h3_, h4_, h5_, h6_⟩
     replace K1 : Bx4 w10 g1 a1_0 a1_1 a1_2 a1_3 24 := ⟨h0_⟩
     replace K2 : Bx4 w10 g2 a2_0 a2_1 a2_2 a2_3 24 := ⟨h1_⟩
     replace K3 : Bx4 w10 g3 0 0 0 0 24 := ⟨h2_⟩
     replace K4 : Bx4 w10 g4 0 0 0 0 24 := ⟨h3_⟩
     replace K5 : Bx2 w10 g5 t9 t10 33 := ⟨h4_⟩
     replace K6 : Bx2 w10 g6 t11 t12 33 := ⟨h5_⟩
     replace HB : Aside0 (Below w.heap.size w w10) := ⟨h6_⟩
     clear h0_ h1_ h2_ h3_ h4_ h5_ h6_
     have hHeld : w10.cell? ⟨g5, 0, none⟩ = some (.int .i64 t9) ∧ w10.cell? ⟨g5, 1, none⟩ = some (.int .i64 t10) ∧ w10.cell? ⟨g1, 0, none⟩ = some (.int .i64 a1_0) ∧ w10.cell? ⟨g1, 1, none⟩ = some (.int .i64 a1_1) ∧ w10.cell? ⟨g1, 2, none⟩ = some (.int .i64 a1_2) ∧ w10.cell? ⟨g1, 3, none⟩ = some (.int .i64 a1_3) ∧ w10.cell? ⟨g6, 0, none⟩ = some (.int .i64 t11) ∧ w10.cell? ⟨g6, 1, none⟩ = some (.int .i64 t12) ∧ w10.cell? ⟨g2, 0, none⟩ = some (.int .i64 a2_0) ∧ w10.cell? ⟨g2, 1, none⟩ = some (.int .i64 a2_1) ∧ w10.cell? ⟨g2, 2, none⟩ = some (.int .i64 a2_2) ∧ w10.cell? ⟨g2, 3, none⟩ = some (.int .i64 a2_3) := hS_
     refine norm_ (a' := ?_) ?_ ?_
     rotate_left
     ·simp only [putAll, Act.put, List.setIfInBounds_toArray, List.set_cons_zero, List.set_cons_succ]
      rfl
     refine three_ (i := 6) (j := 8) (k := 9) (Ni := some 45) (Nj := some 10) (Nk := some 11) (lb 12 127) (lb 12 319) (lb 12 575) rfl rfl rfl rfl rfl rfl (three_of HT_.out (by kernel_rfl)) (by decide) (by decide) (by decide) (fun K hK => ?_) (fun K hK => ?_) (fun K hK => ?_)
     ·skip
      refine ck6 hK Try.func21 (impl_Val_rest.calls _ _ _ _ _ _ _ A6.out) K1 K2 K3 K4 K5 K6 HB fun w11 K1 K2 K3 K4 K5 K6 HB hHeld => ?_
      clear hK K
      exact norm_ nz (hJ2_3_6 () _ ⟨hHeld, (Z K1), (Z K2), (Z K3), (Z K4), (Z K5), (Z K6), (YA HB)⟩)
     ·skip
      refine box_step ?hg (N := 10) ?hd (cs := #[.int .i64 0, .int .i64 0, .int .i64 0, .int .i64 0]) (t := 24) ?hr ?_; (case hd => rfl); (case hg => rfl); (case hr => first | (go_simp; done) | (go_simp; rfl))
      intro g7 hg w11 hbox hb
      have K7 := am (hbox)
      have G9 := am (bs hg (YA HB))
      have G10 := am (bs hg (YA HB))
      obtain ⟨N31,N32⟩ := ne_ hg K1
      obtain ⟨N33,N34⟩ := ne_ hg K2
      obtain ⟨N35,N36⟩ := ne_ hg K3
      obtain ⟨N37,N38⟩ := ne_ hg K4
      obtain ⟨N39,N40⟩ := ne_ hg K5
      obtain ⟨N41,N42⟩ := ne_ hg K6
      obtain ⟨K1, K2, K3, K4, K5, K6, HB⟩ := bk6 K1 K2 K3 K4 K5 K6 HB hb
      clear hb hbox hg
      refine kk hK ⟨bc K5 0, bc K5 1, bc K1 0, bc K1 1, bc K1 2, bc K1 3, bc K6 0, bc K6 1, bc K2 0, bc K2 1, bc K2 2, bc K2 3⟩ fun hHeld => ?_
      clear hK K
      exact norm_ nz (hJ2_3_8 (g7) _ ⟨hHeld, (Z K1), (Z K2), (Z K3), (Z K4), (Z K5), (Z K6), (Z K7), G9.out, G10.out, N31.out, N32.out, N33.out, N34.out, N35.out, N36.out, N37.out, N38.out, N39.out, N40.out, N41.out, N42.out, (YA HB)⟩)
     skip
     refine box_step ?hg (N := 11) ?hd (cs := #[.int .i64 0, .int .i64 0, .int .i64 0, .int .i64 0]) (t := 24) ?hr ?_; (case hd => rfl); (case hg => rfl); (case hr => first | (go_simp; done) | (go_simp; rfl))
     intro g7 hg w11 hbox hb
     have K7 := am (hbox)
     have G9 := am (bs hg (YA HB))
     have G10 := am (bs hg (YA HB))
     obtain ⟨N31,N32⟩ := ne_ hg K1
     obtain ⟨N33,N34⟩ := ne_ hg K2
     obtain ⟨N35,N36⟩ := ne_ hg K3
     obtain ⟨N37,N38⟩ := ne_ hg K4
     obtain ⟨N39,N40⟩ := ne_ hg K5
     obtain ⟨N41,N42⟩ := ne_ hg K6
     obtain ⟨K1, K2, K3, K4, K5, K6, HB⟩ := bk6 K1 K2 K3 K4 K5 K6 HB hb
     clear hb hbox hg
     refine kk hK ⟨bc K5 0, bc K5 1, bc K1 0, bc K1 1, bc K1 2, bc K1 3, bc K6 0, bc K6 1, bc K2 0, bc K2 1, bc K2 2, bc K2 3⟩ fun hHeld => ?_
     clear hK K
     exact norm_ nz (hJ2_3_9 (g7) _ ⟨hHeld, (Z K1), (Z K2), (Z K3), (Z K4), (Z K5), (Z K6), (Z K7), G9.out, G10.out, N31.out, N32.out, N33.out, N34.out, N35.out, N36.out, N37.out, N38.out, N39.out, N40.out, N41.out, N42.out, (YA HB)⟩)
    intro hJ2_3
    refine join_ (σ := Nat) 6 (lb 12 311) (fun s_ => [(41, .agg #[.int .i64 t13, .int .i64 t14]), (10, .pointer (some ⟨s_, 0, none⟩))]) (fun s_ w' => (w'.cell? ⟨g5, 0, none⟩ = some (.int .i64 t9) ∧ w'.cell? ⟨g5, 1, none⟩ = some (.int .i64 t10) ∧ w'.cell? ⟨g1, 0, none⟩ = some (.int .i64 a1_0) ∧ w'.cell? ⟨g1, 1, none⟩ = some (.int .i64 a1_1) ∧ w'.cell? ⟨g1, 2, none⟩ = some (.int .i64 a1_2) ∧ w'.cell? ⟨g1, 3, none⟩ = some (.int .i64 a1_3) ∧ w'.cell? ⟨g6, 0, none⟩ = some (.int .i64 t11) ∧ w'.cell? ⟨g6, 1, none⟩ = some (.int .i64 t12) ∧ w'.cell? ⟨g2, 0, none⟩ = some (.int .i64 a2_0) ∧ w'.cell? ⟨g2, 1, none⟩ = some (.int .i64 a2_1) ∧ w'.cell? ⟨g2, 2, none⟩ = some (.int .i64 a2_2) ∧ w'.cell? ⟨g2, 3, none⟩ = some (.int .i64 a2_3)) ∧ (w'.heap[g1]? = some (.cells #[.int .i64 a1_0, .int .i64 a1_1, .int .i64 a1_2, .int .i64 a1_3] 24 (0, 0))) ∧ (w'.heap[g2]? = some (.cells #[.int .i64 a2_0, .int .i64 a2_1, .int .i64 a2_2, .int .i64 a2_3] 24 (0, 0))) ∧ (w'.heap[g3]? = some (.cells #[.int .i64 0, .int .i64 0, .int .i64 0, .int .i64 0] 24 (0, 0))) ∧ (w'.heap[g4]? = some (.cells #[.int .i64 0, .int .i64 0, .int .i64 0, .int .i64 0] 24 (0, 0))) ∧ (w'.heap[g5]? = some (.cells #[.int .i64 t9, .int .i64 t10] 33 (0, 0))) ∧ (w'.heap[g6]? = some (.cells #[.int .i64 t11, .int .i64 t12] 33 (0, 0))) ∧ (w'.heap[s_]? = some (.cells #[.int .i64 0, .int .i64 0, .int .i64 0, .int .i64 0] 24 (0, 0))) ∧ (w.heap.size ≤ s_) ∧ (w.heap.size ≤ s_) ∧ (g1 ≠ s_) ∧ (s_ ≠ g1) ∧ (g2 ≠ s_) ∧ (s_ ≠ g2) ∧ (g3 ≠ s_) ∧ (s_ ≠ g3) ∧ (g4 ≠ s_) ∧ (s_ ≠ g4) ∧ (g5 ≠ s_) ∧ (s_ ≠ g5) ∧ (g6 ≠ s_) ∧ (s_ ≠ g6) ∧ (Below w.heap.size w w')) ?_ ?_
    rotate_left
    rotate_left
    ·skip
     rintro g7 w10 ⟨hS_, h0_, h1_, h2_, h3_, h4_, h5_, h6_, h7_, h8_, h9_, h10_, h11_, h12_, h13_, h14_, h15_, h16_, h17_, h18_, h19_, h20_, h21_⟩
     have K7 : Bx4 w10 g7 0 0 0 0 24 := ⟨h6_⟩
     have G9 : Aside0 (w.heap.size ≤ g7) := ⟨h7_⟩
     have G10 : Aside0 (w.heap.size ≤ g7) := ⟨h8_⟩
     have N31 : Aside0 (g1 ≠ g7) := ⟨h9_⟩
     have N32 : Aside0 (g7 ≠ g1) := ⟨h10_⟩
     have N33 : Aside0 (g2 ≠ g7) := ⟨h11_⟩
     have N34 : Aside0 (g7 ≠ g2) := ⟨h12_⟩
     have N35 : Aside0 (g3 ≠ g7) := ⟨h13_⟩
     have N36 : Aside0 (g7 ≠ g3) := ⟨h14_⟩
     have N37 : Aside0 (g4 ≠ g7) := ⟨h15_⟩
     have N38 : Aside0 (g7 ≠ g4) := ⟨h16_⟩
     have N39 : Aside0 (g5 ≠ g7) := ⟨h17_⟩
     have N40 : Aside0 (g7 ≠ g5) := ⟨h18_⟩
     have N41 : Aside0 (g6 ≠ g7) := ⟨h19_⟩
     have N42 : Aside0 (g7 ≠ g6) := ⟨h20_⟩
     replace K1 : Bx4 w10 g1 a1_0 a1_1 a1_2 a1_3 24 := ⟨h0_⟩
     replace K2 : Bx4 w10 g2 a2_0 a2_1 a2_2 a2_3 24 := ⟨h1_⟩
     replace K3 : Bx4 w10 g3 0 0 0 0 24 := ⟨h2_⟩
     replace K4 : Bx4 w10 g4 0 0 0 0 24 := ⟨h3_⟩
     replace K5 : Bx2 w10 g5 t9 t10 33 := ⟨h4_⟩
     replace K6 : Bx2 w10 g6 t11 t12 33 := ⟨h5_⟩
     replace HB : Aside0 (Below w.heap.size w w10) := ⟨h21_⟩
     clear h0_ h1_ h2_ h3_ h4_ h5_ h6_ h7_ h8_ h9_ h10_ h11_ h12_ h13_ h14_ h15_ h16_ h17_ h18_ h19_ h20_ h21_
     have hHeld : w10.cell? ⟨g5, 0, none⟩ = some (.int .i64 t9) ∧ w10.cell? ⟨g5, 1, none⟩ = some (.int .i64 t10) ∧ w10.cell? ⟨g1, 0, none⟩ = some (.int .i64 a1_0) ∧ w10.cell? ⟨g1, 1, none⟩ = some (.int .i64 a1_1) ∧ w10.cell? ⟨g1, 2, none⟩ = some (.int .i64 a1_2) ∧ w10.cell? ⟨g1, 3, none⟩ = some (.int .i64 a1_3) ∧ w10.cell? ⟨g6, 0, none⟩ = some (.int .i64 t11) ∧ w10.cell? ⟨g6, 1, none⟩ = some (.int .i64 t12) ∧ w10.cell? ⟨g2, 0, none⟩ = some (.int .i64 a2_0) ∧ w10.cell? ⟨g2, 1, none⟩ = some (.int .i64 a2_1) ∧ w10.cell? ⟨g2, 2, none⟩ = some (.int .i64 a2_2) ∧ w10.cell? ⟨g2, 3, none⟩ = some (.int .i64 a2_3) := hS_
     refine norm_ (a' := ?_) ?_ ?_
     rotate_left
     ·simp only [putAll, Act.put, List.setIfInBounds_toArray, List.set_cons_zero, List.set_cons_succ]
      rfl
     refine two_ (i := 3) (j := 9) (Ni := some 42) (Nj := some 11) (lb 12 319) (lb 12 823) rfl rfl rfl rfl (two_of HT_.out (by kernel_rfl)) (by decide) (by decide) (fun K hK => ?_) (fun K hK => ?_)
     ·skip
      refine ck7 hK Try.func20 (impl_ValMake.calls _ _ _ _ _ _ _ _ _ _ A5.out) K1 K2 K3 K4 K5 K6 K7 HB fun w11 K1 K2 K3 K4 K5 K6 K7 HB hHeld => ?_
      clear hK K
      exact norm_ nz (hJ2_3_8 (g7) _ ⟨hHeld, (Z K1), (Z K2), (Z K3), (Z K4), (Z K5), (Z K6), (Z K7), G9.out, G10.out, N31.out, N32.out, N33.out, N34.out, N35.out, N36.out, N37.out, N38.out, N39.out, N40.out, N41.out, N42.out, (YA HB)⟩)
     skip
     refine box_step ?hg (N := 11) ?hd (cs := #[.int .i64 0, .int .i64 0, .int .i64 0, .int .i64 0]) (t := 24) ?hr ?_; (case hd => rfl); (case hg => rfl); (case hr => first | (go_simp; done) | (go_simp; rfl))
     intro g8 hg w11 hbox hb
     have K8 := am (hbox)
     have G11 := am (bs hg (YA HB))
     have G12 := am (bs hg (YA HB))
     obtain ⟨N43,N44⟩ := ne_ hg K1
     obtain ⟨N45,N46⟩ := ne_ hg K2
     obtain ⟨N47,N48⟩ := ne_ hg K3
     obtain ⟨N49,N50⟩ := ne_ hg K4
     obtain ⟨N51,N52⟩ := ne_ hg K5
     obtain ⟨N53,N54⟩ := ne_ hg K6
     obtain ⟨N55,N56⟩ := ne_ hg K7
     obtain ⟨K1, K2, K3, K4, K5, K6, K7, HB⟩ := bk7 K1 K2 K3 K4 K5 K6 K7 HB hb
     clear hb hbox hg
     refine kk hK ⟨bc K5 0, bc K5 1, bc K1 0, bc K1 1, bc K1 2, bc K1 3, bc K6 0, bc K6 1, bc K2 0, bc K2 1, bc K2 2, bc K2 3⟩ fun hHeld => ?_
     clear hK K
     exact norm_ nz (hJ2_8_9 (g7, g8) _ ⟨hHeld, (Z K1), (Z K2), (Z K3), (Z K4), (Z K5), (Z K6), (Z K7), (Z K8), G9.out, G10.out, N31.out, N32.out, N33.out, N34.out, N35.out, N36.out, N37.out, N38.out, N39.out, N40.out, N41.out, N42.out, N56.out, N55.out, G11.out, G12.out, N43.out, N44.out, N45.out, N46.out, N47.out, N48.out, N49.out, N50.out, N51.out, N52.out, N53.out, N54.out, (YA HB)⟩)
    intro hJ2_8
    refine join_ (σ := Nat) 6 (lb 12 567) (fun s_ => [(41, .agg #[.int .i64 t13, .int .i64 t14]), (11, .pointer (some ⟨s_, 0, none⟩))]) (fun s_ w' => (w'.cell? ⟨g5, 0, none⟩ = some (.int .i64 t9) ∧ w'.cell? ⟨g5, 1, none⟩ = some (.int .i64 t10) ∧ w'.cell? ⟨g1, 0, none⟩ = some (.int .i64 a1_0) ∧ w'.cell? ⟨g1, 1, none⟩ = some (.int .i64 a1_1) ∧ w'.cell? ⟨g1, 2, none⟩ = some (.int .i64 a1_2) ∧ w'.cell? ⟨g1, 3, none⟩ = some (.int .i64 a1_3) ∧ w'.cell? ⟨g6, 0, none⟩ = some (.int .i64 t11) ∧ w'.cell? ⟨g6, 1, none⟩ = some (.int .i64 t12) ∧ w'.cell? ⟨g2, 0, none⟩ = some (.int .i64 a2_0) ∧ w'.cell? ⟨g2, 1, none⟩ = some (.int .i64 a2_1) ∧ w'.cell? ⟨g2, 2, none⟩ = some (.int .i64 a2_2) ∧ w'.cell? ⟨g2, 3, none⟩ = some (.int .i64 a2_3)) ∧ (w'.heap[g1]? = some (.cells #[.int .i64 a1_0, .int .i64 a1_1, .int .i64 a1_2, .int .i64 a1_3] 24 (0, 0))) ∧ (w'.heap[g2]? = some (.cells #[.int .i64 a2_0, .int .i64 a2_1, .int .i64 a2_2, .int .i64 a2_3] 24 (0, 0))) ∧ (w'.heap[g3]? = some (.cells #[.int .i64 0, .int .i64 0, .int .i64 0, .int .i64 0] 24 (0, 0))) ∧ (w'.heap[g4]? = some (.cells #[.int .i64 0, .int .i64 0, .int .i64 0, .int .i64 0] 24 (0, 0))) ∧ (w'.heap[g5]? = some (.cells #[.int .i64 t9, .int .i64 t10] 33 (0, 0))) ∧ (w'.heap[g6]? = some (.cells #[.int .i64 t11, .int .i64 t12] 33 (0, 0))) ∧ (w'.heap[s_]? = some (.cells #[.int .i64 0, .int .i64 0, .int .i64 0, .int .i64 0] 24 (0, 0))) ∧ (w.heap.size ≤ s_) ∧ (w.heap.size ≤ s_) ∧ (g1 ≠ s_) ∧ (s_ ≠ g1) ∧ (g2 ≠ s_) ∧ (s_ ≠ g2) ∧ (g3 ≠ s_) ∧ (s_ ≠ g3) ∧ (g4 ≠ s_) ∧ (s_ ≠ g4) ∧ (g5 ≠ s_) ∧ (s_ ≠ g5) ∧ (g6 ≠ s_) ∧ (s_ ≠ g6) ∧ (Below w.heap.size w w')) ?_ ?_
    rotate_left
    rotate_left
    ·skip
     rintro g7 w10 ⟨hS_, h0_, h1_, h2_, h3_, h4_, h5_, h6_, h7_, h8_, h9_, h10_, h11_, h12_, h13_, h14_, h15_, h16_, h17_, h18_, h19_, h20_, h21_⟩
     have K7 : Bx4 w10 g7 0 0 0 0 24 := ⟨h6_⟩
     have G9 : Aside0 (w.heap.size ≤ g7) := ⟨h7_⟩
     have G10 : Aside0 (w.heap.size ≤ g7) := ⟨h8_⟩
     have N31 : Aside0 (g1 ≠ g7) := ⟨h9_⟩
     have N32 : Aside0 (g7 ≠ g1) := ⟨h10_⟩
     have N33 : Aside0 (g2 ≠ g7) := ⟨h11_⟩
     have N34 : Aside0 (g7 ≠ g2) := ⟨h12_⟩
     have N35 : Aside0 (g3 ≠ g7) := ⟨h13_⟩
     have N36 : Aside0 (g7 ≠ g3) := ⟨h14_⟩
     have N37 : Aside0 (g4 ≠ g7) := ⟨h15_⟩
     have N38 : Aside0 (g7 ≠ g4) := ⟨h16_⟩
     have N39 : Aside0 (g5 ≠ g7) := ⟨h17_⟩
     have N40 : Aside0 (g7 ≠ g5) := ⟨h18_⟩
     have N41 : Aside0 (g6 ≠ g7) := ⟨h19_⟩
     have N42 : Aside0 (g7 ≠ g6) := ⟨h20_⟩
     replace K1 : Bx4 w10 g1 a1_0 a1_1 a1_2 a1_3 24 := ⟨h0_⟩
     replace K2 : Bx4 w10 g2 a2_0 a2_1 a2_2 a2_3 24 := ⟨h1_⟩
     replace K3 : Bx4 w10 g3 0 0 0 0 24 := ⟨h2_⟩
     replace K4 : Bx4 w10 g4 0 0 0 0 24 := ⟨h3_⟩
     replace K5 : Bx2 w10 g5 t9 t10 33 := ⟨h4_⟩
     replace K6 : Bx2 w10 g6 t11 t12 33 := ⟨h5_⟩
     replace HB : Aside0 (Below w.heap.size w w10) := ⟨h21_⟩
     clear h0_ h1_ h2_ h3_ h4_ h5_ h6_ h7_ h8_ h9_ h10_ h11_ h12_ h13_ h14_ h15_ h16_ h17_ h18_ h19_ h20_ h21_
     have hHeld : w10.cell? ⟨g5, 0, none⟩ = some (.int .i64 t9) ∧ w10.cell? ⟨g5, 1, none⟩ = some (.int .i64 t10) ∧ w10.cell? ⟨g1, 0, none⟩ = some (.int .i64 a1_0) ∧ w10.cell? ⟨g1, 1, none⟩ = some (.int .i64 a1_1) ∧ w10.cell? ⟨g1, 2, none⟩ = some (.int .i64 a1_2) ∧ w10.cell? ⟨g1, 3, none⟩ = some (.int .i64 a1_3) ∧ w10.cell? ⟨g6, 0, none⟩ = some (.int .i64 t11) ∧ w10.cell? ⟨g6, 1, none⟩ = some (.int .i64 t12) ∧ w10.cell? ⟨g2, 0, none⟩ = some (.int .i64 a2_0) ∧ w10.cell? ⟨g2, 1, none⟩ = some (.int .i64 a2_1) ∧ w10.cell? ⟨g2, 2, none⟩ = some (.int .i64 a2_2) ∧ w10.cell? ⟨g2, 3, none⟩ = some (.int .i64 a2_3) := hS_
     refine norm_ (a' := ?_) ?_ ?_
     rotate_left
     ·simp only [putAll, Act.put, List.setIfInBounds_toArray, List.set_cons_zero, List.set_cons_succ]
      rfl
     refine two_ (i := 3) (j := 8) (Ni := some 42) (Nj := some 10) (lb 12 575) (lb 12 823) rfl rfl rfl rfl (two_of HT_.out (by kernel_rfl)) (by decide) (by decide) (fun K hK => ?_) (fun K hK => ?_)
     ·skip
      refine ck7 hK Try.func20 (impl_ValMake.calls _ _ _ _ _ _ _ _ _ _ A5.out) K1 K2 K3 K4 K5 K6 K7 HB fun w11 K1 K2 K3 K4 K5 K6 K7 HB hHeld => ?_
      clear hK K
      exact norm_ nz (hJ2_3_9 (g7) _ ⟨hHeld, (Z K1), (Z K2), (Z K3), (Z K4), (Z K5), (Z K6), (Z K7), G9.out, G10.out, N31.out, N32.out, N33.out, N34.out, N35.out, N36.out, N37.out, N38.out, N39.out, N40.out, N41.out, N42.out, (YA HB)⟩)
     skip
     refine box_step ?hg (N := 10) ?hd (cs := #[.int .i64 0, .int .i64 0, .int .i64 0, .int .i64 0]) (t := 24) ?hr ?_; (case hd => rfl); (case hg => rfl); (case hr => first | (go_simp; done) | (go_simp; rfl))
     intro g8 hg w11 hbox hb
     have K8 := am (hbox)
     have G11 := am (bs hg (YA HB))
     have G12 := am (bs hg (YA HB))
     obtain ⟨N43,N44⟩ := ne_ hg K1
     obtain ⟨N45,N46⟩ := ne_ hg K2
     obtain ⟨N47,N48⟩ := ne_ hg K3
     obtain ⟨N49,N50⟩ := ne_ hg K4
     obtain ⟨N51,N52⟩ := ne_ hg K5
     obtain ⟨N53,N54⟩ := ne_ hg K6
     obtain ⟨N55,N56⟩ := ne_ hg K7
     obtain ⟨K1, K2, K3, K4, K5, K6, K7, HB⟩ := bk7 K1 K2 K3 K4 K5 K6 K7 HB hb
     clear hb hbox hg
     refine kk hK ⟨bc K5 0, bc K5 1, bc K1 0, bc K1 1, bc K1 2, bc K1 3, bc K6 0, bc K6 1, bc K2 0, bc K2 1, bc K2 2, bc K2 3⟩ fun hHeld => ?_
     clear hK K
     exact norm_ nz (hJ2_8_9 (g8, g7) _ ⟨hHeld, (Z K1), (Z K2), (Z K3), (Z K4), (Z K5), (Z K6), (Z K8), (Z K7), G11.out, G12.out, N43.out, N44.out, N45.out, N46.out, N47.out, N48.out, N49.out, N50.out, N51.out, N52.out, N53.out, N54.out, N55.out, N56.out, G9.out, G10.out, N31.out, N32.out, N33.out, N34.out, N35.out, N36.out, N37.out, N38.out, N39.out, N40.out, N41.out, N42.out, (YA HB)⟩)
    intro hJ2_9
    refine join_ (σ := Nat × Nat) 6 (lb 12 819) (fun s_ => [(10, .pointer (some ⟨s_.1, 0, none⟩)), (11, .pointer (some ⟨s_.2, 0, none⟩))]) (fun s_ w' => (w'.cell? ⟨g5, 0, none⟩ = some (.int .i64 t9) ∧ w'.cell? ⟨g5, 1, none⟩ = some (.int .i64 t10) ∧ w'.cell? ⟨g1, 0, none⟩ = some (.int .i64 a1_0) ∧ w'.cell? ⟨g1, 1, none⟩ = some (.int .i64 a1_1) ∧ w'.cell? ⟨g1, 2, none⟩ = some (.int .i64 a1_2) ∧ w'.cell? ⟨g1, 3, none⟩ = some (.int .i64 a1_3) ∧ w'.cell? ⟨g6, 0, none⟩ = some (.int .i64 t11) ∧ w'.cell? ⟨g6, 1, none⟩ = some (.int .i64 t12) ∧ w'.cell? ⟨g2, 0, none⟩ = some (.int .i64 a2_0) ∧ w'.cell? ⟨g2, 1, none⟩ = some (.int .i64 a2_1) ∧ w'.cell? ⟨g2, 2, none⟩ = some (.int .i64 a2_2) ∧ w'.cell? ⟨g2, 3, none⟩ = some (.int .i64 a2_3)) ∧ (w'.heap[g1]? = some (.cells #[.int .i64 a1_0, .int .i64 a1_1, .int .i64 a1_2, .int .i64 a1_3] 24 (0, 0))) ∧ (w'.heap[g2]? = some (.cells #[.int .i64 a2_0, .int .i64 a2_1, .int .i64 a2_2, .int .i64 a2_3] 24 (0, 0))) ∧ (w'.heap[g3]? = some (.cells #[.int .i64 0, .int .i64 0, .int .i64 0, .int .i64 0] 24 (0, 0))) ∧ (w'.heap[g4]? = some (.cells #[.int .i64 0, .int .i64 0, .int .i64 0, .int .i64 0] 24 (0, 0))) ∧ (w'.heap[g5]? = some (.cells #[.int .i64 t9, .int .i64 t10] 33 (0, 0))) ∧ (w'.heap[g6]? = some (.cells #[.int .i64 t11, .int .i64 t12] 33 (0, 0))) ∧ (w'.heap[s_.1]? = some (.cells #[.int .i64 0, .int .i64 0, .int .i64 0, .int .i64 0] 24 (0, 0))) ∧ (w'.heap[s_.2]? = some (.cells #[.int .i64 0, .int .i64 0, .int .i64 0, .int .i64 0] 24 (0, 0))) ∧ (w.heap.size ≤ s_.1) ∧ (w.heap.size ≤ s_.1) ∧ (g1 ≠ s_.1) ∧ (s_.1 ≠ g1) ∧ (g2 ≠ s_.1) ∧ (s_.1 ≠ g2) ∧ (g3 ≠ s_.1) ∧ (s_.1 ≠ g3) ∧ (g4 ≠ s_.1) ∧ (s_.1 ≠ g4) ∧ (g5 ≠ s_.1) ∧ (s_.1 ≠ g5) ∧ (g6 ≠ s_.1) ∧ (s_.1 ≠ g6) ∧ (s_.2 ≠ s_.1) ∧ (s_.1 ≠ s_.2) ∧ (w.heap.size ≤ s_.2) ∧ (w.heap.size ≤ s_.2) ∧ (g1 ≠ s_.2) ∧ (s_.2 ≠ g1) ∧ (g2 ≠ s_.2) ∧ (s_.2 ≠ g2) ∧ (g3 ≠ s_.2) ∧ (s_.2 ≠ g3) ∧ (g4 ≠ s_.2) ∧ (s_.2 ≠ g4) ∧ (g5 ≠ s_.2) ∧ (s_.2 ≠ g5) ∧ (g6 ≠ s_.2) ∧ (s_.2 ≠ g6) ∧ (Below w.heap.size w w')) ?_ ?_
    rotate_left
    rotate_left
    ·skip
     rintro ⟨g7, g8⟩ w10 ⟨hS_, h0_, h1_, h2_, h3_, h4_, h5_, h6_, h7_, h8_, h9_, h10_, h11_, h12_, h13_, h14_, h15_, h16_, h17_, h18_, h19_, h20_, h21_, h22_, h23_, h24_, h25_, h26_, h27_, h28_, h29_, h30_, h31_, h32_, h33_, h34_, h35_, h36_, h37_, h38_⟩
     have K7 : Bx4 w10 g7 0 0 0 0 24 := ⟨h6_⟩
     have K8 : Bx4 w10 g8 0 0 0 0 24 := ⟨h7_⟩
     have G9 : Aside0 (w.heap.size ≤ g7) := ⟨h8_⟩
     have G10 : Aside0 (w.heap.size ≤ g7) := ⟨h9_⟩
     have N31 : Aside0 (g1 ≠ g7) := ⟨h10_⟩
     have N32 : Aside0 (g7 ≠ g1) := ⟨h11_⟩
     have N33 : Aside0 (g2 ≠ g7) := ⟨h12_⟩
     have N34 : Aside0 (g7 ≠ g2) := ⟨h13_⟩
     have N35 : Aside0 (g3 ≠ g7) := ⟨h14_⟩
     have N36 : Aside0 (g7 ≠ g3) := ⟨h15_⟩
     have N37 : Aside0 (g4 ≠ g7) := ⟨h16_⟩
     have N38 : Aside0 (g7 ≠ g4) := ⟨h17_⟩
     have N39 : Aside0 (g5 ≠ g7) := ⟨h18_⟩
     have N40 : Aside0 (g7 ≠ g5) := ⟨h19_⟩
     have N41 : Aside0 (g6 ≠ g7) := ⟨h20_⟩
     have N42 : Aside0 (g7 ≠ g6) := ⟨h21_⟩
     have N43 : Aside0 (g8 ≠ g7) := ⟨h22_⟩
     have N44 : Aside0 (g7 ≠ g8) := ⟨h23_⟩
     have G11 : Aside0 (w.heap.size ≤ g8) := ⟨h24_⟩
     have G12 : Aside0 (w.heap.size ≤ g8) := ⟨h25_⟩
     have N45 : Aside0 (g1 ≠ g8) := ⟨h26_⟩
     have N46 : Aside0 (g8 ≠ g1) := ⟨h27_⟩
     have N47 : Aside0 (g2 ≠ g8) := ⟨h28_⟩
     have N48 : Aside0 (g8 ≠ g2) := ⟨h29_⟩
     have N49 : Aside0 (g3 ≠ g8) := ⟨h30_⟩
     have N50 : Aside0 (g8 ≠ g3) := ⟨h31_⟩
     have N51 : Aside0 (g4 ≠ g8) := ⟨h32_⟩
     have N52 : Aside0 (g8 ≠ g4) := ⟨h33_⟩
     have N53 : Aside0 (g5 ≠ g8) := ⟨h34_⟩
     have N54 : Aside0 (g8 ≠ g5) := ⟨h35_⟩
     have N55 : Aside0 (g6 ≠ g8) := ⟨h36_⟩
     have N56 : Aside0 (g8 ≠ g6) := ⟨h37_⟩
     replace K1 : Bx4 w10 g1 a1_0 a1_1 a1_2 a1_3 24 := ⟨h0_⟩
     replace K2 : Bx4 w10 g2 a2_0 a2_1 a2_2 a2_3 24 := ⟨h1_⟩
     replace K3 : Bx4 w10 g3 0 0 0 0 24 := ⟨h2_⟩
     replace K4 : Bx4 w10 g4 0 0 0 0 24 := ⟨h3_⟩
     replace K5 : Bx2 w10 g5 t9 t10 33 := ⟨h4_⟩
     replace K6 : Bx2 w10 g6 t11 t12 33 := ⟨h5_⟩
     replace HB : Aside0 (Below w.heap.size w w10) := ⟨h38_⟩
     clear h0_ h1_ h2_ h3_ h4_ h5_ h6_ h7_ h8_ h9_ h10_ h11_ h12_ h13_ h14_ h15_ h16_ h17_ h18_ h19_ h20_ h21_ h22_ h23_ h24_ h25_ h26_ h27_ h28_ h29_ h30_ h31_ h32_ h33_ h34_ h35_ h36_ h37_ h38_
     have hHeld : w10.cell? ⟨g5, 0, none⟩ = some (.int .i64 t9) ∧ w10.cell? ⟨g5, 1, none⟩ = some (.int .i64 t10) ∧ w10.cell? ⟨g1, 0, none⟩ = some (.int .i64 a1_0) ∧ w10.cell? ⟨g1, 1, none⟩ = some (.int .i64 a1_1) ∧ w10.cell? ⟨g1, 2, none⟩ = some (.int .i64 a1_2) ∧ w10.cell? ⟨g1, 3, none⟩ = some (.int .i64 a1_3) ∧ w10.cell? ⟨g6, 0, none⟩ = some (.int .i64 t11) ∧ w10.cell? ⟨g6, 1, none⟩ = some (.int .i64 t12) ∧ w10.cell? ⟨g2, 0, none⟩ = some (.int .i64 a2_0) ∧ w10.cell? ⟨g2, 1, none⟩ = some (.int .i64 a2_1) ∧ w10.cell? ⟨g2, 2, none⟩ = some (.int .i64 a2_2) ∧ w10.cell? ⟨g2, 3, none⟩ = some (.int .i64 a2_3) := hS_
     refine norm_ (a' := ?_) ?_ ?_
     rotate_left
     ·simp only [putAll, Act.put, List.setIfInBounds_toArray, List.set_cons_zero, List.set_cons_succ]
      rfl
     refine cl8 2 41 823 Try.func21 (impl_Val_rest.calls _ _ _ _ _ _ _ A4.out) K1 K2 K3 K4 K5 K6 K7 K8 HB fun w11 K1 K2 K3 K4 K5 K6 K7 K8 HB hHeld => ?_
     exact norm_ nz (hJ2_8_9 (g7, g8) _ ⟨hHeld, (Z K1), (Z K2), (Z K3), (Z K4), (Z K5), (Z K6), (Z K7), (Z K8), G9.out, G10.out, N31.out, N32.out, N33.out, N34.out, N35.out, N36.out, N37.out, N38.out, N39.out, N40.out, N41.out, N42.out, N43.out, N44.out, G11.out, G12.out, N45.out, N46.out, N47.out, N48.out, N49.out, N50.out, N51.out, N52.out, N53.out, N54.out, N55.out, N56.out, (YA HB)⟩)
    intro hJ8_9
    refine join_ (σ := Unit) 7 (lb 12 55) (fun s_ => [(41, .agg #[.int .i64 t13, .int .i64 t14])]) (fun s_ w' => (w'.cell? ⟨g5, 0, none⟩ = some (.int .i64 t9) ∧ w'.cell? ⟨g5, 1, none⟩ = some (.int .i64 t10) ∧ w'.cell? ⟨g1, 0, none⟩ = some (.int .i64 a1_0) ∧ w'.cell? ⟨g1, 1, none⟩ = some (.int .i64 a1_1) ∧ w'.cell? ⟨g1, 2, none⟩ = some (.int .i64 a1_2) ∧ w'.cell? ⟨g1, 3, none⟩ = some (.int .i64 a1_3) ∧ w'.cell? ⟨g6, 0, none⟩ = some (.int .i64 t11) ∧ w'.cell? ⟨g6, 1, none⟩ = some (.int .i64 t12) ∧ w'.cell? ⟨g2, 0, none⟩ = some (.int .i64 a2_0) ∧ w'.cell? ⟨g2, 1, none⟩ = some (.int .i64 a2_1) ∧ w'.cell? ⟨g2, 2, none⟩ = some (.int .i64 a2_2) ∧ w'.cell? ⟨g2, 3, none⟩ = some (.int .i64 a2_3)) ∧ (w'.heap[g1]? = some (.cells #[.int .i64 a1_0, .int .i64 a1_1, .int .i64 a1_2, .int .i64 a1_3] 24 (0, 0))) ∧ (w'.heap[g2]? = some (.cells #[.int .i64 a2_0, .int .i64 a2_1, .int .i64 a2_2, .int .i64 a2_3] 24 (0, 0))) ∧ (w'.heap[g3]? = some (.cells #[.int .i64 0, .int .i64 0, .int .i64 0, .int .i64 0] 24 (0, 0))) ∧ (w'.heap[g4]? = some (.cells #[.int .i64 0, .int .i64 0, .int .i64 0, .int .i64 0] 24 (0, 0))) ∧ (w'.heap[g5]? = some (.cells #[.int .i64 t9, .int .i64 t10] 33 (0, 0))) ∧ (w'.heap[g6]? = some (.cells #[.int .i64 t11, .int .i64 t12] 33 (0, 0))) ∧ (Below w.heap.size w w')) ?_ ?_
    rotate_left
    rotate_left
    ·skip
     rintro _ w10 ⟨hS_, h0_, h1_, h2_, h3_, h4_, h5_, h6_⟩
     replace K1 : Bx4 w10 g1 a1_0 a1_1 a1_2 a1_3 24 := ⟨h0_⟩
     replace K2 : Bx4 w10 g2 a2_0 a2_1 a2_2 a2_3 24 := ⟨h1_⟩
     replace K3 : Bx4 w10 g3 0 0 0 0 24 := ⟨h2_⟩
     replace K4 : Bx4 w10 g4 0 0 0 0 24 := ⟨h3_⟩
     replace K5 : Bx2 w10 g5 t9 t10 33 := ⟨h4_⟩
     replace K6 : Bx2 w10 g6 t11 t12 33 := ⟨h5_⟩
     replace HB : Aside0 (Below w.heap.size w w10) := ⟨h6_⟩
     clear h0_ h1_ h2_ h3_ h4_ h5_ h6_
     have hHeld : w10.cell? ⟨g5, 0, none⟩ = some (.int .i64 t9) ∧ w10.cell? ⟨g5, 1, none⟩ = some (.int .i64 t10) ∧ w10.cell? ⟨g1, 0, none⟩ = some (.int .i64 a1_0) ∧ w10.cell? ⟨g1, 1, none⟩ = some (.int .i64 a1_1) ∧ w10.cell? ⟨g1, 2, none⟩ = some (.int .i64 a1_2) ∧ w10.cell? ⟨g1, 3, none⟩ = some (.int .i64 a1_3) ∧ w10.cell? ⟨g6, 0, none⟩ = some (.int .i64 t11) ∧ w10.cell? ⟨g6, 1, none⟩ = some (.int .i64 t12) ∧ w10.cell? ⟨g2, 0, none⟩ = some (.int .i64 a2_0) ∧ w10.cell? ⟨g2, 1, none⟩ = some (.int .i64 a2_1) ∧ w10.cell? ⟨g2, 2, none⟩ = some (.int .i64 a2_2) ∧ w10.cell? ⟨g2, 3, none⟩ = some (.int .i64 a2_3) := hS_
     refine norm_ (a' := ?_) ?_ ?_
     rotate_left
     ·simp only [putAll, Act.put, List.setIfInBounds_toArray, List.set_cons_zero, List.set_cons_succ]
      rfl
     refine three_ (i := 3) (j := 8) (k := 9) (Ni := some 42) (Nj := some 10) (Nk := some 11) (lb 12 63) (lb 12 311) (lb 12 567) rfl rfl rfl rfl rfl rfl (three_of HT_.out (by kernel_rfl)) (by decide) (by decide) (by decide) (fun K hK => ?_) (fun K hK => ?_) (fun K hK => ?_)
     ·skip
      refine ck6 hK Try.func20 (impl_ValMake.calls _ _ _ _ _ _ _ _ _ _ A5.out) K1 K2 K3 K4 K5 K6 HB fun w11 K1 K2 K3 K4 K5 K6 HB hHeld => ?_
      clear hK K
      exact norm_ nz (hJ2_3 () _ ⟨hHeld, (Z K1), (Z K2), (Z K3), (Z K4), (Z K5), (Z K6), (YA HB)⟩)
     ·skip
      refine box_step ?hg (N := 10) ?hd (cs := #[.int .i64 0, .int .i64 0, .int .i64 0, .int .i64 0]) (t := 24) ?hr ?_; (case hd => rfl); (case hg => rfl); (case hr => first | (go_simp; done) | (go_simp; rfl))
      intro g7 hg w11 hbox hb
      have K7 := am (hbox)
      have G9 := am (bs hg (YA HB))
      have G10 := am (bs hg (YA HB))
      obtain ⟨N31,N32⟩ := ne_ hg K1
      obtain ⟨N33,N34⟩ := ne_ hg K2
      obtain ⟨N35,N36⟩ := ne_ hg K3
      obtain ⟨N37,N38⟩ := ne_ hg K4
      obtain ⟨N39,N40⟩ := ne_ hg K5
      obtain ⟨N41,N42⟩ := ne_ hg K6
      obtain ⟨K1, K2, K3, K4, K5, K6, HB⟩ := bk6 K1 K2 K3 K4 K5 K6 HB hb
      clear hb hbox hg
      refine kk hK ⟨bc K5 0, bc K5 1, bc K1 0, bc K1 1, bc K1 2, bc K1 3, bc K6 0, bc K6 1, bc K2 0, bc K2 1, bc K2 2, bc K2 3⟩ fun hHeld => ?_
      clear hK K
      exact norm_ nz (hJ2_8 (g7) _ ⟨hHeld, (Z K1), (Z K2), (Z K3), (Z K4), (Z K5), (Z K6), (Z K7), G9.out, G10.out, N31.out, N32.out, N33.out, N34.out, N35.out, N36.out, N37.out, N38.out, N39.out, N40.out, N41.out, N42.out, (YA HB)⟩)
     skip
     refine box_step ?hg (N := 11) ?hd (cs := #[.int .i64 0, .int .i64 0, .int .i64 0, .int .i64 0]) (t := 24) ?hr ?_; (case hd => rfl); (case hg => rfl); (case hr => first | (go_simp; done) | (go_simp; rfl))
     intro g7 hg w11 hbox hb
     have K7 := am (hbox)
     have G9 := am (bs hg (YA HB))
     have G10 := am (bs hg (YA HB))
     obtain ⟨N31,N32⟩ := ne_ hg K1
     obtain ⟨N33,N34⟩ := ne_ hg K2
     obtain ⟨N35,N36⟩ := ne_ hg K3
     obtain ⟨N37,N38⟩ := ne_ hg K4
     obtain ⟨N39,N40⟩ := ne_ hg K5
     obtain ⟨N41,N42⟩ := ne_ hg K6
     obtain ⟨K1, K2, K3, K4, K5, K6, HB⟩ := bk6 K1 K2 K3 K4 K5 K6 HB hb
     clear hb hbox hg
     refine kk hK ⟨bc K5 0, bc K5 1, bc K1 0, bc K1 1, bc K1 2, bc K1 3, bc K6 0, bc K6 1, bc K2 0, bc K2 1, bc K2 2, bc K2 3⟩ fun hHeld => ?_
     clear hK K
     exact norm_ nz (hJ2_9 (g7) _ ⟨hHeld, (Z K1), (Z K2), (Z K3), (Z K4), (Z K5), (Z K6), (Z K7), G9.out, G10.out, N31.out, N32.out, N33.out, N34.out, N35.out, N36.out, N37.out, N38.out, N39.out, N40.out, N41.out, N42.out, (YA HB)⟩)
    intro hJ2
    refine join_ (σ := Nat) 7 (lb 12 307) (fun s_ => [(10, .pointer (some ⟨s_, 0, none⟩))]) (fun s_ w' => (w'.cell? ⟨g5, 0, none⟩ = some (.int .i64 t9) ∧ w'.cell? ⟨g5, 1, none⟩ = some (.int .i64 t10) ∧ w'.cell? ⟨g1, 0, none⟩ = some (.int .i64 a1_0) ∧ w'.cell? ⟨g1, 1, none⟩ = some (.int .i64 a1_1) ∧ w'.cell? ⟨g1, 2, none⟩ = some (.int .i64 a1_2) ∧ w'.cell? ⟨g1, 3, none⟩ = some (.int .i64 a1_3) ∧ w'.cell? ⟨g6, 0, none⟩ = some (.int .i64 t11) ∧ w'.cell? ⟨g6, 1, none⟩ = some (.int .i64 t12) ∧ w'.cell? ⟨g2, 0, none⟩ = some (.int .i64 a2_0) ∧ w'.cell? ⟨g2, 1, none⟩ = some (.int .i64 a2_1) ∧ w'.cell? ⟨g2, 2, none⟩ = some (.int .i64 a2_2) ∧ w'.cell? ⟨g2, 3, none⟩ = some (.int .i64 a2_3)) ∧ (w'.heap[g1]? = some (.cells #[.int .i64 a1_0, .int .i64 a1_1, .int .i64 a1_2, .int .i64 a1_3] 24 (0, 0))) ∧ (w'.heap[g2]? = some (.cells #[.int .i64 a2_0, .int .i64 a2_1, .int .i64 a2_2, .int .i64 a2_3] 24 (0, 0))) ∧ (w'.heap[g3]? = some (.cells #[.int .i64 0, .int .i64 0, .int .i64 0, .int .i64 0] 24 (0, 0))) ∧ (w'.heap[g4]? = some (.cells #[.int .i64 0, .int .i64 0, .int .i64 0, .int .i64 0] 24 (0, 0))) ∧ (w'.heap[g5]? = some (.cells #[.int .i64 t9, .int .i64 t10] 33 (0, 0))) ∧ (w'.heap[g6]? = some (.cells #[.int .i64 t11, .int .i64 t12] 33 (0, 0))) ∧ (w'.heap[s_]? = some (.cells #[.int .i64 0, .int .i64 0, .int .i64 0, .int .i64 0] 24 (0, 0))) ∧ (w.heap.size ≤ s_) ∧ (w.heap.size ≤ s_) ∧ (g1 ≠ s_) ∧ (s_ ≠ g1) ∧ (g2 ≠ s_) ∧ (s_ ≠ g2) ∧ (g3 ≠ s_) ∧ (s_ ≠ g3) ∧ (g4 ≠ s_) ∧ (s_ ≠ g4) ∧ (g5 ≠ s_) ∧ (s_ ≠ g5) ∧ (g6 ≠ s_) ∧ (s_ ≠ g6) ∧ (Below w.heap.size w w')) ?_ ?_
    rotate_left
    rotate_left
    ·skip
     rintro g7 w10 ⟨hS_, h0_, h1_, h2_, h3_, h4_, h5_, h6_, h7_, h8_, h9_, h10_, h11_, h12_, h13_, h14_, h15_, h16_, h17_, h18_, h19_, h20_, h21_⟩
     have K7 : Bx4 w10 g7 0 0 0 0 24 := ⟨h6_⟩
     have G9 : Aside0 (w.heap.size ≤ g7) := ⟨h7_⟩
     have G10 : Aside0 (w.heap.size ≤ g7) := ⟨h8_⟩
     have N31 : Aside0 (g1 ≠ g7) := ⟨h9_⟩
     have N32 : Aside0 (g7 ≠ g1) := ⟨h10_⟩
     have N33 : Aside0 (g2 ≠ g7) := ⟨h11_⟩
     have N34 : Aside0 (g7 ≠ g2) := ⟨h12_⟩
     have N35 : Aside0 (g3 ≠ g7) := ⟨h13_⟩
     have N36 : Aside0 (g7 ≠ g3) := ⟨h14_⟩
     have N37 : Aside0 (g4 ≠ g7) := ⟨h15_⟩
     have N38 : Aside0 (g7 ≠ g4) := ⟨h16_⟩
     have N39 : Aside0 (g5 ≠ g7) := ⟨h17_⟩
     have N40 : Aside0 (g7 ≠ g5) := ⟨h18_⟩
     have N41 : Aside0 (g6 ≠ g7) := ⟨h19_⟩
     have N42 : Aside0 (g7 ≠ g6) := ⟨h20_⟩
     replace K1 : Bx4 w10 g1 a1_0 a1_1 a1_2 a1_3 24 := ⟨h0_⟩
     replace K2 : Bx4 w10 g2 a2_0 a2_1 a2_2 a2_3 24 := ⟨h1_⟩
     replace K3 : Bx4 w10 g3 0 0 0 0 24 := ⟨h2_⟩
     replace K4 : Bx4 w10 g4 0 0 0 0 24 := ⟨h3_⟩
     replace K5 : Bx2 w10 g5 t9 t10 33 := ⟨h4_⟩
     replace K6 : Bx2 w10 g6 t11 t12 33 := ⟨h5_⟩
     replace HB : Aside0 (Below w.heap.size w w10) := ⟨h21_⟩
     clear h0_ h1_ h2_ h3_ h4_ h5_ h6_ h7_ h8_ h9_ h10_ h11_ h12_ h13_ h14_ h15_ h16_ h17_ h18_ h19_ h20_ h21_
     have hHeld : w10.cell? ⟨g5, 0, none⟩ = some (.int .i64 t9) ∧ w10.cell? ⟨g5, 1, none⟩ = some (.int .i64 t10) ∧ w10.cell? ⟨g1, 0, none⟩ = some (.int .i64 a1_0) ∧ w10.cell? ⟨g1, 1, none⟩ = some (.int .i64 a1_1) ∧ w10.cell? ⟨g1, 2, none⟩ = some (.int .i64 a1_2) ∧ w10.cell? ⟨g1, 3, none⟩ = some (.int .i64 a1_3) ∧ w10.cell? ⟨g6, 0, none⟩ = some (.int .i64 t11) ∧ w10.cell? ⟨g6, 1, none⟩ = some (.int .i64 t12) ∧ w10.cell? ⟨g2, 0, none⟩ = some (.int .i64 a2_0) ∧ w10.cell? ⟨g2, 1, none⟩ = some (.int .i64 a2_1) ∧ w10.cell? ⟨g2, 2, none⟩ = some (.int .i64 a2_2) ∧ w10.cell? ⟨g2, 3, none⟩ = some (.int .i64 a2_3) := hS_
     refine norm_ (a' := ?_) ?_ ?_
     rotate_left
     ·simp only [putAll, Act.put, List.setIfInBounds_toArray, List.set_cons_zero, List.set_cons_succ]
      rfl
     refine two_ (i := 2) (j := 9) (Ni := some 41) (Nj := some 11) (lb 12 311) (lb 12 819) rfl rfl rfl rfl (two_of HT_.out (by kernel_rfl)) (by decide) (by decide) (fun K hK => ?_) (fun K hK => ?_)
     ·skip
      refine ck7 hK Try.func21 (impl_Val_rest.calls _ _ _ _ _ _ _ A4.out) K1 K2 K3 K4 K5 K6 K7 HB fun w11 K1 K2 K3 K4 K5 K6 K7 HB hHeld => ?_
      clear hK K
      exact norm_ nz (hJ2_8 (g7) _ ⟨hHeld, (Z K1), (Z K2), (Z K3), (Z K4), (Z K5), (Z K6), (Z K7), G9.out, G10.out, N31.out, N32.out, N33.out, N34.out, N35.out, N36.out, N37.out, N38.out, N39.out, N40.out, N41.out, N42.out, (YA HB)⟩)
     skip
     refine box_step ?hg (N := 11) ?hd (cs := #[.int .i64 0, .int .i64 0, .int .i64 0, .int .i64 0]) (t := 24) ?hr ?_; (case hd => rfl); (case hg => rfl); (case hr => first | (go_simp; done) | (go_simp; rfl))
     intro g8 hg w11 hbox hb
     have K8 := am (hbox)
     have G11 := am (bs hg (YA HB))
     have G12 := am (bs hg (YA HB))
     obtain ⟨N43,N44⟩ := ne_ hg K1
     obtain ⟨N45,N46⟩ := ne_ hg K2
     obtain ⟨N47,N48⟩ := ne_ hg K3
     obtain ⟨N49,N50⟩ := ne_ hg K4
     obtain ⟨N51,N52⟩ := ne_ hg K5
     obtain ⟨N53,N54⟩ := ne_ hg K6
     obtain ⟨N55,N56⟩ := ne_ hg K7
     obtain ⟨K1, K2, K3, K4, K5, K6, K7, HB⟩ := bk7 K1 K2 K3 K4 K5 K6 K7 HB hb
     clear hb hbox hg
     refine kk hK ⟨bc K5 0, bc K5 1, bc K1 0, bc K1 1, bc K1 2, bc K1 3, bc K6 0, bc K6 1, bc K2 0, bc K2 1, bc K2 2, bc K2 3⟩ fun hHeld => ?_
     clear hK K
     exact norm_ nz (hJ8_9 (g7, g8) _ ⟨hHeld, (Z K1), (Z K2), (Z K3), (Z K4), (Z K5), (Z K6), (Z K7), (Z K8), G9.out, G10.out, N31.out, N32.out, N33.out, N34.out, N35.out, N36.out, N37.out, N38.out, N39.out, N40.out, N41.out, N42.out, N56.out, N55.out, G11.out, G12.out, N43.out, N44.out, N45.out, N46.out, N47.out, N48.out, N49.out, N50.out, N51.out, N52.out, N53.out, N54.out, (YA HB)⟩)
    intro hJ8
    refine join_ (σ := Nat) 7 (lb 12 563) (fun s_ => [(11, .pointer (some ⟨s_, 0, none⟩))]) (fun s_ w' => (w'.cell? ⟨g5, 0, none⟩ = some (.int .i64 t9) ∧ w'.cell? ⟨g5, 1, none⟩ = some (.int .i64 t10) ∧ w'.cell? ⟨g1, 0, none⟩ = some (.int .i64 a1_0) ∧ w'.cell? ⟨g1, 1, none⟩ = some (.int .i64 a1_1) ∧ w'.cell? ⟨g1, 2, none⟩ = some (.int .i64 a1_2) ∧ w'.cell? ⟨g1, 3, none⟩ = some (.int .i64 a1_3) ∧ w'.cell? ⟨g6, 0, none⟩ = some (.int .i64 t11) ∧ w'.cell? ⟨g6, 1, none⟩ = some (.int .i64 t12) ∧ w'.cell? ⟨g2, 0, none⟩ = some (.int .i64 a2_0) ∧ w'.cell? ⟨g2, 1, none⟩ = some (.int .i64 a2_1) ∧ w'.cell? ⟨g2, 2, none⟩ = some (.int .i64 a2_2) ∧ w'.cell? ⟨g2, 3, none⟩ = some (.int .i64 a2_3)) ∧ (w'.heap[g1]? = some (.cells #[.int .i64 a1_0, .int .i64 a1_1, .int .i64 a1_2, .int .i64 a1_3] 24 (0, 0))) ∧ (w'.heap[g2]? = some (.cells #[.int .i64 a2_0, .int .i64 a2_1, .int .i64 a2_2, .int .i64 a2_3] 24 (0, 0))) ∧ (w'.heap[g3]? = some (.cells #[.int .i64 0, .int .i64 0, .int .i64 0, .int .i64 0] 24 (0, 0))) ∧ (w'.heap[g4]? = some (.cells #[.int .i64 0, .int .i64 0, .int .i64 0, .int .i64 0] 24 (0, 0))) ∧ (w'.heap[g5]? = some (.cells #[.int .i64 t9, .int .i64 t10] 33 (0, 0))) ∧ (w'.heap[g6]? = some (.cells #[.int .i64 t11, .int .i64 t12] 33 (0, 0))) ∧ (w'.heap[s_]? = some (.cells #[.int .i64 0, .int .i64 0, .int .i64 0, .int .i64 0] 24 (0, 0))) ∧ (w.heap.size ≤ s_) ∧ (w.heap.size ≤ s_) ∧ (g1 ≠ s_) ∧ (s_ ≠ g1) ∧ (g2 ≠ s_) ∧ (s_ ≠ g2) ∧ (g3 ≠ s_) ∧ (s_ ≠ g3) ∧ (g4 ≠ s_) ∧ (s_ ≠ g4) ∧ (g5 ≠ s_) ∧ (s_ ≠ g5) ∧ (g6 ≠ s_) ∧ (s_ ≠ g6) ∧ (Below w.heap.size w w')) ?_ ?_
    rotate_left
    ·intro hJ9
     refine three_ (i := 2) (j := 8) (k := 9) (Ni := some 41) (Nj := some 10) (Nk := some 11) (lb 12 55) (lb 12 307) (lb 12 563) rfl rfl rfl rfl rfl rfl (three_of HT_.out (by kernel_rfl)) (by decide) (by decide) (by decide) (fun K hK => ?_) (fun K hK => ?_) (fun K hK => ?_)
     ·skip
      refine ck6 hK Try.func21 (impl_Val_rest.calls _ _ _ _ _ _ _ A4.out) K1 K2 K3 K4 K5 K6 HB fun w10 K1 K2 K3 K4 K5 K6 HB hHeld => ?_
      clear hK K
      exact norm_ nz (hJ2 () _ ⟨hHeld, (Z K1), (Z K2), (Z K3), (Z K4), (Z K5), (Z K6), (YA HB)⟩)
     ·skip
      refine box_step ?hg (N := 10) ?hd (cs := #[.int .i64 0, .int .i64 0, .int .i64 0, .int .i64 0]) (t := 24) ?hr ?_; (case hd => rfl); (case hg => rfl); (case hr => first | (go_simp; done) | (go_simp; rfl))
      intro g7 hg w10 hbox hb
      have K7 := am (hbox)
      have G9 := am (bs hg (YA HB))
      have G10 := am (bs hg (YA HB))
      obtain ⟨N31,N32⟩ := ne_ hg K1
      obtain ⟨N33,N34⟩ := ne_ hg K2
      obtain ⟨N35,N36⟩ := ne_ hg K3
      obtain ⟨N37,N38⟩ := ne_ hg K4
      obtain ⟨N39,N40⟩ := ne_ hg K5
      obtain ⟨N41,N42⟩ := ne_ hg K6
      obtain ⟨K1, K2, K3, K4, K5, K6, HB⟩ := bk6 K1 K2 K3 K4 K5 K6 HB hb
      clear hb hbox hg
      refine kk hK ⟨bc K5 0, bc K5 1, bc K1 0, bc K1 1, bc K1 2, bc K1 3, bc K6 0, bc K6 1, bc K2 0, bc K2 1, bc K2 2, bc K2 3⟩ fun hHeld => ?_
      clear hK K
      exact norm_ nz (hJ8 (g7) _ ⟨hHeld, (Z K1), (Z K2), (Z K3), (Z K4), (Z K5), (Z K6), (Z K7), G9.out, G10.out, N31.out, N32.out, N33.out, N34.out, N35.out, N36.out, N37.out, N38.out, N39.out, N40.out, N41.out, N42.out, (YA HB)⟩)
     skip
     refine box_step ?hg (N := 11) ?hd (cs := #[.int .i64 0, .int .i64 0, .int .i64 0, .int .i64 0]) (t := 24) ?hr ?_; (case hd => rfl); (case hg => rfl); (case hr => first | (go_simp; done) | (go_simp; rfl))
     intro g7 hg w10 hbox hb
     have K7 := am (hbox)
     have G9 := am (bs hg (YA HB))
     have G10 := am (bs hg (YA HB))
     obtain ⟨N31,N32⟩ := ne_ hg K1
     obtain ⟨N33,N34⟩ := ne_ hg K2
     obtain ⟨N35,N36⟩ := ne_ hg K3
     obtain ⟨N37,N38⟩ := ne_ hg K4
     obtain ⟨N39,N40⟩ := ne_ hg K5
     obtain ⟨N41,N42⟩ := ne_ hg K6
     obtain ⟨K1, K2, K3, K4, K5, K6, HB⟩ := bk6 K1 K2 K3 K4 K5 K6 HB hb
     clear hb hbox hg
     refine kk hK ⟨bc K5 0, bc K5 1, bc K1 0, bc K1 1, bc K1 2, bc K1 3, bc K6 0, bc K6 1, bc K2 0, bc K2 1, bc K2 2, bc K2 3⟩ fun hHeld => ?_
     clear hK K
     exact norm_ nz (hJ9 (g7) _ ⟨hHeld, (Z K1), (Z K2), (Z K3), (Z K4), (Z K5), (Z K6), (Z K7), G9.out, G10.out, N31.out, N32.out, N33.out, N34.out, N35.out, N36.out, N37.out, N38.out, N39.out, N40.out, N41.out, N42.out, (YA HB)⟩)
    skip
    rintro g7 w10 ⟨hS_, h0_, h1_, h2_, h3_, h4_, h5_, h6_, h7_, h8_, h9_, h10_, h11_, h12_, h13_, h14_, h15_, h16_, h17_, h18_, h19_, h20_, h21_⟩
    have K7 : Bx4 w10 g7 0 0 0 0 24 := ⟨h6_⟩
    have G9 : Aside0 (w.heap.size ≤ g7) := ⟨h7_⟩
    have G10 : Aside0 (w.heap.size ≤ g7) := ⟨h8_⟩
    have N31 : Aside0 (g1 ≠ g7) := ⟨h9_⟩
    have N32 : Aside0 (g7 ≠ g1) := ⟨h10_⟩
    have N33 : Aside0 (g2 ≠ g7) := ⟨h11_⟩
    have N34 : Aside0 (g7 ≠ g2) := ⟨h12_⟩
    have N35 : Aside0 (g3 ≠ g7) := ⟨h13_⟩
    have N36 : Aside0 (g7 ≠ g3) := ⟨h14_⟩
    have N37 : Aside0 (g4 ≠ g7) := ⟨h15_⟩
    have N38 : Aside0 (g7 ≠ g4) := ⟨h16_⟩
    have N39 : Aside0 (g5 ≠ g7) := ⟨h17_⟩
    have N40 : Aside0 (g7 ≠ g5) := ⟨h18_⟩
    have N41 : Aside0 (g6 ≠ g7) := ⟨h19_⟩
    have N42 : Aside0 (g7 ≠ g6) := ⟨h20_⟩
    replace K1 : Bx4 w10 g1 a1_0 a1_1 a1_2 a1_3 24 := ⟨h0_⟩
    replace K2 : Bx4 w10 g2 a2_0 a2_1 a2_2 a2_3 24 := ⟨h1_⟩
    replace K3 : Bx4 w10 g3 0 0 0 0 24 := ⟨h2_⟩
    replace K4 : Bx4 w10 g4 0 0 0 0 24 := ⟨h3_⟩
    replace K5 : Bx2 w10 g5 t9 t10 33 := ⟨h4_⟩
    replace K6 : Bx2 w10 g6 t11 t12 33 := ⟨h5_⟩
    replace HB : Aside0 (Below w.heap.size w w10) := ⟨h21_⟩
    clear h0_ h1_ h2_ h3_ h4_ h5_ h6_ h7_ h8_ h9_ h10_ h11_ h12_ h13_ h14_ h15_ h16_ h17_ h18_ h19_ h20_ h21_
    have hHeld : w10.cell? ⟨g5, 0, none⟩ = some (.int .i64 t9) ∧ w10.cell? ⟨g5, 1, none⟩ = some (.int .i64 t10) ∧ w10.cell? ⟨g1, 0, none⟩ = some (.int .i64 a1_0) ∧ w10.cell? ⟨g1, 1, none⟩ = some (.int .i64 a1_1) ∧ w10.cell? ⟨g1, 2, none⟩ = some (.int .i64 a1_2) ∧ w10.cell? ⟨g1, 3, none⟩ = some (.int .i64 a1_3) ∧ w10.cell? ⟨g6, 0, none⟩ = some (.int .i64 t11) ∧ w10.cell? ⟨g6, 1, none⟩ = some (.int .i64 t12) ∧ w10.cell? ⟨g2, 0, none⟩ = some (.int .i64 a2_0) ∧ w10.cell? ⟨g2, 1, none⟩ = some (.int .i64 a2_1) ∧ w10.cell? ⟨g2, 2, none⟩ = some (.int .i64 a2_2) ∧ w10.cell? ⟨g2, 3, none⟩ = some (.int .i64 a2_3) := hS_
    refine norm_ (a' := ?_) ?_ ?_
    rotate_left
    ·simp only [putAll, Act.put, List.setIfInBounds_toArray, List.set_cons_zero, List.set_cons_succ]
     rfl
    refine two_ (i := 2) (j := 8) (Ni := some 41) (Nj := some 10) (lb 12 567) (lb 12 819) rfl rfl rfl rfl (two_of HT_.out (by kernel_rfl)) (by decide) (by decide) (fun K hK => ?_) (fun K hK => ?_)
    ·skip
     refine ck7 hK Try.func21 (impl_Val_rest.calls _ _ _ _ _ _ _ A4.out) K1 K2 K3 K4 K5 K6 K7 HB fun w11 K1 K2 K3 K4 K5 K6 K7 HB hHeld => ?_
     clear hK K
     exact norm_ nz (hJ2_9 (g7) _ ⟨hHeld, (Z K1), (Z K2), (Z K3), (Z K4), (Z K5), (Z K6), (Z K7), G9.out, G10.out, N31.out, N32.out, N33.out, N34.out, N35.out, N36.out, N37.out, N38.out, N39.out, N40.out, N41.out, N42.out, (YA HB)⟩)
    skip
    refine box_step ?hg (N := 10) ?hd (cs := #[.int .i64 0, .int .i64 0, .int .i64 0, .int .i64 0]) (t := 24) ?hr ?_; (case hd => rfl); (case hg => rfl); (case hr => first | (go_simp; done) | (go_simp; rfl))
    intro g8 hg w11 hbox hb
    have K8 := am (hbox)
    have G11 := am (bs hg (YA HB))
    have G12 := am (bs hg (YA HB))
    obtain ⟨N43,N44⟩ := ne_ hg K1
    obtain ⟨N45,N46⟩ := ne_ hg K2
    obtain ⟨N47,N48⟩ := ne_ hg K3
    obtain ⟨N49,N50⟩ := ne_ hg K4
    obtain ⟨N51,N52⟩ := ne_ hg K5
    obtain ⟨N53,N54⟩ := ne_ hg K6
    obtain ⟨N55,N56⟩ := ne_ hg K7
    obtain ⟨K1, K2, K3, K4, K5, K6, K7, HB⟩ := bk7 K1 K2 K3 K4 K5 K6 K7 HB hb
    clear hb hbox hg
    refine kk hK ⟨bc K5 0, bc K5 1, bc K1 0, bc K1 1, bc K1 2, bc K1 3, bc K6 0, bc K6 1, bc K2 0, bc K2 1, bc K2 2, bc K2 3⟩ fun hHeld => ?_
    clear hK K
    exact norm_ nz (hJ8_9 (g8, g7) _ ⟨hHeld, (Z K1), (Z K2), (Z K3), (Z K4), (Z K5), (Z K6), (Z K8), (Z K7), G11.out, G12.out, N43.out, N44.out, N45.out, N46.out, N47.out, N48.out, N49.out, N50.out, N51.out, N52.out, N53.out, N54.out, N55.out, N56.out, G9.out, G10.out, N31.out, N32.out, N33.out, N34.out, N35.out, N36.out, N37.out, N38.out, N39.out, N40.out, N41.out, N42.out, (YA HB)⟩)
   rintro ⟨g7, g8⟩ w10 ⟨hS_, h0_, h1_, h2_, h3_, h4_, h5_, h6_, h7_, h8_, h9_, h10_, h11_, h12_, h13_, h14_, h15_, h16_, h17_, h18_, h19_, h20_, h21_, h22_, h23_, h24_, h25_, h26_, h27_, h28_, h29_, h30_, h31_, h32_, h33_, h34_, h35_, h36_, h37_, h38_⟩
   have K7 : Bx4 w10 g7 0 0 0 0 24 := ⟨h6_⟩
   have K8 : Bx4 w10 g8 0 0 0 0 24 := ⟨h7_⟩
   have G9 : Aside0 (w.heap.size ≤ g7) := ⟨h8_⟩
   have G10 : Aside0 (w.heap.size ≤ g7) := ⟨h9_⟩
   have N31 : Aside0 (g1 ≠ g7) := ⟨h10_⟩
   have N32 : Aside0 (g7 ≠ g1) := ⟨h11_⟩
   have N33 : Aside0 (g2 ≠ g7) := ⟨h12_⟩
   have N34 : Aside0 (g7 ≠ g2) := ⟨h13_⟩
   have N35 : Aside0 (g3 ≠ g7) := ⟨h14_⟩
   have N36 : Aside0 (g7 ≠ g3) := ⟨h15_⟩
   have N37 : Aside0 (g4 ≠ g7) := ⟨h16_⟩
   have N38 : Aside0 (g7 ≠ g4) := ⟨h17_⟩
   have N39 : Aside0 (g5 ≠ g7) := ⟨h18_⟩
   have N40 : Aside0 (g7 ≠ g5) := ⟨h19_⟩
   have N41 : Aside0 (g6 ≠ g7) := ⟨h20_⟩
   have N42 : Aside0 (g7 ≠ g6) := ⟨h21_⟩
   have N43 : Aside0 (g8 ≠ g7) := ⟨h22_⟩
   have N44 : Aside0 (g7 ≠ g8) := ⟨h23_⟩
   have G11 : Aside0 (w.heap.size ≤ g8) := ⟨h24_⟩
   have G12 : Aside0 (w.heap.size ≤ g8) := ⟨h25_⟩
   have N45 : Aside0 (g1 ≠ g8) := ⟨h26_⟩
   have N46 : Aside0 (g8 ≠ g1) := ⟨h27_⟩
   have N47 : Aside0 (g2 ≠ g8) := ⟨h28_⟩
   have N48 : Aside0 (g8 ≠ g2) := ⟨h29_⟩
   have N49 : Aside0 (g3 ≠ g8) := ⟨h30_⟩
   have N50 : Aside0 (g8 ≠ g3) := ⟨h31_⟩
   have N51 : Aside0 (g4 ≠ g8) := ⟨h32_⟩
   have N52 : Aside0 (g8 ≠ g4) := ⟨h33_⟩
   have N53 : Aside0 (g5 ≠ g8) := ⟨h34_⟩
   have N54 : Aside0 (g8 ≠ g5) := ⟨h35_⟩
   have N55 : Aside0 (g6 ≠ g8) := ⟨h36_⟩
   have N56 : Aside0 (g8 ≠ g6) := ⟨h37_⟩
   replace K1 : Bx4 w10 g1 a1_0 a1_1 a1_2 a1_3 24 := ⟨h0_⟩
   replace K2 : Bx4 w10 g2 a2_0 a2_1 a2_2 a2_3 24 := ⟨h1_⟩
   replace K3 : Bx4 w10 g3 0 0 0 0 24 := ⟨h2_⟩
   replace K4 : Bx4 w10 g4 0 0 0 0 24 := ⟨h3_⟩
   replace K5 : Bx2 w10 g5 t9 t10 33 := ⟨h4_⟩
   replace K6 : Bx2 w10 g6 t11 t12 33 := ⟨h5_⟩
   replace HB : Aside0 (Below w.heap.size w w10) := ⟨h38_⟩
   clear h0_ h1_ h2_ h3_ h4_ h5_ h6_ h7_ h8_ h9_ h10_ h11_ h12_ h13_ h14_ h15_ h16_ h17_ h18_ h19_ h20_ h21_ h22_ h23_ h24_ h25_ h26_ h27_ h28_ h29_ h30_ h31_ h32_ h33_ h34_ h35_ h36_ h37_ h38_
   have hHeld : w10.cell? ⟨g5, 0, none⟩ = some (.int .i64 t9) ∧ w10.cell? ⟨g5, 1, none⟩ = some (.int .i64 t10) ∧ w10.cell? ⟨g1, 0, none⟩ = some (.int .i64 a1_0) ∧ w10.cell? ⟨g1, 1, none⟩ = some (.int .i64 a1_1) ∧ w10.cell? ⟨g1, 2, none⟩ = some (.int .i64 a1_2) ∧ w10.cell? ⟨g1, 3, none⟩ = some (.int .i64 a1_3) ∧ w10.cell? ⟨g6, 0, none⟩ = some (.int .i64 t11) ∧ w10.cell? ⟨g6, 1, none⟩ = some (.int .i64 t12) ∧ w10.cell? ⟨g2, 0, none⟩ = some (.int .i64 a2_0) ∧ w10.cell? ⟨g2, 1, none⟩ = some (.int .i64 a2_1) ∧ w10.cell? ⟨g2, 2, none⟩ = some (.int .i64 a2_2) ∧ w10.cell? ⟨g2, 3, none⟩ = some (.int .i64 a2_3) := hS_
   refine norm_ (a' := ?_) ?_ ?_
   rotate_left
   ·simp only [putAll, Act.put, List.setIfInBounds_toArray, List.set_cons_zero, List.set_cons_succ]
    rfl
   refine on 10 none 2047 fun K hK => ?_
   have s12 : w10.cell? ⟨g7, 0, none⟩ = some (.int .i64 0) := bc K7 0
   have hfs94 := blk_frozen K7.out 0
   have z_ := ns10 N31 N33 N35 N37 N39 N41 N43 N32 N34 N36
   have z_ := ns4 N38 N40 N42 N44
   have s13 : w10.cell? ⟨g7, 1, none⟩ = some (.int .i64 0) := bc K7 1
   have hfs95 := blk_frozen K7.out 1
   have z_ := ns10 N31 N33 N35 N37 N39 N41 N43 N32 N34 N36
   have z_ := ns4 N38 N40 N42 N44
   have s14 : w10.cell? ⟨g7, 2, none⟩ = some (.int .i64 0) := bc K7 2
   have hfs96 := blk_frozen K7.out 2
   have z_ := ns10 N31 N33 N35 N37 N39 N41 N43 N32 N34 N36
   have z_ := ns4 N38 N40 N42 N44
   have s15 : w10.cell? ⟨g7, 3, none⟩ = some (.int .i64 0) := bc K7 3
   have hfs97 := blk_frozen K7.out 3
   have z_ := ns10 N31 N33 N35 N37 N39 N41 N43 N32 N34 N36
   have z_ := ns4 N38 N40 N42 N44
   refine skip_ (w1 := ?_) (by rfl) rfl ?_ ?_
   rotate_left
   ·go_simp
    rfl
   refine hK.out _ _ ⟨(cf N39 ((cf N39 ((cf N39 ((cf N39 (hHeld.1)))))))), (cf N39 ((cf N39 ((cf N39 ((cf N39 (hHeld.2.1)))))))), (cf N31 ((cf N31 ((cf N31 ((cf N31 (hHeld.2.2.1)))))))), (cf N31 ((cf N31 ((cf N31 ((cf N31 (hHeld.2.2.2.1)))))))), (cf N31 ((cf N31 ((cf N31 ((cf N31 (hHeld.2.2.2.2.1)))))))), (cf N31 ((cf N31 ((cf N31 ((cf N31 (hHeld.2.2.2.2.2.1)))))))), (cf N41 ((cf N41 ((cf N41 ((cf N41 (hHeld.2.2.2.2.2.2.1)))))))), (cf N41 ((cf N41 ((cf N41 ((cf N41 (hHeld.2.2.2.2.2.2.2.1)))))))), (cf N33 ((cf N33 ((cf N33 ((cf N33 (hHeld.2.2.2.2.2.2.2.2.1)))))))), (cf N33 ((cf N33 ((cf N33 ((cf N33 (hHeld.2.2.2.2.2.2.2.2.2.1)))))))), (cf N33 ((cf N33 ((cf N33 ((cf N33 (hHeld.2.2.2.2.2.2.2.2.2.2.1)))))))), (cf N33 ((cf N33 ((cf N33 ((cf N33 (hHeld.2.2.2.2.2.2.2.2.2.2.2))))))))⟩ (fun hHeld => ?_)
   clear hK K
   refine on 11 none 4095 fun K hK => ?_
   have s16 : w10.cell? ⟨g8, 0, none⟩ = some (.int .i64 0) := bc K8 0
   have hfs98 := blk_frozen K8.out 0
   have z_ := ns10 N45 N47 N49 N51 N53 N55 N44 N46 N48 N50
   have z_ := ns4 N52 N54 N56 N43
   have s17 : w10.cell? ⟨g8, 1, none⟩ = some (.int .i64 0) := bc K8 1
   have hfs99 := blk_frozen K8.out 1
   have z_ := ns10 N45 N47 N49 N51 N53 N55 N44 N46 N48 N50
   have z_ := ns4 N52 N54 N56 N43
   have s18 : w10.cell? ⟨g8, 2, none⟩ = some (.int .i64 0) := bc K8 2
   have hfs100 := blk_frozen K8.out 2
   have z_ := ns10 N45 N47 N49 N51 N53 N55 N44 N46 N48 N50
   have z_ := ns4 N52 N54 N56 N43
   have s19 : w10.cell? ⟨g8, 3, none⟩ = some (.int .i64 0) := bc K8 3
   have hfs101 := blk_frozen K8.out 3
   have z_ := ns10 N45 N47 N49 N51 N53 N55 N44 N46 N48 N50
   have z_ := ns4 N52 N54 N56 N43
   refine skip_ (w1 := ?_) (by rfl) rfl ?_ ?_
   rotate_left
   ·go_simp
    rfl
   refine hK.out _ _ ⟨(cf N53 ((cf N53 ((cf N53 ((cf N53 (hHeld.1)))))))), (cf N53 ((cf N53 ((cf N53 ((cf N53 (hHeld.2.1)))))))), (cf N45 ((cf N45 ((cf N45 ((cf N45 (hHeld.2.2.1)))))))), (cf N45 ((cf N45 ((cf N45 ((cf N45 (hHeld.2.2.2.1)))))))), (cf N45 ((cf N45 ((cf N45 ((cf N45 (hHeld.2.2.2.2.1)))))))), (cf N45 ((cf N45 ((cf N45 ((cf N45 (hHeld.2.2.2.2.2.1)))))))), (cf N55 ((cf N55 ((cf N55 ((cf N55 (hHeld.2.2.2.2.2.2.1)))))))), (cf N55 ((cf N55 ((cf N55 ((cf N55 (hHeld.2.2.2.2.2.2.2.1)))))))), (cf N47 ((cf N47 ((cf N47 ((cf N47 (hHeld.2.2.2.2.2.2.2.2.1)))))))), (cf N47 ((cf N47 ((cf N47 ((cf N47 (hHeld.2.2.2.2.2.2.2.2.2.1)))))))), (cf N47 ((cf N47 ((cf N47 ((cf N47 (hHeld.2.2.2.2.2.2.2.2.2.2.1)))))))), (cf N47 ((cf N47 ((cf N47 ((cf N47 (hHeld.2.2.2.2.2.2.2.2.2.2.2))))))))⟩ (fun hHeld => ?_)
   clear hK K
   refine done_ (done_of HT_.out (by kernel_rfl)) ?_
   go_upto_if 48 with (fail)
   go_cut [] (fun wc => ∃ (kq : Nat) (x2 : Int) (x3 : Int) (x4 : Int) (x5 : Int) (x6 : Int) (x7 : Int) (x8 : Int) (x9 : Int), Aside0 (impl_ValCmp.j1 kq x2 x3 x4 x5 x6 x7 x8 x9 = some (r1, r2, r3, r4, r5, r6, r7, r8)) ∧ Aside0 (kq ≤ k1) ∧ Bx4 wc g1 a1_0 a1_1 a1_2 a1_3 24 ∧ Bx4 wc g2 a2_0 a2_1 a2_2 a2_3 24 ∧ Bx4 wc g3 0 0 0 0 24 ∧ Bx4 wc g4 0 0 0 0 24 ∧ Bx2 wc g5 t9 t10 33 ∧ Bx2 wc g6 t11 t12 33 ∧ Bx4 wc g7 x2 x3 x4 x5 24 ∧ Bx4 wc g8 x6 x7 x8 x9 24 ∧ Aside0 (Below w.heap.size w wc))
   case first =>
    have H := C2.out
    clear C2
    by_cases c2 : a0 = 1
    rotate_left
    ·rw [if_neg c2] at H
     have d1 := eF c2
     have d2 := nT c2
     (first | rw [d1] | (simp only [i64_w, i32_w]; rw [d1]) | skip)
     have H' := am H
     clear H
     go_wp2
     go_meet
     case rel => exact ⟨_, (t15), (t16), (t17), (t18), (t21), (t22), (t23), (t24), H', le1 J1, ⟨by refine fa N45 ?_; refine fa N45 ?_; refine fa N45 ?_; refine fa N45 ?_; refine fa N31 ?_; refine fa N31 ?_; refine fa N31 ?_; refine fa N31 ?_; exact Z K1⟩, ⟨by refine fa N47 ?_; refine fa N47 ?_; refine fa N47 ?_; refine fa N47 ?_; refine fa N33 ?_; refine fa N33 ?_; refine fa N33 ?_; refine fa N33 ?_; exact Z K2⟩, ⟨by refine fa N49 ?_; refine fa N49 ?_; refine fa N49 ?_; refine fa N49 ?_; refine fa N35 ?_; refine fa N35 ?_; refine fa N35 ?_; refine fa N35 ?_; exact Z K3⟩, ⟨by refine fa N51 ?_; refine fa N51 ?_; refine fa N51 ?_; refine fa N51 ?_; refine fa N37 ?_; refine fa N37 ?_; refine fa N37 ?_; refine fa N37 ?_; exact Z K4⟩, ⟨by refine fa N53 ?_; refine fa N53 ?_; refine fa N53 ?_; refine fa N53 ?_; refine fa N39 ?_; refine fa N39 ?_; refine fa N39 ?_; refine fa N39 ?_; exact Z K5⟩, ⟨by refine fa N55 ?_; refine fa N55 ?_; refine fa N55 ?_; refine fa N55 ?_; refine fa N41 ?_; refine fa N41 ?_; refine fa N41 ?_; refine fa N41 ?_; exact Z K6⟩, ⟨by refine fa N44 ?_; refine fa N44 ?_; refine fa N44 ?_; refine fa N44 ?_; refine pf ?_; refine blk_put (cs := #[.int .i64 t15, .int .i64 t16, .int .i64 t17, .int .i64 0]) ?_ 3 _ rfl; refine pf ?_; refine blk_put (cs := #[.int .i64 t15, .int .i64 t16, .int .i64 0, .int .i64 0]) ?_ 2 _ rfl; refine pf ?_; refine blk_put (cs := #[.int .i64 t15, .int .i64 0, .int .i64 0, .int .i64 0]) ?_ 1 _ rfl; refine pf ?_; refine blk_put (cs := #[.int .i64 0, .int .i64 0, .int .i64 0, .int .i64 0]) ?_ 0 _ rfl; exact Z K7⟩, ⟨by refine pf ?_; refine blk_put (cs := #[.int .i64 t21, .int .i64 t22, .int .i64 t23, .int .i64 0]) ?_ 3 _ rfl; refine pf ?_; refine blk_put (cs := #[.int .i64 t21, .int .i64 t22, .int .i64 0, .int .i64 0]) ?_ 2 _ rfl; refine pf ?_; refine blk_put (cs := #[.int .i64 t21, .int .i64 0, .int .i64 0, .int .i64 0]) ?_ 1 _ rfl; refine pf ?_; refine blk_put (cs := #[.int .i64 0, .int .i64 0, .int .i64 0, .int .i64 0]) ?_ 0 _ rfl; refine fa N43 ?_; refine fa N43 ?_; refine fa N43 ?_; refine fa N43 ?_; exact Z K8⟩, ⟨YA HB⟩⟩
    rw [if_pos c2] at H
    have d1 := eT c2
    have d2 := nF c2
    clear c2
    (first | rw [d1] | (simp only [i64_w, i32_w]; rw [d1]) | skip)
    obtain ⟨⟨t25, t26, t27, t28⟩, A8, H⟩ := bd H
    try dsimp only at H
    have H' := am H
    clear H
    have z_ := ns10 N32 N34 N36 N38 N40 N42 N44 N46 N48 N50
    have z_ := ns3 N52 N54 N56
    have z_ := cB4 K7
    have z_ := cB4 K8
    go_wp2_with (first | ((with_reducible refine gate_callee (f := 22) rfl ?_); refine gL 51 Try.func22 (impl_ValMeet.calls _ _ _ _ _ _ _ _ _ _ _ _ _ _ A8.out) fun w11 hb => ?_; replace K1 := am (blk_below (g := g1) (o := b4 a1_0 a1_1 a1_2 a1_3 24) (by refine fa N45 ?_; refine fa N45 ?_; refine fa N45 ?_; refine fa N45 ?_; refine fa N31 ?_; refine fa N31 ?_; refine fa N31 ?_; refine fa N31 ?_; exact Z K1) hb); replace K2 := am (blk_below (g := g2) (o := b4 a2_0 a2_1 a2_2 a2_3 24) (by refine fa N47 ?_; refine fa N47 ?_; refine fa N47 ?_; refine fa N47 ?_; refine fa N33 ?_; refine fa N33 ?_; refine fa N33 ?_; refine fa N33 ?_; exact Z K2) hb); replace K3 := am (blk_below (g := g3) (o := b4 0 0 0 0 24) (by refine fa N49 ?_; refine fa N49 ?_; refine fa N49 ?_; refine fa N49 ?_; refine fa N35 ?_; refine fa N35 ?_; refine fa N35 ?_; refine fa N35 ?_; exact Z K3) hb); replace K4 := am (blk_below (g := g4) (o := b4 0 0 0 0 24) (by refine fa N51 ?_; refine fa N51 ?_; refine fa N51 ?_; refine fa N51 ?_; refine fa N37 ?_; refine fa N37 ?_; refine fa N37 ?_; refine fa N37 ?_; exact Z K4) hb); replace K5 := am (blk_below (g := g5) (o := b2 t9 t10 33) (by refine fa N53 ?_; refine fa N53 ?_; refine fa N53 ?_; refine fa N53 ?_; refine fa N39 ?_; refine fa N39 ?_; refine fa N39 ?_; refine fa N39 ?_; exact Z K5) hb); replace K6 := am (blk_below (g := g6) (o := b2 t11 t12 33) (by refine fa N55 ?_; refine fa N55 ?_; refine fa N55 ?_; refine fa N55 ?_; refine fa N41 ?_; refine fa N41 ?_; refine fa N41 ?_; refine fa N41 ?_; exact Z K6) hb); replace K7 := am (blk_below (g := g7) (o := b4 t15 t16 t17 t18 24) (by refine fa N44 ?_; refine fa N44 ?_; refine fa N44 ?_; refine fa N44 ?_; refine pf ?_; refine blk_put (cs := #[.int .i64 t15, .int .i64 t16, .int .i64 t17, .int .i64 0]) ?_ 3 _ rfl; refine pf ?_; refine blk_put (cs := #[.int .i64 t15, .int .i64 t16, .int .i64 0, .int .i64 0]) ?_ 2 _ rfl; refine pf ?_; refine blk_put (cs := #[.int .i64 t15, .int .i64 0, .int .i64 0, .int .i64 0]) ?_ 1 _ rfl; refine pf ?_; refine blk_put (cs := #[.int .i64 0, .int .i64 0, .int .i64 0, .int .i64 0]) ?_ 0 _ rfl; exact Z K7) hb); replace K8 := am (blk_below (g := g8) (o := b4 t21 t22 t23 t24 24) (by refine pf ?_; refine blk_put (cs := #[.int .i64 t21, .int .i64 t22, .int .i64 t23, .int .i64 0]) ?_ 3 _ rfl; refine pf ?_; refine blk_put (cs := #[.int .i64 t21, .int .i64 t22, .int .i64 0, .int .i64 0]) ?_ 2 _ rfl; refine pf ?_; refine blk_put (cs := #[.int .i64 t21, .int .i64 0, .int .i64 0, .int .i64 0]) ?_ 1 _ rfl; refine pf ?_; refine blk_put (cs := #[.int .i64 0, .int .i64 0, .int .i64 0, .int .i64 0]) ?_ 0 _ rfl; refine fa N43 ?_; refine fa N43 ?_; refine fa N43 ?_; refine fa N43 ?_; exact Z K8) hb); replace HB := am (below_step (YA HB) hb); (try clear hb); have z_ := cB4 K7; have z_ := cB4 K8))
    go_meet
    case rel => exact ⟨_, (t25), (t26), (t27), (t28), (t25), (t26), (t27), (t28), H', le1 J1, ⟨by refine fa N45 ?_; refine fa N45 ?_; refine fa N45 ?_; refine fa N45 ?_; refine fa N31 ?_; refine fa N31 ?_; refine fa N31 ?_; refine fa N31 ?_; exact Z K1⟩, ⟨by refine fa N47 ?_; refine fa N47 ?_; refine fa N47 ?_; refine fa N47 ?_; refine fa N33 ?_; refine fa N33 ?_; refine fa N33 ?_; refine fa N33 ?_; exact Z K2⟩, ⟨by refine fa N49 ?_; refine fa N49 ?_; refine fa N49 ?_; refine fa N49 ?_; refine fa N35 ?_; refine fa N35 ?_; refine fa N35 ?_; refine fa N35 ?_; exact Z K3⟩, ⟨by refine fa N51 ?_; refine fa N51 ?_; refine fa N51 ?_; refine fa N51 ?_; refine fa N37 ?_; refine fa N37 ?_; refine fa N37 ?_; refine fa N37 ?_; exact Z K4⟩, ⟨by refine fa N53 ?_; refine fa N53 ?_; refine fa N53 ?_; refine fa N53 ?_; refine fa N39 ?_; refine fa N39 ?_; refine fa N39 ?_; refine fa N39 ?_; exact Z K5⟩, ⟨by refine fa N55 ?_; refine fa N55 ?_; refine fa N55 ?_; refine fa N55 ?_; refine fa N41 ?_; refine fa N41 ?_; refine fa N41 ?_; refine fa N41 ?_; exact Z K6⟩, ⟨by refine fa N44 ?_; refine fa N44 ?_; refine fa N44 ?_; refine fa N44 ?_; refine pf ?_; refine blk_put (cs := #[.int .i64 t25, .int .i64 t26, .int .i64 t27, .int .i64 t18]) ?_ 3 _ rfl; refine pf ?_; refine blk_put (cs := #[.int .i64 t25, .int .i64 t26, .int .i64 t17, .int .i64 t18]) ?_ 2 _ rfl; refine pf ?_; refine blk_put (cs := #[.int .i64 t25, .int .i64 t16, .int .i64 t17, .int .i64 t18]) ?_ 1 _ rfl; refine pf ?_; refine blk_put (cs := #[.int .i64 t15, .int .i64 t16, .int .i64 t17, .int .i64 t18]) ?_ 0 _ rfl; exact Z K7⟩, ⟨by refine pf ?_; refine blk_put (cs := #[.int .i64 t25, .int .i64 t26, .int .i64 t27, .int .i64 t24]) ?_ 3 _ rfl; refine pf ?_; refine blk_put (cs := #[.int .i64 t25, .int .i64 t26, .int .i64 t23, .int .i64 t24]) ?_ 2 _ rfl; refine pf ?_; refine blk_put (cs := #[.int .i64 t25, .int .i64 t22, .int .i64 t23, .int .i64 t24]) ?_ 1 _ rfl; refine pf ?_; refine blk_put (cs := #[.int .i64 t21, .int .i64 t22, .int .i64 t23, .int .i64 t24]) ?_ 0 _ rfl; refine fa N43 ?_; refine fa N43 ?_; refine fa N43 ?_; refine fa N43 ?_; exact Z K8⟩, ⟨YA HB⟩⟩
   case rest =>
    clear C2
    obtain ⟨kq, x2, x3, x4, x5, x6, x7, x8, x9, HA, J2, K1, K2, K3, K4, K5, K6, K7, K8, HB⟩ := hcut
    cases kq with
    | zero => exact absurd HA.out (by simp [impl_ValCmp.j1])
    | succ k2 =>
     have H := HA.out
     clear HA
     simp only [impl_ValCmp.j1] at H
     have C3 := am H
     clear H
     go_upto_region 8 with (fail)
     go_cut [58] (fun v2 wc => ∃ (kq : Nat) (x10 : Bool), v2 = .bool x10 ∧ Aside0 (impl_ValCmp.j2 kq x10 x2 x3 x4 x5 x6 x7 x8 x9 = some (r1, r2, r3, r4, r5, r6, r7, r8)) ∧ Aside0 (kq ≤ k2) ∧ Bx4 wc g1 a1_0 a1_1 a1_2 a1_3 24 ∧ Bx4 wc g2 a2_0 a2_1 a2_2 a2_3 24 ∧ Bx4 wc g3 0 0 0 0 24 ∧ Bx4 wc g4 0 0 0 0 24 ∧ Bx2 wc g5 t9 t10 33 ∧ Bx2 wc g6 t11 t12 33 ∧ Bx4 wc g7 x2 x3 x4 x5 24 ∧ Bx4 wc g8 x6 x7 x8 x9 24 ∧ Aside0 (Below w.heap.size w wc))
     case first =>
      have H := C3.out
      clear C3
      obtain ⟨t25, A8, H⟩ := bd H
      try dsimp only at H
      by_cases c2 : t25 = true
      ·subst c2
       rw [if_pos rfl] at H
       have H' := am H
       clear H
       have z_ := ns7 N32 N34 N36 N38 N40 N42 N44
       have z_ := cB4 K7
       go_wp2_with (first | ((with_reducible refine gate_callee (f := 16) rfl ?_); refine gL 54 Try.func16 (impl_Val_none.calls _ _ _ _ _ _ A8.out) fun w11 hb => ?_; obtain ⟨K1, K2, K3, K4, K5, K6, K7, K8, HB⟩ := bk8 K1 K2 K3 K4 K5 K6 K7 K8 HB hb; (try clear hb)))
       go_meet
       case rel => exact ⟨_, (true), ey, H', ⟨by have := J1.out; have := J2.out; first | omega | exact Nat.le_refl _⟩, ⟨Z K1⟩, ⟨Z K2⟩, ⟨Z K3⟩, ⟨Z K4⟩, ⟨Z K5⟩, ⟨Z K6⟩, ⟨Z K7⟩, ⟨Z K8⟩, ⟨YA HB⟩⟩
      replace c2 := Bool.eq_false_iff.mpr c2
      subst c2
      rw [if_neg ff] at H
      obtain ⟨t26, A9, H⟩ := bd H
      try dsimp only at H
      have H' := am H
      clear H
      have z_ := ns7 N32 N34 N36 N38 N40 N42 N44
      have z_ := cB4 K7
      go_wp2_with (first | ((with_reducible refine gate_callee (f := 16) rfl ?_); refine gL 54 Try.func16 (impl_Val_none.calls _ _ _ _ _ _ A8.out) fun w11 hb => ?_; obtain ⟨K1, K2, K3, K4, K5, K6, K7, K8, HB⟩ := bk8 K1 K2 K3 K4 K5 K6 K7 K8 HB hb; (try clear hb); have z_ := ns6 N46 N48 N50 N52 N54 N56; have z_ := cB4 K8) | (go_at_call 16; (with_reducible refine (impl_Val_none.calls _ _ _ _ _ _ A9.out).mono ?_); rintro e w12 ⟨rfl, hb⟩; obtain ⟨K1, K2, K3, K4, K5, K6, K7, K8, HB⟩ := bk8 K1 K2 K3 K4 K5 K6 K7 K8 HB hb; (try clear hb)))
      go_meet
      case rel => exact ⟨_, (t26), ey, H', ⟨by have := J1.out; have := J2.out; first | omega | exact Nat.le_refl _⟩, ⟨Z K1⟩, ⟨Z K2⟩, ⟨Z K3⟩, ⟨Z K4⟩, ⟨Z K5⟩, ⟨Z K6⟩, ⟨Z K7⟩, ⟨Z K8⟩, ⟨YA HB⟩⟩
     case rest =>
      clear C3
      obtain ⟨kq, x10, rfl, HA, J3, K1, K2, K3, K4, K5, K6, K7, K8, HB⟩ := hcut
      cases kq with
      | zero => exact absurd HA.out (by simp [impl_ValCmp.j2])
      | succ k3 =>
       have H := HA.out
       clear HA
       simp only [impl_ValCmp.j2] at H
       by_cases c2 : x10 = true
       ·subst c2
        rw [if_pos rfl] at H
        obtain ⟨⟨t25, t26, t27, t28⟩, A8, H⟩ := bd H
        try dsimp only at H
        obtain ⟨⟨t29, t30, t31, t32⟩, A9, H⟩ := bd H
        try dsimp only at H
        simp only [Option.some.injEq, Prod.mk.injEq] at H
        obtain ⟨rfl, rfl, rfl, rfl, rfl, rfl, rfl, rfl⟩ := H
        go_wp2_with (first | ((with_reducible refine gate_callee (f := 17) rfl ?_); refine gL 59 Try.func17 (impl_valNone.calls _ _ _ _ _ A8.out) fun w11 hb => ?_; obtain ⟨K1, K2, K3, K4, K5, K6, K7, K8, HB⟩ := bk8 K1 K2 K3 K4 K5 K6 K7 K8 HB hb; (try clear hb)) | ((with_reducible refine gate_callee (f := 17) rfl ?_); refine gL 60 Try.func17 (impl_valNone.calls _ _ _ _ _ A9.out) fun w12 hb => ?_; obtain ⟨K1, K2, K3, K4, K5, K6, K7, K8, HB⟩ := bk8 K1 K2 K3 K4 K5 K6 K7 K8 HB hb; (try clear hb); have z_ := ns10 N4 N6 N11 N17 N27 N35 N49 N8 N10 N19; have z_ := ns3 N29 N37 N51; have z_ := cB4 K3; have z_ := cB4 K4))
        refine bodyPost_ret (results_cc rfl _ _ g3 g4 24 24 #[.int .i64 t25, .int .i64 t26, .int .i64 t27, .int .i64 t28] #[.int .i64 t29, .int .i64 t30, .int .i64 t31, .int .i64 t32] (0, 0) (0, 0) _ _ rfl (by refine fa N11 ?_; refine fa N11 ?_; refine fa N11 ?_; refine fa N11 ?_; refine pf ?_; refine blk_put (cs := #[.int .i64 t25, .int .i64 t26, .int .i64 t27, .int .i64 0]) ?_ 3 _ rfl; refine pf ?_; refine blk_put (cs := #[.int .i64 t25, .int .i64 t26, .int .i64 0, .int .i64 0]) ?_ 2 _ rfl; refine pf ?_; refine blk_put (cs := #[.int .i64 t25, .int .i64 0, .int .i64 0, .int .i64 0]) ?_ 1 _ rfl; refine pf ?_; refine blk_put (cs := #[.int .i64 0, .int .i64 0, .int .i64 0, .int .i64 0]) ?_ 0 _ rfl; exact Z K3) Try.underlying24 rfl (by kernel_rfl) rfl (by refine pf ?_; refine blk_put (cs := #[.int .i64 t29, .int .i64 t30, .int .i64 t31, .int .i64 0]) ?_ 3 _ rfl; refine pf ?_; refine blk_put (cs := #[.int .i64 t29, .int .i64 t30, .int .i64 0, .int .i64 0]) ?_ 2 _ rfl; refine pf ?_; refine blk_put (cs := #[.int .i64 t29, .int .i64 0, .int .i64 0, .int .i64 0]) ?_ 1 _ rfl; refine pf ?_; refine blk_put (cs := #[.int .i64 0, .int .i64 0, .int .i64 0, .int .i64 0]) ?_ 0 _ rfl; refine fa N12 ?_; refine fa N12 ?_; refine fa N12 ?_; refine fa N12 ?_; exact Z K4) Try.underlying24 rfl (by kernel_rfl)) rfl ?_
        exact ⟨ez, YA HB⟩
       replace c2 := Bool.eq_false_iff.mpr c2
       subst c2
       rw [if_neg ff] at H
       simp only [Option.some.injEq, Prod.mk.injEq] at H
       obtain ⟨rfl, rfl, rfl, rfl, rfl, rfl, rfl, rfl⟩ := H
       try go_wp2
       obtain ⟨K1, K2, K3, K4, K5, K6, K7, K8, HB⟩ := dk8 K1 K2 K3 K4 K5 K6 K7 K8 HB
       refine start_ (n := 4) (S := fun w' => w'.cell? ⟨g7, 0, none⟩ = some (.int .i64 x2) ∧ w'.cell? ⟨g7, 1, none⟩ = some (.int .i64 x3) ∧ w'.cell? ⟨g7, 2, none⟩ = some (.int .i64 x4) ∧ w'.cell? ⟨g7, 3, none⟩ = some (.int .i64 x5) ∧ w'.cell? ⟨g8, 0, none⟩ = some (.int .i64 x6) ∧ w'.cell? ⟨g8, 1, none⟩ = some (.int .i64 x7) ∧ w'.cell? ⟨g8, 2, none⟩ = some (.int .i64 x8) ∧ w'.cell? ⟨g8, 3, none⟩ = some (.int .i64 x9)) (ds := []) (lb 4 0) (by kernel_rfl) rfl rfl ⟨bc K7 0, bc K7 1, bc K7 2, bc K7 3, bc K8 0, bc K8 1, bc K8 2, bc K8 3⟩ (fun hHeld => ?_)
       generalize wc.drew = w11 at K1 K2 K3 K4 K5 K6 K7 K8 HB hHeld ⊢
       refine take_ (i := 0) (N := some 61) (v := ?_) (a' := ?_) (lb 4 1) rfl rfl (by kernel_rfl) (fun _ _ _ h => h) (Or.inl ⟨by rfl, ?_⟩) hHeld ?_ ?_
       rotate_left
       ·rintro w' ⟨s0, s1, s2, s3, s4, s5, s6, s7⟩
        go_simp
        with_reducible rfl
       rotate_left
       ·exact pz
       refine take_ (i := 1) (N := some 62) (v := ?_) (a' := ?_) (lb 4 3) rfl rfl (by kernel_rfl) (fun _ _ _ h => h) (Or.inl ⟨by rfl, ?_⟩) hHeld ?_ ?_
       rotate_left
       ·rintro w' ⟨s0, s1, s2, s3, s4, s5, s6, s7⟩
        go_simp
        with_reducible rfl
       rotate_left
       ·exact pz
       refine one_ (i := 2) (N := none) (lb 4 7) rfl rfl (by kernel_rfl) (by decide) (fun K hK => ?_)
       have s20 : w11.cell? ⟨g3, 0, none⟩ = some (.int .i64 0) := bc K3 0
       have hfs173 := blk_frozen K3.out 0
       have z_ := ns10 N3 N5 N12 N18 N28 N36 N50 N4 N6 N11
       have z_ := ns4 N17 N27 N35 N49
       have s21 : w11.cell? ⟨g3, 1, none⟩ = some (.int .i64 0) := bc K3 1
       have hfs174 := blk_frozen K3.out 1
       have z_ := ns10 N3 N5 N12 N18 N28 N36 N50 N4 N6 N11
       have z_ := ns4 N17 N27 N35 N49
       have s22 : w11.cell? ⟨g3, 2, none⟩ = some (.int .i64 0) := bc K3 2
       have hfs175 := blk_frozen K3.out 2
       have z_ := ns10 N3 N5 N12 N18 N28 N36 N50 N4 N6 N11
       have z_ := ns4 N17 N27 N35 N49
       have s23 : w11.cell? ⟨g3, 3, none⟩ = some (.int .i64 0) := bc K3 3
       have hfs176 := blk_frozen K3.out 3
       have z_ := ns10 N3 N5 N12 N18 N28 N36 N50 N4 N6 N11
       have z_ := ns4 N17 N27 N35 N49
       refine skip_ (w1 := ?_) (by rfl) rfl ?_ ?_
       rotate_left
       ·go_simp
        rfl
       refine hK.out _ _ ⟨(cf N36 ((cf N36 ((cf N36 ((cf N36 (hHeld.1)))))))), (cf N36 ((cf N36 ((cf N36 ((cf N36 (hHeld.2.1)))))))), (cf N36 ((cf N36 ((cf N36 ((cf N36 (hHeld.2.2.1)))))))), (cf N36 ((cf N36 ((cf N36 ((cf N36 (hHeld.2.2.2.1)))))))), (cf N50 ((cf N50 ((cf N50 ((cf N50 (hHeld.2.2.2.2.1)))))))), (cf N50 ((cf N50 ((cf N50 ((cf N50 (hHeld.2.2.2.2.2.1)))))))), (cf N50 ((cf N50 ((cf N50 ((cf N50 (hHeld.2.2.2.2.2.2.1)))))))), (cf N50 ((cf N50 ((cf N50 ((cf N50 (hHeld.2.2.2.2.2.2.2))))))))⟩ (fun hHeld => ?_)
       clear hK K
       refine one_ (i := 3) (N := none) (lb 4 15) rfl rfl (by kernel_rfl) (by decide) (fun K hK => ?_)
       have s24 : w11.cell? ⟨g4, 0, none⟩ = some (.int .i64 0) := bc K4 0
       have hfs177 := blk_frozen K4.out 0
       have z_ := ns10 N7 N9 N11 N20 N30 N38 N52 N8 N10 N12
       have z_ := ns4 N19 N29 N37 N51
       have s25 : w11.cell? ⟨g4, 1, none⟩ = some (.int .i64 0) := bc K4 1
       have hfs178 := blk_frozen K4.out 1
       have z_ := ns10 N7 N9 N11 N20 N30 N38 N52 N8 N10 N12
       have z_ := ns4 N19 N29 N37 N51
       have s26 : w11.cell? ⟨g4, 2, none⟩ = some (.int .i64 0) := bc K4 2
       have hfs179 := blk_frozen K4.out 2
       have z_ := ns10 N7 N9 N11 N20 N30 N38 N52 N8 N10 N12
       have z_ := ns4 N19 N29 N37 N51
       have s27 : w11.cell? ⟨g4, 3, none⟩ = some (.int .i64 0) := bc K4 3
       have hfs180 := blk_frozen K4.out 3
       have z_ := ns10 N7 N9 N11 N20 N30 N38 N52 N8 N10 N12
       have z_ := ns4 N19 N29 N37 N51
       refine skip_ (w1 := ?_) (by rfl) rfl ?_ ?_
       rotate_left
       ·go_simp
        rfl
       refine hK.out _ _ ⟨(cf N38 ((cf N38 ((cf N38 ((cf N38 (hHeld.1)))))))), (cf N38 ((cf N38 ((cf N38 ((cf N38 (hHeld.2.1)))))))), (cf N38 ((cf N38 ((cf N38 ((cf N38 (hHeld.2.2.1)))))))), (cf N38 ((cf N38 ((cf N38 ((cf N38 (hHeld.2.2.2.1)))))))), (cf N52 ((cf N52 ((cf N52 ((cf N52 (hHeld.2.2.2.2.1)))))))), (cf N52 ((cf N52 ((cf N52 ((cf N52 (hHeld.2.2.2.2.2.1)))))))), (cf N52 ((cf N52 ((cf N52 ((cf N52 (hHeld.2.2.2.2.2.2.1)))))))), (cf N52 ((cf N52 ((cf N52 ((cf N52 (hHeld.2.2.2.2.2.2.2))))))))⟩ (fun hHeld => ?_)
       clear hK K
       refine done_ (by kernel_rfl) ?_
       try go_wp2
       refine bodyPost_ret (results_cc rfl _ _ g3 g4 24 24 #[.int .i64 x2, .int .i64 x3, .int .i64 x4, .int .i64 x5] #[.int .i64 x6, .int .i64 x7, .int .i64 x8, .int .i64 x9] (0, 0) (0, 0) _ _ rfl (by refine fa N11 ?_; refine fa N11 ?_; refine fa N11 ?_; refine fa N11 ?_; refine pf ?_; refine blk_put (cs := #[.int .i64 x2, .int .i64 x3, .int .i64 x4, .int .i64 0]) ?_ 3 _ rfl; refine pf ?_; refine blk_put (cs := #[.int .i64 x2, .int .i64 x3, .int .i64 0, .int .i64 0]) ?_ 2 _ rfl; refine pf ?_; refine blk_put (cs := #[.int .i64 x2, .int .i64 0, .int .i64 0, .int .i64 0]) ?_ 1 _ rfl; refine pf ?_; refine blk_put (cs := #[.int .i64 0, .int .i64 0, .int .i64 0, .int .i64 0]) ?_ 0 _ rfl; exact Z K3) Try.underlying24 rfl (by kernel_rfl) rfl (by refine pf ?_; refine blk_put (cs := #[.int .i64 x6, .int .i64 x7, .int .i64 x8, .int .i64 0]) ?_ 3 _ rfl; refine pf ?_; refine blk_put (cs := #[.int .i64 x6, .int .i64 x7, .int .i64 0, .int .i64 0]) ?_ 2 _ rfl; refine pf ?_; refine blk_put (cs := #[.int .i64 x6, .int .i64 0, .int .i64 0, .int .i64 0]) ?_ 1 _ rfl; refine pf ?_; refine blk_put (cs := #[.int .i64 0, .int .i64 0, .int .i64 0, .int .i64 0]) ?_ 0 _ rfl; refine fa N12 ?_; refine fa N12 ?_; refine fa N12 ?_; refine fa N12 ?_; exact Z K4) Try.underlying24 rfl (by kernel_rfl)) rfl ?_
       exact ⟨ez, YA HB⟩
end
end Go.Proofs.Ytdmadlfdibiejaa.PFnExactValCmp
