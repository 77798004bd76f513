/- Written by this session's own driver (wip/dprint.py): the functions that the law FnValTurn reaches, as Lean functions, each with its contract. -/
import Derived.Test.YthbkakcchgnhpaaPFnValTurnx0
import Derived.Test.YthbkakcchgnhpaaPFnValTurnx2
import Derived.Test.YthbkakcchgnhpaaPFnValTurnx3
import Derived.Test.YthbkakcchgnhpaaSv
import Derived.Test.YthbkakcchgnhpaaPFnValTurnx1
namespace Go.Proofs.Ythbkakcchgnhpaa.PFnValTurn
open Go.RowKit Go.Proofs.YthbkakcchgnhpaaV.PrintWords Go.Proofs.YthbkakcchgnhpaaV.PrintLast Go.Proofs.YthbkakcchgnhpaaV.PrintMore Go.Proofs.YthbkakcchgnhpaaSv
set_option linter.unusedVariables false
set_option linter.unusedSimpArgs false
section
attribute [local go_sem] max2_int min2_int max_two min_two max_three min_three max_four min_four
attribute [local go_sem] Go.Proofs.YthbkakcchgnhpaaSet.isSome_setCell
def impl_ValDo.j0 : Nat → Int → Bool → Int → Int → Int → Int → Int → Int → Int → Int → Option (Int × Int × Int × Int × List Int)
 | 0, _, _, _, _, _, _, _, _, _, _ => none
 | k + 1, x1, x2, x3, x4, x5, x6, x7, x8, x9, x10 => if x2 = true then ((impl_valNone.f).bind fun u1 => (some (u1.1, u1.2.1, u1.2.2.1, u1.2.2.2, ([] : List Int)))) else ((impl_Val_span.f x3 x4 x5 x6).bind fun u2 => ((impl_Val_span.f x7 x8 x9 x10).bind fun u3 => ((impl_RangeDo.f k x1 u2.1 u2.2 u3.1 u3.2).bind fun u4 => ((impl_Val_rest.f x3 x4 x5 x6).bind fun u5 => ((impl_Val_rest.f x7 x8 x9 x10).bind fun u6 => ((impl_RestDo.f k x1 u5.1 u5.2 u6.1 u6.2).bind fun u7 => ((impl_ValMake.f k u4.1 u4.2.1 u7.1 u7.2).bind fun u8 => (some (u8.1, u8.2.1, u8.2.2.1, u8.2.2.2, u4.2.2)))))))))
def impl_ValDo.f (k : Nat) (a0 : Int) (a1_0 : Int) (a1_1 : Int) (a1_2 : Int) (a1_3 : Int) (a2_0 : Int) (a2_1 : Int) (a2_2 : Int) (a2_3 : Int) : Option (Int × Int × Int × Int × List Int) := (impl_ValOk.f k a1_0 a1_1 a1_2 a1_3).bind fun t1 => (if t1 = true then ((impl_ValOk.f k a2_0 a2_1 a2_2 a2_3).bind fun t2 => (if t2 = true then ((impl_Val_none.f a1_0 a1_1 a1_2 a1_3).bind fun t3 => (if t3 = true then (impl_ValDo.j0 k a0 true a1_0 a1_1 a1_2 a1_3 a2_0 a2_1 a2_2 a2_3) else ((impl_Val_none.f a2_0 a2_1 a2_2 a2_3).bind fun t4 => (impl_ValDo.j0 k a0 t4 a1_0 a1_1 a1_2 a1_3 a2_0 a2_1 a2_2 a2_3)))) else (impl_ValDo.j0 k a0 true a1_0 a1_1 a1_2 a1_3 a2_0 a2_1 a2_2 a2_3))) else (impl_ValDo.j0 k a0 true a1_0 a1_1 a1_2 a1_3 a2_0 a2_1 a2_2 a2_3))
theorem impl_ValDo.mono_l : ∀ k, (∀ y0 y1 y2 y3 y4 y5 y6 y7 y8 y9, LeO (impl_ValDo.j0 k y0 y1 y2 y3 y4 y5 y6 y7 y8 y9) (impl_ValDo.j0 (k + 1) y0 y1 y2 y3 y4 y5 y6 y7 y8 y9))
 | 0 => fun _ _ _ _ _ _ _ _ _ _ r h => by simp [impl_ValDo.j0] at h
 | k + 1 => by
  have ih0 := impl_ValDo.mono_l k
  ·intro y0 y1 y2 y3 y4 y5 y6 y7 y8 y9
   unfold impl_ValDo.j0
   repeat' first | (with_reducible first | apply ih0 | apply impl_RangeDo.mono | apply impl_RestDo.mono | apply impl_ValMake.mono | apply impl_ValOk.mono | apply LeO.refl | apply LeO.none | refine LeO.ite ?_ ?_ | refine LeO.bind ?_ (fun _ => ?_)) | apply ih0 | apply impl_RangeDo.mono | apply impl_RestDo.mono | apply impl_ValMake.mono | apply impl_ValOk.mono | apply LeO.none | refine LeO.ite ?_ ?_ | refine LeO.bind ?_ (fun _ => ?_)
theorem impl_ValDo.mono : ∀ a0 a1 a2 a3 a4 a5 a6 a7 a8 k, LeO (impl_ValDo.f k a0 a1 a2 a3 a4 a5 a6 a7 a8) (impl_ValDo.f (k + 1) a0 a1 a2 a3 a4 a5 a6 a7 a8) := by
 intro a0 a1 a2 a3 a4 a5 a6 a7 a8 k
 have ih0 := impl_ValDo.mono_l k
 unfold impl_ValDo.f
 repeat' first | (with_reducible first | apply ih0 | apply impl_RangeDo.mono | apply impl_RestDo.mono | apply impl_ValMake.mono | apply impl_ValOk.mono | apply LeO.refl | apply LeO.none | refine LeO.ite ?_ ?_ | refine LeO.bind ?_ (fun _ => ?_)) | apply ih0 | apply impl_RangeDo.mono | apply impl_RestDo.mono | apply impl_ValMake.mono | apply impl_ValOk.mono | apply LeO.none | refine LeO.ite ?_ ?_ | refine LeO.bind ?_ (fun _ => ?_)
def impl_ValDo.T3 : Bool × List (List Nat × List Nat) := (true, [([], []), ([], []), ([1], [1]), ([], []), ([3, 2], [3]), ([0, 2, 4, 4], [0, 2, 4]), ([5], [5]), ([6], [6]), ([6], [6]), ([], []), ([9, 7, 5, 0, 1, 2, 3, 4, 5, 6, 7, 9], [7, 9]), ([8, 10, 0, 1, 2, 3, 4, 5, 6, 7, 8, 9, 10], [8])])
def impl_ValDo.B3 : List Nat := [0, 0, 2, 0, 14, 31, 63, 127, 127, 0, 767, 2047]
theorem impl_ValDo.tab3 : rtab .any (opsOf Try.f30 3) = impl_ValDo.T3 := by kernel_rfl
theorem impl_ValDo.bits3 : waitsOk impl_ValDo.T3.2 impl_ValDo.B3 = true := by kernel_rfl
def impl_ValDo.T4 : Bool × List (List Nat × List Nat) := (true, [([], []), ([], []), ([], []), ([2], [2]), ([], []), ([4, 3], [4]), ([1, 3, 5, 5], [1, 3, 5]), ([0, 6, 6], [0, 6]), ([], []), ([7, 7, 0, 1, 2, 3, 4, 5, 6, 7], [7]), ([8, 9, 0, 1, 2, 3, 4, 5, 6, 7, 8, 9], [8])])
def impl_ValDo.B4 : List Nat := [0, 0, 0, 4, 0, 28, 62, 127, 0, 255, 1023]
theorem impl_ValDo.tab4 : rtab .any (opsOf Try.f30 4) = impl_ValDo.T4 := by kernel_rfl
theorem impl_ValDo.bits4 : waitsOk impl_ValDo.T4.2 impl_ValDo.B4 = true := by kernel_rfl
set_option maxHeartbeats 8000000 in
set_option maxRecDepth 100000 in
theorem impl_ValDo.calls (k : Nat) (a0 : Int) (a1_0 : Int) (a1_1 : Int) (a1_2 : Int) (a1_3 : Int) (a2_0 : Int) (a2_1 : Int) (a2_2 : Int) (a2_3 : Int) (r1 : Int) (r2 : Int) (r3 : Int) (r4 : Int) (r5 : List Int) (w : World) (h : impl_ValDo.f k a0 a1_0 a1_1 a1_2 a1_3 a2_0 a2_1 a2_2 a2_3 = some (r1, r2, r3, r4, r5)) :
  Calls Try.prog 30 #[.int .i64 a0, .agg #[.int .i64 a1_0, .int .i64 a1_1, .int .i64 a1_2, .int .i64 a1_3], .agg #[.int .i64 a2_0, .int .i64 a2_1, .int .i64 a2_2, .int .i64 a2_3]] w fun e w' => ∃ v4_ : Value, e = .returned (.tuple #[.agg #[.int .i64 r1, .int .i64 r2, .int .i64 r3, .int .i64 r4], v4_]) ∧ Kd.R (Kd.int .i64) 3 w' w.heap.size (fun _ => True) v4_ r5 ∧ Below w.heap.size w w' := by
 have hu50 := Try.underlying50
 have hu24 := Try.underlying24
 have HB := am (Below.refl w.heap.size w)
 have H : ((impl_ValOk.f k a1_0 a1_1 a1_2 a1_3).bind fun t1 => (if t1 = true then ((impl_ValOk.f k a2_0 a2_1 a2_2 a2_3).bind fun t2 => (if t2 = true then ((impl_Val_none.f a1_0 a1_1 a1_2 a1_3).bind fun t3 => (if t3 = true then (impl_ValDo.j0 k a0 true a1_0 a1_1 a1_2 a1_3 a2_0 a2_1 a2_2 a2_3) else ((impl_Val_none.f a2_0 a2_1 a2_2 a2_3).bind fun t4 => (impl_ValDo.j0 k a0 t4 a1_0 a1_1 a1_2 a1_3 a2_0 a2_1 a2_2 a2_3)))) else (impl_ValDo.j0 k a0 true a1_0 a1_1 a1_2 a1_3 a2_0 a2_1 a2_2 a2_3))) else (impl_ValDo.j0 k a0 true a1_0 a1_1 a1_2 a1_3 a2_0 a2_1 a2_2 a2_3))) = some (r1, r2, r3, r4, r5) := h
 clear h
 have C1 := am H
 clear H
 go_enter Try.func30, Try.ntmps30
 go_upto_region 1 with (first | ((with_reducible refine gate_dst (N := 4) rfl ?_); refine bxn 4 #[.int .i64 a1_0, .int .i64 a1_1, .int .i64 a1_2, .int .i64 a1_3] 50 HB fun g1 w2 K1 G1 hg hb => ?_; replace HB := am (below_step (YA HB) hb); clear hb hg) | ((with_reducible refine gate_dst (N := 5) rfl ?_); refine bxn 5 #[.int .i64 a2_0, .int .i64 a2_1, .int .i64 a2_2, .int .i64 a2_3] 50 HB fun g2 w3 K2 G2 hg hb => ?_; obtain ⟨N1,N2⟩ := ne_ hg K1; obtain ⟨K1, HB⟩ := bk1 K1 HB hb; clear hb hg) | ((with_reducible refine gate_dst (N := 6) rfl ?_); refine bxn 6 #[.int .i64 0, .int .i64 0, .int .i64 0, .int .i64 0] 50 HB fun g3 w4 K3 G3 hg hb => ?_; obtain ⟨N3,N4⟩ := ne_ hg K1; obtain ⟨N5,N6⟩ := ne_ hg K2; obtain ⟨K1, K2, HB⟩ := bk2 K1 K2 HB hb; clear hb hg))
 (try simp only [Act.put, List.setIfInBounds_toArray, List.set_cons_zero, List.set_cons_succ])
 go_cut [25] (fun v1 wc => ∃ (kq : Nat) (x1 : Bool), v1 = .bool x1 ∧ Aside0 (impl_ValDo.j0 kq a0 x1 a1_0 a1_1 a1_2 a1_3 a2_0 a2_1 a2_2 a2_3 = some (r1, r2, r3, r4, r5)) ∧ Aside0 (kq ≤ k) ∧ Bx4 wc g1 a1_0 a1_1 a1_2 a1_3 50 ∧ Bx4 wc g2 a2_0 a2_1 a2_2 a2_3 50 ∧ Bx4 wc g3 0 0 0 0 50 ∧ Aside0 (Below w.heap.size w wc))
 case first =>
  have H := C1.out
  clear C1
  obtain ⟨t1, A1, H⟩ := bd H
  try dsimp only at H
  by_cases c1 : t1 = true
  rotate_left
  ·replace c1 := Bool.eq_false_iff.mpr c1
   subst c1
   rw [if_neg ff] at H
   have H' := am H
   clear H
   have := ns2 N1 N3
   have := cB4 K1
   go_wp2_with (first | ((with_reducible refine gate_callee (f := 76) rfl ?_); refine gL 11 Try.func76 (impl_ValOk.calls _ _ _ _ _ _ _ A1.out) fun w5 hb => ?_; obtain ⟨K1, K2, K3, HB⟩ := bk3 K1 K2 K3 HB hb; (try clear hb)))
   go_meet
   case rel => exact ⟨_, (true), ey, H', le0, ⟨Z K1⟩, ⟨Z K2⟩, ⟨Z K3⟩, ⟨YA HB⟩⟩
  subst c1
  rw [if_pos rfl] at H
  obtain ⟨t2, A2, H⟩ := bd H
  try dsimp only at H
  by_cases c2 : t2 = true
  rotate_left
  ·replace c2 := Bool.eq_false_iff.mpr c2
   subst c2
   rw [if_neg ff] at H
   have H' := am H
   clear H
   have := ns2 N1 N3
   have := cB4 K1
   go_wp2_with (first | ((with_reducible refine gate_callee (f := 76) rfl ?_); refine gL 11 Try.func76 (impl_ValOk.calls _ _ _ _ _ _ _ A1.out) fun w5 hb => ?_; obtain ⟨K1, K2, K3, HB⟩ := bk3 K1 K2 K3 HB hb; (try clear hb); have := ns1 N5; have := cB4 K2) | (go_at_call 76; (with_reducible refine (impl_ValOk.calls _ _ _ _ _ _ _ A2.out).mono ?_); rintro e w6 ⟨rfl, hb⟩; obtain ⟨K1, K2, K3, HB⟩ := bk3 K1 K2 K3 HB hb; (try clear hb)))
   go_meet
   case rel => exact ⟨_, (true), ey, H', le0, ⟨Z K1⟩, ⟨Z K2⟩, ⟨Z K3⟩, ⟨YA HB⟩⟩
  subst c2
  rw [if_pos rfl] at H
  obtain ⟨t3, A3, H⟩ := bd H
  try dsimp only at H
  by_cases c3 : t3 = true
  ·subst c3
   rw [if_pos rfl] at H
   have H' := am H
   clear H
   have := ns2 N1 N3
   have := cB4 K1
   go_wp2_with (first | ((with_reducible refine gate_callee (f := 76) rfl ?_); refine gL 11 Try.func76 (impl_ValOk.calls _ _ _ _ _ _ _ A1.out) fun w5 hb => ?_; obtain ⟨K1, K2, K3, HB⟩ := bk3 K1 K2 K3 HB hb; (try clear hb); have := ns1 N5; have := cB4 K2) | (go_at_call 76; (with_reducible refine (impl_ValOk.calls _ _ _ _ _ _ _ A2.out).mono ?_); rintro e w6 ⟨rfl, hb⟩; obtain ⟨K1, K2, K3, HB⟩ := bk3 K1 K2 K3 HB hb; (try clear hb); have := cB4 K1) | (go_at_call 77; (with_reducible refine (impl_Val_none.calls _ _ _ _ _ _ A3.out).mono ?_); rintro e w7 ⟨rfl, hb⟩; obtain ⟨K1, K2, K3, HB⟩ := bk3 K1 K2 K3 HB hb; (try clear hb)))
   go_meet
   case rel => exact ⟨_, (true), ey, H', le0, ⟨Z K1⟩, ⟨Z K2⟩, ⟨Z K3⟩, ⟨YA HB⟩⟩
  replace c3 := Bool.eq_false_iff.mpr c3
  subst c3
  rw [if_neg ff] at H
  obtain ⟨t4, A4, H⟩ := bd H
  try dsimp only at H
  have H' := am H
  clear H
  have := ns2 N1 N3
  have := cB4 K1
  go_wp2_with (first | ((with_reducible refine gate_callee (f := 76) rfl ?_); refine gL 11 Try.func76 (impl_ValOk.calls _ _ _ _ _ _ _ A1.out) fun w5 hb => ?_; obtain ⟨K1, K2, K3, HB⟩ := bk3 K1 K2 K3 HB hb; (try clear hb); have := ns1 N5; have := cB4 K2) | (go_at_call 76; (with_reducible refine (impl_ValOk.calls _ _ _ _ _ _ _ A2.out).mono ?_); rintro e w6 ⟨rfl, hb⟩; obtain ⟨K1, K2, K3, HB⟩ := bk3 K1 K2 K3 HB hb; (try clear hb); have := cB4 K1) | (go_at_call 77; (with_reducible refine (impl_Val_none.calls _ _ _ _ _ _ A3.out).mono ?_); rintro e w7 ⟨rfl, hb⟩; obtain ⟨K1, K2, K3, HB⟩ := bk3 K1 K2 K3 HB hb; (try clear hb); have := cB4 K2) | (go_at_call 77; (with_reducible refine (impl_Val_none.calls _ _ _ _ _ _ A4.out).mono ?_); rintro e w8 ⟨rfl, hb⟩; obtain ⟨K1, K2, K3, HB⟩ := bk3 K1 K2 K3 HB hb; (try clear hb)))
  go_meet
  case rel => exact ⟨_, (t4), ey, H', le0, ⟨Z K1⟩, ⟨Z K2⟩, ⟨Z K3⟩, ⟨YA HB⟩⟩
 clear C1
 obtain ⟨kq, x1, rfl, HA, J1, K1, K2, K3, HB⟩ := hcut
 cases kq with
 | zero => exact absurd HA.out (by simp [impl_ValDo.j0])
 | succ k1 => ?_
 have H := HA.out
 clear HA
 simp only [impl_ValDo.j0] at H
 by_cases c1 : x1 = true
 ·subst c1
  rw [if_pos rfl] at H
  obtain ⟨⟨t5, t6, t7, t8⟩, A1, H⟩ := bd H
  try dsimp only at H
  obtain ⟨rfl, rfl, rfl, rfl, rfl⟩ := sj5 H
  go_wp2_with (first | ((with_reducible refine gate_callee (f := 78) rfl ?_); refine gL 26 Try.func78 (impl_valNone.calls _ _ _ _ _ A1.out) fun w5 hb => ?_; obtain ⟨K1, K2, K3, HB⟩ := bk3 K1 K2 K3 HB hb; (try clear hb); have := ns2 N4 N6; have := cB4 K3))
  refine bodyPost_ret (results_ct rfl _ _ g3 50 #[.int .i64 t5, .int .i64 t6, .int .i64 t7, .int .i64 t8] (0, 0) _ rfl (by refine pf ?_; refine bp (ia4 t5 t6 t7 0) ?_ 3; refine pf ?_; refine bp (ia4 t5 t6 0 0) ?_ 2; refine pf ?_; refine bp (ia4 t5 0 0 0) ?_ 1; refine pf ?_; refine bp (ia4 0 0 0 0) ?_ 0; exact Z K3) Try.underlying50 rfl (by kernel_rfl)) rfl ?_
  exact ⟨_, ez, by first | exact Kd.R_nil _ _ _ _ _ | exact Kd.N_nil _ _ _ _ _ | exact Kd.V_nil _ _ _ _ _ | exact Kd.Q_nil _ _ _ _ _ | exact Kd.S_nil _ _ _ _ _, YA HB⟩
 replace c1 := Bool.eq_false_iff.mpr c1
 subst c1
 rw [if_neg ff] at H
 obtain ⟨⟨t5, t6⟩, A1, H⟩ := bd H
 try dsimp only at H
 obtain ⟨⟨t7, t8⟩, A2, H⟩ := bd H
 try dsimp only at H
 obtain ⟨⟨t9, t10, t11⟩, A3, H⟩ := bd H
 try dsimp only at H
 obtain ⟨⟨t12, t13⟩, A4, H⟩ := bd H
 try dsimp only at H
 obtain ⟨⟨t14, t15⟩, A5, H⟩ := bd H
 try dsimp only at H
 obtain ⟨⟨t16, t17⟩, A6, H⟩ := bd H
 try dsimp only at H
 obtain ⟨⟨t18, t19, t20, t21⟩, A7, H⟩ := bd H
 try dsimp only at H
 obtain ⟨rfl, rfl, rfl, rfl, rfl⟩ := sj5 H
 try go_wp2
 obtain ⟨K1, K2, K3, HB⟩ := dk3 K1 K2 K3 HB
 refine start_ (n := 12) (S := fun w' => ce4 w' g1 a1_0 a1_1 a1_2 a1_3 ∧ ce4 w' g2 a2_0 a2_1 a2_2 a2_3) (ds := []) (lb 12 0) (by kernel_rfl) rfl rfl ⟨cc4 K1, cc4 K2⟩ (fun hHeld => ?_); refine with_tabW impl_ValDo.tab3 impl_ValDo.bits3 (fun HT_ HW_ => ?_)
 generalize wc.drew = w5 at K1 K2 K3 HB hHeld ⊢
 refine pk 0 28 1 ?_
 refine tk 1 29 3 hHeld ?_
 refine tk 3 31 11 hHeld ?_
 refine join_ (σ := Value × Nat) 2 (lb 12 1023) (fun s_ => [(30, .agg #[.int .i64 t5, .int .i64 t6]), (32, .agg #[.int .i64 t7, .int .i64 t8]), (33, .tuple #[.agg #[.int .i64 t9, .int .i64 t10], s_.1]), (8, .pointer (some ⟨s_.2, 0, none⟩)), (27, .tuple #[.agg #[.int .i64 t9, .int .i64 t10], s_.1]), (34, .agg #[.int .i64 t9, .int .i64 t10]), (35, s_.1)]) (fun s_ w' => (ce4 w' g1 a1_0 a1_1 a1_2 a1_3 ∧ ce4 w' g2 a2_0 a2_1 a2_2 a2_3) ∧ Aside0 (Kd.R (Kd.int .i64) 3 w' w.heap.size (fun _ => True) s_.1 t11) ∧ Bx4 w' g1 a1_0 a1_1 a1_2 a1_3 50 ∧ Bx4 w' g2 a2_0 a2_1 a2_2 a2_3 50 ∧ Bx4 w' g3 0 0 0 0 50 ∧ Bx2 w' s_.2 0 0 24 ∧ Aside0 (w.heap.size ≤ s_.2) ∧ Aside0 (w.heap.size ≤ s_.2) ∧ Aside0 (g1 ≠ s_.2) ∧ Aside0 (s_.2 ≠ g1) ∧ Aside0 (g2 ≠ s_.2) ∧ Aside0 (s_.2 ≠ g2) ∧ Aside0 (g3 ≠ s_.2) ∧ Aside0 (s_.2 ≠ g3) ∧ Aside0 (Below w.heap.size w w')) ?_ ?_
 rotate_left
 ·intro hCont
  refine two_ (i := 2) (j := 9) (Ni := some 30) (Nj := some 8) (lb 12 15) (lb 12 523) rfl rfl rfl rfl (two_of HT_.out (by kernel_rfl)) (by decide) (by decide) (fun K hK => ?_) (fun K hK => ?_)
  rotate_left
  ·skip
   refine box_step ?hg (N := 8) ?hd (cs := #[.int .i64 0, .int .i64 0]) (t := 24) ?hr ?_; (case hd => rfl); (case hg => rfl); (case hr => first | (go_simp; done) | (go_simp; rfl))
   intro g4 hg w6 hbox hb
   have K4 := am (hbox)
   have G4 := am (bs hg (YA HB))
   have G5 := am (bs hg (YA HB))
   obtain ⟨N7,N8⟩ := ne_ hg K1
   obtain ⟨N9,N10⟩ := ne_ hg K2
   obtain ⟨N11,N12⟩ := ne_ hg K3
   obtain ⟨K1, K2, K3, HB⟩ := bk3 K1 K2 K3 HB hb
   clear hb hbox hg
   refine kk hK ⟨cc4 K1, cc4 K2⟩ fun hHeld => ?_
   clear hK K
   refine on 2 (some 30) 527 fun K hK => ?_
   refine ck hK Try.func79 (impl_Val_span.calls _ _ _ _ _ _ _ A1.out) (fun _ b => bk4 K1 K2 K3 K4 HB b) fun w7 Q_ hHeld => ?_
   clear hK K
   obtain ⟨K1, K2, K3, K4, HB⟩ := Q_
   refine on 4 (some 32) 543 fun K hK => ?_
   refine ck hK Try.func79 (impl_Val_span.calls _ _ _ _ _ _ _ A2.out) (fun _ b => bk4 K1 K2 K3 K4 HB b) fun w8 Q_ hHeld => ?_
   clear hK K
   obtain ⟨K1, K2, K3, K4, HB⟩ := Q_
   refine on 5 (some 33) 575 fun K hK => ?_
   refine goes_ Try.func11 (by kernel_rfl) rfl #[.int .i64 a0, .agg #[.int .i64 t5, .int .i64 t6], .agg #[.int .i64 t7, .int .i64 t8]] (by rfl) rfl rfl mz ?_
   with_reducible refine (impl_RangeDo.calls _ _ _ _ _ _ _ _ _ _ A3.out).mono ?_
   rintro e w9 ⟨v2, rfl, o1, hb⟩
   refine ⟨_, rfl, ?_⟩
   have O1 := am (Kd.R_lower o1 (below_size (YA HB)))
   obtain ⟨K1, K2, K3, K4, HB⟩ := bk4 K1 K2 K3 K4 HB hb
   clear hb
   (try clear o1)
   refine kk hK ⟨cc4 K1, cc4 K2⟩ fun hHeld => ?_
   clear hK K
   refine pk 6 27 639 ?_
   refine pk 7 34 767 ?_
   refine pk 8 35 1023 ?_
   exact norm_ nz (hCont (v2, g4) _ ⟨hHeld, ⟨RZ O1⟩, ⟨Z K1⟩, ⟨Z K2⟩, ⟨Z K3⟩, ⟨Z K4⟩, G4, G5, N7, N8, N9, N10, N11, N12, ⟨YA HB⟩⟩)
  skip
  refine ck hK Try.func79 (impl_Val_span.calls _ _ _ _ _ _ _ A1.out) (fun _ b => bk3 K1 K2 K3 HB b) fun w6 Q_ hHeld => ?_
  clear hK K
  obtain ⟨K1, K2, K3, HB⟩ := Q_
  refine two_ (i := 4) (j := 9) (Ni := some 32) (Nj := some 8) (lb 12 31) (lb 12 527) rfl rfl rfl rfl (two_of HT_.out (by kernel_rfl)) (by decide) (by decide) (fun K hK => ?_) (fun K hK => ?_)
  rotate_left
  ·skip
   refine box_step ?hg (N := 8) ?hd (cs := #[.int .i64 0, .int .i64 0]) (t := 24) ?hr ?_; (case hd => rfl); (case hg => rfl); (case hr => first | (go_simp; done) | (go_simp; rfl))
   intro g4 hg w7 hbox hb
   have K4 := am (hbox)
   have G4 := am (bs hg (YA HB))
   have G5 := am (bs hg (YA HB))
   obtain ⟨N7,N8⟩ := ne_ hg K1
   obtain ⟨N9,N10⟩ := ne_ hg K2
   obtain ⟨N11,N12⟩ := ne_ hg K3
   obtain ⟨K1, K2, K3, HB⟩ := bk3 K1 K2 K3 HB hb
   clear hb hbox hg
   refine kk hK ⟨cc4 K1, cc4 K2⟩ fun hHeld => ?_
   clear hK K
   refine on 4 (some 32) 543 fun K hK => ?_
   refine ck hK Try.func79 (impl_Val_span.calls _ _ _ _ _ _ _ A2.out) (fun _ b => bk4 K1 K2 K3 K4 HB b) fun w8 Q_ hHeld => ?_
   clear hK K
   obtain ⟨K1, K2, K3, K4, HB⟩ := Q_
   refine on 5 (some 33) 575 fun K hK => ?_
   refine goes_ Try.func11 (by kernel_rfl) rfl #[.int .i64 a0, .agg #[.int .i64 t5, .int .i64 t6], .agg #[.int .i64 t7, .int .i64 t8]] (by rfl) rfl rfl mz ?_
   with_reducible refine (impl_RangeDo.calls _ _ _ _ _ _ _ _ _ _ A3.out).mono ?_
   rintro e w9 ⟨v2, rfl, o1, hb⟩
   refine ⟨_, rfl, ?_⟩
   have O1 := am (Kd.R_lower o1 (below_size (YA HB)))
   obtain ⟨K1, K2, K3, K4, HB⟩ := bk4 K1 K2 K3 K4 HB hb
   clear hb
   (try clear o1)
   refine kk hK ⟨cc4 K1, cc4 K2⟩ fun hHeld => ?_
   clear hK K
   refine pk 6 27 639 ?_
   refine pk 7 34 767 ?_
   refine pk 8 35 1023 ?_
   exact norm_ nz (hCont (v2, g4) _ ⟨hHeld, ⟨RZ O1⟩, ⟨Z K1⟩, ⟨Z K2⟩, ⟨Z K3⟩, ⟨Z K4⟩, G4, G5, N7, N8, N9, N10, N11, N12, ⟨YA HB⟩⟩)
  skip
  refine ck hK Try.func79 (impl_Val_span.calls _ _ _ _ _ _ _ A2.out) (fun _ b => bk3 K1 K2 K3 HB b) fun w7 Q_ hHeld => ?_
  clear hK K
  obtain ⟨K1, K2, K3, HB⟩ := Q_
  refine two_ (i := 5) (j := 9) (Ni := some 33) (Nj := some 8) (lb 12 63) (lb 12 543) rfl rfl rfl rfl (two_of HT_.out (by kernel_rfl)) (by decide) (by decide) (fun K hK => ?_) (fun K hK => ?_)
  rotate_left
  ·skip
   refine box_step ?hg (N := 8) ?hd (cs := #[.int .i64 0, .int .i64 0]) (t := 24) ?hr ?_; (case hd => rfl); (case hg => rfl); (case hr => first | (go_simp; done) | (go_simp; rfl))
   intro g4 hg w8 hbox hb
   have K4 := am (hbox)
   have G4 := am (bs hg (YA HB))
   have G5 := am (bs hg (YA HB))
   obtain ⟨N7,N8⟩ := ne_ hg K1
   obtain ⟨N9,N10⟩ := ne_ hg K2
   obtain ⟨N11,N12⟩ := ne_ hg K3
   obtain ⟨K1, K2, K3, HB⟩ := bk3 K1 K2 K3 HB hb
   clear hb hbox hg
   refine kk hK ⟨cc4 K1, cc4 K2⟩ fun hHeld => ?_
   clear hK K
   refine on 5 (some 33) 575 fun K hK => ?_
   refine goes_ Try.func11 (by kernel_rfl) rfl #[.int .i64 a0, .agg #[.int .i64 t5, .int .i64 t6], .agg #[.int .i64 t7, .int .i64 t8]] (by rfl) rfl rfl mz ?_
   with_reducible refine (impl_RangeDo.calls _ _ _ _ _ _ _ _ _ _ A3.out).mono ?_
   rintro e w9 ⟨v2, rfl, o1, hb⟩
   refine ⟨_, rfl, ?_⟩
   have O1 := am (Kd.R_lower o1 (below_size (YA HB)))
   obtain ⟨K1, K2, K3, K4, HB⟩ := bk4 K1 K2 K3 K4 HB hb
   clear hb
   (try clear o1)
   refine kk hK ⟨cc4 K1, cc4 K2⟩ fun hHeld => ?_
   clear hK K
   refine pk 6 27 639 ?_
   refine pk 7 34 767 ?_
   refine pk 8 35 1023 ?_
   exact norm_ nz (hCont (v2, g4) _ ⟨hHeld, ⟨RZ O1⟩, ⟨Z K1⟩, ⟨Z K2⟩, ⟨Z K3⟩, ⟨Z K4⟩, G4, G5, N7, N8, N9, N10, N11, N12, ⟨YA HB⟩⟩)
  skip
  refine goes_ Try.func11 (by kernel_rfl) rfl #[.int .i64 a0, .agg #[.int .i64 t5, .int .i64 t6], .agg #[.int .i64 t7, .int .i64 t8]] (by rfl) rfl rfl mz ?_
  with_reducible refine (impl_RangeDo.calls _ _ _ _ _ _ _ _ _ _ A3.out).mono ?_
  rintro e w8 ⟨v2, rfl, o1, hb⟩
  refine ⟨_, rfl, ?_⟩
  have O1 := am (Kd.R_lower o1 (below_size (YA HB)))
  obtain ⟨K1, K2, K3, HB⟩ := bk3 K1 K2 K3 HB hb
  clear hb
  (try clear o1)
  refine kk hK ⟨cc4 K1, cc4 K2⟩ fun hHeld => ?_
  clear hK K
  refine pk 6 27 127 ?_
  refine pk 7 34 255 ?_
  refine pk 8 35 511 ?_
  refine on 9 (some 8) 1023 fun K hK => ?_
  refine box_step ?hg (N := 8) ?hd (cs := #[.int .i64 0, .int .i64 0]) (t := 24) ?hr ?_; (case hd => rfl); (case hg => rfl); (case hr => first | (go_simp; done) | (go_simp; rfl))
  intro g4 hg w9 hbox hb
  have K4 := am (hbox)
  have G4 := am (bs hg (YA HB))
  have G5 := am (bs hg (YA HB))
  obtain ⟨N7,N8⟩ := ne_ hg K1
  obtain ⟨N9,N10⟩ := ne_ hg K2
  obtain ⟨N11,N12⟩ := ne_ hg K3
  replace O1 := am (Kd.R_below (RZ O1) hb)
  obtain ⟨K1, K2, K3, HB⟩ := bk3 K1 K2 K3 HB hb
  clear hb hbox hg
  refine kk hK ⟨cc4 K1, cc4 K2⟩ fun hHeld => ?_
  clear hK K
  exact norm_ nz (hCont (v2, g4) _ ⟨hHeld, ⟨RZ O1⟩, ⟨Z K1⟩, ⟨Z K2⟩, ⟨Z K3⟩, ⟨Z K4⟩, G4, G5, N7, N8, N9, N10, N11, N12, ⟨YA HB⟩⟩)
 rintro ⟨v2, g4⟩ w6 H_
 dsimp only at H_
 obtain ⟨hHeld, O1, K1, K2, K3, K4, G4, G5, N7, N8, N9, N10, N11, N12, HB⟩ := H_
 refine norm_ nz ?_
 refine on 10 none 2047 fun K hK => ?_
 have s1 : w6.cell? ⟨g4, 0, none⟩ = some (.int .i64 0) := bc K4 0
 have hfs65 := blk_frozen K4.out 0
 have := ns6 N7 N9 N11 N8 N10 N12
 have s2 : w6.cell? ⟨g4, 1, none⟩ = some (.int .i64 0) := bc K4 1
 have hfs66 := blk_frozen K4.out 1
 have := ns6 N7 N9 N11 N8 N10 N12
 refine skip_ (w1 := ?_) (by rfl) rfl ?_ ?_
 rotate_left
 ·go_simp
  rfl
 refine hK.out _ _ ⟨cf4 N7 (cf4 N7 hHeld.1), cf4 N9 (cf4 N9 hHeld.2)⟩ (fun hHeld => ?_)
 clear hK K
 refine pk 11 9 4095 ?_
 refine done_ (done_of HT_.out (by kernel_rfl)) ?_
 try go_wp2
 have n0_ : Aside0 (Kd.R (Kd.int .i64) 3 ((w6.setCell ⟨g4, 0, none⟩ (.int .i64 t9)).setCell ⟨g4, 1, none⟩ (.int .i64 t10)) w.heap.size (fun _ => True) v2 t11) := ⟨by (with_reducible repeat (first | apply Kd.R_alloc | apply Kd.R_drewN | apply Kd.R_drew)); exact Kd.R_mono (Kd.R_far (p := ⟨g4, 1, none⟩) (Kd.R_far (p := ⟨g4, 0, none⟩) (Kd.R_types O1.out K4.out (by decide)) (fun _ hk => hk.2) (.int .i64 t9)) (fun _ hk => hk.2) (.int .i64 t10)) (fun _ hk => trivial)⟩
 have n1_ : Aside0 (((w6.setCell ⟨g4, 0, none⟩ (.int .i64 t9)).setCell ⟨g4, 1, none⟩ (.int .i64 t10)).heap[g1]? = some (.cells #[.int .i64 a1_0, .int .i64 a1_1, .int .i64 a1_2, .int .i64 a1_3] 50 (0, 0))) := ⟨ft N7 K1⟩
 have n2_ : Aside0 (((w6.setCell ⟨g4, 0, none⟩ (.int .i64 t9)).setCell ⟨g4, 1, none⟩ (.int .i64 t10)).heap[g2]? = some (.cells #[.int .i64 a2_0, .int .i64 a2_1, .int .i64 a2_2, .int .i64 a2_3] 50 (0, 0))) := ⟨ft N9 K2⟩
 have n3_ : Aside0 (((w6.setCell ⟨g4, 0, none⟩ (.int .i64 t9)).setCell ⟨g4, 1, none⟩ (.int .i64 t10)).heap[g3]? = some (.cells #[.int .i64 0, .int .i64 0, .int .i64 0, .int .i64 0] 50 (0, 0))) := ⟨ft N11 K3⟩
 have n4_ : Aside0 (((w6.setCell ⟨g4, 0, none⟩ (.int .i64 t9)).setCell ⟨g4, 1, none⟩ (.int .i64 t10)).heap[g4]? = some (.cells #[.int .i64 t9, .int .i64 t10] 24 (0, 0))) := ⟨by refine pf ?_; refine bp (ia2 t9 0) ?_ 1; refine pf ?_; refine bp (ia2 0 0) ?_ 0; exact Z K4⟩
 have n5_ : Aside0 (Below w.heap.size w ((w6.setCell ⟨g4, 0, none⟩ (.int .i64 t9)).setCell ⟨g4, 1, none⟩ (.int .i64 t10))) := ⟨YA HB⟩
 (try clear O1)
 (try clear K1)
 (try clear K2)
 (try clear K3)
 (try clear K4)
 (try clear HB)
 generalize ((w6.setCell ⟨g4, 0, none⟩ (.int .i64 t9)).setCell ⟨g4, 1, none⟩ (.int .i64 t10)) = w7 at n0_ n1_ n2_ n3_ n4_ n5_ ⊢
 have O1 := n0_
 have K1 := n1_
 have K2 := n2_
 have K3 := n3_
 have K4 := n4_
 have HB := n5_
 clear n0_ n1_ n2_ n3_ n4_ n5_
 replace O1 := am (Kd.R_drew O1.out)
 obtain ⟨K1, K2, K3, K4, HB⟩ := dk4 K1 K2 K3 K4 HB
 refine start_ (n := 11) (S := fun w' => ce2 w' g4 t9 t10 ∧ ce4 w' g1 a1_0 a1_1 a1_2 a1_3 ∧ ce4 w' g2 a2_0 a2_1 a2_2 a2_3) (ds := []) (lb 11 0) (by kernel_rfl) rfl rfl ⟨cc2 K4, cc4 K1, cc4 K2⟩ (fun hHeld => ?_); refine with_tabW impl_ValDo.tab4 impl_ValDo.bits4 (fun HT_ HW_ => ?_)
 generalize w7.drew = w8 at O1 K1 K2 K3 K4 HB hHeld ⊢
 refine pk 1 37 2 ?_
 refine pk 8 44 258 ?_
 refine tk 0 36 259 hHeld ?_
 refine tk 2 38 263 hHeld ?_
 refine tk 4 40 279 hHeld ?_
 refine on 3 (some 39) 287 fun K hK => ?_
 refine gq Try.func82 (impl_Val_rest.calls _ _ _ _ _ _ _ A4.out) fun w9 hb => ?_
 replace O1 := am (Kd.R_below (RZ O1) hb)
 obtain ⟨K1, K2, K3, K4, HB⟩ := bk4 K1 K2 K3 K4 HB hb
 clear hb
 refine kk hK ⟨cc2 K4, cc4 K1, cc4 K2⟩ fun hHeld => ?_
 clear hK K
 refine on 5 (some 41) 319 fun K hK => ?_
 refine gq Try.func82 (impl_Val_rest.calls _ _ _ _ _ _ _ A5.out) fun w10 hb => ?_
 replace O1 := am (Kd.R_below (RZ O1) hb)
 obtain ⟨K1, K2, K3, K4, HB⟩ := bk4 K1 K2 K3 K4 HB hb
 clear hb
 refine kk hK ⟨cc2 K4, cc4 K1, cc4 K2⟩ fun hHeld => ?_
 clear hK K
 refine on 6 (some 42) 383 fun K hK => ?_
 refine gq Try.func81 (impl_RestDo.calls _ _ _ _ _ _ _ _ _ A6.out) fun w11 hb => ?_
 replace O1 := am (Kd.R_below (RZ O1) hb)
 obtain ⟨K1, K2, K3, K4, HB⟩ := bk4 K1 K2 K3 K4 HB hb
 clear hb
 refine kk hK ⟨cc2 K4, cc4 K1, cc4 K2⟩ fun hHeld => ?_
 clear hK K
 refine on 7 (some 43) 511 fun K hK => ?_
 refine gq Try.func80 (impl_ValMake.calls _ _ _ _ _ _ _ _ _ _ A7.out) fun w12 hb => ?_
 replace O1 := am (Kd.R_below (RZ O1) hb)
 obtain ⟨K1, K2, K3, K4, HB⟩ := bk4 K1 K2 K3 K4 HB hb
 clear hb
 refine kk hK ⟨cc2 K4, cc4 K1, cc4 K2⟩ fun hHeld => ?_
 clear hK K
 refine on 9 none 1023 fun K hK => ?_
 have s3 : w12.cell? ⟨g3, 0, none⟩ = some (.int .i64 0) := bc K3 0
 have hfs73 := blk_frozen K3.out 0
 have := ns6 N3 N5 N12 N4 N6 N11
 have s4 : w12.cell? ⟨g3, 1, none⟩ = some (.int .i64 0) := bc K3 1
 have hfs74 := blk_frozen K3.out 1
 have := ns6 N3 N5 N12 N4 N6 N11
 have s5 : w12.cell? ⟨g3, 2, none⟩ = some (.int .i64 0) := bc K3 2
 have hfs75 := blk_frozen K3.out 2
 have := ns6 N3 N5 N12 N4 N6 N11
 have s6 : w12.cell? ⟨g3, 3, none⟩ = some (.int .i64 0) := bc K3 3
 have hfs76 := blk_frozen K3.out 3
 have := ns6 N3 N5 N12 N4 N6 N11
 refine skip_ (w1 := ?_) (by rfl) rfl ?_ ?_
 rotate_left
 ·go_simp
  rfl
 refine hK.out _ _ ⟨cf2 N12 (cf2 N12 (cf2 N12 (cf2 N12 hHeld.1))), cf4 N3 (cf4 N3 (cf4 N3 (cf4 N3 hHeld.2.1))), cf4 N5 (cf4 N5 (cf4 N5 (cf4 N5 hHeld.2.2)))⟩ (fun hHeld => ?_)
 clear hK K
 refine pk 10 7 2047 ?_
 refine done_ (done_of HT_.out (by kernel_rfl)) ?_
 try go_wp2
 refine bodyPost_ret (results_ct rfl _ _ g3 50 #[.int .i64 t18, .int .i64 t19, .int .i64 t20, .int .i64 t21] (0, 0) _ rfl (by refine pf ?_; refine bp (ia4 t18 t19 t20 0) ?_ 3; refine pf ?_; refine bp (ia4 t18 t19 0 0) ?_ 2; refine pf ?_; refine bp (ia4 t18 0 0 0) ?_ 1; refine pf ?_; refine bp (ia4 0 0 0 0) ?_ 0; exact Z K3) Try.underlying50 rfl (by kernel_rfl)) rfl ?_
 exact ⟨_, ez, by (with_reducible repeat (first | apply Kd.R_alloc | apply Kd.R_drewN | apply Kd.R_drew)); exact Kd.R_mono (Kd.R_far (p := ⟨g3, 3, none⟩) (Kd.R_far (p := ⟨g3, 2, none⟩) (Kd.R_far (p := ⟨g3, 1, none⟩) (Kd.R_far (p := ⟨g3, 0, none⟩) (Kd.R_types O1.out K3.out (by decide)) (fun _ hk => hk.2) (.int .i64 t18)) (fun _ hk => hk.2) (.int .i64 t19)) (fun _ hk => hk.2) (.int .i64 t20)) (fun _ hk => hk.2) (.int .i64 t21)) (fun _ hk => trivial), YA HB⟩
end
section
attribute [local go_sem] max2_int min2_int max_two min_two max_three min_three max_four min_four
attribute [local go_sem] Go.Proofs.YthbkakcchgnhpaaSet.isSome_setCell
/-- A state of type 99 at block g of W; what its slices lead to came in by w0. -/
def IsS99 (w1 W : World) (g : Nat) (f0 : List Int) (f1 : Int) : Prop := ∃ A1 c1, W.heap[g]? = some (.cells #[.slice A1 f0.length c1, .int .i64 f1] 99 (0, 0)) ∧ w1.heap.size ≤ g ∧ Kd.C (Kd.int .u8) w1 A1 f0.length f0
theorem IsS99.grown {w0 W : World} {g : Nat} {f0 : List Int} {f1 : Int} {W1 : World} {row : Option Nat} (h : IsS99 w0 W g f0 f1) (hw : W.grownBy W1 row) (hne : some g ≠ row) : IsS99 w0 W1 g f0 f1 := by
 obtain ⟨A0, c0, hb, hg, hr0⟩ := h
 exact ⟨A0, c0, blk_grown hb hw hne, hg, hr0⟩
theorem IsS99.own_neN {w0 W : World} {g : Nat} {f0 : List Int} {f1 : Int} {α : Type} {d : Kd α} {e : Nat} {base : Nat} {ok : Nat → Prop} {v : Value} {xs : List α} (h : IsS99 w0 W g f0 f1) (ho : Kd.N d e W base ok v xs) (ht : e ≠ 99) : some g ≠ v.ownBlock := by
 obtain ⟨A0, c0, hb, hg, hr0⟩ := h
 exact Kd.N_ne ho hb ht
theorem IsS99.fresh {w0 W : World} {g : Nat} {f0 : List Int} {f1 : Int} (h : IsS99 w0 W g f0 f1) : ∀ k, W.heap.size ≤ k → k ≠ g := by
 obtain ⟨A0, c0, hb, hg, hr0⟩ := h
 exact Kd.freshB hb
theorem IsS99.kept {w0 W : World} {g : Nat} {f0 : List Int} {f1 : Int} {W1 : World} {S : Nat → Prop} (h : IsS99 w0 W g f0 f1) (hk : Kept W W1 S) (hne : ¬ S g) : IsS99 w0 W1 g f0 f1 := by
 obtain ⟨A0, c0, hb, hg, hr0⟩ := h
 exact ⟨A0, c0, blk_kept hb hk hne, hg, hr0⟩
theorem IsS99.below {w0 W : World} {g : Nat} {f0 : List Int} {f1 : Int} {W1 : World} (h : IsS99 w0 W g f0 f1) (hw : Below W.heap.size W W1) : IsS99 w0 W1 g f0 f1 := h.grown (grown_of_below hw none) (by simp)
theorem IsS99.alloc {w0 W : World} {g : Nat} {f0 : List Int} {f1 : Int} (h : IsS99 w0 W g f0 f1) (o : Obj) : IsS99 w0 (W.alloc o) g f0 f1 := h.below (below_alloc (Below.refl _ _) o)
theorem IsS99.drewN {w0 W : World} {g : Nat} {f0 : List Int} {f1 : Int} (h : IsS99 w0 W g f0 f1) (m : Nat) : IsS99 w0 (W.drewN m) g f0 f1 := h
theorem IsS99.drew {w0 W : World} {g : Nat} {f0 : List Int} {f1 : Int} (h : IsS99 w0 W g f0 f1) : IsS99 w0 W.drew g f0 f1 := h
theorem IsS99.at_ {w0 W : World} {g : Nat} {f0 : List Int} {f1 : Int} {w' : World} {m : Nat} (hq : W.drewN m = w') (h : IsS99 w0 W g f0 f1) : IsS99 w0 w' g f0 f1 := by subst hq; exact IsS99.drewN h m
theorem IsS99.apart {w0 W : World} {g : Nat} {f0 : List Int} {f1 : Int} {α : Type} {d : Kd α} {e : Nat} {base : Nat} {ok : Nat → Prop} {v : Value} {xs : List α} (h : IsS99 w0 W g f0 f1) (ho : d.R e W base ok v xs) (ht : ∀ q, q ∈ e :: d.E → q ≠ 99) : d.R e W base (fun k => ok k ∧ k ≠ g) v xs := by
 obtain ⟨A0, c0, hb, hg, hr0⟩ := h
 exact Kd.R_types ho hb ht
theorem IsS99.own_ne {w0 W : World} {g : Nat} {f0 : List Int} {f1 : Int} {α : Type} {d : Kd α} {e : Nat} {base : Nat} {ok : Nat → Prop} {v : Value} {xs : List α} (h : IsS99 w0 W g f0 f1) (ho : d.R e W base ok v xs) (ht : e ≠ 99) : some g ≠ v.ownBlock := by
 obtain ⟨A0, c0, hb, hg, hr0⟩ := h
 exact Kd.R_ne ho hb ht
theorem IsS99.apartQ {w0 W : World} {g : Nat} {f0 : List Int} {f1 : Int} {α : Type} {d : Kd α} {e : Nat} {base : Nat} {ok : Nat → Prop} {v : Value} {xs : List α} (h : IsS99 w0 W g f0 f1) (ho : d.Q e W base ok v xs) (ht : ∀ q, q ∈ e :: d.E → q ≠ 99) : d.Q e W base (fun k => ok k ∧ k ≠ g) v xs := by
 obtain ⟨A0, c0, hb, hg, hr0⟩ := h
 exact Kd.Q_types ho hb ht
theorem IsS99.own_neQ {w0 W : World} {g : Nat} {f0 : List Int} {f1 : Int} {α : Type} {d : Kd α} {e : Nat} {base : Nat} {ok : Nat → Prop} {v : Value} {xs : List α} (h : IsS99 w0 W g f0 f1) (ho : d.Q e W base ok v xs) (ht : e ≠ 99) : some g ≠ v.ownBlock := by
 obtain ⟨A0, c0, hb, hg, hr0⟩ := h
 exact Kd.Q_ne ho hb ht
theorem IsS99.apartS {w0 W : World} {g : Nat} {f0 : List Int} {f1 : Int} {α : Type} {d : Kd α} {e : Nat} {base : Nat} {ok : Nat → Prop} {v : Value} {xs : List α} (h : IsS99 w0 W g f0 f1) (ho : d.S e W base ok v xs) (ht : ∀ q, q ∈ e :: d.E → q ≠ 99) : d.S e W base (fun k => ok k ∧ k ≠ g) v xs := by
 obtain ⟨A0, c0, hb, hg, hr0⟩ := h
 exact Kd.S_types ho hb ht
theorem IsS99.own_neS {w0 W : World} {g : Nat} {f0 : List Int} {f1 : Int} {α : Type} {d : Kd α} {e : Nat} {base : Nat} {ok : Nat → Prop} {v : Value} {xs : List α} (h : IsS99 w0 W g f0 f1) (ho : d.S e W base ok v xs) (ht : e ≠ 99) : some g ≠ v.ownBlock := by
 obtain ⟨A0, c0, hb, hg, hr0⟩ := h
 exact Kd.S_ne ho hb ht
theorem IsS99.lt {w0 W : World} {g : Nat} {f0 : List Int} {f1 : Int} (h : IsS99 w0 W g f0 f1) : g < W.heap.size := by
 obtain ⟨A0, c0, hb, hg, hr0⟩ := h
 exact blk_lt hb
theorem IsS99.ge {w0 W : World} {g : Nat} {f0 : List Int} {f1 : Int} (h : IsS99 w0 W g f0 f1) : w0.heap.size ≤ g := by
 obtain ⟨A0, c0, hb, hg, hr0⟩ := h
 exact hg
theorem IsS99.ne_blk {w0 W : World} {g : Nat} {f0 : List Int} {f1 : Int} {a : Nat} {cs : Array Value} {t : TypeId} {fr : Nat × Nat} (h : IsS99 w0 W g f0 f1) (hb2 : W.heap[a]? = some (.cells cs t fr)) (ht : t ≠ 99) : g ≠ a := by
 obtain ⟨A0, c0, hb, hg, hr0⟩ := h
 rintro rfl
 rw [hb] at hb2
 injection hb2 with hb2
 injection hb2 with _ ht2
 exact ht ht2.symm
theorem IsS99.far {w0 W : World} {g : Nat} {f0 : List Int} {f1 : Int} {p : Addr} (h : IsS99 w0 W g f0 f1) (hne : g ≠ p.block) (u : Value) : IsS99 w0 (W.setCell p u) g f0 f1 := by
 obtain ⟨A0, c0, hb, hg, hr0⟩ := h
 exact ⟨A0, c0, blk_far hb hne u, hg, hr0⟩
theorem cellS99_0 {W : World} {g : Nat} {A0 : Option Addr} {c0 : Nat} {f0 : List Int} {f1 : Int} (h : W.heap[g]? = some (.cells #[.slice A0 f0.length c0, .int .i64 f1] 99 (0, 0))) : W.cell? ⟨g, 0, none⟩ = some (.slice A0 f0.length c0) := (blk_cell h 0).trans rfl
theorem cellS99_1 {W : World} {g : Nat} {A0 : Option Addr} {c0 : Nat} {f0 : List Int} {f1 : Int} (h : W.heap[g]? = some (.cells #[.slice A0 f0.length c0, .int .i64 f1] 99 (0, 0))) : W.cell? ⟨g, 1, none⟩ = some (.int .i64 f1) := (blk_cell h 1).trans rfl
theorem IsS99.set_1 {w0 W : World} {g : Nat} {f0 : List Int} {f1 : Int} (h : IsS99 w0 W g f0 f1) (x : Int) : IsS99 w0 (W.setCell ⟨g, 1, none⟩ (.int .i64 x)) g f0 x := by
 obtain ⟨A0, c0, hb, hg, hr0⟩ := h
 exact ⟨A0, c0, by simpa using blk_set hb 1 (.int .i64 x), hg, hr0⟩
theorem IsS99.new (w0 W : World) (A0 : Option Addr) (c0 : Nat) (f0 : List Int) (f1 : Int) (hB : Below w0.heap.size w0 W) (hr0 : Kd.C (Kd.int .u8) w0 A0 f0.length f0) : IsS99 w0 (W.alloc (.cells #[.slice A0 f0.length c0, .int .i64 f1] 99)) W.heap.size f0 f1 := ⟨A0, c0, by simpa using heap_alloc_new W _, hB.size, hr0⟩

def spec_l1Open.f (l0 : List Int) : Option (List Int × Int) := if (l0.length : Int) > 2000 then (if 2000 ≤ (l0.length : Int) then (some (l0.take 2000, 0)) else (none)) else (some (l0, 0))
set_option maxHeartbeats 8000000 in
set_option maxRecDepth 100000 in
theorem spec_l1Open.calls (A1 : Option Addr) (c1 : Nat) (l0 : List Int) (r1 : List Int) (r2 : Int) (w1 w : World) (hB : Below w1.heap.size w1 w) (hr0 : Kd.C (Kd.int .u8) w1 A1 l0.length l0) (hc0 : l0.length ≤ c1) (h : spec_l1Open.f l0 = some (r1, r2)) :
  Calls Try.prog 56 #[.slice A1 l0.length c1] w fun e w' => ∃ g_ : Nat, e = .returned (.pointer (some ⟨g_, 0, none⟩)) ∧ IsS99 w1 w' g_ r1 r2 ∧ Below w1.heap.size w1 w' ∧ Below w.heap.size w w' := by
 have hu99 := Try.underlying99
 have R1 := am hr0
 have C1 := am hc0
 clear hr0 hc0
 have HBW := am (Below.refl w.heap.size w)
 have HW0 := am hB.size
 have HB := am hB
 clear hB
 have H : (if (l0.length : Int) > 2000 then (if 2000 ≤ (l0.length : Int) then (some (l0.take 2000, 0)) else (none)) else (some (l0, 0))) = some (r1, r2) := h
 clear h
 by_cases c2 : (l0.length : Int) > 2000
 rotate_left
 ·rw [if_neg c2] at H
  have d1 := dF c2
  have d2 : decide (2000 < l0.length) = false := decide_eq_false (by omega)
  clear c2
  obtain ⟨rfl, rfl⟩ := sj2 H
  go_enter Try.func56, Try.ntmps56
  go_wp2_with (first | ((with_reducible refine gate_dst (N := 10) rfl ?_); refine bx 10 #[.slice A1 l0.length c1, .int .i64 0] 99 ?_; intro g1 hg w2 hbox hb; have K1 := am (hbox); have G1 := am (bs hg (Y0 HBW)); have G2 := am ((Nat.le_trans HW0.out (bs hg (Y0 HBW)) : w1.heap.size ≤ g1)); replace HBW := am (below_step HBW.out hb); replace HB := am (below_step (YA HB) hb); clear hb hbox hg))
  go_ret
  exact ⟨_, rfl, (show IsS99 w1 _ g1 l0 0 from ⟨_, _, Z K1, G2.out, R1.out⟩), YA HB, Y1 HBW G1⟩
 rw [if_pos c2] at H
 have d1 := dT c2
 have d2 : decide (2000 < l0.length) = true := decide_eq_true (by omega)
 clear c2
 by_cases c3 : 2000 ≤ (l0.length : Int)
 rotate_left
 ·rw [if_neg c3] at H
  exact absurd H (by simp)
 rw [if_pos c3] at H
 have d3 := eq_true c3
 have d4 := dT c3
 clear c3
 obtain ⟨rfl, rfl⟩ := sj2 H
 obtain ⟨i04, hi04, _, hsz4, _⟩ := info_parts info5
 obtain ⟨hcut4, hA4, hC4⟩ := print_take_of (P := Try.prog) (Value.int .u8) 0 33 5 .i64 Try.underlying33 hi04 hsz4 A1 c1 l0 2000 (by omega) (oz) C1.out
 have R2 := am (Kd.C_of_reads (h1 := fun _ => rfl) (hA4 _ (Kd.reads_of_C R1.out)))
 have C2 := am hC4
 clear hA4 hC4 hi04 hsz4
 go_enter Try.func56, Try.ntmps56
 go_wp2_with (first | ((with_reducible refine gate_dst (N := 10) rfl ?_); refine bx 10 #[.slice A1 (l0.take 2000).length c1, .int .i64 0] 99 ?_; intro g1 hg w2 hbox hb; have K1 := am (hbox); have G1 := am (bs hg (Y0 HBW)); have G2 := am ((Nat.le_trans HW0.out (bs hg (Y0 HBW)) : w1.heap.size ≤ g1)); replace HBW := am (below_step HBW.out hb); replace HB := am (below_step (YA HB) hb); clear hb hbox hg))
 go_ret
 exact ⟨_, rfl, (show IsS99 w1 _ g1 (l0.take 2000) 0 from ⟨_, _, Z K1, G2.out, R2.out⟩), YA HB, Y1 HBW G1⟩

def spec_l1Rd_pick.j0 : Nat → Int → Bool → List Int → Int → Option (Int × Int)
 | 0, _, _, _, _ => none
 | k + 1, x1, x2, x3, x4 => if x2 = true then (some (0, x4)) else (if (wrap64 (x4 - 1)) < (x3.length : Int) then (if 0 ≤ (wrap64 (x4 - 1)) then (if x1 = 0 then (none) else (some (Int.tmod (wrap64 (rd x3 (wrap64 (x4 - 1)))) x1, x4))) else (none)) else (if (x3.length : Int) = 0 then (none) else (if 0 ≤ (Int.tmod (wrap64 (x4 - 1)) (x3.length : Int)) then (if (Int.tmod (wrap64 (x4 - 1)) (x3.length : Int)) < (x3.length : Int) then (if 0 ≤ (Int.tmod (wrap64 ((wrap64 ((wrap64 (x4 - 1)) * 7)) + 3)) (x3.length : Int)) then (if (Int.tmod (wrap64 ((wrap64 ((wrap64 (x4 - 1)) * 7)) + 3)) (x3.length : Int)) < (x3.length : Int) then (if x1 = 0 then (none) else (some (Int.tmod (Go.bits .xor .i64 (wrap64 ((wrap64 ((wrap64 ((wrap64 ((wrap64 (rd x3 (Int.tmod (wrap64 (x4 - 1)) (x3.length : Int)))) * 131)) + (wrap64 ((wrap64 (rd x3 (Int.tmod (wrap64 ((wrap64 ((wrap64 (x4 - 1)) * 7)) + 3)) (x3.length : Int)))) * 1117)))) + (wrap64 ((wrap64 (x4 - 1)) * 29)))) + (wrap64 ((wrap64 (Int.tdiv (wrap64 (x4 - 1)) (x3.length : Int))) * 53)))) (wrap64 (Int.tdiv (wrap64 ((wrap64 ((wrap64 ((wrap64 ((wrap64 (rd x3 (Int.tmod (wrap64 (x4 - 1)) (x3.length : Int)))) * 131)) + (wrap64 ((wrap64 (rd x3 (Int.tmod (wrap64 ((wrap64 ((wrap64 (x4 - 1)) * 7)) + 3)) (x3.length : Int)))) * 1117)))) + (wrap64 ((wrap64 (x4 - 1)) * 29)))) + (wrap64 ((wrap64 (Int.tdiv (wrap64 (x4 - 1)) (x3.length : Int))) * 53)))) 64))) x1, x4))) else (none)) else (none)) else (none)) else (none))))
def spec_l1Rd_pick.f (k : Nat) (s0_0 : List Int) (s0_1 : Int) (a1 : Int) : Option (Int × Int) := if a1 < 1 then (spec_l1Rd_pick.j0 k a1 true s0_0 (wrap64 (s0_1 + 1))) else (spec_l1Rd_pick.j0 k a1 ((s0_0.length : Int) == 0) s0_0 (wrap64 (s0_1 + 1)))
theorem spec_l1Rd_pick.mono_l : ∀ k, (∀ y0 y1 y2 y3, LeO (spec_l1Rd_pick.j0 k y0 y1 y2 y3) (spec_l1Rd_pick.j0 (k + 1) y0 y1 y2 y3))
 | 0 => fun _ _ _ _ r h => by simp [spec_l1Rd_pick.j0] at h
 | k + 1 => by
  have ih0 := spec_l1Rd_pick.mono_l k
  ·intro y0 y1 y2 y3
   unfold spec_l1Rd_pick.j0
   repeat' first | (with_reducible first | apply ih0 | apply LeO.refl | apply LeO.none | refine LeO.ite ?_ ?_ | refine LeO.bind ?_ (fun _ => ?_)) | apply ih0 | apply LeO.none | refine LeO.ite ?_ ?_ | refine LeO.bind ?_ (fun _ => ?_)
theorem spec_l1Rd_pick.mono : ∀ a0 a1 a2 k, LeO (spec_l1Rd_pick.f k a0 a1 a2) (spec_l1Rd_pick.f (k + 1) a0 a1 a2) := by
 intro a0 a1 a2 k
 have ih0 := spec_l1Rd_pick.mono_l k
 unfold spec_l1Rd_pick.f
 repeat' first | (with_reducible first | apply ih0 | apply LeO.refl | apply LeO.none | refine LeO.ite ?_ ?_ | refine LeO.bind ?_ (fun _ => ?_)) | apply ih0 | apply LeO.none | refine LeO.ite ?_ ?_ | refine LeO.bind ?_ (fun _ => ?_)
set_option maxHeartbeats 8000000 in
set_option maxRecDepth 100000 in
theorem spec_l1Rd_pick.calls (k : Nat) (g : Nat) (s0_0 : List Int) (s0_1 : Int) (a1 : Int) (r1 : Int) (r2 : Int) (w1 w : World) (hI : IsS99 w1 w g s0_0 s0_1) (hB : Below w1.heap.size w1 w) (h : spec_l1Rd_pick.f k s0_0 s0_1 a1 = some (r1, r2)) :
  Calls Try.prog 57 #[.pointer (some ⟨g, 0, none⟩), .int .i64 a1] w fun e w' => e = .returned (.int .i64 r1) ∧ IsS99 w1 w' g s0_0 r2 ∧ Below w1.heap.size w1 w' ∧ KeepBut w w' g none := by
 have I1 := am hI
 have HK := am (KeepBut.refl w g none)
 have HL := am hB.size
 clear hI
 have HW0 := am hB.size
 have HB := am hB
 clear hB
 have H : (if a1 < 1 then (spec_l1Rd_pick.j0 k a1 true s0_0 (wrap64 (s0_1 + 1))) else (spec_l1Rd_pick.j0 k a1 ((s0_0.length : Int) == 0) s0_0 (wrap64 (s0_1 + 1)))) = some (r1, r2) := h
 clear h
 have C1 := am H
 clear H
 obtain ⟨ASz4_0, cSz4_0, Z1, hgz4, HSz4_0⟩ := I1.out
 have z1 := cellS99_0 Z1
 have z2 := cellS99_1 Z1
 have z3 := blk_frozen Z1 1
 clear Z1 hgz4
 go_enter Try.func57, Try.ntmps57
 go_upto_region 2 with (fail)
 repeat (go_quiet (fail); go_upto_region 2 with (fail))
 go_cut [24] (fun v1 wc => ∃ (kq : Nat) (x1 : Bool), v1 = .bool x1 ∧ Aside0 (spec_l1Rd_pick.j0 kq a1 x1 s0_0 (wrap64 (s0_1 + 1)) = some (r1, r2)) ∧ Aside0 (kq ≤ k) ∧ Aside0 (IsS99 w1 wc g s0_0 (wrap64 (s0_1 + 1))) ∧ Aside0 (KeepBut w wc g none) ∧ Aside0 (Below w1.heap.size w1 wc))
 case first =>
  have H := C1.out
  clear C1
  by_cases c1 : a1 < 1
  ·rw [if_pos c1] at H
   have d1 := dT c1
   clear c1
   (first | rw [d1] | (simp only [i64_w, i32_w]; rw [d1]) | skip)
   have H' := am H
   clear H
   go_wp2
   repeat (go_quiet (fail); try go_wp2)
   go_meet
   case rel => exact ⟨_, (true), ey, H', le0, ⟨qs2⟩, ⟨qs3⟩, ⟨qs7⟩⟩
  rw [if_neg c1] at H
  have d1 := dF c1
  clear c1
  (first | rw [d1] | (simp only [i64_w, i32_w]; rw [d1]) | skip)
  have H' := am H
  clear H
  obtain ⟨ASz6_0, cSz6_0, Z2, hgz6, HSz6_0⟩ := I1.out
  have z4 := cellS99_0 Z2
  have z5 := cellS99_1 Z2
  have z6 := blk_frozen Z2 1
  clear Z2 hgz6
  go_wp2
  repeat (go_quiet (fail); try go_wp2)
  go_meet
  case rel => exact ⟨_, (((s0_0.length : Int) == 0)), ey, H', le0, ⟨qs2⟩, ⟨qs3⟩, ⟨qs7⟩⟩
 clear C1
 obtain ⟨kq, x1, rfl, HA, J1, I1, HK, HB⟩ := hcut
 cases kq with
 | zero => exact absurd HA.out (by simp [spec_l1Rd_pick.j0])
 | succ k1 => ?_
 have H := HA.out
 clear HA
 simp only [spec_l1Rd_pick.j0] at H
 by_cases c1 : x1 = true
 ·subst c1
  rw [if_pos rfl] at H
  obtain ⟨rfl, rfl⟩ := sj2 H
  go_wp2
  repeat (go_quiet (fail); try go_wp2)
  go_ret
  exact ⟨ez, qs2, qs7, qs3⟩
 replace c1 := Bool.eq_false_iff.mpr c1
 subst c1
 rw [if_neg ff] at H
 by_cases c2 : (wrap64 ((wrap64 (s0_1 + 1)) - 1)) < (s0_0.length : Int)
 ·rw [if_pos c2] at H
  have d1 := dT c2
  clear c2
  obtain ⟨i1, j7⟩ : ∃ j_ : Int, (wrap64 ((wrap64 (s0_1 + 1)) - 1)) = j_ := ⟨_, rfl⟩
  replace H : (if 0 ≤ (i1) then (if a1 = 0 then (none) else (some (Int.tmod (wrap64 (rd s0_0 (i1))) a1, (wrap64 (s0_1 + 1))))) else (none)) = some (r1, r2) := by first | (rw [j7] at H; exact H) | (simp only [j7] at H ⊢; exact H)
  (try rw [j7] at d1)
  have hji9w : (IntKind.i64.wrap ((wrap64 (s0_1 + 1)) - 1)) = i1 := (i64_w _).trans j7
  by_cases c3 : 0 ≤ (i1)
  rotate_left
  ·rw [if_neg c3] at H
   exact absurd H (by simp)
  rw [if_pos c3] at H
  have d2 := dT c3
  clear c3
  by_cases c4 : a1 = 0
  ·rw [if_pos c4] at H
   exact absurd H (by simp)
  rw [if_neg c4] at H
  have d3 := eF c4
  have d4 := nT c4
  obtain ⟨rfl, rfl⟩ := sj2 H
  obtain ⟨ASz12_0, cSz12_0, Z2, hgz12, HSz12_0⟩ := I1.out
  have z4 := cellS99_0 Z2
  have z5 := cellS99_1 Z2
  have z6 := blk_frozen Z2 1
  clear Z2 hgz12
  have p451 : 0 ≤ ((i1) : Int) := oz
  have q451 : (i1) < (s0_0.length : Int) := oz
  obtain ⟨ad451, e451, hx451_0⟩ := Kd.at_int HSz12_0 (i1) p451 q451
  cases e451
  replace hx451_0 := pw_cell_below HB.out hx451_0
  replace p451 := eq_true p451
  replace q451 := eq_true q451
  go_wp2
  repeat (go_quiet (fail); try go_wp2)
  go_ret
  exact ⟨by first | rfl | (simp [errW_none, errW_some] <;> rfl) | (simp only [← j7]; first | rfl | (simp [errW_none, errW_some] <;> rfl)) | (simp [*, errW_none, errW_some] <;> rfl), qs2, qs7, qs3⟩
 rw [if_neg c2] at H
 have d1 := dF c2
 clear c2
 by_cases c3 : (s0_0.length : Int) = 0
 ·rw [if_pos c3] at H
  exact absurd H (by simp)
 rw [if_neg c3] at H
 have d2 := eF c3
 have d3 := nT c3
 have d4 : ¬ (s0_0 = []) := fun h_ => c3 (by rw [h_]; rfl)
 obtain ⟨i1, j7⟩ : ∃ j_ : Int, (Int.tmod (wrap64 ((wrap64 (s0_1 + 1)) - 1)) (s0_0.length : Int)) = j_ := ⟨_, rfl⟩
 replace H : (if 0 ≤ (i1) then (if (i1) < (s0_0.length : Int) then (if 0 ≤ (Int.tmod (wrap64 ((wrap64 ((wrap64 ((wrap64 (s0_1 + 1)) - 1)) * 7)) + 3)) (s0_0.length : Int)) then (if (Int.tmod (wrap64 ((wrap64 ((wrap64 ((wrap64 (s0_1 + 1)) - 1)) * 7)) + 3)) (s0_0.length : Int)) < (s0_0.length : Int) then (if a1 = 0 then (none) else (some (Int.tmod (Go.bits .xor .i64 (wrap64 ((wrap64 ((wrap64 ((wrap64 ((wrap64 (rd s0_0 (i1))) * 131)) + (wrap64 ((wrap64 (rd s0_0 (Int.tmod (wrap64 ((wrap64 ((wrap64 ((wrap64 (s0_1 + 1)) - 1)) * 7)) + 3)) (s0_0.length : Int)))) * 1117)))) + (wrap64 ((wrap64 ((wrap64 (s0_1 + 1)) - 1)) * 29)))) + (wrap64 ((wrap64 (Int.tdiv (wrap64 ((wrap64 (s0_1 + 1)) - 1)) (s0_0.length : Int))) * 53)))) (wrap64 (Int.tdiv (wrap64 ((wrap64 ((wrap64 ((wrap64 ((wrap64 (rd s0_0 (i1))) * 131)) + (wrap64 ((wrap64 (rd s0_0 (Int.tmod (wrap64 ((wrap64 ((wrap64 ((wrap64 (s0_1 + 1)) - 1)) * 7)) + 3)) (s0_0.length : Int)))) * 1117)))) + (wrap64 ((wrap64 ((wrap64 (s0_1 + 1)) - 1)) * 29)))) + (wrap64 ((wrap64 (Int.tdiv (wrap64 ((wrap64 (s0_1 + 1)) - 1)) (s0_0.length : Int))) * 53)))) 64))) a1, (wrap64 (s0_1 + 1))))) else (none)) else (none)) else (none)) else (none)) = some (r1, r2) := by first | (rw [j7] at H; exact H) | (simp only [j7] at H ⊢; exact H)
 by_cases c4 : 0 ≤ (i1)
 rotate_left
 ·rw [if_neg c4] at H
  exact absurd H (by simp)
 rw [if_pos c4] at H
 have d5 := dT c4
 clear c4
 by_cases c5 : (i1) < (s0_0.length : Int)
 rotate_left
 ·rw [if_neg c5] at H
  exact absurd H (by simp)
 rw [if_pos c5] at H
 have d6 := dT c5
 clear c5
 obtain ⟨i2, j8⟩ : ∃ j_ : Int, (Int.tmod (wrap64 ((wrap64 ((wrap64 ((wrap64 (s0_1 + 1)) - 1)) * 7)) + 3)) (s0_0.length : Int)) = j_ := ⟨_, rfl⟩
 replace H : (if 0 ≤ (i2) then (if (i2) < (s0_0.length : Int) then (if a1 = 0 then (none) else (some (Int.tmod (Go.bits .xor .i64 (wrap64 ((wrap64 ((wrap64 ((wrap64 ((wrap64 (rd s0_0 (i1))) * 131)) + (wrap64 ((wrap64 (rd s0_0 (i2))) * 1117)))) + (wrap64 ((wrap64 ((wrap64 (s0_1 + 1)) - 1)) * 29)))) + (wrap64 ((wrap64 (Int.tdiv (wrap64 ((wrap64 (s0_1 + 1)) - 1)) (s0_0.length : Int))) * 53)))) (wrap64 (Int.tdiv (wrap64 ((wrap64 ((wrap64 ((wrap64 ((wrap64 (rd s0_0 (i1))) * 131)) + (wrap64 ((wrap64 (rd s0_0 (i2))) * 1117)))) + (wrap64 ((wrap64 ((wrap64 (s0_1 + 1)) - 1)) * 29)))) + (wrap64 ((wrap64 (Int.tdiv (wrap64 ((wrap64 (s0_1 + 1)) - 1)) (s0_0.length : Int))) * 53)))) 64))) a1, (wrap64 (s0_1 + 1))))) else (none)) else (none)) = some (r1, r2) := by first | (rw [j8] at H; exact H) | (simp only [j8] at H ⊢; exact H)
 by_cases c6 : 0 ≤ (i2)
 rotate_left
 ·rw [if_neg c6] at H
  exact absurd H (by simp)
 rw [if_pos c6] at H
 have d7 := dT c6
 clear c6
 by_cases c7 : (i2) < (s0_0.length : Int)
 rotate_left
 ·rw [if_neg c7] at H
  exact absurd H (by simp)
 rw [if_pos c7] at H
 have d8 := dT c7
 clear c7
 by_cases c8 : a1 = 0
 ·rw [if_pos c8] at H
  exact absurd H (by simp)
 rw [if_neg c8] at H
 have d9 := eF c8
 have d10 := nT c8
 obtain ⟨rfl, rfl⟩ := sj2 H
 obtain ⟨ASz21_0, cSz21_0, Z2, hgz21, HSz21_0⟩ := I1.out
 have z4 := cellS99_0 Z2
 have z5 := cellS99_1 Z2
 have z6 := blk_frozen Z2 1
 clear Z2 hgz21
 have p452 : 0 ≤ ((i1) : Int) := oz
 have q452 : (i1) < (s0_0.length : Int) := oz
 obtain ⟨ad452, e452, hx452_0⟩ := Kd.at_int HSz21_0 (i1) p452 q452
 cases e452
 replace hx452_0 := pw_cell_below HB.out hx452_0
 replace p452 := eq_true p452
 replace q452 := eq_true q452
 have p453 : 0 ≤ ((i2) : Int) := oz
 have q453 : (i2) < (s0_0.length : Int) := oz
 obtain ⟨ad453, e453, hx453_0⟩ := Kd.at_int HSz21_0 (i2) p453 q453
 obtain rfl : ad452 = ad453 := (by injection e453)
 replace hx453_0 := pw_cell_below HB.out hx453_0
 replace p453 := eq_true p453
 replace q453 := eq_true q453
 go_wp2
 repeat (go_quiet (fail); try go_wp2)
 go_ret
 exact ⟨by first | rfl | (simp [errW_none, errW_some] <;> rfl) | (simp only [← j7, ← j8]; first | rfl | (simp [errW_none, errW_some] <;> rfl)) | (simp [*, errW_none, errW_some] <;> rfl), qs2, qs7, qs3⟩

def spec_l8None.f  : Option (Int × Int) := some (1, 0)
set_option maxHeartbeats 8000000 in
set_option maxRecDepth 100000 in
theorem spec_l8None.calls  (r1 : Int) (r2 : Int) (w : World) (h : spec_l8None.f  = some (r1, r2)) :
  Calls Try.prog 38 #[] w fun e w' => e = .returned (.agg #[.int .i64 r1, .int .i64 r2]) ∧ Below w.heap.size w w' := by
 have hu24 := Try.underlying24
 have HB := am (Below.refl w.heap.size w)
 have H : (some (1, 0)) = some (r1, r2) := h
 clear h
 obtain ⟨rfl, rfl⟩ := sj2 H
 go_enter Try.func38, Try.ntmps38
 go_wp2_with (first | ((with_reducible refine gate_dst (N := 0) rfl ?_); refine bxn 0 #[.int .i64 0, .int .i64 0] 24 HB fun g1 w1 K1 G1 hg hb => ?_; replace HB := am (below_step (YA HB) hb); clear hb hg; have := cB2 K1))
 refine bodyPost_ret (results_cell_row rfl _ _ g1 24 #[.int .i64 1, .int .i64 0] (0, 0) _ rfl (by refine pf ?_; refine bp (ia2 1 0) ?_ 1; refine pf ?_; refine bp (ia2 0 0) ?_ 0; exact Z K1) Try.underlying24 rfl (by kernel_rfl)) rfl ?_
 exact ⟨ez, YA HB⟩

def spec_l8Min.f (a0 : Int) (a1 : Int) : Option (Int) := if a0 < a1 then (some a0) else (some a1)
set_option maxHeartbeats 8000000 in
set_option maxRecDepth 100000 in
theorem spec_l8Min.calls (a0 : Int) (a1 : Int) (r : Int) (w : World) (h : spec_l8Min.f a0 a1 = some r) :
  Calls Try.prog 68 #[.int .i64 a0, .int .i64 a1] w fun e w' => e = .returned (.int .i64 r) ∧ Drawn0 w w' := by
 have H : (if a0 < a1 then (some a0) else (some a1)) = some r := h
 clear h
 by_cases c1 : a0 < a1
 ·rw [if_pos c1] at H
  have d1 := dT c1
  clear c1
  obtain rfl := Option.some.inj H
  go_enter Try.func68, Try.ntmps68
  go_wp2
  go_ret
  exact ⟨by first | rfl | (simp; done) | (simp [*]; done), qs1⟩
 rw [if_neg c1] at H
 have d1 := dF c1
 clear c1
 obtain rfl := Option.some.inj H
 go_enter Try.func68, Try.ntmps68
 go_wp2
 go_ret
 exact ⟨by first | rfl | (simp; done) | (simp [*]; done), qs1⟩

def spec_l8Max.f (a0 : Int) (a1 : Int) : Option (Int) := if a0 > a1 then (some a0) else (some a1)
set_option maxHeartbeats 8000000 in
set_option maxRecDepth 100000 in
theorem spec_l8Max.calls (a0 : Int) (a1 : Int) (r : Int) (w : World) (h : spec_l8Max.f a0 a1 = some r) :
  Calls Try.prog 69 #[.int .i64 a0, .int .i64 a1] w fun e w' => e = .returned (.int .i64 r) ∧ Drawn0 w w' := by
 have H : (if a0 > a1 then (some a0) else (some a1)) = some r := h
 clear h
 by_cases c1 : a0 > a1
 ·rw [if_pos c1] at H
  have d1 := dT c1
  clear c1
  obtain rfl := Option.some.inj H
  go_enter Try.func69, Try.ntmps69
  go_wp2
  go_ret
  exact ⟨by first | rfl | (simp; done) | (simp [*]; done), qs1⟩
 rw [if_neg c1] at H
 have d1 := dF c1
 clear c1
 obtain rfl := Option.some.inj H
 go_enter Try.func69, Try.ntmps69
 go_wp2
 go_ret
 exact ⟨by first | rfl | (simp; done) | (simp [*]; done), qs1⟩

def spec_l8Cut.f (a0 : Int) (a1 : Int) : Option (Int × Int) := (spec_l8Max.f a0 (-2147483648)).bind fun t1 => ((spec_l8Min.f a1 2147483647).bind fun t2 => (if t1 > t2 then ((spec_l8None.f).bind fun u1 => (some (u1.1, u1.2))) else (some (t1, t2))))
set_option maxHeartbeats 8000000 in
set_option maxRecDepth 100000 in
theorem spec_l8Cut.calls (a0 : Int) (a1 : Int) (r1 : Int) (r2 : Int) (w : World) (h : spec_l8Cut.f a0 a1 = some (r1, r2)) :
  Calls Try.prog 44 #[.int .i64 a0, .int .i64 a1] w fun e w' => e = .returned (.agg #[.int .i64 r1, .int .i64 r2]) ∧ Below w.heap.size w w' := by
 have hu24 := Try.underlying24
 have HB := am (Below.refl w.heap.size w)
 have H : ((spec_l8Max.f a0 (-2147483648)).bind fun t1 => ((spec_l8Min.f a1 2147483647).bind fun t2 => (if t1 > t2 then ((spec_l8None.f).bind fun u1 => (some (u1.1, u1.2))) else (some (t1, t2))))) = some (r1, r2) := h
 clear h
 obtain ⟨t1, A1, H⟩ := bd H
 try dsimp only at H
 obtain ⟨t2, A2, H⟩ := bd H
 try dsimp only at H
 by_cases c1 : t1 > t2
 rotate_left
 ·rw [if_neg c1] at H
  have d1 := dF c1
  clear c1
  obtain ⟨rfl, rfl⟩ := sj2 H
  go_enter Try.func44, Try.ntmps44
  go_wp2_with (first | ((with_reducible refine gate_dst (N := 4) rfl ?_); refine bxn 4 #[.int .i64 0, .int .i64 0] 24 HB fun g1 w1 K1 G1 hg hb => ?_; replace HB := am (below_step (YA HB) hb); clear hb hg) | ((with_reducible refine gate_callee (f := 69) rfl ?_); refine goesL_ (some 8) rfl rfl Try.func69 (by kernel_rfl) rfl #[.int .i64 a0, .int .i64 (-2147483648)] rfl mz ?_; (with_reducible refine (spec_l8Max.calls _ _ _ _ A1.out).mono ?_); rintro e w' ⟨rfl, ⟨nd, rfl⟩⟩; refine ⟨_, rfl, ?_⟩; (try (rw [drewN_self w1]; generalize hq_ : World.drewN w1 _ = w1; replace K1 : Bx2 w1 g1 0 0 24 := ⟨by rw [← hq_]; exact (Z K1)⟩; replace HB : Aside0 (Below w.heap.size w w1) := ⟨by rw [← hq_]; exact (YA HB)⟩; clear hq_))) | ((with_reducible refine gate_callee (f := 68) rfl ?_); refine goesL_ (some 10) rfl rfl Try.func68 (by kernel_rfl) rfl #[.int .i64 a1, .int .i64 2147483647] rfl mz ?_; (with_reducible refine (spec_l8Min.calls _ _ _ _ A2.out).mono ?_); rintro e w' ⟨rfl, ⟨nd, rfl⟩⟩; refine ⟨_, rfl, ?_⟩; (try (rw [drewN_self w1]; generalize hq_ : World.drewN w1 _ = w1; replace K1 : Bx2 w1 g1 0 0 24 := ⟨by rw [← hq_]; exact (Z K1)⟩; replace HB : Aside0 (Below w.heap.size w w1) := ⟨by rw [← hq_]; exact (YA HB)⟩; clear hq_)); have := cB2 K1))
  refine bodyPost_ret (results_cell_row rfl _ _ g1 24 #[.int .i64 t1, .int .i64 t2] (0, 0) _ rfl (by refine pf ?_; refine bp (ia2 t1 0) ?_ 1; refine pf ?_; refine bp (ia2 0 0) ?_ 0; exact Z K1) Try.underlying24 rfl (by kernel_rfl)) rfl ?_
  exact ⟨ez, YA HB⟩
 rw [if_pos c1] at H
 have d1 := dT c1
 clear c1
 obtain ⟨⟨t3, t4⟩, A3, H⟩ := bd H
 try dsimp only at H
 obtain ⟨rfl, rfl⟩ := sj2 H
 go_enter Try.func44, Try.ntmps44
 go_wp2_with (first | ((with_reducible refine gate_dst (N := 4) rfl ?_); refine bxn 4 #[.int .i64 0, .int .i64 0] 24 HB fun g1 w1 K1 G1 hg hb => ?_; replace HB := am (below_step (YA HB) hb); clear hb hg) | ((with_reducible refine gate_callee (f := 69) rfl ?_); refine goesL_ (some 8) rfl rfl Try.func69 (by kernel_rfl) rfl #[.int .i64 a0, .int .i64 (-2147483648)] rfl mz ?_; (with_reducible refine (spec_l8Max.calls _ _ _ _ A1.out).mono ?_); rintro e w' ⟨rfl, ⟨nd, rfl⟩⟩; refine ⟨_, rfl, ?_⟩; (try (rw [drewN_self w1]; generalize hq_ : World.drewN w1 _ = w1; replace K1 : Bx2 w1 g1 0 0 24 := ⟨by rw [← hq_]; exact (Z K1)⟩; replace HB : Aside0 (Below w.heap.size w w1) := ⟨by rw [← hq_]; exact (YA HB)⟩; clear hq_))) | ((with_reducible refine gate_callee (f := 68) rfl ?_); refine goesL_ (some 10) rfl rfl Try.func68 (by kernel_rfl) rfl #[.int .i64 a1, .int .i64 2147483647] rfl mz ?_; (with_reducible refine (spec_l8Min.calls _ _ _ _ A2.out).mono ?_); rintro e w' ⟨rfl, ⟨nd, rfl⟩⟩; refine ⟨_, rfl, ?_⟩; (try (rw [drewN_self w1]; generalize hq_ : World.drewN w1 _ = w1; replace K1 : Bx2 w1 g1 0 0 24 := ⟨by rw [← hq_]; exact (Z K1)⟩; replace HB : Aside0 (Below w.heap.size w w1) := ⟨by rw [← hq_]; exact (YA HB)⟩; clear hq_))) | ((with_reducible refine gate_callee (f := 38) rfl ?_); refine gL 14 Try.func38 (spec_l8None.calls _ _ _ A3.out) fun w2 hb => ?_; obtain ⟨K1, HB⟩ := bk1 K1 HB hb; (try clear hb); have := cB2 K1))
 refine bodyPost_ret (results_cell_row rfl _ _ g1 24 #[.int .i64 t3, .int .i64 t4] (0, 0) _ rfl (by refine pf ?_; refine bp (ia2 t3 0) ?_ 1; refine pf ?_; refine bp (ia2 0 0) ?_ 0; exact Z K1) Try.underlying24 rfl (by kernel_rfl)) rfl ?_
 exact ⟨ez, YA HB⟩

def spec_l1In.f (a0 : Int) (a1 : Int) (a2 : Int) : Option (Bool) := if a0 ≥ a1 then (some (decide (a0 ≤ a2))) else (some false)
set_option maxHeartbeats 8000000 in
set_option maxRecDepth 100000 in
theorem spec_l1In.calls (a0 : Int) (a1 : Int) (a2 : Int) (r : Bool) (w : World) (h : spec_l1In.f a0 a1 a2 = some r) :
  Calls Try.prog 37 #[.int .i64 a0, .int .i64 a1, .int .i64 a2] w fun e w' => e = .returned (.bool r) ∧ Drawn0 w w' := by
 have H : (if a0 ≥ a1 then (some (decide (a0 ≤ a2))) else (some false)) = some r := h
 clear h
 by_cases c1 : a0 ≥ a1
 ·rw [if_pos c1] at H
  have d1 := dT c1
  clear c1
  obtain rfl := Option.some.inj H
  go_enter Try.func37, Try.ntmps37
  go_wp2
  go_ret
  exact ⟨by first | rfl | (simp; done) | (simp [*]; done), qs1⟩
 rw [if_neg c1] at H
 have d1 := dF c1
 clear c1
 obtain rfl := Option.some.inj H
 go_enter Try.func37, Try.ntmps37
 go_wp2
 go_ret
 exact ⟨by first | rfl | (simp; done) | (simp [*]; done), qs1⟩

def spec_NumOk.f (a0 : Int) : Option (Bool) := (spec_l1In.f a0 (-2147483648) 2147483647).bind fun t1 => (some t1)
set_option maxHeartbeats 8000000 in
set_option maxRecDepth 100000 in
theorem spec_NumOk.calls (a0 : Int) (r : Bool) (w : World) (h : spec_NumOk.f a0 = some r) :
  Calls Try.prog 19 #[.int .i64 a0] w fun e w' => e = .returned (.bool r) ∧ Drawn0 w w' := by
 have H : ((spec_l1In.f a0 (-2147483648) 2147483647).bind fun t1 => (some t1)) = some r := h
 clear h
 obtain ⟨t1, A1, H⟩ := bd H
 try dsimp only at H
 obtain rfl := Option.some.inj H
 go_enter Try.func19, Try.ntmps19
 go_wp2_with (first | ((with_reducible refine gate_callee (f := 37) rfl ?_); refine goesL_ (some 4) rfl rfl Try.func37 (by kernel_rfl) rfl #[.int .i64 a0, .int .i64 (-2147483648), .int .i64 2147483647] rfl mz ?_; (with_reducible refine (spec_l1In.calls _ _ _ _ _ A1.out).mono ?_); rintro e w' ⟨rfl, ⟨nd, rfl⟩⟩; refine ⟨_, rfl, ?_⟩))
 go_ret
 exact ⟨by first | rfl | (simp; done) | (simp [*]; done), qs1⟩
end
section
attribute [local go_sem] max2_int min2_int max_two min_two max_three min_three max_four min_four
attribute [local go_sem high] eqA24
attribute [local go_sem] Go.Proofs.YthbkakcchgnhpaaSet.isSome_setCell
def spec_RangeOk.f (a0_0 : Int) (a0_1 : Int) : Option (Bool) := (spec_l8None.f).bind fun u1 => (if (a0_0 == u1.1 && (a0_1 == u1.2)) = true then (some true) else ((spec_NumOk.f a0_0).bind fun t1 => (if t1 = true then ((spec_NumOk.f a0_1).bind fun t2 => (if t2 = true then (some (decide (a0_0 ≤ a0_1))) else (some false))) else (some false))))
def spec_RangeOk.T1 : Bool × List (List Nat × List Nat) := (true, [([], []), ([], []), ([0, 1], [0, 1]), ([2, 1], [2]), ([3], [3]), ([4, 3], [3, 4]), ([5, 3, 3], [3, 5]), ([6, 6, 3], [3, 6]), ([7], [7]), ([8, 7], [7, 8]), ([9, 7, 7], [7, 9]), ([7, 10, 3], [3, 7, 10]), ([11, 10, 3], [3, 11]), ([12], [12]), ([13, 12], [12, 13]), ([12], [12]), ([15, 12], [12, 15]), ([14, 16, 12], [12, 14, 16]), ([12, 17, 3], [3, 12, 17]), ([3, 18], [3, 18]), ([19, 12, 0, 1, 2, 3, 4, 5, 6, 7, 8, 9, 10, 11, 12, 13, 14, 15, 16, 17, 18, 19], [19])])
def spec_RangeOk.B1 : List Nat := [0, 0, 3, 7, 15, 31, 63, 127, 255, 511, 1023, 2047, 4095, 8191, 16383, 8191, 40959, 131071, 262143, 524287, 1048575]
theorem spec_RangeOk.tab1 : rtab .any (opsOf Try.f24 1) = spec_RangeOk.T1 := by kernel_rfl
theorem spec_RangeOk.bits1 : waitsOk spec_RangeOk.T1.2 spec_RangeOk.B1 = true := by kernel_rfl
set_option maxHeartbeats 8000000 in
set_option maxRecDepth 100000 in
theorem spec_RangeOk.calls (a0_0 : Int) (a0_1 : Int) (r : Bool) (w : World) (h : spec_RangeOk.f a0_0 a0_1 = some r) :
  Calls Try.prog 24 #[.agg #[.int .i64 a0_0, .int .i64 a0_1]] w fun e w' => e = .returned (.bool r) ∧ Below w.heap.size w w' := by
 have hu24 := Try.underlying24
 have HB := am (Below.refl w.heap.size w)
 have H : ((spec_l8None.f).bind fun u1 => (if (a0_0 == u1.1 && (a0_1 == u1.2)) = true then (some true) else ((spec_NumOk.f a0_0).bind fun t1 => (if t1 = true then ((spec_NumOk.f a0_1).bind fun t2 => (if t2 = true then (some (decide (a0_0 ≤ a0_1))) else (some false))) else (some false))))) = some r := h
 clear h
 obtain ⟨⟨t3, t4⟩, A1, H⟩ := bd H
 try dsimp only at H
 by_cases c1 : (a0_0 == t3 && (a0_1 == t4)) = true
 ·rw [if_pos c1] at H
  have d1 : (a0_0 == t3 && (a0_1 == t4)) = true := c1
  (try (have d2 : decide (a0_0 = t3 && (a0_1 == t4)) = true := by simpa using c1))
  (try (have d3 : (a0_0 == t3 && (a0_1 == t4)) = true := by simpa using c1))
  clear c1
  obtain rfl := Option.some.inj H
  go_enter Try.func24, Try.ntmps24
  try go_wp2_with (first | ((with_reducible refine gate_dst (N := 1) rfl ?_); refine bxn 1 #[.int .i64 a0_0, .int .i64 a0_1] 24 HB fun g1 w1 K1 G1 hg hb => ?_; replace HB := am (below_step (YA HB) hb); clear hb hg))
  obtain ⟨K1, HB⟩ := dk1 K1 HB
  refine start_ (n := 21) (S := fun w' => ce2 w' g1 a0_0 a0_1) (ds := []) (lb 21 0) (by kernel_rfl) rfl rfl (cc2 K1) (fun hHeld => ?_); refine with_tabW spec_RangeOk.tab1 spec_RangeOk.bits1 (fun HT_ HW_ => ?_)
  generalize w1.drew = w2 at K1 HB hHeld ⊢
  refine tk 0 3 1 hHeld ?_
  refine on 1 (some 4) 3 fun K hK => ?_
  refine ck hK Try.func38 (spec_l8None.calls _ _ _ A1.out) (fun _ b => bk1 K1 HB b) fun w3 Q_ hHeld => ?_
  clear hK K
  obtain ⟨K1, HB⟩ := Q_
  refine pk 2 5 7 ?_
  refine pk 3 6 15 ?_
  refine uk 4 7 31 ?_
  refine uk 5 8 63 ?_
  refine uk 6 9 127 ?_
  refine uk 7 10 255 ?_
  refine uk 8 11 511 ?_
  refine uk 9 12 1023 ?_
  refine uk 10 13 2047 ?_
  refine uk 11 14 4095 ?_
  refine uk 12 15 8191 ?_
  refine uk 13 16 16383 ?_
  refine uk 14 17 32767 ?_
  refine uk 15 18 65535 ?_
  refine uk 16 19 131071 ?_
  refine uk 17 20 262143 ?_
  refine uk 18 21 524287 ?_
  refine pk 19 22 1048575 ?_
  refine pk 20 2 2097151 ?_
  refine done_ (done_of HT_.out (by kernel_rfl)) ?_
  try go_wp2
  go_ret
  exact ⟨ez, YA HB⟩
 rw [if_neg c1] at H
 have d1 : (a0_0 == t3 && (a0_1 == t4)) = false := by simpa using c1
 (try (have d2 : decide (a0_0 = t3 && (a0_1 == t4)) = false := by simpa using c1))
 (try (have d3 : (a0_0 == t3 && (a0_1 == t4)) = false := by simpa using c1))
 (try (have d4 : ¬ (a0_0 = t3 && (a0_1 == t4)) := by simpa using c1))
 clear c1
 obtain ⟨t1, A2, H⟩ := bd H
 try dsimp only at H
 by_cases c2 : t1 = true
 rotate_left
 ·replace c2 := Bool.eq_false_iff.mpr c2
  subst c2
  rw [if_neg ff] at H
  obtain rfl := Option.some.inj H
  go_enter Try.func24, Try.ntmps24
  try go_wp2_with (first | ((with_reducible refine gate_dst (N := 1) rfl ?_); refine bxn 1 #[.int .i64 a0_0, .int .i64 a0_1] 24 HB fun g1 w1 K1 G1 hg hb => ?_; replace HB := am (below_step (YA HB) hb); clear hb hg))
  obtain ⟨K1, HB⟩ := dk1 K1 HB
  refine start_ (n := 21) (S := fun w' => ce2 w' g1 a0_0 a0_1) (ds := []) (lb 21 0) (by kernel_rfl) rfl rfl (cc2 K1) (fun hHeld => ?_); refine with_tabW spec_RangeOk.tab1 spec_RangeOk.bits1 (fun HT_ HW_ => ?_)
  generalize w1.drew = w2 at K1 HB hHeld ⊢
  refine tk 0 3 1 hHeld ?_
  refine on 1 (some 4) 3 fun K hK => ?_
  refine ck hK Try.func38 (spec_l8None.calls _ _ _ A1.out) (fun _ b => bk1 K1 HB b) fun w3 Q_ hHeld => ?_
  clear hK K
  obtain ⟨K1, HB⟩ := Q_
  refine pk 2 5 7 ?_
  refine pk 3 6 15 ?_
  refine pk 4 7 31 ?_
  refine tk 5 8 63 hHeld ?_
  refine on 6 (some 9) 127 fun K hK => ?_
  refine goes_ Try.func19 (by kernel_rfl) rfl #[.int .i64 a0_0] (by rfl) rfl rfl mz ?_
  with_reducible refine (spec_NumOk.calls _ _ _ A2.out).mono ?_
  rintro e w' ⟨rfl, ⟨nd, rfl⟩⟩
  refine ⟨_, rfl, ?_⟩
  refine kk hK (cc2 K1) fun hHeld => ?_
  clear hK K
  refine pk 7 10 255 ?_
  refine uk 8 11 511 ?_
  refine uk 9 12 1023 ?_
  refine uk 10 13 2047 ?_
  refine pk 11 14 4095 ?_
  refine pk 12 15 8191 ?_
  refine uk 13 16 16383 ?_
  refine uk 14 17 32767 ?_
  refine uk 15 18 65535 ?_
  refine uk 16 19 131071 ?_
  refine uk 17 20 262143 ?_
  refine pk 18 21 524287 ?_
  refine pk 19 22 1048575 ?_
  refine pk 20 2 2097151 ?_
  refine done_ (done_of HT_.out (by kernel_rfl)) ?_
  try go_wp2
  go_ret
  exact ⟨ez, YA HB⟩
 subst c2
 rw [if_pos rfl] at H
 obtain ⟨t2, A3, H⟩ := bd H
 try dsimp only at H
 by_cases c3 : t2 = true
 rotate_left
 ·replace c3 := Bool.eq_false_iff.mpr c3
  subst c3
  rw [if_neg ff] at H
  obtain rfl := Option.some.inj H
  go_enter Try.func24, Try.ntmps24
  try go_wp2_with (first | ((with_reducible refine gate_dst (N := 1) rfl ?_); refine bxn 1 #[.int .i64 a0_0, .int .i64 a0_1] 24 HB fun g1 w1 K1 G1 hg hb => ?_; replace HB := am (below_step (YA HB) hb); clear hb hg))
  obtain ⟨K1, HB⟩ := dk1 K1 HB
  refine start_ (n := 21) (S := fun w' => ce2 w' g1 a0_0 a0_1) (ds := []) (lb 21 0) (by kernel_rfl) rfl rfl (cc2 K1) (fun hHeld => ?_); refine with_tabW spec_RangeOk.tab1 spec_RangeOk.bits1 (fun HT_ HW_ => ?_)
  generalize w1.drew = w2 at K1 HB hHeld ⊢
  refine tk 0 3 1 hHeld ?_
  refine on 1 (some 4) 3 fun K hK => ?_
  refine ck hK Try.func38 (spec_l8None.calls _ _ _ A1.out) (fun _ b => bk1 K1 HB b) fun w3 Q_ hHeld => ?_
  clear hK K
  obtain ⟨K1, HB⟩ := Q_
  refine pk 2 5 7 ?_
  refine pk 3 6 15 ?_
  refine pk 4 7 31 ?_
  refine tk 5 8 63 hHeld ?_
  refine on 6 (some 9) 127 fun K hK => ?_
  refine goes_ Try.func19 (by kernel_rfl) rfl #[.int .i64 a0_0] (by rfl) rfl rfl mz ?_
  with_reducible refine (spec_NumOk.calls _ _ _ A2.out).mono ?_
  rintro e w' ⟨rfl, ⟨nd, rfl⟩⟩
  refine ⟨_, rfl, ?_⟩
  refine kk hK (cc2 K1) fun hHeld => ?_
  clear hK K
  refine pk 7 10 255 ?_
  refine pk 8 11 511 ?_
  refine tk 9 12 1023 hHeld ?_
  refine on 10 (some 13) 2047 fun K hK => ?_
  refine goes_ Try.func19 (by kernel_rfl) rfl #[.int .i64 a0_1] (by rfl) rfl rfl mz ?_
  with_reducible refine (spec_NumOk.calls _ _ _ A3.out).mono ?_
  rintro e w' ⟨rfl, ⟨nd, rfl⟩⟩
  refine ⟨_, rfl, ?_⟩
  refine kk hK (cc2 K1) fun hHeld => ?_
  clear hK K
  refine pk 11 14 4095 ?_
  refine pk 12 15 8191 ?_
  refine uk 13 16 16383 ?_
  refine uk 14 17 32767 ?_
  refine uk 15 18 65535 ?_
  refine uk 16 19 131071 ?_
  refine uk 17 20 262143 ?_
  refine pk 18 21 524287 ?_
  refine pk 19 22 1048575 ?_
  refine pk 20 2 2097151 ?_
  refine done_ (done_of HT_.out (by kernel_rfl)) ?_
  try go_wp2
  go_ret
  exact ⟨ez, YA HB⟩
 subst c3
 rw [if_pos rfl] at H
 obtain rfl := Option.some.inj H
 go_enter Try.func24, Try.ntmps24
 try go_wp2_with (first | ((with_reducible refine gate_dst (N := 1) rfl ?_); refine bxn 1 #[.int .i64 a0_0, .int .i64 a0_1] 24 HB fun g1 w1 K1 G1 hg hb => ?_; replace HB := am (below_step (YA HB) hb); clear hb hg))
 obtain ⟨K1, HB⟩ := dk1 K1 HB
 refine start_ (n := 21) (S := fun w' => ce2 w' g1 a0_0 a0_1) (ds := []) (lb 21 0) (by kernel_rfl) rfl rfl (cc2 K1) (fun hHeld => ?_); refine with_tabW spec_RangeOk.tab1 spec_RangeOk.bits1 (fun HT_ HW_ => ?_)
 generalize w1.drew = w2 at K1 HB hHeld ⊢
 refine tk 0 3 1 hHeld ?_
 refine on 1 (some 4) 3 fun K hK => ?_
 refine ck hK Try.func38 (spec_l8None.calls _ _ _ A1.out) (fun _ b => bk1 K1 HB b) fun w3 Q_ hHeld => ?_
 clear hK K
 obtain ⟨K1, HB⟩ := Q_
 refine pk 2 5 7 ?_
 refine pk 3 6 15 ?_
 refine pk 4 7 31 ?_
 refine tk 5 8 63 hHeld ?_
 refine on 6 (some 9) 127 fun K hK => ?_
 refine goes_ Try.func19 (by kernel_rfl) rfl #[.int .i64 a0_0] (by rfl) rfl rfl mz ?_
 with_reducible refine (spec_NumOk.calls _ _ _ A2.out).mono ?_
 rintro e w' ⟨rfl, ⟨nd, rfl⟩⟩
 refine ⟨_, rfl, ?_⟩
 refine kk hK (cc2 K1) fun hHeld => ?_
 clear hK K
 refine pk 7 10 255 ?_
 refine pk 8 11 511 ?_
 refine tk 9 12 1023 hHeld ?_
 refine on 10 (some 13) 2047 fun K hK => ?_
 refine goes_ Try.func19 (by kernel_rfl) rfl #[.int .i64 a0_1] (by rfl) rfl rfl mz ?_
 with_reducible refine (spec_NumOk.calls _ _ _ A3.out).mono ?_
 rintro e w' ⟨rfl, ⟨nd, rfl⟩⟩
 refine ⟨_, rfl, ?_⟩
 refine kk hK (cc2 K1) fun hHeld => ?_
 clear hK K
 refine pk 11 14 4095 ?_
 refine pk 12 15 8191 ?_
 refine pk 13 16 16383 ?_
 refine pk 15 18 49151 ?_
 refine tk 14 17 65535 hHeld ?_
 refine tk 16 19 131071 hHeld ?_
 refine pk 17 20 262143 ?_
 refine pk 18 21 524287 ?_
 refine pk 19 22 1048575 ?_
 refine pk 20 2 2097151 ?_
 refine done_ (done_of HT_.out (by kernel_rfl)) ?_
 try go_wp2
 go_ret
 exact ⟨ez, YA HB⟩

def spec_l10None.f  : Option (Int × Int × Int × Int) := some (1, 0, 0, 0)
set_option maxHeartbeats 8000000 in
set_option maxRecDepth 100000 in
theorem spec_l10None.calls  (r1 : Int) (r2 : Int) (r3 : Int) (r4 : Int) (w : World) (h : spec_l10None.f  = some (r1, r2, r3, r4)) :
  Calls Try.prog 71 #[] w fun e w' => e = .returned (.agg #[.int .i64 r1, .int .i64 r2, .int .i64 r3, .int .i64 r4]) ∧ Below w.heap.size w w' := by
 have hu50 := Try.underlying50
 have HB := am (Below.refl w.heap.size w)
 have H : (some (1, 0, 0, 0)) = some (r1, r2, r3, r4) := h
 clear h
 obtain ⟨rfl, rfl, rfl, rfl⟩ := sj4 H
 go_enter Try.func71, Try.ntmps71
 go_wp2_with (first | ((with_reducible refine gate_dst (N := 0) rfl ?_); refine bxn 0 #[.int .i64 0, .int .i64 0, .int .i64 0, .int .i64 0] 50 HB fun g1 w1 K1 G1 hg hb => ?_; replace HB := am (below_step (YA HB) hb); clear hb hg; have := cB4 K1))
 refine bodyPost_ret (results_cell_row rfl _ _ g1 50 #[.int .i64 1, .int .i64 0, .int .i64 0, .int .i64 0] (0, 0) _ rfl (by refine pf ?_; refine bp (ia4 1 0 0 0) ?_ 3; refine pf ?_; refine bp (ia4 1 0 0 0) ?_ 2; refine pf ?_; refine bp (ia4 1 0 0 0) ?_ 1; refine pf ?_; refine bp (ia4 0 0 0 0) ?_ 0; exact Z K1) Try.underlying50 rfl (by kernel_rfl)) rfl ?_
 exact ⟨ez, YA HB⟩

def spec_l10Range.f (a0_0 : Int) (a0_1 : Int) (a0_2 : Int) (a0_3 : Int) : Option (Int × Int) := some (a0_0, a0_1)
set_option maxHeartbeats 8000000 in
set_option maxRecDepth 100000 in
theorem spec_l10Range.calls (a0_0 : Int) (a0_1 : Int) (a0_2 : Int) (a0_3 : Int) (r1 : Int) (r2 : Int) (w : World) (h : spec_l10Range.f a0_0 a0_1 a0_2 a0_3 = some (r1, r2)) :
  Calls Try.prog 72 #[.agg #[.int .i64 a0_0, .int .i64 a0_1, .int .i64 a0_2, .int .i64 a0_3]] w fun e w' => e = .returned (.agg #[.int .i64 r1, .int .i64 r2]) ∧ Below w.heap.size w w' := by
 have hu50 := Try.underlying50
 have hu24 := Try.underlying24
 have HB := am (Below.refl w.heap.size w)
 have H : (some (a0_0, a0_1)) = some (r1, r2) := h
 clear h
 obtain ⟨rfl, rfl⟩ := sj2 H
 go_enter Try.func72, Try.ntmps72
 go_wp2_with (first | ((with_reducible refine gate_dst (N := 1) rfl ?_); refine bxn 1 #[.int .i64 a0_0, .int .i64 a0_1, .int .i64 a0_2, .int .i64 a0_3] 50 HB fun g1 w1 K1 G1 hg hb => ?_; replace HB := am (below_step (YA HB) hb); clear hb hg) | ((with_reducible refine gate_dst (N := 2) rfl ?_); refine bxn 2 #[.int .i64 0, .int .i64 0] 24 HB fun g2 w2 K2 G2 hg hb => ?_; obtain ⟨N1,N2⟩ := ne_ hg K1; obtain ⟨K1, HB⟩ := bk1 K1 HB hb; clear hb hg; have := ns1 N1; have := cB4 K1; have := cB2 K2))
 refine bodyPost_ret (results_cell_row rfl _ _ g2 24 #[.int .i64 a0_0, .int .i64 a0_1] (0, 0) _ rfl (by refine pf ?_; refine bp (ia2 a0_0 0) ?_ 1; refine pf ?_; refine bp (ia2 0 0) ?_ 0; exact Z K2) Try.underlying24 rfl (by kernel_rfl)) rfl ?_
 exact ⟨ez, YA HB⟩

def spec_RangeHas.f (a0_0 : Int) (a0_1 : Int) (a1 : Int) : Option (Bool) := (spec_RangeOk.f a0_0 a0_1).bind fun t1 => (if t1 = true then ((spec_l1In.f a1 a0_0 a0_1).bind fun t2 => (some t2)) else (some false))
set_option maxHeartbeats 8000000 in
set_option maxRecDepth 100000 in
theorem spec_RangeHas.calls (a0_0 : Int) (a0_1 : Int) (a1 : Int) (r : Bool) (w : World) (h : spec_RangeHas.f a0_0 a0_1 a1 = some r) :
  Calls Try.prog 22 #[.agg #[.int .i64 a0_0, .int .i64 a0_1], .int .i64 a1] w fun e w' => e = .returned (.bool r) ∧ Below w.heap.size w w' := by
 have hu24 := Try.underlying24
 have HB := am (Below.refl w.heap.size w)
 have H : ((spec_RangeOk.f a0_0 a0_1).bind fun t1 => (if t1 = true then ((spec_l1In.f a1 a0_0 a0_1).bind fun t2 => (some t2)) else (some false))) = some r := h
 clear h
 obtain ⟨t1, A1, H⟩ := bd H
 try dsimp only at H
 by_cases c1 : t1 = true
 rotate_left
 ·replace c1 := Bool.eq_false_iff.mpr c1
  subst c1
  rw [if_neg ff] at H
  obtain rfl := Option.some.inj H
  go_enter Try.func22, Try.ntmps22
  go_wp2_with (first | ((with_reducible refine gate_dst (N := 2) rfl ?_); refine bxn 2 #[.int .i64 a0_0, .int .i64 a0_1] 24 HB fun g1 w1 K1 G1 hg hb => ?_; replace HB := am (below_step (YA HB) hb); clear hb hg; have := cB2 K1) | ((with_reducible refine gate_callee (f := 24) rfl ?_); refine gL 6 Try.func24 (spec_RangeOk.calls _ _ _ _ A1.out) fun w2 hb => ?_; obtain ⟨K1, HB⟩ := bk1 K1 HB hb; (try clear hb)))
  go_ret
  exact ⟨ez, YA HB⟩
 subst c1
 rw [if_pos rfl] at H
 obtain ⟨t2, A2, H⟩ := bd H
 try dsimp only at H
 obtain rfl := Option.some.inj H
 go_enter Try.func22, Try.ntmps22
 go_wp2_with (first | ((with_reducible refine gate_dst (N := 2) rfl ?_); refine bxn 2 #[.int .i64 a0_0, .int .i64 a0_1] 24 HB fun g1 w1 K1 G1 hg hb => ?_; replace HB := am (below_step (YA HB) hb); clear hb hg; have := cB2 K1) | ((with_reducible refine gate_callee (f := 24) rfl ?_); refine gL 6 Try.func24 (spec_RangeOk.calls _ _ _ _ A1.out) fun w2 hb => ?_; obtain ⟨K1, HB⟩ := bk1 K1 HB hb; (try clear hb); have := cB2 K1) | (go_at_call 37; (with_reducible refine (spec_l1In.calls _ _ _ _ _ A2.out).mono ?_); rintro e w' ⟨rfl, ⟨nd, rfl⟩⟩))
 go_ret
 exact ⟨ez, YA HB⟩

def spec_l1Mod.f (a0 : Int) (a1 : Int) : Option (Int) := if a1 = 0 then (none) else (if (Int.tmod a0 a1) < 0 then (some (wrap64 ((Int.tmod a0 a1) + a1))) else (some (Int.tmod a0 a1)))
set_option maxHeartbeats 8000000 in
set_option maxRecDepth 100000 in
theorem spec_l1Mod.calls (a0 : Int) (a1 : Int) (r : Int) (w : World) (h : spec_l1Mod.f a0 a1 = some r) :
  Calls Try.prog 100 #[.int .i64 a0, .int .i64 a1] w fun e w' => e = .returned (.int .i64 r) ∧ Drawn0 w w' := by
 have H : (if a1 = 0 then (none) else (if (Int.tmod a0 a1) < 0 then (some (wrap64 ((Int.tmod a0 a1) + a1))) else (some (Int.tmod a0 a1)))) = some r := h
 clear h
 by_cases c1 : a1 = 0
 ·rw [if_pos c1] at H
  exact absurd H (by simp)
 rw [if_neg c1] at H
 have d1 := eF c1
 have d2 := nT c1
 by_cases c2 : (Int.tmod a0 a1) < 0
 ·rw [if_pos c2] at H
  have d3 := dT c2
  clear c2
  obtain rfl := Option.some.inj H
  go_enter Try.func100, Try.ntmps100
  go_wp2
  go_ret
  exact ⟨by first | rfl | (simp; done) | (simp [*]; done), qs1⟩
 rw [if_neg c2] at H
 have d3 := dF c2
 clear c2
 obtain rfl := Option.some.inj H
 go_enter Try.func100, Try.ntmps100
 go_wp2
 go_ret
 exact ⟨by first | rfl | (simp; done) | (simp [*]; done), qs1⟩
end
section
attribute [local go_sem] max2_int min2_int max_two min_two max_three min_three max_four min_four
attribute [local go_sem] Go.Proofs.YthbkakcchgnhpaaSet.isSome_setCell
def spec_RestOk.f (a0_0 : Int) (a0_1 : Int) : Option (Bool) := if a0_0 = 0 then ((spec_NumOk.f a0_1).bind fun t1 => (some t1)) else ((spec_l1In.f a0_0 1 65536).bind fun t2 => (if t2 = true then ((spec_l1In.f a0_1 0 (wrap64 (a0_0 - 1))).bind fun t3 => (some t3)) else (some false)))
set_option maxHeartbeats 8000000 in
set_option maxRecDepth 100000 in
theorem spec_RestOk.calls (a0_0 : Int) (a0_1 : Int) (r : Bool) (w : World) (h : spec_RestOk.f a0_0 a0_1 = some r) :
  Calls Try.prog 102 #[.agg #[.int .i64 a0_0, .int .i64 a0_1]] w fun e w' => e = .returned (.bool r) ∧ Below w.heap.size w w' := by
 have hu86 := Try.underlying86
 have HB := am (Below.refl w.heap.size w)
 have H : (if a0_0 = 0 then ((spec_NumOk.f a0_1).bind fun t1 => (some t1)) else ((spec_l1In.f a0_0 1 65536).bind fun t2 => (if t2 = true then ((spec_l1In.f a0_1 0 (wrap64 (a0_0 - 1))).bind fun t3 => (some t3)) else (some false)))) = some r := h
 clear h
 by_cases c1 : a0_0 = 0
 ·rw [if_pos c1] at H
  have d1 := eT c1
  have d2 := nF c1
  clear c1
  obtain ⟨t1, A1, H⟩ := bd H
  try dsimp only at H
  obtain rfl := Option.some.inj H
  go_enter Try.func102, Try.ntmps102
  go_wp2_with (first | ((with_reducible refine gate_dst (N := 1) rfl ?_); refine bxn 1 #[.int .i64 a0_0, .int .i64 a0_1] 86 HB fun g1 w1 K1 G1 hg hb => ?_; replace HB := am (below_step (YA HB) hb); clear hb hg; have := cB2 K1) | ((with_reducible refine gate_callee (f := 19) rfl ?_); refine goesL_ (some 8) rfl rfl Try.func19 (by kernel_rfl) rfl #[.int .i64 a0_1] rfl mz ?_; (with_reducible refine (spec_NumOk.calls _ _ _ A1.out).mono ?_); rintro e w' ⟨rfl, ⟨nd, rfl⟩⟩; refine ⟨_, rfl, ?_⟩))
  go_ret
  exact ⟨ez, YA HB⟩
 rw [if_neg c1] at H
 have d1 := eF c1
 have d2 := nT c1
 obtain ⟨t2, A1, H⟩ := bd H
 try dsimp only at H
 by_cases c2 : t2 = true
 rotate_left
 ·replace c2 := Bool.eq_false_iff.mpr c2
  subst c2
  rw [if_neg ff] at H
  obtain rfl := Option.some.inj H
  go_enter Try.func102, Try.ntmps102
  go_wp2_with (first | ((with_reducible refine gate_dst (N := 1) rfl ?_); refine bxn 1 #[.int .i64 a0_0, .int .i64 a0_1] 86 HB fun g1 w1 K1 G1 hg hb => ?_; replace HB := am (below_step (YA HB) hb); clear hb hg; have := cB2 K1) | ((with_reducible refine gate_callee (f := 37) rfl ?_); refine goesL_ (some 11) rfl rfl Try.func37 (by kernel_rfl) rfl #[.int .i64 a0_0, .int .i64 1, .int .i64 65536] rfl mz ?_; (with_reducible refine (spec_l1In.calls _ _ _ _ _ A1.out).mono ?_); rintro e w' ⟨rfl, ⟨nd, rfl⟩⟩; refine ⟨_, rfl, ?_⟩))
  go_ret
  exact ⟨ez, YA HB⟩
 subst c2
 rw [if_pos rfl] at H
 obtain ⟨t3, A2, H⟩ := bd H
 try dsimp only at H
 obtain rfl := Option.some.inj H
 go_enter Try.func102, Try.ntmps102
 go_wp2_with (first | ((with_reducible refine gate_dst (N := 1) rfl ?_); refine bxn 1 #[.int .i64 a0_0, .int .i64 a0_1] 86 HB fun g1 w1 K1 G1 hg hb => ?_; replace HB := am (below_step (YA HB) hb); clear hb hg; have := cB2 K1) | ((with_reducible refine gate_callee (f := 37) rfl ?_); refine goesL_ (some 11) rfl rfl Try.func37 (by kernel_rfl) rfl #[.int .i64 a0_0, .int .i64 1, .int .i64 65536] rfl mz ?_; (with_reducible refine (spec_l1In.calls _ _ _ _ _ A1.out).mono ?_); rintro e w' ⟨rfl, ⟨nd, rfl⟩⟩; refine ⟨_, rfl, ?_⟩) | (go_at_call 37; (with_reducible refine (spec_l1In.calls _ _ _ _ _ A2.out).mono ?_); rintro e w' ⟨rfl, ⟨nd, rfl⟩⟩))
 go_ret
 exact ⟨ez, YA HB⟩

def spec_l10One.f (a0 : Int) : Option (Int × Int × Int × Int) := some (a0, a0, 0, a0)
set_option maxHeartbeats 8000000 in
set_option maxRecDepth 100000 in
theorem spec_l10One.calls (a0 : Int) (r1 : Int) (r2 : Int) (r3 : Int) (r4 : Int) (w : World) (h : spec_l10One.f a0 = some (r1, r2, r3, r4)) :
  Calls Try.prog 103 #[.int .i64 a0] w fun e w' => e = .returned (.agg #[.int .i64 r1, .int .i64 r2, .int .i64 r3, .int .i64 r4]) ∧ Below w.heap.size w w' := by
 have hu50 := Try.underlying50
 have HB := am (Below.refl w.heap.size w)
 have H : (some (a0, a0, 0, a0)) = some (r1, r2, r3, r4) := h
 clear h
 obtain ⟨rfl, rfl, rfl, rfl⟩ := sj4 H
 go_enter Try.func103, Try.ntmps103
 go_wp2_with (first | ((with_reducible refine gate_dst (N := 2) rfl ?_); refine bxn 2 #[.int .i64 0, .int .i64 0, .int .i64 0, .int .i64 0] 50 HB fun g1 w1 K1 G1 hg hb => ?_; replace HB := am (below_step (YA HB) hb); clear hb hg; have := cB4 K1))
 refine bodyPost_ret (results_cell_row rfl _ _ g1 50 #[.int .i64 a0, .int .i64 a0, .int .i64 0, .int .i64 a0] (0, 0) _ rfl (by refine pf ?_; refine bp (ia4 a0 a0 0 0) ?_ 3; refine pf ?_; refine bp (ia4 a0 a0 0 0) ?_ 2; refine pf ?_; refine bp (ia4 a0 0 0 0) ?_ 1; refine pf ?_; refine bp (ia4 0 0 0 0) ?_ 0; exact Z K1) Try.underlying50 rfl (by kernel_rfl)) rfl ?_
 exact ⟨ez, YA HB⟩
end
section
attribute [local go_sem] max2_int min2_int max_two min_two max_three min_three max_four min_four
attribute [local go_sem high] eqA24
attribute [local go_sem] Go.Proofs.YthbkakcchgnhpaaSet.isSome_setCell
def spec_ValMake.j0 : Nat → Bool → Int → Int → Int → Int → Option (Int × Int × Int × Int)
 | 0, _, _, _, _, _ => none
 | k + 1, x1, x2, x3, x4, x5 => if x1 = true then ((spec_l10None.f).bind fun u1 => (some (u1.1, u1.2.1, u1.2.2.1, u1.2.2.2))) else (if x4 = 0 then ((spec_RangeHas.f x2 x3 x5).bind fun t1 => (if t1 = true then ((spec_l10One.f x5).bind fun u2 => (some (u2.1, u2.2.1, u2.2.2.1, u2.2.2.2))) else ((spec_l10None.f).bind fun u3 => (some (u3.1, u3.2.1, u3.2.2.1, u3.2.2.2))))) else ((spec_l1Mod.f (wrap64 (x5 - x2)) x4).bind fun t2 => ((spec_l1Mod.f (wrap64 (x3 - x5)) x4).bind fun t3 => (if (wrap64 (x2 + t2)) > (wrap64 (x3 - t3)) then ((spec_l10None.f).bind fun u4 => (some (u4.1, u4.2.1, u4.2.2.1, u4.2.2.2))) else (if (wrap64 (x2 + t2)) = (wrap64 (x3 - t3)) then ((spec_l10One.f (wrap64 (x2 + t2))).bind fun u5 => (some (u5.1, u5.2.1, u5.2.2.1, u5.2.2.2))) else (some (wrap64 (x2 + t2), wrap64 (x3 - t3), x4, x5)))))))
def spec_ValMake.f (k : Nat) (a0_0 : Int) (a0_1 : Int) (a1_0 : Int) (a1_1 : Int) : Option (Int × Int × Int × Int) := (spec_RangeOk.f a0_0 a0_1).bind fun t1 => (if t1 = true then ((spec_RestOk.f a1_0 a1_1).bind fun t2 => (if t2 = true then ((spec_l8None.f).bind fun u1 => (spec_ValMake.j0 k (a0_0 == u1.1 && (a0_1 == u1.2)) a0_0 a0_1 a1_0 a1_1)) else (spec_ValMake.j0 k true a0_0 a0_1 a1_0 a1_1))) else (spec_ValMake.j0 k true a0_0 a0_1 a1_0 a1_1))
theorem spec_ValMake.mono_l : ∀ k, (∀ y0 y1 y2 y3 y4, LeO (spec_ValMake.j0 k y0 y1 y2 y3 y4) (spec_ValMake.j0 (k + 1) y0 y1 y2 y3 y4))
 | 0 => fun _ _ _ _ _ r h => by simp [spec_ValMake.j0] at h
 | k + 1 => by
  have ih0 := spec_ValMake.mono_l k
  ·intro y0 y1 y2 y3 y4
   unfold spec_ValMake.j0
   repeat' first | (with_reducible first | apply ih0 | apply LeO.refl | apply LeO.none | refine LeO.ite ?_ ?_ | refine LeO.bind ?_ (fun _ => ?_)) | apply ih0 | apply LeO.none | refine LeO.ite ?_ ?_ | refine LeO.bind ?_ (fun _ => ?_)
theorem spec_ValMake.mono : ∀ a0 a1 a2 a3 k, LeO (spec_ValMake.f k a0 a1 a2 a3) (spec_ValMake.f (k + 1) a0 a1 a2 a3) := by
 intro a0 a1 a2 a3 k
 have ih0 := spec_ValMake.mono_l k
 unfold spec_ValMake.f
 repeat' first | (with_reducible first | apply ih0 | apply LeO.refl | apply LeO.none | refine LeO.ite ?_ ?_ | refine LeO.bind ?_ (fun _ => ?_)) | apply ih0 | apply LeO.none | refine LeO.ite ?_ ?_ | refine LeO.bind ?_ (fun _ => ?_)
def spec_ValMake.T1 : Bool × List (List Nat × List Nat) := (true, [([], []), ([0], [0]), ([1], [1]), ([2, 1], [2]), ([3], [3]), ([4, 3, 3], [3, 4]), ([5, 3], [3, 5]), ([3, 6], [3, 6]), ([7, 5], [7]), ([8], [8]), ([8, 8], [8]), ([9, 10, 8], [8, 9, 10]), ([8, 11], [8, 11])])
def spec_ValMake.B1 : List Nat := [0, 1, 3, 7, 15, 31, 63, 127, 255, 511, 511, 2047, 4095]
theorem spec_ValMake.tab1 : rtab .any (opsOf Try.f73 1) = spec_ValMake.T1 := by kernel_rfl
theorem spec_ValMake.bits1 : waitsOk spec_ValMake.T1.2 spec_ValMake.B1 = true := by kernel_rfl
def spec_ValMake.T7 : Bool × List (List Nat × List Nat) := (true, [([], []), ([0], [0]), ([], []), ([2], [2]), ([], []), ([4], [4]), ([3, 5], [3, 5]), ([], []), ([7], [7]), ([6, 8], [6, 8]), ([1, 9], [1, 9]), ([10, 9, 0, 1, 2, 3, 4, 5, 6, 7, 8, 9, 10], [10])])
def spec_ValMake.B7 : List Nat := [0, 1, 0, 4, 0, 16, 60, 0, 128, 508, 1023, 2047]
theorem spec_ValMake.tab7 : rtab .any (opsOf Try.f73 7) = spec_ValMake.T7 := by kernel_rfl
theorem spec_ValMake.bits7 : waitsOk spec_ValMake.T7.2 spec_ValMake.B7 = true := by kernel_rfl
def spec_ValMake.T8 : Bool × List (List Nat × List Nat) := (true, [([], []), ([0], [0]), ([], []), ([2], [2]), ([], []), ([4], [4]), ([3, 5], [3, 5]), ([], []), ([7], [7]), ([6, 8], [6, 8]), ([1, 9], [1, 9]), ([10, 9, 0, 1, 2, 3, 4, 5, 6, 7, 8, 9, 10], [10])])
def spec_ValMake.B8 : List Nat := [0, 1, 0, 4, 0, 16, 60, 0, 128, 508, 1023, 2047]
theorem spec_ValMake.tab8 : rtab .any (opsOf Try.f73 8) = spec_ValMake.T8 := by kernel_rfl
theorem spec_ValMake.bits8 : waitsOk spec_ValMake.T8.2 spec_ValMake.B8 = true := by kernel_rfl
set_option maxHeartbeats 8000000 in
set_option maxRecDepth 100000 in
theorem spec_ValMake.calls (k : Nat) (a0_0 : Int) (a0_1 : Int) (a1_0 : Int) (a1_1 : Int) (r1 : Int) (r2 : Int) (r3 : Int) (r4 : Int) (w : World) (h : spec_ValMake.f k a0_0 a0_1 a1_0 a1_1 = some (r1, r2, r3, r4)) :
  Calls Try.prog 73 #[.agg #[.int .i64 a0_0, .int .i64 a0_1], .agg #[.int .i64 a1_0, .int .i64 a1_1]] w fun e w' => e = .returned (.agg #[.int .i64 r1, .int .i64 r2, .int .i64 r3, .int .i64 r4]) ∧ Below w.heap.size w w' := by
 have hu24 := Try.underlying24
 have hu86 := Try.underlying86
 have hu50 := Try.underlying50
 have HB := am (Below.refl w.heap.size w)
 have H : ((spec_RangeOk.f a0_0 a0_1).bind fun t1 => (if t1 = true then ((spec_RestOk.f a1_0 a1_1).bind fun t2 => (if t2 = true then ((spec_l8None.f).bind fun u1 => (spec_ValMake.j0 k (a0_0 == u1.1 && (a0_1 == u1.2)) a0_0 a0_1 a1_0 a1_1)) else (spec_ValMake.j0 k true a0_0 a0_1 a1_0 a1_1))) else (spec_ValMake.j0 k true a0_0 a0_1 a1_0 a1_1))) = some (r1, r2, r3, r4) := h
 clear h
 have C1 := am H
 clear H
 go_enter Try.func73, Try.ntmps73
 go_upto_region 1 with (first | ((with_reducible refine gate_dst (N := 2) rfl ?_); refine bxn 2 #[.int .i64 a0_0, .int .i64 a0_1] 24 HB fun g1 w1 K1 G1 hg hb => ?_; replace HB := am (below_step (YA HB) hb); clear hb hg) | ((with_reducible refine gate_dst (N := 3) rfl ?_); refine bxn 3 #[.int .i64 a1_0, .int .i64 a1_1] 86 HB fun g2 w2 K2 G2 hg hb => ?_; obtain ⟨N1,N2⟩ := ne_ hg K1; obtain ⟨K1, HB⟩ := bk1 K1 HB hb; clear hb hg) | ((with_reducible refine gate_dst (N := 4) rfl ?_); refine bxn 4 #[.int .i64 0, .int .i64 0, .int .i64 0, .int .i64 0] 50 HB fun g3 w3 K3 G3 hg hb => ?_; obtain ⟨N3,N4⟩ := ne_ hg K1; obtain ⟨N5,N6⟩ := ne_ hg K2; obtain ⟨K1, K2, HB⟩ := bk2 K1 K2 HB hb; clear hb hg))
 (try simp only [Act.put, List.setIfInBounds_toArray, List.set_cons_zero, List.set_cons_succ])
 go_cut [19] (fun v1 wc => ∃ (kq : Nat) (x1 : Bool), v1 = .bool x1 ∧ Aside0 (spec_ValMake.j0 kq x1 a0_0 a0_1 a1_0 a1_1 = some (r1, r2, r3, r4)) ∧ Aside0 (kq ≤ k) ∧ Bx2 wc g1 a0_0 a0_1 24 ∧ Bx2 wc g2 a1_0 a1_1 86 ∧ Bx4 wc g3 0 0 0 0 50 ∧ Aside0 (Below w.heap.size w wc))
 case first =>
  have H := C1.out
  clear C1
  obtain ⟨t1, A1, H⟩ := bd H
  try dsimp only at H
  by_cases c1 : t1 = true
  rotate_left
  ·replace c1 := Bool.eq_false_iff.mpr c1
   subst c1
   rw [if_neg ff] at H
   have H' := am H
   clear H
   try go_wp2
   obtain ⟨K1, K2, K3, HB⟩ := dk3 K1 K2 K3 HB
   refine start_ (n := 13) (S := fun w' => ce2 w' g1 a0_0 a0_1) (ds := []) (lb 13 0) (by kernel_rfl) rfl rfl (cc2 K1) (fun hHeld => ?_); refine with_tabW spec_ValMake.tab1 spec_ValMake.bits1 (fun HT_ HW_ => ?_)
   generalize w3.drew = w4 at K1 K2 K3 HB hHeld ⊢
   refine tk 0 7 1 hHeld ?_
   refine on 1 (some 8) 3 fun K hK => ?_
   refine ck hK Try.func24 (spec_RangeOk.calls _ _ _ _ A1.out) (fun _ b => bk3 K1 K2 K3 HB b) fun w5 Q_ hHeld => ?_
   clear hK K
   obtain ⟨K1, K2, K3, HB⟩ := Q_
   refine pk 2 9 7 ?_
   refine pk 3 10 15 ?_
   refine uk 4 11 31 ?_
   refine uk 5 12 63 ?_
   refine uk 6 13 127 ?_
   refine pk 7 14 255 ?_
   refine pk 8 15 511 ?_
   refine uk 9 16 1023 ?_
   refine uk 10 17 2047 ?_
   refine uk 11 18 4095 ?_
   refine pk 12 19 8191 ?_
   refine done_ (done_of HT_.out (by kernel_rfl)) ?_
   try go_wp2
   go_meet
   case rel => exact ⟨_, (true), ey, H', le0, ⟨Z K1⟩, ⟨Z K2⟩, ⟨Z K3⟩, ⟨YA HB⟩⟩
  subst c1
  rw [if_pos rfl] at H
  obtain ⟨t2, A2, H⟩ := bd H
  try dsimp only at H
  by_cases c2 : t2 = true
  rotate_left
  ·replace c2 := Bool.eq_false_iff.mpr c2
   subst c2
   rw [if_neg ff] at H
   have H' := am H
   clear H
   try go_wp2
   obtain ⟨K1, K2, K3, HB⟩ := dk3 K1 K2 K3 HB
   refine start_ (n := 13) (S := fun w' => ce2 w' g1 a0_0 a0_1 ∧ ce2 w' g2 a1_0 a1_1) (ds := []) (lb 13 0) (by kernel_rfl) rfl rfl ⟨cc2 K1, cc2 K2⟩ (fun hHeld => ?_); refine with_tabW spec_ValMake.tab1 spec_ValMake.bits1 (fun HT_ HW_ => ?_)
   generalize w3.drew = w4 at K1 K2 K3 HB hHeld ⊢
   refine tk 0 7 1 hHeld ?_
   refine on 1 (some 8) 3 fun K hK => ?_
   refine ck hK Try.func24 (spec_RangeOk.calls _ _ _ _ A1.out) (fun _ b => bk3 K1 K2 K3 HB b) fun w5 Q_ hHeld => ?_
   clear hK K
   obtain ⟨K1, K2, K3, HB⟩ := Q_
   refine pk 2 9 7 ?_
   refine pk 3 10 15 ?_
   refine tk 4 11 31 hHeld ?_
   refine on 5 (some 12) 63 fun K hK => ?_
   refine ck hK Try.func102 (spec_RestOk.calls _ _ _ _ A2.out) (fun _ b => bk3 K1 K2 K3 HB b) fun w6 Q_ hHeld => ?_
   clear hK K
   obtain ⟨K1, K2, K3, HB⟩ := Q_
   refine pk 6 13 127 ?_
   refine pk 7 14 255 ?_
   refine pk 8 15 511 ?_
   refine uk 9 16 1023 ?_
   refine uk 10 17 2047 ?_
   refine uk 11 18 4095 ?_
   refine pk 12 19 8191 ?_
   refine done_ (done_of HT_.out (by kernel_rfl)) ?_
   try go_wp2
   go_meet
   case rel => exact ⟨_, (true), ey, H', le0, ⟨Z K1⟩, ⟨Z K2⟩, ⟨Z K3⟩, ⟨YA HB⟩⟩
  subst c2
  rw [if_pos rfl] at H
  obtain ⟨⟨t3, t4⟩, A3, H⟩ := bd H
  try dsimp only at H
  have H' := am H
  clear H
  try go_wp2
  obtain ⟨K1, K2, K3, HB⟩ := dk3 K1 K2 K3 HB
  refine start_ (n := 13) (S := fun w' => ce2 w' g1 a0_0 a0_1 ∧ ce2 w' g2 a1_0 a1_1) (ds := []) (lb 13 0) (by kernel_rfl) rfl rfl ⟨cc2 K1, cc2 K2⟩ (fun hHeld => ?_); refine with_tabW spec_ValMake.tab1 spec_ValMake.bits1 (fun HT_ HW_ => ?_)
  generalize w3.drew = w4 at K1 K2 K3 HB hHeld ⊢
  refine tk 0 7 1 hHeld ?_
  refine on 1 (some 8) 3 fun K hK => ?_
  refine ck hK Try.func24 (spec_RangeOk.calls _ _ _ _ A1.out) (fun _ b => bk3 K1 K2 K3 HB b) fun w5 Q_ hHeld => ?_
  clear hK K
  obtain ⟨K1, K2, K3, HB⟩ := Q_
  refine pk 2 9 7 ?_
  refine pk 3 10 15 ?_
  refine tk 4 11 31 hHeld ?_
  refine on 5 (some 12) 63 fun K hK => ?_
  refine ck hK Try.func102 (spec_RestOk.calls _ _ _ _ A2.out) (fun _ b => bk3 K1 K2 K3 HB b) fun w6 Q_ hHeld => ?_
  clear hK K
  obtain ⟨K1, K2, K3, HB⟩ := Q_
  refine pk 6 13 127 ?_
  refine pk 7 14 255 ?_
  refine pk 8 15 511 ?_
  refine tk 9 16 1023 hHeld ?_
  refine on 10 (some 17) 2047 fun K hK => ?_
  refine ck hK Try.func38 (spec_l8None.calls _ _ _ A3.out) (fun _ b => bk3 K1 K2 K3 HB b) fun w7 Q_ hHeld => ?_
  clear hK K
  obtain ⟨K1, K2, K3, HB⟩ := Q_
  refine pk 11 18 4095 ?_
  refine pk 12 19 8191 ?_
  refine done_ (done_of HT_.out (by kernel_rfl)) ?_
  try go_wp2
  go_meet
  case rel => exact ⟨_, ((a0_0 == t3 && (a0_1 == t4))), ey, H', le0, ⟨Z K1⟩, ⟨Z K2⟩, ⟨Z K3⟩, ⟨YA HB⟩⟩
 clear C1
 obtain ⟨kq, x1, rfl, HA, J1, K1, K2, K3, HB⟩ := hcut
 cases kq with
 | zero => exact absurd HA.out (by simp [spec_ValMake.j0])
 | succ k1 => ?_
 have H := HA.out
 clear HA
 simp only [spec_ValMake.j0] at H
 by_cases c1 : x1 = true
 ·subst c1
  rw [if_pos rfl] at H
  obtain ⟨⟨t3, t4, t5, t6⟩, A1, H⟩ := bd H
  try dsimp only at H
  obtain ⟨rfl, rfl, rfl, rfl⟩ := sj4 H
  go_wp2_with (first | ((with_reducible refine gate_callee (f := 71) rfl ?_); refine gL 20 Try.func71 (spec_l10None.calls _ _ _ _ _ A1.out) fun w4 hb => ?_; obtain ⟨K1, K2, K3, HB⟩ := bk3 K1 K2 K3 HB hb; (try clear hb); have := ns2 N4 N6; have := cB4 K3))
  refine bodyPost_ret (results_cell_row rfl _ _ g3 50 #[.int .i64 t3, .int .i64 t4, .int .i64 t5, .int .i64 t6] (0, 0) _ rfl (by refine pf ?_; refine bp (ia4 t3 t4 t5 0) ?_ 3; refine pf ?_; refine bp (ia4 t3 t4 0 0) ?_ 2; refine pf ?_; refine bp (ia4 t3 0 0 0) ?_ 1; refine pf ?_; refine bp (ia4 0 0 0 0) ?_ 0; exact Z K3) Try.underlying50 rfl (by kernel_rfl)) rfl ?_
  exact ⟨ez, YA HB⟩
 replace c1 := Bool.eq_false_iff.mpr c1
 subst c1
 rw [if_neg ff] at H
 by_cases c2 : a1_0 = 0
 ·rw [if_pos c2] at H
  have d1 := eT c2
  have d2 := nF c2
  clear c2
  obtain ⟨t3, A1, H⟩ := bd H
  try dsimp only at H
  by_cases c3 : t3 = true
  rotate_left
  ·replace c3 := Bool.eq_false_iff.mpr c3
   subst c3
   rw [if_neg ff] at H
   obtain ⟨⟨t4, t5, t6, t7⟩, A2, H⟩ := bd H
   try dsimp only at H
   obtain ⟨rfl, rfl, rfl, rfl⟩ := sj4 H
   have := ns3 N2 N5 N3
   have := cB2 K2
   have := cB2 K1
   go_wp2_with (first | ((with_reducible refine gate_callee (f := 22) rfl ?_); refine gL 27 Try.func22 (spec_RangeHas.calls _ _ _ _ _ A1.out) fun w4 hb => ?_; obtain ⟨K1, K2, K3, HB⟩ := bk3 K1 K2 K3 HB hb; (try clear hb)) | ((with_reducible refine gate_callee (f := 71) rfl ?_); refine gL 31 Try.func71 (spec_l10None.calls _ _ _ _ _ A2.out) fun w5 hb => ?_; obtain ⟨K1, K2, K3, HB⟩ := bk3 K1 K2 K3 HB hb; (try clear hb); have := cB4 K3))
   refine bodyPost_ret (results_cell_row rfl _ _ g3 50 #[.int .i64 t4, .int .i64 t5, .int .i64 t6, .int .i64 t7] (0, 0) _ rfl (by refine pf ?_; refine bp (ia4 t4 t5 t6 0) ?_ 3; refine pf ?_; refine bp (ia4 t4 t5 0 0) ?_ 2; refine pf ?_; refine bp (ia4 t4 0 0 0) ?_ 1; refine pf ?_; refine bp (ia4 0 0 0 0) ?_ 0; exact Z K3) Try.underlying50 rfl (by kernel_rfl)) rfl ?_
   exact ⟨ez, YA HB⟩
  subst c3
  rw [if_pos rfl] at H
  obtain ⟨⟨t4, t5, t6, t7⟩, A2, H⟩ := bd H
  try dsimp only at H
  obtain ⟨rfl, rfl, rfl, rfl⟩ := sj4 H
  have := ns3 N2 N5 N3
  have := cB2 K2
  have := cB2 K1
  go_wp2_with (first | ((with_reducible refine gate_callee (f := 22) rfl ?_); refine gL 27 Try.func22 (spec_RangeHas.calls _ _ _ _ _ A1.out) fun w4 hb => ?_; obtain ⟨K1, K2, K3, HB⟩ := bk3 K1 K2 K3 HB hb; (try clear hb); have := cB2 K2) | ((with_reducible refine gate_callee (f := 103) rfl ?_); refine gL 30 Try.func103 (spec_l10One.calls _ _ _ _ _ _ A2.out) fun w5 hb => ?_; obtain ⟨K1, K2, K3, HB⟩ := bk3 K1 K2 K3 HB hb; (try clear hb); have := cB4 K3))
  refine bodyPost_ret (results_cell_row rfl _ _ g3 50 #[.int .i64 t4, .int .i64 t5, .int .i64 t6, .int .i64 t7] (0, 0) _ rfl (by refine pf ?_; refine bp (ia4 t4 t5 t6 0) ?_ 3; refine pf ?_; refine bp (ia4 t4 t5 0 0) ?_ 2; refine pf ?_; refine bp (ia4 t4 0 0 0) ?_ 1; refine pf ?_; refine bp (ia4 0 0 0 0) ?_ 0; exact Z K3) Try.underlying50 rfl (by kernel_rfl)) rfl ?_
  exact ⟨ez, YA HB⟩
 rw [if_neg c2] at H
 have d1 := eF c2
 have d2 := nT c2
 obtain ⟨t3, A1, H⟩ := bd H
 try dsimp only at H
 obtain ⟨t4, A2, H⟩ := bd H
 try dsimp only at H
 by_cases c3 : (wrap64 (a0_0 + t3)) > (wrap64 (a0_1 - t4))
 ·rw [if_pos c3] at H
  have d3 := dT c3
  clear c3
  obtain ⟨⟨t5, t6, t7, t8⟩, A3, H⟩ := bd H
  try dsimp only at H
  obtain ⟨rfl, rfl, rfl, rfl⟩ := sj4 H
  have := ns2 N2 N5
  have := cB2 K2
  try go_wp2
  obtain ⟨K1, K2, K3, HB⟩ := dk3 K1 K2 K3 HB
  refine start_ (n := 12) (S := fun w' => ce2 w' g1 a0_0 a0_1 ∧ ce2 w' g2 a1_0 a1_1) (ds := []) (lb 12 0) (by kernel_rfl) rfl rfl ⟨cc2 K1, cc2 K2⟩ (fun hHeld => ?_); refine with_tabW spec_ValMake.tab7 spec_ValMake.bits7 (fun HT_ HW_ => ?_)
  generalize wc.drew = w4 at K1 K2 K3 HB hHeld ⊢
  refine pk 0 32 1 ?_
  refine pk 2 34 5 ?_
  refine pk 4 36 21 ?_
  refine pk 7 39 149 ?_
  refine tk 1 33 151 hHeld ?_
  refine tk 3 35 159 hHeld ?_
  refine tk 5 37 191 hHeld ?_
  refine pk 6 38 255 ?_
  refine tk 8 40 511 hHeld ?_
  refine on 9 (some 41) 1023 fun K hK => ?_
  refine goes_ Try.func100 (by kernel_rfl) rfl #[.int .i64 (wrap64 (a1_1 - a0_0)), .int .i64 a1_0] (by rfl) rfl rfl mz ?_
  with_reducible refine (spec_l1Mod.calls _ _ _ _ A1.out).mono ?_
  rintro e w' ⟨rfl, ⟨nd, rfl⟩⟩
  refine ⟨_, rfl, ?_⟩
  refine kk hK ⟨cc2 K1, cc2 K2⟩ fun hHeld => ?_
  clear hK K
  refine pk 10 42 2047 ?_
  refine pk 11 5 4095 ?_
  refine done_ (done_of HT_.out (by kernel_rfl)) ?_
  try go_wp2
  (try (rw [drewN_self w4]; generalize hq_ : World.drewN w4 _ = w4; replace K1 : Bx2 w4 g1 a0_0 a0_1 24 := ⟨by rw [← hq_]; exact (Z K1)⟩; replace K2 : Bx2 w4 g2 a1_0 a1_1 86 := ⟨by rw [← hq_]; exact (Z K2)⟩; replace K3 : Bx4 w4 g3 0 0 0 0 50 := ⟨by rw [← hq_]; exact (Z K3)⟩; replace HB : Aside0 (Below w.heap.size w w4) := ⟨by rw [← hq_]; exact (YA HB)⟩; clear hq_))
  obtain ⟨K1, K2, K3, HB⟩ := dk3 K1 K2 K3 HB
  refine start_ (n := 12) (S := fun w' => ce2 w' g1 a0_0 a0_1 ∧ ce2 w' g2 a1_0 a1_1) (ds := []) (lb 12 0) (by kernel_rfl) rfl rfl ⟨cc2 K1, cc2 K2⟩ (fun hHeld => ?_); refine with_tabW spec_ValMake.tab8 spec_ValMake.bits8 (fun HT_ HW_ => ?_)
  generalize w4.drew = w5 at K1 K2 K3 HB hHeld ⊢
  refine pk 0 43 1 ?_
  refine pk 2 45 5 ?_
  refine pk 4 47 21 ?_
  refine pk 7 50 149 ?_
  refine tk 1 44 151 hHeld ?_
  refine tk 3 46 159 hHeld ?_
  refine tk 5 48 191 hHeld ?_
  refine pk 6 49 255 ?_
  refine tk 8 51 511 hHeld ?_
  refine on 9 (some 52) 1023 fun K hK => ?_
  refine goes_ Try.func100 (by kernel_rfl) rfl #[.int .i64 (wrap64 (a0_1 - a1_1)), .int .i64 a1_0] (by rfl) rfl rfl mz ?_
  with_reducible refine (spec_l1Mod.calls _ _ _ _ A2.out).mono ?_
  rintro e w' ⟨rfl, ⟨nd, rfl⟩⟩
  refine ⟨_, rfl, ?_⟩
  refine kk hK ⟨cc2 K1, cc2 K2⟩ fun hHeld => ?_
  clear hK K
  refine pk 10 53 2047 ?_
  refine pk 11 6 4095 ?_
  refine done_ (done_of HT_.out (by kernel_rfl)) ?_
  try go_wp2_with (first | ((with_reducible refine gate_callee (f := 71) rfl ?_); refine gL 57 Try.func71 (spec_l10None.calls _ _ _ _ _ A3.out) fun w6 hb => ?_; obtain ⟨K1, K2, K3, HB⟩ := bk3 K1 K2 K3 HB hb; (try clear hb); have := ns1 N4; have := cB4 K3))
  refine bodyPost_ret (results_cell_row rfl _ _ g3 50 #[.int .i64 t5, .int .i64 t6, .int .i64 t7, .int .i64 t8] (0, 0) _ rfl (by refine pf ?_; refine bp (ia4 t5 t6 t7 0) ?_ 3; refine pf ?_; refine bp (ia4 t5 t6 0 0) ?_ 2; refine pf ?_; refine bp (ia4 t5 0 0 0) ?_ 1; refine pf ?_; refine bp (ia4 0 0 0 0) ?_ 0; exact Z K3) Try.underlying50 rfl (by kernel_rfl)) rfl ?_
  exact ⟨ez, YA HB⟩
 rw [if_neg c3] at H
 have d3 := dF c3
 clear c3
 by_cases c4 : (wrap64 (a0_0 + t3)) = (wrap64 (a0_1 - t4))
 rotate_left
 ·rw [if_neg c4] at H
  have d4 := eF c4
  have d5 := nT c4
  obtain ⟨rfl, rfl, rfl, rfl⟩ := sj4 H
  have := ns2 N2 N5
  have := cB2 K2
  try go_wp2
  obtain ⟨K1, K2, K3, HB⟩ := dk3 K1 K2 K3 HB
  refine start_ (n := 12) (S := fun w' => ce2 w' g1 a0_0 a0_1 ∧ ce2 w' g2 a1_0 a1_1) (ds := []) (lb 12 0) (by kernel_rfl) rfl rfl ⟨cc2 K1, cc2 K2⟩ (fun hHeld => ?_); refine with_tabW spec_ValMake.tab7 spec_ValMake.bits7 (fun HT_ HW_ => ?_)
  generalize wc.drew = w4 at K1 K2 K3 HB hHeld ⊢
  refine pk 0 32 1 ?_
  refine pk 2 34 5 ?_
  refine pk 4 36 21 ?_
  refine pk 7 39 149 ?_
  refine tk 1 33 151 hHeld ?_
  refine tk 3 35 159 hHeld ?_
  refine tk 5 37 191 hHeld ?_
  refine pk 6 38 255 ?_
  refine tk 8 40 511 hHeld ?_
  refine on 9 (some 41) 1023 fun K hK => ?_
  refine goes_ Try.func100 (by kernel_rfl) rfl #[.int .i64 (wrap64 (a1_1 - a0_0)), .int .i64 a1_0] (by rfl) rfl rfl mz ?_
  with_reducible refine (spec_l1Mod.calls _ _ _ _ A1.out).mono ?_
  rintro e w' ⟨rfl, ⟨nd, rfl⟩⟩
  refine ⟨_, rfl, ?_⟩
  refine kk hK ⟨cc2 K1, cc2 K2⟩ fun hHeld => ?_
  clear hK K
  refine pk 10 42 2047 ?_
  refine pk 11 5 4095 ?_
  refine done_ (done_of HT_.out (by kernel_rfl)) ?_
  try go_wp2
  (try (rw [drewN_self w4]; generalize hq_ : World.drewN w4 _ = w4; replace K1 : Bx2 w4 g1 a0_0 a0_1 24 := ⟨by rw [← hq_]; exact (Z K1)⟩; replace K2 : Bx2 w4 g2 a1_0 a1_1 86 := ⟨by rw [← hq_]; exact (Z K2)⟩; replace K3 : Bx4 w4 g3 0 0 0 0 50 := ⟨by rw [← hq_]; exact (Z K3)⟩; replace HB : Aside0 (Below w.heap.size w w4) := ⟨by rw [← hq_]; exact (YA HB)⟩; clear hq_))
  obtain ⟨K1, K2, K3, HB⟩ := dk3 K1 K2 K3 HB
  refine start_ (n := 12) (S := fun w' => ce2 w' g1 a0_0 a0_1 ∧ ce2 w' g2 a1_0 a1_1) (ds := []) (lb 12 0) (by kernel_rfl) rfl rfl ⟨cc2 K1, cc2 K2⟩ (fun hHeld => ?_); refine with_tabW spec_ValMake.tab8 spec_ValMake.bits8 (fun HT_ HW_ => ?_)
  generalize w4.drew = w5 at K1 K2 K3 HB hHeld ⊢
  refine pk 0 43 1 ?_
  refine pk 2 45 5 ?_
  refine pk 4 47 21 ?_
  refine pk 7 50 149 ?_
  refine tk 1 44 151 hHeld ?_
  refine tk 3 46 159 hHeld ?_
  refine tk 5 48 191 hHeld ?_
  refine pk 6 49 255 ?_
  refine tk 8 51 511 hHeld ?_
  refine on 9 (some 52) 1023 fun K hK => ?_
  refine goes_ Try.func100 (by kernel_rfl) rfl #[.int .i64 (wrap64 (a0_1 - a1_1)), .int .i64 a1_0] (by rfl) rfl rfl mz ?_
  with_reducible refine (spec_l1Mod.calls _ _ _ _ A2.out).mono ?_
  rintro e w' ⟨rfl, ⟨nd, rfl⟩⟩
  refine ⟨_, rfl, ?_⟩
  refine kk hK ⟨cc2 K1, cc2 K2⟩ fun hHeld => ?_
  clear hK K
  refine pk 10 53 2047 ?_
  refine pk 11 6 4095 ?_
  refine done_ (done_of HT_.out (by kernel_rfl)) ?_
  have := ns1 N4
  have := cB2 K2
  have := cB4 K3
  try go_wp2
  refine bodyPost_ret (results_cell_row rfl _ _ g3 50 #[.int .i64 (wrap64 (a0_0 + t3)), .int .i64 (wrap64 (a0_1 - t4)), .int .i64 a1_0, .int .i64 a1_1] (0, 0) _ rfl (by refine pf ?_; refine bp (ia4 (wrap64 (a0_0 + t3)) (wrap64 (a0_1 - t4)) a1_0 0) ?_ 3; refine pf ?_; refine bp (ia4 (wrap64 (a0_0 + t3)) (wrap64 (a0_1 - t4)) 0 0) ?_ 2; refine pf ?_; refine bp (ia4 (wrap64 (a0_0 + t3)) 0 0 0) ?_ 1; refine pf ?_; refine bp (ia4 0 0 0 0) ?_ 0; exact Z K3) Try.underlying50 rfl (by kernel_rfl)) rfl ?_
  exact ⟨ez, YA HB⟩
 rw [if_pos c4] at H
 have d4 := eT c4
 have d5 := nF c4
 clear c4
 obtain ⟨⟨t5, t6, t7, t8⟩, A3, H⟩ := bd H
 try dsimp only at H
 obtain ⟨rfl, rfl, rfl, rfl⟩ := sj4 H
 have := ns2 N2 N5
 have := cB2 K2
 try go_wp2
 obtain ⟨K1, K2, K3, HB⟩ := dk3 K1 K2 K3 HB
 refine start_ (n := 12) (S := fun w' => ce2 w' g1 a0_0 a0_1 ∧ ce2 w' g2 a1_0 a1_1) (ds := []) (lb 12 0) (by kernel_rfl) rfl rfl ⟨cc2 K1, cc2 K2⟩ (fun hHeld => ?_); refine with_tabW spec_ValMake.tab7 spec_ValMake.bits7 (fun HT_ HW_ => ?_)
 generalize wc.drew = w4 at K1 K2 K3 HB hHeld ⊢
 refine pk 0 32 1 ?_
 refine pk 2 34 5 ?_
 refine pk 4 36 21 ?_
 refine pk 7 39 149 ?_
 refine tk 1 33 151 hHeld ?_
 refine tk 3 35 159 hHeld ?_
 refine tk 5 37 191 hHeld ?_
 refine pk 6 38 255 ?_
 refine tk 8 40 511 hHeld ?_
 refine on 9 (some 41) 1023 fun K hK => ?_
 refine goes_ Try.func100 (by kernel_rfl) rfl #[.int .i64 (wrap64 (a1_1 - a0_0)), .int .i64 a1_0] (by rfl) rfl rfl mz ?_
 with_reducible refine (spec_l1Mod.calls _ _ _ _ A1.out).mono ?_
 rintro e w' ⟨rfl, ⟨nd, rfl⟩⟩
 refine ⟨_, rfl, ?_⟩
 refine kk hK ⟨cc2 K1, cc2 K2⟩ fun hHeld => ?_
 clear hK K
 refine pk 10 42 2047 ?_
 refine pk 11 5 4095 ?_
 refine done_ (done_of HT_.out (by kernel_rfl)) ?_
 try go_wp2
 (try (rw [drewN_self w4]; generalize hq_ : World.drewN w4 _ = w4; replace K1 : Bx2 w4 g1 a0_0 a0_1 24 := ⟨by rw [← hq_]; exact (Z K1)⟩; replace K2 : Bx2 w4 g2 a1_0 a1_1 86 := ⟨by rw [← hq_]; exact (Z K2)⟩; replace K3 : Bx4 w4 g3 0 0 0 0 50 := ⟨by rw [← hq_]; exact (Z K3)⟩; replace HB : Aside0 (Below w.heap.size w w4) := ⟨by rw [← hq_]; exact (YA HB)⟩; clear hq_))
 obtain ⟨K1, K2, K3, HB⟩ := dk3 K1 K2 K3 HB
 refine start_ (n := 12) (S := fun w' => ce2 w' g1 a0_0 a0_1 ∧ ce2 w' g2 a1_0 a1_1) (ds := []) (lb 12 0) (by kernel_rfl) rfl rfl ⟨cc2 K1, cc2 K2⟩ (fun hHeld => ?_); refine with_tabW spec_ValMake.tab8 spec_ValMake.bits8 (fun HT_ HW_ => ?_)
 generalize w4.drew = w5 at K1 K2 K3 HB hHeld ⊢
 refine pk 0 43 1 ?_
 refine pk 2 45 5 ?_
 refine pk 4 47 21 ?_
 refine pk 7 50 149 ?_
 refine tk 1 44 151 hHeld ?_
 refine tk 3 46 159 hHeld ?_
 refine tk 5 48 191 hHeld ?_
 refine pk 6 49 255 ?_
 refine tk 8 51 511 hHeld ?_
 refine on 9 (some 52) 1023 fun K hK => ?_
 refine goes_ Try.func100 (by kernel_rfl) rfl #[.int .i64 (wrap64 (a0_1 - a1_1)), .int .i64 a1_0] (by rfl) rfl rfl mz ?_
 with_reducible refine (spec_l1Mod.calls _ _ _ _ A2.out).mono ?_
 rintro e w' ⟨rfl, ⟨nd, rfl⟩⟩
 refine ⟨_, rfl, ?_⟩
 refine kk hK ⟨cc2 K1, cc2 K2⟩ fun hHeld => ?_
 clear hK K
 refine pk 10 53 2047 ?_
 refine pk 11 6 4095 ?_
 refine done_ (done_of HT_.out (by kernel_rfl)) ?_
 try go_wp2_with (first | ((with_reducible refine gate_callee (f := 103) rfl ?_); refine gL 62 Try.func103 (spec_l10One.calls _ _ _ _ _ _ A3.out) fun w6 hb => ?_; obtain ⟨K1, K2, K3, HB⟩ := bk3 K1 K2 K3 HB hb; (try clear hb); have := ns1 N4; have := cB4 K3))
 refine bodyPost_ret (results_cell_row rfl _ _ g3 50 #[.int .i64 t5, .int .i64 t6, .int .i64 t7, .int .i64 t8] (0, 0) _ rfl (by refine pf ?_; refine bp (ia4 t5 t6 t7 0) ?_ 3; refine pf ?_; refine bp (ia4 t5 t6 0 0) ?_ 2; refine pf ?_; refine bp (ia4 t5 0 0 0) ?_ 1; refine pf ?_; refine bp (ia4 0 0 0 0) ?_ 0; exact Z K3) Try.underlying50 rfl (by kernel_rfl)) rfl ?_
 exact ⟨ez, YA HB⟩
end
section
attribute [local go_sem] max2_int min2_int max_two min_two max_three min_three max_four min_four
attribute [local go_sem] Go.Proofs.YthbkakcchgnhpaaSet.isSome_setCell
def spec_l10Rest.f (a0_0 : Int) (a0_1 : Int) (a0_2 : Int) (a0_3 : Int) : Option (Int × Int) := some (a0_2, a0_3)
set_option maxHeartbeats 8000000 in
set_option maxRecDepth 100000 in
theorem spec_l10Rest.calls (a0_0 : Int) (a0_1 : Int) (a0_2 : Int) (a0_3 : Int) (r1 : Int) (r2 : Int) (w : World) (h : spec_l10Rest.f a0_0 a0_1 a0_2 a0_3 = some (r1, r2)) :
  Calls Try.prog 75 #[.agg #[.int .i64 a0_0, .int .i64 a0_1, .int .i64 a0_2, .int .i64 a0_3]] w fun e w' => e = .returned (.agg #[.int .i64 r1, .int .i64 r2]) ∧ Below w.heap.size w w' := by
 have hu50 := Try.underlying50
 have hu86 := Try.underlying86
 have HB := am (Below.refl w.heap.size w)
 have H : (some (a0_2, a0_3)) = some (r1, r2) := h
 clear h
 obtain ⟨rfl, rfl⟩ := sj2 H
 go_enter Try.func75, Try.ntmps75
 go_wp2_with (first | ((with_reducible refine gate_dst (N := 1) rfl ?_); refine bxn 1 #[.int .i64 a0_0, .int .i64 a0_1, .int .i64 a0_2, .int .i64 a0_3] 50 HB fun g1 w1 K1 G1 hg hb => ?_; replace HB := am (below_step (YA HB) hb); clear hb hg) | ((with_reducible refine gate_dst (N := 2) rfl ?_); refine bxn 2 #[.int .i64 0, .int .i64 0] 86 HB fun g2 w2 K2 G2 hg hb => ?_; obtain ⟨N1,N2⟩ := ne_ hg K1; obtain ⟨K1, HB⟩ := bk1 K1 HB hb; clear hb hg; have := ns1 N1; have := cB4 K1; have := cB2 K2))
 refine bodyPost_ret (results_cell_row rfl _ _ g2 86 #[.int .i64 a0_2, .int .i64 a0_3] (0, 0) _ rfl (by refine pf ?_; refine bp (ia2 a0_2 0) ?_ 1; refine pf ?_; refine bp (ia2 0 0) ?_ 0; exact Z K2) Try.underlying86 rfl (by kernel_rfl)) rfl ?_
 exact ⟨ez, YA HB⟩
end
section
attribute [local go_sem] max2_int min2_int max_two min_two max_three min_three max_four min_four
attribute [local go_sem high] eqA50
attribute [local go_sem] Go.Proofs.YthbkakcchgnhpaaSet.isSome_setCell
def spec_ValOk.f (k : Nat) (a0_0 : Int) (a0_1 : Int) (a0_2 : Int) (a0_3 : Int) : Option (Bool) := (spec_l10None.f).bind fun u1 => (if (a0_0 == u1.1 && (a0_1 == u1.2.1 && (a0_2 == u1.2.2.1 && (a0_3 == u1.2.2.2)))) = true then (some true) else ((spec_l10Range.f a0_0 a0_1 a0_2 a0_3).bind fun u2 => ((spec_RangeOk.f u2.1 u2.2).bind fun t1 => (if t1 = true then ((spec_l10Rest.f a0_0 a0_1 a0_2 a0_3).bind fun u3 => ((spec_RestOk.f u3.1 u3.2).bind fun t2 => (if t2 = true then ((spec_l10Range.f a0_0 a0_1 a0_2 a0_3).bind fun u4 => ((spec_l10Rest.f a0_0 a0_1 a0_2 a0_3).bind fun u5 => ((spec_ValMake.f k u4.1 u4.2 u5.1 u5.2).bind fun u6 => (some (a0_0 == u6.1 && (a0_1 == u6.2.1 && (a0_2 == u6.2.2.1 && (a0_3 == u6.2.2.2)))))))) else (some false)))) else (some false)))))
theorem spec_ValOk.mono : ∀ a0 a1 a2 a3 k, LeO (spec_ValOk.f k a0 a1 a2 a3) (spec_ValOk.f (k + 1) a0 a1 a2 a3) := by
 intro a0 a1 a2 a3 k
 unfold spec_ValOk.f
 repeat' first | (with_reducible first | apply spec_ValMake.mono | apply LeO.refl | apply LeO.none | refine LeO.ite ?_ ?_ | refine LeO.bind ?_ (fun _ => ?_)) | apply spec_ValMake.mono | apply LeO.none | refine LeO.ite ?_ ?_ | refine LeO.bind ?_ (fun _ => ?_)
def spec_ValOk.T1 : Bool × List (List Nat × List Nat) := (true, [([], []), ([], []), ([0, 1], [0, 1]), ([2, 1], [2]), ([3], [3]), ([4, 3, 3], [3, 4]), ([5, 5, 3], [3, 5]), ([6, 6, 3], [3, 6]), ([7], [7]), ([8, 7, 7], [7, 8]), ([9, 9, 7], [7, 9]), ([7, 10, 3], [3, 7, 10]), ([11, 10, 3], [3, 11]), ([12], [12]), ([12], [12]), ([14, 12, 12], [12, 14]), ([12], [12]), ([16, 15, 12], [12, 16]), ([15, 17, 17, 12], [12, 15, 17]), ([13, 18, 12], [12, 13, 18]), ([12, 19, 3], [3, 12, 19]), ([3, 20], [3, 20]), ([21, 18, 0, 1, 2, 3, 4, 5, 6, 7, 8, 9, 10, 11, 12, 13, 14, 15, 16, 17, 18, 19, 20, 21], [21])])
def spec_ValOk.B1 : List Nat := [0, 0, 3, 7, 15, 31, 63, 127, 255, 511, 1023, 2047, 4095, 8191, 8191, 24575, 8191, 122879, 253951, 524287, 1048575, 2097151, 4194303]
theorem spec_ValOk.tab1 : rtab .any (opsOf Try.f70 1) = spec_ValOk.T1 := by kernel_rfl
theorem spec_ValOk.bits1 : waitsOk spec_ValOk.T1.2 spec_ValOk.B1 = true := by kernel_rfl
set_option maxHeartbeats 8000000 in
set_option maxRecDepth 100000 in
theorem spec_ValOk.calls (k : Nat) (a0_0 : Int) (a0_1 : Int) (a0_2 : Int) (a0_3 : Int) (r : Bool) (w : World) (h : spec_ValOk.f k a0_0 a0_1 a0_2 a0_3 = some r) :
  Calls Try.prog 70 #[.agg #[.int .i64 a0_0, .int .i64 a0_1, .int .i64 a0_2, .int .i64 a0_3]] w fun e w' => e = .returned (.bool r) ∧ Below w.heap.size w w' := by
 have hu50 := Try.underlying50
 have HB := am (Below.refl w.heap.size w)
 have H : ((spec_l10None.f).bind fun u1 => (if (a0_0 == u1.1 && (a0_1 == u1.2.1 && (a0_2 == u1.2.2.1 && (a0_3 == u1.2.2.2)))) = true then (some true) else ((spec_l10Range.f a0_0 a0_1 a0_2 a0_3).bind fun u2 => ((spec_RangeOk.f u2.1 u2.2).bind fun t1 => (if t1 = true then ((spec_l10Rest.f a0_0 a0_1 a0_2 a0_3).bind fun u3 => ((spec_RestOk.f u3.1 u3.2).bind fun t2 => (if t2 = true then ((spec_l10Range.f a0_0 a0_1 a0_2 a0_3).bind fun u4 => ((spec_l10Rest.f a0_0 a0_1 a0_2 a0_3).bind fun u5 => ((spec_ValMake.f k u4.1 u4.2 u5.1 u5.2).bind fun u6 => (some (a0_0 == u6.1 && (a0_1 == u6.2.1 && (a0_2 == u6.2.2.1 && (a0_3 == u6.2.2.2)))))))) else (some false)))) else (some false)))))) = some r := h
 clear h
 obtain ⟨⟨t3, t4, t5, t6⟩, A1, H⟩ := bd H
 try dsimp only at H
 by_cases c1 : (a0_0 == t3 && (a0_1 == t4 && (a0_2 == t5 && (a0_3 == t6)))) = true
 ·rw [if_pos c1] at H
  have d1 : (a0_0 == t3 && (a0_1 == t4 && (a0_2 == t5 && (a0_3 == t6)))) = true := c1
  (try (have d2 : decide (a0_0 = t3 && (a0_1 == t4 && (a0_2 == t5 && (a0_3 == t6)))) = true := by simpa using c1))
  (try (have d3 : (a0_0 == t3 && (a0_1 == t4 && (a0_2 == t5 && (a0_3 == t6)))) = true := by simpa using c1))
  clear c1
  obtain rfl := Option.some.inj H
  go_enter Try.func70, Try.ntmps70
  try go_wp2_with (first | ((with_reducible refine gate_dst (N := 1) rfl ?_); refine bxn 1 #[.int .i64 a0_0, .int .i64 a0_1, .int .i64 a0_2, .int .i64 a0_3] 50 HB fun g1 w1 K1 G1 hg hb => ?_; replace HB := am (below_step (YA HB) hb); clear hb hg))
  obtain ⟨K1, HB⟩ := dk1 K1 HB
  refine start_ (n := 23) (S := fun w' => ce4 w' g1 a0_0 a0_1 a0_2 a0_3) (ds := []) (lb 23 0) (by kernel_rfl) rfl rfl (cc4 K1) (fun hHeld => ?_); refine with_tabW spec_ValOk.tab1 spec_ValOk.bits1 (fun HT_ HW_ => ?_)
  generalize w1.drew = w2 at K1 HB hHeld ⊢
  refine tk 0 3 1 hHeld ?_
  refine on 1 (some 4) 3 fun K hK => ?_
  refine ck hK Try.func71 (spec_l10None.calls _ _ _ _ _ A1.out) (fun _ b => bk1 K1 HB b) fun w3 Q_ hHeld => ?_
  clear hK K
  obtain ⟨K1, HB⟩ := Q_
  refine pk 2 5 7 ?_
  refine pk 3 6 15 ?_
  refine uk 4 7 31 ?_
  refine uk 5 8 63 ?_
  refine uk 6 9 127 ?_
  refine uk 7 10 255 ?_
  refine uk 8 11 511 ?_
  refine uk 9 12 1023 ?_
  refine uk 10 13 2047 ?_
  refine uk 11 14 4095 ?_
  refine uk 12 15 8191 ?_
  refine uk 13 16 16383 ?_
  refine uk 14 17 32767 ?_
  refine uk 15 18 65535 ?_
  refine uk 16 19 131071 ?_
  refine uk 17 20 262143 ?_
  refine uk 18 21 524287 ?_
  refine uk 19 22 1048575 ?_
  refine uk 20 23 2097151 ?_
  refine pk 21 24 4194303 ?_
  refine pk 22 2 8388607 ?_
  refine done_ (done_of HT_.out (by kernel_rfl)) ?_
  try go_wp2
  go_ret
  exact ⟨ez, YA HB⟩
 rw [if_neg c1] at H
 have d1 : (a0_0 == t3 && (a0_1 == t4 && (a0_2 == t5 && (a0_3 == t6)))) = false := by simpa using c1
 (try (have d2 : decide (a0_0 = t3 && (a0_1 == t4 && (a0_2 == t5 && (a0_3 == t6)))) = false := by simpa using c1))
 (try (have d3 : (a0_0 == t3 && (a0_1 == t4 && (a0_2 == t5 && (a0_3 == t6)))) = false := by simpa using c1))
 (try (have d4 : ¬ (a0_0 = t3 && (a0_1 == t4 && (a0_2 == t5 && (a0_3 == t6)))) := by simpa using c1))
 clear c1
 obtain ⟨⟨t7, t8⟩, A2, H⟩ := bd H
 try dsimp only at H
 obtain ⟨t1, A3, H⟩ := bd H
 try dsimp only at H
 by_cases c2 : t1 = true
 rotate_left
 ·replace c2 := Bool.eq_false_iff.mpr c2
  subst c2
  rw [if_neg ff] at H
  obtain rfl := Option.some.inj H
  go_enter Try.func70, Try.ntmps70
  try go_wp2_with (first | ((with_reducible refine gate_dst (N := 1) rfl ?_); refine bxn 1 #[.int .i64 a0_0, .int .i64 a0_1, .int .i64 a0_2, .int .i64 a0_3] 50 HB fun g1 w1 K1 G1 hg hb => ?_; replace HB := am (below_step (YA HB) hb); clear hb hg))
  obtain ⟨K1, HB⟩ := dk1 K1 HB
  refine start_ (n := 23) (S := fun w' => ce4 w' g1 a0_0 a0_1 a0_2 a0_3) (ds := []) (lb 23 0) (by kernel_rfl) rfl rfl (cc4 K1) (fun hHeld => ?_); refine with_tabW spec_ValOk.tab1 spec_ValOk.bits1 (fun HT_ HW_ => ?_)
  generalize w1.drew = w2 at K1 HB hHeld ⊢
  refine tk 0 3 1 hHeld ?_
  refine on 1 (some 4) 3 fun K hK => ?_
  refine ck hK Try.func71 (spec_l10None.calls _ _ _ _ _ A1.out) (fun _ b => bk1 K1 HB b) fun w3 Q_ hHeld => ?_
  clear hK K
  obtain ⟨K1, HB⟩ := Q_
  refine pk 2 5 7 ?_
  refine pk 3 6 15 ?_
  refine tk 4 7 31 hHeld ?_
  refine on 5 (some 8) 63 fun K hK => ?_
  refine ck hK Try.func72 (spec_l10Range.calls _ _ _ _ _ _ _ A2.out) (fun _ b => bk1 K1 HB b) fun w4 Q_ hHeld => ?_
  clear hK K
  obtain ⟨K1, HB⟩ := Q_
  refine on 6 (some 9) 127 fun K hK => ?_
  refine ck hK Try.func24 (spec_RangeOk.calls _ _ _ _ A3.out) (fun _ b => bk1 K1 HB b) fun w5 Q_ hHeld => ?_
  clear hK K
  obtain ⟨K1, HB⟩ := Q_
  refine pk 7 10 255 ?_
  refine uk 8 11 511 ?_
  refine uk 9 12 1023 ?_
  refine uk 10 13 2047 ?_
  refine pk 11 14 4095 ?_
  refine pk 12 15 8191 ?_
  refine uk 13 16 16383 ?_
  refine uk 14 17 32767 ?_
  refine uk 15 18 65535 ?_
  refine uk 16 19 131071 ?_
  refine uk 17 20 262143 ?_
  refine uk 18 21 524287 ?_
  refine uk 19 22 1048575 ?_
  refine pk 20 23 2097151 ?_
  refine pk 21 24 4194303 ?_
  refine pk 22 2 8388607 ?_
  refine done_ (done_of HT_.out (by kernel_rfl)) ?_
  try go_wp2
  go_ret
  exact ⟨ez, YA HB⟩
 subst c2
 rw [if_pos rfl] at H
 obtain ⟨⟨t9, t10⟩, A4, H⟩ := bd H
 try dsimp only at H
 obtain ⟨t2, A5, H⟩ := bd H
 try dsimp only at H
 by_cases c3 : t2 = true
 rotate_left
 ·replace c3 := Bool.eq_false_iff.mpr c3
  subst c3
  rw [if_neg ff] at H
  obtain rfl := Option.some.inj H
  go_enter Try.func70, Try.ntmps70
  try go_wp2_with (first | ((with_reducible refine gate_dst (N := 1) rfl ?_); refine bxn 1 #[.int .i64 a0_0, .int .i64 a0_1, .int .i64 a0_2, .int .i64 a0_3] 50 HB fun g1 w1 K1 G1 hg hb => ?_; replace HB := am (below_step (YA HB) hb); clear hb hg))
  obtain ⟨K1, HB⟩ := dk1 K1 HB
  refine start_ (n := 23) (S := fun w' => ce4 w' g1 a0_0 a0_1 a0_2 a0_3) (ds := []) (lb 23 0) (by kernel_rfl) rfl rfl (cc4 K1) (fun hHeld => ?_); refine with_tabW spec_ValOk.tab1 spec_ValOk.bits1 (fun HT_ HW_ => ?_)
  generalize w1.drew = w2 at K1 HB hHeld ⊢
  refine tk 0 3 1 hHeld ?_
  refine on 1 (some 4) 3 fun K hK => ?_
  refine ck hK Try.func71 (spec_l10None.calls _ _ _ _ _ A1.out) (fun _ b => bk1 K1 HB b) fun w3 Q_ hHeld => ?_
  clear hK K
  obtain ⟨K1, HB⟩ := Q_
  refine pk 2 5 7 ?_
  refine pk 3 6 15 ?_
  refine tk 4 7 31 hHeld ?_
  refine on 5 (some 8) 63 fun K hK => ?_
  refine ck hK Try.func72 (spec_l10Range.calls _ _ _ _ _ _ _ A2.out) (fun _ b => bk1 K1 HB b) fun w4 Q_ hHeld => ?_
  clear hK K
  obtain ⟨K1, HB⟩ := Q_
  refine on 6 (some 9) 127 fun K hK => ?_
  refine ck hK Try.func24 (spec_RangeOk.calls _ _ _ _ A3.out) (fun _ b => bk1 K1 HB b) fun w5 Q_ hHeld => ?_
  clear hK K
  obtain ⟨K1, HB⟩ := Q_
  refine pk 7 10 255 ?_
  refine tk 8 11 511 hHeld ?_
  refine on 9 (some 12) 1023 fun K hK => ?_
  refine ck hK Try.func75 (spec_l10Rest.calls _ _ _ _ _ _ _ A4.out) (fun _ b => bk1 K1 HB b) fun w6 Q_ hHeld => ?_
  clear hK K
  obtain ⟨K1, HB⟩ := Q_
  refine on 10 (some 13) 2047 fun K hK => ?_
  refine ck hK Try.func102 (spec_RestOk.calls _ _ _ _ A5.out) (fun _ b => bk1 K1 HB b) fun w7 Q_ hHeld => ?_
  clear hK K
  obtain ⟨K1, HB⟩ := Q_
  refine pk 11 14 4095 ?_
  refine pk 12 15 8191 ?_
  refine uk 13 16 16383 ?_
  refine uk 14 17 32767 ?_
  refine uk 15 18 65535 ?_
  refine uk 16 19 131071 ?_
  refine uk 17 20 262143 ?_
  refine uk 18 21 524287 ?_
  refine uk 19 22 1048575 ?_
  refine pk 20 23 2097151 ?_
  refine pk 21 24 4194303 ?_
  refine pk 22 2 8388607 ?_
  refine done_ (done_of HT_.out (by kernel_rfl)) ?_
  try go_wp2
  go_ret
  exact ⟨ez, YA HB⟩
 subst c3
 rw [if_pos rfl] at H
 obtain ⟨⟨t11, t12⟩, A6, H⟩ := bd H
 try dsimp only at H
 obtain ⟨⟨t13, t14⟩, A7, H⟩ := bd H
 try dsimp only at H
 obtain ⟨⟨t15, t16, t17, t18⟩, A8, H⟩ := bd H
 try dsimp only at H
 obtain rfl := Option.some.inj H
 go_enter Try.func70, Try.ntmps70
 try go_wp2_with (first | ((with_reducible refine gate_dst (N := 1) rfl ?_); refine bxn 1 #[.int .i64 a0_0, .int .i64 a0_1, .int .i64 a0_2, .int .i64 a0_3] 50 HB fun g1 w1 K1 G1 hg hb => ?_; replace HB := am (below_step (YA HB) hb); clear hb hg))
 obtain ⟨K1, HB⟩ := dk1 K1 HB
 refine start_ (n := 23) (S := fun w' => ce4 w' g1 a0_0 a0_1 a0_2 a0_3) (ds := []) (lb 23 0) (by kernel_rfl) rfl rfl (cc4 K1) (fun hHeld => ?_); refine with_tabW spec_ValOk.tab1 spec_ValOk.bits1 (fun HT_ HW_ => ?_)
 generalize w1.drew = w2 at K1 HB hHeld ⊢
 refine tk 0 3 1 hHeld ?_
 refine on 1 (some 4) 3 fun K hK => ?_
 refine ck hK Try.func71 (spec_l10None.calls _ _ _ _ _ A1.out) (fun _ b => bk1 K1 HB b) fun w3 Q_ hHeld => ?_
 clear hK K
 obtain ⟨K1, HB⟩ := Q_
 refine pk 2 5 7 ?_
 refine pk 3 6 15 ?_
 refine tk 4 7 31 hHeld ?_
 refine on 5 (some 8) 63 fun K hK => ?_
 refine ck hK Try.func72 (spec_l10Range.calls _ _ _ _ _ _ _ A2.out) (fun _ b => bk1 K1 HB b) fun w4 Q_ hHeld => ?_
 clear hK K
 obtain ⟨K1, HB⟩ := Q_
 refine on 6 (some 9) 127 fun K hK => ?_
 refine ck hK Try.func24 (spec_RangeOk.calls _ _ _ _ A3.out) (fun _ b => bk1 K1 HB b) fun w5 Q_ hHeld => ?_
 clear hK K
 obtain ⟨K1, HB⟩ := Q_
 refine pk 7 10 255 ?_
 refine tk 8 11 511 hHeld ?_
 refine on 9 (some 12) 1023 fun K hK => ?_
 refine ck hK Try.func75 (spec_l10Rest.calls _ _ _ _ _ _ _ A4.out) (fun _ b => bk1 K1 HB b) fun w6 Q_ hHeld => ?_
 clear hK K
 obtain ⟨K1, HB⟩ := Q_
 refine on 10 (some 13) 2047 fun K hK => ?_
 refine ck hK Try.func102 (spec_RestOk.calls _ _ _ _ A5.out) (fun _ b => bk1 K1 HB b) fun w7 Q_ hHeld => ?_
 clear hK K
 obtain ⟨K1, HB⟩ := Q_
 refine pk 11 14 4095 ?_
 refine pk 12 15 8191 ?_
 refine tk 13 16 16383 hHeld ?_
 refine tk 14 17 32767 hHeld ?_
 refine tk 16 19 98303 hHeld ?_
 refine on 15 (some 18) 131071 fun K hK => ?_
 refine ck hK Try.func72 (spec_l10Range.calls _ _ _ _ _ _ _ A6.out) (fun _ b => bk1 K1 HB b) fun w8 Q_ hHeld => ?_
 clear hK K
 obtain ⟨K1, HB⟩ := Q_
 refine on 17 (some 20) 262143 fun K hK => ?_
 refine ck hK Try.func75 (spec_l10Rest.calls _ _ _ _ _ _ _ A7.out) (fun _ b => bk1 K1 HB b) fun w9 Q_ hHeld => ?_
 clear hK K
 obtain ⟨K1, HB⟩ := Q_
 refine on 18 (some 21) 524287 fun K hK => ?_
 refine ck hK Try.func73 (spec_ValMake.calls _ _ _ _ _ _ _ _ _ _ A8.out) (fun _ b => bk1 K1 HB b) fun w10 Q_ hHeld => ?_
 clear hK K
 obtain ⟨K1, HB⟩ := Q_
 refine pk 19 22 1048575 ?_
 refine pk 20 23 2097151 ?_
 refine pk 21 24 4194303 ?_
 refine pk 22 2 8388607 ?_
 refine done_ (done_of HT_.out (by kernel_rfl)) ?_
 try go_wp2
 go_ret
 exact ⟨ez, YA HB⟩
end
end Go.Proofs.Ythbkakcchgnhpaa.PFnValTurn
