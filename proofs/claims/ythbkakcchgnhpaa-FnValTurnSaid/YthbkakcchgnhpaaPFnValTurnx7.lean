/- Written by this session's own driver (wip/dprint.py): the functions that the law FnValTurn reaches, as Lean functions, each with its contract. -/
import Derived.Test.YthbkakcchgnhpaaPFnValTurnx0
import Derived.Test.YthbkakcchgnhpaaPFnValTurnx1
import Derived.Test.YthbkakcchgnhpaaPFnValTurnx4
import Derived.Test.YthbkakcchgnhpaaPFnValTurnx6
import Derived.Test.YthbkakcchgnhpaaSv
import Derived.Test.YthbkakcchgnhpaaPFnValTurnx2
import Derived.Test.YthbkakcchgnhpaaPFnValTurnx3
namespace Go.Proofs.Ythbkakcchgnhpaa.PFnValTurn
open Go.RowKit Go.Proofs.YthbkakcchgnhpaaV.PrintWords Go.Proofs.YthbkakcchgnhpaaV.PrintLast Go.Proofs.YthbkakcchgnhpaaV.PrintMore Go.Proofs.YthbkakcchgnhpaaSv
set_option linter.unusedVariables false
set_option linter.unusedSimpArgs false
section
attribute [local go_sem] max2_int min2_int max_two min_two max_three min_three max_four min_four
attribute [local go_sem high] eqA50
attribute [local go_sem] Go.Proofs.YthbkakcchgnhpaaSet.isSome_setCell
def spec_ValJoin.j0 : Nat → Bool → Int → Int → Int → Int → Int → Int → Int → Int → Option (Int × Int × Int × Int)
 | 0, _, _, _, _, _, _, _, _, _ => none
 | k + 1, x1, x2, x3, x4, x5, x6, x7, x8, x9 => if x1 = true then ((spec_l10None.f).bind fun u1 => (some (u1.1, u1.2.1, u1.2.2.1, u1.2.2.2))) else ((spec_l10None.f).bind fun u2 => (if (x2 == u2.1 && (x3 == u2.2.1 && (x4 == u2.2.2.1 && (x5 == u2.2.2.2)))) = true then (some (x6, x7, x8, x9)) else ((spec_l10None.f).bind fun u3 => (if (x6 == u3.1 && (x7 == u3.2.1 && (x8 == u3.2.2.1 && (x9 == u3.2.2.2)))) = true then (some (x2, x3, x4, x5)) else ((spec_l10Range.f x2 x3 x4 x5).bind fun u4 => ((spec_l10Range.f x6 x7 x8 x9).bind fun u5 => ((spec_RangeJoin.f k u4.1 u4.2 u5.1 u5.2).bind fun u6 => ((spec_l10Rest.f x2 x3 x4 x5).bind fun u7 => ((spec_l10Rest.f x6 x7 x8 x9).bind fun u8 => ((spec_RestJoin.f k u7.1 u7.2 u8.1 u8.2).bind fun u9 => ((spec_ValMake.f k u6.1 u6.2 u9.1 u9.2).bind fun u10 => (some (u10.1, u10.2.1, u10.2.2.1, u10.2.2.2)))))))))))))
def spec_ValJoin.f (k : Nat) (a0_0 : Int) (a0_1 : Int) (a0_2 : Int) (a0_3 : Int) (a1_0 : Int) (a1_1 : Int) (a1_2 : Int) (a1_3 : Int) : Option (Int × Int × Int × Int) := (spec_ValOk.f k a0_0 a0_1 a0_2 a0_3).bind fun t1 => (if t1 = true then ((spec_ValOk.f k a1_0 a1_1 a1_2 a1_3).bind fun t2 => (spec_ValJoin.j0 k (!t2) a0_0 a0_1 a0_2 a0_3 a1_0 a1_1 a1_2 a1_3)) else (spec_ValJoin.j0 k true a0_0 a0_1 a0_2 a0_3 a1_0 a1_1 a1_2 a1_3))
theorem spec_ValJoin.mono_l : ∀ k, (∀ y0 y1 y2 y3 y4 y5 y6 y7 y8, LeO (spec_ValJoin.j0 k y0 y1 y2 y3 y4 y5 y6 y7 y8) (spec_ValJoin.j0 (k + 1) y0 y1 y2 y3 y4 y5 y6 y7 y8))
 | 0 => fun _ _ _ _ _ _ _ _ _ r h => by simp [spec_ValJoin.j0] at h
 | k + 1 => by
  have ih0 := spec_ValJoin.mono_l k
  ·intro y0 y1 y2 y3 y4 y5 y6 y7 y8
   unfold spec_ValJoin.j0
   repeat' first | (with_reducible first | apply ih0 | apply spec_RangeJoin.mono | apply spec_RestJoin.mono | apply spec_ValMake.mono | apply spec_ValOk.mono | apply LeO.refl | apply LeO.none | refine LeO.ite ?_ ?_ | refine LeO.bind ?_ (fun _ => ?_)) | apply ih0 | apply spec_RangeJoin.mono | apply spec_RestJoin.mono | apply spec_ValMake.mono | apply spec_ValOk.mono | apply LeO.none | refine LeO.ite ?_ ?_ | refine LeO.bind ?_ (fun _ => ?_)
theorem spec_ValJoin.mono : ∀ a0 a1 a2 a3 a4 a5 a6 a7 k, LeO (spec_ValJoin.f k a0 a1 a2 a3 a4 a5 a6 a7) (spec_ValJoin.f (k + 1) a0 a1 a2 a3 a4 a5 a6 a7) := by
 intro a0 a1 a2 a3 a4 a5 a6 a7 k
 have ih0 := spec_ValJoin.mono_l k
 unfold spec_ValJoin.f
 repeat' first | (with_reducible first | apply ih0 | apply spec_RangeJoin.mono | apply spec_RestJoin.mono | apply spec_ValMake.mono | apply spec_ValOk.mono | apply LeO.refl | apply LeO.none | refine LeO.ite ?_ ?_ | refine LeO.bind ?_ (fun _ => ?_)) | apply ih0 | apply spec_RangeJoin.mono | apply spec_RestJoin.mono | apply spec_ValMake.mono | apply spec_ValOk.mono | apply LeO.none | refine LeO.ite ?_ ?_ | refine LeO.bind ?_ (fun _ => ?_)
def spec_ValJoin.T7 : Bool × List (List Nat × List Nat) := (true, [([], []), ([0], [0]), ([], []), ([2, 1], [2]), ([1, 3, 3], [1, 3]), ([], []), ([5, 4], [5]), ([], []), ([7, 6], [7]), ([6, 8, 8], [6, 8]), ([4, 9, 9], [4, 9]), ([10, 10, 0, 1, 2, 3, 4, 5, 6, 7, 8, 9, 10], [10])])
def spec_ValJoin.B7 : List Nat := [0, 1, 0, 7, 15, 0, 63, 0, 255, 511, 1023, 2047]
theorem spec_ValJoin.tab7 : rtab .any (opsOf Try.f34 7) = spec_ValJoin.T7 := by kernel_rfl
theorem spec_ValJoin.bits7 : waitsOk spec_ValJoin.T7.2 spec_ValJoin.B7 = true := by kernel_rfl
set_option maxHeartbeats 8000000 in
set_option maxRecDepth 100000 in
theorem spec_ValJoin.calls (k : Nat) (a0_0 : Int) (a0_1 : Int) (a0_2 : Int) (a0_3 : Int) (a1_0 : Int) (a1_1 : Int) (a1_2 : Int) (a1_3 : Int) (r1 : Int) (r2 : Int) (r3 : Int) (r4 : Int) (w : World) (h : spec_ValJoin.f k a0_0 a0_1 a0_2 a0_3 a1_0 a1_1 a1_2 a1_3 = some (r1, r2, r3, r4)) :
  Calls Try.prog 34 #[.agg #[.int .i64 a0_0, .int .i64 a0_1, .int .i64 a0_2, .int .i64 a0_3], .agg #[.int .i64 a1_0, .int .i64 a1_1, .int .i64 a1_2, .int .i64 a1_3]] w fun e w' => e = .returned (.agg #[.int .i64 r1, .int .i64 r2, .int .i64 r3, .int .i64 r4]) ∧ Below w.heap.size w w' := by
 have hu50 := Try.underlying50
 have HB := am (Below.refl w.heap.size w)
 have H : ((spec_ValOk.f k a0_0 a0_1 a0_2 a0_3).bind fun t1 => (if t1 = true then ((spec_ValOk.f k a1_0 a1_1 a1_2 a1_3).bind fun t2 => (spec_ValJoin.j0 k (!t2) a0_0 a0_1 a0_2 a0_3 a1_0 a1_1 a1_2 a1_3)) else (spec_ValJoin.j0 k true a0_0 a0_1 a0_2 a0_3 a1_0 a1_1 a1_2 a1_3))) = some (r1, r2, r3, r4) := h
 clear h
 have C1 := am H
 clear H
 go_enter Try.func34, Try.ntmps34
 go_upto_region 1 with (first | ((with_reducible refine gate_dst (N := 2) rfl ?_); refine bxn 2 #[.int .i64 a0_0, .int .i64 a0_1, .int .i64 a0_2, .int .i64 a0_3] 50 HB fun g1 w2 K1 G1 hg hb => ?_; replace HB := am (below_step (YA HB) hb); clear hb hg) | ((with_reducible refine gate_dst (N := 3) rfl ?_); refine bxn 3 #[.int .i64 a1_0, .int .i64 a1_1, .int .i64 a1_2, .int .i64 a1_3] 50 HB fun g2 w3 K2 G2 hg hb => ?_; obtain ⟨N1,N2⟩ := ne_ hg K1; obtain ⟨K1, HB⟩ := bk1 K1 HB hb; clear hb hg) | ((with_reducible refine gate_dst (N := 4) rfl ?_); refine bxn 4 #[.int .i64 0, .int .i64 0, .int .i64 0, .int .i64 0] 50 HB fun g3 w4 K3 G3 hg hb => ?_; obtain ⟨N3,N4⟩ := ne_ hg K1; obtain ⟨N5,N6⟩ := ne_ hg K2; obtain ⟨K1, K2, HB⟩ := bk2 K1 K2 HB hb; clear hb hg))
 (try simp only [Act.put, List.setIfInBounds_toArray, List.set_cons_zero, List.set_cons_succ])
 go_cut [12] (fun v1 wc => ∃ (kq : Nat) (x1 : Bool), v1 = .bool x1 ∧ Aside0 (spec_ValJoin.j0 kq x1 a0_0 a0_1 a0_2 a0_3 a1_0 a1_1 a1_2 a1_3 = some (r1, r2, r3, r4)) ∧ Aside0 (kq ≤ k) ∧ Bx4 wc g1 a0_0 a0_1 a0_2 a0_3 50 ∧ Bx4 wc g2 a1_0 a1_1 a1_2 a1_3 50 ∧ Bx4 wc g3 0 0 0 0 50 ∧ Aside0 (Below w.heap.size w wc))
 case first =>
  have H := C1.out
  clear C1
  obtain ⟨t1, A1, H⟩ := bd H
  try dsimp only at H
  by_cases c1 : t1 = true
  rotate_left
  ·replace c1 := Bool.eq_false_iff.mpr c1
   subst c1
   rw [if_neg ff] at H
   have H' := am H
   clear H
   have := ns2 N1 N3
   have := cB4 K1
   go_wp2_with (first | ((with_reducible refine gate_callee (f := 70) rfl ?_); refine gL 6 Try.func70 (spec_ValOk.calls _ _ _ _ _ _ _ A1.out) fun w5 hb => ?_; obtain ⟨K1, K2, K3, HB⟩ := bk3 K1 K2 K3 HB hb; (try clear hb)))
   go_meet
   case rel => exact ⟨_, (true), ey, H', le0, ⟨Z K1⟩, ⟨Z K2⟩, ⟨Z K3⟩, ⟨YA HB⟩⟩
  subst c1
  rw [if_pos rfl] at H
  obtain ⟨t2, A2, H⟩ := bd H
  try dsimp only at H
  have H' := am H
  clear H
  have := ns2 N1 N3
  have := cB4 K1
  go_wp2_with (first | ((with_reducible refine gate_callee (f := 70) rfl ?_); refine gL 6 Try.func70 (spec_ValOk.calls _ _ _ _ _ _ _ A1.out) fun w5 hb => ?_; obtain ⟨K1, K2, K3, HB⟩ := bk3 K1 K2 K3 HB hb; (try clear hb); have := ns1 N5; have := cB4 K2) | (go_at_call 70; (with_reducible refine (spec_ValOk.calls _ _ _ _ _ _ _ A2.out).mono ?_); rintro e w6 ⟨rfl, hb⟩; obtain ⟨K1, K2, K3, HB⟩ := bk3 K1 K2 K3 HB hb; (try clear hb)))
  go_meet
  case rel => exact ⟨_, (!t2), ey, H', le0, ⟨Z K1⟩, ⟨Z K2⟩, ⟨Z K3⟩, ⟨YA HB⟩⟩
 clear C1
 obtain ⟨kq, x1, rfl, HA, J1, K1, K2, K3, HB⟩ := hcut
 cases kq with
 | zero => exact absurd HA.out (by simp [spec_ValJoin.j0])
 | succ k1 => ?_
 have H := HA.out
 clear HA
 simp only [spec_ValJoin.j0] at H
 by_cases c1 : x1 = true
 ·subst c1
  rw [if_pos rfl] at H
  obtain ⟨⟨t3, t4, t5, t6⟩, A1, H⟩ := bd H
  try dsimp only at H
  obtain ⟨rfl, rfl, rfl, rfl⟩ := sj4 H
  go_wp2_with (first | ((with_reducible refine gate_callee (f := 71) rfl ?_); refine gL 13 Try.func71 (spec_l10None.calls _ _ _ _ _ A1.out) fun w5 hb => ?_; obtain ⟨K1, K2, K3, HB⟩ := bk3 K1 K2 K3 HB hb; (try clear hb); have := ns2 N4 N6; have := cB4 K3))
  refine bodyPost_ret (results_cell_row rfl _ _ g3 50 #[.int .i64 t3, .int .i64 t4, .int .i64 t5, .int .i64 t6] (0, 0) _ rfl (by refine pf ?_; refine bp (ia4 t3 t4 t5 0) ?_ 3; refine pf ?_; refine bp (ia4 t3 t4 0 0) ?_ 2; refine pf ?_; refine bp (ia4 t3 0 0 0) ?_ 1; refine pf ?_; refine bp (ia4 0 0 0 0) ?_ 0; exact Z K3) Try.underlying50 rfl (by kernel_rfl)) rfl ?_
  exact ⟨ez, YA HB⟩
 replace c1 := Bool.eq_false_iff.mpr c1
 subst c1
 rw [if_neg ff] at H
 obtain ⟨⟨t3, t4, t5, t6⟩, A1, H⟩ := bd H
 try dsimp only at H
 by_cases c2 : (a0_0 == t3 && (a0_1 == t4 && (a0_2 == t5 && (a0_3 == t6)))) = true
 ·rw [if_pos c2] at H
  have d1 : (a0_0 == t3 && (a0_1 == t4 && (a0_2 == t5 && (a0_3 == t6)))) = true := c2
  (try (have d2 : decide (a0_0 = t3 && (a0_1 == t4 && (a0_2 == t5 && (a0_3 == t6)))) = true := by simpa using c2))
  (try (have d3 : (a0_0 == t3 && (a0_1 == t4 && (a0_2 == t5 && (a0_3 == t6)))) = true := by simpa using c2))
  clear c2
  obtain ⟨rfl, rfl, rfl, rfl⟩ := sj4 H
  try go_wp2
  obtain ⟨K1, K2, K3, HB⟩ := dk3 K1 K2 K3 HB
  refine start_ (n := 3) (S := fun w' => ce4 w' g1 a0_0 a0_1 a0_2 a0_3) (ds := []) (lb 3 0) (by kernel_rfl) rfl rfl (cc4 K1) (fun hHeld => ?_)
  generalize wc.drew = w5 at K1 K2 K3 HB hHeld ⊢
  refine tq 0 14 1 hHeld ?_
  refine one_ (i := 1) (N := some 15) (lb 3 3) rfl rfl (by kernel_rfl) (by decide) (fun K hK => ?_)
  refine ck hK Try.func71 (spec_l10None.calls _ _ _ _ _ A1.out) (fun _ b => bk3 K1 K2 K3 HB b) fun w6 Q_ hHeld => ?_
  clear hK K
  obtain ⟨K1, K2, K3, HB⟩ := Q_
  refine pure_ (i := 2) (N := some 16) (v := ?_) (a' := ?_) (lb 3 7) rfl rfl (by kernel_rfl) (fun _ _ _ h => h) (Or.inl ⟨by rfl, ?_⟩) ?_ ?_
  rotate_left
  ·exact gz
  rotate_left
  ·exact pz
  refine done_ (by kernel_rfl) ?_
  have := ns3 N2 N5 N4
  have := cB4 K2
  have := cB4 K3
  try go_wp2
  refine bodyPost_ret (results_cell_row rfl _ _ g3 50 #[.int .i64 a1_0, .int .i64 a1_1, .int .i64 a1_2, .int .i64 a1_3] (0, 0) _ rfl (by refine pf ?_; refine bp (ia4 a1_0 a1_1 a1_2 0) ?_ 3; refine pf ?_; refine bp (ia4 a1_0 a1_1 0 0) ?_ 2; refine pf ?_; refine bp (ia4 a1_0 0 0 0) ?_ 1; refine pf ?_; refine bp (ia4 0 0 0 0) ?_ 0; exact Z K3) Try.underlying50 rfl (by kernel_rfl)) rfl ?_
  exact ⟨ez, YA HB⟩
 rw [if_neg c2] at H
 have d1 : (a0_0 == t3 && (a0_1 == t4 && (a0_2 == t5 && (a0_3 == t6)))) = false := by simpa using c2
 (try (have d2 : decide (a0_0 = t3 && (a0_1 == t4 && (a0_2 == t5 && (a0_3 == t6)))) = false := by simpa using c2))
 (try (have d3 : (a0_0 == t3 && (a0_1 == t4 && (a0_2 == t5 && (a0_3 == t6)))) = false := by simpa using c2))
 (try (have d4 : ¬ (a0_0 = t3 && (a0_1 == t4 && (a0_2 == t5 && (a0_3 == t6)))) := by simpa using c2))
 clear c2
 obtain ⟨⟨t7, t8, t9, t10⟩, A2, H⟩ := bd H
 try dsimp only at H
 by_cases c3 : (a1_0 == t7 && (a1_1 == t8 && (a1_2 == t9 && (a1_3 == t10)))) = true
 ·rw [if_pos c3] at H
  have d5 : (a1_0 == t7 && (a1_1 == t8 && (a1_2 == t9 && (a1_3 == t10)))) = true := c3
  (try (have d6 : decide (a1_0 = t7 && (a1_1 == t8 && (a1_2 == t9 && (a1_3 == t10)))) = true := by simpa using c3))
  (try (have d7 : (a1_0 == t7 && (a1_1 == t8 && (a1_2 == t9 && (a1_3 == t10)))) = true := by simpa using c3))
  clear c3
  obtain ⟨rfl, rfl, rfl, rfl⟩ := sj4 H
  try go_wp2
  obtain ⟨K1, K2, K3, HB⟩ := dk3 K1 K2 K3 HB
  refine start_ (n := 3) (S := fun w' => ce4 w' g1 a0_0 a0_1 a0_2 a0_3) (ds := []) (lb 3 0) (by kernel_rfl) rfl rfl (cc4 K1) (fun hHeld => ?_)
  generalize wc.drew = w5 at K1 K2 K3 HB hHeld ⊢
  refine tq 0 14 1 hHeld ?_
  refine one_ (i := 1) (N := some 15) (lb 3 3) rfl rfl (by kernel_rfl) (by decide) (fun K hK => ?_)
  refine ck hK Try.func71 (spec_l10None.calls _ _ _ _ _ A1.out) (fun _ b => bk3 K1 K2 K3 HB b) fun w6 Q_ hHeld => ?_
  clear hK K
  obtain ⟨K1, K2, K3, HB⟩ := Q_
  refine pure_ (i := 2) (N := some 16) (v := ?_) (a' := ?_) (lb 3 7) rfl rfl (by kernel_rfl) (fun _ _ _ h => h) (Or.inl ⟨by rfl, ?_⟩) ?_ ?_
  rotate_left
  ·exact gz
  rotate_left
  ·exact pz
  refine done_ (by kernel_rfl) ?_
  try go_wp2
  obtain ⟨K1, K2, K3, HB⟩ := dk3 K1 K2 K3 HB
  refine start_ (n := 3) (S := fun w' => ce4 w' g2 a1_0 a1_1 a1_2 a1_3) (ds := []) (lb 3 0) (by kernel_rfl) rfl rfl (cc4 K2) (fun hHeld => ?_)
  generalize w6.drew = w7 at K1 K2 K3 HB hHeld ⊢
  refine tq 0 18 1 hHeld ?_
  refine one_ (i := 1) (N := some 19) (lb 3 3) rfl rfl (by kernel_rfl) (by decide) (fun K hK => ?_)
  refine ck hK Try.func71 (spec_l10None.calls _ _ _ _ _ A2.out) (fun _ b => bk3 K1 K2 K3 HB b) fun w8 Q_ hHeld => ?_
  clear hK K
  obtain ⟨K1, K2, K3, HB⟩ := Q_
  refine pure_ (i := 2) (N := some 20) (v := ?_) (a' := ?_) (lb 3 7) rfl rfl (by kernel_rfl) (fun _ _ _ h => h) (Or.inl ⟨by rfl, ?_⟩) ?_ ?_
  rotate_left
  ·exact gz
  rotate_left
  ·exact pz
  refine done_ (by kernel_rfl) ?_
  have := ns3 N1 N3 N6
  have := cB4 K1
  have := cB4 K3
  try go_wp2
  refine bodyPost_ret (results_cell_row rfl _ _ g3 50 #[.int .i64 a0_0, .int .i64 a0_1, .int .i64 a0_2, .int .i64 a0_3] (0, 0) _ rfl (by refine pf ?_; refine bp (ia4 a0_0 a0_1 a0_2 0) ?_ 3; refine pf ?_; refine bp (ia4 a0_0 a0_1 0 0) ?_ 2; refine pf ?_; refine bp (ia4 a0_0 0 0 0) ?_ 1; refine pf ?_; refine bp (ia4 0 0 0 0) ?_ 0; exact Z K3) Try.underlying50 rfl (by kernel_rfl)) rfl ?_
  exact ⟨ez, YA HB⟩
 rw [if_neg c3] at H
 have d5 : (a1_0 == t7 && (a1_1 == t8 && (a1_2 == t9 && (a1_3 == t10)))) = false := by simpa using c3
 (try (have d6 : decide (a1_0 = t7 && (a1_1 == t8 && (a1_2 == t9 && (a1_3 == t10)))) = false := by simpa using c3))
 (try (have d7 : (a1_0 == t7 && (a1_1 == t8 && (a1_2 == t9 && (a1_3 == t10)))) = false := by simpa using c3))
 (try (have d8 : ¬ (a1_0 = t7 && (a1_1 == t8 && (a1_2 == t9 && (a1_3 == t10)))) := by simpa using c3))
 clear c3
 obtain ⟨⟨t11, t12⟩, A3, H⟩ := bd H
 try dsimp only at H
 obtain ⟨⟨t13, t14⟩, A4, H⟩ := bd H
 try dsimp only at H
 obtain ⟨⟨t15, t16⟩, A5, H⟩ := bd H
 try dsimp only at H
 obtain ⟨⟨t17, t18⟩, A6, H⟩ := bd H
 try dsimp only at H
 obtain ⟨⟨t19, t20⟩, A7, H⟩ := bd H
 try dsimp only at H
 obtain ⟨⟨t21, t22⟩, A8, H⟩ := bd H
 try dsimp only at H
 obtain ⟨⟨t23, t24, t25, t26⟩, A9, H⟩ := bd H
 try dsimp only at H
 obtain ⟨rfl, rfl, rfl, rfl⟩ := sj4 H
 try go_wp2
 obtain ⟨K1, K2, K3, HB⟩ := dk3 K1 K2 K3 HB
 refine start_ (n := 3) (S := fun w' => ce4 w' g1 a0_0 a0_1 a0_2 a0_3) (ds := []) (lb 3 0) (by kernel_rfl) rfl rfl (cc4 K1) (fun hHeld => ?_)
 generalize wc.drew = w5 at K1 K2 K3 HB hHeld ⊢
 refine tq 0 14 1 hHeld ?_
 refine one_ (i := 1) (N := some 15) (lb 3 3) rfl rfl (by kernel_rfl) (by decide) (fun K hK => ?_)
 refine ck hK Try.func71 (spec_l10None.calls _ _ _ _ _ A1.out) (fun _ b => bk3 K1 K2 K3 HB b) fun w6 Q_ hHeld => ?_
 clear hK K
 obtain ⟨K1, K2, K3, HB⟩ := Q_
 refine pure_ (i := 2) (N := some 16) (v := ?_) (a' := ?_) (lb 3 7) rfl rfl (by kernel_rfl) (fun _ _ _ h => h) (Or.inl ⟨by rfl, ?_⟩) ?_ ?_
 rotate_left
 ·exact gz
 rotate_left
 ·exact pz
 refine done_ (by kernel_rfl) ?_
 try go_wp2
 obtain ⟨K1, K2, K3, HB⟩ := dk3 K1 K2 K3 HB
 refine start_ (n := 3) (S := fun w' => ce4 w' g2 a1_0 a1_1 a1_2 a1_3) (ds := []) (lb 3 0) (by kernel_rfl) rfl rfl (cc4 K2) (fun hHeld => ?_)
 generalize w6.drew = w7 at K1 K2 K3 HB hHeld ⊢
 refine tq 0 18 1 hHeld ?_
 refine one_ (i := 1) (N := some 19) (lb 3 3) rfl rfl (by kernel_rfl) (by decide) (fun K hK => ?_)
 refine ck hK Try.func71 (spec_l10None.calls _ _ _ _ _ A2.out) (fun _ b => bk3 K1 K2 K3 HB b) fun w8 Q_ hHeld => ?_
 clear hK K
 obtain ⟨K1, K2, K3, HB⟩ := Q_
 refine pure_ (i := 2) (N := some 20) (v := ?_) (a' := ?_) (lb 3 7) rfl rfl (by kernel_rfl) (fun _ _ _ h => h) (Or.inl ⟨by rfl, ?_⟩) ?_ ?_
 rotate_left
 ·exact gz
 rotate_left
 ·exact pz
 refine done_ (by kernel_rfl) ?_
 try go_wp2
 obtain ⟨K1, K2, K3, HB⟩ := dk3 K1 K2 K3 HB
 refine start_ (n := 12) (S := fun w' => ce4 w' g1 a0_0 a0_1 a0_2 a0_3 ∧ ce4 w' g2 a1_0 a1_1 a1_2 a1_3) (ds := []) (lb 12 0) (by kernel_rfl) rfl rfl ⟨cc4 K1, cc4 K2⟩ (fun hHeld => ?_); refine with_tabW spec_ValJoin.tab7 spec_ValJoin.bits7 (fun HT_ HW_ => ?_)
 generalize w8.drew = w9 at K1 K2 K3 HB hHeld ⊢
 refine tk 0 22 1 hHeld ?_
 refine tk 2 24 5 hHeld ?_
 refine tk 5 27 37 hHeld ?_
 refine tk 7 29 165 hHeld ?_
 refine on 1 (some 23) 167 fun K hK => ?_
 refine ck hK Try.func72 (spec_l10Range.calls _ _ _ _ _ _ _ A3.out) (fun _ b => bk3 K1 K2 K3 HB b) fun w10 Q_ hHeld => ?_
 clear hK K
 obtain ⟨K1, K2, K3, HB⟩ := Q_
 refine on 3 (some 25) 175 fun K hK => ?_
 refine ck hK Try.func72 (spec_l10Range.calls _ _ _ _ _ _ _ A4.out) (fun _ b => bk3 K1 K2 K3 HB b) fun w11 Q_ hHeld => ?_
 clear hK K
 obtain ⟨K1, K2, K3, HB⟩ := Q_
 refine on 4 (some 26) 191 fun K hK => ?_
 refine ck hK Try.func25 (spec_RangeJoin.calls _ _ _ _ _ _ _ _ A5.out) (fun _ b => bk3 K1 K2 K3 HB b) fun w12 Q_ hHeld => ?_
 clear hK K
 obtain ⟨K1, K2, K3, HB⟩ := Q_
 refine on 6 (some 28) 255 fun K hK => ?_
 refine ck hK Try.func75 (spec_l10Rest.calls _ _ _ _ _ _ _ A6.out) (fun _ b => bk3 K1 K2 K3 HB b) fun w13 Q_ hHeld => ?_
 clear hK K
 obtain ⟨K1, K2, K3, HB⟩ := Q_
 refine on 8 (some 30) 511 fun K hK => ?_
 refine ck hK Try.func75 (spec_l10Rest.calls _ _ _ _ _ _ _ A7.out) (fun _ b => bk3 K1 K2 K3 HB b) fun w14 Q_ hHeld => ?_
 clear hK K
 obtain ⟨K1, K2, K3, HB⟩ := Q_
 refine on 9 (some 31) 1023 fun K hK => ?_
 refine ck hK Try.func86 (spec_RestJoin.calls _ _ _ _ _ _ _ _ A8.out) (fun _ b => bk3 K1 K2 K3 HB b) fun w15 Q_ hHeld => ?_
 clear hK K
 obtain ⟨K1, K2, K3, HB⟩ := Q_
 refine on 10 (some 32) 2047 fun K hK => ?_
 refine ck hK Try.func73 (spec_ValMake.calls _ _ _ _ _ _ _ _ _ _ A9.out) (fun _ b => bk3 K1 K2 K3 HB b) fun w16 Q_ hHeld => ?_
 clear hK K
 obtain ⟨K1, K2, K3, HB⟩ := Q_
 refine on 11 none 4095 fun K hK => ?_
 have s4 : w16.cell? ⟨g3, 0, none⟩ = some (.int .i64 0) := bc K3 0
 have hfs66 := blk_frozen K3.out 0
 have := ns4 N3 N5 N4 N6
 have s5 : w16.cell? ⟨g3, 1, none⟩ = some (.int .i64 0) := bc K3 1
 have hfs67 := blk_frozen K3.out 1
 have := ns4 N3 N5 N4 N6
 have s6 : w16.cell? ⟨g3, 2, none⟩ = some (.int .i64 0) := bc K3 2
 have hfs68 := blk_frozen K3.out 2
 have := ns4 N3 N5 N4 N6
 have s7 : w16.cell? ⟨g3, 3, none⟩ = some (.int .i64 0) := bc K3 3
 have hfs69 := blk_frozen K3.out 3
 have := ns4 N3 N5 N4 N6
 refine skip_ (w1 := ?_) (by rfl) rfl ?_ ?_
 rotate_left
 ·go_simp
  rfl
 refine hK.out _ _ ⟨cf4 N3 (cf4 N3 (cf4 N3 (cf4 N3 hHeld.1))), cf4 N5 (cf4 N5 (cf4 N5 (cf4 N5 hHeld.2)))⟩ (fun hHeld => ?_)
 clear hK K
 refine done_ (done_of HT_.out (by kernel_rfl)) ?_
 try go_wp2
 refine bodyPost_ret (results_cell_row rfl _ _ g3 50 #[.int .i64 t23, .int .i64 t24, .int .i64 t25, .int .i64 t26] (0, 0) _ rfl (by refine pf ?_; refine bp (ia4 t23 t24 t25 0) ?_ 3; refine pf ?_; refine bp (ia4 t23 t24 0 0) ?_ 2; refine pf ?_; refine bp (ia4 t23 0 0 0) ?_ 1; refine pf ?_; refine bp (ia4 0 0 0 0) ?_ 0; exact Z K3) Try.underlying50 rfl (by kernel_rfl)) rfl ?_
 exact ⟨ez, YA HB⟩
end
section
attribute [local go_sem] max2_int min2_int max_two min_two max_three min_three max_four min_four
attribute [local go_sem] Go.Proofs.YthbkakcchgnhpaaSet.isSome_setCell
def impl_CmpTurn.j0 : Nat → Int → Int → Bool → Option (Int)
 | 0, _, _, _ => none
 | k + 1, x1, x2, x3 => if x3 = true then (some x1) else (if x2 = 3 then (some 5) else (if x2 = 4 then (some 6) else (if x2 = 5 then (some 3) else (if x2 = 6 then (some 4) else (some 0)))))
def impl_CmpTurn.f (k : Nat) (a0 : Int) : Option (Int) := if a0 = 1 then (impl_CmpTurn.j0 k a0 a0 (a0 == 1)) else (impl_CmpTurn.j0 k a0 a0 (a0 == 2))
theorem impl_CmpTurn.mono_l : ∀ k, (∀ y0 y1 y2, LeO (impl_CmpTurn.j0 k y0 y1 y2) (impl_CmpTurn.j0 (k + 1) y0 y1 y2))
 | 0 => fun _ _ _ r h => by simp [impl_CmpTurn.j0] at h
 | k + 1 => by
  have ih0 := impl_CmpTurn.mono_l k
  ·intro y0 y1 y2
   unfold impl_CmpTurn.j0
   repeat' first | (with_reducible first | apply ih0 | apply LeO.refl | apply LeO.none | refine LeO.ite ?_ ?_ | refine LeO.bind ?_ (fun _ => ?_)) | apply ih0 | apply LeO.none | refine LeO.ite ?_ ?_ | refine LeO.bind ?_ (fun _ => ?_)
theorem impl_CmpTurn.mono : ∀ a0 k, LeO (impl_CmpTurn.f k a0) (impl_CmpTurn.f (k + 1) a0) := by
 intro a0 k
 have ih0 := impl_CmpTurn.mono_l k
 unfold impl_CmpTurn.f
 repeat' first | (with_reducible first | apply ih0 | apply LeO.refl | apply LeO.none | refine LeO.ite ?_ ?_ | refine LeO.bind ?_ (fun _ => ?_)) | apply ih0 | apply LeO.none | refine LeO.ite ?_ ?_ | refine LeO.bind ?_ (fun _ => ?_)
set_option maxHeartbeats 8000000 in
set_option maxRecDepth 100000 in
theorem impl_CmpTurn.calls (k : Nat) (a0 : Int) (r : Int) (w : World) (h : impl_CmpTurn.f k a0 = some r) :
  Calls Try.prog 36 #[.int .i64 a0] w fun e w' => e = .returned (.int .i64 r) ∧ Drawn0 w w' := by
 have H : (if a0 = 1 then (impl_CmpTurn.j0 k a0 a0 (a0 == 1)) else (impl_CmpTurn.j0 k a0 a0 (a0 == 2))) = some r := h
 clear h
 have C1 := am H
 clear H
 go_enter Try.func36, Try.ntmps36
 go_upto_if 4 with (fail)
 go_cut [4] (fun v1 wc => ∃ (kq : Nat) (x1 : Bool), v1 = .bool x1 ∧ Aside0 (impl_CmpTurn.j0 kq a0 a0 x1 = some r) ∧ Aside0 (kq ≤ k) ∧ Drawn0 w wc)
 case first =>
  have H := C1.out
  clear C1
  by_cases c1 : a0 = 1
  rotate_left
  ·rw [if_neg c1] at H
   have d1 := eF c1
   have d2 := nT c1
   (first | rw [d1] | (simp only [i64_w, i32_w]; rw [d1]) | skip)
   have H' := am H
   clear H
   go_wp2
   go_meet
   case rel => exact ⟨_, ((a0 == 2)), ey, H', le0, qs1⟩
  rw [if_pos c1] at H
  have d1 := eT c1
  have d2 := nF c1
  clear c1
  (first | rw [d1] | (simp only [i64_w, i32_w]; rw [d1]) | skip)
  have H' := am H
  clear H
  go_wp2
  go_meet
  case rel => exact ⟨_, ((a0 == 1)), ey, H', le0, qs1⟩
 clear C1
 obtain ⟨kq, x1, rfl, HA, J1, ⟨mc1, rfl⟩⟩ := hcut
 cases kq with
 | zero => exact absurd HA.out (by simp [impl_CmpTurn.j0])
 | succ k1 => ?_
 have H := HA.out
 clear HA
 simp only [impl_CmpTurn.j0] at H
 by_cases c1 : x1 = true
 ·subst c1
  rw [if_pos rfl] at H
  obtain rfl := Option.some.inj H
  go_wp2
  go_ret
  exact ⟨by first | rfl | (simp; done) | (simp [*]; done), qs1⟩
 replace c1 := Bool.eq_false_iff.mpr c1
 subst c1
 rw [if_neg ff] at H
 by_cases c2 : a0 = 3
 ·rw [if_pos c2] at H
  have d1 := eT c2
  have d2 := nF c2
  clear c2
  obtain rfl := Option.some.inj H
  go_wp2
  go_ret
  exact ⟨by first | rfl | (simp; done) | (simp [*]; done), qs1⟩
 rw [if_neg c2] at H
 have d1 := eF c2
 have d2 := nT c2
 by_cases c3 : a0 = 4
 ·rw [if_pos c3] at H
  have d3 := eT c3
  have d4 := nF c3
  clear c3
  obtain rfl := Option.some.inj H
  go_wp2
  go_ret
  exact ⟨by first | rfl | (simp; done) | (simp [*]; done), qs1⟩
 rw [if_neg c3] at H
 have d3 := eF c3
 have d4 := nT c3
 by_cases c4 : a0 = 5
 ·rw [if_pos c4] at H
  have d5 := eT c4
  have d6 := nF c4
  clear c4
  obtain rfl := Option.some.inj H
  go_wp2
  go_ret
  exact ⟨by first | rfl | (simp; done) | (simp [*]; done), qs1⟩
 rw [if_neg c4] at H
 have d5 := eF c4
 have d6 := nT c4
 by_cases c5 : a0 = 6
 rotate_left
 ·rw [if_neg c5] at H
  have d7 := eF c5
  have d8 := nT c5
  obtain rfl := Option.some.inj H
  go_wp2
  go_ret
  exact ⟨by first | rfl | (simp; done) | (simp [*]; done), qs1⟩
 rw [if_pos c5] at H
 have d7 := eT c5
 have d8 := nF c5
 clear c5
 obtain rfl := Option.some.inj H
 go_wp2
 go_ret
 exact ⟨by first | rfl | (simp; done) | (simp [*]; done), qs1⟩

def impl_rangeWithout.j0 : Nat → Bool → Int → Int → Int → Int → Option (Int × Int)
 | 0, _, _, _, _, _ => none
 | k + 1, x1, x2, x3, x4, x5 => if x1 = true then ((impl_rangeFrom.f (wrap64 (x2 + 1)) x3).bind fun u1 => (some (u1.1, u1.2))) else ((impl_Range_single.f x4 x5).bind fun t1 => (if t1 = true then (if x4 = x3 then ((impl_rangeFrom.f x2 (wrap64 (x3 - 1))).bind fun u2 => (some (u2.1, u2.2))) else (some (x2, x3))) else (some (x2, x3))))
def impl_rangeWithout.f (k : Nat) (a0_0 : Int) (a0_1 : Int) (a1_0 : Int) (a1_1 : Int) : Option (Int × Int) := (impl_Range_single.f a1_0 a1_1).bind fun t1 => (if t1 = true then (impl_rangeWithout.j0 k (a1_0 == a0_0) a0_0 a0_1 a1_0 a1_1) else (impl_rangeWithout.j0 k false a0_0 a0_1 a1_0 a1_1))
theorem impl_rangeWithout.mono_l : ∀ k, (∀ y0 y1 y2 y3 y4, LeO (impl_rangeWithout.j0 k y0 y1 y2 y3 y4) (impl_rangeWithout.j0 (k + 1) y0 y1 y2 y3 y4))
 | 0 => fun _ _ _ _ _ r h => by simp [impl_rangeWithout.j0] at h
 | k + 1 => by
  have ih0 := impl_rangeWithout.mono_l k
  ·intro y0 y1 y2 y3 y4
   unfold impl_rangeWithout.j0
   repeat' first | (with_reducible first | apply ih0 | apply LeO.refl | apply LeO.none | refine LeO.ite ?_ ?_ | refine LeO.bind ?_ (fun _ => ?_)) | apply ih0 | apply LeO.none | refine LeO.ite ?_ ?_ | refine LeO.bind ?_ (fun _ => ?_)
theorem impl_rangeWithout.mono : ∀ a0 a1 a2 a3 k, LeO (impl_rangeWithout.f k a0 a1 a2 a3) (impl_rangeWithout.f (k + 1) a0 a1 a2 a3) := by
 intro a0 a1 a2 a3 k
 have ih0 := impl_rangeWithout.mono_l k
 unfold impl_rangeWithout.f
 repeat' first | (with_reducible first | apply ih0 | apply LeO.refl | apply LeO.none | refine LeO.ite ?_ ?_ | refine LeO.bind ?_ (fun _ => ?_)) | apply ih0 | apply LeO.none | refine LeO.ite ?_ ?_ | refine LeO.bind ?_ (fun _ => ?_)
set_option maxHeartbeats 8000000 in
set_option maxRecDepth 100000 in
theorem impl_rangeWithout.calls (k : Nat) (a0_0 : Int) (a0_1 : Int) (a1_0 : Int) (a1_1 : Int) (r1 : Int) (r2 : Int) (w : World) (h : impl_rangeWithout.f k a0_0 a0_1 a1_0 a1_1 = some (r1, r2)) :
  Calls Try.prog 116 #[.agg #[.int .i64 a0_0, .int .i64 a0_1], .agg #[.int .i64 a1_0, .int .i64 a1_1]] w fun e w' => e = .returned (.agg #[.int .i64 r1, .int .i64 r2]) ∧ Below w.heap.size w w' := by
 have hu24 := Try.underlying24
 have HB := am (Below.refl w.heap.size w)
 have H : ((impl_Range_single.f a1_0 a1_1).bind fun t1 => (if t1 = true then (impl_rangeWithout.j0 k (a1_0 == a0_0) a0_0 a0_1 a1_0 a1_1) else (impl_rangeWithout.j0 k false a0_0 a0_1 a1_0 a1_1))) = some (r1, r2) := h
 clear h
 have C1 := am H
 clear H
 go_enter Try.func116, Try.ntmps116
 go_upto_region 1 with (first | ((with_reducible refine gate_dst (N := 2) rfl ?_); refine bxn 2 #[.int .i64 a0_0, .int .i64 a0_1] 24 HB fun g1 w1 K1 G1 hg hb => ?_; replace HB := am (below_step (YA HB) hb); clear hb hg) | ((with_reducible refine gate_dst (N := 3) rfl ?_); refine bxn 3 #[.int .i64 a1_0, .int .i64 a1_1] 24 HB fun g2 w2 K2 G2 hg hb => ?_; obtain ⟨N1,N2⟩ := ne_ hg K1; obtain ⟨K1, HB⟩ := bk1 K1 HB hb; clear hb hg) | ((with_reducible refine gate_dst (N := 4) rfl ?_); refine bxn 4 #[.int .i64 0, .int .i64 0] 24 HB fun g3 w3 K3 G3 hg hb => ?_; obtain ⟨N3,N4⟩ := ne_ hg K1; obtain ⟨N5,N6⟩ := ne_ hg K2; obtain ⟨K1, K2, HB⟩ := bk2 K1 K2 HB hb; clear hb hg))
 (try simp only [Act.put, List.setIfInBounds_toArray, List.set_cons_zero, List.set_cons_succ])
 go_cut [5] (fun v1 wc => ∃ (kq : Nat) (x1 : Bool), v1 = .bool x1 ∧ Aside0 (impl_rangeWithout.j0 kq x1 a0_0 a0_1 a1_0 a1_1 = some (r1, r2)) ∧ Aside0 (kq ≤ k) ∧ Bx2 wc g1 a0_0 a0_1 24 ∧ Bx2 wc g2 a1_0 a1_1 24 ∧ Bx2 wc g3 0 0 24 ∧ Aside0 (Below w.heap.size w wc))
 case first =>
  have H := C1.out
  clear C1
  obtain ⟨t1, A1, H⟩ := bd H
  try dsimp only at H
  by_cases c1 : t1 = true
  rotate_left
  ·replace c1 := Bool.eq_false_iff.mpr c1
   subst c1
   rw [if_neg ff] at H
   have H' := am H
   clear H
   have := ns2 N2 N5
   have := cB2 K2
   go_wp2_with (first | ((with_reducible refine gate_callee (f := 96) rfl ?_); refine gL 7 Try.func96 (impl_Range_single.calls _ _ _ _ A1.out) fun w4 hb => ?_; obtain ⟨K1, K2, K3, HB⟩ := bk3 K1 K2 K3 HB hb; (try clear hb)))
   go_meet
   case rel => exact ⟨_, (false), ey, H', le0, ⟨Z K1⟩, ⟨Z K2⟩, ⟨Z K3⟩, ⟨YA HB⟩⟩
  subst c1
  rw [if_pos rfl] at H
  have H' := am H
  clear H
  have := ns2 N2 N5
  have := cB2 K2
  go_wp2_with (first | ((with_reducible refine gate_callee (f := 96) rfl ?_); refine gL 7 Try.func96 (impl_Range_single.calls _ _ _ _ A1.out) fun w4 hb => ?_; obtain ⟨K1, K2, K3, HB⟩ := bk3 K1 K2 K3 HB hb; (try clear hb); have := ns1 N3; have := cB2 K2; have := cB2 K1))
  go_meet
  case rel => exact ⟨_, ((a1_0 == a0_0)), ey, H', le0, ⟨Z K1⟩, ⟨Z K2⟩, ⟨Z K3⟩, ⟨YA HB⟩⟩
 clear C1
 obtain ⟨kq, x1, rfl, HA, J1, K1, K2, K3, HB⟩ := hcut
 cases kq with
 | zero => exact absurd HA.out (by simp [impl_rangeWithout.j0])
 | succ k1 => ?_
 have H := HA.out
 clear HA
 simp only [impl_rangeWithout.j0] at H
 by_cases c1 : x1 = true
 ·subst c1
  rw [if_pos rfl] at H
  obtain ⟨⟨t2, t3⟩, A1, H⟩ := bd H
  try dsimp only at H
  obtain ⟨rfl, rfl⟩ := sj2 H
  have := ns2 N1 N3
  have := cB2 K1
  go_wp2_with (first | ((with_reducible refine gate_callee (f := 50) rfl ?_); refine gL 20 Try.func50 (impl_rangeFrom.calls _ _ _ _ _ A1.out) fun w4 hb => ?_; obtain ⟨K1, K2, K3, HB⟩ := bk3 K1 K2 K3 HB hb; (try clear hb); have := ns1 N6; have := cB2 K3))
  refine bodyPost_ret (results_cell_row rfl _ _ g3 24 #[.int .i64 t2, .int .i64 t3] (0, 0) _ rfl (by refine pf ?_; refine bp (ia2 t2 0) ?_ 1; refine pf ?_; refine bp (ia2 0 0) ?_ 0; exact Z K3) Try.underlying24 rfl (by kernel_rfl)) rfl ?_
  exact ⟨ez, YA HB⟩
 replace c1 := Bool.eq_false_iff.mpr c1
 subst c1
 rw [if_neg ff] at H
 obtain ⟨t2, A1, H⟩ := bd H
 try dsimp only at H
 by_cases c2 : t2 = true
 rotate_left
 ·replace c2 := Bool.eq_false_iff.mpr c2
  subst c2
  rw [if_neg ff] at H
  obtain ⟨rfl, rfl⟩ := sj2 H
  have := ns2 N2 N5
  have := cB2 K2
  go_wp2_with (first | ((with_reducible refine gate_callee (f := 96) rfl ?_); refine gL 23 Try.func96 (impl_Range_single.calls _ _ _ _ A1.out) fun w4 hb => ?_; obtain ⟨K1, K2, K3, HB⟩ := bk3 K1 K2 K3 HB hb; (try clear hb); have := ns1 N3; have := cB2 K1; have := cB2 K3))
  refine bodyPost_ret (results_cell_row rfl _ _ g3 24 #[.int .i64 a0_0, .int .i64 a0_1] (0, 0) _ rfl (by refine pf ?_; refine bp (ia2 a0_0 0) ?_ 1; refine pf ?_; refine bp (ia2 0 0) ?_ 0; exact Z K3) Try.underlying24 rfl (by kernel_rfl)) rfl ?_
  exact ⟨ez, YA HB⟩
 subst c2
 rw [if_pos rfl] at H
 by_cases c3 : a1_0 = a0_1
 rotate_left
 ·rw [if_neg c3] at H
  have d1 := eF c3
  have d2 := nT c3
  obtain ⟨rfl, rfl⟩ := sj2 H
  have := ns2 N2 N5
  have := cB2 K2
  go_wp2_with (first | ((with_reducible refine gate_callee (f := 96) rfl ?_); refine gL 23 Try.func96 (impl_Range_single.calls _ _ _ _ A1.out) fun w4 hb => ?_; obtain ⟨K1, K2, K3, HB⟩ := bk3 K1 K2 K3 HB hb; (try clear hb); have := ns1 N3; have := cB2 K2; have := cB2 K1; have := cB2 K3))
  refine bodyPost_ret (results_cell_row rfl _ _ g3 24 #[.int .i64 a0_0, .int .i64 a0_1] (0, 0) _ rfl (by refine pf ?_; refine bp (ia2 a0_0 0) ?_ 1; refine pf ?_; refine bp (ia2 0 0) ?_ 0; exact Z K3) Try.underlying24 rfl (by kernel_rfl)) rfl ?_
  exact ⟨ez, YA HB⟩
 rw [if_pos c3] at H
 have d1 := eT c3
 have d2 := nF c3
 clear c3
 obtain ⟨⟨t3, t4⟩, A2, H⟩ := bd H
 try dsimp only at H
 obtain ⟨rfl, rfl⟩ := sj2 H
 have := ns2 N2 N5
 have := cB2 K2
 go_wp2_with (first | ((with_reducible refine gate_callee (f := 96) rfl ?_); refine gL 23 Try.func96 (impl_Range_single.calls _ _ _ _ A1.out) fun w4 hb => ?_; obtain ⟨K1, K2, K3, HB⟩ := bk3 K1 K2 K3 HB hb; (try clear hb); have := ns1 N3; have := cB2 K2; have := cB2 K1) | ((with_reducible refine gate_callee (f := 50) rfl ?_); refine gL 36 Try.func50 (impl_rangeFrom.calls _ _ _ _ _ A2.out) fun w5 hb => ?_; obtain ⟨K1, K2, K3, HB⟩ := bk3 K1 K2 K3 HB hb; (try clear hb); have := cB2 K3))
 refine bodyPost_ret (results_cell_row rfl _ _ g3 24 #[.int .i64 t3, .int .i64 t4] (0, 0) _ rfl (by refine pf ?_; refine bp (ia2 t3 0) ?_ 1; refine pf ?_; refine bp (ia2 0 0) ?_ 0; exact Z K3) Try.underlying24 rfl (by kernel_rfl)) rfl ?_
 exact ⟨ez, YA HB⟩
end
section
attribute [local go_sem] max2_int min2_int max_two min_two max_three min_three max_four min_four
attribute [local go_sem] Go.Proofs.YthbkakcchgnhpaaSet.isSome_setCell
mutual
def impl_RangeCmp.j0 : Nat → Int → Bool → Int → Int → Int → Int → Option (Int × Int × Int × Int)
 | 0, _, _, _, _, _, _ => none
 | k + 1, x1, x2, x3, x4, x5, x6 => if x2 = true then ((impl_rangeNone.f).bind fun u1 => ((impl_rangeNone.f).bind fun u2 => (some (u1.1, u1.2, u2.1, u2.2)))) else (if x1 = 1 then ((impl_RangeMeet.f k x3 x4 x5 x6).bind fun u3 => (impl_RangeCmp.j2 k u3.1 u3.2 u3.1 u3.2)) else (if x1 = 2 then ((impl_rangeWithout.f k x3 x4 x5 x6).bind fun u4 => ((impl_rangeWithout.f k x5 x6 x3 x4).bind fun u5 => (impl_RangeCmp.j2 k u4.1 u4.2 u5.1 u5.2))) else (if x1 = 3 then ((impl_rangeFrom.f x3 (mn x4 (wrap64 (x6 - 1)))).bind fun u6 => ((impl_rangeFrom.f (mx x5 (wrap64 (x3 + 1))) x6).bind fun u7 => (impl_RangeCmp.j2 k u6.1 u6.2 u7.1 u7.2))) else (if x1 = 4 then ((impl_rangeFrom.f x3 (mn x4 x6)).bind fun u8 => ((impl_rangeFrom.f (mx x5 x3) x6).bind fun u9 => (impl_RangeCmp.j2 k u8.1 u8.2 u9.1 u9.2))) else (if x1 = 5 then (impl_RangeCmp.j1 k x1 (x1 == 5) x3 x4 x5 x6) else (impl_RangeCmp.j1 k x1 (x1 == 6) x3 x4 x5 x6))))))
def impl_RangeCmp.j2 : Nat → Int → Int → Int → Int → Option (Int × Int × Int × Int)
 | 0, _, _, _, _ => none
 | k + 1, x1, x2, x3, x4 => (impl_Range_empty.f x1 x2).bind fun t1 => (if t1 = true then (impl_RangeCmp.j3 k true x1 x2 x3 x4) else ((impl_Range_empty.f x3 x4).bind fun t2 => (impl_RangeCmp.j3 k t2 x1 x2 x3 x4)))
def impl_RangeCmp.j3 : Nat → Bool → Int → Int → Int → Int → Option (Int × Int × Int × Int)
 | 0, _, _, _, _, _ => none
 | k + 1, x1, x2, x3, x4, x5 => if x1 = true then ((impl_rangeNone.f).bind fun u1 => ((impl_rangeNone.f).bind fun u2 => (some (u1.1, u1.2, u2.1, u2.2)))) else (some (x2, x3, x4, x5))
def impl_RangeCmp.j1 : Nat → Int → Bool → Int → Int → Int → Int → Option (Int × Int × Int × Int)
 | 0, _, _, _, _, _, _ => none
 | k + 1, x1, x2, x3, x4, x5, x6 => if x2 = true then ((impl_CmpTurn.f k x1).bind fun t1 => ((impl_RangeCmp.f k t1 x5 x6 x3 x4).bind fun u1 => (impl_RangeCmp.j2 k u1.2.2.1 u1.2.2.2 u1.1 u1.2.1))) else ((impl_rangeNone.f).bind fun u2 => ((impl_rangeNone.f).bind fun u3 => (some (u2.1, u2.2, u3.1, u3.2))))
def impl_RangeCmp.f : Nat → Int → Int → Int → Int → Int → Option (Int × Int × Int × Int)
 | 0, _, _, _, _, _ => none
 | k + 1, a0, a1_0, a1_1, a2_0, a2_1 => (impl_RangeOk.f a1_0 a1_1).bind fun t1 => (if t1 = true then ((impl_RangeOk.f a2_0 a2_1).bind fun t2 => (if t2 = true then ((impl_Range_empty.f a1_0 a1_1).bind fun t3 => (if t3 = true then (impl_RangeCmp.j0 k a0 true a1_0 a1_1 a2_0 a2_1) else ((impl_Range_empty.f a2_0 a2_1).bind fun t4 => (impl_RangeCmp.j0 k a0 t4 a1_0 a1_1 a2_0 a2_1)))) else (impl_RangeCmp.j0 k a0 true a1_0 a1_1 a2_0 a2_1))) else (impl_RangeCmp.j0 k a0 true a1_0 a1_1 a2_0 a2_1))
end
theorem impl_RangeCmp.mono_l : ∀ k, (∀ y0 y1 y2 y3 y4, LeO (impl_RangeCmp.f k y0 y1 y2 y3 y4) (impl_RangeCmp.f (k + 1) y0 y1 y2 y3 y4)) ∧ (∀ y0 y1 y2 y3 y4 y5, LeO (impl_RangeCmp.j0 k y0 y1 y2 y3 y4 y5) (impl_RangeCmp.j0 (k + 1) y0 y1 y2 y3 y4 y5)) ∧ (∀ y0 y1 y2 y3, LeO (impl_RangeCmp.j2 k y0 y1 y2 y3) (impl_RangeCmp.j2 (k + 1) y0 y1 y2 y3)) ∧ (∀ y0 y1 y2 y3 y4, LeO (impl_RangeCmp.j3 k y0 y1 y2 y3 y4) (impl_RangeCmp.j3 (k + 1) y0 y1 y2 y3 y4)) ∧ (∀ y0 y1 y2 y3 y4 y5, LeO (impl_RangeCmp.j1 k y0 y1 y2 y3 y4 y5) (impl_RangeCmp.j1 (k + 1) y0 y1 y2 y3 y4 y5))
 | 0 => ⟨fun _ _ _ _ _ r h => by simp [impl_RangeCmp.f] at h, fun _ _ _ _ _ _ r h => by simp [impl_RangeCmp.j0] at h, fun _ _ _ _ r h => by simp [impl_RangeCmp.j2] at h, fun _ _ _ _ _ r h => by simp [impl_RangeCmp.j3] at h, fun _ _ _ _ _ _ r h => by simp [impl_RangeCmp.j1] at h⟩
 | k + 1 => by
  obtain ⟨ih0, ih1, ih2, ih3, ih4⟩ := impl_RangeCmp.mono_l k
  refine ⟨?_, ?_, ?_, ?_, ?_⟩ <;> (intros; (first | unfold impl_RangeCmp.f | unfold impl_RangeCmp.j0 | unfold impl_RangeCmp.j2 | unfold impl_RangeCmp.j3 | unfold impl_RangeCmp.j1); repeat' first | (with_reducible first | apply ih0 | apply ih1 | apply ih2 | apply ih3 | apply ih4 | apply impl_CmpTurn.mono | apply impl_RangeMeet.mono | apply impl_rangeWithout.mono | apply LeO.refl | apply LeO.none | refine LeO.ite ?_ ?_ | refine LeO.bind ?_ (fun _ => ?_)) | apply ih0 | apply ih1 | apply ih2 | apply ih3 | apply ih4 | apply impl_CmpTurn.mono | apply impl_RangeMeet.mono | apply impl_rangeWithout.mono | apply LeO.none | refine LeO.ite ?_ ?_ | refine LeO.bind ?_ (fun _ => ?_))
theorem impl_RangeCmp.mono : ∀ a0 a1 a2 a3 a4 k, LeO (impl_RangeCmp.f k a0 a1 a2 a3 a4) (impl_RangeCmp.f (k + 1) a0 a1 a2 a3 a4) := by
 intro a0 a1 a2 a3 a4 k
 obtain ⟨ih0, ih1, ih2, ih3, ih4⟩ := impl_RangeCmp.mono_l k
 exact ih0 a0 a1 a2 a3 a4
def impl_RangeCmp.T10 : Bool × List (List Nat × List Nat) := (true, [([], []), ([], []), ([0, 1], [0, 1]), ([], []), ([], []), ([3, 4, 2], [3, 4]), ([2, 5, 0, 1, 2], [2]), ([5, 6, 0, 1, 2, 3, 4, 5, 6], [5])])
def impl_RangeCmp.B10 : List Nat := [0, 0, 3, 0, 0, 31, 63, 127]
theorem impl_RangeCmp.tab10 : rtab .any (opsOf Try.f87 10) = impl_RangeCmp.T10 := by kernel_rfl
theorem impl_RangeCmp.bits10 : waitsOk impl_RangeCmp.T10.2 impl_RangeCmp.B10 = true := by kernel_rfl
def impl_RangeCmp.T19 : Bool × List (List Nat × List Nat) := (true, [([], []), ([0], [0]), ([], []), ([], []), ([1, 2, 3, 1], [1, 2, 3]), ([4], [4]), ([5], [5]), ([5], [5]), ([6, 4, 0, 1, 2, 3, 4, 5, 6], [6]), ([7, 8, 0, 1, 2, 3, 4, 5, 6, 7, 8], [7])])
def impl_RangeCmp.B19 : List Nat := [0, 1, 0, 0, 15, 31, 63, 63, 127, 511]
theorem impl_RangeCmp.tab19 : rtab .any (opsOf Try.f87 19) = impl_RangeCmp.T19 := by kernel_rfl
theorem impl_RangeCmp.bits19 : waitsOk impl_RangeCmp.T19.2 impl_RangeCmp.B19 = true := by kernel_rfl
set_option maxHeartbeats 8000000 in
set_option maxRecDepth 100000 in
theorem impl_RangeCmp.calls (k : Nat) : ∀ (a0 : Int) (a1_0 : Int) (a1_1 : Int) (a2_0 : Int) (a2_1 : Int) (r1 : Int) (r2 : Int) (r3 : Int) (r4 : Int) (w : World) (h : impl_RangeCmp.f k a0 a1_0 a1_1 a2_0 a2_1 = some (r1, r2, r3, r4)),
  Calls Try.prog 87 #[.int .i64 a0, .agg #[.int .i64 a1_0, .int .i64 a1_1], .agg #[.int .i64 a2_0, .int .i64 a2_1]] w fun e w' => e = .returned (.tuple #[.agg #[.int .i64 r1, .int .i64 r2], .agg #[.int .i64 r3, .int .i64 r4]]) ∧ Below w.heap.size w w' := by
 induction k using Nat.strongRecOn with
 | _ k ih =>
 intro a0 a1_0 a1_1 a2_0 a2_1 r1 r2 r3 r4 w h
 cases k with
 | zero => exact absurd h (by simp [impl_RangeCmp.f])
 | succ k =>
 simp only [impl_RangeCmp.f] at h
 have hu24 := Try.underlying24
 have HB := am (Below.refl w.heap.size w)
 have H : ((impl_RangeOk.f a1_0 a1_1).bind fun t1 => (if t1 = true then ((impl_RangeOk.f a2_0 a2_1).bind fun t2 => (if t2 = true then ((impl_Range_empty.f a1_0 a1_1).bind fun t3 => (if t3 = true then (impl_RangeCmp.j0 k a0 true a1_0 a1_1 a2_0 a2_1) else ((impl_Range_empty.f a2_0 a2_1).bind fun t4 => (impl_RangeCmp.j0 k a0 t4 a1_0 a1_1 a2_0 a2_1)))) else (impl_RangeCmp.j0 k a0 true a1_0 a1_1 a2_0 a2_1))) else (impl_RangeCmp.j0 k a0 true a1_0 a1_1 a2_0 a2_1))) = some (r1, r2, r3, r4) := h
 clear h
 have C1 := am H
 clear H
 go_enter Try.func87, Try.ntmps87
 go_upto_region 1 with (first | ((with_reducible refine gate_dst (N := 4) rfl ?_); refine bxn 4 #[.int .i64 a1_0, .int .i64 a1_1] 24 HB fun g1 w2 K1 G1 hg hb => ?_; replace HB := am (below_step (YA HB) hb); clear hb hg) | ((with_reducible refine gate_dst (N := 5) rfl ?_); refine bxn 5 #[.int .i64 a2_0, .int .i64 a2_1] 24 HB fun g2 w3 K2 G2 hg hb => ?_; obtain ⟨N1,N2⟩ := ne_ hg K1; obtain ⟨K1, HB⟩ := bk1 K1 HB hb; clear hb hg) | ((with_reducible refine gate_dst (N := 6) rfl ?_); refine bxn 6 #[.int .i64 0, .int .i64 0] 24 HB fun g3 w4 K3 G3 hg hb => ?_; obtain ⟨N3,N4⟩ := ne_ hg K1; obtain ⟨N5,N6⟩ := ne_ hg K2; obtain ⟨K1, K2, HB⟩ := bk2 K1 K2 HB hb; clear hb hg) | ((with_reducible refine gate_dst (N := 7) rfl ?_); refine bxn 7 #[.int .i64 0, .int .i64 0] 24 HB fun g4 w5 K4 G4 hg hb => ?_; obtain ⟨N7,N8⟩ := ne_ hg K1; obtain ⟨N9,N10⟩ := ne_ hg K2; obtain ⟨N11,N12⟩ := ne_ hg K3; obtain ⟨K1, K2, K3, HB⟩ := bk3 K1 K2 K3 HB hb; clear hb hg))
 (try simp only [Act.put, List.setIfInBounds_toArray, List.set_cons_zero, List.set_cons_succ])
 go_cut [25] (fun v1 wc => ∃ (kq : Nat) (x1 : Bool), v1 = .bool x1 ∧ Aside0 (impl_RangeCmp.j0 kq a0 x1 a1_0 a1_1 a2_0 a2_1 = some (r1, r2, r3, r4)) ∧ Aside0 (kq ≤ k) ∧ Bx2 wc g1 a1_0 a1_1 24 ∧ Bx2 wc g2 a2_0 a2_1 24 ∧ Bx2 wc g3 0 0 24 ∧ Bx2 wc g4 0 0 24 ∧ Aside0 (Below w.heap.size w wc))
 case first =>
  have H := C1.out
  clear C1
  obtain ⟨t1, A1, H⟩ := bd H
  try dsimp only at H
  by_cases c1 : t1 = true
  rotate_left
  ·replace c1 := Bool.eq_false_iff.mpr c1
   subst c1
   rw [if_neg ff] at H
   have H' := am H
   clear H
   have := ns3 N1 N3 N7
   have := cB2 K1
   go_wp2_with (first | ((with_reducible refine gate_callee (f := 46) rfl ?_); refine gL 11 Try.func46 (impl_RangeOk.calls _ _ _ _ A1.out) fun w6 hb => ?_; obtain ⟨K1, K2, K3, K4, HB⟩ := bk4 K1 K2 K3 K4 HB hb; (try clear hb)))
   go_meet
   case rel => exact ⟨_, (true), ey, H', le0, ⟨Z K1⟩, ⟨Z K2⟩, ⟨Z K3⟩, ⟨Z K4⟩, ⟨YA HB⟩⟩
  subst c1
  rw [if_pos rfl] at H
  obtain ⟨t2, A2, H⟩ := bd H
  try dsimp only at H
  by_cases c2 : t2 = true
  rotate_left
  ·replace c2 := Bool.eq_false_iff.mpr c2
   subst c2
   rw [if_neg ff] at H
   have H' := am H
   clear H
   have := ns3 N1 N3 N7
   have := cB2 K1
   go_wp2_with (first | ((with_reducible refine gate_callee (f := 46) rfl ?_); refine gL 11 Try.func46 (impl_RangeOk.calls _ _ _ _ A1.out) fun w6 hb => ?_; obtain ⟨K1, K2, K3, K4, HB⟩ := bk4 K1 K2 K3 K4 HB hb; (try clear hb); have := ns2 N5 N9; have := cB2 K2) | (go_at_call 46; (with_reducible refine (impl_RangeOk.calls _ _ _ _ A2.out).mono ?_); rintro e w7 ⟨rfl, hb⟩; obtain ⟨K1, K2, K3, K4, HB⟩ := bk4 K1 K2 K3 K4 HB hb; (try clear hb)))
   go_meet
   case rel => exact ⟨_, (true), ey, H', le0, ⟨Z K1⟩, ⟨Z K2⟩, ⟨Z K3⟩, ⟨Z K4⟩, ⟨YA HB⟩⟩
  subst c2
  rw [if_pos rfl] at H
  obtain ⟨t3, A3, H⟩ := bd H
  try dsimp only at H
  by_cases c3 : t3 = true
  ·subst c3
   rw [if_pos rfl] at H
   have H' := am H
   clear H
   have := ns3 N1 N3 N7
   have := cB2 K1
   go_wp2_with (first | ((with_reducible refine gate_callee (f := 46) rfl ?_); refine gL 11 Try.func46 (impl_RangeOk.calls _ _ _ _ A1.out) fun w6 hb => ?_; obtain ⟨K1, K2, K3, K4, HB⟩ := bk4 K1 K2 K3 K4 HB hb; (try clear hb); have := ns2 N5 N9; have := cB2 K2) | (go_at_call 46; (with_reducible refine (impl_RangeOk.calls _ _ _ _ A2.out).mono ?_); rintro e w7 ⟨rfl, hb⟩; obtain ⟨K1, K2, K3, K4, HB⟩ := bk4 K1 K2 K3 K4 HB hb; (try clear hb); have := cB2 K1) | (go_at_call 47; (with_reducible refine (impl_Range_empty.calls _ _ _ _ A3.out).mono ?_); rintro e w8 ⟨rfl, hb⟩; obtain ⟨K1, K2, K3, K4, HB⟩ := bk4 K1 K2 K3 K4 HB hb; (try clear hb)))
   go_meet
   case rel => exact ⟨_, (true), ey, H', le0, ⟨Z K1⟩, ⟨Z K2⟩, ⟨Z K3⟩, ⟨Z K4⟩, ⟨YA HB⟩⟩
  replace c3 := Bool.eq_false_iff.mpr c3
  subst c3
  rw [if_neg ff] at H
  obtain ⟨t4, A4, H⟩ := bd H
  try dsimp only at H
  have H' := am H
  clear H
  have := ns3 N1 N3 N7
  have := cB2 K1
  go_wp2_with (first | ((with_reducible refine gate_callee (f := 46) rfl ?_); refine gL 11 Try.func46 (impl_RangeOk.calls _ _ _ _ A1.out) fun w6 hb => ?_; obtain ⟨K1, K2, K3, K4, HB⟩ := bk4 K1 K2 K3 K4 HB hb; (try clear hb); have := ns2 N5 N9; have := cB2 K2) | (go_at_call 46; (with_reducible refine (impl_RangeOk.calls _ _ _ _ A2.out).mono ?_); rintro e w7 ⟨rfl, hb⟩; obtain ⟨K1, K2, K3, K4, HB⟩ := bk4 K1 K2 K3 K4 HB hb; (try clear hb); have := cB2 K1) | (go_at_call 47; (with_reducible refine (impl_Range_empty.calls _ _ _ _ A3.out).mono ?_); rintro e w8 ⟨rfl, hb⟩; obtain ⟨K1, K2, K3, K4, HB⟩ := bk4 K1 K2 K3 K4 HB hb; (try clear hb); have := cB2 K2) | (go_at_call 47; (with_reducible refine (impl_Range_empty.calls _ _ _ _ A4.out).mono ?_); rintro e w9 ⟨rfl, hb⟩; obtain ⟨K1, K2, K3, K4, HB⟩ := bk4 K1 K2 K3 K4 HB hb; (try clear hb)))
  go_meet
  case rel => exact ⟨_, (t4), ey, H', le0, ⟨Z K1⟩, ⟨Z K2⟩, ⟨Z K3⟩, ⟨Z K4⟩, ⟨YA HB⟩⟩
 clear C1
 obtain ⟨kq, x1, rfl, HA, J1, K1, K2, K3, K4, HB⟩ := hcut
 cases kq with
 | zero => exact absurd HA.out (by simp [impl_RangeCmp.j0])
 | succ k1 => ?_
 have H := HA.out
 clear HA
 simp only [impl_RangeCmp.j0] at H
 by_cases c1 : x1 = true
 ·subst c1
  rw [if_pos rfl] at H
  obtain ⟨⟨t5, t6⟩, A1, H⟩ := bd H
  try dsimp only at H
  obtain ⟨⟨t7, t8⟩, A2, H⟩ := bd H
  try dsimp only at H
  obtain ⟨rfl, rfl, rfl, rfl⟩ := sj4 H
  go_wp2_with (first | ((with_reducible refine gate_callee (f := 48) rfl ?_); refine gL 26 Try.func48 (impl_rangeNone.calls _ _ _ A1.out) fun w6 hb => ?_; obtain ⟨K1, K2, K3, K4, HB⟩ := bk4 K1 K2 K3 K4 HB hb; (try clear hb)) | ((with_reducible refine gate_callee (f := 48) rfl ?_); refine gL 27 Try.func48 (impl_rangeNone.calls _ _ _ A2.out) fun w7 hb => ?_; obtain ⟨K1, K2, K3, K4, HB⟩ := bk4 K1 K2 K3 K4 HB hb; (try clear hb); have := ns5 N4 N6 N11 N8 N10; have := cB2 K3; have := cB2 K4))
  refine bodyPost_ret (results_cc rfl _ _ g3 g4 24 24 #[.int .i64 t5, .int .i64 t6] #[.int .i64 t7, .int .i64 t8] (0, 0) (0, 0) _ _ rfl (by refine fa N11 ?_; refine fa N11 ?_; refine pf ?_; refine bp (ia2 t5 0) ?_ 1; refine pf ?_; refine bp (ia2 0 0) ?_ 0; exact Z K3) Try.underlying24 rfl (by kernel_rfl) rfl (by refine pf ?_; refine bp (ia2 t7 0) ?_ 1; refine pf ?_; refine bp (ia2 0 0) ?_ 0; refine fa N12 ?_; refine fa N12 ?_; exact Z K4) Try.underlying24 rfl (by kernel_rfl)) rfl ?_
  exact ⟨ez, YA HB⟩
 replace c1 := Bool.eq_false_iff.mpr c1
 subst c1
 rw [if_neg ff] at H
 have C2 := am H
 clear H
 go_upto_block 0 with (first | ((with_reducible refine gate_dst (N := 8) rfl ?_); refine bxn 8 #[.int .i64 0, .int .i64 0] 24 HB fun g5 w6 K5 G5 hg hb => ?_; obtain ⟨N13,N14⟩ := ne_ hg K1; obtain ⟨N15,N16⟩ := ne_ hg K2; obtain ⟨N17,N18⟩ := ne_ hg K3; obtain ⟨N19,N20⟩ := ne_ hg K4; obtain ⟨K1, K2, K3, K4, HB⟩ := bk4 K1 K2 K3 K4 HB hb; clear hb hg) | ((with_reducible refine gate_dst (N := 9) rfl ?_); refine bxn 9 #[.int .i64 0, .int .i64 0] 24 HB fun g6 w7 K6 G6 hg hb => ?_; obtain ⟨N21,N22⟩ := ne_ hg K1; obtain ⟨N23,N24⟩ := ne_ hg K2; obtain ⟨N25,N26⟩ := ne_ hg K3; obtain ⟨N27,N28⟩ := ne_ hg K4; obtain ⟨N29,N30⟩ := ne_ hg K5; obtain ⟨K1, K2, K3, K4, K5, HB⟩ := bk5 K1 K2 K3 K4 K5 HB hb; clear hb hg))
 (try simp only [Act.put, List.setIfInBounds_toArray, List.set_cons_zero, List.set_cons_succ])
 go_cut [] (fun wc => ∃ (kq : Nat) (x2 : Int) (x3 : Int) (x4 : Int) (x5 : Int) (x6 : Int) (x7 : Int) (x8 : Int) (x9 : Int), Aside0 (impl_RangeCmp.j2 kq x6 x7 x8 x9 = some (r1, r2, r3, r4)) ∧ Aside0 (kq ≤ k1) ∧ Bx2 wc g1 a1_0 a1_1 24 ∧ Bx2 wc g2 a2_0 a2_1 24 ∧ Bx2 wc g3 x2 x3 24 ∧ Bx2 wc g4 x4 x5 24 ∧ Bx2 wc g5 x6 x7 24 ∧ Bx2 wc g6 x8 x9 24 ∧ Aside0 (Below w.heap.size w wc))
 case first =>
  have H := C2.out
  clear C2
  by_cases c2 : a0 = 1
  ·rw [if_pos c2] at H
   have d1 := eT c2
   have d2 := nF c2
   clear c2
   (first | rw [d1] | (simp only [i64_w, i32_w]; rw [d1]) | skip)
   obtain ⟨⟨t5, t6⟩, A1, H⟩ := bd H
   try dsimp only at H
   have H' := am H
   clear H
   have := ns9 N1 N3 N7 N13 N21 N5 N9 N15 N23
   have := cB2 K1
   have := cB2 K2
   go_wp2_with (first | ((with_reducible refine gate_callee (f := 93) rfl ?_); refine gL 35 Try.func93 (impl_RangeMeet.calls _ _ _ _ _ _ _ _ A1.out) fun w8 hb => ?_; obtain ⟨K1, K2, K3, K4, K5, K6, HB⟩ := bk6 K1 K2 K3 K4 K5 K6 HB hb; (try clear hb); have := ns5 N18 N20 N29 N26 N28; have := cB2 K5; have := cB2 K6))
   go_meet
   case rel => exact ⟨_, (0), (0), (0), (0), (t5), (t6), (t5), (t6), H', le1 J1, ⟨ft2 N21 N13 K1⟩, ⟨ft2 N23 N15 K2⟩, ⟨ft2 N25 N17 K3⟩, ⟨ft2 N27 N19 K4⟩, ⟨by refine fa N29 ?_; refine fa N29 ?_; refine pf ?_; refine bp (ia2 t5 0) ?_ 1; refine pf ?_; refine bp (ia2 0 0) ?_ 0; exact Z K5⟩, ⟨by refine pf ?_; refine bp (ia2 t5 0) ?_ 1; refine pf ?_; refine bp (ia2 0 0) ?_ 0; refine fa N30 ?_; refine fa N30 ?_; exact Z K6⟩, ⟨YA HB⟩⟩
  rw [if_neg c2] at H
  have d1 := eF c2
  have d2 := nT c2
  (first | rw [d1] | (simp only [i64_w, i32_w]; rw [d1]) | skip)
  by_cases c3 : a0 = 2
  ·rw [if_pos c3] at H
   have d3 := eT c3
   have d4 := nF c3
   clear c3
   obtain ⟨⟨t5, t6⟩, A1, H⟩ := bd H
   try dsimp only at H
   obtain ⟨⟨t7, t8⟩, A2, H⟩ := bd H
   try dsimp only at H
   have H' := am H
   clear H
   try go_wp2
   obtain ⟨K1, K2, K3, K4, K5, K6, HB⟩ := dk6 K1 K2 K3 K4 K5 K6 HB
   refine start_ (n := 8) (S := fun w' => ce2 w' g1 a1_0 a1_1 ∧ ce2 w' g2 a2_0 a2_1) (ds := []) (lb 8 0) (by kernel_rfl) rfl rfl ⟨cc2 K1, cc2 K2⟩ (fun hHeld => ?_); refine with_tabW impl_RangeCmp.tab10 impl_RangeCmp.bits10 (fun HT_ HW_ => ?_)
   generalize w7.drew = w8 at K1 K2 K3 K4 K5 K6 HB hHeld ⊢
   refine tk 0 39 1 hHeld ?_
   refine tk 1 40 3 hHeld ?_
   refine tk 3 42 11 hHeld ?_
   refine tk 4 43 27 hHeld ?_
   refine on 2 (some 41) 31 fun K hK => ?_
   refine ck hK Try.func116 (impl_rangeWithout.calls _ _ _ _ _ _ _ _ A1.out) (fun _ b => bk6 K1 K2 K3 K4 K5 K6 HB b) fun w9 Q_ hHeld => ?_
   clear hK K
   obtain ⟨K1, K2, K3, K4, K5, K6, HB⟩ := Q_
   refine on 5 (some 44) 63 fun K hK => ?_
   refine ck hK Try.func116 (impl_rangeWithout.calls _ _ _ _ _ _ _ _ A2.out) (fun _ b => bk6 K1 K2 K3 K4 K5 K6 HB b) fun w10 Q_ hHeld => ?_
   clear hK K
   obtain ⟨K1, K2, K3, K4, K5, K6, HB⟩ := Q_
   refine on 6 none 127 fun K hK => ?_
   have s4 : w10.cell? ⟨g5, 0, none⟩ = some (.int .i64 0) := bc K5 0
   have hfs96 := blk_frozen K5.out 0
   have := ns10 N13 N15 N17 N19 N30 N14 N16 N18 N20 N29
   have s5 : w10.cell? ⟨g5, 1, none⟩ = some (.int .i64 0) := bc K5 1
   have hfs97 := blk_frozen K5.out 1
   have := ns10 N13 N15 N17 N19 N30 N14 N16 N18 N20 N29
   refine skip_ (w1 := ?_) (by rfl) rfl ?_ ?_
   rotate_left
   ·go_simp
    rfl
   refine hK.out _ _ ⟨cf2 N13 (cf2 N13 hHeld.1), cf2 N15 (cf2 N15 hHeld.2)⟩ (fun hHeld => ?_)
   clear hK K
   refine on 7 none 255 fun K hK => ?_
   have s6 : w10.cell? ⟨g6, 0, none⟩ = some (.int .i64 0) := bc K6 0
   have hfs98 := blk_frozen K6.out 0
   have := ns10 N21 N23 N25 N27 N29 N22 N24 N26 N28 N30
   have s7 : w10.cell? ⟨g6, 1, none⟩ = some (.int .i64 0) := bc K6 1
   have hfs99 := blk_frozen K6.out 1
   have := ns10 N21 N23 N25 N27 N29 N22 N24 N26 N28 N30
   refine skip_ (w1 := ?_) (by rfl) rfl ?_ ?_
   rotate_left
   ·go_simp
    rfl
   refine hK.out _ _ ⟨cf2 N21 (cf2 N21 hHeld.1), cf2 N23 (cf2 N23 hHeld.2)⟩ (fun hHeld => ?_)
   clear hK K
   refine done_ (done_of HT_.out (by kernel_rfl)) ?_
   try go_wp2
   go_meet
   case rel => exact ⟨_, (0), (0), (0), (0), (t5), (t6), (t7), (t8), H', le1 J1, ⟨ft2 N21 N13 K1⟩, ⟨ft2 N23 N15 K2⟩, ⟨ft2 N25 N17 K3⟩, ⟨ft2 N27 N19 K4⟩, ⟨by refine fa N29 ?_; refine fa N29 ?_; refine pf ?_; refine bp (ia2 t5 0) ?_ 1; refine pf ?_; refine bp (ia2 0 0) ?_ 0; exact Z K5⟩, ⟨by refine pf ?_; refine bp (ia2 t7 0) ?_ 1; refine pf ?_; refine bp (ia2 0 0) ?_ 0; refine fa N30 ?_; refine fa N30 ?_; exact Z K6⟩, ⟨YA HB⟩⟩
  rw [if_neg c3] at H
  have d3 := eF c3
  have d4 := nT c3
  by_cases c4 : a0 = 3
  ·rw [if_pos c4] at H
   have d5 := eT c4
   have d6 := nF c4
   clear c4
   obtain ⟨i1, j7⟩ : ∃ j_ : Int, (mn a1_1 (wrap64 (a2_1 - 1))) = j_ := ⟨_, rfl⟩
   replace H : ((impl_rangeFrom.f a1_0 (i1)).bind fun u1 => ((impl_rangeFrom.f (mx a2_0 (wrap64 (a1_0 + 1))) a2_1).bind fun u2 => (impl_RangeCmp.j2 k1 u1.1 u1.2 u2.1 u2.2))) = some (r1, r2, r3, r4) := by first | (rw [j7] at H; exact H) | (simp only [j7] at H ⊢; exact H)
   have hji101_ : (if (wrap64 (a2_1 - 1)) < a1_1 then (wrap64 (a2_1 - 1)) else a1_1) = i1 := j7
   obtain ⟨⟨t5, t6⟩, A1, H⟩ := bd H
   try dsimp only at H
   obtain ⟨i2, j8⟩ : ∃ j_ : Int, (mx a2_0 (wrap64 (a1_0 + 1))) = j_ := ⟨_, rfl⟩
   replace H : ((impl_rangeFrom.f (i2) a2_1).bind fun u2 => (impl_RangeCmp.j2 k1 t5 t6 u2.1 u2.2)) = some (r1, r2, r3, r4) := by first | (rw [j8] at H; exact H) | (simp only [j8] at H ⊢; exact H)
   (try rw [j8] at A1)
   have hji103_ : (if a2_0 < (wrap64 (a1_0 + 1)) then (wrap64 (a1_0 + 1)) else a2_0) = i2 := j8
   obtain ⟨⟨t7, t8⟩, A2, H⟩ := bd H
   try dsimp only at H
   have H' := am H
   clear H
   have := ns9 N1 N3 N7 N13 N21 N5 N9 N15 N23
   have := cB2 K1
   have := cB2 K2
   go_wp2_with (first | ((with_reducible refine gate_callee (f := 50) rfl ?_); refine goesL_ (some 55) rfl rfl Try.func50 (by kernel_rfl) rfl #[.int .i64 a1_0, .int .i64 i1] rfl (by (try simp only [List.map_toArray, List.map_cons, List.map_nil]); first | done | (simp only [j7]; rfl) | rfl | (simp only [List.length_drop, List.length_take]; rfl)) ?_; (with_reducible refine (impl_rangeFrom.calls _ _ _ _ _ A1.out).mono ?_); rintro e w8 ⟨rfl, hb⟩; refine ⟨_, rfl, ?_⟩; obtain ⟨K1, K2, K3, K4, K5, K6, HB⟩ := bk6 K1 K2 K3 K4 K5 K6 HB hb; (try clear hb); have := ns3 N18 N20 N29; have := cB2 K5; have := cB2 K2; have := cB2 K1) | ((with_reducible refine gate_callee (f := 50) rfl ?_); refine goesL_ (some 64) rfl rfl Try.func50 (by kernel_rfl) rfl #[.int .i64 i2, .int .i64 a2_1] rfl (by (try simp only [List.map_toArray, List.map_cons, List.map_nil]); first | done | (simp only [j8]; rfl) | rfl | (simp only [List.length_drop, List.length_take]; rfl)) ?_; (with_reducible refine (impl_rangeFrom.calls _ _ _ _ _ A2.out).mono ?_); rintro e w9 ⟨rfl, hb⟩; refine ⟨_, rfl, ?_⟩; replace K1 := am (blk_below (g := g1) (o := b2 a1_0 a1_1 24) (ft N13 K1) hb); replace K2 := am (blk_below (g := g2) (o := b2 a2_0 a2_1 24) (ft N15 K2) hb); replace K3 := am (blk_below (g := g3) (o := b2 0 0 24) (ft N17 K3) hb); replace K4 := am (blk_below (g := g4) (o := b2 0 0 24) (ft N19 K4) hb); replace K5 := am (blk_below (g := g5) (o := b2 t5 t6 24) (by refine pf ?_; refine bp (ia2 t5 0) ?_ 1; refine pf ?_; refine bp (ia2 0 0) ?_ 0; exact Z K5) hb); replace K6 := am (blk_below (g := g6) (o := b2 0 0 24) (ft N30 K6) hb); replace HB := am (below_step (YA HB) hb); (try clear hb); have := ns2 N26 N28; have := cB2 K6))
   go_meet
   case rel => exact ⟨_, (0), (0), (0), (0), (t5), (t6), (t7), (t8), H', le1 J1, ⟨ft N21 K1⟩, ⟨ft N23 K2⟩, ⟨ft N25 K3⟩, ⟨ft N27 K4⟩, ⟨ft N29 K5⟩, ⟨by refine pf ?_; refine bp (ia2 t7 0) ?_ 1; refine pf ?_; refine bp (ia2 0 0) ?_ 0; exact Z K6⟩, ⟨YA HB⟩⟩
  rw [if_neg c4] at H
  have d5 := eF c4
  have d6 := nT c4
  by_cases c5 : a0 = 4
  ·rw [if_pos c5] at H
   have d7 := eT c5
   have d8 := nF c5
   clear c5
   obtain ⟨i1, j7⟩ : ∃ j_ : Int, (mn a1_1 a2_1) = j_ := ⟨_, rfl⟩
   replace H : ((impl_rangeFrom.f a1_0 (i1)).bind fun u1 => ((impl_rangeFrom.f (mx a2_0 a1_0) a2_1).bind fun u2 => (impl_RangeCmp.j2 k1 u1.1 u1.2 u2.1 u2.2))) = some (r1, r2, r3, r4) := by first | (rw [j7] at H; exact H) | (simp only [j7] at H ⊢; exact H)
   have hji128_ : (if a2_1 < a1_1 then a2_1 else a1_1) = i1 := j7
   obtain ⟨⟨t5, t6⟩, A1, H⟩ := bd H
   try dsimp only at H
   obtain ⟨i2, j8⟩ : ∃ j_ : Int, (mx a2_0 a1_0) = j_ := ⟨_, rfl⟩
   replace H : ((impl_rangeFrom.f (i2) a2_1).bind fun u2 => (impl_RangeCmp.j2 k1 t5 t6 u2.1 u2.2)) = some (r1, r2, r3, r4) := by first | (rw [j8] at H; exact H) | (simp only [j8] at H ⊢; exact H)
   (try rw [j8] at A1)
   have hji130_ : (if a2_0 < a1_0 then a1_0 else a2_0) = i2 := j8
   obtain ⟨⟨t7, t8⟩, A2, H⟩ := bd H
   try dsimp only at H
   have H' := am H
   clear H
   have := ns9 N1 N3 N7 N13 N21 N5 N9 N15 N23
   have := cB2 K1
   have := cB2 K2
   go_wp2_with (first | ((with_reducible refine gate_callee (f := 50) rfl ?_); refine goesL_ (some 74) rfl rfl Try.func50 (by kernel_rfl) rfl #[.int .i64 a1_0, .int .i64 i1] rfl (by (try simp only [List.map_toArray, List.map_cons, List.map_nil]); first | done | (simp only [j7]; rfl) | rfl | (simp only [List.length_drop, List.length_take]; rfl)) ?_; (with_reducible refine (impl_rangeFrom.calls _ _ _ _ _ A1.out).mono ?_); rintro e w8 ⟨rfl, hb⟩; refine ⟨_, rfl, ?_⟩; obtain ⟨K1, K2, K3, K4, K5, K6, HB⟩ := bk6 K1 K2 K3 K4 K5 K6 HB hb; (try clear hb); have := ns3 N18 N20 N29; have := cB2 K5; have := cB2 K2; have := cB2 K1) | ((with_reducible refine gate_callee (f := 50) rfl ?_); refine goesL_ (some 82) rfl rfl Try.func50 (by kernel_rfl) rfl #[.int .i64 i2, .int .i64 a2_1] rfl (by (try simp only [List.map_toArray, List.map_cons, List.map_nil]); first | done | (simp only [j8]; rfl) | rfl | (simp only [List.length_drop, List.length_take]; rfl)) ?_; (with_reducible refine (impl_rangeFrom.calls _ _ _ _ _ A2.out).mono ?_); rintro e w9 ⟨rfl, hb⟩; refine ⟨_, rfl, ?_⟩; replace K1 := am (blk_below (g := g1) (o := b2 a1_0 a1_1 24) (ft N13 K1) hb); replace K2 := am (blk_below (g := g2) (o := b2 a2_0 a2_1 24) (ft N15 K2) hb); replace K3 := am (blk_below (g := g3) (o := b2 0 0 24) (ft N17 K3) hb); replace K4 := am (blk_below (g := g4) (o := b2 0 0 24) (ft N19 K4) hb); replace K5 := am (blk_below (g := g5) (o := b2 t5 t6 24) (by refine pf ?_; refine bp (ia2 t5 0) ?_ 1; refine pf ?_; refine bp (ia2 0 0) ?_ 0; exact Z K5) hb); replace K6 := am (blk_below (g := g6) (o := b2 0 0 24) (ft N30 K6) hb); replace HB := am (below_step (YA HB) hb); (try clear hb); have := ns2 N26 N28; have := cB2 K6))
   go_meet
   case rel => exact ⟨_, (0), (0), (0), (0), (t5), (t6), (t7), (t8), H', le1 J1, ⟨ft N21 K1⟩, ⟨ft N23 K2⟩, ⟨ft N25 K3⟩, ⟨ft N27 K4⟩, ⟨ft N29 K5⟩, ⟨by refine pf ?_; refine bp (ia2 t7 0) ?_ 1; refine pf ?_; refine bp (ia2 0 0) ?_ 0; exact Z K6⟩, ⟨YA HB⟩⟩
  rw [if_neg c5] at H
  have d7 := eF c5
  have d8 := nT c5
  have C3 := am H
  clear H
  go_upto_if 83 with (fail)
  go_cut [83] (fun v2 wc => ∃ (kq : Nat) (x10 : Bool), v2 = .bool x10 ∧ Aside0 (impl_RangeCmp.j1 kq a0 x10 a1_0 a1_1 a2_0 a2_1 = some (r1, r2, r3, r4)) ∧ Aside0 (kq ≤ k1) ∧ Bx2 wc g1 a1_0 a1_1 24 ∧ Bx2 wc g2 a2_0 a2_1 24 ∧ Bx2 wc g3 0 0 24 ∧ Bx2 wc g4 0 0 24 ∧ Bx2 wc g5 0 0 24 ∧ Bx2 wc g6 0 0 24 ∧ Aside0 (Below w.heap.size w wc))
  case first =>
   have H := C3.out
   clear C3
   by_cases c6 : a0 = 5
   rotate_left
   ·rw [if_neg c6] at H
    have d9 := eF c6
    have d10 := nT c6
    (first | rw [d9] | (simp only [i64_w, i32_w]; rw [d9]) | skip)
    have H' := am H
    clear H
    go_wp2
    go_meet
    case rel => exact ⟨_, ((a0 == 6)), ey, H', le1 J1, ⟨Z K1⟩, ⟨Z K2⟩, ⟨Z K3⟩, ⟨Z K4⟩, ⟨Z K5⟩, ⟨Z K6⟩, ⟨YA HB⟩⟩
   rw [if_pos c6] at H
   have d9 := eT c6
   have d10 := nF c6
   clear c6
   (first | rw [d9] | (simp only [i64_w, i32_w]; rw [d9]) | skip)
   have H' := am H
   clear H
   go_wp2
   go_meet
   case rel => exact ⟨_, ((a0 == 5)), ey, H', le1 J1, ⟨Z K1⟩, ⟨Z K2⟩, ⟨Z K3⟩, ⟨Z K4⟩, ⟨Z K5⟩, ⟨Z K6⟩, ⟨YA HB⟩⟩
  clear C3
  (try clear c1);(try clear c2);(try clear d1);(try clear d2);(try clear c3);(try clear d3);(try clear d4);(try clear c4);(try clear d5);(try clear d6);(try clear c5);(try clear d7);(try clear d8)
  obtain ⟨kq, x10, rfl, HA, J2, K1, K2, K3, K4, K5, K6, HB⟩ := hcut
  cases kq with
  | zero => exact absurd HA.out (by simp [impl_RangeCmp.j1])
  | succ k2 => ?_
  have H := HA.out
  clear HA
  simp only [impl_RangeCmp.j1] at H
  by_cases c6 : x10 = true
  rotate_left
  ·replace c6 := Bool.eq_false_iff.mpr c6
   subst c6
   rw [if_neg ff] at H
   obtain ⟨⟨t5, t6⟩, A1, H⟩ := bd H
   try dsimp only at H
   obtain ⟨⟨t7, t8⟩, A2, H⟩ := bd H
   try dsimp only at H
   obtain ⟨rfl, rfl, rfl, rfl⟩ := sj4 H
   go_wp2_with (first | ((with_reducible refine gate_callee (f := 48) rfl ?_); refine gL 29 Try.func48 (impl_rangeNone.calls _ _ _ A1.out) fun w8 hb => ?_; obtain ⟨K1, K2, K3, K4, K5, K6, HB⟩ := bk6 K1 K2 K3 K4 K5 K6 HB hb; (try clear hb)) | ((with_reducible refine gate_callee (f := 48) rfl ?_); refine gL 30 Try.func48 (impl_rangeNone.calls _ _ _ A2.out) fun w9 hb => ?_; obtain ⟨K1, K2, K3, K4, K5, K6, HB⟩ := bk6 K1 K2 K3 K4 K5 K6 HB hb; (try clear hb); have := ns9 N4 N6 N11 N17 N25 N8 N10 N19 N27; have := cB2 K3; have := cB2 K4))
   refine bodyPost_ret (results_cc rfl _ _ g3 g4 24 24 #[.int .i64 t5, .int .i64 t6] #[.int .i64 t7, .int .i64 t8] (0, 0) (0, 0) _ _ rfl (by refine fa N11 ?_; refine fa N11 ?_; refine pf ?_; refine bp (ia2 t5 0) ?_ 1; refine pf ?_; refine bp (ia2 0 0) ?_ 0; exact Z K3) Try.underlying24 rfl (by kernel_rfl) rfl (by refine pf ?_; refine bp (ia2 t7 0) ?_ 1; refine pf ?_; refine bp (ia2 0 0) ?_ 0; refine fa N12 ?_; refine fa N12 ?_; exact Z K4) Try.underlying24 rfl (by kernel_rfl)) rfl ?_
   exact ⟨ez, YA HB⟩
  subst c6
  rw [if_pos rfl] at H
  obtain ⟨t5, A1, H⟩ := bd H
  try dsimp only at H
  obtain ⟨⟨t6, t7, t8, t9⟩, A2, H⟩ := bd H
  try dsimp only at H
  have H' := am H
  clear H
  try go_wp2
  obtain ⟨K1, K2, K3, K4, K5, K6, HB⟩ := dk6 K1 K2 K3 K4 K5 K6 HB
  refine start_ (n := 10) (S := fun w' => ce2 w' g2 a2_0 a2_1 ∧ ce2 w' g1 a1_0 a1_1) (ds := []) (lb 10 0) (by kernel_rfl) rfl rfl ⟨cc2 K2, cc2 K1⟩ (fun hHeld => ?_); refine with_tabW impl_RangeCmp.tab19 impl_RangeCmp.bits19 (fun HT_ HW_ => ?_)
  generalize wc.drew = w8 at K1 K2 K3 K4 K5 K6 HB hHeld ⊢
  refine pk 0 87 1 ?_
  refine tk 2 89 5 hHeld ?_
  refine tk 3 90 13 hHeld ?_
  refine on 1 (some 88) 15 fun K hK => ?_
  refine goes_ Try.func36 (by kernel_rfl) rfl #[.int .i64 a0] (by rfl) rfl rfl mz ?_
  with_reducible refine (impl_CmpTurn.calls _ _ _ _ A1.out).mono ?_
  rintro e w' ⟨rfl, ⟨nd, rfl⟩⟩
  refine ⟨_, rfl, ?_⟩
  refine kk hK ⟨cc2 K2, cc2 K1⟩ fun hHeld => ?_
  clear hK K
  refine on 4 (some 91) 31 fun K hK => ?_
  refine ck hK Try.func87 (ih k2 (by have := J1.out; have := J2.out; omega) t5 a2_0 a2_1 a1_0 a1_1 t6 t7 t8 t9 _ A2.out) (fun _ b => bk6 K1 K2 K3 K4 K5 K6 HB b) fun w9 Q_ hHeld => ?_
  clear hK K
  obtain ⟨K1, K2, K3, K4, K5, K6, HB⟩ := Q_
  refine pk 5 86 63 ?_
  refine pk 6 92 127 ?_
  refine pk 7 93 255 ?_
  refine on 8 none 511 fun K hK => ?_
  have s4 : w9.cell? ⟨g6, 0, none⟩ = some (.int .i64 0) := bc K6 0
  have hfs161 := blk_frozen K6.out 0
  have := ns10 N21 N23 N25 N27 N29 N22 N24 N26 N28 N30
  have s5 : w9.cell? ⟨g6, 1, none⟩ = some (.int .i64 0) := bc K6 1
  have hfs162 := blk_frozen K6.out 1
  have := ns10 N21 N23 N25 N27 N29 N22 N24 N26 N28 N30
  refine skip_ (w1 := ?_) (by rfl) rfl ?_ ?_
  rotate_left
  ·go_simp
   rfl
  refine hK.out _ _ ⟨cf2 N23 (cf2 N23 hHeld.1), cf2 N21 (cf2 N21 hHeld.2)⟩ (fun hHeld => ?_)
  clear hK K
  refine on 9 none 1023 fun K hK => ?_
  have s6 : w9.cell? ⟨g5, 0, none⟩ = some (.int .i64 0) := bc K5 0
  have hfs163 := blk_frozen K5.out 0
  have := ns10 N13 N15 N17 N19 N30 N14 N16 N18 N20 N29
  have s7 : w9.cell? ⟨g5, 1, none⟩ = some (.int .i64 0) := bc K5 1
  have hfs164 := blk_frozen K5.out 1
  have := ns10 N13 N15 N17 N19 N30 N14 N16 N18 N20 N29
  refine skip_ (w1 := ?_) (by rfl) rfl ?_ ?_
  rotate_left
  ·go_simp
   rfl
  refine hK.out _ _ ⟨cf2 N15 (cf2 N15 hHeld.1), cf2 N13 (cf2 N13 hHeld.2)⟩ (fun hHeld => ?_)
  clear hK K
  refine done_ (done_of HT_.out (by kernel_rfl)) ?_
  try go_wp2
  go_meet
  case rel => exact ⟨_, (0), (0), (0), (0), (t8), (t9), (t6), (t7), H', ⟨by have := J1.out; have := J2.out; first | omega | exact Nat.le_refl _⟩, ⟨ft2 N13 N21 K1⟩, ⟨ft2 N15 N23 K2⟩, ⟨ft2 N17 N25 K3⟩, ⟨ft2 N19 N27 K4⟩, ⟨by refine pf ?_; refine bp (ia2 t8 0) ?_ 1; refine pf ?_; refine bp (ia2 0 0) ?_ 0; refine fa N29 ?_; refine fa N29 ?_; exact Z K5⟩, ⟨by refine fa N30 ?_; refine fa N30 ?_; refine pf ?_; refine bp (ia2 t6 0) ?_ 1; refine pf ?_; refine bp (ia2 0 0) ?_ 0; exact Z K6⟩, ⟨YA HB⟩⟩
 clear C2
 try clear c1
 obtain ⟨kq, x2, x3, x4, x5, x6, x7, x8, x9, HA, J2, K1, K2, K3, K4, K5, K6, HB⟩ := hcut
 cases kq with
 | zero => exact absurd HA.out (by simp [impl_RangeCmp.j2])
 | succ k2 => ?_
 have H := HA.out
 clear HA
 simp only [impl_RangeCmp.j2] at H
 have C3 := am H
 clear H
 go_upto_region 20 with (fail)
 go_cut [99] (fun v2 wc => ∃ (kq : Nat) (x10 : Bool), v2 = .bool x10 ∧ Aside0 (impl_RangeCmp.j3 kq x10 x6 x7 x8 x9 = some (r1, r2, r3, r4)) ∧ Aside0 (kq ≤ k2) ∧ Bx2 wc g1 a1_0 a1_1 24 ∧ Bx2 wc g2 a2_0 a2_1 24 ∧ Bx2 wc g3 x2 x3 24 ∧ Bx2 wc g4 x4 x5 24 ∧ Bx2 wc g5 x6 x7 24 ∧ Bx2 wc g6 x8 x9 24 ∧ Aside0 (Below w.heap.size w wc))
 case first =>
  have H := C3.out
  clear C3
  obtain ⟨t5, A1, H⟩ := bd H
  try dsimp only at H
  by_cases c2 : t5 = true
  ·subst c2
   rw [if_pos rfl] at H
   have H' := am H
   clear H
   have := ns5 N14 N16 N18 N20 N29
   have := cB2 K5
   go_wp2_with (first | ((with_reducible refine gate_callee (f := 47) rfl ?_); refine gL 95 Try.func47 (impl_Range_empty.calls _ _ _ _ A1.out) fun w8 hb => ?_; obtain ⟨K1, K2, K3, K4, K5, K6, HB⟩ := bk6 K1 K2 K3 K4 K5 K6 HB hb; (try clear hb)))
   go_meet
   case rel => exact ⟨_, (true), ey, H', ⟨by have := J1.out; have := J2.out; first | omega | exact Nat.le_refl _⟩, ⟨Z K1⟩, ⟨Z K2⟩, ⟨Z K3⟩, ⟨Z K4⟩, ⟨Z K5⟩, ⟨Z K6⟩, ⟨YA HB⟩⟩
  replace c2 := Bool.eq_false_iff.mpr c2
  subst c2
  rw [if_neg ff] at H
  obtain ⟨t6, A2, H⟩ := bd H
  try dsimp only at H
  have H' := am H
  clear H
  have := ns5 N14 N16 N18 N20 N29
  have := cB2 K5
  go_wp2_with (first | ((with_reducible refine gate_callee (f := 47) rfl ?_); refine gL 95 Try.func47 (impl_Range_empty.calls _ _ _ _ A1.out) fun w8 hb => ?_; obtain ⟨K1, K2, K3, K4, K5, K6, HB⟩ := bk6 K1 K2 K3 K4 K5 K6 HB hb; (try clear hb); have := ns4 N22 N24 N26 N28; have := cB2 K6) | (go_at_call 47; (with_reducible refine (impl_Range_empty.calls _ _ _ _ A2.out).mono ?_); rintro e w9 ⟨rfl, hb⟩; obtain ⟨K1, K2, K3, K4, K5, K6, HB⟩ := bk6 K1 K2 K3 K4 K5 K6 HB hb; (try clear hb)))
  go_meet
  case rel => exact ⟨_, (t6), ey, H', ⟨by have := J1.out; have := J2.out; first | omega | exact Nat.le_refl _⟩, ⟨Z K1⟩, ⟨Z K2⟩, ⟨Z K3⟩, ⟨Z K4⟩, ⟨Z K5⟩, ⟨Z K6⟩, ⟨YA HB⟩⟩
 clear C3
 obtain ⟨kq, x10, rfl, HA, J3, K1, K2, K3, K4, K5, K6, HB⟩ := hcut
 cases kq with
 | zero => exact absurd HA.out (by simp [impl_RangeCmp.j3])
 | succ k3 => ?_
 have H := HA.out
 clear HA
 simp only [impl_RangeCmp.j3] at H
 by_cases c2 : x10 = true
 ·subst c2
  rw [if_pos rfl] at H
  obtain ⟨⟨t5, t6⟩, A1, H⟩ := bd H
  try dsimp only at H
  obtain ⟨⟨t7, t8⟩, A2, H⟩ := bd H
  try dsimp only at H
  obtain ⟨rfl, rfl, rfl, rfl⟩ := sj4 H
  go_wp2_with (first | ((with_reducible refine gate_callee (f := 48) rfl ?_); refine gL 100 Try.func48 (impl_rangeNone.calls _ _ _ A1.out) fun w8 hb => ?_; obtain ⟨K1, K2, K3, K4, K5, K6, HB⟩ := bk6 K1 K2 K3 K4 K5 K6 HB hb; (try clear hb)) | ((with_reducible refine gate_callee (f := 48) rfl ?_); refine gL 101 Try.func48 (impl_rangeNone.calls _ _ _ A2.out) fun w9 hb => ?_; obtain ⟨K1, K2, K3, K4, K5, K6, HB⟩ := bk6 K1 K2 K3 K4 K5 K6 HB hb; (try clear hb); have := ns9 N4 N6 N11 N17 N25 N8 N10 N19 N27; have := cB2 K3; have := cB2 K4))
  refine bodyPost_ret (results_cc rfl _ _ g3 g4 24 24 #[.int .i64 t5, .int .i64 t6] #[.int .i64 t7, .int .i64 t8] (0, 0) (0, 0) _ _ rfl (by refine fa N11 ?_; refine fa N11 ?_; refine pf ?_; refine bp (ia2 t5 x3) ?_ 1; refine pf ?_; refine bp (ia2 x2 x3) ?_ 0; exact Z K3) Try.underlying24 rfl (by kernel_rfl) rfl (by refine pf ?_; refine bp (ia2 t7 x5) ?_ 1; refine pf ?_; refine bp (ia2 x4 x5) ?_ 0; refine fa N12 ?_; refine fa N12 ?_; exact Z K4) Try.underlying24 rfl (by kernel_rfl)) rfl ?_
  exact ⟨ez, YA HB⟩
 replace c2 := Bool.eq_false_iff.mpr c2
 subst c2
 rw [if_neg ff] at H
 obtain ⟨rfl, rfl, rfl, rfl⟩ := sj4 H
 try go_wp2
 obtain ⟨K1, K2, K3, K4, K5, K6, HB⟩ := dk6 K1 K2 K3 K4 K5 K6 HB
 refine start_ (n := 4) (S := fun w' => ce2 w' g5 x6 x7 ∧ ce2 w' g6 x8 x9) (ds := []) (lb 4 0) (by kernel_rfl) rfl rfl ⟨cc2 K5, cc2 K6⟩ (fun hHeld => ?_)
 generalize wc.drew = w8 at K1 K2 K3 K4 K5 K6 HB hHeld ⊢
 refine tq 0 102 1 hHeld ?_
 refine tq 1 103 3 hHeld ?_
 refine one_ (i := 2) (N := none) (lb 4 7) rfl rfl (by kernel_rfl) (by decide) (fun K hK => ?_)
 have s4 : w8.cell? ⟨g3, 0, none⟩ = some (.int .i64 x2) := bc K3 0
 have hfs221 := blk_frozen K3.out 0
 have := ns10 N3 N5 N12 N18 N26 N4 N6 N11 N17 N25
 have s5 : w8.cell? ⟨g3, 1, none⟩ = some (.int .i64 x3) := bc K3 1
 have hfs222 := blk_frozen K3.out 1
 have := ns10 N3 N5 N12 N18 N26 N4 N6 N11 N17 N25
 refine skip_ (w1 := ?_) (by rfl) rfl ?_ ?_
 rotate_left
 ·go_simp
  rfl
 refine hK.out _ _ ⟨cf2 N18 (cf2 N18 hHeld.1), cf2 N26 (cf2 N26 hHeld.2)⟩ (fun hHeld => ?_)
 clear hK K
 refine one_ (i := 3) (N := none) (lb 4 15) rfl rfl (by kernel_rfl) (by decide) (fun K hK => ?_)
 have s6 : w8.cell? ⟨g4, 0, none⟩ = some (.int .i64 x4) := bc K4 0
 have hfs223 := blk_frozen K4.out 0
 have := ns10 N7 N9 N11 N20 N28 N8 N10 N12 N19 N27
 have s7 : w8.cell? ⟨g4, 1, none⟩ = some (.int .i64 x5) := bc K4 1
 have hfs224 := blk_frozen K4.out 1
 have := ns10 N7 N9 N11 N20 N28 N8 N10 N12 N19 N27
 refine skip_ (w1 := ?_) (by rfl) rfl ?_ ?_
 rotate_left
 ·go_simp
  rfl
 refine hK.out _ _ ⟨cf2 N20 (cf2 N20 hHeld.1), cf2 N28 (cf2 N28 hHeld.2)⟩ (fun hHeld => ?_)
 clear hK K
 refine done_ (by kernel_rfl) ?_
 try go_wp2
 refine bodyPost_ret (results_cc rfl _ _ g3 g4 24 24 #[.int .i64 x6, .int .i64 x7] #[.int .i64 x8, .int .i64 x9] (0, 0) (0, 0) _ _ rfl (by refine fa N11 ?_; refine fa N11 ?_; refine pf ?_; refine bp (ia2 x6 x3) ?_ 1; refine pf ?_; refine bp (ia2 x2 x3) ?_ 0; exact Z K3) Try.underlying24 rfl (by kernel_rfl) rfl (by refine pf ?_; refine bp (ia2 x8 x5) ?_ 1; refine pf ?_; refine bp (ia2 x4 x5) ?_ 0; refine fa N12 ?_; refine fa N12 ?_; exact Z K4) Try.underlying24 rfl (by kernel_rfl)) rfl ?_
 exact ⟨ez, YA HB⟩
end
section
attribute [local go_sem] max2_int min2_int max_two min_two max_three min_three max_four min_four
attribute [local go_sem] Go.Proofs.YthbkakcchgnhpaaSet.isSome_setCell
def impl_RestHas.j0 : Nat → Int → Bool → Int → Int → Option (Bool)
 | 0, _, _, _, _ => none
 | k + 1, x1, x2, x3, x4 => if x2 = true then (some false) else (if x3 = 0 then (some (x1 == x4)) else ((impl_restMod.f x1 x3).bind fun t1 => (some (t1 == x4))))
def impl_RestHas.f (k : Nat) (a0_0 : Int) (a0_1 : Int) (a1 : Int) : Option (Bool) := (impl_RestOk.f a0_0 a0_1).bind fun t1 => (if t1 = true then ((impl_NumOk.f a1).bind fun t2 => (impl_RestHas.j0 k a1 (!t2) a0_0 a0_1)) else (impl_RestHas.j0 k a1 true a0_0 a0_1))
theorem impl_RestHas.mono_l : ∀ k, (∀ y0 y1 y2 y3, LeO (impl_RestHas.j0 k y0 y1 y2 y3) (impl_RestHas.j0 (k + 1) y0 y1 y2 y3))
 | 0 => fun _ _ _ _ r h => by simp [impl_RestHas.j0] at h
 | k + 1 => by
  have ih0 := impl_RestHas.mono_l k
  ·intro y0 y1 y2 y3
   unfold impl_RestHas.j0
   repeat' first | (with_reducible first | apply ih0 | apply LeO.refl | apply LeO.none | refine LeO.ite ?_ ?_ | refine LeO.bind ?_ (fun _ => ?_)) | apply ih0 | apply LeO.none | refine LeO.ite ?_ ?_ | refine LeO.bind ?_ (fun _ => ?_)
theorem impl_RestHas.mono : ∀ a0 a1 a2 k, LeO (impl_RestHas.f k a0 a1 a2) (impl_RestHas.f (k + 1) a0 a1 a2) := by
 intro a0 a1 a2 k
 have ih0 := impl_RestHas.mono_l k
 unfold impl_RestHas.f
 repeat' first | (with_reducible first | apply ih0 | apply LeO.refl | apply LeO.none | refine LeO.ite ?_ ?_ | refine LeO.bind ?_ (fun _ => ?_)) | apply ih0 | apply LeO.none | refine LeO.ite ?_ ?_ | refine LeO.bind ?_ (fun _ => ?_)
set_option maxHeartbeats 8000000 in
set_option maxRecDepth 100000 in
theorem impl_RestHas.calls (k : Nat) (a0_0 : Int) (a0_1 : Int) (a1 : Int) (r : Bool) (w : World) (h : impl_RestHas.f k a0_0 a0_1 a1 = some r) :
  Calls Try.prog 119 #[.agg #[.int .i64 a0_0, .int .i64 a0_1], .int .i64 a1] w fun e w' => e = .returned (.bool r) ∧ Below w.heap.size w w' := by
 have hu86 := Try.underlying86
 have HB := am (Below.refl w.heap.size w)
 have H : ((impl_RestOk.f a0_0 a0_1).bind fun t1 => (if t1 = true then ((impl_NumOk.f a1).bind fun t2 => (impl_RestHas.j0 k a1 (!t2) a0_0 a0_1)) else (impl_RestHas.j0 k a1 true a0_0 a0_1))) = some r := h
 clear h
 have C1 := am H
 clear H
 go_enter Try.func119, Try.ntmps119
 go_upto_region 1 with (first | ((with_reducible refine gate_dst (N := 2) rfl ?_); refine bxn 2 #[.int .i64 a0_0, .int .i64 a0_1] 86 HB fun g1 w1 K1 G1 hg hb => ?_; replace HB := am (below_step (YA HB) hb); clear hb hg))
 repeat (go_quiet (first | ((with_reducible refine gate_dst (N := 2) rfl ?_); refine bxn 2 #[.int .i64 a0_0, .int .i64 a0_1] 86 HB fun g1 w1 K1 G1 hg hb => ?_; replace HB := am (below_step (YA HB) hb); clear hb hg)); go_upto_region 1 with (first | ((with_reducible refine gate_dst (N := 2) rfl ?_); refine bxn 2 #[.int .i64 a0_0, .int .i64 a0_1] 86 HB fun g1 w1 K1 G1 hg hb => ?_; replace HB := am (below_step (YA HB) hb); clear hb hg)))
 (try simp only [Act.put, List.setIfInBounds_toArray, List.set_cons_zero, List.set_cons_succ])
 go_cut [12] (fun v1 wc => ∃ (kq : Nat) (x1 : Bool), v1 = .bool x1 ∧ Aside0 (impl_RestHas.j0 kq a1 x1 a0_0 a0_1 = some r) ∧ Aside0 (kq ≤ k) ∧ Bx2 wc g1 a0_0 a0_1 86 ∧ Aside0 (Below w.heap.size w wc))
 case first =>
  have H := C1.out
  clear C1
  obtain ⟨t1, A1, H⟩ := bd H
  try dsimp only at H
  by_cases c1 : t1 = true
  rotate_left
  ·replace c1 := Bool.eq_false_iff.mpr c1
   subst c1
   rw [if_neg ff] at H
   have H' := am H
   clear H
   have := cB2 K1
   go_wp2_with (first | (go_at_call 108; (with_reducible refine (impl_RestOk.calls _ _ _ _ A1.out).mono ?_); rintro e w2 ⟨rfl, hb⟩; obtain ⟨K1, HB⟩ := bk1 K1 HB hb; (try clear hb)))
   repeat (go_quiet (first | (go_at_call 108; (with_reducible refine (impl_RestOk.calls _ _ _ _ A1.out).mono ?_); rintro e w2 ⟨rfl, hb⟩; obtain ⟨K1, HB⟩ := bk1 K1 HB hb; (try clear hb))); try go_wp2_with (first | (go_at_call 108; (with_reducible refine (impl_RestOk.calls _ _ _ _ A1.out).mono ?_); rintro e w2 ⟨rfl, hb⟩; obtain ⟨K1, HB⟩ := bk1 K1 HB hb; (try clear hb))))
   go_meet
   case rel => exact ⟨_, (true), ey, H', le0, ⟨Z K1⟩, ⟨YA HB⟩⟩
  subst c1
  rw [if_pos rfl] at H
  obtain ⟨t2, A2, H⟩ := bd H
  try dsimp only at H
  have H' := am H
  clear H
  have := cB2 K1
  go_wp2_with (first | (go_at_call 108; (with_reducible refine (impl_RestOk.calls _ _ _ _ A1.out).mono ?_); rintro e w2 ⟨rfl, hb⟩; obtain ⟨K1, HB⟩ := bk1 K1 HB hb; (try clear hb)) | (go_at_call 60; (with_reducible refine (impl_NumOk.calls _ _ _ A2.out).mono ?_); rintro e w' ⟨rfl, ⟨nd, rfl⟩⟩; (try first | exact ⟨rfl, _, World.drewN_drewN _ _ _⟩ | exact ⟨rfl, _, Eq.trans (World.drewN_drewN _ _ _) (congrArg (World.drewN _) (Nat.add_assoc _ _ _))⟩)))
  repeat (go_quiet (first | (go_at_call 108; (with_reducible refine (impl_RestOk.calls _ _ _ _ A1.out).mono ?_); rintro e w2 ⟨rfl, hb⟩; obtain ⟨K1, HB⟩ := bk1 K1 HB hb; (try clear hb)) | (go_at_call 60; (with_reducible refine (impl_NumOk.calls _ _ _ A2.out).mono ?_); rintro e w' ⟨rfl, ⟨nd, rfl⟩⟩; (try first | exact ⟨rfl, _, World.drewN_drewN _ _ _⟩ | exact ⟨rfl, _, Eq.trans (World.drewN_drewN _ _ _) (congrArg (World.drewN _) (Nat.add_assoc _ _ _))⟩))); try go_wp2_with (first | (go_at_call 108; (with_reducible refine (impl_RestOk.calls _ _ _ _ A1.out).mono ?_); rintro e w2 ⟨rfl, hb⟩; obtain ⟨K1, HB⟩ := bk1 K1 HB hb; (try clear hb)) | (go_at_call 60; (with_reducible refine (impl_NumOk.calls _ _ _ A2.out).mono ?_); rintro e w' ⟨rfl, ⟨nd, rfl⟩⟩; (try first | exact ⟨rfl, _, World.drewN_drewN _ _ _⟩ | exact ⟨rfl, _, Eq.trans (World.drewN_drewN _ _ _) (congrArg (World.drewN _) (Nat.add_assoc _ _ _))⟩))))
  go_meet
  case rel => exact ⟨_, (!t2), ey, H', le0, ⟨Z K1⟩, ⟨YA HB⟩⟩
 clear C1
 obtain ⟨kq, x1, rfl, HA, J1, K1, HB⟩ := hcut
 cases kq with
 | zero => exact absurd HA.out (by simp [impl_RestHas.j0])
 | succ k1 => ?_
 have H := HA.out
 clear HA
 simp only [impl_RestHas.j0] at H
 by_cases c1 : x1 = true
 ·subst c1
  rw [if_pos rfl] at H
  obtain rfl := Option.some.inj H
  go_wp2
  repeat (go_quiet (fail); try go_wp2)
  go_ret
  exact ⟨ez, YA HB⟩
 replace c1 := Bool.eq_false_iff.mpr c1
 subst c1
 rw [if_neg ff] at H
 by_cases c2 : a0_0 = 0
 ·rw [if_pos c2] at H
  have d1 := eT c2
  have d2 := nF c2
  clear c2
  obtain rfl := Option.some.inj H
  have := cB2 K1
  go_wp2
  repeat (go_quiet (fail); try go_wp2)
  go_ret
  exact ⟨ez, YA HB⟩
 rw [if_neg c2] at H
 have d1 := eF c2
 have d2 := nT c2
 obtain ⟨t3, A1, H⟩ := bd H
 try dsimp only at H
 obtain rfl := Option.some.inj H
 have := cB2 K1
 go_wp2_with (first | (go_at_call 110; (with_reducible refine (impl_restMod.calls _ _ _ _ A1.out).mono ?_); rintro e w' ⟨rfl, ⟨nd, rfl⟩⟩; (try first | exact ⟨rfl, _, World.drewN_drewN _ _ _⟩ | exact ⟨rfl, _, Eq.trans (World.drewN_drewN _ _ _) (congrArg (World.drewN _) (Nat.add_assoc _ _ _))⟩)))
 repeat (go_quiet (first | (go_at_call 110; (with_reducible refine (impl_restMod.calls _ _ _ _ A1.out).mono ?_); rintro e w' ⟨rfl, ⟨nd, rfl⟩⟩; (try first | exact ⟨rfl, _, World.drewN_drewN _ _ _⟩ | exact ⟨rfl, _, Eq.trans (World.drewN_drewN _ _ _) (congrArg (World.drewN _) (Nat.add_assoc _ _ _))⟩))); try go_wp2_with (first | (go_at_call 110; (with_reducible refine (impl_restMod.calls _ _ _ _ A1.out).mono ?_); rintro e w' ⟨rfl, ⟨nd, rfl⟩⟩; (try first | exact ⟨rfl, _, World.drewN_drewN _ _ _⟩ | exact ⟨rfl, _, Eq.trans (World.drewN_drewN _ _ _) (congrArg (World.drewN _) (Nat.add_assoc _ _ _))⟩))))
 go_ret
 exact ⟨ez, YA HB⟩
end
section
attribute [local go_sem] max2_int min2_int max_two min_two max_three min_three max_four min_four
attribute [local go_sem] Go.Proofs.YthbkakcchgnhpaaSet.isSome_setCell
mutual
def impl_RestMeet.j0 : Nat → Bool → Int → Int → Int → Int → Option (Int × Int × Bool)
 | 0, _, _, _, _, _ => none
 | k + 1, x1, x2, x3, x4, x5 => if x1 = true then (some (0, 0, false)) else (if x2 = 0 then ((impl_RestHas.f k x4 x5 x3).bind fun t1 => (if t1 = true then (some (x2, x3, true)) else (some (0, 0, false)))) else (if x4 = 0 then ((impl_RestHas.f k x2 x3 x5).bind fun t2 => (if t2 = true then (some (x4, x5, true)) else (some (0, 0, false)))) else ((impl_restGcd.f k (([x2, x4] : List Int))).bind fun t3 => (if t3 = 0 then (none) else (if (Int.tmod (wrap64 (x3 - x5)) t3) = 0 then (if x4 > x2 then (impl_RestMeet.j1 k t3 x4 x5 x2 x3) else (impl_RestMeet.j1 k t3 x2 x3 x4 x5)) else (some (0, 0, false)))))))
def impl_RestMeet.j1 : Nat → Int → Int → Int → Int → Int → Option (Int × Int × Bool)
 | 0, _, _, _, _, _ => none
 | k + 1, x1, x2, x3, x4, x5 => if x1 = 0 then (none) else (if (wrap64 ((wrap64 (Int.tdiv x2 x1)) * x4)) > 65536 then (some (x2, x3, true)) else (impl_RestMeet.l0 k (wrap64 ((wrap64 (Int.tdiv x2 x1)) * x4)) x3 x2 x3 x4 x5))
def impl_RestMeet.l0 : Nat → Int → Int → Int → Int → Int → Int → Option (Int × Int × Bool)
 | 0, _, _, _, _, _, _ => none
 | k + 1, x1, x2, x3, x4, x5, x6 => (impl_restMod.f x2 x5).bind fun t1 => (if t1 = x6 then (some (x1, x2, true)) else (impl_RestMeet.l0 k x1 (wrap64 (x2 + x3)) x3 x4 x5 x6))
end
def impl_RestMeet.f (k : Nat) (a0_0 : Int) (a0_1 : Int) (a1_0 : Int) (a1_1 : Int) : Option (Int × Int × Bool) := (impl_RestOk.f a0_0 a0_1).bind fun t1 => (if t1 = true then ((impl_RestOk.f a1_0 a1_1).bind fun t2 => (impl_RestMeet.j0 k (!t2) a0_0 a0_1 a1_0 a1_1)) else (impl_RestMeet.j0 k true a0_0 a0_1 a1_0 a1_1))
theorem impl_RestMeet.mono_l : ∀ k, (∀ y0 y1 y2 y3 y4, LeO (impl_RestMeet.j0 k y0 y1 y2 y3 y4) (impl_RestMeet.j0 (k + 1) y0 y1 y2 y3 y4)) ∧ (∀ y0 y1 y2 y3 y4, LeO (impl_RestMeet.j1 k y0 y1 y2 y3 y4) (impl_RestMeet.j1 (k + 1) y0 y1 y2 y3 y4)) ∧ (∀ y0 y1 y2 y3 y4 y5, LeO (impl_RestMeet.l0 k y0 y1 y2 y3 y4 y5) (impl_RestMeet.l0 (k + 1) y0 y1 y2 y3 y4 y5))
 | 0 => ⟨fun _ _ _ _ _ r h => by simp [impl_RestMeet.j0] at h, fun _ _ _ _ _ r h => by simp [impl_RestMeet.j1] at h, fun _ _ _ _ _ _ r h => by simp [impl_RestMeet.l0] at h⟩
 | k + 1 => by
  obtain ⟨ih0, ih1, ih2⟩ := impl_RestMeet.mono_l k
  refine ⟨?_, ?_, ?_⟩ <;> (intros; (first | unfold impl_RestMeet.j0 | unfold impl_RestMeet.j1 | unfold impl_RestMeet.l0); repeat' first | (with_reducible first | apply ih0 | apply ih1 | apply ih2 | apply impl_RestHas.mono | apply impl_restGcd.mono | apply LeO.refl | apply LeO.none | refine LeO.ite ?_ ?_ | refine LeO.bind ?_ (fun _ => ?_)) | apply ih0 | apply ih1 | apply ih2 | apply impl_RestHas.mono | apply impl_restGcd.mono | apply LeO.none | refine LeO.ite ?_ ?_ | refine LeO.bind ?_ (fun _ => ?_))
theorem impl_RestMeet.mono : ∀ a0 a1 a2 a3 k, LeO (impl_RestMeet.f k a0 a1 a2 a3) (impl_RestMeet.f (k + 1) a0 a1 a2 a3) := by
 intro a0 a1 a2 a3 k
 obtain ⟨ih0, ih1, ih2⟩ := impl_RestMeet.mono_l k
 unfold impl_RestMeet.f
 repeat' first | (with_reducible first | apply ih0 | apply ih1 | apply ih2 | apply impl_RestHas.mono | apply impl_restGcd.mono | apply LeO.refl | apply LeO.none | refine LeO.ite ?_ ?_ | refine LeO.bind ?_ (fun _ => ?_)) | apply ih0 | apply ih1 | apply ih2 | apply impl_RestHas.mono | apply impl_restGcd.mono | apply LeO.none | refine LeO.ite ?_ ?_ | refine LeO.bind ?_ (fun _ => ?_)
set_option maxHeartbeats 8000000 in
set_option maxRecDepth 100000 in
theorem impl_RestMeet.calls (k : Nat) (a0_0 : Int) (a0_1 : Int) (a1_0 : Int) (a1_1 : Int) (r1 : Int) (r2 : Int) (r3 : Bool) (w : World) (h : impl_RestMeet.f k a0_0 a0_1 a1_0 a1_1 = some (r1, r2, r3)) :
  Calls Try.prog 117 #[.agg #[.int .i64 a0_0, .int .i64 a0_1], .agg #[.int .i64 a1_0, .int .i64 a1_1]] w fun e w' => e = .returned (.tuple #[.agg #[.int .i64 r1, .int .i64 r2], .bool r3]) ∧ Below w.heap.size w w' := by
 have hu86 := Try.underlying86
 have HB := am (Below.refl w.heap.size w)
 have H : ((impl_RestOk.f a0_0 a0_1).bind fun t1 => (if t1 = true then ((impl_RestOk.f a1_0 a1_1).bind fun t2 => (impl_RestMeet.j0 k (!t2) a0_0 a0_1 a1_0 a1_1)) else (impl_RestMeet.j0 k true a0_0 a0_1 a1_0 a1_1))) = some (r1, r2, r3) := h
 clear h
 have C1 := am H
 clear H
 go_enter Try.func117, Try.ntmps117
 go_upto_region 1 with (first | ((with_reducible refine gate_dst (N := 2) rfl ?_); refine bxn 2 #[.int .i64 a0_0, .int .i64 a0_1] 86 HB fun g1 w1 K1 G1 hg hb => ?_; replace HB := am (below_step (YA HB) hb); clear hb hg) | ((with_reducible refine gate_dst (N := 3) rfl ?_); refine bxn 3 #[.int .i64 a1_0, .int .i64 a1_1] 86 HB fun g2 w2 K2 G2 hg hb => ?_; obtain ⟨N1,N2⟩ := ne_ hg K1; obtain ⟨K1, HB⟩ := bk1 K1 HB hb; clear hb hg) | ((with_reducible refine gate_dst (N := 4) rfl ?_); refine bxn 4 #[.int .i64 0, .int .i64 0] 86 HB fun g3 w3 K3 G3 hg hb => ?_; obtain ⟨N3,N4⟩ := ne_ hg K1; obtain ⟨N5,N6⟩ := ne_ hg K2; obtain ⟨K1, K2, HB⟩ := bk2 K1 K2 HB hb; clear hb hg))
 repeat (go_quiet (first | ((with_reducible refine gate_dst (N := 2) rfl ?_); refine bxn 2 #[.int .i64 a0_0, .int .i64 a0_1] 86 HB fun g1 w1 K1 G1 hg hb => ?_; replace HB := am (below_step (YA HB) hb); clear hb hg) | ((with_reducible refine gate_dst (N := 3) rfl ?_); refine bxn 3 #[.int .i64 a1_0, .int .i64 a1_1] 86 HB fun g2 w2 K2 G2 hg hb => ?_; obtain ⟨N1,N2⟩ := ne_ hg K1; obtain ⟨K1, HB⟩ := bk1 K1 HB hb; clear hb hg) | ((with_reducible refine gate_dst (N := 4) rfl ?_); refine bxn 4 #[.int .i64 0, .int .i64 0] 86 HB fun g3 w3 K3 G3 hg hb => ?_; obtain ⟨N3,N4⟩ := ne_ hg K1; obtain ⟨N5,N6⟩ := ne_ hg K2; obtain ⟨K1, K2, HB⟩ := bk2 K1 K2 HB hb; clear hb hg)); go_upto_region 1 with (first | ((with_reducible refine gate_dst (N := 2) rfl ?_); refine bxn 2 #[.int .i64 a0_0, .int .i64 a0_1] 86 HB fun g1 w1 K1 G1 hg hb => ?_; replace HB := am (below_step (YA HB) hb); clear hb hg) | ((with_reducible refine gate_dst (N := 3) rfl ?_); refine bxn 3 #[.int .i64 a1_0, .int .i64 a1_1] 86 HB fun g2 w2 K2 G2 hg hb => ?_; obtain ⟨N1,N2⟩ := ne_ hg K1; obtain ⟨K1, HB⟩ := bk1 K1 HB hb; clear hb hg) | ((with_reducible refine gate_dst (N := 4) rfl ?_); refine bxn 4 #[.int .i64 0, .int .i64 0] 86 HB fun g3 w3 K3 G3 hg hb => ?_; obtain ⟨N3,N4⟩ := ne_ hg K1; obtain ⟨N5,N6⟩ := ne_ hg K2; obtain ⟨K1, K2, HB⟩ := bk2 K1 K2 HB hb; clear hb hg)))
 (try simp only [Act.put, List.setIfInBounds_toArray, List.set_cons_zero, List.set_cons_succ])
 go_cut [16] (fun v1 wc => ∃ (kq : Nat) (x1 : Bool), v1 = .bool x1 ∧ Aside0 (impl_RestMeet.j0 kq x1 a0_0 a0_1 a1_0 a1_1 = some (r1, r2, r3)) ∧ Aside0 (kq ≤ k) ∧ Bx2 wc g1 a0_0 a0_1 86 ∧ Bx2 wc g2 a1_0 a1_1 86 ∧ Bx2 wc g3 0 0 86 ∧ Aside0 (Below w.heap.size w wc))
 case first =>
  have H := C1.out
  clear C1
  obtain ⟨t1, A1, H⟩ := bd H
  try dsimp only at H
  by_cases c1 : t1 = true
  rotate_left
  ·replace c1 := Bool.eq_false_iff.mpr c1
   subst c1
   rw [if_neg ff] at H
   have H' := am H
   clear H
   have := ns2 N1 N3
   have := cB2 K1
   go_wp2_with (first | (go_at_call 108; (with_reducible refine (impl_RestOk.calls _ _ _ _ A1.out).mono ?_); rintro e w4 ⟨rfl, hb⟩; obtain ⟨K1, K2, K3, HB⟩ := bk3 K1 K2 K3 HB hb; (try clear hb)))
   repeat (go_quiet (first | (go_at_call 108; (with_reducible refine (impl_RestOk.calls _ _ _ _ A1.out).mono ?_); rintro e w4 ⟨rfl, hb⟩; obtain ⟨K1, K2, K3, HB⟩ := bk3 K1 K2 K3 HB hb; (try clear hb))); try go_wp2_with (first | (go_at_call 108; (with_reducible refine (impl_RestOk.calls _ _ _ _ A1.out).mono ?_); rintro e w4 ⟨rfl, hb⟩; obtain ⟨K1, K2, K3, HB⟩ := bk3 K1 K2 K3 HB hb; (try clear hb))))
   go_meet
   case rel => exact ⟨_, (true), ey, H', le0, ⟨Z K1⟩, ⟨Z K2⟩, ⟨Z K3⟩, ⟨YA HB⟩⟩
  subst c1
  rw [if_pos rfl] at H
  obtain ⟨t2, A2, H⟩ := bd H
  try dsimp only at H
  have H' := am H
  clear H
  have := ns2 N1 N3
  have := cB2 K1
  go_wp2_with (first | (go_at_call 108; (with_reducible refine (impl_RestOk.calls _ _ _ _ A1.out).mono ?_); rintro e w4 ⟨rfl, hb⟩; obtain ⟨K1, K2, K3, HB⟩ := bk3 K1 K2 K3 HB hb; (try clear hb); have := ns1 N5; have := cB2 K2) | (go_at_call 108; (with_reducible refine (impl_RestOk.calls _ _ _ _ A2.out).mono ?_); rintro e w5 ⟨rfl, hb⟩; obtain ⟨K1, K2, K3, HB⟩ := bk3 K1 K2 K3 HB hb; (try clear hb)))
  try have z1 := N5.out
  try have z2 := N6.out
  try have z3 := bc K2 0
  try have z4 := bc K2 1
  try have z5 := blk_frozen K2.out 0
  try have z6 := blk_frozen K2.out 1
  repeat (go_quiet (first | (go_at_call 108; (with_reducible refine (impl_RestOk.calls _ _ _ _ A1.out).mono ?_); rintro e w4 ⟨rfl, hb⟩; obtain ⟨K1, K2, K3, HB⟩ := bk3 K1 K2 K3 HB hb; (try clear hb); (try (have := ns1 N5; have := cB2 K2))) | (go_at_call 108; (with_reducible refine (impl_RestOk.calls _ _ _ _ A2.out).mono ?_); rintro e w5 ⟨rfl, hb⟩; obtain ⟨K1, K2, K3, HB⟩ := bk3 K1 K2 K3 HB hb; (try clear hb))); try go_wp2_with (first | (go_at_call 108; (with_reducible refine (impl_RestOk.calls _ _ _ _ A1.out).mono ?_); rintro e w4 ⟨rfl, hb⟩; obtain ⟨K1, K2, K3, HB⟩ := bk3 K1 K2 K3 HB hb; (try clear hb); (try (have := ns1 N5; have := cB2 K2))) | (go_at_call 108; (with_reducible refine (impl_RestOk.calls _ _ _ _ A2.out).mono ?_); rintro e w5 ⟨rfl, hb⟩; obtain ⟨K1, K2, K3, HB⟩ := bk3 K1 K2 K3 HB hb; (try clear hb))))
  go_meet
  case rel => exact ⟨_, (!t2), ey, H', le0, ⟨Z K1⟩, ⟨Z K2⟩, ⟨Z K3⟩, ⟨YA HB⟩⟩
 clear C1
 obtain ⟨kq, x1, rfl, HA, J1, K1, K2, K3, HB⟩ := hcut
 cases kq with
 | zero => exact absurd HA.out (by simp [impl_RestMeet.j0])
 | succ k1 => ?_
 have H := HA.out
 clear HA
 simp only [impl_RestMeet.j0] at H
 by_cases c1 : x1 = true
 ·subst c1
  rw [if_pos rfl] at H
  obtain ⟨rfl, rfl, rfl⟩ := sj3 H
  have := ns2 N4 N6
  have := cB2 K3
  go_wp2
  repeat (go_quiet (fail); try go_wp2)
  refine bodyPost_ret (results_ct rfl _ _ g3 86 #[.int .i64 0, .int .i64 0] (0, 0) _ rfl (by refine pf ?_; refine bp (ia2 0 0) ?_ 1; refine pf ?_; refine bp (ia2 0 0) ?_ 0; exact Z K3) Try.underlying86 rfl (by kernel_rfl)) rfl ?_
  exact ⟨ez, YA HB⟩
 replace c1 := Bool.eq_false_iff.mpr c1
 subst c1
 rw [if_neg ff] at H
 by_cases c2 : a0_0 = 0
 ·rw [if_pos c2] at H
  have d1 := eT c2
  have d2 := nF c2
  clear c2
  obtain ⟨t3, A1, H⟩ := bd H
  try dsimp only at H
  by_cases c3 : t3 = true
  rotate_left
  ·replace c3 := Bool.eq_false_iff.mpr c3
   subst c3
   rw [if_neg ff] at H
   obtain ⟨rfl, rfl, rfl⟩ := sj3 H
   have := ns3 N1 N3 N5
   have := cB2 K1
   have := cB2 K2
   go_wp2_with (first | (go_at_call 119; (with_reducible refine (impl_RestHas.calls _ _ _ _ _ _ A1.out).mono ?_); rintro e w4 ⟨rfl, hb⟩; obtain ⟨K1, K2, K3, HB⟩ := bk3 K1 K2 K3 HB hb; (try clear hb); have := cB2 K3))
   try have z1 := bc K3 0
   try have z2 := bc K3 1
   try have z3 := blk_frozen K3.out 0
   try have z4 := blk_frozen K3.out 1
   repeat (go_quiet (first | (go_at_call 119; (with_reducible refine (impl_RestHas.calls _ _ _ _ _ _ A1.out).mono ?_); rintro e w4 ⟨rfl, hb⟩; obtain ⟨K1, K2, K3, HB⟩ := bk3 K1 K2 K3 HB hb; (try clear hb); (try (have := cB2 K3)))); try go_wp2_with (first | (go_at_call 119; (with_reducible refine (impl_RestHas.calls _ _ _ _ _ _ A1.out).mono ?_); rintro e w4 ⟨rfl, hb⟩; obtain ⟨K1, K2, K3, HB⟩ := bk3 K1 K2 K3 HB hb; (try clear hb); (try (have := cB2 K3)))))
   refine bodyPost_ret (results_ct rfl _ _ g3 86 #[.int .i64 0, .int .i64 0] (0, 0) _ rfl (by refine pf ?_; refine bp (ia2 0 0) ?_ 1; refine pf ?_; refine bp (ia2 0 0) ?_ 0; exact Z K3) Try.underlying86 rfl (by kernel_rfl)) rfl ?_
   exact ⟨ez, YA HB⟩
  subst c3
  rw [if_pos rfl] at H
  obtain ⟨rfl, rfl, rfl⟩ := sj3 H
  have := ns3 N1 N3 N5
  have := cB2 K1
  have := cB2 K2
  go_wp2_with (first | (go_at_call 119; (with_reducible refine (impl_RestHas.calls _ _ _ _ _ _ A1.out).mono ?_); rintro e w4 ⟨rfl, hb⟩; obtain ⟨K1, K2, K3, HB⟩ := bk3 K1 K2 K3 HB hb; (try clear hb); have := cB2 K1; have := cB2 K3))
  try have z1 := bc K1 0
  try have z2 := bc K1 1
  try have z3 := blk_frozen K1.out 0
  try have z4 := blk_frozen K1.out 1
  try have z5 := bc K3 0
  try have z6 := bc K3 1
  try have z7 := blk_frozen K3.out 0
  try have z8 := blk_frozen K3.out 1
  repeat (go_quiet (first | (go_at_call 119; (with_reducible refine (impl_RestHas.calls _ _ _ _ _ _ A1.out).mono ?_); rintro e w4 ⟨rfl, hb⟩; obtain ⟨K1, K2, K3, HB⟩ := bk3 K1 K2 K3 HB hb; (try clear hb); (try (have := cB2 K1; have := cB2 K3)))); try go_wp2_with (first | (go_at_call 119; (with_reducible refine (impl_RestHas.calls _ _ _ _ _ _ A1.out).mono ?_); rintro e w4 ⟨rfl, hb⟩; obtain ⟨K1, K2, K3, HB⟩ := bk3 K1 K2 K3 HB hb; (try clear hb); (try (have := cB2 K1; have := cB2 K3)))))
  refine bodyPost_ret (results_ct rfl _ _ g3 86 #[.int .i64 a0_0, .int .i64 a0_1] (0, 0) _ rfl (by refine pf ?_; refine bp (ia2 a0_0 0) ?_ 1; refine pf ?_; refine bp (ia2 0 0) ?_ 0; exact Z K3) Try.underlying86 rfl (by kernel_rfl)) rfl ?_
  exact ⟨ez, YA HB⟩
 rw [if_neg c2] at H
 have d1 := eF c2
 have d2 := nT c2
 by_cases c3 : a1_0 = 0
 ·rw [if_pos c3] at H
  have d3 := eT c3
  have d4 := nF c3
  clear c3
  obtain ⟨t3, A1, H⟩ := bd H
  try dsimp only at H
  by_cases c4 : t3 = true
  rotate_left
  ·replace c4 := Bool.eq_false_iff.mpr c4
   subst c4
   rw [if_neg ff] at H
   obtain ⟨rfl, rfl, rfl⟩ := sj3 H
   have := ns3 N1 N3 N5
   have := cB2 K1
   have := cB2 K2
   go_wp2_with (first | (go_at_call 119; (with_reducible refine (impl_RestHas.calls _ _ _ _ _ _ A1.out).mono ?_); rintro e w4 ⟨rfl, hb⟩; obtain ⟨K1, K2, K3, HB⟩ := bk3 K1 K2 K3 HB hb; (try clear hb); have := cB2 K3))
   try have z1 := bc K3 0
   try have z2 := bc K3 1
   try have z3 := blk_frozen K3.out 0
   try have z4 := blk_frozen K3.out 1
   repeat (go_quiet (first | (go_at_call 119; (with_reducible refine (impl_RestHas.calls _ _ _ _ _ _ A1.out).mono ?_); rintro e w4 ⟨rfl, hb⟩; obtain ⟨K1, K2, K3, HB⟩ := bk3 K1 K2 K3 HB hb; (try clear hb); (try (have := cB2 K3)))); try go_wp2_with (first | (go_at_call 119; (with_reducible refine (impl_RestHas.calls _ _ _ _ _ _ A1.out).mono ?_); rintro e w4 ⟨rfl, hb⟩; obtain ⟨K1, K2, K3, HB⟩ := bk3 K1 K2 K3 HB hb; (try clear hb); (try (have := cB2 K3)))))
   refine bodyPost_ret (results_ct rfl _ _ g3 86 #[.int .i64 0, .int .i64 0] (0, 0) _ rfl (by refine pf ?_; refine bp (ia2 0 0) ?_ 1; refine pf ?_; refine bp (ia2 0 0) ?_ 0; exact Z K3) Try.underlying86 rfl (by kernel_rfl)) rfl ?_
   exact ⟨ez, YA HB⟩
  subst c4
  rw [if_pos rfl] at H
  obtain ⟨rfl, rfl, rfl⟩ := sj3 H
  have := ns3 N1 N3 N5
  have := cB2 K1
  have := cB2 K2
  go_wp2_with (first | (go_at_call 119; (with_reducible refine (impl_RestHas.calls _ _ _ _ _ _ A1.out).mono ?_); rintro e w4 ⟨rfl, hb⟩; obtain ⟨K1, K2, K3, HB⟩ := bk3 K1 K2 K3 HB hb; (try clear hb); have := cB2 K2; have := cB2 K3))
  try have z1 := bc K2 0
  try have z2 := bc K2 1
  try have z3 := blk_frozen K2.out 0
  try have z4 := blk_frozen K2.out 1
  try have z5 := bc K3 0
  try have z6 := bc K3 1
  try have z7 := blk_frozen K3.out 0
  try have z8 := blk_frozen K3.out 1
  repeat (go_quiet (first | (go_at_call 119; (with_reducible refine (impl_RestHas.calls _ _ _ _ _ _ A1.out).mono ?_); rintro e w4 ⟨rfl, hb⟩; obtain ⟨K1, K2, K3, HB⟩ := bk3 K1 K2 K3 HB hb; (try clear hb); (try (have := cB2 K2; have := cB2 K3)))); try go_wp2_with (first | (go_at_call 119; (with_reducible refine (impl_RestHas.calls _ _ _ _ _ _ A1.out).mono ?_); rintro e w4 ⟨rfl, hb⟩; obtain ⟨K1, K2, K3, HB⟩ := bk3 K1 K2 K3 HB hb; (try clear hb); (try (have := cB2 K2; have := cB2 K3)))))
  refine bodyPost_ret (results_ct rfl _ _ g3 86 #[.int .i64 a1_0, .int .i64 a1_1] (0, 0) _ rfl (by refine pf ?_; refine bp (ia2 a1_0 0) ?_ 1; refine pf ?_; refine bp (ia2 0 0) ?_ 0; exact Z K3) Try.underlying86 rfl (by kernel_rfl)) rfl ?_
  exact ⟨ez, YA HB⟩
 rw [if_neg c3] at H
 have d3 := eF c3
 have d4 := nT c3
 obtain ⟨y1, y2⟩ : ∃ y_ : List Int, y_ = (([a0_0, a1_0] : List Int)) := ⟨_, rfl⟩
 replace H : ((impl_restGcd.f k1 y1).bind fun t3 => (if t3 = 0 then (none) else (if (Int.tmod (wrap64 (a0_1 - a1_1)) t3) = 0 then (if a1_0 > a0_0 then (impl_RestMeet.j1 k1 t3 a1_0 a1_1 a0_0 a0_1) else (impl_RestMeet.j1 k1 t3 a0_0 a0_1 a1_0 a1_1)) else (some (0, 0, false))))) = some (r1, r2, r3) := by first | (rw [y2]; with_reducible exact H) | (have H2_ := (Option.bind_some _ _).symm.trans H; rw [y2]; with_reducible exact H2_) | (have H2_ := (Option.bind_some _ _).symm.trans H; with_reducible exact H2_) | with_reducible exact H | (rw [y2]; exact H) | exact H
 have Y25 := am y2
 clear y2
 obtain ⟨t3, A1, H⟩ := bd H
 try dsimp only at H
 by_cases c4 : t3 = 0
 ·rw [if_pos c4] at H
  exact absurd H (by simp)
 rw [if_neg c4] at H
 have d5 := eF c4
 have d6 := nT c4
 by_cases c5 : (Int.tmod (wrap64 (a0_1 - a1_1)) t3) = 0
 rotate_left
 ·rw [if_neg c5] at H
  have d7 := eF c5
  have d8 := nT c5
  obtain ⟨rfl, rfl, rfl⟩ := sj3 H
  have := ns3 N1 N3 N5
  have := cB2 K1
  have := cB2 K2
  go_wp2_with (first | ((with_reducible refine gate_dst (N := 40) rfl ?_); refine Kd.R_lit (Kd.int .i64) _ 3 ?hg (N := 40) ?hd (xs := ([a0_0, a1_0] : List Int)) (inner := [.int .i64 a0_0, .int .i64 a1_0]) (ok := fun _ => True) (okp := fun _ => True) ?hr ?hp (fun _ hk => hk) trivial (Below.refl _ _) (Nat.le_refl _) (by simp) ?_; (case hd => rfl); (case hg => rfl); (case hr => first | (go_simp; done) | (go_simp; rfl)); (case hp => exact (Reps.one (show Kd.M (Kd.int .i64) _ _ _ a0_0 [.int .i64 a0_0] from rfl) (Reps.one (show Kd.M (Kd.int .i64) _ _ _ a1_0 [.int .i64 a1_0] from rfl) (Reps.none _ _)))); intro v2 w4 o1 hb hg_ hnew_; clear hg_ hnew_; (first | rw [← Y25.out] at o1 | (simp only [Int.reduceToNat] at o1; rw [← Y25.out] at o1)); have O1 := am (Kd.R_lower o1 (below_size (YA HB))); obtain ⟨K1, K2, K3, HB⟩ := bk3 K1 K2 K3 HB hb; clear hb o1; obtain ⟨q1, f1, e1⟩ := Kd.R_slice O1.out; subst e1) | (go_at_call 113; (with_reducible refine (impl_restGcd.calls k1 _ _ y1 t3 _ ?side1 ?side2 A1.out).mono ?_); (case side1 => exact qs14); (case side2 => exact (Kd.R_reads' O1.out).2.1); rintro e w' ⟨rfl, ⟨nd, rfl⟩⟩; (try first | exact ⟨rfl, _, World.drewN_drewN _ _ _⟩ | exact ⟨rfl, _, Eq.trans (World.drewN_drewN _ _ _) (congrArg (World.drewN _) (Nat.add_assoc _ _ _))⟩); have := cB2 K1; have := cB2 K2; have := cB2 K3))
  try have z1 := bc K1 0
  try have z2 := bc K1 1
  try have z3 := blk_frozen K1.out 0
  try have z4 := blk_frozen K1.out 1
  try have z5 := bc K2 0
  try have z6 := bc K2 1
  try have z7 := blk_frozen K2.out 0
  try have z8 := blk_frozen K2.out 1
  try have z9 := bc K3 0
  try have z10 := bc K3 1
  try have z11 := blk_frozen K3.out 0
  try have z12 := blk_frozen K3.out 1
  repeat (go_quiet (first | ((with_reducible refine gate_dst (N := 40) rfl ?_); refine Kd.R_lit (Kd.int .i64) _ 3 ?hg (N := 40) ?hd (xs := ([a0_0, a1_0] : List Int)) (inner := [.int .i64 a0_0, .int .i64 a1_0]) (ok := fun _ => True) (okp := fun _ => True) ?hr ?hp (fun _ hk => hk) trivial (Below.refl _ _) (Nat.le_refl _) (by simp) ?_; (case hd => rfl); (case hg => rfl); (case hr => first | (go_simp; done) | (go_simp; rfl)); (case hp => exact (Reps.one (show Kd.M (Kd.int .i64) _ _ _ a0_0 [.int .i64 a0_0] from rfl) (Reps.one (show Kd.M (Kd.int .i64) _ _ _ a1_0 [.int .i64 a1_0] from rfl) (Reps.none _ _)))); intro v2 w4 o1 hb hg_ hnew_; clear hg_ hnew_; (first | rw [← Y25.out] at o1 | (simp only [Int.reduceToNat] at o1; rw [← Y25.out] at o1)); have O1 := am (Kd.R_lower o1 (below_size (YA HB))); obtain ⟨K1, K2, K3, HB⟩ := bk3 K1 K2 K3 HB hb; clear hb o1; obtain ⟨q1, f1, e1⟩ := Kd.R_slice O1.out; subst e1) | (go_at_call 113; (with_reducible refine (impl_restGcd.calls k1 _ _ y1 t3 _ ?side1 ?side2 A1.out).mono ?_); (case side1 => exact qs14); (case side2 => exact (Kd.R_reads' O1.out).2.1); rintro e w' ⟨rfl, ⟨nd, rfl⟩⟩; (try first | exact ⟨rfl, _, World.drewN_drewN _ _ _⟩ | exact ⟨rfl, _, Eq.trans (World.drewN_drewN _ _ _) (congrArg (World.drewN _) (Nat.add_assoc _ _ _))⟩); (try (have := cB2 K1; have := cB2 K2; have := cB2 K3)))); try go_wp2_with (first | ((with_reducible refine gate_dst (N := 40) rfl ?_); refine Kd.R_lit (Kd.int .i64) _ 3 ?hg (N := 40) ?hd (xs := ([a0_0, a1_0] : List Int)) (inner := [.int .i64 a0_0, .int .i64 a1_0]) (ok := fun _ => True) (okp := fun _ => True) ?hr ?hp (fun _ hk => hk) trivial (Below.refl _ _) (Nat.le_refl _) (by simp) ?_; (case hd => rfl); (case hg => rfl); (case hr => first | (go_simp; done) | (go_simp; rfl)); (case hp => exact (Reps.one (show Kd.M (Kd.int .i64) _ _ _ a0_0 [.int .i64 a0_0] from rfl) (Reps.one (show Kd.M (Kd.int .i64) _ _ _ a1_0 [.int .i64 a1_0] from rfl) (Reps.none _ _)))); intro v2 w4 o1 hb hg_ hnew_; clear hg_ hnew_; (first | rw [← Y25.out] at o1 | (simp only [Int.reduceToNat] at o1; rw [← Y25.out] at o1)); have O1 := am (Kd.R_lower o1 (below_size (YA HB))); obtain ⟨K1, K2, K3, HB⟩ := bk3 K1 K2 K3 HB hb; clear hb o1; obtain ⟨q1, f1, e1⟩ := Kd.R_slice O1.out; subst e1) | (go_at_call 113; (with_reducible refine (impl_restGcd.calls k1 _ _ y1 t3 _ ?side1 ?side2 A1.out).mono ?_); (case side1 => exact qs14); (case side2 => exact (Kd.R_reads' O1.out).2.1); rintro e w' ⟨rfl, ⟨nd, rfl⟩⟩; (try first | exact ⟨rfl, _, World.drewN_drewN _ _ _⟩ | exact ⟨rfl, _, Eq.trans (World.drewN_drewN _ _ _) (congrArg (World.drewN _) (Nat.add_assoc _ _ _))⟩); (try (have := cB2 K1; have := cB2 K2; have := cB2 K3)))))
  refine bodyPost_ret (results_ct rfl _ _ g3 86 #[.int .i64 0, .int .i64 0] (0, 0) _ rfl (by refine pf ?_; refine bp (ia2 0 0) ?_ 1; refine pf ?_; refine bp (ia2 0 0) ?_ 0; exact Z K3) Try.underlying86 rfl (by kernel_rfl)) rfl ?_
  exact ⟨ez, YA HB⟩
 rw [if_pos c5] at H
 have d7 := eT c5
 have d8 := nF c5
 clear c5
 have C2 := am H
 clear H
 have := ns3 N1 N3 N5
 have := cB2 K1
 have := cB2 K2
 go_upto_if 55 with (first | ((with_reducible refine gate_dst (N := 40) rfl ?_); refine Kd.R_lit (Kd.int .i64) _ 3 ?hg (N := 40) ?hd (xs := ([a0_0, a1_0] : List Int)) (inner := [.int .i64 a0_0, .int .i64 a1_0]) (ok := fun _ => True) (okp := fun _ => True) ?hr ?hp (fun _ hk => hk) trivial (Below.refl _ _) (Nat.le_refl _) (by simp) ?_; (case hd => rfl); (case hg => rfl); (case hr => first | (go_simp; done) | (go_simp; rfl)); (case hp => exact (Reps.one (show Kd.M (Kd.int .i64) _ _ _ a0_0 [.int .i64 a0_0] from rfl) (Reps.one (show Kd.M (Kd.int .i64) _ _ _ a1_0 [.int .i64 a1_0] from rfl) (Reps.none _ _)))); intro v2 w4 o1 hb hg_ hnew_; clear hg_ hnew_; (first | rw [← Y25.out] at o1 | (simp only [Int.reduceToNat] at o1; rw [← Y25.out] at o1)); have O1 := am (Kd.R_lower o1 (below_size (YA HB))); obtain ⟨K1, K2, K3, HB⟩ := bk3 K1 K2 K3 HB hb; clear hb o1; obtain ⟨q1, f1, e1⟩ := Kd.R_slice O1.out; subst e1) | (go_at_call 113; (with_reducible refine (impl_restGcd.calls k1 _ _ y1 t3 _ ?side1 ?side2 A1.out).mono ?_); (case side1 => exact qs14); (case side2 => exact (Kd.R_reads' O1.out).2.1); rintro e w' ⟨rfl, ⟨nd, rfl⟩⟩; (try first | exact ⟨rfl, _, World.drewN_drewN _ _ _⟩ | exact ⟨rfl, _, Eq.trans (World.drewN_drewN _ _ _) (congrArg (World.drewN _) (Nat.add_assoc _ _ _))⟩); have := cB2 K1; have := cB2 K2))
 try have z1 := bc K1 0
 try have z2 := bc K1 1
 try have z3 := blk_frozen K1.out 0
 try have z4 := blk_frozen K1.out 1
 try have z5 := bc K2 0
 try have z6 := bc K2 1
 try have z7 := blk_frozen K2.out 0
 try have z8 := blk_frozen K2.out 1
 repeat (go_quiet (first | ((with_reducible refine gate_dst (N := 40) rfl ?_); refine Kd.R_lit (Kd.int .i64) _ 3 ?hg (N := 40) ?hd (xs := ([a0_0, a1_0] : List Int)) (inner := [.int .i64 a0_0, .int .i64 a1_0]) (ok := fun _ => True) (okp := fun _ => True) ?hr ?hp (fun _ hk => hk) trivial (Below.refl _ _) (Nat.le_refl _) (by simp) ?_; (case hd => rfl); (case hg => rfl); (case hr => first | (go_simp; done) | (go_simp; rfl)); (case hp => exact (Reps.one (show Kd.M (Kd.int .i64) _ _ _ a0_0 [.int .i64 a0_0] from rfl) (Reps.one (show Kd.M (Kd.int .i64) _ _ _ a1_0 [.int .i64 a1_0] from rfl) (Reps.none _ _)))); intro v2 w4 o1 hb hg_ hnew_; clear hg_ hnew_; (first | rw [← Y25.out] at o1 | (simp only [Int.reduceToNat] at o1; rw [← Y25.out] at o1)); have O1 := am (Kd.R_lower o1 (below_size (YA HB))); obtain ⟨K1, K2, K3, HB⟩ := bk3 K1 K2 K3 HB hb; clear hb o1; obtain ⟨q1, f1, e1⟩ := Kd.R_slice O1.out; subst e1) | (go_at_call 113; (with_reducible refine (impl_restGcd.calls k1 _ _ y1 t3 _ ?side1 ?side2 A1.out).mono ?_); (case side1 => exact qs14); (case side2 => exact (Kd.R_reads' O1.out).2.1); rintro e w' ⟨rfl, ⟨nd, rfl⟩⟩; (try first | exact ⟨rfl, _, World.drewN_drewN _ _ _⟩ | exact ⟨rfl, _, Eq.trans (World.drewN_drewN _ _ _) (congrArg (World.drewN _) (Nat.add_assoc _ _ _))⟩); (try (have := cB2 K1; have := cB2 K2)))); go_upto_if 55 with (first | ((with_reducible refine gate_dst (N := 40) rfl ?_); refine Kd.R_lit (Kd.int .i64) _ 3 ?hg (N := 40) ?hd (xs := ([a0_0, a1_0] : List Int)) (inner := [.int .i64 a0_0, .int .i64 a1_0]) (ok := fun _ => True) (okp := fun _ => True) ?hr ?hp (fun _ hk => hk) trivial (Below.refl _ _) (Nat.le_refl _) (by simp) ?_; (case hd => rfl); (case hg => rfl); (case hr => first | (go_simp; done) | (go_simp; rfl)); (case hp => exact (Reps.one (show Kd.M (Kd.int .i64) _ _ _ a0_0 [.int .i64 a0_0] from rfl) (Reps.one (show Kd.M (Kd.int .i64) _ _ _ a1_0 [.int .i64 a1_0] from rfl) (Reps.none _ _)))); intro v2 w4 o1 hb hg_ hnew_; clear hg_ hnew_; (first | rw [← Y25.out] at o1 | (simp only [Int.reduceToNat] at o1; rw [← Y25.out] at o1)); have O1 := am (Kd.R_lower o1 (below_size (YA HB))); obtain ⟨K1, K2, K3, HB⟩ := bk3 K1 K2 K3 HB hb; clear hb o1; obtain ⟨q1, f1, e1⟩ := Kd.R_slice O1.out; subst e1) | (go_at_call 113; (with_reducible refine (impl_restGcd.calls k1 _ _ y1 t3 _ ?side1 ?side2 A1.out).mono ?_); (case side1 => exact qs14); (case side2 => exact (Kd.R_reads' O1.out).2.1); rintro e w' ⟨rfl, ⟨nd, rfl⟩⟩; (try first | exact ⟨rfl, _, World.drewN_drewN _ _ _⟩ | exact ⟨rfl, _, Eq.trans (World.drewN_drewN _ _ _) (congrArg (World.drewN _) (Nat.add_assoc _ _ _))⟩); (try (have := cB2 K1; have := cB2 K2)))))
 (try simp only [Act.put, List.setIfInBounds_toArray, List.set_cons_zero, List.set_cons_succ])
 go_cut [] (fun wc => ∃ (kq : Nat) (x2 : Int) (x3 : Int) (x4 : Int) (x5 : Int), Aside0 (impl_RestMeet.j1 kq t3 x2 x3 x4 x5 = some (r1, r2, r3)) ∧ Aside0 (kq ≤ k1) ∧ Bx2 wc g1 x2 x3 86 ∧ Bx2 wc g2 x4 x5 86 ∧ Bx2 wc g3 0 0 86 ∧ Aside0 (Below w.heap.size w wc))
 case first =>
  have H := C2.out
  clear C2
  by_cases c6 : a1_0 > a0_0
  rotate_left
  ·rw [if_neg c6] at H
   have d9 := dF c6
   clear c6
   (first | rw [d9] | (simp only [i64_w, i32_w]; rw [d9]) | skip)
   have H' := am H
   clear H
   go_wp2
   repeat (go_quiet (fail); try go_wp2)
   go_meet
   case rel => exact ⟨_, (a0_0), (a0_1), (a1_0), (a1_1), H', le1 J1, ⟨Z K1⟩, ⟨Z K2⟩, ⟨Z K3⟩, ⟨YA HB⟩⟩
  rw [if_pos c6] at H
  have d9 := dT c6
  clear c6
  (first | rw [d9] | (simp only [i64_w, i32_w]; rw [d9]) | skip)
  have H' := am H
  clear H
  have := ns3 N2 N5 N3
  have := cB2 K2
  have := cB2 K1
  go_wp2
  repeat (go_quiet (fail); try go_wp2)
  go_meet
  case rel => exact ⟨_, (a1_0), (a1_1), (a0_0), (a0_1), H', le1 J1, ⟨by refine fa N1 ?_; refine fa N1 ?_; refine pf ?_; refine bp (ia2 a1_0 a0_1) ?_ 1; refine pf ?_; refine bp (ia2 a0_0 a0_1) ?_ 0; exact Z K1⟩, ⟨by refine pf ?_; refine bp (ia2 a0_0 a1_1) ?_ 1; refine pf ?_; refine bp (ia2 a1_0 a1_1) ?_ 0; refine fa N2 ?_; refine fa N2 ?_; exact Z K2⟩, ⟨ft2 N6 N4 K3⟩, ⟨YA HB⟩⟩
 clear C2
 (try clear c1);(try clear c2);(try clear d1);(try clear d2);(try clear c3);(try clear d3);(try clear d4);(try clear c4);(try clear d5);(try clear d6);(try clear d7);(try clear d8)
 obtain ⟨kq, x2, x3, x4, x5, HA, J2, K1, K2, K3, HB⟩ := hcut
 cases kq with
 | zero => exact absurd HA.out (by simp [impl_RestMeet.j1])
 | succ k2 => ?_
 have H := HA.out
 clear HA
 simp only [impl_RestMeet.j1] at H
 by_cases c6 : t3 = 0
 ·rw [if_pos c6] at H
  exact absurd H (by simp)
 rw [if_neg c6] at H
 have d9 := eF c6
 have d10 := nT c6
 by_cases c7 : (wrap64 ((wrap64 (Int.tdiv x2 t3)) * x4)) > 65536
 ·rw [if_pos c7] at H
  have d11 := dT c7
  clear c7
  obtain ⟨rfl, rfl, rfl⟩ := sj3 H
  have := ns3 N1 N3 N5
  have := cB2 K1
  have := cB2 K2
  have := cB2 K3
  go_wp2
  repeat (go_quiet (fail); try go_wp2)
  refine bodyPost_ret (results_ct rfl _ _ g3 86 #[.int .i64 x2, .int .i64 x3] (0, 0) _ rfl (by refine pf ?_; refine bp (ia2 x2 0) ?_ 1; refine pf ?_; refine bp (ia2 0 0) ?_ 0; exact Z K3) Try.underlying86 rfl (by kernel_rfl)) rfl ?_
  exact ⟨ez, YA HB⟩
 rw [if_neg c7] at H
 have d11 := dF c7
 clear c7
 have H' := am H
 clear H
 have := ns3 N1 N3 N5
 have := cB2 K1
 have := cB2 K2
 go_wp2
 repeat (go_quiet (fail); try go_wp2)
 go_loopg [8] k2 (fun kq v3 w' => ∃ (x6 : Int), v3 = .int .i64 x6 ∧ Aside0 (impl_RestMeet.l0 kq (wrap64 ((wrap64 (Int.tdiv x2 t3)) * x4)) x6 x2 x3 x4 x5 = some (r1, r2, r3)) ∧ Aside0 (kq ≤ k2) ∧ Aside0 (w'.heap[g1]? = some (.cells #[.int .i64 x2, .int .i64 x3] 86 (0, 0))) ∧ Aside0 (w'.heap[g2]? = some (.cells #[.int .i64 x4, .int .i64 x5] 86 (0, 0))) ∧ Aside0 (w'.heap[g3]? = some (.cells #[.int .i64 0, .int .i64 0] 86 (0, 0))) ∧ Aside0 (Below w.heap.size w w'))
 case atStart => exact ⟨(x3), ey, H', ⟨Nat.le_refl _⟩, ⟨Z K1⟩, ⟨Z K2⟩, ⟨Z K3⟩, ⟨YA HB⟩⟩
 case round =>
  clear H'
  (try clear c6);(try clear d9);(try clear d10);(try clear d11)
  obtain ⟨x6, rfl, HA, HK3, K1, K2, K3, HB⟩ := hrel
  cases gk with
  | zero => exact absurd HA.out (by simp [impl_RestMeet.l0])
  | succ k3 => ?_
  have H := HA.out
  clear HA
  simp only [impl_RestMeet.l0] at H
  obtain ⟨t4, A2, H⟩ := bd H
  try dsimp only at H
  by_cases c8 : t4 = x5
  rotate_left
  ·rw [if_neg c8] at H
   have d12 := eF c8
   have d13 := nT c8
   have H' := am H
   clear H
   have := ns2 N2 N5
   have := cB2 K2
   go_wp2_with (first | (go_at_call 110; (with_reducible refine (impl_restMod.calls _ _ _ _ A2.out).mono ?_); rintro e w' ⟨rfl, ⟨nd, rfl⟩⟩; (try first | exact ⟨rfl, _, World.drewN_drewN _ _ _⟩ | exact ⟨rfl, _, Eq.trans (World.drewN_drewN _ _ _) (congrArg (World.drewN _) (Nat.add_assoc _ _ _))⟩); have := ns1 N3; have := cB2 K1))
   try have z9 := N3.out
   try have z10 := N4.out
   try have z11 := bc K1 0
   try have z12 := bc K1 1
   try have z13 := blk_frozen K1.out 0
   try have z14 := blk_frozen K1.out 1
   repeat (go_quiet (first | (go_at_call 110; (with_reducible refine (impl_restMod.calls _ _ _ _ A2.out).mono ?_); rintro e w' ⟨rfl, ⟨nd, rfl⟩⟩; (try first | exact ⟨rfl, _, World.drewN_drewN _ _ _⟩ | exact ⟨rfl, _, Eq.trans (World.drewN_drewN _ _ _) (congrArg (World.drewN _) (Nat.add_assoc _ _ _))⟩); (try (have := ns1 N3; have := cB2 K1)))); try go_wp2_with (first | (go_at_call 110; (with_reducible refine (impl_restMod.calls _ _ _ _ A2.out).mono ?_); rintro e w' ⟨rfl, ⟨nd, rfl⟩⟩; (try first | exact ⟨rfl, _, World.drewN_drewN _ _ _⟩ | exact ⟨rfl, _, Eq.trans (World.drewN_drewN _ _ _) (congrArg (World.drewN _) (Nat.add_assoc _ _ _))⟩); (try (have := ns1 N3; have := cB2 K1)))))
   go_roundg k3
   case measure => have := J1.out; have := J2.out; have := HK3.out; omega
   case rel => exact ⟨(wrap64 (x6 + x2)), ey, H', ⟨by have := J1.out; have := J2.out; have := HK3.out; omega⟩, ⟨Z K1⟩, ⟨Z K2⟩, ⟨Z K3⟩, ⟨YA HB⟩⟩
  rw [if_pos c8] at H
  have d12 := eT c8
  have d13 := nF c8
  clear c8
  obtain ⟨rfl, rfl, rfl⟩ := sj3 H
  have := ns2 N2 N5
  have := cB2 K2
  go_wp2_with (first | (go_at_call 110; (with_reducible refine (impl_restMod.calls _ _ _ _ A2.out).mono ?_); rintro e w' ⟨rfl, ⟨nd, rfl⟩⟩; (try first | exact ⟨rfl, _, World.drewN_drewN _ _ _⟩ | exact ⟨rfl, _, Eq.trans (World.drewN_drewN _ _ _) (congrArg (World.drewN _) (Nat.add_assoc _ _ _))⟩); have := ns1 N4; have := cB2 K3))
  try have z9 := N4.out
  try have z10 := N3.out
  try have z11 := bc K3 0
  try have z12 := bc K3 1
  try have z13 := blk_frozen K3.out 0
  try have z14 := blk_frozen K3.out 1
  repeat (go_quiet (first | (go_at_call 110; (with_reducible refine (impl_restMod.calls _ _ _ _ A2.out).mono ?_); rintro e w' ⟨rfl, ⟨nd, rfl⟩⟩; (try first | exact ⟨rfl, _, World.drewN_drewN _ _ _⟩ | exact ⟨rfl, _, Eq.trans (World.drewN_drewN _ _ _) (congrArg (World.drewN _) (Nat.add_assoc _ _ _))⟩); (try (have := ns1 N4; have := cB2 K3)))); try go_wp2_with (first | (go_at_call 110; (with_reducible refine (impl_restMod.calls _ _ _ _ A2.out).mono ?_); rintro e w' ⟨rfl, ⟨nd, rfl⟩⟩; (try first | exact ⟨rfl, _, World.drewN_drewN _ _ _⟩ | exact ⟨rfl, _, Eq.trans (World.drewN_drewN _ _ _) (congrArg (World.drewN _) (Nat.add_assoc _ _ _))⟩); (try (have := ns1 N4; have := cB2 K3)))))
  refine bodyPost_ret (results_ct rfl _ _ g3 86 #[.int .i64 (wrap64 ((wrap64 (Int.tdiv x2 t3)) * x4)), .int .i64 x6] (0, 0) _ rfl (by refine pf ?_; refine blk_put (cs := #[.int .i64 (wrap64 ((wrap64 (Int.tdiv x2 t3)) * x4)), .int .i64 0]) ?_ 1 _ rfl; refine pf ?_; refine bp (ia2 0 0) ?_ 0; exact Z K3) Try.underlying86 rfl (by kernel_rfl)) rfl ?_
  exact ⟨ez, YA HB⟩
end
section
attribute [local go_sem] max2_int min2_int max_two min_two max_three min_three max_four min_four
attribute [local go_sem] Go.Proofs.YthbkakcchgnhpaaSet.isSome_setCell
def impl_ValMeet.j0 : Nat → Bool → Int → Int → Int → Int → Int → Int → Int → Int → Option (Int × Int × Int × Int)
 | 0, _, _, _, _, _, _, _, _, _ => none
 | k + 1, x1, x2, x3, x4, x5, x6, x7, x8, x9 => if x1 = true then ((impl_valNone.f).bind fun u1 => (some (u1.1, u1.2.1, u1.2.2.1, u1.2.2.2))) else ((impl_Val_rest.f x2 x3 x4 x5).bind fun u2 => ((impl_Val_rest.f x6 x7 x8 x9).bind fun u3 => ((impl_RestMeet.f k u2.1 u2.2 u3.1 u3.2).bind fun u4 => (if u4.2.2 = true then ((impl_Val_span.f x2 x3 x4 x5).bind fun u5 => ((impl_Val_span.f x6 x7 x8 x9).bind fun u6 => ((impl_RangeMeet.f k u5.1 u5.2 u6.1 u6.2).bind fun u7 => ((impl_ValMake.f k u7.1 u7.2 u4.1 u4.2.1).bind fun u8 => (some (u8.1, u8.2.1, u8.2.2.1, u8.2.2.2)))))) else ((impl_valNone.f).bind fun u9 => (some (u9.1, u9.2.1, u9.2.2.1, u9.2.2.2)))))))
def impl_ValMeet.f (k : Nat) (a0_0 : Int) (a0_1 : Int) (a0_2 : Int) (a0_3 : Int) (a1_0 : Int) (a1_1 : Int) (a1_2 : Int) (a1_3 : Int) : Option (Int × Int × Int × Int) := (impl_ValOk.f k a0_0 a0_1 a0_2 a0_3).bind fun t1 => (if t1 = true then ((impl_ValOk.f k a1_0 a1_1 a1_2 a1_3).bind fun t2 => (if t2 = true then ((impl_Val_none.f a0_0 a0_1 a0_2 a0_3).bind fun t3 => (if t3 = true then (impl_ValMeet.j0 k true a0_0 a0_1 a0_2 a0_3 a1_0 a1_1 a1_2 a1_3) else ((impl_Val_none.f a1_0 a1_1 a1_2 a1_3).bind fun t4 => (impl_ValMeet.j0 k t4 a0_0 a0_1 a0_2 a0_3 a1_0 a1_1 a1_2 a1_3)))) else (impl_ValMeet.j0 k true a0_0 a0_1 a0_2 a0_3 a1_0 a1_1 a1_2 a1_3))) else (impl_ValMeet.j0 k true a0_0 a0_1 a0_2 a0_3 a1_0 a1_1 a1_2 a1_3))
theorem impl_ValMeet.mono_l : ∀ k, (∀ y0 y1 y2 y3 y4 y5 y6 y7 y8, LeO (impl_ValMeet.j0 k y0 y1 y2 y3 y4 y5 y6 y7 y8) (impl_ValMeet.j0 (k + 1) y0 y1 y2 y3 y4 y5 y6 y7 y8))
 | 0 => fun _ _ _ _ _ _ _ _ _ r h => by simp [impl_ValMeet.j0] at h
 | k + 1 => by
  have ih0 := impl_ValMeet.mono_l k
  ·intro y0 y1 y2 y3 y4 y5 y6 y7 y8
   unfold impl_ValMeet.j0
   repeat' first | (with_reducible first | apply ih0 | apply impl_RangeMeet.mono | apply impl_RestMeet.mono | apply impl_ValMake.mono | apply impl_ValOk.mono | apply LeO.refl | apply LeO.none | refine LeO.ite ?_ ?_ | refine LeO.bind ?_ (fun _ => ?_)) | apply ih0 | apply impl_RangeMeet.mono | apply impl_RestMeet.mono | apply impl_ValMake.mono | apply impl_ValOk.mono | apply LeO.none | refine LeO.ite ?_ ?_ | refine LeO.bind ?_ (fun _ => ?_)
theorem impl_ValMeet.mono : ∀ a0 a1 a2 a3 a4 a5 a6 a7 k, LeO (impl_ValMeet.f k a0 a1 a2 a3 a4 a5 a6 a7) (impl_ValMeet.f (k + 1) a0 a1 a2 a3 a4 a5 a6 a7) := by
 intro a0 a1 a2 a3 a4 a5 a6 a7 k
 have ih0 := impl_ValMeet.mono_l k
 unfold impl_ValMeet.f
 repeat' first | (with_reducible first | apply ih0 | apply impl_RangeMeet.mono | apply impl_RestMeet.mono | apply impl_ValMake.mono | apply impl_ValOk.mono | apply LeO.refl | apply LeO.none | refine LeO.ite ?_ ?_ | refine LeO.bind ?_ (fun _ => ?_)) | apply ih0 | apply impl_RangeMeet.mono | apply impl_RestMeet.mono | apply impl_ValMake.mono | apply impl_ValOk.mono | apply LeO.none | refine LeO.ite ?_ ?_ | refine LeO.bind ?_ (fun _ => ?_)
def impl_ValMeet.T3 : Bool × List (List Nat × List Nat) := (true, [([], []), ([0], [0]), ([], []), ([2, 1], [2]), ([1, 3, 3], [1, 3]), ([4], [4]), ([5], [5]), ([5], [5]), ([], []), ([8, 6, 4, 0, 1, 2, 3, 4, 5, 6, 8], [6, 8]), ([7, 9, 0, 1, 2, 3, 4, 5, 6, 7, 8, 9], [7])])
def impl_ValMeet.B3 : List Nat := [0, 1, 0, 7, 15, 31, 63, 63, 0, 383, 1023]
theorem impl_ValMeet.tab3 : rtab .any (opsOf Try.f88 3) = impl_ValMeet.T3 := by kernel_rfl
theorem impl_ValMeet.bits3 : waitsOk impl_ValMeet.T3.2 impl_ValMeet.B3 = true := by kernel_rfl
def impl_ValMeet.T6 : Bool × List (List Nat × List Nat) := (true, [([], []), ([0], [0]), ([], []), ([2, 1], [2]), ([1, 3, 3], [1, 3]), ([], []), ([4, 5, 4], [4, 5]), ([6, 6, 0, 1, 2, 3, 4, 5, 6], [6])])
def impl_ValMeet.B6 : List Nat := [0, 1, 0, 7, 15, 0, 63, 127]
theorem impl_ValMeet.tab6 : rtab .any (opsOf Try.f88 6) = impl_ValMeet.T6 := by kernel_rfl
theorem impl_ValMeet.bits6 : waitsOk impl_ValMeet.T6.2 impl_ValMeet.B6 = true := by kernel_rfl
set_option maxHeartbeats 8000000 in
set_option maxRecDepth 100000 in
theorem impl_ValMeet.calls (k : Nat) (a0_0 : Int) (a0_1 : Int) (a0_2 : Int) (a0_3 : Int) (a1_0 : Int) (a1_1 : Int) (a1_2 : Int) (a1_3 : Int) (r1 : Int) (r2 : Int) (r3 : Int) (r4 : Int) (w : World) (h : impl_ValMeet.f k a0_0 a0_1 a0_2 a0_3 a1_0 a1_1 a1_2 a1_3 = some (r1, r2, r3, r4)) :
  Calls Try.prog 88 #[.agg #[.int .i64 a0_0, .int .i64 a0_1, .int .i64 a0_2, .int .i64 a0_3], .agg #[.int .i64 a1_0, .int .i64 a1_1, .int .i64 a1_2, .int .i64 a1_3]] w fun e w' => e = .returned (.agg #[.int .i64 r1, .int .i64 r2, .int .i64 r3, .int .i64 r4]) ∧ Below w.heap.size w w' := by
 have hu50 := Try.underlying50
 have hu86 := Try.underlying86
 have HB := am (Below.refl w.heap.size w)
 have H : ((impl_ValOk.f k a0_0 a0_1 a0_2 a0_3).bind fun t1 => (if t1 = true then ((impl_ValOk.f k a1_0 a1_1 a1_2 a1_3).bind fun t2 => (if t2 = true then ((impl_Val_none.f a0_0 a0_1 a0_2 a0_3).bind fun t3 => (if t3 = true then (impl_ValMeet.j0 k true a0_0 a0_1 a0_2 a0_3 a1_0 a1_1 a1_2 a1_3) else ((impl_Val_none.f a1_0 a1_1 a1_2 a1_3).bind fun t4 => (impl_ValMeet.j0 k t4 a0_0 a0_1 a0_2 a0_3 a1_0 a1_1 a1_2 a1_3)))) else (impl_ValMeet.j0 k true a0_0 a0_1 a0_2 a0_3 a1_0 a1_1 a1_2 a1_3))) else (impl_ValMeet.j0 k true a0_0 a0_1 a0_2 a0_3 a1_0 a1_1 a1_2 a1_3))) = some (r1, r2, r3, r4) := h
 clear h
 have C1 := am H
 clear H
 go_enter Try.func88, Try.ntmps88
 go_upto_region 1 with (first | ((with_reducible refine gate_dst (N := 2) rfl ?_); refine bxn 2 #[.int .i64 a0_0, .int .i64 a0_1, .int .i64 a0_2, .int .i64 a0_3] 50 HB fun g1 w2 K1 G1 hg hb => ?_; replace HB := am (below_step (YA HB) hb); clear hb hg) | ((with_reducible refine gate_dst (N := 3) rfl ?_); refine bxn 3 #[.int .i64 a1_0, .int .i64 a1_1, .int .i64 a1_2, .int .i64 a1_3] 50 HB fun g2 w3 K2 G2 hg hb => ?_; obtain ⟨N1,N2⟩ := ne_ hg K1; obtain ⟨K1, HB⟩ := bk1 K1 HB hb; clear hb hg) | ((with_reducible refine gate_dst (N := 4) rfl ?_); refine bxn 4 #[.int .i64 0, .int .i64 0, .int .i64 0, .int .i64 0] 50 HB fun g3 w4 K3 G3 hg hb => ?_; obtain ⟨N3,N4⟩ := ne_ hg K1; obtain ⟨N5,N6⟩ := ne_ hg K2; obtain ⟨K1, K2, HB⟩ := bk2 K1 K2 HB hb; clear hb hg))
 (try simp only [Act.put, List.setIfInBounds_toArray, List.set_cons_zero, List.set_cons_succ])
 go_cut [22] (fun v1 wc => ∃ (kq : Nat) (x1 : Bool), v1 = .bool x1 ∧ Aside0 (impl_ValMeet.j0 kq x1 a0_0 a0_1 a0_2 a0_3 a1_0 a1_1 a1_2 a1_3 = some (r1, r2, r3, r4)) ∧ Aside0 (kq ≤ k) ∧ Bx4 wc g1 a0_0 a0_1 a0_2 a0_3 50 ∧ Bx4 wc g2 a1_0 a1_1 a1_2 a1_3 50 ∧ Bx4 wc g3 0 0 0 0 50 ∧ Aside0 (Below w.heap.size w wc))
 case first =>
  have H := C1.out
  clear C1
  obtain ⟨t1, A1, H⟩ := bd H
  try dsimp only at H
  by_cases c1 : t1 = true
  rotate_left
  ·replace c1 := Bool.eq_false_iff.mpr c1
   subst c1
   rw [if_neg ff] at H
   have H' := am H
   clear H
   have := ns2 N1 N3
   have := cB4 K1
   go_wp2_with (first | ((with_reducible refine gate_callee (f := 76) rfl ?_); refine gL 8 Try.func76 (impl_ValOk.calls _ _ _ _ _ _ _ A1.out) fun w5 hb => ?_; obtain ⟨K1, K2, K3, HB⟩ := bk3 K1 K2 K3 HB hb; (try clear hb)))
   go_meet
   case rel => exact ⟨_, (true), ey, H', le0, ⟨Z K1⟩, ⟨Z K2⟩, ⟨Z K3⟩, ⟨YA HB⟩⟩
  subst c1
  rw [if_pos rfl] at H
  obtain ⟨t2, A2, H⟩ := bd H
  try dsimp only at H
  by_cases c2 : t2 = true
  rotate_left
  ·replace c2 := Bool.eq_false_iff.mpr c2
   subst c2
   rw [if_neg ff] at H
   have H' := am H
   clear H
   have := ns2 N1 N3
   have := cB4 K1
   go_wp2_with (first | ((with_reducible refine gate_callee (f := 76) rfl ?_); refine gL 8 Try.func76 (impl_ValOk.calls _ _ _ _ _ _ _ A1.out) fun w5 hb => ?_; obtain ⟨K1, K2, K3, HB⟩ := bk3 K1 K2 K3 HB hb; (try clear hb); have := ns1 N5; have := cB4 K2) | (go_at_call 76; (with_reducible refine (impl_ValOk.calls _ _ _ _ _ _ _ A2.out).mono ?_); rintro e w6 ⟨rfl, hb⟩; obtain ⟨K1, K2, K3, HB⟩ := bk3 K1 K2 K3 HB hb; (try clear hb)))
   go_meet
   case rel => exact ⟨_, (true), ey, H', le0, ⟨Z K1⟩, ⟨Z K2⟩, ⟨Z K3⟩, ⟨YA HB⟩⟩
  subst c2
  rw [if_pos rfl] at H
  obtain ⟨t3, A3, H⟩ := bd H
  try dsimp only at H
  by_cases c3 : t3 = true
  ·subst c3
   rw [if_pos rfl] at H
   have H' := am H
   clear H
   have := ns2 N1 N3
   have := cB4 K1
   go_wp2_with (first | ((with_reducible refine gate_callee (f := 76) rfl ?_); refine gL 8 Try.func76 (impl_ValOk.calls _ _ _ _ _ _ _ A1.out) fun w5 hb => ?_; obtain ⟨K1, K2, K3, HB⟩ := bk3 K1 K2 K3 HB hb; (try clear hb); have := ns1 N5; have := cB4 K2) | (go_at_call 76; (with_reducible refine (impl_ValOk.calls _ _ _ _ _ _ _ A2.out).mono ?_); rintro e w6 ⟨rfl, hb⟩; obtain ⟨K1, K2, K3, HB⟩ := bk3 K1 K2 K3 HB hb; (try clear hb); have := cB4 K1) | (go_at_call 77; (with_reducible refine (impl_Val_none.calls _ _ _ _ _ _ A3.out).mono ?_); rintro e w7 ⟨rfl, hb⟩; obtain ⟨K1, K2, K3, HB⟩ := bk3 K1 K2 K3 HB hb; (try clear hb)))
   go_meet
   case rel => exact ⟨_, (true), ey, H', le0, ⟨Z K1⟩, ⟨Z K2⟩, ⟨Z K3⟩, ⟨YA HB⟩⟩
  replace c3 := Bool.eq_false_iff.mpr c3
  subst c3
  rw [if_neg ff] at H
  obtain ⟨t4, A4, H⟩ := bd H
  try dsimp only at H
  have H' := am H
  clear H
  have := ns2 N1 N3
  have := cB4 K1
  go_wp2_with (first | ((with_reducible refine gate_callee (f := 76) rfl ?_); refine gL 8 Try.func76 (impl_ValOk.calls _ _ _ _ _ _ _ A1.out) fun w5 hb => ?_; obtain ⟨K1, K2, K3, HB⟩ := bk3 K1 K2 K3 HB hb; (try clear hb); have := ns1 N5; have := cB4 K2) | (go_at_call 76; (with_reducible refine (impl_ValOk.calls _ _ _ _ _ _ _ A2.out).mono ?_); rintro e w6 ⟨rfl, hb⟩; obtain ⟨K1, K2, K3, HB⟩ := bk3 K1 K2 K3 HB hb; (try clear hb); have := cB4 K1) | (go_at_call 77; (with_reducible refine (impl_Val_none.calls _ _ _ _ _ _ A3.out).mono ?_); rintro e w7 ⟨rfl, hb⟩; obtain ⟨K1, K2, K3, HB⟩ := bk3 K1 K2 K3 HB hb; (try clear hb); have := cB4 K2) | (go_at_call 77; (with_reducible refine (impl_Val_none.calls _ _ _ _ _ _ A4.out).mono ?_); rintro e w8 ⟨rfl, hb⟩; obtain ⟨K1, K2, K3, HB⟩ := bk3 K1 K2 K3 HB hb; (try clear hb)))
  go_meet
  case rel => exact ⟨_, (t4), ey, H', le0, ⟨Z K1⟩, ⟨Z K2⟩, ⟨Z K3⟩, ⟨YA HB⟩⟩
 clear C1
 obtain ⟨kq, x1, rfl, HA, J1, K1, K2, K3, HB⟩ := hcut
 cases kq with
 | zero => exact absurd HA.out (by simp [impl_ValMeet.j0])
 | succ k1 => ?_
 have H := HA.out
 clear HA
 simp only [impl_ValMeet.j0] at H
 by_cases c1 : x1 = true
 ·subst c1
  rw [if_pos rfl] at H
  obtain ⟨⟨t5, t6, t7, t8⟩, A1, H⟩ := bd H
  try dsimp only at H
  obtain ⟨rfl, rfl, rfl, rfl⟩ := sj4 H
  go_wp2_with (first | ((with_reducible refine gate_callee (f := 78) rfl ?_); refine gL 23 Try.func78 (impl_valNone.calls _ _ _ _ _ A1.out) fun w5 hb => ?_; obtain ⟨K1, K2, K3, HB⟩ := bk3 K1 K2 K3 HB hb; (try clear hb); have := ns2 N4 N6; have := cB4 K3))
  refine bodyPost_ret (results_cell_row rfl _ _ g3 50 #[.int .i64 t5, .int .i64 t6, .int .i64 t7, .int .i64 t8] (0, 0) _ rfl (by refine pf ?_; refine bp (ia4 t5 t6 t7 0) ?_ 3; refine pf ?_; refine bp (ia4 t5 t6 0 0) ?_ 2; refine pf ?_; refine bp (ia4 t5 0 0 0) ?_ 1; refine pf ?_; refine bp (ia4 0 0 0 0) ?_ 0; exact Z K3) Try.underlying50 rfl (by kernel_rfl)) rfl ?_
  exact ⟨ez, YA HB⟩
 replace c1 := Bool.eq_false_iff.mpr c1
 subst c1
 rw [if_neg ff] at H
 obtain ⟨⟨t5, t6⟩, A1, H⟩ := bd H
 try dsimp only at H
 obtain ⟨⟨t7, t8⟩, A2, H⟩ := bd H
 try dsimp only at H
 obtain ⟨⟨t9, t10, t11⟩, A3, H⟩ := bd H
 try dsimp only at H
 by_cases c2 : t11 = true
 rotate_left
 ·replace c2 := Bool.eq_false_iff.mpr c2
  subst c2
  rw [if_neg ff] at H
  obtain ⟨⟨t12, t13, t14, t15⟩, A4, H⟩ := bd H
  try dsimp only at H
  obtain ⟨rfl, rfl, rfl, rfl⟩ := sj4 H
  try go_wp2
  obtain ⟨K1, K2, K3, HB⟩ := dk3 K1 K2 K3 HB
  refine start_ (n := 11) (S := fun w' => ce4 w' g1 a0_0 a0_1 a0_2 a0_3 ∧ ce4 w' g2 a1_0 a1_1 a1_2 a1_3) (ds := []) (lb 11 0) (by kernel_rfl) rfl rfl ⟨cc4 K1, cc4 K2⟩ (fun hHeld => ?_); refine with_tabW impl_ValMeet.tab3 impl_ValMeet.bits3 (fun HT_ HW_ => ?_)
  generalize wc.drew = w5 at K1 K2 K3 HB hHeld ⊢
  refine tk 0 25 1 hHeld ?_
  refine tk 2 27 5 hHeld ?_
  refine join_ (σ := Nat) 2 (lb 11 511) (fun s_ => [(26, .agg #[.int .i64 t5, .int .i64 t6]), (28, .agg #[.int .i64 t7, .int .i64 t8]), (29, .tuple #[.agg #[.int .i64 t9, .int .i64 t10], .bool false]), (5, .pointer (some ⟨s_, 0, none⟩)), (24, .tuple #[.agg #[.int .i64 t9, .int .i64 t10], .bool false]), (30, .agg #[.int .i64 t9, .int .i64 t10]), (31, .bool false)]) (fun s_ w' => (ce4 w' g1 a0_0 a0_1 a0_2 a0_3 ∧ ce4 w' g2 a1_0 a1_1 a1_2 a1_3) ∧ Bx4 w' g1 a0_0 a0_1 a0_2 a0_3 50 ∧ Bx4 w' g2 a1_0 a1_1 a1_2 a1_3 50 ∧ Bx4 w' g3 0 0 0 0 50 ∧ Bx2 w' s_ 0 0 86 ∧ Aside0 (w.heap.size ≤ s_) ∧ Aside0 (w.heap.size ≤ s_) ∧ Aside0 (g1 ≠ s_) ∧ Aside0 (s_ ≠ g1) ∧ Aside0 (g2 ≠ s_) ∧ Aside0 (s_ ≠ g2) ∧ Aside0 (g3 ≠ s_) ∧ Aside0 (s_ ≠ g3) ∧ Aside0 (Below w.heap.size w w')) ?_ ?_
  rotate_left
  ·intro hCont
   refine two_ (i := 1) (j := 8) (Ni := some 26) (Nj := some 5) (lb 11 7) (lb 11 261) rfl rfl rfl rfl (two_of HT_.out (by kernel_rfl)) (by decide) (by decide) (fun K hK => ?_) (fun K hK => ?_)
   rotate_left
   ·skip
    refine box_step ?hg (N := 5) ?hd (cs := #[.int .i64 0, .int .i64 0]) (t := 86) ?hr ?_; (case hd => rfl); (case hg => rfl); (case hr => first | (go_simp; done) | (go_simp; rfl))
    intro g4 hg w6 hbox hb
    have K4 := am (hbox)
    have G4 := am (bs hg (YA HB))
    have G5 := am (bs hg (YA HB))
    obtain ⟨N7,N8⟩ := ne_ hg K1
    obtain ⟨N9,N10⟩ := ne_ hg K2
    obtain ⟨N11,N12⟩ := ne_ hg K3
    obtain ⟨K1, K2, K3, HB⟩ := bk3 K1 K2 K3 HB hb
    clear hb hbox hg
    refine kk hK ⟨cc4 K1, cc4 K2⟩ fun hHeld => ?_
    clear hK K
    refine on 1 (some 26) 263 fun K hK => ?_
    refine ck hK Try.func82 (impl_Val_rest.calls _ _ _ _ _ _ _ A1.out) (fun _ b => bk4 K1 K2 K3 K4 HB b) fun w7 Q_ hHeld => ?_
    clear hK K
    obtain ⟨K1, K2, K3, K4, HB⟩ := Q_
    refine on 3 (some 28) 271 fun K hK => ?_
    refine ck hK Try.func82 (impl_Val_rest.calls _ _ _ _ _ _ _ A2.out) (fun _ b => bk4 K1 K2 K3 K4 HB b) fun w8 Q_ hHeld => ?_
    clear hK K
    obtain ⟨K1, K2, K3, K4, HB⟩ := Q_
    refine on 4 (some 29) 287 fun K hK => ?_
    refine ck hK Try.func117 (impl_RestMeet.calls _ _ _ _ _ _ _ _ _ A3.out) (fun _ b => bk4 K1 K2 K3 K4 HB b) fun w9 Q_ hHeld => ?_
    clear hK K
    obtain ⟨K1, K2, K3, K4, HB⟩ := Q_
    refine pk 5 24 319 ?_
    refine pk 6 30 383 ?_
    refine pk 7 31 511 ?_
    exact norm_ nz (hCont (g4) _ ⟨hHeld, ⟨Z K1⟩, ⟨Z K2⟩, ⟨Z K3⟩, ⟨Z K4⟩, G4, G5, N7, N8, N9, N10, N11, N12, ⟨YA HB⟩⟩)
   skip
   refine ck hK Try.func82 (impl_Val_rest.calls _ _ _ _ _ _ _ A1.out) (fun _ b => bk3 K1 K2 K3 HB b) fun w6 Q_ hHeld => ?_
   clear hK K
   obtain ⟨K1, K2, K3, HB⟩ := Q_
   refine two_ (i := 3) (j := 8) (Ni := some 28) (Nj := some 5) (lb 11 15) (lb 11 263) rfl rfl rfl rfl (two_of HT_.out (by kernel_rfl)) (by decide) (by decide) (fun K hK => ?_) (fun K hK => ?_)
   rotate_left
   ·skip
    refine box_step ?hg (N := 5) ?hd (cs := #[.int .i64 0, .int .i64 0]) (t := 86) ?hr ?_; (case hd => rfl); (case hg => rfl); (case hr => first | (go_simp; done) | (go_simp; rfl))
    intro g4 hg w7 hbox hb
    have K4 := am (hbox)
    have G4 := am (bs hg (YA HB))
    have G5 := am (bs hg (YA HB))
    obtain ⟨N7,N8⟩ := ne_ hg K1
    obtain ⟨N9,N10⟩ := ne_ hg K2
    obtain ⟨N11,N12⟩ := ne_ hg K3
    obtain ⟨K1, K2, K3, HB⟩ := bk3 K1 K2 K3 HB hb
    clear hb hbox hg
    refine kk hK ⟨cc4 K1, cc4 K2⟩ fun hHeld => ?_
    clear hK K
    refine on 3 (some 28) 271 fun K hK => ?_
    refine ck hK Try.func82 (impl_Val_rest.calls _ _ _ _ _ _ _ A2.out) (fun _ b => bk4 K1 K2 K3 K4 HB b) fun w8 Q_ hHeld => ?_
    clear hK K
    obtain ⟨K1, K2, K3, K4, HB⟩ := Q_
    refine on 4 (some 29) 287 fun K hK => ?_
    refine ck hK Try.func117 (impl_RestMeet.calls _ _ _ _ _ _ _ _ _ A3.out) (fun _ b => bk4 K1 K2 K3 K4 HB b) fun w9 Q_ hHeld => ?_
    clear hK K
    obtain ⟨K1, K2, K3, K4, HB⟩ := Q_
    refine pk 5 24 319 ?_
    refine pk 6 30 383 ?_
    refine pk 7 31 511 ?_
    exact norm_ nz (hCont (g4) _ ⟨hHeld, ⟨Z K1⟩, ⟨Z K2⟩, ⟨Z K3⟩, ⟨Z K4⟩, G4, G5, N7, N8, N9, N10, N11, N12, ⟨YA HB⟩⟩)
   skip
   refine ck hK Try.func82 (impl_Val_rest.calls _ _ _ _ _ _ _ A2.out) (fun _ b => bk3 K1 K2 K3 HB b) fun w7 Q_ hHeld => ?_
   clear hK K
   obtain ⟨K1, K2, K3, HB⟩ := Q_
   refine two_ (i := 4) (j := 8) (Ni := some 29) (Nj := some 5) (lb 11 31) (lb 11 271) rfl rfl rfl rfl (two_of HT_.out (by kernel_rfl)) (by decide) (by decide) (fun K hK => ?_) (fun K hK => ?_)
   ·skip
    refine ck hK Try.func117 (impl_RestMeet.calls _ _ _ _ _ _ _ _ _ A3.out) (fun _ b => bk3 K1 K2 K3 HB b) fun w8 Q_ hHeld => ?_
    clear hK K
    obtain ⟨K1, K2, K3, HB⟩ := Q_
    refine pk 5 24 63 ?_
    refine pk 6 30 127 ?_
    refine pk 7 31 255 ?_
    refine on 8 (some 5) 511 fun K hK => ?_
    refine box_step ?hg (N := 5) ?hd (cs := #[.int .i64 0, .int .i64 0]) (t := 86) ?hr ?_; (case hd => rfl); (case hg => rfl); (case hr => first | (go_simp; done) | (go_simp; rfl))
    intro g4 hg w9 hbox hb
    have K4 := am (hbox)
    have G4 := am (bs hg (YA HB))
    have G5 := am (bs hg (YA HB))
    obtain ⟨N7,N8⟩ := ne_ hg K1
    obtain ⟨N9,N10⟩ := ne_ hg K2
    obtain ⟨N11,N12⟩ := ne_ hg K3
    obtain ⟨K1, K2, K3, HB⟩ := bk3 K1 K2 K3 HB hb
    clear hb hbox hg
    refine kk hK ⟨cc4 K1, cc4 K2⟩ fun hHeld => ?_
    clear hK K
    exact norm_ nz (hCont (g4) _ ⟨hHeld, ⟨Z K1⟩, ⟨Z K2⟩, ⟨Z K3⟩, ⟨Z K4⟩, G4, G5, N7, N8, N9, N10, N11, N12, ⟨YA HB⟩⟩)
   skip
   refine box_step ?hg (N := 5) ?hd (cs := #[.int .i64 0, .int .i64 0]) (t := 86) ?hr ?_; (case hd => rfl); (case hg => rfl); (case hr => first | (go_simp; done) | (go_simp; rfl))
   intro g4 hg w8 hbox hb
   have K4 := am (hbox)
   have G4 := am (bs hg (YA HB))
   have G5 := am (bs hg (YA HB))
   obtain ⟨N7,N8⟩ := ne_ hg K1
   obtain ⟨N9,N10⟩ := ne_ hg K2
   obtain ⟨N11,N12⟩ := ne_ hg K3
   obtain ⟨K1, K2, K3, HB⟩ := bk3 K1 K2 K3 HB hb
   clear hb hbox hg
   refine kk hK ⟨cc4 K1, cc4 K2⟩ fun hHeld => ?_
   clear hK K
   refine on 4 (some 29) 287 fun K hK => ?_
   refine ck hK Try.func117 (impl_RestMeet.calls _ _ _ _ _ _ _ _ _ A3.out) (fun _ b => bk4 K1 K2 K3 K4 HB b) fun w9 Q_ hHeld => ?_
   clear hK K
   obtain ⟨K1, K2, K3, K4, HB⟩ := Q_
   refine pk 5 24 319 ?_
   refine pk 6 30 383 ?_
   refine pk 7 31 511 ?_
   exact norm_ nz (hCont (g4) _ ⟨hHeld, ⟨Z K1⟩, ⟨Z K2⟩, ⟨Z K3⟩, ⟨Z K4⟩, G4, G5, N7, N8, N9, N10, N11, N12, ⟨YA HB⟩⟩)
  rintro g4 w6 ⟨hHeld, K1, K2, K3, K4, G4, G5, N7, N8, N9, N10, N11, N12, HB⟩
  refine norm_ nz ?_
  refine on 9 none 1023 fun K hK => ?_
  have s1 : w6.cell? ⟨g4, 0, none⟩ = some (.int .i64 0) := bc K4 0
  have hfs84 := blk_frozen K4.out 0
  have := ns6 N7 N9 N11 N8 N10 N12
  have s2 : w6.cell? ⟨g4, 1, none⟩ = some (.int .i64 0) := bc K4 1
  have hfs85 := blk_frozen K4.out 1
  have := ns6 N7 N9 N11 N8 N10 N12
  refine skip_ (w1 := ?_) (by rfl) rfl ?_ ?_
  rotate_left
  ·go_simp
   rfl
  refine hK.out _ _ ⟨cf4 N7 (cf4 N7 hHeld.1), cf4 N9 (cf4 N9 hHeld.2)⟩ (fun hHeld => ?_)
  clear hK K
  refine pk 10 6 2047 ?_
  refine done_ (done_of HT_.out (by kernel_rfl)) ?_
  try go_wp2_with (first | ((with_reducible refine gate_callee (f := 78) rfl ?_); refine gL 34 Try.func78 (impl_valNone.calls _ _ _ _ _ A4.out) fun w7 hb => ?_; replace K1 := am (blk_below (g := g1) (o := b4 a0_0 a0_1 a0_2 a0_3 50) (ft N7 K1) hb); replace K2 := am (blk_below (g := g2) (o := b4 a1_0 a1_1 a1_2 a1_3 50) (ft N9 K2) hb); replace K3 := am (blk_below (g := g3) (o := b4 0 0 0 0 50) (ft N11 K3) hb); replace K4 := am (blk_below (g := g4) (o := b2 t9 t10 86) (by refine pf ?_; refine bp (ia2 t9 0) ?_ 1; refine pf ?_; refine bp (ia2 0 0) ?_ 0; exact Z K4) hb); replace HB := am (below_step (YA HB) hb); (try clear hb); have := ns3 N4 N6 N11; have := cB4 K3))
  refine bodyPost_ret (results_cell_row rfl _ _ g3 50 #[.int .i64 t12, .int .i64 t13, .int .i64 t14, .int .i64 t15] (0, 0) _ rfl (by refine pf ?_; refine bp (ia4 t12 t13 t14 0) ?_ 3; refine pf ?_; refine bp (ia4 t12 t13 0 0) ?_ 2; refine pf ?_; refine bp (ia4 t12 0 0 0) ?_ 1; refine pf ?_; refine bp (ia4 0 0 0 0) ?_ 0; exact Z K3) Try.underlying50 rfl (by kernel_rfl)) rfl ?_
  exact ⟨ez, YA HB⟩
 subst c2
 rw [if_pos rfl] at H
 obtain ⟨⟨t12, t13⟩, A4, H⟩ := bd H
 try dsimp only at H
 obtain ⟨⟨t14, t15⟩, A5, H⟩ := bd H
 try dsimp only at H
 obtain ⟨⟨t16, t17⟩, A6, H⟩ := bd H
 try dsimp only at H
 obtain ⟨⟨t18, t19, t20, t21⟩, A7, H⟩ := bd H
 try dsimp only at H
 obtain ⟨rfl, rfl, rfl, rfl⟩ := sj4 H
 try go_wp2
 obtain ⟨K1, K2, K3, HB⟩ := dk3 K1 K2 K3 HB
 refine start_ (n := 11) (S := fun w' => ce4 w' g1 a0_0 a0_1 a0_2 a0_3 ∧ ce4 w' g2 a1_0 a1_1 a1_2 a1_3) (ds := []) (lb 11 0) (by kernel_rfl) rfl rfl ⟨cc4 K1, cc4 K2⟩ (fun hHeld => ?_); refine with_tabW impl_ValMeet.tab3 impl_ValMeet.bits3 (fun HT_ HW_ => ?_)
 generalize wc.drew = w5 at K1 K2 K3 HB hHeld ⊢
 refine tk 0 25 1 hHeld ?_
 refine tk 2 27 5 hHeld ?_
 refine join_ (σ := Nat) 2 (lb 11 511) (fun s_ => [(26, .agg #[.int .i64 t5, .int .i64 t6]), (28, .agg #[.int .i64 t7, .int .i64 t8]), (29, .tuple #[.agg #[.int .i64 t9, .int .i64 t10], .bool true]), (5, .pointer (some ⟨s_, 0, none⟩)), (24, .tuple #[.agg #[.int .i64 t9, .int .i64 t10], .bool true]), (30, .agg #[.int .i64 t9, .int .i64 t10]), (31, .bool true)]) (fun s_ w' => (ce4 w' g1 a0_0 a0_1 a0_2 a0_3 ∧ ce4 w' g2 a1_0 a1_1 a1_2 a1_3) ∧ Bx4 w' g1 a0_0 a0_1 a0_2 a0_3 50 ∧ Bx4 w' g2 a1_0 a1_1 a1_2 a1_3 50 ∧ Bx4 w' g3 0 0 0 0 50 ∧ Bx2 w' s_ 0 0 86 ∧ Aside0 (w.heap.size ≤ s_) ∧ Aside0 (w.heap.size ≤ s_) ∧ Aside0 (g1 ≠ s_) ∧ Aside0 (s_ ≠ g1) ∧ Aside0 (g2 ≠ s_) ∧ Aside0 (s_ ≠ g2) ∧ Aside0 (g3 ≠ s_) ∧ Aside0 (s_ ≠ g3) ∧ Aside0 (Below w.heap.size w w')) ?_ ?_
 rotate_left
 ·intro hCont
  refine two_ (i := 1) (j := 8) (Ni := some 26) (Nj := some 5) (lb 11 7) (lb 11 261) rfl rfl rfl rfl (two_of HT_.out (by kernel_rfl)) (by decide) (by decide) (fun K hK => ?_) (fun K hK => ?_)
  rotate_left
  ·skip
   refine box_step ?hg (N := 5) ?hd (cs := #[.int .i64 0, .int .i64 0]) (t := 86) ?hr ?_; (case hd => rfl); (case hg => rfl); (case hr => first | (go_simp; done) | (go_simp; rfl))
   intro g4 hg w6 hbox hb
   have K4 := am (hbox)
   have G4 := am (bs hg (YA HB))
   have G5 := am (bs hg (YA HB))
   obtain ⟨N7,N8⟩ := ne_ hg K1
   obtain ⟨N9,N10⟩ := ne_ hg K2
   obtain ⟨N11,N12⟩ := ne_ hg K3
   obtain ⟨K1, K2, K3, HB⟩ := bk3 K1 K2 K3 HB hb
   clear hb hbox hg
   refine kk hK ⟨cc4 K1, cc4 K2⟩ fun hHeld => ?_
   clear hK K
   refine on 1 (some 26) 263 fun K hK => ?_
   refine ck hK Try.func82 (impl_Val_rest.calls _ _ _ _ _ _ _ A1.out) (fun _ b => bk4 K1 K2 K3 K4 HB b) fun w7 Q_ hHeld => ?_
   clear hK K
   obtain ⟨K1, K2, K3, K4, HB⟩ := Q_
   refine on 3 (some 28) 271 fun K hK => ?_
   refine ck hK Try.func82 (impl_Val_rest.calls _ _ _ _ _ _ _ A2.out) (fun _ b => bk4 K1 K2 K3 K4 HB b) fun w8 Q_ hHeld => ?_
   clear hK K
   obtain ⟨K1, K2, K3, K4, HB⟩ := Q_
   refine on 4 (some 29) 287 fun K hK => ?_
   refine ck hK Try.func117 (impl_RestMeet.calls _ _ _ _ _ _ _ _ _ A3.out) (fun _ b => bk4 K1 K2 K3 K4 HB b) fun w9 Q_ hHeld => ?_
   clear hK K
   obtain ⟨K1, K2, K3, K4, HB⟩ := Q_
   refine pk 5 24 319 ?_
   refine pk 6 30 383 ?_
   refine pk 7 31 511 ?_
   exact norm_ nz (hCont (g4) _ ⟨hHeld, ⟨Z K1⟩, ⟨Z K2⟩, ⟨Z K3⟩, ⟨Z K4⟩, G4, G5, N7, N8, N9, N10, N11, N12, ⟨YA HB⟩⟩)
  skip
  refine ck hK Try.func82 (impl_Val_rest.calls _ _ _ _ _ _ _ A1.out) (fun _ b => bk3 K1 K2 K3 HB b) fun w6 Q_ hHeld => ?_
  clear hK K
  obtain ⟨K1, K2, K3, HB⟩ := Q_
  refine two_ (i := 3) (j := 8) (Ni := some 28) (Nj := some 5) (lb 11 15) (lb 11 263) rfl rfl rfl rfl (two_of HT_.out (by kernel_rfl)) (by decide) (by decide) (fun K hK => ?_) (fun K hK => ?_)
  rotate_left
  ·skip
   refine box_step ?hg (N := 5) ?hd (cs := #[.int .i64 0, .int .i64 0]) (t := 86) ?hr ?_; (case hd => rfl); (case hg => rfl); (case hr => first | (go_simp; done) | (go_simp; rfl))
   intro g4 hg w7 hbox hb
   have K4 := am (hbox)
   have G4 := am (bs hg (YA HB))
   have G5 := am (bs hg (YA HB))
   obtain ⟨N7,N8⟩ := ne_ hg K1
   obtain ⟨N9,N10⟩ := ne_ hg K2
   obtain ⟨N11,N12⟩ := ne_ hg K3
   obtain ⟨K1, K2, K3, HB⟩ := bk3 K1 K2 K3 HB hb
   clear hb hbox hg
   refine kk hK ⟨cc4 K1, cc4 K2⟩ fun hHeld => ?_
   clear hK K
   refine on 3 (some 28) 271 fun K hK => ?_
   refine ck hK Try.func82 (impl_Val_rest.calls _ _ _ _ _ _ _ A2.out) (fun _ b => bk4 K1 K2 K3 K4 HB b) fun w8 Q_ hHeld => ?_
   clear hK K
   obtain ⟨K1, K2, K3, K4, HB⟩ := Q_
   refine on 4 (some 29) 287 fun K hK => ?_
   refine ck hK Try.func117 (impl_RestMeet.calls _ _ _ _ _ _ _ _ _ A3.out) (fun _ b => bk4 K1 K2 K3 K4 HB b) fun w9 Q_ hHeld => ?_
   clear hK K
   obtain ⟨K1, K2, K3, K4, HB⟩ := Q_
   refine pk 5 24 319 ?_
   refine pk 6 30 383 ?_
   refine pk 7 31 511 ?_
   exact norm_ nz (hCont (g4) _ ⟨hHeld, ⟨Z K1⟩, ⟨Z K2⟩, ⟨Z K3⟩, ⟨Z K4⟩, G4, G5, N7, N8, N9, N10, N11, N12, ⟨YA HB⟩⟩)
  skip
  refine ck hK Try.func82 (impl_Val_rest.calls _ _ _ _ _ _ _ A2.out) (fun _ b => bk3 K1 K2 K3 HB b) fun w7 Q_ hHeld => ?_
  clear hK K
  obtain ⟨K1, K2, K3, HB⟩ := Q_
  refine two_ (i := 4) (j := 8) (Ni := some 29) (Nj := some 5) (lb 11 31) (lb 11 271) rfl rfl rfl rfl (two_of HT_.out (by kernel_rfl)) (by decide) (by decide) (fun K hK => ?_) (fun K hK => ?_)
  ·skip
   refine ck hK Try.func117 (impl_RestMeet.calls _ _ _ _ _ _ _ _ _ A3.out) (fun _ b => bk3 K1 K2 K3 HB b) fun w8 Q_ hHeld => ?_
   clear hK K
   obtain ⟨K1, K2, K3, HB⟩ := Q_
   refine pk 5 24 63 ?_
   refine pk 6 30 127 ?_
   refine pk 7 31 255 ?_
   refine on 8 (some 5) 511 fun K hK => ?_
   refine box_step ?hg (N := 5) ?hd (cs := #[.int .i64 0, .int .i64 0]) (t := 86) ?hr ?_; (case hd => rfl); (case hg => rfl); (case hr => first | (go_simp; done) | (go_simp; rfl))
   intro g4 hg w9 hbox hb
   have K4 := am (hbox)
   have G4 := am (bs hg (YA HB))
   have G5 := am (bs hg (YA HB))
   obtain ⟨N7,N8⟩ := ne_ hg K1
   obtain ⟨N9,N10⟩ := ne_ hg K2
   obtain ⟨N11,N12⟩ := ne_ hg K3
   obtain ⟨K1, K2, K3, HB⟩ := bk3 K1 K2 K3 HB hb
   clear hb hbox hg
   refine kk hK ⟨cc4 K1, cc4 K2⟩ fun hHeld => ?_
   clear hK K
   exact norm_ nz (hCont (g4) _ ⟨hHeld, ⟨Z K1⟩, ⟨Z K2⟩, ⟨Z K3⟩, ⟨Z K4⟩, G4, G5, N7, N8, N9, N10, N11, N12, ⟨YA HB⟩⟩)
  skip
  refine box_step ?hg (N := 5) ?hd (cs := #[.int .i64 0, .int .i64 0]) (t := 86) ?hr ?_; (case hd => rfl); (case hg => rfl); (case hr => first | (go_simp; done) | (go_simp; rfl))
  intro g4 hg w8 hbox hb
  have K4 := am (hbox)
  have G4 := am (bs hg (YA HB))
  have G5 := am (bs hg (YA HB))
  obtain ⟨N7,N8⟩ := ne_ hg K1
  obtain ⟨N9,N10⟩ := ne_ hg K2
  obtain ⟨N11,N12⟩ := ne_ hg K3
  obtain ⟨K1, K2, K3, HB⟩ := bk3 K1 K2 K3 HB hb
  clear hb hbox hg
  refine kk hK ⟨cc4 K1, cc4 K2⟩ fun hHeld => ?_
  clear hK K
  refine on 4 (some 29) 287 fun K hK => ?_
  refine ck hK Try.func117 (impl_RestMeet.calls _ _ _ _ _ _ _ _ _ A3.out) (fun _ b => bk4 K1 K2 K3 K4 HB b) fun w9 Q_ hHeld => ?_
  clear hK K
  obtain ⟨K1, K2, K3, K4, HB⟩ := Q_
  refine pk 5 24 319 ?_
  refine pk 6 30 383 ?_
  refine pk 7 31 511 ?_
  exact norm_ nz (hCont (g4) _ ⟨hHeld, ⟨Z K1⟩, ⟨Z K2⟩, ⟨Z K3⟩, ⟨Z K4⟩, G4, G5, N7, N8, N9, N10, N11, N12, ⟨YA HB⟩⟩)
 rintro g4 w6 ⟨hHeld, K1, K2, K3, K4, G4, G5, N7, N8, N9, N10, N11, N12, HB⟩
 refine norm_ nz ?_
 refine on 9 none 1023 fun K hK => ?_
 have s1 : w6.cell? ⟨g4, 0, none⟩ = some (.int .i64 0) := bc K4 0
 have hfs65 := blk_frozen K4.out 0
 have := ns6 N7 N9 N11 N8 N10 N12
 have s2 : w6.cell? ⟨g4, 1, none⟩ = some (.int .i64 0) := bc K4 1
 have hfs66 := blk_frozen K4.out 1
 have := ns6 N7 N9 N11 N8 N10 N12
 refine skip_ (w1 := ?_) (by rfl) rfl ?_ ?_
 rotate_left
 ·go_simp
  rfl
 refine hK.out _ _ ⟨cf4 N7 (cf4 N7 hHeld.1), cf4 N9 (cf4 N9 hHeld.2)⟩ (fun hHeld => ?_)
 clear hK K
 refine pk 10 6 2047 ?_
 refine done_ (done_of HT_.out (by kernel_rfl)) ?_
 try go_wp2
 have n0_ : Aside0 (((w6.setCell ⟨g4, 0, none⟩ (.int .i64 t9)).setCell ⟨g4, 1, none⟩ (.int .i64 t10)).heap[g1]? = some (.cells #[.int .i64 a0_0, .int .i64 a0_1, .int .i64 a0_2, .int .i64 a0_3] 50 (0, 0))) := ⟨ft N7 K1⟩
 have n1_ : Aside0 (((w6.setCell ⟨g4, 0, none⟩ (.int .i64 t9)).setCell ⟨g4, 1, none⟩ (.int .i64 t10)).heap[g2]? = some (.cells #[.int .i64 a1_0, .int .i64 a1_1, .int .i64 a1_2, .int .i64 a1_3] 50 (0, 0))) := ⟨ft N9 K2⟩
 have n2_ : Aside0 (((w6.setCell ⟨g4, 0, none⟩ (.int .i64 t9)).setCell ⟨g4, 1, none⟩ (.int .i64 t10)).heap[g3]? = some (.cells #[.int .i64 0, .int .i64 0, .int .i64 0, .int .i64 0] 50 (0, 0))) := ⟨ft N11 K3⟩
 have n3_ : Aside0 (((w6.setCell ⟨g4, 0, none⟩ (.int .i64 t9)).setCell ⟨g4, 1, none⟩ (.int .i64 t10)).heap[g4]? = some (.cells #[.int .i64 t9, .int .i64 t10] 86 (0, 0))) := ⟨by refine pf ?_; refine bp (ia2 t9 0) ?_ 1; refine pf ?_; refine bp (ia2 0 0) ?_ 0; exact Z K4⟩
 have n4_ : Aside0 (Below w.heap.size w ((w6.setCell ⟨g4, 0, none⟩ (.int .i64 t9)).setCell ⟨g4, 1, none⟩ (.int .i64 t10))) := ⟨YA HB⟩
 (try clear K1)
 (try clear K2)
 (try clear K3)
 (try clear K4)
 (try clear HB)
 generalize ((w6.setCell ⟨g4, 0, none⟩ (.int .i64 t9)).setCell ⟨g4, 1, none⟩ (.int .i64 t10)) = w7 at n0_ n1_ n2_ n3_ n4_ ⊢
 have K1 := n0_
 have K2 := n1_
 have K3 := n2_
 have K4 := n3_
 have HB := n4_
 clear n0_ n1_ n2_ n3_ n4_
 obtain ⟨K1, K2, K3, K4, HB⟩ := dk4 K1 K2 K3 K4 HB
 refine start_ (n := 8) (S := fun w' => ce4 w' g1 a0_0 a0_1 a0_2 a0_3 ∧ ce4 w' g2 a1_0 a1_1 a1_2 a1_3 ∧ ce2 w' g4 t9 t10) (ds := []) (lb 8 0) (by kernel_rfl) rfl rfl ⟨cc4 K1, cc4 K2, cc2 K4⟩ (fun hHeld => ?_); refine with_tabW impl_ValMeet.tab6 impl_ValMeet.bits6 (fun HT_ HW_ => ?_)
 generalize w7.drew = w8 at K1 K2 K3 K4 HB hHeld ⊢
 refine tk 0 35 1 hHeld ?_
 refine tk 2 37 5 hHeld ?_
 refine tk 5 40 37 hHeld ?_
 refine on 1 (some 36) 39 fun K hK => ?_
 refine ck hK Try.func79 (impl_Val_span.calls _ _ _ _ _ _ _ A4.out) (fun _ b => bk4 K1 K2 K3 K4 HB b) fun w9 Q_ hHeld => ?_
 clear hK K
 obtain ⟨K1, K2, K3, K4, HB⟩ := Q_
 refine on 3 (some 38) 47 fun K hK => ?_
 refine ck hK Try.func79 (impl_Val_span.calls _ _ _ _ _ _ _ A5.out) (fun _ b => bk4 K1 K2 K3 K4 HB b) fun w10 Q_ hHeld => ?_
 clear hK K
 obtain ⟨K1, K2, K3, K4, HB⟩ := Q_
 refine on 4 (some 39) 63 fun K hK => ?_
 refine ck hK Try.func93 (impl_RangeMeet.calls _ _ _ _ _ _ _ _ A6.out) (fun _ b => bk4 K1 K2 K3 K4 HB b) fun w11 Q_ hHeld => ?_
 clear hK K
 obtain ⟨K1, K2, K3, K4, HB⟩ := Q_
 refine on 6 (some 41) 127 fun K hK => ?_
 refine ck hK Try.func80 (impl_ValMake.calls _ _ _ _ _ _ _ _ _ _ A7.out) (fun _ b => bk4 K1 K2 K3 K4 HB b) fun w12 Q_ hHeld => ?_
 clear hK K
 obtain ⟨K1, K2, K3, K4, HB⟩ := Q_
 refine on 7 none 255 fun K hK => ?_
 have s3 : w12.cell? ⟨g3, 0, none⟩ = some (.int .i64 0) := bc K3 0
 have hfs73 := blk_frozen K3.out 0
 have := ns6 N3 N5 N12 N4 N6 N11
 have s4 : w12.cell? ⟨g3, 1, none⟩ = some (.int .i64 0) := bc K3 1
 have hfs74 := blk_frozen K3.out 1
 have := ns6 N3 N5 N12 N4 N6 N11
 have s5 : w12.cell? ⟨g3, 2, none⟩ = some (.int .i64 0) := bc K3 2
 have hfs75 := blk_frozen K3.out 2
 have := ns6 N3 N5 N12 N4 N6 N11
 have s6 : w12.cell? ⟨g3, 3, none⟩ = some (.int .i64 0) := bc K3 3
 have hfs76 := blk_frozen K3.out 3
 have := ns6 N3 N5 N12 N4 N6 N11
 refine skip_ (w1 := ?_) (by rfl) rfl ?_ ?_
 rotate_left
 ·go_simp
  rfl
 refine hK.out _ _ ⟨cf4 N3 (cf4 N3 (cf4 N3 (cf4 N3 hHeld.1))), cf4 N5 (cf4 N5 (cf4 N5 (cf4 N5 hHeld.2.1))), cf2 N12 (cf2 N12 (cf2 N12 (cf2 N12 hHeld.2.2)))⟩ (fun hHeld => ?_)
 clear hK K
 refine done_ (done_of HT_.out (by kernel_rfl)) ?_
 try go_wp2
 refine bodyPost_ret (results_cell_row rfl _ _ g3 50 #[.int .i64 t18, .int .i64 t19, .int .i64 t20, .int .i64 t21] (0, 0) _ rfl (by refine pf ?_; refine bp (ia4 t18 t19 t20 0) ?_ 3; refine pf ?_; refine bp (ia4 t18 t19 0 0) ?_ 2; refine pf ?_; refine bp (ia4 t18 0 0 0) ?_ 1; refine pf ?_; refine bp (ia4 0 0 0 0) ?_ 0; exact Z K3) Try.underlying50 rfl (by kernel_rfl)) rfl ?_
 exact ⟨ez, YA HB⟩
end
end Go.Proofs.Ythbkakcchgnhpaa.PFnValTurn
