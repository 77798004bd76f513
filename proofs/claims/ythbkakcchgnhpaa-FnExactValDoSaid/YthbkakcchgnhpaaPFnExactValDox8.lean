/- Written by this session's own driver (wip/dprint.py): the functions that the law FnExactValDo reaches, as Lean functions, each with its contract. -/
import Derived.Test.YthbkakcchgnhpaaPFnExactValDox0
import Derived.Test.YthbkakcchgnhpaaPFnExactValDox5
import Derived.Test.YthbkakcchgnhpaaPFnExactValDox7
import Derived.Test.YthbkakcchgnhpaaSv
namespace Go.Proofs.Ythbkakcchgnhpaa.PFnExactValDo
open Go.RowKit Go.Proofs.YthbkakcchgnhpaaV.PrintWords Go.Proofs.YthbkakcchgnhpaaV.PrintLast Go.Proofs.YthbkakcchgnhpaaV.PrintMore Go.Proofs.YthbkakcchgnhpaaSv
set_option linter.unusedVariables false
set_option linter.unusedSimpArgs false
section
attribute [local go_sem] max2_int min2_int max_two min_two max_three min_three max_four min_four
attribute [local go_sem] Go.Proofs.YthbkakcchgnhpaaSet.isSome_setCell
mutual
def impl_RestDo.j0 : Nat → Int → Bool → Int → Int → Int → Int → Option (Int × Int)
 | 0, _, _, _, _, _, _ => none
 | k + 1, x1, x2, x3, x4, x5, x6 => if x2 = true then ((impl_restAll.f).bind fun u1 => (some (u1.1, u1.2))) else (if x3 = 0 then (impl_RestDo.j1 k x1 (x5 == 0) x3 x4 x5 x6) else (impl_RestDo.j1 k x1 false x3 x4 x5 x6))
def impl_RestDo.j1 : Nat → Int → Bool → Int → Int → Int → Int → Option (Int × Int)
 | 0, _, _, _, _, _, _ => none
 | k + 1, x1, x2, x3, x4, x5, x6 => if x2 = true then ((impl_NumDo.f k x1 x4 x6).bind fun u1 => (if u1.2 = 0 then (some (0, u1.1)) else ((impl_restAll.f).bind fun u2 => (some (u2.1, u2.2))))) else (if x1 = 11 then (impl_RestDo.j2 k x1 4294967296 x3 x4 x5 x6) else (if x1 = 12 then (impl_RestDo.j2 k x1 4294967296 x3 x4 x5 x6) else (if x1 = 13 then (impl_RestDo.j2 k x1 4294967296 x3 x4 x5 x6) else (impl_RestDo.j2 k x1 0 x3 x4 x5 x6))))
def impl_RestDo.j2 : Nat → Int → Int → Int → Int → Int → Int → Option (Int × Int)
 | 0, _, _, _, _, _, _ => none
 | k + 1, x1, x2, x3, x4, x5, x6 => if x1 = 1 then (impl_RestDo.j3 k x2 x1 (x1 == 1) x3 x4 x5 x6) else (impl_RestDo.j3 k x2 x1 (x1 == 11) x3 x4 x5 x6)
def impl_RestDo.j3 : Nat → Int → Int → Bool → Int → Int → Int → Int → Option (Int × Int)
 | 0, _, _, _, _, _, _, _ => none
 | k + 1, x1, x2, x3, x4, x5, x6, x7 => if x3 = true then ((impl_restGcd.f k (([x4, x6, x1] : List Int))).bind fun t1 => ((impl_restOf.f k (wrap64 (x5 + x7)) t1).bind fun u1 => (some (u1.1, u1.2)))) else (if x2 = 2 then (impl_RestDo.j4 k x1 x2 (x2 == 2) x4 x5 x6 x7) else (impl_RestDo.j4 k x1 x2 (x2 == 12) x4 x5 x6 x7))
def impl_RestDo.j4 : Nat → Int → Int → Bool → Int → Int → Int → Int → Option (Int × Int)
 | 0, _, _, _, _, _, _, _ => none
 | k + 1, x1, x2, x3, x4, x5, x6, x7 => if x3 = true then ((impl_restGcd.f k (([x4, x6, x1] : List Int))).bind fun t1 => ((impl_restOf.f k (wrap64 (x5 - x7)) t1).bind fun u1 => (some (u1.1, u1.2)))) else (if x2 = 3 then (impl_RestDo.j5 k x1 x2 (x2 == 3) x4 x5 x6 x7) else (impl_RestDo.j5 k x1 x2 (x2 == 13) x4 x5 x6 x7))
def impl_RestDo.j5 : Nat → Int → Int → Bool → Int → Int → Int → Int → Option (Int × Int)
 | 0, _, _, _, _, _, _, _ => none
 | k + 1, x1, x2, x3, x4, x5, x6, x7 => if x3 = true then ((impl_restGcd.f k (([wrap64 (x4 * x6), wrap64 (x4 * x7), wrap64 (x6 * x5)] : List Int))).bind fun t1 => (if t1 = 0 then (some (0, 0)) else ((impl_restGcd.f k (([t1, x1] : List Int))).bind fun t2 => ((impl_restOf.f k (wrap64 (x5 * x7)) t2).bind fun u1 => (some (u1.1, u1.2)))))) else (if x2 = 9 then (if x6 = 0 then (if x7 ≥ 0 then (impl_RestDo.j6 k (decide (x7 ≤ 31)) x4 x5 x6 x7) else (impl_RestDo.j6 k false x4 x5 x6 x7)) else (impl_RestDo.j6 k false x4 x5 x6 x7)) else (if x2 = 5 then ((impl_restGcd.f k (([x4, x6, x7] : List Int))).bind fun t3 => (if t3 = 0 then ((impl_restAll.f).bind fun u2 => (some (u2.1, u2.2))) else ((impl_restOf.f k x5 t3).bind fun u3 => (some (u3.1, u3.2))))) else ((impl_restAll.f).bind fun u4 => (some (u4.1, u4.2)))))
def impl_RestDo.j6 : Nat → Bool → Int → Int → Int → Int → Option (Int × Int)
 | 0, _, _, _, _, _ => none
 | k + 1, x1, x2, x3, x4, x5 => if x1 = true then (if 0 ≤ (IntKind.u64.wrap (x5)) then ((impl_restOf.f k (wrap64 (x3 * (shl .i64 1 (IntKind.u64.wrap (x5))))) (wrap64 (x2 * (shl .i64 1 (IntKind.u64.wrap (x5)))))).bind fun u1 => (some (u1.1, u1.2))) else (none)) else ((impl_restAll.f).bind fun u2 => (some (u2.1, u2.2)))
end
def impl_RestDo.f (k : Nat) (a0 : Int) (a1_0 : Int) (a1_1 : Int) (a2_0 : Int) (a2_1 : Int) : Option (Int × Int) := (impl_numOp.f a0).bind fun t1 => (if t1 = true then ((impl_RestOk.f a1_0 a1_1).bind fun t2 => (if t2 = true then ((impl_RestOk.f a2_0 a2_1).bind fun t3 => (impl_RestDo.j0 k a0 (!t3) a1_0 a1_1 a2_0 a2_1)) else (impl_RestDo.j0 k a0 true a1_0 a1_1 a2_0 a2_1))) else (impl_RestDo.j0 k a0 true a1_0 a1_1 a2_0 a2_1))
theorem impl_RestDo.mono_l : ∀ k, (∀ y0 y1 y2 y3 y4 y5, LeO (impl_RestDo.j0 k y0 y1 y2 y3 y4 y5) (impl_RestDo.j0 (k + 1) y0 y1 y2 y3 y4 y5)) ∧ (∀ y0 y1 y2 y3 y4 y5, LeO (impl_RestDo.j1 k y0 y1 y2 y3 y4 y5) (impl_RestDo.j1 (k + 1) y0 y1 y2 y3 y4 y5)) ∧ (∀ y0 y1 y2 y3 y4 y5, LeO (impl_RestDo.j2 k y0 y1 y2 y3 y4 y5) (impl_RestDo.j2 (k + 1) y0 y1 y2 y3 y4 y5)) ∧ (∀ y0 y1 y2 y3 y4 y5 y6, LeO (impl_RestDo.j3 k y0 y1 y2 y3 y4 y5 y6) (impl_RestDo.j3 (k + 1) y0 y1 y2 y3 y4 y5 y6)) ∧ (∀ y0 y1 y2 y3 y4 y5 y6, LeO (impl_RestDo.j4 k y0 y1 y2 y3 y4 y5 y6) (impl_RestDo.j4 (k + 1) y0 y1 y2 y3 y4 y5 y6)) ∧ (∀ y0 y1 y2 y3 y4 y5 y6, LeO (impl_RestDo.j5 k y0 y1 y2 y3 y4 y5 y6) (impl_RestDo.j5 (k + 1) y0 y1 y2 y3 y4 y5 y6)) ∧ (∀ y0 y1 y2 y3 y4, LeO (impl_RestDo.j6 k y0 y1 y2 y3 y4) (impl_RestDo.j6 (k + 1) y0 y1 y2 y3 y4))
 | 0 => ⟨fun _ _ _ _ _ _ r h => by simp [impl_RestDo.j0] at h, fun _ _ _ _ _ _ r h => by simp [impl_RestDo.j1] at h, fun _ _ _ _ _ _ r h => by simp [impl_RestDo.j2] at h, fun _ _ _ _ _ _ _ r h => by simp [impl_RestDo.j3] at h, fun _ _ _ _ _ _ _ r h => by simp [impl_RestDo.j4] at h, fun _ _ _ _ _ _ _ r h => by simp [impl_RestDo.j5] at h, fun _ _ _ _ _ r h => by simp [impl_RestDo.j6] at h⟩
 | k + 1 => by
  obtain ⟨ih0, ih1, ih2, ih3, ih4, ih5, ih6⟩ := impl_RestDo.mono_l k
  refine ⟨?_, ?_, ?_, ?_, ?_, ?_, ?_⟩ <;> (intros; (first | unfold impl_RestDo.j0 | unfold impl_RestDo.j1 | unfold impl_RestDo.j2 | unfold impl_RestDo.j3 | unfold impl_RestDo.j4 | unfold impl_RestDo.j5 | unfold impl_RestDo.j6); repeat' first | (with_reducible first | apply ih0 | apply ih1 | apply ih2 | apply ih3 | apply ih4 | apply ih5 | apply ih6 | apply impl_NumDo.mono | apply impl_restGcd.mono | apply impl_restOf.mono | apply LeO.refl | apply LeO.none | refine LeO.ite ?_ ?_ | refine LeO.bind ?_ (fun _ => ?_)) | apply ih0 | apply ih1 | apply ih2 | apply ih3 | apply ih4 | apply ih5 | apply ih6 | apply impl_NumDo.mono | apply impl_restGcd.mono | apply impl_restOf.mono | apply LeO.none | refine LeO.ite ?_ ?_ | refine LeO.bind ?_ (fun _ => ?_))
theorem impl_RestDo.mono : ∀ a0 a1 a2 a3 a4 k, LeO (impl_RestDo.f k a0 a1 a2 a3 a4) (impl_RestDo.f (k + 1) a0 a1 a2 a3 a4) := by
 intro a0 a1 a2 a3 a4 k
 obtain ⟨ih0, ih1, ih2, ih3, ih4, ih5, ih6⟩ := impl_RestDo.mono_l k
 unfold impl_RestDo.f
 repeat' first | (with_reducible first | apply ih0 | apply ih1 | apply ih2 | apply ih3 | apply ih4 | apply ih5 | apply ih6 | apply impl_NumDo.mono | apply impl_restGcd.mono | apply impl_restOf.mono | apply LeO.refl | apply LeO.none | refine LeO.ite ?_ ?_ | refine LeO.bind ?_ (fun _ => ?_)) | apply ih0 | apply ih1 | apply ih2 | apply ih3 | apply ih4 | apply ih5 | apply ih6 | apply impl_NumDo.mono | apply impl_restGcd.mono | apply impl_restOf.mono | apply LeO.none | refine LeO.ite ?_ ?_ | refine LeO.bind ?_ (fun _ => ?_)
def impl_RestDo.T17 : Bool × List (List Nat × List Nat) := (true, [([], []), ([0], [0]), ([], []), ([2], [2]), ([1, 3], [1, 3]), ([], []), ([5], [5]), ([], []), ([7], [7]), ([], []), ([6, 8, 9], [6, 8, 9]), ([10], [10]), ([4, 11, 11], [4, 11]), ([12, 12, 0, 1, 2, 3, 4, 5, 6, 7, 8, 9, 10, 11, 12], [12])])
def impl_RestDo.B17 : List Nat := [0, 1, 0, 4, 15, 0, 32, 0, 128, 0, 992, 2016, 4095, 8191]
theorem impl_RestDo.tab17 : rtab .any (opsOf Try.f81 17) = impl_RestDo.T17 := by kernel_rfl
theorem impl_RestDo.bits17 : waitsOk impl_RestDo.T17.2 impl_RestDo.B17 = true := by kernel_rfl
def impl_RestDo.T20 : Bool × List (List Nat × List Nat) := (true, [([], []), ([0], [0]), ([], []), ([2], [2]), ([1, 3], [1, 3]), ([], []), ([5], [5]), ([], []), ([7], [7]), ([], []), ([6, 8, 9], [6, 8, 9]), ([10], [10]), ([4, 11, 11], [4, 11]), ([12, 12, 0, 1, 2, 3, 4, 5, 6, 7, 8, 9, 10, 11, 12], [12])])
def impl_RestDo.B20 : List Nat := [0, 1, 0, 4, 15, 0, 32, 0, 128, 0, 992, 2016, 4095, 8191]
theorem impl_RestDo.tab20 : rtab .any (opsOf Try.f81 20) = impl_RestDo.T20 := by kernel_rfl
theorem impl_RestDo.bits20 : waitsOk impl_RestDo.T20.2 impl_RestDo.B20 = true := by kernel_rfl
def impl_RestDo.T26 : Bool × List (List Nat × List Nat) := (true, [([], []), ([0], [0]), ([], []), ([2], [2]), ([1, 3], [1, 3]), ([], []), ([], []), ([5, 6], [5, 6]), ([7], [7]), ([4, 8, 8], [4, 8]), ([9, 9, 0, 1, 2, 3, 4, 5, 6, 7, 8, 9], [9])])
def impl_RestDo.B26 : List Nat := [0, 1, 0, 4, 15, 0, 0, 96, 224, 511, 1023]
theorem impl_RestDo.tab26 : rtab .any (opsOf Try.f81 26) = impl_RestDo.T26 := by kernel_rfl
theorem impl_RestDo.bits26 : waitsOk impl_RestDo.T26.2 impl_RestDo.B26 = true := by kernel_rfl
set_option maxHeartbeats 8000000 in
set_option maxRecDepth 100000 in
theorem impl_RestDo.calls (k : Nat) (a0 : Int) (a1_0 : Int) (a1_1 : Int) (a2_0 : Int) (a2_1 : Int) (r1 : Int) (r2 : Int) (w : World) (h : impl_RestDo.f k a0 a1_0 a1_1 a2_0 a2_1 = some (r1, r2)) :
  Calls Try.prog 81 #[.int .i64 a0, .agg #[.int .i64 a1_0, .int .i64 a1_1], .agg #[.int .i64 a2_0, .int .i64 a2_1]] w fun e w' => e = .returned (.agg #[.int .i64 r1, .int .i64 r2]) ∧ Below w.heap.size w w' := by
 have hu86 := Try.underlying86
 have HB := am (Below.refl w.heap.size w)
 have H : ((impl_numOp.f a0).bind fun t1 => (if t1 = true then ((impl_RestOk.f a1_0 a1_1).bind fun t2 => (if t2 = true then ((impl_RestOk.f a2_0 a2_1).bind fun t3 => (impl_RestDo.j0 k a0 (!t3) a1_0 a1_1 a2_0 a2_1)) else (impl_RestDo.j0 k a0 true a1_0 a1_1 a2_0 a2_1))) else (impl_RestDo.j0 k a0 true a1_0 a1_1 a2_0 a2_1))) = some (r1, r2) := h
 clear h
 have C1 := am H
 clear H
 go_enter Try.func81, Try.ntmps81
 go_upto_region 1 with (first | ((with_reducible refine gate_dst (N := 4) rfl ?_); refine bxn 4 #[.int .i64 a1_0, .int .i64 a1_1] 86 HB fun g1 w2 K1 G1 hg hb => ?_; replace HB := am (below_step (YA HB) hb); clear hb hg) | ((with_reducible refine gate_dst (N := 5) rfl ?_); refine bxn 5 #[.int .i64 a2_0, .int .i64 a2_1] 86 HB fun g2 w3 K2 G2 hg hb => ?_; obtain ⟨N1,N2⟩ := ne_ hg K1; obtain ⟨K1, HB⟩ := bk1 K1 HB hb; clear hb hg) | ((with_reducible refine gate_dst (N := 6) rfl ?_); refine bxn 6 #[.int .i64 0, .int .i64 0] 86 HB fun g3 w4 K3 G3 hg hb => ?_; obtain ⟨N3,N4⟩ := ne_ hg K1; obtain ⟨N5,N6⟩ := ne_ hg K2; obtain ⟨K1, K2, HB⟩ := bk2 K1 K2 HB hb; clear hb hg))
 (try simp only [Act.put, List.setIfInBounds_toArray, List.set_cons_zero, List.set_cons_succ])
 go_cut [25] (fun v1 wc => ∃ (kq : Nat) (x1 : Bool), v1 = .bool x1 ∧ Aside0 (impl_RestDo.j0 kq a0 x1 a1_0 a1_1 a2_0 a2_1 = some (r1, r2)) ∧ Aside0 (kq ≤ k) ∧ Bx2 wc g1 a1_0 a1_1 86 ∧ Bx2 wc g2 a2_0 a2_1 86 ∧ Bx2 wc g3 0 0 86 ∧ Aside0 (Below w.heap.size w wc))
 case first =>
  have H := C1.out
  clear C1
  obtain ⟨t1, A1, H⟩ := bd H
  try dsimp only at H
  by_cases c1 : t1 = true
  rotate_left
  ·replace c1 := Bool.eq_false_iff.mpr c1
   subst c1
   rw [if_neg ff] at H
   have H' := am H
   clear H
   go_wp2_with (first | ((with_reducible refine gate_callee (f := 45) rfl ?_); refine goesL_ (some 14) rfl rfl Try.func45 (by kernel_rfl) rfl #[.int .i64 a0] rfl mz ?_; (with_reducible refine (impl_numOp.calls _ _ _ A1.out).mono ?_); rintro e w' ⟨rfl, ⟨nd, rfl⟩⟩; refine ⟨_, rfl, ?_⟩))
   go_meet
   case rel => exact ⟨_, (true), ey, H', le0, ⟨Z K1⟩, ⟨Z K2⟩, ⟨Z K3⟩, ⟨YA HB⟩⟩
  subst c1
  rw [if_pos rfl] at H
  obtain ⟨t2, A2, H⟩ := bd H
  try dsimp only at H
  by_cases c2 : t2 = true
  rotate_left
  ·replace c2 := Bool.eq_false_iff.mpr c2
   subst c2
   rw [if_neg ff] at H
   have H' := am H
   clear H
   go_wp2_with (first | ((with_reducible refine gate_callee (f := 45) rfl ?_); refine goesL_ (some 14) rfl rfl Try.func45 (by kernel_rfl) rfl #[.int .i64 a0] rfl mz ?_; (with_reducible refine (impl_numOp.calls _ _ _ A1.out).mono ?_); rintro e w' ⟨rfl, ⟨nd, rfl⟩⟩; refine ⟨_, rfl, ?_⟩; have z_ := ns2 N1 N3; have z_ := cB2 K1) | (go_at_call 108; (with_reducible refine (impl_RestOk.calls _ _ _ _ A2.out).mono ?_); rintro e w5 ⟨rfl, hb⟩; obtain ⟨K1, K2, K3, HB⟩ := bk3 K1 K2 K3 HB hb; (try clear hb)))
   go_meet
   case rel => exact ⟨_, (true), ey, H', le0, ⟨Z K1⟩, ⟨Z K2⟩, ⟨Z K3⟩, ⟨YA HB⟩⟩
  subst c2
  rw [if_pos rfl] at H
  obtain ⟨t3, A3, H⟩ := bd H
  try dsimp only at H
  have H' := am H
  clear H
  go_wp2_with (first | ((with_reducible refine gate_callee (f := 45) rfl ?_); refine goesL_ (some 14) rfl rfl Try.func45 (by kernel_rfl) rfl #[.int .i64 a0] rfl mz ?_; (with_reducible refine (impl_numOp.calls _ _ _ A1.out).mono ?_); rintro e w' ⟨rfl, ⟨nd, rfl⟩⟩; refine ⟨_, rfl, ?_⟩; have z_ := ns2 N1 N3; have z_ := cB2 K1) | (go_at_call 108; (with_reducible refine (impl_RestOk.calls _ _ _ _ A2.out).mono ?_); rintro e w5 ⟨rfl, hb⟩; obtain ⟨K1, K2, K3, HB⟩ := bk3 K1 K2 K3 HB hb; (try clear hb); have z_ := ns1 N5; have z_ := cB2 K2) | (go_at_call 108; (with_reducible refine (impl_RestOk.calls _ _ _ _ A3.out).mono ?_); rintro e w6 ⟨rfl, hb⟩; obtain ⟨K1, K2, K3, HB⟩ := bk3 K1 K2 K3 HB hb; (try clear hb)))
  go_meet
  case rel => exact ⟨_, (!t3), ey, H', le0, ⟨Z K1⟩, ⟨Z K2⟩, ⟨Z K3⟩, ⟨YA HB⟩⟩
 case rest =>
  clear C1
  obtain ⟨kq, x1, rfl, HA, J1, K1, K2, K3, HB⟩ := hcut
  cases kq with
  | zero => exact absurd HA.out (by simp [impl_RestDo.j0])
  | succ k1 =>
   have H := HA.out
   clear HA
   simp only [impl_RestDo.j0] at H
   by_cases c1 : x1 = true
   ·subst c1
    rw [if_pos rfl] at H
    obtain ⟨⟨t4, t5⟩, A1, H⟩ := bd H
    try dsimp only at H
    simp only [Option.some.injEq, Prod.mk.injEq] at H
    obtain ⟨rfl, rfl⟩ := H
    go_wp2_with (first | ((with_reducible refine gate_callee (f := 111) rfl ?_); refine gL 26 Try.func111 (impl_restAll.calls _ _ _ A1.out) fun w5 hb => ?_; obtain ⟨K1, K2, K3, HB⟩ := bk3 K1 K2 K3 HB hb; (try clear hb); have z_ := ns2 N4 N6; have z_ := cB2 K3))
    refine bodyPost_ret (results_cell_row rfl _ _ g3 86 #[.int .i64 t4, .int .i64 t5] (0, 0) _ rfl (by refine pf ?_; refine blk_put (cs := #[.int .i64 t4, .int .i64 0]) ?_ 1 _ rfl; refine pf ?_; refine blk_put (cs := #[.int .i64 0, .int .i64 0]) ?_ 0 _ rfl; exact Z K3) Try.underlying86 rfl (by kernel_rfl)) rfl ?_
    exact ⟨ez, YA HB⟩
   replace c1 := Bool.eq_false_iff.mpr c1
   subst c1
   rw [if_neg ff] at H
   have C2 := am H
   clear H
   go_upto_region 3 with (fail)
   go_cut [34] (fun v2 wc => ∃ (kq : Nat) (x2 : Bool), v2 = .bool x2 ∧ Aside0 (impl_RestDo.j1 kq a0 x2 a1_0 a1_1 a2_0 a2_1 = some (r1, r2)) ∧ Aside0 (kq ≤ k1) ∧ Bx2 wc g1 a1_0 a1_1 86 ∧ Bx2 wc g2 a2_0 a2_1 86 ∧ Bx2 wc g3 0 0 86 ∧ Aside0 (Below w.heap.size w wc))
   case first =>
    have H := C2.out
    clear C2
    by_cases c2 : a1_0 = 0
    rotate_left
    ·rw [if_neg c2] at H
     have d1 := eF c2
     have d2 := nT c2
     (first | rw [d1] | (simp only [i64_w, i32_w]; rw [d1]) | skip)
     have H' := am H
     clear H
     have z_ := ns2 N1 N3
     have z_ := cB2 K1
     go_wp2
     go_meet
     case rel => exact ⟨_, (false), ey, H', le1 J1, ⟨Z K1⟩, ⟨Z K2⟩, ⟨Z K3⟩, ⟨YA HB⟩⟩
    rw [if_pos c2] at H
    have d1 := eT c2
    have d2 := nF c2
    clear c2
    (first | rw [d1] | (simp only [i64_w, i32_w]; rw [d1]) | skip)
    have H' := am H
    clear H
    have z_ := ns3 N1 N3 N5
    have z_ := cB2 K1
    have z_ := cB2 K2
    go_wp2
    go_meet
    case rel => exact ⟨_, ((a2_0 == 0)), ey, H', le1 J1, ⟨Z K1⟩, ⟨Z K2⟩, ⟨Z K3⟩, ⟨YA HB⟩⟩
   case rest =>
    clear C2
    try clear c1
    obtain ⟨kq, x2, rfl, HA, J2, K1, K2, K3, HB⟩ := hcut
    cases kq with
    | zero => exact absurd HA.out (by simp [impl_RestDo.j1])
    | succ k2 =>
     have H := HA.out
     clear HA
     simp only [impl_RestDo.j1] at H
     by_cases c2 : x2 = true
     ·subst c2
      rw [if_pos rfl] at H
      obtain ⟨⟨t4, t5⟩, A1, H⟩ := bd H
      try dsimp only at H
      by_cases c3 : t5 = 0
      ·rw [if_pos c3] at H
       have d1 := eT c3
       have d2 := nF c3
       clear c3
       simp only [Option.some.injEq, Prod.mk.injEq] at H
       obtain ⟨rfl, rfl⟩ := H
       have z_ := ns3 N1 N3 N5
       have z_ := cB2 K1
       have z_ := cB2 K2
       go_wp2_with (first | ((with_reducible refine gate_callee (f := 17) rfl ?_); refine goesL_ (some 41) rfl rfl Try.func17 (by kernel_rfl) rfl #[.int .i64 a0, .int .i64 a1_1, .int .i64 a2_1] rfl mz ?_; (with_reducible refine (impl_NumDo.calls _ _ _ _ _ _ _ A1.out).mono ?_); rintro e w' ⟨rfl, ⟨nd, rfl⟩⟩; refine ⟨_, rfl, ?_⟩; (try (rw [drewN_self wc]; generalize hq_ : World.drewN wc _ = wc; replace K1 : Bx2 wc g1 a1_0 a1_1 86 := ⟨by rw [← hq_]; exact (Z K1)⟩; replace K2 : Bx2 wc g2 a2_0 a2_1 86 := ⟨by rw [← hq_]; exact (Z K2)⟩; replace K3 : Bx2 wc g3 0 0 86 := ⟨by rw [← hq_]; exact (Z K3)⟩; replace HB : Aside0 (Below w.heap.size w wc) := ⟨by rw [← hq_]; exact (YA HB)⟩; clear hq_)); have z_ := cB2 K3))
       refine bodyPost_ret (results_cell_row rfl _ _ g3 86 #[.int .i64 0, .int .i64 t4] (0, 0) _ rfl (by refine pf ?_; refine blk_put (cs := #[.int .i64 0, .int .i64 0]) ?_ 1 _ rfl; refine pf ?_; refine blk_put (cs := #[.int .i64 0, .int .i64 0]) ?_ 0 _ rfl; exact Z K3) Try.underlying86 rfl (by kernel_rfl)) rfl ?_
       exact ⟨ez, YA HB⟩
      rw [if_neg c3] at H
      have d1 := eF c3
      have d2 := nT c3
      obtain ⟨⟨t6, t7⟩, A2, H⟩ := bd H
      try dsimp only at H
      simp only [Option.some.injEq, Prod.mk.injEq] at H
      obtain ⟨rfl, rfl⟩ := H
      have z_ := ns3 N1 N3 N5
      have z_ := cB2 K1
      have z_ := cB2 K2
      go_wp2_with (first | ((with_reducible refine gate_callee (f := 17) rfl ?_); refine goesL_ (some 41) rfl rfl Try.func17 (by kernel_rfl) rfl #[.int .i64 a0, .int .i64 a1_1, .int .i64 a2_1] rfl mz ?_; (with_reducible refine (impl_NumDo.calls _ _ _ _ _ _ _ A1.out).mono ?_); rintro e w' ⟨rfl, ⟨nd, rfl⟩⟩; refine ⟨_, rfl, ?_⟩; (try (rw [drewN_self wc]; generalize hq_ : World.drewN wc _ = wc; replace K1 : Bx2 wc g1 a1_0 a1_1 86 := ⟨by rw [← hq_]; exact (Z K1)⟩; replace K2 : Bx2 wc g2 a2_0 a2_1 86 := ⟨by rw [← hq_]; exact (Z K2)⟩; replace K3 : Bx2 wc g3 0 0 86 := ⟨by rw [← hq_]; exact (Z K3)⟩; replace HB : Aside0 (Below w.heap.size w wc) := ⟨by rw [← hq_]; exact (YA HB)⟩; clear hq_))) | ((with_reducible refine gate_callee (f := 111) rfl ?_); refine gL 46 Try.func111 (impl_restAll.calls _ _ _ A2.out) fun w5 hb => ?_; obtain ⟨K1, K2, K3, HB⟩ := bk3 K1 K2 K3 HB hb; (try clear hb); have z_ := cB2 K3))
      refine bodyPost_ret (results_cell_row rfl _ _ g3 86 #[.int .i64 t6, .int .i64 t7] (0, 0) _ rfl (by refine pf ?_; refine blk_put (cs := #[.int .i64 t6, .int .i64 0]) ?_ 1 _ rfl; refine pf ?_; refine blk_put (cs := #[.int .i64 0, .int .i64 0]) ?_ 0 _ rfl; exact Z K3) Try.underlying86 rfl (by kernel_rfl)) rfl ?_
      exact ⟨ez, YA HB⟩
     replace c2 := Bool.eq_false_iff.mpr c2
     subst c2
     rw [if_neg ff] at H
     have C3 := am H
     clear H
     go_upto_block 0 with (fail)
     go_cut [9] (fun v3 wc => ∃ (kq : Nat) (x3 : Int), v3 = .int .i64 x3 ∧ Aside0 (impl_RestDo.j2 kq a0 x3 a1_0 a1_1 a2_0 a2_1 = some (r1, r2)) ∧ Aside0 (kq ≤ k2) ∧ Bx2 wc g1 a1_0 a1_1 86 ∧ Bx2 wc g2 a2_0 a2_1 86 ∧ Bx2 wc g3 0 0 86 ∧ Aside0 (Below w.heap.size w wc))
     case first =>
      have H := C3.out
      clear C3
      by_cases c3 : a0 = 11
      ·rw [if_pos c3] at H
       have d1 := eT c3
       have d2 := nF c3
       clear c3
       (first | rw [d1] | (simp only [i64_w, i32_w]; rw [d1]) | skip)
       have H' := am H
       clear H
       go_wp2
       go_meet
       case rel => exact ⟨_, (4294967296), ey, H', ⟨by have := J1.out; have := J2.out; first | omega | exact Nat.le_refl _⟩, ⟨Z K1⟩, ⟨Z K2⟩, ⟨Z K3⟩, ⟨YA HB⟩⟩
      rw [if_neg c3] at H
      have d1 := eF c3
      have d2 := nT c3
      (first | rw [d1] | (simp only [i64_w, i32_w]; rw [d1]) | skip)
      by_cases c4 : a0 = 12
      ·rw [if_pos c4] at H
       have d3 := eT c4
       have d4 := nF c4
       clear c4
       have H' := am H
       clear H
       go_wp2
       go_meet
       case rel => exact ⟨_, (4294967296), ey, H', ⟨by have := J1.out; have := J2.out; first | omega | exact Nat.le_refl _⟩, ⟨Z K1⟩, ⟨Z K2⟩, ⟨Z K3⟩, ⟨YA HB⟩⟩
      rw [if_neg c4] at H
      have d3 := eF c4
      have d4 := nT c4
      by_cases c5 : a0 = 13
      rotate_left
      ·rw [if_neg c5] at H
       have d5 := eF c5
       have d6 := nT c5
       have H' := am H
       clear H
       go_wp2
       go_meet
       case rel => exact ⟨_, (0), ey, H', ⟨by have := J1.out; have := J2.out; first | omega | exact Nat.le_refl _⟩, ⟨Z K1⟩, ⟨Z K2⟩, ⟨Z K3⟩, ⟨YA HB⟩⟩
      rw [if_pos c5] at H
      have d5 := eT c5
      have d6 := nF c5
      clear c5
      have H' := am H
      clear H
      go_wp2
      go_meet
      case rel => exact ⟨_, (4294967296), ey, H', ⟨by have := J1.out; have := J2.out; first | omega | exact Nat.le_refl _⟩, ⟨Z K1⟩, ⟨Z K2⟩, ⟨Z K3⟩, ⟨YA HB⟩⟩
     case rest =>
      clear C3
      try clear c2
      obtain ⟨kq, x3, rfl, HA, J3, K1, K2, K3, HB⟩ := hcut
      cases kq with
      | zero => exact absurd HA.out (by simp [impl_RestDo.j2])
      | succ k3 =>
       have H := HA.out
       clear HA
       simp only [impl_RestDo.j2] at H
       have C4 := am H
       clear H
       go_upto_if 55 with (fail)
       go_cut [55] (fun v4 wc => ∃ (kq : Nat) (x4 : Bool), v4 = .bool x4 ∧ Aside0 (impl_RestDo.j3 kq x3 a0 x4 a1_0 a1_1 a2_0 a2_1 = some (r1, r2)) ∧ Aside0 (kq ≤ k3) ∧ Bx2 wc g1 a1_0 a1_1 86 ∧ Bx2 wc g2 a2_0 a2_1 86 ∧ Bx2 wc g3 0 0 86 ∧ Aside0 (Below w.heap.size w wc))
       case first =>
        have H := C4.out
        clear C4
        by_cases c3 : a0 = 1
        rotate_left
        ·rw [if_neg c3] at H
         have d1 := eF c3
         have d2 := nT c3
         (first | rw [d1] | (simp only [i64_w, i32_w]; rw [d1]) | skip)
         have H' := am H
         clear H
         go_wp2
         go_meet
         case rel => exact ⟨_, ((a0 == 11)), ey, H', ⟨by have := J1.out; have := J2.out; have := J3.out; first | omega | exact Nat.le_refl _⟩, ⟨Z K1⟩, ⟨Z K2⟩, ⟨Z K3⟩, ⟨YA HB⟩⟩
        rw [if_pos c3] at H
        have d1 := eT c3
        have d2 := nF c3
        clear c3
        (first | rw [d1] | (simp only [i64_w, i32_w]; rw [d1]) | skip)
        have H' := am H
        clear H
        go_wp2
        go_meet
        case rel => exact ⟨_, ((a0 == 1)), ey, H', ⟨by have := J1.out; have := J2.out; have := J3.out; first | omega | exact Nat.le_refl _⟩, ⟨Z K1⟩, ⟨Z K2⟩, ⟨Z K3⟩, ⟨YA HB⟩⟩
       case rest =>
        clear C4
        obtain ⟨kq, x4, rfl, HA, J4, K1, K2, K3, HB⟩ := hcut
        cases kq with
        | zero => exact absurd HA.out (by simp [impl_RestDo.j3])
        | succ k4 =>
         have H := HA.out
         clear HA
         simp only [impl_RestDo.j3] at H
         by_cases c3 : x4 = true
         ·subst c3
          rw [if_pos rfl] at H
          obtain ⟨y1, y2⟩ : ∃ y_ : List Int, y_ = (([a1_0, a2_0, x3] : List Int)) := ⟨_, rfl⟩
          replace H : ((impl_restGcd.f k4 y1).bind fun t4 => ((impl_restOf.f k4 (wrap64 (a1_1 + a2_1)) t4).bind fun u1 => (some (u1.1, u1.2)))) = some (r1, r2) := by first | (rw [y2]; with_reducible exact H) | (have H2_ := (Option.bind_some _ _).symm.trans H; rw [y2]; with_reducible exact H2_) | (have H2_ := (Option.bind_some _ _).symm.trans H; with_reducible exact H2_) | with_reducible exact H | (rw [y2]; exact H) | exact H
          have Y25 := am y2
          clear y2
          obtain ⟨t4, A1, H⟩ := bd H
          try dsimp only at H
          obtain ⟨⟨t5, t6⟩, A2, H⟩ := bd H
          try dsimp only at H
          simp only [Option.some.injEq, Prod.mk.injEq] at H
          obtain ⟨rfl, rfl⟩ := H
          try go_wp2
          obtain ⟨K1, K2, K3, HB⟩ := dk3 K1 K2 K3 HB
          refine start_ (n := 14) (S := fun w' => w'.cell? ⟨g1, 0, none⟩ = some (.int .i64 a1_0) ∧ w'.cell? ⟨g1, 1, none⟩ = some (.int .i64 a1_1) ∧ w'.cell? ⟨g2, 0, none⟩ = some (.int .i64 a2_0) ∧ w'.cell? ⟨g2, 1, none⟩ = some (.int .i64 a2_1)) (ds := []) (lb 14 0) (by kernel_rfl) rfl rfl ⟨bc K1 0, bc K1 1, bc K2 0, bc K2 1⟩ (fun hHeld => ?_); refine with_tabW impl_RestDo.tab17 impl_RestDo.bits17 (fun HT_ HW_ => ?_)
          generalize wc.drew = w5 at K1 K2 K3 HB hHeld ⊢
          refine pk 0 58 1 ?_
          refine pk 2 60 5 ?_
          refine pk 5 63 37 ?_
          refine pk 7 65 165 ?_
          refine pk 9 67 677 ?_
          refine tk 1 59 679 hHeld ?_
          refine tk 3 61 687 hHeld ?_
          refine pk 4 62 703 ?_
          refine tk 6 64 767 hHeld ?_
          refine tk 8 66 1023 hHeld ?_
          refine on 10 (some 68) 2047 fun K hK => ?_
          refine Kd.R_lit_step (Kd.int .i64) _ 3 ?hg (N := 68) ?hd (xs := ([a1_0, a2_0, x3] : List Int)) (inner := [.int .i64 a1_0, .int .i64 a2_0, .int .i64 x3]) (ok := fun _ => True) (okp := fun _ => True) ?hr ?hp (fun _ hk => hk) trivial (Below.refl _ _) (Nat.le_refl _) (by simp) ?_; (case hd => rfl); (case hg => rfl); (case hr => first | (go_simp; done) | (go_simp; rfl)); (case hp => exact (Reps.one (show Kd.M (Kd.int .i64) _ _ _ a1_0 [.int .i64 a1_0] from rfl) (Reps.one (show Kd.M (Kd.int .i64) _ _ _ a2_0 [.int .i64 a2_0] from rfl) (Reps.one (show Kd.M (Kd.int .i64) _ _ _ x3 [.int .i64 x3] from rfl) (Reps.none _ _)))))
          intro v5 w6 o1 hb hg_ hnew_
          clear hg_ hnew_
          (first | rw [← Y25.out] at o1 | (simp only [Int.reduceToNat] at o1; rw [← Y25.out] at o1))
          have O1 := am (Kd.R_lower o1 (below_size (YA HB)))
          obtain ⟨K1, K2, K3, HB⟩ := bk3 K1 K2 K3 HB hb
          clear hb o1
          obtain ⟨q1, f1, e1⟩ := Kd.R_slice O1.out
          (first | subst e1 | (injection e1 with f1_ f2_ f3_; have f4_ := f1_.symm; have f5_ := f3_.symm; clear f1_ f2_ f3_; subst f4_; subst f5_))
          refine kk hK ⟨bc K1 0, bc K1 1, bc K2 0, bc K2 1⟩ fun hHeld => ?_
          clear hK K
          refine on 11 (some 69) 4095 fun K hK => ?_
          refine goes_ Try.func113 (by kernel_rfl) rfl #[.slice q1 y1.length f1] (by rfl) rfl rfl mz ?_
          with_reducible refine (impl_restGcd.calls k4 _ _ y1 t4 _ ?side1 ?side2 A1.out).mono ?_
          (case side1 => repeat (first | exact (Kd.R_reads' O1.out).2.2 | (with_reducible refine Kd.C_alloc ?_ _) | (with_reducible refine Kd.C_drewN ?_ _) | (with_reducible refine Kd.C_drew ?_)))
          (case side2 => exact (Kd.R_reads' O1.out).2.1)
          rintro e w' ⟨rfl, ⟨nd, rfl⟩⟩
          refine ⟨_, rfl, ?_⟩
          refine kk hK ⟨bc K1 0, bc K1 1, bc K2 0, bc K2 1⟩ fun hHeld => ?_
          clear hK K
          refine on 12 (some 70) 8191 fun K hK => ?_
          refine gq Try.func112 (impl_restOf.calls _ _ _ _ _ _ A2.out) fun w7 hb => ?_
          replace O1 := am (Kd.R_below (RZ O1) hb)
          obtain ⟨K1, K2, K3, HB⟩ := bk3 K1 K2 K3 HB hb
          clear hb
          refine kk hK ⟨bc K1 0, bc K1 1, bc K2 0, bc K2 1⟩ fun hHeld => ?_
          clear hK K
          refine on 13 none 16383 fun K hK => ?_
          have s1 : w7.cell? ⟨g3, 0, none⟩ = some (.int .i64 0) := bc K3 0
          have hfs71 := blk_frozen K3.out 0
          have z_ := ns4 N3 N5 N4 N6
          have s2 : w7.cell? ⟨g3, 1, none⟩ = some (.int .i64 0) := bc K3 1
          have hfs72 := blk_frozen K3.out 1
          have z_ := ns4 N3 N5 N4 N6
          refine skip_ (w1 := ?_) (by rfl) rfl ?_ ?_
          rotate_left
          ·go_simp
           rfl
          refine hK.out _ _ ⟨(cf N3 ((cf N3 (hHeld.1)))), (cf N3 ((cf N3 (hHeld.2.1)))), (cf N5 ((cf N5 (hHeld.2.2.1)))), (cf N5 ((cf N5 (hHeld.2.2.2))))⟩ (fun hHeld => ?_)
          clear hK K
          refine done_ (done_of HT_.out (by kernel_rfl)) ?_
          try go_wp2
          refine bodyPost_ret (results_cell_row rfl _ _ g3 86 #[.int .i64 t5, .int .i64 t6] (0, 0) _ rfl (by refine pf ?_; refine blk_put (cs := #[.int .i64 t5, .int .i64 0]) ?_ 1 _ rfl; refine pf ?_; refine blk_put (cs := #[.int .i64 0, .int .i64 0]) ?_ 0 _ rfl; exact Z K3) Try.underlying86 rfl (by kernel_rfl)) rfl ?_
          exact ⟨ez, YA HB⟩
         replace c3 := Bool.eq_false_iff.mpr c3
         subst c3
         rw [if_neg ff] at H
         have C5 := am H
         clear H
         go_upto_if 71 with (fail)
         go_cut [71] (fun v5 wc => ∃ (kq : Nat) (x5 : Bool), v5 = .bool x5 ∧ Aside0 (impl_RestDo.j4 kq x3 a0 x5 a1_0 a1_1 a2_0 a2_1 = some (r1, r2)) ∧ Aside0 (kq ≤ k4) ∧ Bx2 wc g1 a1_0 a1_1 86 ∧ Bx2 wc g2 a2_0 a2_1 86 ∧ Bx2 wc g3 0 0 86 ∧ Aside0 (Below w.heap.size w wc))
         case first =>
          have H := C5.out
          clear C5
          by_cases c4 : a0 = 2
          rotate_left
          ·rw [if_neg c4] at H
           have d1 := eF c4
           have d2 := nT c4
           (first | rw [d1] | (simp only [i64_w, i32_w]; rw [d1]) | skip)
           have H' := am H
           clear H
           go_wp2
           go_meet
           case rel => exact ⟨_, ((a0 == 12)), ey, H', ⟨by have := J1.out; have := J2.out; have := J3.out; have := J4.out; first | omega | exact Nat.le_refl _⟩, ⟨Z K1⟩, ⟨Z K2⟩, ⟨Z K3⟩, ⟨YA HB⟩⟩
          rw [if_pos c4] at H
          have d1 := eT c4
          have d2 := nF c4
          clear c4
          (first | rw [d1] | (simp only [i64_w, i32_w]; rw [d1]) | skip)
          have H' := am H
          clear H
          go_wp2
          go_meet
          case rel => exact ⟨_, ((a0 == 2)), ey, H', ⟨by have := J1.out; have := J2.out; have := J3.out; have := J4.out; first | omega | exact Nat.le_refl _⟩, ⟨Z K1⟩, ⟨Z K2⟩, ⟨Z K3⟩, ⟨YA HB⟩⟩
         case rest =>
          clear C5
          try clear c3
          obtain ⟨kq, x5, rfl, HA, J5, K1, K2, K3, HB⟩ := hcut
          cases kq with
          | zero => exact absurd HA.out (by simp [impl_RestDo.j4])
          | succ k5 =>
           have H := HA.out
           clear HA
           simp only [impl_RestDo.j4] at H
           by_cases c4 : x5 = true
           ·subst c4
            rw [if_pos rfl] at H
            obtain ⟨y1, y2⟩ : ∃ y_ : List Int, y_ = (([a1_0, a2_0, x3] : List Int)) := ⟨_, rfl⟩
            replace H : ((impl_restGcd.f k5 y1).bind fun t4 => ((impl_restOf.f k5 (wrap64 (a1_1 - a2_1)) t4).bind fun u1 => (some (u1.1, u1.2)))) = some (r1, r2) := by first | (rw [y2]; with_reducible exact H) | (have H2_ := (Option.bind_some _ _).symm.trans H; rw [y2]; with_reducible exact H2_) | (have H2_ := (Option.bind_some _ _).symm.trans H; with_reducible exact H2_) | with_reducible exact H | (rw [y2]; exact H) | exact H
            have Y25 := am y2
            clear y2
            obtain ⟨t4, A1, H⟩ := bd H
            try dsimp only at H
            obtain ⟨⟨t5, t6⟩, A2, H⟩ := bd H
            try dsimp only at H
            simp only [Option.some.injEq, Prod.mk.injEq] at H
            obtain ⟨rfl, rfl⟩ := H
            try go_wp2
            obtain ⟨K1, K2, K3, HB⟩ := dk3 K1 K2 K3 HB
            refine start_ (n := 14) (S := fun w' => w'.cell? ⟨g1, 0, none⟩ = some (.int .i64 a1_0) ∧ w'.cell? ⟨g1, 1, none⟩ = some (.int .i64 a1_1) ∧ w'.cell? ⟨g2, 0, none⟩ = some (.int .i64 a2_0) ∧ w'.cell? ⟨g2, 1, none⟩ = some (.int .i64 a2_1)) (ds := []) (lb 14 0) (by kernel_rfl) rfl rfl ⟨bc K1 0, bc K1 1, bc K2 0, bc K2 1⟩ (fun hHeld => ?_); refine with_tabW impl_RestDo.tab20 impl_RestDo.bits20 (fun HT_ HW_ => ?_)
            generalize wc.drew = w5 at K1 K2 K3 HB hHeld ⊢
            refine pk 0 74 1 ?_
            refine pk 2 76 5 ?_
            refine pk 5 79 37 ?_
            refine pk 7 81 165 ?_
            refine pk 9 83 677 ?_
            refine tk 1 75 679 hHeld ?_
            refine tk 3 77 687 hHeld ?_
            refine pk 4 78 703 ?_
            refine tk 6 80 767 hHeld ?_
            refine tk 8 82 1023 hHeld ?_
            refine on 10 (some 84) 2047 fun K hK => ?_
            refine Kd.R_lit_step (Kd.int .i64) _ 3 ?hg (N := 84) ?hd (xs := ([a1_0, a2_0, x3] : List Int)) (inner := [.int .i64 a1_0, .int .i64 a2_0, .int .i64 x3]) (ok := fun _ => True) (okp := fun _ => True) ?hr ?hp (fun _ hk => hk) trivial (Below.refl _ _) (Nat.le_refl _) (by simp) ?_; (case hd => rfl); (case hg => rfl); (case hr => first | (go_simp; done) | (go_simp; rfl)); (case hp => exact (Reps.one (show Kd.M (Kd.int .i64) _ _ _ a1_0 [.int .i64 a1_0] from rfl) (Reps.one (show Kd.M (Kd.int .i64) _ _ _ a2_0 [.int .i64 a2_0] from rfl) (Reps.one (show Kd.M (Kd.int .i64) _ _ _ x3 [.int .i64 x3] from rfl) (Reps.none _ _)))))
            intro v6 w6 o1 hb hg_ hnew_
            clear hg_ hnew_
            (first | rw [← Y25.out] at o1 | (simp only [Int.reduceToNat] at o1; rw [← Y25.out] at o1))
            have O1 := am (Kd.R_lower o1 (below_size (YA HB)))
            obtain ⟨K1, K2, K3, HB⟩ := bk3 K1 K2 K3 HB hb
            clear hb o1
            obtain ⟨q1, f1, e1⟩ := Kd.R_slice O1.out
            (first | subst e1 | (injection e1 with f1_ f2_ f3_; have f4_ := f1_.symm; have f5_ := f3_.symm; clear f1_ f2_ f3_; subst f4_; subst f5_))
            refine kk hK ⟨bc K1 0, bc K1 1, bc K2 0, bc K2 1⟩ fun hHeld => ?_
            clear hK K
            refine on 11 (some 85) 4095 fun K hK => ?_
            refine goes_ Try.func113 (by kernel_rfl) rfl #[.slice q1 y1.length f1] (by rfl) rfl rfl mz ?_
            with_reducible refine (impl_restGcd.calls k5 _ _ y1 t4 _ ?side1 ?side2 A1.out).mono ?_
            (case side1 => repeat (first | exact (Kd.R_reads' O1.out).2.2 | (with_reducible refine Kd.C_alloc ?_ _) | (with_reducible refine Kd.C_drewN ?_ _) | (with_reducible refine Kd.C_drew ?_)))
            (case side2 => exact (Kd.R_reads' O1.out).2.1)
            rintro e w' ⟨rfl, ⟨nd, rfl⟩⟩
            refine ⟨_, rfl, ?_⟩
            refine kk hK ⟨bc K1 0, bc K1 1, bc K2 0, bc K2 1⟩ fun hHeld => ?_
            clear hK K
            refine on 12 (some 86) 8191 fun K hK => ?_
            refine gq Try.func112 (impl_restOf.calls _ _ _ _ _ _ A2.out) fun w7 hb => ?_
            replace O1 := am (Kd.R_below (RZ O1) hb)
            obtain ⟨K1, K2, K3, HB⟩ := bk3 K1 K2 K3 HB hb
            clear hb
            refine kk hK ⟨bc K1 0, bc K1 1, bc K2 0, bc K2 1⟩ fun hHeld => ?_
            clear hK K
            refine on 13 none 16383 fun K hK => ?_
            have s1 : w7.cell? ⟨g3, 0, none⟩ = some (.int .i64 0) := bc K3 0
            have hfs83 := blk_frozen K3.out 0
            have z_ := ns4 N3 N5 N4 N6
            have s2 : w7.cell? ⟨g3, 1, none⟩ = some (.int .i64 0) := bc K3 1
            have hfs84 := blk_frozen K3.out 1
            have z_ := ns4 N3 N5 N4 N6
            refine skip_ (w1 := ?_) (by rfl) rfl ?_ ?_
            rotate_left
            ·go_simp
             rfl
            refine hK.out _ _ ⟨(cf N3 ((cf N3 (hHeld.1)))), (cf N3 ((cf N3 (hHeld.2.1)))), (cf N5 ((cf N5 (hHeld.2.2.1)))), (cf N5 ((cf N5 (hHeld.2.2.2))))⟩ (fun hHeld => ?_)
            clear hK K
            refine done_ (done_of HT_.out (by kernel_rfl)) ?_
            try go_wp2
            refine bodyPost_ret (results_cell_row rfl _ _ g3 86 #[.int .i64 t5, .int .i64 t6] (0, 0) _ rfl (by refine pf ?_; refine blk_put (cs := #[.int .i64 t5, .int .i64 0]) ?_ 1 _ rfl; refine pf ?_; refine blk_put (cs := #[.int .i64 0, .int .i64 0]) ?_ 0 _ rfl; exact Z K3) Try.underlying86 rfl (by kernel_rfl)) rfl ?_
            exact ⟨ez, YA HB⟩
           replace c4 := Bool.eq_false_iff.mpr c4
           subst c4
           rw [if_neg ff] at H
           have C6 := am H
           clear H
           go_upto_if 87 with (fail)
           go_cut [87] (fun v6 wc => ∃ (kq : Nat) (x6 : Bool), v6 = .bool x6 ∧ Aside0 (impl_RestDo.j5 kq x3 a0 x6 a1_0 a1_1 a2_0 a2_1 = some (r1, r2)) ∧ Aside0 (kq ≤ k5) ∧ Bx2 wc g1 a1_0 a1_1 86 ∧ Bx2 wc g2 a2_0 a2_1 86 ∧ Bx2 wc g3 0 0 86 ∧ Aside0 (Below w.heap.size w wc))
           case first =>
            have H := C6.out
            clear C6
            by_cases c5 : a0 = 3
            rotate_left
            ·rw [if_neg c5] at H
             have d1 := eF c5
             have d2 := nT c5
             (first | rw [d1] | (simp only [i64_w, i32_w]; rw [d1]) | skip)
             have H' := am H
             clear H
             go_wp2
             go_meet
             case rel => exact ⟨_, ((a0 == 13)), ey, H', ⟨by have := J1.out; have := J2.out; have := J3.out; have := J4.out; have := J5.out; first | omega | exact Nat.le_refl _⟩, ⟨Z K1⟩, ⟨Z K2⟩, ⟨Z K3⟩, ⟨YA HB⟩⟩
            rw [if_pos c5] at H
            have d1 := eT c5
            have d2 := nF c5
            clear c5
            (first | rw [d1] | (simp only [i64_w, i32_w]; rw [d1]) | skip)
            have H' := am H
            clear H
            go_wp2
            go_meet
            case rel => exact ⟨_, ((a0 == 3)), ey, H', ⟨by have := J1.out; have := J2.out; have := J3.out; have := J4.out; have := J5.out; first | omega | exact Nat.le_refl _⟩, ⟨Z K1⟩, ⟨Z K2⟩, ⟨Z K3⟩, ⟨YA HB⟩⟩
           case rest =>
            clear C6
            try clear c4
            obtain ⟨kq, x6, rfl, HA, J6, K1, K2, K3, HB⟩ := hcut
            cases kq with
            | zero => exact absurd HA.out (by simp [impl_RestDo.j5])
            | succ k6 =>
             have H := HA.out
             clear HA
             simp only [impl_RestDo.j5] at H
             by_cases c5 : x6 = true
             ·subst c5
              rw [if_pos rfl] at H
              obtain ⟨y1, y2⟩ : ∃ y_ : List Int, y_ = (([wrap64 (a1_0 * a2_0), wrap64 (a1_0 * a2_1), wrap64 (a2_0 * a1_1)] : List Int)) := ⟨_, rfl⟩
              replace H : ((impl_restGcd.f k6 y1).bind fun t4 => (if t4 = 0 then (some (0, 0)) else ((impl_restGcd.f k6 (([t4, x3] : List Int))).bind fun t5 => ((impl_restOf.f k6 (wrap64 (a1_1 * a2_1)) t5).bind fun u1 => (some (u1.1, u1.2)))))) = some (r1, r2) := by first | (rw [y2]; with_reducible exact H) | (have H2_ := (Option.bind_some _ _).symm.trans H; rw [y2]; with_reducible exact H2_) | (have H2_ := (Option.bind_some _ _).symm.trans H; with_reducible exact H2_) | with_reducible exact H | (rw [y2]; exact H) | exact H
              have Y25 := am y2
              clear y2
              obtain ⟨t4, A1, H⟩ := bd H
              try dsimp only at H
              by_cases c6 : t4 = 0
              ·rw [if_pos c6] at H
               have d1 := eT c6
               have d2 := nF c6
               clear c6
               simp only [Option.some.injEq, Prod.mk.injEq] at H
               obtain ⟨rfl, rfl⟩ := H
               have z_ := ns3 N1 N3 N5
               have z_ := cB2 K1
               have z_ := cB2 K2
               go_wp2_with (first | ((with_reducible refine gate_dst (N := 105) rfl ?_); refine Kd.R_lit (Kd.int .i64) _ 3 ?hg (N := 105) ?hd (xs := ([wrap64 (a1_0 * a2_0), wrap64 (a1_0 * a2_1), wrap64 (a2_0 * a1_1)] : List Int)) (inner := [.int .i64 (wrap64 (a1_0 * a2_0)), .int .i64 (wrap64 (a1_0 * a2_1)), .int .i64 (wrap64 (a2_0 * a1_1))]) (ok := fun _ => True) (okp := fun _ => True) ?hr ?hp (fun _ hk => hk) trivial (Below.refl _ _) (Nat.le_refl _) (by simp) ?_; (case hd => rfl); (case hg => rfl); (case hr => first | (go_simp; done) | (go_simp; rfl)); (case hp => exact (Reps.one (show Kd.M (Kd.int .i64) _ _ _ (wrap64 (a1_0 * a2_0)) [.int .i64 (wrap64 (a1_0 * a2_0))] from rfl) (Reps.one (show Kd.M (Kd.int .i64) _ _ _ (wrap64 (a1_0 * a2_1)) [.int .i64 (wrap64 (a1_0 * a2_1))] from rfl) (Reps.one (show Kd.M (Kd.int .i64) _ _ _ (wrap64 (a2_0 * a1_1)) [.int .i64 (wrap64 (a2_0 * a1_1))] from rfl) (Reps.none _ _))))); intro v7 w5 o1 hb hg_ hnew_; clear hg_ hnew_; (first | rw [← Y25.out] at o1 | (simp only [Int.reduceToNat] at o1; rw [← Y25.out] at o1)); have O1 := am (Kd.R_lower o1 (below_size (YA HB))); obtain ⟨K1, K2, K3, HB⟩ := bk3 K1 K2 K3 HB hb; clear hb o1; obtain ⟨q1, f1, e1⟩ := Kd.R_slice O1.out; subst e1) | ((with_reducible refine gate_callee (f := 113) rfl ?_); refine goesL_ (some 106) rfl rfl Try.func113 (by kernel_rfl) rfl #[.slice q1 y1.length f1] rfl mz ?_; (with_reducible refine (impl_restGcd.calls k6 _ _ y1 t4 _ ?side1 ?side2 A1.out).mono ?_); (case side1 => repeat (first | exact (Kd.R_reads' O1.out).2.2 | (with_reducible refine Kd.C_alloc ?_ _) | (with_reducible refine Kd.C_drewN ?_ _) | (with_reducible refine Kd.C_drew ?_))); (case side2 => exact (Kd.R_reads' O1.out).2.1); rintro e w' ⟨rfl, ⟨nd, rfl⟩⟩; refine ⟨_, rfl, ?_⟩; (try (rw [drewN_self w5]; generalize hq_ : World.drewN w5 _ = w5; replace O1 : Aside0 (Kd.R (Kd.int .i64) 3 w5 w.heap.size (fun _ => True) (.slice q1 y1.length f1) y1) := ⟨by rw [← hq_]; exact (RZ O1)⟩; replace K1 : Bx2 w5 g1 a1_0 a1_1 86 := ⟨by rw [← hq_]; exact (Z K1)⟩; replace K2 : Bx2 w5 g2 a2_0 a2_1 86 := ⟨by rw [← hq_]; exact (Z K2)⟩; replace K3 : Bx2 w5 g3 0 0 86 := ⟨by rw [← hq_]; exact (Z K3)⟩; replace HB : Aside0 (Below w.heap.size w w5) := ⟨by rw [← hq_]; exact (YA HB)⟩; clear hq_)); have z_ := cB2 K3))
               refine bodyPost_ret (results_cell_row rfl _ _ g3 86 #[.int .i64 0, .int .i64 0] (0, 0) _ rfl (by refine pf ?_; refine blk_put (cs := #[.int .i64 0, .int .i64 0]) ?_ 1 _ rfl; refine pf ?_; refine blk_put (cs := #[.int .i64 0, .int .i64 0]) ?_ 0 _ rfl; exact Z K3) Try.underlying86 rfl (by kernel_rfl)) rfl ?_
               exact ⟨ez, YA HB⟩
              rw [if_neg c6] at H
              have d1 := eF c6
              have d2 := nT c6
              obtain ⟨y3, y4⟩ : ∃ y_ : List Int, y_ = (([t4, x3] : List Int)) := ⟨_, rfl⟩
              replace H : ((impl_restGcd.f k6 y3).bind fun t5 => ((impl_restOf.f k6 (wrap64 (a1_1 * a2_1)) t5).bind fun u1 => (some (u1.1, u1.2)))) = some (r1, r2) := by first | (rw [y4]; with_reducible exact H) | (have H2_ := (Option.bind_some _ _).symm.trans H; rw [y4]; with_reducible exact H2_) | (have H2_ := (Option.bind_some _ _).symm.trans H; with_reducible exact H2_) | with_reducible exact H | (rw [y4]; exact H) | exact H
              have Y26 := am y4
              clear y4
              obtain ⟨t5, A2, H⟩ := bd H
              try dsimp only at H
              obtain ⟨⟨t6, t7⟩, A3, H⟩ := bd H
              try dsimp only at H
              simp only [Option.some.injEq, Prod.mk.injEq] at H
              obtain ⟨rfl, rfl⟩ := H
              have z_ := ns3 N1 N3 N5
              have z_ := cB2 K1
              have z_ := cB2 K2
              try go_wp2_with (first | ((with_reducible refine gate_dst (N := 105) rfl ?_); refine Kd.R_lit (Kd.int .i64) _ 3 ?hg (N := 105) ?hd (xs := ([wrap64 (a1_0 * a2_0), wrap64 (a1_0 * a2_1), wrap64 (a2_0 * a1_1)] : List Int)) (inner := [.int .i64 (wrap64 (a1_0 * a2_0)), .int .i64 (wrap64 (a1_0 * a2_1)), .int .i64 (wrap64 (a2_0 * a1_1))]) (ok := fun _ => True) (okp := fun _ => True) ?hr ?hp (fun _ hk => hk) trivial (Below.refl _ _) (Nat.le_refl _) (by simp) ?_; (case hd => rfl); (case hg => rfl); (case hr => first | (go_simp; done) | (go_simp; rfl)); (case hp => exact (Reps.one (show Kd.M (Kd.int .i64) _ _ _ (wrap64 (a1_0 * a2_0)) [.int .i64 (wrap64 (a1_0 * a2_0))] from rfl) (Reps.one (show Kd.M (Kd.int .i64) _ _ _ (wrap64 (a1_0 * a2_1)) [.int .i64 (wrap64 (a1_0 * a2_1))] from rfl) (Reps.one (show Kd.M (Kd.int .i64) _ _ _ (wrap64 (a2_0 * a1_1)) [.int .i64 (wrap64 (a2_0 * a1_1))] from rfl) (Reps.none _ _))))); intro v7 w5 o1 hb hg_ hnew_; clear hg_ hnew_; (first | rw [← Y25.out] at o1 | (simp only [Int.reduceToNat] at o1; rw [← Y25.out] at o1)); have O1 := am (Kd.R_lower o1 (below_size (YA HB))); obtain ⟨K1, K2, K3, HB⟩ := bk3 K1 K2 K3 HB hb; clear hb o1; obtain ⟨q1, f1, e1⟩ := Kd.R_slice O1.out; subst e1) | ((with_reducible refine gate_callee (f := 113) rfl ?_); refine goesL_ (some 106) rfl rfl Try.func113 (by kernel_rfl) rfl #[.slice q1 y1.length f1] rfl mz ?_; (with_reducible refine (impl_restGcd.calls k6 _ _ y1 t4 _ ?side1 ?side2 A1.out).mono ?_); (case side1 => repeat (first | exact (Kd.R_reads' O1.out).2.2 | (with_reducible refine Kd.C_alloc ?_ _) | (with_reducible refine Kd.C_drewN ?_ _) | (with_reducible refine Kd.C_drew ?_))); (case side2 => exact (Kd.R_reads' O1.out).2.1); rintro e w' ⟨rfl, ⟨nd, rfl⟩⟩; refine ⟨_, rfl, ?_⟩; (try (rw [drewN_self w5]; generalize hq_ : World.drewN w5 _ = w5; replace O1 : Aside0 (Kd.R (Kd.int .i64) 3 w5 w.heap.size (fun _ => True) (.slice q1 y1.length f1) y1) := ⟨by rw [← hq_]; exact (RZ O1)⟩; replace K1 : Bx2 w5 g1 a1_0 a1_1 86 := ⟨by rw [← hq_]; exact (Z K1)⟩; replace K2 : Bx2 w5 g2 a2_0 a2_1 86 := ⟨by rw [← hq_]; exact (Z K2)⟩; replace K3 : Bx2 w5 g3 0 0 86 := ⟨by rw [← hq_]; exact (Z K3)⟩; replace HB : Aside0 (Below w.heap.size w w5) := ⟨by rw [← hq_]; exact (YA HB)⟩; clear hq_))))
              replace O1 := am (Kd.R_drew O1.out)
              obtain ⟨K1, K2, K3, HB⟩ := dk3 K1 K2 K3 HB
              refine start_ (n := 11) (S := fun w' => w'.cell? ⟨g1, 0, none⟩ = some (.int .i64 a1_0) ∧ w'.cell? ⟨g1, 1, none⟩ = some (.int .i64 a1_1) ∧ w'.cell? ⟨g2, 0, none⟩ = some (.int .i64 a2_0) ∧ w'.cell? ⟨g2, 1, none⟩ = some (.int .i64 a2_1)) (ds := []) (lb 11 0) (by kernel_rfl) rfl rfl ⟨bc K1 0, bc K1 1, bc K2 0, bc K2 1⟩ (fun hHeld => ?_); refine with_tabW impl_RestDo.tab26 impl_RestDo.bits26 (fun HT_ HW_ => ?_)
              generalize w5.drew = w6 at O1 K1 K2 K3 HB hHeld ⊢
              refine pk 0 110 1 ?_
              refine pk 2 112 5 ?_
              refine pk 5 115 37 ?_
              refine pk 6 116 101 ?_
              refine tk 1 111 103 hHeld ?_
              refine tk 3 113 111 hHeld ?_
              refine pk 4 114 127 ?_
              refine on 7 (some 117) 255 fun K hK => ?_
              refine Kd.R_lit_step (Kd.int .i64) _ 3 ?hg (N := 117) ?hd (xs := ([t4, x3] : List Int)) (inner := [.int .i64 t4, .int .i64 x3]) (ok := fun _ => True) (okp := fun _ => True) ?hr ?hp (fun _ hk => hk) trivial (Below.refl _ _) (Nat.le_refl _) (by simp) ?_; (case hd => rfl); (case hg => rfl); (case hr => first | (go_simp; done) | (go_simp; rfl)); (case hp => exact (Reps.one (show Kd.M (Kd.int .i64) _ _ _ t4 [.int .i64 t4] from rfl) (Reps.one (show Kd.M (Kd.int .i64) _ _ _ x3 [.int .i64 x3] from rfl) (Reps.none _ _))))
              intro v8 w7 o2 hb hg_ hnew_
              clear hg_ hnew_
              (first | rw [← Y26.out] at o2 | (simp only [Int.reduceToNat] at o2; rw [← Y26.out] at o2))
              have O2 := am (Kd.R_lower (Kd.R_new' o2 (Kd.R_lt (RZ O1))) (below_size (YA HB)))
              replace O1 := am (Kd.R_elder' (RZ O1) (Kd.R_base o2) hb)
              obtain ⟨K1, K2, K3, HB⟩ := bk3 K1 K2 K3 HB hb
              clear hb o2
              obtain ⟨q2, f2, e2⟩ := Kd.R_slice O2.out
              (first | subst e2 | (injection e2 with f1_ f2_ f3_; have f4_ := f1_.symm; have f5_ := f3_.symm; clear f1_ f2_ f3_; subst f4_; subst f5_))
              refine kk hK ⟨bc K1 0, bc K1 1, bc K2 0, bc K2 1⟩ fun hHeld => ?_
              clear hK K
              refine on 8 (some 118) 511 fun K hK => ?_
              refine goes_ Try.func113 (by kernel_rfl) rfl #[.slice q2 y3.length f2] (by rfl) rfl rfl mz ?_
              with_reducible refine (impl_restGcd.calls k6 _ _ y3 t5 _ ?side1 ?side2 A2.out).mono ?_
              (case side1 => repeat (first | exact (Kd.R_reads' O2.out).2.2 | (with_reducible refine Kd.C_alloc ?_ _) | (with_reducible refine Kd.C_drewN ?_ _) | (with_reducible refine Kd.C_drew ?_)))
              (case side2 => exact (Kd.R_reads' O2.out).2.1)
              rintro e w' ⟨rfl, ⟨nd, rfl⟩⟩
              refine ⟨_, rfl, ?_⟩
              refine kk hK ⟨bc K1 0, bc K1 1, bc K2 0, bc K2 1⟩ fun hHeld => ?_
              clear hK K
              refine on 9 (some 119) 1023 fun K hK => ?_
              refine gq Try.func112 (impl_restOf.calls _ _ _ _ _ _ A3.out) fun w8 hb => ?_
              replace O1 := am (Kd.R_below (RZ O1) hb)
              replace O2 := am (Kd.R_below (RZ O2) hb)
              obtain ⟨K1, K2, K3, HB⟩ := bk3 K1 K2 K3 HB hb
              clear hb
              refine kk hK ⟨bc K1 0, bc K1 1, bc K2 0, bc K2 1⟩ fun hHeld => ?_
              clear hK K
              refine on 10 none 2047 fun K hK => ?_
              have s1 : w8.cell? ⟨g3, 0, none⟩ = some (.int .i64 0) := bc K3 0
              have hfs114 := blk_frozen K3.out 0
              have z_ := ns4 N3 N5 N4 N6
              have s2 : w8.cell? ⟨g3, 1, none⟩ = some (.int .i64 0) := bc K3 1
              have hfs115 := blk_frozen K3.out 1
              have z_ := ns4 N3 N5 N4 N6
              refine skip_ (w1 := ?_) (by rfl) rfl ?_ ?_
              rotate_left
              ·go_simp
               rfl
              refine hK.out _ _ ⟨(cf N3 ((cf N3 (hHeld.1)))), (cf N3 ((cf N3 (hHeld.2.1)))), (cf N5 ((cf N5 (hHeld.2.2.1)))), (cf N5 ((cf N5 (hHeld.2.2.2))))⟩ (fun hHeld => ?_)
              clear hK K
              refine done_ (done_of HT_.out (by kernel_rfl)) ?_
              try go_wp2
              refine bodyPost_ret (results_cell_row rfl _ _ g3 86 #[.int .i64 t6, .int .i64 t7] (0, 0) _ rfl (by refine pf ?_; refine blk_put (cs := #[.int .i64 t6, .int .i64 0]) ?_ 1 _ rfl; refine pf ?_; refine blk_put (cs := #[.int .i64 0, .int .i64 0]) ?_ 0 _ rfl; exact Z K3) Try.underlying86 rfl (by kernel_rfl)) rfl ?_
              exact ⟨ez, YA HB⟩
             replace c5 := Bool.eq_false_iff.mpr c5
             subst c5
             rw [if_neg ff] at H
             by_cases c6 : a0 = 9
             ·rw [if_pos c6] at H
              have d1 := eT c6
              have d2 := nF c6
              clear c6
              have C7 := am H
              clear H
              go_upto_region 28 with (fail)
              go_cut [134] (fun v7 wc => ∃ (kq : Nat) (x7 : Bool), v7 = .bool x7 ∧ Aside0 (impl_RestDo.j6 kq x7 a1_0 a1_1 a2_0 a2_1 = some (r1, r2)) ∧ Aside0 (kq ≤ k6) ∧ Bx2 wc g1 a1_0 a1_1 86 ∧ Bx2 wc g2 a2_0 a2_1 86 ∧ Bx2 wc g3 0 0 86 ∧ Aside0 (Below w.heap.size w wc))
              case first =>
               have H := C7.out
               clear C7
               by_cases c7 : a2_0 = 0
               rotate_left
               ·rw [if_neg c7] at H
                have d3 := eF c7
                have d4 := nT c7
                (first | rw [d3] | (simp only [i64_w, i32_w]; rw [d3]) | skip)
                have H' := am H
                clear H
                have z_ := ns2 N2 N5
                have z_ := cB2 K2
                go_wp2
                go_meet
                case rel => exact ⟨_, (false), ey, H', ⟨by have := J1.out; have := J2.out; have := J3.out; have := J4.out; have := J5.out; have := J6.out; first | omega | exact Nat.le_refl _⟩, ⟨Z K1⟩, ⟨Z K2⟩, ⟨Z K3⟩, ⟨YA HB⟩⟩
               rw [if_pos c7] at H
               have d3 := eT c7
               have d4 := nF c7
               clear c7
               (first | rw [d3] | (simp only [i64_w, i32_w]; rw [d3]) | skip)
               by_cases c8 : a2_1 ≥ 0
               rotate_left
               ·rw [if_neg c8] at H
                have d5 := dF c8
                clear c8
                have H' := am H
                clear H
                have z_ := ns2 N2 N5
                have z_ := cB2 K2
                go_wp2
                go_meet
                case rel => exact ⟨_, (false), ey, H', ⟨by have := J1.out; have := J2.out; have := J3.out; have := J4.out; have := J5.out; have := J6.out; first | omega | exact Nat.le_refl _⟩, ⟨Z K1⟩, ⟨Z K2⟩, ⟨Z K3⟩, ⟨YA HB⟩⟩
               rw [if_pos c8] at H
               have d5 := dT c8
               clear c8
               have H' := am H
               clear H
               have z_ := ns2 N2 N5
               have z_ := cB2 K2
               go_wp2
               go_meet
               case rel => exact ⟨_, (decide (a2_1 ≤ 31)), ey, H', ⟨by have := J1.out; have := J2.out; have := J3.out; have := J4.out; have := J5.out; have := J6.out; first | omega | exact Nat.le_refl _⟩, ⟨Z K1⟩, ⟨Z K2⟩, ⟨Z K3⟩, ⟨YA HB⟩⟩
              case rest =>
               clear C7
               (try clear c5);(try clear d1);(try clear d2)
               obtain ⟨kq, x7, rfl, HA, J7, K1, K2, K3, HB⟩ := hcut
               cases kq with
               | zero => exact absurd HA.out (by simp [impl_RestDo.j6])
               | succ k7 =>
                have H := HA.out
                clear HA
                simp only [impl_RestDo.j6] at H
                by_cases c7 : x7 = true
                rotate_left
                ·replace c7 := Bool.eq_false_iff.mpr c7
                 subst c7
                 rw [if_neg ff] at H
                 obtain ⟨⟨t4, t5⟩, A1, H⟩ := bd H
                 try dsimp only at H
                 simp only [Option.some.injEq, Prod.mk.injEq] at H
                 obtain ⟨rfl, rfl⟩ := H
                 go_wp2_with (first | ((with_reducible refine gate_callee (f := 111) rfl ?_); refine gL 164 Try.func111 (impl_restAll.calls _ _ _ A1.out) fun w5 hb => ?_; obtain ⟨K1, K2, K3, HB⟩ := bk3 K1 K2 K3 HB hb; (try clear hb); have z_ := ns2 N4 N6; have z_ := cB2 K3))
                 refine bodyPost_ret (results_cell_row rfl _ _ g3 86 #[.int .i64 t4, .int .i64 t5] (0, 0) _ rfl (by refine pf ?_; refine blk_put (cs := #[.int .i64 t4, .int .i64 0]) ?_ 1 _ rfl; refine pf ?_; refine blk_put (cs := #[.int .i64 0, .int .i64 0]) ?_ 0 _ rfl; exact Z K3) Try.underlying86 rfl (by kernel_rfl)) rfl ?_
                 exact ⟨ez, YA HB⟩
                subst c7
                rw [if_pos rfl] at H
                obtain ⟨i1, j9⟩ : ∃ j_ : Int, (IntKind.u64.wrap (a2_1)) = j_ := ⟨_, rfl⟩
                replace H : (if 0 ≤ (i1) then ((impl_restOf.f k7 (wrap64 (a1_1 * (shl .i64 1 (i1)))) (wrap64 (a1_0 * (shl .i64 1 (i1))))).bind fun u1 => (some (u1.1, u1.2))) else (none)) = some (r1, r2) := by first | (rw [j9] at H; exact H) | (simp only [j9] at H ⊢; exact H)
                by_cases c8 : 0 ≤ (i1)
                rotate_left
                ·rw [if_neg c8] at H
                 exact absurd H (by simp)
                rw [if_pos c8] at H
                have d3 := eq_true c8
                have d4 := dT c8
                clear c8
                obtain ⟨i2, j10⟩ : ∃ j_ : Int, (shl .i64 1 (i1)) = j_ := ⟨_, rfl⟩
                replace H : ((impl_restOf.f k7 (wrap64 (a1_1 * (i2))) (wrap64 (a1_0 * (i2)))).bind fun u1 => (some (u1.1, u1.2))) = some (r1, r2) := by first | (rw [j10] at H; exact H) | (simp only [j10] at H ⊢; exact H)
                have hji132_ : (IntKind.i64.wrap (1 * 2 ^ min (i1).toNat 64)) = i2 := j10
                have hji132z : (i1) ≤ 64 → (IntKind.i64.wrap (1 * 2 ^ (i1).toNat)) = i2 := shl_small j10
                have hji132u : (IntKind.i64.wrap (2 ^ min (i1).toNat 64)) = i2 := by have h_ := hji132_; rw [Int.one_mul] at h_; exact h_
                have hji132v : (i1) ≤ 64 → (IntKind.i64.wrap (2 ^ (i1).toNat)) = i2 := fun hle_ => by have h_ := hji132z hle_; rw [Int.one_mul] at h_; exact h_
                have hji132y : (wrap64 (1 * 2 ^ min (i1).toNat 64)) = i2 := (i64_w _).symm.trans hji132_
                have hji132x : (i1) ≤ 64 → (wrap64 (1 * 2 ^ (i1).toNat)) = i2 := fun h_ => (i64_w _).symm.trans (hji132z h_)
                obtain ⟨⟨t4, t5⟩, A1, H⟩ := bd H
                try dsimp only at H
                simp only [Option.some.injEq, Prod.mk.injEq] at H
                obtain ⟨rfl, rfl⟩ := H
                have z_ := ns3 N2 N5 N3
                have z_ := cB2 K2
                have z_ := cB2 K1
                go_wp2_with (first | ((with_reducible refine gate_callee (f := 112) rfl ?_); refine goesL_ (some 147) rfl rfl Try.func112 (by kernel_rfl) rfl #[.int .i64 (wrap64 (a1_1 * (i2))), .int .i64 (wrap64 (a1_0 * (i2)))] rfl (by (try simp only [List.map_toArray, List.map_cons, List.map_nil]); first | done | (simp only [j10]; rfl) | rfl | (simp only [List.length_drop, List.length_take]; rfl)) ?_; (with_reducible refine (impl_restOf.calls _ _ _ _ _ _ A1.out).mono ?_); rintro e w5 ⟨rfl, hb⟩; refine ⟨_, rfl, ?_⟩; obtain ⟨K1, K2, K3, HB⟩ := bk3 K1 K2 K3 HB hb; (try clear hb); have z_ := cB2 K3))
                refine bodyPost_ret (results_cell_row rfl _ _ g3 86 #[.int .i64 t4, .int .i64 t5] (0, 0) _ rfl (by refine pf ?_; refine blk_put (cs := #[.int .i64 t4, .int .i64 0]) ?_ 1 _ rfl; refine pf ?_; refine blk_put (cs := #[.int .i64 0, .int .i64 0]) ?_ 0 _ rfl; exact Z K3) Try.underlying86 rfl (by kernel_rfl)) rfl ?_
                exact ⟨by first | rfl | (simp [errW_none, errW_some] <;> rfl) | (simp only [← j9, ← j10]; first | rfl | (simp [errW_none, errW_some] <;> rfl)) | (simp [*, errW_none, errW_some] <;> rfl), YA HB⟩
             rw [if_neg c6] at H
             have d1 := eF c6
             have d2 := nT c6
             by_cases c7 : a0 = 5
             rotate_left
             ·rw [if_neg c7] at H
              have d3 := eF c7
              have d4 := nT c7
              obtain ⟨⟨t4, t5⟩, A1, H⟩ := bd H
              try dsimp only at H
              simp only [Option.some.injEq, Prod.mk.injEq] at H
              obtain ⟨rfl, rfl⟩ := H
              go_wp2_with (first | ((with_reducible refine gate_callee (f := 111) rfl ?_); refine gL 164 Try.func111 (impl_restAll.calls _ _ _ A1.out) fun w5 hb => ?_; obtain ⟨K1, K2, K3, HB⟩ := bk3 K1 K2 K3 HB hb; (try clear hb); have z_ := ns2 N4 N6; have z_ := cB2 K3))
              refine bodyPost_ret (results_cell_row rfl _ _ g3 86 #[.int .i64 t4, .int .i64 t5] (0, 0) _ rfl (by refine pf ?_; refine blk_put (cs := #[.int .i64 t4, .int .i64 0]) ?_ 1 _ rfl; refine pf ?_; refine blk_put (cs := #[.int .i64 0, .int .i64 0]) ?_ 0 _ rfl; exact Z K3) Try.underlying86 rfl (by kernel_rfl)) rfl ?_
              exact ⟨ez, YA HB⟩
             rw [if_pos c7] at H
             have d3 := eT c7
             have d4 := nF c7
             clear c7
             obtain ⟨y1, y2⟩ : ∃ y_ : List Int, y_ = (([a1_0, a2_0, a2_1] : List Int)) := ⟨_, rfl⟩
             replace H : ((impl_restGcd.f k6 y1).bind fun t4 => (if t4 = 0 then ((impl_restAll.f).bind fun u1 => (some (u1.1, u1.2))) else ((impl_restOf.f k6 a1_1 t4).bind fun u2 => (some (u2.1, u2.2))))) = some (r1, r2) := by first | (rw [y2]; with_reducible exact H) | (have H2_ := (Option.bind_some _ _).symm.trans H; rw [y2]; with_reducible exact H2_) | (have H2_ := (Option.bind_some _ _).symm.trans H; with_reducible exact H2_) | with_reducible exact H | (rw [y2]; exact H) | exact H
             have Y25 := am y2
             clear y2
             obtain ⟨t4, A1, H⟩ := bd H
             try dsimp only at H
             by_cases c8 : t4 = 0
             ·rw [if_pos c8] at H
              have d5 := eT c8
              have d6 := nF c8
              clear c8
              obtain ⟨⟨t5, t6⟩, A2, H⟩ := bd H
              try dsimp only at H
              simp only [Option.some.injEq, Prod.mk.injEq] at H
              obtain ⟨rfl, rfl⟩ := H
              have z_ := ns3 N1 N3 N5
              have z_ := cB2 K1
              have z_ := cB2 K2
              go_wp2_with (first | ((with_reducible refine gate_dst (N := 156) rfl ?_); refine Kd.R_lit (Kd.int .i64) _ 3 ?hg (N := 156) ?hd (xs := ([a1_0, a2_0, a2_1] : List Int)) (inner := [.int .i64 a1_0, .int .i64 a2_0, .int .i64 a2_1]) (ok := fun _ => True) (okp := fun _ => True) ?hr ?hp (fun _ hk => hk) trivial (Below.refl _ _) (Nat.le_refl _) (by simp) ?_; (case hd => rfl); (case hg => rfl); (case hr => first | (go_simp; done) | (go_simp; rfl)); (case hp => exact (Reps.one (show Kd.M (Kd.int .i64) _ _ _ a1_0 [.int .i64 a1_0] from rfl) (Reps.one (show Kd.M (Kd.int .i64) _ _ _ a2_0 [.int .i64 a2_0] from rfl) (Reps.one (show Kd.M (Kd.int .i64) _ _ _ a2_1 [.int .i64 a2_1] from rfl) (Reps.none _ _))))); intro v7 w5 o1 hb hg_ hnew_; clear hg_ hnew_; (first | rw [← Y25.out] at o1 | (simp only [Int.reduceToNat] at o1; rw [← Y25.out] at o1)); have O1 := am (Kd.R_lower o1 (below_size (YA HB))); obtain ⟨K1, K2, K3, HB⟩ := bk3 K1 K2 K3 HB hb; clear hb o1; obtain ⟨q1, f1, e1⟩ := Kd.R_slice O1.out; subst e1) | ((with_reducible refine gate_callee (f := 113) rfl ?_); refine goesL_ (some 157) rfl rfl Try.func113 (by kernel_rfl) rfl #[.slice q1 y1.length f1] rfl mz ?_; (with_reducible refine (impl_restGcd.calls k6 _ _ y1 t4 _ ?side1 ?side2 A1.out).mono ?_); (case side1 => repeat (first | exact (Kd.R_reads' O1.out).2.2 | (with_reducible refine Kd.C_alloc ?_ _) | (with_reducible refine Kd.C_drewN ?_ _) | (with_reducible refine Kd.C_drew ?_))); (case side2 => exact (Kd.R_reads' O1.out).2.1); rintro e w' ⟨rfl, ⟨nd, rfl⟩⟩; refine ⟨_, rfl, ?_⟩; (try (rw [drewN_self w5]; generalize hq_ : World.drewN w5 _ = w5; replace O1 : Aside0 (Kd.R (Kd.int .i64) 3 w5 w.heap.size (fun _ => True) (.slice q1 y1.length f1) y1) := ⟨by rw [← hq_]; exact (RZ O1)⟩; replace K1 : Bx2 w5 g1 a1_0 a1_1 86 := ⟨by rw [← hq_]; exact (Z K1)⟩; replace K2 : Bx2 w5 g2 a2_0 a2_1 86 := ⟨by rw [← hq_]; exact (Z K2)⟩; replace K3 : Bx2 w5 g3 0 0 86 := ⟨by rw [← hq_]; exact (Z K3)⟩; replace HB : Aside0 (Below w.heap.size w w5) := ⟨by rw [← hq_]; exact (YA HB)⟩; clear hq_))) | ((with_reducible refine gate_callee (f := 111) rfl ?_); refine gL 164 Try.func111 (impl_restAll.calls _ _ _ A2.out) fun w6 hb => ?_; replace O1 := am (Kd.R_below (RZ O1) hb); obtain ⟨K1, K2, K3, HB⟩ := bk3 K1 K2 K3 HB hb; (try clear hb); have z_ := cB2 K3))
              refine bodyPost_ret (results_cell_row rfl _ _ g3 86 #[.int .i64 t5, .int .i64 t6] (0, 0) _ rfl (by refine pf ?_; refine blk_put (cs := #[.int .i64 t5, .int .i64 0]) ?_ 1 _ rfl; refine pf ?_; refine blk_put (cs := #[.int .i64 0, .int .i64 0]) ?_ 0 _ rfl; exact Z K3) Try.underlying86 rfl (by kernel_rfl)) rfl ?_
              exact ⟨ez, YA HB⟩
             rw [if_neg c8] at H
             have d5 := eF c8
             have d6 := nT c8
             obtain ⟨⟨t5, t6⟩, A2, H⟩ := bd H
             try dsimp only at H
             simp only [Option.some.injEq, Prod.mk.injEq] at H
             obtain ⟨rfl, rfl⟩ := H
             have z_ := ns3 N1 N3 N5
             have z_ := cB2 K1
             have z_ := cB2 K2
             go_wp2_with (first | ((with_reducible refine gate_dst (N := 156) rfl ?_); refine Kd.R_lit (Kd.int .i64) _ 3 ?hg (N := 156) ?hd (xs := ([a1_0, a2_0, a2_1] : List Int)) (inner := [.int .i64 a1_0, .int .i64 a2_0, .int .i64 a2_1]) (ok := fun _ => True) (okp := fun _ => True) ?hr ?hp (fun _ hk => hk) trivial (Below.refl _ _) (Nat.le_refl _) (by simp) ?_; (case hd => rfl); (case hg => rfl); (case hr => first | (go_simp; done) | (go_simp; rfl)); (case hp => exact (Reps.one (show Kd.M (Kd.int .i64) _ _ _ a1_0 [.int .i64 a1_0] from rfl) (Reps.one (show Kd.M (Kd.int .i64) _ _ _ a2_0 [.int .i64 a2_0] from rfl) (Reps.one (show Kd.M (Kd.int .i64) _ _ _ a2_1 [.int .i64 a2_1] from rfl) (Reps.none _ _))))); intro v7 w5 o1 hb hg_ hnew_; clear hg_ hnew_; (first | rw [← Y25.out] at o1 | (simp only [Int.reduceToNat] at o1; rw [← Y25.out] at o1)); have O1 := am (Kd.R_lower o1 (below_size (YA HB))); obtain ⟨K1, K2, K3, HB⟩ := bk3 K1 K2 K3 HB hb; clear hb o1; obtain ⟨q1, f1, e1⟩ := Kd.R_slice O1.out; subst e1) | ((with_reducible refine gate_callee (f := 113) rfl ?_); refine goesL_ (some 157) rfl rfl Try.func113 (by kernel_rfl) rfl #[.slice q1 y1.length f1] rfl mz ?_; (with_reducible refine (impl_restGcd.calls k6 _ _ y1 t4 _ ?side1 ?side2 A1.out).mono ?_); (case side1 => repeat (first | exact (Kd.R_reads' O1.out).2.2 | (with_reducible refine Kd.C_alloc ?_ _) | (with_reducible refine Kd.C_drewN ?_ _) | (with_reducible refine Kd.C_drew ?_))); (case side2 => exact (Kd.R_reads' O1.out).2.1); rintro e w' ⟨rfl, ⟨nd, rfl⟩⟩; refine ⟨_, rfl, ?_⟩; (try (rw [drewN_self w5]; generalize hq_ : World.drewN w5 _ = w5; replace O1 : Aside0 (Kd.R (Kd.int .i64) 3 w5 w.heap.size (fun _ => True) (.slice q1 y1.length f1) y1) := ⟨by rw [← hq_]; exact (RZ O1)⟩; replace K1 : Bx2 w5 g1 a1_0 a1_1 86 := ⟨by rw [← hq_]; exact (Z K1)⟩; replace K2 : Bx2 w5 g2 a2_0 a2_1 86 := ⟨by rw [← hq_]; exact (Z K2)⟩; replace K3 : Bx2 w5 g3 0 0 86 := ⟨by rw [← hq_]; exact (Z K3)⟩; replace HB : Aside0 (Below w.heap.size w w5) := ⟨by rw [← hq_]; exact (YA HB)⟩; clear hq_)); have z_ := cB2 K1) | ((with_reducible refine gate_callee (f := 112) rfl ?_); refine gL 163 Try.func112 (impl_restOf.calls _ _ _ _ _ _ A2.out) fun w6 hb => ?_; replace O1 := am (Kd.R_below (RZ O1) hb); obtain ⟨K1, K2, K3, HB⟩ := bk3 K1 K2 K3 HB hb; (try clear hb); have z_ := cB2 K3))
             refine bodyPost_ret (results_cell_row rfl _ _ g3 86 #[.int .i64 t5, .int .i64 t6] (0, 0) _ rfl (by refine pf ?_; refine blk_put (cs := #[.int .i64 t5, .int .i64 0]) ?_ 1 _ rfl; refine pf ?_; refine blk_put (cs := #[.int .i64 0, .int .i64 0]) ?_ 0 _ rfl; exact Z K3) Try.underlying86 rfl (by kernel_rfl)) rfl ?_
             exact ⟨ez, YA HB⟩
end
section
attribute [local go_sem] max2_int min2_int max_two min_two max_three min_three max_four min_four
attribute [local go_sem] Go.Proofs.YthbkakcchgnhpaaSet.isSome_setCell
def impl_ValDo.j0 : Nat → Int → Bool → Int → Int → Int → Int → Int → Int → Int → Int → Option (Int × Int × Int × Int × List Int)
 | 0, _, _, _, _, _, _, _, _, _, _ => none
 | k + 1, x1, x2, x3, x4, x5, x6, x7, x8, x9, x10 => if x2 = true then ((impl_valNone.f).bind fun u1 => (some (u1.1, u1.2.1, u1.2.2.1, u1.2.2.2, ([] : List Int)))) else ((impl_Val_span.f x3 x4 x5 x6).bind fun u2 => ((impl_Val_span.f x7 x8 x9 x10).bind fun u3 => ((impl_RangeDo.f k x1 u2.1 u2.2 u3.1 u3.2).bind fun u4 => ((impl_Val_rest.f x3 x4 x5 x6).bind fun u5 => ((impl_Val_rest.f x7 x8 x9 x10).bind fun u6 => ((impl_RestDo.f k x1 u5.1 u5.2 u6.1 u6.2).bind fun u7 => ((impl_ValMake.f k u4.1 u4.2.1 u7.1 u7.2).bind fun u8 => (some (u8.1, u8.2.1, u8.2.2.1, u8.2.2.2, u4.2.2)))))))))
def impl_ValDo.f (k : Nat) (a0 : Int) (a1_0 : Int) (a1_1 : Int) (a1_2 : Int) (a1_3 : Int) (a2_0 : Int) (a2_1 : Int) (a2_2 : Int) (a2_3 : Int) : Option (Int × Int × Int × Int × List Int) := (impl_ValOk.f k a1_0 a1_1 a1_2 a1_3).bind fun t1 => (if t1 = true then ((impl_ValOk.f k a2_0 a2_1 a2_2 a2_3).bind fun t2 => (if t2 = true then ((impl_Val_none.f a1_0 a1_1 a1_2 a1_3).bind fun t3 => (if t3 = true then (impl_ValDo.j0 k a0 true a1_0 a1_1 a1_2 a1_3 a2_0 a2_1 a2_2 a2_3) else ((impl_Val_none.f a2_0 a2_1 a2_2 a2_3).bind fun t4 => (impl_ValDo.j0 k a0 t4 a1_0 a1_1 a1_2 a1_3 a2_0 a2_1 a2_2 a2_3)))) else (impl_ValDo.j0 k a0 true a1_0 a1_1 a1_2 a1_3 a2_0 a2_1 a2_2 a2_3))) else (impl_ValDo.j0 k a0 true a1_0 a1_1 a1_2 a1_3 a2_0 a2_1 a2_2 a2_3))
theorem impl_ValDo.mono_l : ∀ k, (∀ y0 y1 y2 y3 y4 y5 y6 y7 y8 y9, LeO (impl_ValDo.j0 k y0 y1 y2 y3 y4 y5 y6 y7 y8 y9) (impl_ValDo.j0 (k + 1) y0 y1 y2 y3 y4 y5 y6 y7 y8 y9))
 | 0 => fun _ _ _ _ _ _ _ _ _ _ r h => by simp [impl_ValDo.j0] at h
 | k + 1 => by
  have ih0 := impl_ValDo.mono_l k
  ·intro y0 y1 y2 y3 y4 y5 y6 y7 y8 y9
   unfold impl_ValDo.j0
   repeat' first | (with_reducible first | apply ih0 | apply impl_RangeDo.mono | apply impl_RestDo.mono | apply impl_ValMake.mono | apply impl_ValOk.mono | apply LeO.refl | apply LeO.none | refine LeO.ite ?_ ?_ | refine LeO.bind ?_ (fun _ => ?_)) | apply ih0 | apply impl_RangeDo.mono | apply impl_RestDo.mono | apply impl_ValMake.mono | apply impl_ValOk.mono | apply LeO.none | refine LeO.ite ?_ ?_ | refine LeO.bind ?_ (fun _ => ?_)
theorem impl_ValDo.mono : ∀ a0 a1 a2 a3 a4 a5 a6 a7 a8 k, LeO (impl_ValDo.f k a0 a1 a2 a3 a4 a5 a6 a7 a8) (impl_ValDo.f (k + 1) a0 a1 a2 a3 a4 a5 a6 a7 a8) := by
 intro a0 a1 a2 a3 a4 a5 a6 a7 a8 k
 have ih0 := impl_ValDo.mono_l k
 unfold impl_ValDo.f
 repeat' first | (with_reducible first | apply ih0 | apply impl_RangeDo.mono | apply impl_RestDo.mono | apply impl_ValMake.mono | apply impl_ValOk.mono | apply LeO.refl | apply LeO.none | refine LeO.ite ?_ ?_ | refine LeO.bind ?_ (fun _ => ?_)) | apply ih0 | apply impl_RangeDo.mono | apply impl_RestDo.mono | apply impl_ValMake.mono | apply impl_ValOk.mono | apply LeO.none | refine LeO.ite ?_ ?_ | refine LeO.bind ?_ (fun _ => ?_)
def impl_ValDo.T3 : Bool × List (List Nat × List Nat) := (true, [([], []), ([], []), ([1], [1]), ([], []), ([3, 2], [3]), ([0, 2, 4, 4], [0, 2, 4]), ([5], [5]), ([6], [6]), ([6], [6]), ([], []), ([9, 7, 5, 0, 1, 2, 3, 4, 5, 6, 7, 9], [7, 9]), ([8, 10, 0, 1, 2, 3, 4, 5, 6, 7, 8, 9, 10], [8])])
def impl_ValDo.B3 : List Nat := [0, 0, 2, 0, 14, 31, 63, 127, 127, 0, 767, 2047]
theorem impl_ValDo.tab3 : rtab .any (opsOf Try.f30 3) = impl_ValDo.T3 := by kernel_rfl
theorem impl_ValDo.bits3 : waitsOk impl_ValDo.T3.2 impl_ValDo.B3 = true := by kernel_rfl
def impl_ValDo.T4 : Bool × List (List Nat × List Nat) := (true, [([], []), ([], []), ([], []), ([2], [2]), ([], []), ([4, 3], [4]), ([1, 3, 5, 5], [1, 3, 5]), ([0, 6, 6], [0, 6]), ([], []), ([7, 7, 0, 1, 2, 3, 4, 5, 6, 7], [7]), ([8, 9, 0, 1, 2, 3, 4, 5, 6, 7, 8, 9], [8])])
def impl_ValDo.B4 : List Nat := [0, 0, 0, 4, 0, 28, 62, 127, 0, 255, 1023]
theorem impl_ValDo.tab4 : rtab .any (opsOf Try.f30 4) = impl_ValDo.T4 := by kernel_rfl
theorem impl_ValDo.bits4 : waitsOk impl_ValDo.T4.2 impl_ValDo.B4 = true := by kernel_rfl
set_option maxHeartbeats 8000000 in
set_option maxRecDepth 100000 in
theorem impl_ValDo.calls (k : Nat) (a0 : Int) (a1_0 : Int) (a1_1 : Int) (a1_2 : Int) (a1_3 : Int) (a2_0 : Int) (a2_1 : Int) (a2_2 : Int) (a2_3 : Int) (r1 : Int) (r2 : Int) (r3 : Int) (r4 : Int) (r5 : List Int) (w : World) (h : impl_ValDo.f k a0 a1_0 a1_1 a1_2 a1_3 a2_0 a2_1 a2_2 a2_3 = some (r1, r2, r3, r4, r5)) :
  Calls Try.prog 30 #[.int .i64 a0, .agg #[.int .i64 a1_0, .int .i64 a1_1, .int .i64 a1_2, .int .i64 a1_3], .agg #[.int .i64 a2_0, .int .i64 a2_1, .int .i64 a2_2, .int .i64 a2_3]] w fun e w' => ∃ v4_ : Value, e = .returned (.tuple #[.agg #[.int .i64 r1, .int .i64 r2, .int .i64 r3, .int .i64 r4], v4_]) ∧ Kd.R (Kd.int .i64) 3 w' w.heap.size (fun _ => True) v4_ r5 ∧ Below w.heap.size w w' := by
 have hu50 := Try.underlying50
 have hu24 := Try.underlying24
 have HB := am (Below.refl w.heap.size w)
 have H : ((impl_ValOk.f k a1_0 a1_1 a1_2 a1_3).bind fun t1 => (if t1 = true then ((impl_ValOk.f k a2_0 a2_1 a2_2 a2_3).bind fun t2 => (if t2 = true then ((impl_Val_none.f a1_0 a1_1 a1_2 a1_3).bind fun t3 => (if t3 = true then (impl_ValDo.j0 k a0 true a1_0 a1_1 a1_2 a1_3 a2_0 a2_1 a2_2 a2_3) else ((impl_Val_none.f a2_0 a2_1 a2_2 a2_3).bind fun t4 => (impl_ValDo.j0 k a0 t4 a1_0 a1_1 a1_2 a1_3 a2_0 a2_1 a2_2 a2_3)))) else (impl_ValDo.j0 k a0 true a1_0 a1_1 a1_2 a1_3 a2_0 a2_1 a2_2 a2_3))) else (impl_ValDo.j0 k a0 true a1_0 a1_1 a1_2 a1_3 a2_0 a2_1 a2_2 a2_3))) = some (r1, r2, r3, r4, r5) := h
 clear h
 have C1 := am H
 clear H
 go_enter Try.func30, Try.ntmps30
 go_upto_region 1 with (first | ((with_reducible refine gate_dst (N := 4) rfl ?_); refine bxn 4 #[.int .i64 a1_0, .int .i64 a1_1, .int .i64 a1_2, .int .i64 a1_3] 50 HB fun g1 w2 K1 G1 hg hb => ?_; replace HB := am (below_step (YA HB) hb); clear hb hg) | ((with_reducible refine gate_dst (N := 5) rfl ?_); refine bxn 5 #[.int .i64 a2_0, .int .i64 a2_1, .int .i64 a2_2, .int .i64 a2_3] 50 HB fun g2 w3 K2 G2 hg hb => ?_; obtain ⟨N1,N2⟩ := ne_ hg K1; obtain ⟨K1, HB⟩ := bk1 K1 HB hb; clear hb hg) | ((with_reducible refine gate_dst (N := 6) rfl ?_); refine bxn 6 #[.int .i64 0, .int .i64 0, .int .i64 0, .int .i64 0] 50 HB fun g3 w4 K3 G3 hg hb => ?_; obtain ⟨N3,N4⟩ := ne_ hg K1; obtain ⟨N5,N6⟩ := ne_ hg K2; obtain ⟨K1, K2, HB⟩ := bk2 K1 K2 HB hb; clear hb hg))
 (try simp only [Act.put, List.setIfInBounds_toArray, List.set_cons_zero, List.set_cons_succ])
 go_cut [25] (fun v1 wc => ∃ (kq : Nat) (x1 : Bool), v1 = .bool x1 ∧ Aside0 (impl_ValDo.j0 kq a0 x1 a1_0 a1_1 a1_2 a1_3 a2_0 a2_1 a2_2 a2_3 = some (r1, r2, r3, r4, r5)) ∧ Aside0 (kq ≤ k) ∧ Bx4 wc g1 a1_0 a1_1 a1_2 a1_3 50 ∧ Bx4 wc g2 a2_0 a2_1 a2_2 a2_3 50 ∧ Bx4 wc g3 0 0 0 0 50 ∧ Aside0 (Below w.heap.size w wc))
 case first =>
  have H := C1.out
  clear C1
  obtain ⟨t1, A1, H⟩ := bd H
  try dsimp only at H
  by_cases c1 : t1 = true
  rotate_left
  ·replace c1 := Bool.eq_false_iff.mpr c1
   subst c1
   rw [if_neg ff] at H
   have H' := am H
   clear H
   have z_ := ns2 N1 N3
   have z_ := cB4 K1
   go_wp2_with (first | ((with_reducible refine gate_callee (f := 76) rfl ?_); refine gL 11 Try.func76 (impl_ValOk.calls _ _ _ _ _ _ _ A1.out) fun w5 hb => ?_; obtain ⟨K1, K2, K3, HB⟩ := bk3 K1 K2 K3 HB hb; (try clear hb)))
   go_meet
   case rel => exact ⟨_, (true), ey, H', le0, ⟨Z K1⟩, ⟨Z K2⟩, ⟨Z K3⟩, ⟨YA HB⟩⟩
  subst c1
  rw [if_pos rfl] at H
  obtain ⟨t2, A2, H⟩ := bd H
  try dsimp only at H
  by_cases c2 : t2 = true
  rotate_left
  ·replace c2 := Bool.eq_false_iff.mpr c2
   subst c2
   rw [if_neg ff] at H
   have H' := am H
   clear H
   have z_ := ns2 N1 N3
   have z_ := cB4 K1
   go_wp2_with (first | ((with_reducible refine gate_callee (f := 76) rfl ?_); refine gL 11 Try.func76 (impl_ValOk.calls _ _ _ _ _ _ _ A1.out) fun w5 hb => ?_; obtain ⟨K1, K2, K3, HB⟩ := bk3 K1 K2 K3 HB hb; (try clear hb); have z_ := ns1 N5; have z_ := cB4 K2) | (go_at_call 76; (with_reducible refine (impl_ValOk.calls _ _ _ _ _ _ _ A2.out).mono ?_); rintro e w6 ⟨rfl, hb⟩; obtain ⟨K1, K2, K3, HB⟩ := bk3 K1 K2 K3 HB hb; (try clear hb)))
   go_meet
   case rel => exact ⟨_, (true), ey, H', le0, ⟨Z K1⟩, ⟨Z K2⟩, ⟨Z K3⟩, ⟨YA HB⟩⟩
  subst c2
  rw [if_pos rfl] at H
  obtain ⟨t3, A3, H⟩ := bd H
  try dsimp only at H
  by_cases c3 : t3 = true
  ·subst c3
   rw [if_pos rfl] at H
   have H' := am H
   clear H
   have z_ := ns2 N1 N3
   have z_ := cB4 K1
   go_wp2_with (first | ((with_reducible refine gate_callee (f := 76) rfl ?_); refine gL 11 Try.func76 (impl_ValOk.calls _ _ _ _ _ _ _ A1.out) fun w5 hb => ?_; obtain ⟨K1, K2, K3, HB⟩ := bk3 K1 K2 K3 HB hb; (try clear hb); have z_ := ns1 N5; have z_ := cB4 K2) | (go_at_call 76; (with_reducible refine (impl_ValOk.calls _ _ _ _ _ _ _ A2.out).mono ?_); rintro e w6 ⟨rfl, hb⟩; obtain ⟨K1, K2, K3, HB⟩ := bk3 K1 K2 K3 HB hb; (try clear hb); have z_ := cB4 K1) | (go_at_call 77; (with_reducible refine (impl_Val_none.calls _ _ _ _ _ _ A3.out).mono ?_); rintro e w7 ⟨rfl, hb⟩; obtain ⟨K1, K2, K3, HB⟩ := bk3 K1 K2 K3 HB hb; (try clear hb)))
   go_meet
   case rel => exact ⟨_, (true), ey, H', le0, ⟨Z K1⟩, ⟨Z K2⟩, ⟨Z K3⟩, ⟨YA HB⟩⟩
  replace c3 := Bool.eq_false_iff.mpr c3
  subst c3
  rw [if_neg ff] at H
  obtain ⟨t4, A4, H⟩ := bd H
  try dsimp only at H
  have H' := am H
  clear H
  have z_ := ns2 N1 N3
  have z_ := cB4 K1
  go_wp2_with (first | ((with_reducible refine gate_callee (f := 76) rfl ?_); refine gL 11 Try.func76 (impl_ValOk.calls _ _ _ _ _ _ _ A1.out) fun w5 hb => ?_; obtain ⟨K1, K2, K3, HB⟩ := bk3 K1 K2 K3 HB hb; (try clear hb); have z_ := ns1 N5; have z_ := cB4 K2) | (go_at_call 76; (with_reducible refine (impl_ValOk.calls _ _ _ _ _ _ _ A2.out).mono ?_); rintro e w6 ⟨rfl, hb⟩; obtain ⟨K1, K2, K3, HB⟩ := bk3 K1 K2 K3 HB hb; (try clear hb); have z_ := cB4 K1) | (go_at_call 77; (with_reducible refine (impl_Val_none.calls _ _ _ _ _ _ A3.out).mono ?_); rintro e w7 ⟨rfl, hb⟩; obtain ⟨K1, K2, K3, HB⟩ := bk3 K1 K2 K3 HB hb; (try clear hb); have z_ := cB4 K2) | (go_at_call 77; (with_reducible refine (impl_Val_none.calls _ _ _ _ _ _ A4.out).mono ?_); rintro e w8 ⟨rfl, hb⟩; obtain ⟨K1, K2, K3, HB⟩ := bk3 K1 K2 K3 HB hb; (try clear hb)))
  go_meet
  case rel => exact ⟨_, (t4), ey, H', le0, ⟨Z K1⟩, ⟨Z K2⟩, ⟨Z K3⟩, ⟨YA HB⟩⟩
 case rest =>
  clear C1
  obtain ⟨kq, x1, rfl, HA, J1, K1, K2, K3, HB⟩ := hcut
  cases kq with
  | zero => exact absurd HA.out (by simp [impl_ValDo.j0])
  | succ k1 =>
   have H := HA.out
   clear HA
   simp only [impl_ValDo.j0] at H
   by_cases c1 : x1 = true
   ·subst c1
    rw [if_pos rfl] at H
    obtain ⟨⟨t5, t6, t7, t8⟩, A1, H⟩ := bd H
    try dsimp only at H
    simp only [Option.some.injEq, Prod.mk.injEq] at H
    obtain ⟨rfl, rfl, rfl, rfl, rfl⟩ := H
    go_wp2_with (first | ((with_reducible refine gate_callee (f := 78) rfl ?_); refine gL 26 Try.func78 (impl_valNone.calls _ _ _ _ _ A1.out) fun w5 hb => ?_; obtain ⟨K1, K2, K3, HB⟩ := bk3 K1 K2 K3 HB hb; (try clear hb); have z_ := ns2 N4 N6; have z_ := cB4 K3))
    refine bodyPost_ret (results_ct rfl _ _ g3 50 #[.int .i64 t5, .int .i64 t6, .int .i64 t7, .int .i64 t8] (0, 0) _ rfl (by refine pf ?_; refine blk_put (cs := #[.int .i64 t5, .int .i64 t6, .int .i64 t7, .int .i64 0]) ?_ 3 _ rfl; refine pf ?_; refine blk_put (cs := #[.int .i64 t5, .int .i64 t6, .int .i64 0, .int .i64 0]) ?_ 2 _ rfl; refine pf ?_; refine blk_put (cs := #[.int .i64 t5, .int .i64 0, .int .i64 0, .int .i64 0]) ?_ 1 _ rfl; refine pf ?_; refine blk_put (cs := #[.int .i64 0, .int .i64 0, .int .i64 0, .int .i64 0]) ?_ 0 _ rfl; exact Z K3) Try.underlying50 rfl (by kernel_rfl)) rfl ?_
    exact ⟨_, ez, by first | exact Kd.R_nil _ _ _ _ _ | exact Kd.N_nil _ _ _ _ _ | exact Kd.V_nil _ _ _ _ _ | exact Kd.Q_nil _ _ _ _ _ | exact Kd.S_nil _ _ _ _ _, YA HB⟩
   replace c1 := Bool.eq_false_iff.mpr c1
   subst c1
   rw [if_neg ff] at H
   obtain ⟨⟨t5, t6⟩, A1, H⟩ := bd H
   try dsimp only at H
   obtain ⟨⟨t7, t8⟩, A2, H⟩ := bd H
   try dsimp only at H
   obtain ⟨⟨t9, t10, t11⟩, A3, H⟩ := bd H
   try dsimp only at H
   obtain ⟨⟨t12, t13⟩, A4, H⟩ := bd H
   try dsimp only at H
   obtain ⟨⟨t14, t15⟩, A5, H⟩ := bd H
   try dsimp only at H
   obtain ⟨⟨t16, t17⟩, A6, H⟩ := bd H
   try dsimp only at H
   obtain ⟨⟨t18, t19, t20, t21⟩, A7, H⟩ := bd H
   try dsimp only at H
   simp only [Option.some.injEq, Prod.mk.injEq] at H
   obtain ⟨rfl, rfl, rfl, rfl, rfl⟩ := H
   try go_wp2
   obtain ⟨K1, K2, K3, HB⟩ := dk3 K1 K2 K3 HB
   refine start_ (n := 12) (S := fun w' => w'.cell? ⟨g1, 0, none⟩ = some (.int .i64 a1_0) ∧ w'.cell? ⟨g1, 1, none⟩ = some (.int .i64 a1_1) ∧ w'.cell? ⟨g1, 2, none⟩ = some (.int .i64 a1_2) ∧ w'.cell? ⟨g1, 3, none⟩ = some (.int .i64 a1_3) ∧ w'.cell? ⟨g2, 0, none⟩ = some (.int .i64 a2_0) ∧ w'.cell? ⟨g2, 1, none⟩ = some (.int .i64 a2_1) ∧ w'.cell? ⟨g2, 2, none⟩ = some (.int .i64 a2_2) ∧ w'.cell? ⟨g2, 3, none⟩ = some (.int .i64 a2_3)) (ds := []) (lb 12 0) (by kernel_rfl) rfl rfl ⟨bc K1 0, bc K1 1, bc K1 2, bc K1 3, bc K2 0, bc K2 1, bc K2 2, bc K2 3⟩ (fun hHeld => ?_); refine with_tabW impl_ValDo.tab3 impl_ValDo.bits3 (fun HT_ HW_ => ?_)
   generalize wc.drew = w5 at K1 K2 K3 HB hHeld ⊢
   refine pk 0 28 1 ?_
   refine tk 1 29 3 hHeld ?_
   refine tk 3 31 11 hHeld ?_
   refine join_ (σ := Value × Nat) 2 (lb 12 1023) (fun s_ => [(30, .agg #[.int .i64 t5, .int .i64 t6]), (32, .agg #[.int .i64 t7, .int .i64 t8]), (33, .tuple #[.agg #[.int .i64 t9, .int .i64 t10], s_.1]), (8, .pointer (some ⟨s_.2, 0, none⟩)), (27, .tuple #[.agg #[.int .i64 t9, .int .i64 t10], s_.1]), (34, .agg #[.int .i64 t9, .int .i64 t10]), (35, s_.1)]) (fun s_ w' => (w'.cell? ⟨g1, 0, none⟩ = some (.int .i64 a1_0) ∧ w'.cell? ⟨g1, 1, none⟩ = some (.int .i64 a1_1) ∧ w'.cell? ⟨g1, 2, none⟩ = some (.int .i64 a1_2) ∧ w'.cell? ⟨g1, 3, none⟩ = some (.int .i64 a1_3) ∧ w'.cell? ⟨g2, 0, none⟩ = some (.int .i64 a2_0) ∧ w'.cell? ⟨g2, 1, none⟩ = some (.int .i64 a2_1) ∧ w'.cell? ⟨g2, 2, none⟩ = some (.int .i64 a2_2) ∧ w'.cell? ⟨g2, 3, none⟩ = some (.int .i64 a2_3)) ∧ (Kd.R (Kd.int .i64) 3 w' w.heap.size (fun _ => True) s_.1 t11) ∧ (w'.heap[g1]? = some (.cells #[.int .i64 a1_0, .int .i64 a1_1, .int .i64 a1_2, .int .i64 a1_3] 50 (0, 0))) ∧ (w'.heap[g2]? = some (.cells #[.int .i64 a2_0, .int .i64 a2_1, .int .i64 a2_2, .int .i64 a2_3] 50 (0, 0))) ∧ (w'.heap[g3]? = some (.cells #[.int .i64 0, .int .i64 0, .int .i64 0, .int .i64 0] 50 (0, 0))) ∧ (w'.heap[s_.2]? = some (.cells #[.int .i64 0, .int .i64 0] 24 (0, 0))) ∧ (w.heap.size ≤ s_.2) ∧ (w.heap.size ≤ s_.2) ∧ (g1 ≠ s_.2) ∧ (s_.2 ≠ g1) ∧ (g2 ≠ s_.2) ∧ (s_.2 ≠ g2) ∧ (g3 ≠ s_.2) ∧ (s_.2 ≠ g3) ∧ (Below w.heap.size w w')) ?_ ?_
   rotate_left
   ·intro hCont
    refine two_ (i := 2) (j := 9) (Ni := some 30) (Nj := some 8) (lb 12 15) (lb 12 523) rfl rfl rfl rfl (two_of HT_.out (by kernel_rfl)) (by decide) (by decide) (fun K hK => ?_) (fun K hK => ?_)
    rotate_left
    ·skip
     refine box_step ?hg (N := 8) ?hd (cs := #[.int .i64 0, .int .i64 0]) (t := 24) ?hr ?_; (case hd => rfl); (case hg => rfl); (case hr => first | (go_simp; done) | (go_simp; rfl))
     intro g4 hg w6 hbox hb
     have K4 := am (hbox)
     have G4 := am (bs hg (YA HB))
     have G5 := am (bs hg (YA HB))
     obtain ⟨N7,N8⟩ := ne_ hg K1
     obtain ⟨N9,N10⟩ := ne_ hg K2
     obtain ⟨N11,N12⟩ := ne_ hg K3
     obtain ⟨K1, K2, K3, HB⟩ := bk3 K1 K2 K3 HB hb
     clear hb hbox hg
     refine kk hK ⟨bc K1 0, bc K1 1, bc K1 2, bc K1 3, bc K2 0, bc K2 1, bc K2 2, bc K2 3⟩ fun hHeld => ?_
     clear hK K
     refine on 2 (some 30) 527 fun K hK => ?_
     refine ck hK Try.func79 (impl_Val_span.calls _ _ _ _ _ _ _ A1.out) (fun _ b => bk4 K1 K2 K3 K4 HB b) fun w7 Q_ hHeld => ?_
     clear hK K
     obtain ⟨K1, K2, K3, K4, HB⟩ := Q_
     refine on 4 (some 32) 543 fun K hK => ?_
     refine ck hK Try.func79 (impl_Val_span.calls _ _ _ _ _ _ _ A2.out) (fun _ b => bk4 K1 K2 K3 K4 HB b) fun w8 Q_ hHeld => ?_
     clear hK K
     obtain ⟨K1, K2, K3, K4, HB⟩ := Q_
     refine on 5 (some 33) 575 fun K hK => ?_
     refine goes_ Try.func11 (by kernel_rfl) rfl #[.int .i64 a0, .agg #[.int .i64 t5, .int .i64 t6], .agg #[.int .i64 t7, .int .i64 t8]] (by rfl) rfl rfl mz ?_
     with_reducible refine (impl_RangeDo.calls _ _ _ _ _ _ _ _ _ _ A3.out).mono ?_
     rintro e w9 ⟨v2, rfl, o1, hb⟩
     refine ⟨_, rfl, ?_⟩
     have O1 := am (Kd.R_lower o1 (below_size (YA HB)))
     obtain ⟨K1, K2, K3, K4, HB⟩ := bk4 K1 K2 K3 K4 HB hb
     clear hb
     (try clear o1)
     refine kk hK ⟨bc K1 0, bc K1 1, bc K1 2, bc K1 3, bc K2 0, bc K2 1, bc K2 2, bc K2 3⟩ fun hHeld => ?_
     clear hK K
     refine pk 6 27 639 ?_
     refine pk 7 34 767 ?_
     refine pk 8 35 1023 ?_
     exact norm_ nz (hCont (v2, g4) _ ⟨hHeld, (RZ O1), (Z K1), (Z K2), (Z K3), (Z K4), G4.out, G5.out, N7.out, N8.out, N9.out, N10.out, N11.out, N12.out, (YA HB)⟩)
    skip
    refine ck hK Try.func79 (impl_Val_span.calls _ _ _ _ _ _ _ A1.out) (fun _ b => bk3 K1 K2 K3 HB b) fun w6 Q_ hHeld => ?_
    clear hK K
    obtain ⟨K1, K2, K3, HB⟩ := Q_
    refine two_ (i := 4) (j := 9) (Ni := some 32) (Nj := some 8) (lb 12 31) (lb 12 527) rfl rfl rfl rfl (two_of HT_.out (by kernel_rfl)) (by decide) (by decide) (fun K hK => ?_) (fun K hK => ?_)
    rotate_left
    ·skip
     refine box_step ?hg (N := 8) ?hd (cs := #[.int .i64 0, .int .i64 0]) (t := 24) ?hr ?_; (case hd => rfl); (case hg => rfl); (case hr => first | (go_simp; done) | (go_simp; rfl))
     intro g4 hg w7 hbox hb
     have K4 := am (hbox)
     have G4 := am (bs hg (YA HB))
     have G5 := am (bs hg (YA HB))
     obtain ⟨N7,N8⟩ := ne_ hg K1
     obtain ⟨N9,N10⟩ := ne_ hg K2
     obtain ⟨N11,N12⟩ := ne_ hg K3
     obtain ⟨K1, K2, K3, HB⟩ := bk3 K1 K2 K3 HB hb
     clear hb hbox hg
     refine kk hK ⟨bc K1 0, bc K1 1, bc K1 2, bc K1 3, bc K2 0, bc K2 1, bc K2 2, bc K2 3⟩ fun hHeld => ?_
     clear hK K
     refine on 4 (some 32) 543 fun K hK => ?_
     refine ck hK Try.func79 (impl_Val_span.calls _ _ _ _ _ _ _ A2.out) (fun _ b => bk4 K1 K2 K3 K4 HB b) fun w8 Q_ hHeld => ?_
     clear hK K
     obtain ⟨K1, K2, K3, K4, HB⟩ := Q_
     refine on 5 (some 33) 575 fun K hK => ?_
     refine goes_ Try.func11 (by kernel_rfl) rfl #[.int .i64 a0, .agg #[.int .i64 t5, .int .i64 t6], .agg #[.int .i64 t7, .int .i64 t8]] (by rfl) rfl rfl mz ?_
     with_reducible refine (impl_RangeDo.calls _ _ _ _ _ _ _ _ _ _ A3.out).mono ?_
     rintro e w9 ⟨v2, rfl, o1, hb⟩
     refine ⟨_, rfl, ?_⟩
     have O1 := am (Kd.R_lower o1 (below_size (YA HB)))
     obtain ⟨K1, K2, K3, K4, HB⟩ := bk4 K1 K2 K3 K4 HB hb
     clear hb
     (try clear o1)
     refine kk hK ⟨bc K1 0, bc K1 1, bc K1 2, bc K1 3, bc K2 0, bc K2 1, bc K2 2, bc K2 3⟩ fun hHeld => ?_
     clear hK K
     refine pk 6 27 639 ?_
     refine pk 7 34 767 ?_
     refine pk 8 35 1023 ?_
     exact norm_ nz (hCont (v2, g4) _ ⟨hHeld, (RZ O1), (Z K1), (Z K2), (Z K3), (Z K4), G4.out, G5.out, N7.out, N8.out, N9.out, N10.out, N11.out, N12.out, (YA HB)⟩)
    skip
    refine ck hK Try.func79 (impl_Val_span.calls _ _ _ _ _ _ _ A2.out) (fun _ b => bk3 K1 K2 K3 HB b) fun w7 Q_ hHeld => ?_
    clear hK K
    obtain ⟨K1, K2, K3, HB⟩ := Q_
    refine two_ (i := 5) (j := 9) (Ni := some 33) (Nj := some 8) (lb 12 63) (lb 12 543) rfl rfl rfl rfl (two_of HT_.out (by kernel_rfl)) (by decide) (by decide) (fun K hK => ?_) (fun K hK => ?_)
    rotate_left
    ·skip
     refine box_step ?hg (N := 8) ?hd (cs := #[.int .i64 0, .int .i64 0]) (t := 24) ?hr ?_; (case hd => rfl); (case hg => rfl); (case hr => first | (go_simp; done) | (go_simp; rfl))
     intro g4 hg w8 hbox hb
     have K4 := am (hbox)
     have G4 := am (bs hg (YA HB))
     have G5 := am (bs hg (YA HB))
     obtain ⟨N7,N8⟩ := ne_ hg K1
     obtain ⟨N9,N10⟩ := ne_ hg K2
     obtain ⟨N11,N12⟩ := ne_ hg K3
     obtain ⟨K1, K2, K3, HB⟩ := bk3 K1 K2 K3 HB hb
     clear hb hbox hg
     refine kk hK ⟨bc K1 0, bc K1 1, bc K1 2, bc K1 3, bc K2 0, bc K2 1, bc K2 2, bc K2 3⟩ fun hHeld => ?_
     clear hK K
     refine on 5 (some 33) 575 fun K hK => ?_
     refine goes_ Try.func11 (by kernel_rfl) rfl #[.int .i64 a0, .agg #[.int .i64 t5, .int .i64 t6], .agg #[.int .i64 t7, .int .i64 t8]] (by rfl) rfl rfl mz ?_
     with_reducible refine (impl_RangeDo.calls _ _ _ _ _ _ _ _ _ _ A3.out).mono ?_
     rintro e w9 ⟨v2, rfl, o1, hb⟩
     refine ⟨_, rfl, ?_⟩
     have O1 := am (Kd.R_lower o1 (below_size (YA HB)))
     obtain ⟨K1, K2, K3, K4, HB⟩ := bk4 K1 K2 K3 K4 HB hb
     clear hb
     (try clear o1)
     refine kk hK ⟨bc K1 0, bc K1 1, bc K1 2, bc K1 3, bc K2 0, bc K2 1, bc K2 2, bc K2 3⟩ fun hHeld => ?_
     clear hK K
     refine pk 6 27 639 ?_
     refine pk 7 34 767 ?_
     refine pk 8 35 1023 ?_
     exact norm_ nz (hCont (v2, g4) _ ⟨hHeld, (RZ O1), (Z K1), (Z K2), (Z K3), (Z K4), G4.out, G5.out, N7.out, N8.out, N9.out, N10.out, N11.out, N12.out, (YA HB)⟩)
    skip
    refine goes_ Try.func11 (by kernel_rfl) rfl #[.int .i64 a0, .agg #[.int .i64 t5, .int .i64 t6], .agg #[.int .i64 t7, .int .i64 t8]] (by rfl) rfl rfl mz ?_
    with_reducible refine (impl_RangeDo.calls _ _ _ _ _ _ _ _ _ _ A3.out).mono ?_
    rintro e w8 ⟨v2, rfl, o1, hb⟩
    refine ⟨_, rfl, ?_⟩
    have O1 := am (Kd.R_lower o1 (below_size (YA HB)))
    obtain ⟨K1, K2, K3, HB⟩ := bk3 K1 K2 K3 HB hb
    clear hb
    (try clear o1)
    refine kk hK ⟨bc K1 0, bc K1 1, bc K1 2, bc K1 3, bc K2 0, bc K2 1, bc K2 2, bc K2 3⟩ fun hHeld => ?_
    clear hK K
    refine pk 6 27 127 ?_
    refine pk 7 34 255 ?_
    refine pk 8 35 511 ?_
    refine on 9 (some 8) 1023 fun K hK => ?_
    refine box_step ?hg (N := 8) ?hd (cs := #[.int .i64 0, .int .i64 0]) (t := 24) ?hr ?_; (case hd => rfl); (case hg => rfl); (case hr => first | (go_simp; done) | (go_simp; rfl))
    intro g4 hg w9 hbox hb
    have K4 := am (hbox)
    have G4 := am (bs hg (YA HB))
    have G5 := am (bs hg (YA HB))
    obtain ⟨N7,N8⟩ := ne_ hg K1
    obtain ⟨N9,N10⟩ := ne_ hg K2
    obtain ⟨N11,N12⟩ := ne_ hg K3
    replace O1 := am (Kd.R_below (RZ O1) hb)
    obtain ⟨K1, K2, K3, HB⟩ := bk3 K1 K2 K3 HB hb
    clear hb hbox hg
    refine kk hK ⟨bc K1 0, bc K1 1, bc K1 2, bc K1 3, bc K2 0, bc K2 1, bc K2 2, bc K2 3⟩ fun hHeld => ?_
    clear hK K
    exact norm_ nz (hCont (v2, g4) _ ⟨hHeld, (RZ O1), (Z K1), (Z K2), (Z K3), (Z K4), G4.out, G5.out, N7.out, N8.out, N9.out, N10.out, N11.out, N12.out, (YA HB)⟩)
   rintro ⟨v2, g4⟩ w6 ⟨hS_, h0_, h1_, h2_, h3_, h4_, h5_, h6_, h7_, h8_, h9_, h10_, h11_, h12_, h13_⟩
   have O1 : Aside0 (Kd.R (Kd.int .i64) 3 w6 w.heap.size (fun _ => True) v2 t11) := ⟨h0_⟩
   have K4 : Bx2 w6 g4 0 0 24 := ⟨h4_⟩
   have G4 : Aside0 (w.heap.size ≤ g4) := ⟨h5_⟩
   have G5 : Aside0 (w.heap.size ≤ g4) := ⟨h6_⟩
   have N7 : Aside0 (g1 ≠ g4) := ⟨h7_⟩
   have N8 : Aside0 (g4 ≠ g1) := ⟨h8_⟩
   have N9 : Aside0 (g2 ≠ g4) := ⟨h9_⟩
   have N10 : Aside0 (g4 ≠ g2) := ⟨h10_⟩
   have N11 : Aside0 (g3 ≠ g4) := ⟨h11_⟩
   have N12 : Aside0 (g4 ≠ g3) := ⟨h12_⟩
   replace K1 : Bx4 w6 g1 a1_0 a1_1 a1_2 a1_3 50 := ⟨h1_⟩
   replace K2 : Bx4 w6 g2 a2_0 a2_1 a2_2 a2_3 50 := ⟨h2_⟩
   replace K3 : Bx4 w6 g3 0 0 0 0 50 := ⟨h3_⟩
   replace HB : Aside0 (Below w.heap.size w w6) := ⟨h13_⟩
   clear h0_ h1_ h2_ h3_ h4_ h5_ h6_ h7_ h8_ h9_ h10_ h11_ h12_ h13_
   have hHeld : w6.cell? ⟨g1, 0, none⟩ = some (.int .i64 a1_0) ∧ w6.cell? ⟨g1, 1, none⟩ = some (.int .i64 a1_1) ∧ w6.cell? ⟨g1, 2, none⟩ = some (.int .i64 a1_2) ∧ w6.cell? ⟨g1, 3, none⟩ = some (.int .i64 a1_3) ∧ w6.cell? ⟨g2, 0, none⟩ = some (.int .i64 a2_0) ∧ w6.cell? ⟨g2, 1, none⟩ = some (.int .i64 a2_1) ∧ w6.cell? ⟨g2, 2, none⟩ = some (.int .i64 a2_2) ∧ w6.cell? ⟨g2, 3, none⟩ = some (.int .i64 a2_3) := hS_
   refine norm_ (a' := ?_) ?_ ?_
   rotate_left
   ·simp only [putAll, Act.put, List.setIfInBounds_toArray, List.set_cons_zero, List.set_cons_succ]
    rfl
   refine on 10 none 2047 fun K hK => ?_
   have s1 : w6.cell? ⟨g4, 0, none⟩ = some (.int .i64 0) := bc K4 0
   have hfs65 := blk_frozen K4.out 0
   have z_ := ns6 N7 N9 N11 N8 N10 N12
   have s2 : w6.cell? ⟨g4, 1, none⟩ = some (.int .i64 0) := bc K4 1
   have hfs66 := blk_frozen K4.out 1
   have z_ := ns6 N7 N9 N11 N8 N10 N12
   refine skip_ (w1 := ?_) (by rfl) rfl ?_ ?_
   rotate_left
   ·go_simp
    rfl
   refine hK.out _ _ ⟨(cf N7 ((cf N7 (hHeld.1)))), (cf N7 ((cf N7 (hHeld.2.1)))), (cf N7 ((cf N7 (hHeld.2.2.1)))), (cf N7 ((cf N7 (hHeld.2.2.2.1)))), (cf N9 ((cf N9 (hHeld.2.2.2.2.1)))), (cf N9 ((cf N9 (hHeld.2.2.2.2.2.1)))), (cf N9 ((cf N9 (hHeld.2.2.2.2.2.2.1)))), (cf N9 ((cf N9 (hHeld.2.2.2.2.2.2.2))))⟩ (fun hHeld => ?_)
   clear hK K
   refine pk 11 9 4095 ?_
   refine done_ (done_of HT_.out (by kernel_rfl)) ?_
   try go_wp2
   have n0_ : Aside0 (Kd.R (Kd.int .i64) 3 ((w6.setCell ⟨g4, 0, none⟩ (.int .i64 t9)).setCell ⟨g4, 1, none⟩ (.int .i64 t10)) w.heap.size (fun _ => True) v2 t11) := ⟨by (with_reducible repeat (first | apply Kd.R_alloc | apply Kd.R_drewN | apply Kd.R_drew)); exact Kd.R_mono (Kd.R_far (p := ⟨g4, 1, none⟩) (Kd.R_far (p := ⟨g4, 0, none⟩) (Kd.R_types O1.out K4.out (by decide)) (fun _ hk => hk.2) (.int .i64 t9)) (fun _ hk => hk.2) (.int .i64 t10)) (fun _ hk => trivial)⟩
   have n1_ : Aside0 (((w6.setCell ⟨g4, 0, none⟩ (.int .i64 t9)).setCell ⟨g4, 1, none⟩ (.int .i64 t10)).heap[g1]? = some (.cells #[.int .i64 a1_0, .int .i64 a1_1, .int .i64 a1_2, .int .i64 a1_3] 50 (0, 0))) := ⟨by refine fa N7 ?_; refine fa N7 ?_; exact Z K1⟩
   have n2_ : Aside0 (((w6.setCell ⟨g4, 0, none⟩ (.int .i64 t9)).setCell ⟨g4, 1, none⟩ (.int .i64 t10)).heap[g2]? = some (.cells #[.int .i64 a2_0, .int .i64 a2_1, .int .i64 a2_2, .int .i64 a2_3] 50 (0, 0))) := ⟨by refine fa N9 ?_; refine fa N9 ?_; exact Z K2⟩
   have n3_ : Aside0 (((w6.setCell ⟨g4, 0, none⟩ (.int .i64 t9)).setCell ⟨g4, 1, none⟩ (.int .i64 t10)).heap[g3]? = some (.cells #[.int .i64 0, .int .i64 0, .int .i64 0, .int .i64 0] 50 (0, 0))) := ⟨by refine fa N11 ?_; refine fa N11 ?_; exact Z K3⟩
   have n4_ : Aside0 (((w6.setCell ⟨g4, 0, none⟩ (.int .i64 t9)).setCell ⟨g4, 1, none⟩ (.int .i64 t10)).heap[g4]? = some (.cells #[.int .i64 t9, .int .i64 t10] 24 (0, 0))) := ⟨by refine pf ?_; refine blk_put (cs := #[.int .i64 t9, .int .i64 0]) ?_ 1 _ rfl; refine pf ?_; refine blk_put (cs := #[.int .i64 0, .int .i64 0]) ?_ 0 _ rfl; exact Z K4⟩
   have n5_ : Aside0 (Below w.heap.size w ((w6.setCell ⟨g4, 0, none⟩ (.int .i64 t9)).setCell ⟨g4, 1, none⟩ (.int .i64 t10))) := ⟨YA HB⟩
   (try clear O1)
   (try clear K1)
   (try clear K2)
   (try clear K3)
   (try clear K4)
   (try clear HB)
   generalize ((w6.setCell ⟨g4, 0, none⟩ (.int .i64 t9)).setCell ⟨g4, 1, none⟩ (.int .i64 t10)) = w7 at n0_ n1_ n2_ n3_ n4_ n5_ ⊢
   have O1 := n0_
   have K1 := n1_
   have K2 := n2_
   have K3 := n3_
   have K4 := n4_
   have HB := n5_
   clear n0_ n1_ n2_ n3_ n4_ n5_
   replace O1 := am (Kd.R_drew O1.out)
   obtain ⟨K1, K2, K3, K4, HB⟩ := dk4 K1 K2 K3 K4 HB
   refine start_ (n := 11) (S := fun w' => w'.cell? ⟨g4, 0, none⟩ = some (.int .i64 t9) ∧ w'.cell? ⟨g4, 1, none⟩ = some (.int .i64 t10) ∧ w'.cell? ⟨g1, 0, none⟩ = some (.int .i64 a1_0) ∧ w'.cell? ⟨g1, 1, none⟩ = some (.int .i64 a1_1) ∧ w'.cell? ⟨g1, 2, none⟩ = some (.int .i64 a1_2) ∧ w'.cell? ⟨g1, 3, none⟩ = some (.int .i64 a1_3) ∧ w'.cell? ⟨g2, 0, none⟩ = some (.int .i64 a2_0) ∧ w'.cell? ⟨g2, 1, none⟩ = some (.int .i64 a2_1) ∧ w'.cell? ⟨g2, 2, none⟩ = some (.int .i64 a2_2) ∧ w'.cell? ⟨g2, 3, none⟩ = some (.int .i64 a2_3)) (ds := []) (lb 11 0) (by kernel_rfl) rfl rfl ⟨bc K4 0, bc K4 1, bc K1 0, bc K1 1, bc K1 2, bc K1 3, bc K2 0, bc K2 1, bc K2 2, bc K2 3⟩ (fun hHeld => ?_); refine with_tabW impl_ValDo.tab4 impl_ValDo.bits4 (fun HT_ HW_ => ?_)
   generalize w7.drew = w8 at O1 K1 K2 K3 K4 HB hHeld ⊢
   refine pk 1 37 2 ?_
   refine pk 8 44 258 ?_
   refine tk 0 36 259 hHeld ?_
   refine tk 2 38 263 hHeld ?_
   refine tk 4 40 279 hHeld ?_
   refine on 3 (some 39) 287 fun K hK => ?_
   refine gq Try.func82 (impl_Val_rest.calls _ _ _ _ _ _ _ A4.out) fun w9 hb => ?_
   replace O1 := am (Kd.R_below (RZ O1) hb)
   obtain ⟨K1, K2, K3, K4, HB⟩ := bk4 K1 K2 K3 K4 HB hb
   clear hb
   refine kk hK ⟨bc K4 0, bc K4 1, bc K1 0, bc K1 1, bc K1 2, bc K1 3, bc K2 0, bc K2 1, bc K2 2, bc K2 3⟩ fun hHeld => ?_
   clear hK K
   refine on 5 (some 41) 319 fun K hK => ?_
   refine gq Try.func82 (impl_Val_rest.calls _ _ _ _ _ _ _ A5.out) fun w10 hb => ?_
   replace O1 := am (Kd.R_below (RZ O1) hb)
   obtain ⟨K1, K2, K3, K4, HB⟩ := bk4 K1 K2 K3 K4 HB hb
   clear hb
   refine kk hK ⟨bc K4 0, bc K4 1, bc K1 0, bc K1 1, bc K1 2, bc K1 3, bc K2 0, bc K2 1, bc K2 2, bc K2 3⟩ fun hHeld => ?_
   clear hK K
   refine on 6 (some 42) 383 fun K hK => ?_
   refine gq Try.func81 (impl_RestDo.calls _ _ _ _ _ _ _ _ _ A6.out) fun w11 hb => ?_
   replace O1 := am (Kd.R_below (RZ O1) hb)
   obtain ⟨K1, K2, K3, K4, HB⟩ := bk4 K1 K2 K3 K4 HB hb
   clear hb
   refine kk hK ⟨bc K4 0, bc K4 1, bc K1 0, bc K1 1, bc K1 2, bc K1 3, bc K2 0, bc K2 1, bc K2 2, bc K2 3⟩ fun hHeld => ?_
   clear hK K
   refine on 7 (some 43) 511 fun K hK => ?_
   refine gq Try.func80 (impl_ValMake.calls _ _ _ _ _ _ _ _ _ _ A7.out) fun w12 hb => ?_
   replace O1 := am (Kd.R_below (RZ O1) hb)
   obtain ⟨K1, K2, K3, K4, HB⟩ := bk4 K1 K2 K3 K4 HB hb
   clear hb
   refine kk hK ⟨bc K4 0, bc K4 1, bc K1 0, bc K1 1, bc K1 2, bc K1 3, bc K2 0, bc K2 1, bc K2 2, bc K2 3⟩ fun hHeld => ?_
   clear hK K
   refine on 9 none 1023 fun K hK => ?_
   have s3 : w12.cell? ⟨g3, 0, none⟩ = some (.int .i64 0) := bc K3 0
   have hfs73 := blk_frozen K3.out 0
   have z_ := ns6 N3 N5 N12 N4 N6 N11
   have s4 : w12.cell? ⟨g3, 1, none⟩ = some (.int .i64 0) := bc K3 1
   have hfs74 := blk_frozen K3.out 1
   have z_ := ns6 N3 N5 N12 N4 N6 N11
   have s5 : w12.cell? ⟨g3, 2, none⟩ = some (.int .i64 0) := bc K3 2
   have hfs75 := blk_frozen K3.out 2
   have z_ := ns6 N3 N5 N12 N4 N6 N11
   have s6 : w12.cell? ⟨g3, 3, none⟩ = some (.int .i64 0) := bc K3 3
   have hfs76 := blk_frozen K3.out 3
   have z_ := ns6 N3 N5 N12 N4 N6 N11
   refine skip_ (w1 := ?_) (by rfl) rfl ?_ ?_
   rotate_left
   ·go_simp
    rfl
   refine hK.out _ _ ⟨(cf N12 ((cf N12 ((cf N12 ((cf N12 (hHeld.1)))))))), (cf N12 ((cf N12 ((cf N12 ((cf N12 (hHeld.2.1)))))))), (cf N3 ((cf N3 ((cf N3 ((cf N3 (hHeld.2.2.1)))))))), (cf N3 ((cf N3 ((cf N3 ((cf N3 (hHeld.2.2.2.1)))))))), (cf N3 ((cf N3 ((cf N3 ((cf N3 (hHeld.2.2.2.2.1)))))))), (cf N3 ((cf N3 ((cf N3 ((cf N3 (hHeld.2.2.2.2.2.1)))))))), (cf N5 ((cf N5 ((cf N5 ((cf N5 (hHeld.2.2.2.2.2.2.1)))))))), (cf N5 ((cf N5 ((cf N5 ((cf N5 (hHeld.2.2.2.2.2.2.2.1)))))))), (cf N5 ((cf N5 ((cf N5 ((cf N5 (hHeld.2.2.2.2.2.2.2.2.1)))))))), (cf N5 ((cf N5 ((cf N5 ((cf N5 (hHeld.2.2.2.2.2.2.2.2.2))))))))⟩ (fun hHeld => ?_)
   clear hK K
   refine pk 10 7 2047 ?_
   refine done_ (done_of HT_.out (by kernel_rfl)) ?_
   try go_wp2
   refine bodyPost_ret (results_ct rfl _ _ g3 50 #[.int .i64 t18, .int .i64 t19, .int .i64 t20, .int .i64 t21] (0, 0) _ rfl (by refine pf ?_; refine blk_put (cs := #[.int .i64 t18, .int .i64 t19, .int .i64 t20, .int .i64 0]) ?_ 3 _ rfl; refine pf ?_; refine blk_put (cs := #[.int .i64 t18, .int .i64 t19, .int .i64 0, .int .i64 0]) ?_ 2 _ rfl; refine pf ?_; refine blk_put (cs := #[.int .i64 t18, .int .i64 0, .int .i64 0, .int .i64 0]) ?_ 1 _ rfl; refine pf ?_; refine blk_put (cs := #[.int .i64 0, .int .i64 0, .int .i64 0, .int .i64 0]) ?_ 0 _ rfl; exact Z K3) Try.underlying50 rfl (by kernel_rfl)) rfl ?_
   exact ⟨_, ez, by (with_reducible repeat (first | apply Kd.R_alloc | apply Kd.R_drewN | apply Kd.R_drew)); exact Kd.R_mono (Kd.R_far (p := ⟨g3, 3, none⟩) (Kd.R_far (p := ⟨g3, 2, none⟩) (Kd.R_far (p := ⟨g3, 1, none⟩) (Kd.R_far (p := ⟨g3, 0, none⟩) (Kd.R_types O1.out K3.out (by decide)) (fun _ hk => hk.2) (.int .i64 t18)) (fun _ hk => hk.2) (.int .i64 t19)) (fun _ hk => hk.2) (.int .i64 t20)) (fun _ hk => hk.2) (.int .i64 t21)) (fun _ hk => trivial), YA HB⟩
end
section
attribute [local go_sem] max2_int min2_int max_two min_two max_three min_three max_four min_four
attribute [local go_sem] Go.Proofs.YthbkakcchgnhpaaSet.isSome_setCell
def laws_eqVal.f (a0_0 : Int) (a0_1 : Int) (a0_2 : Int) (a0_3 : Int) (a1_0 : Int) (a1_1 : Int) (a1_2 : Int) (a1_3 : Int) : Option (Bool) := if a0_0 = a1_0 then (if a0_1 = a1_1 then (if a0_2 = a1_2 then (if a0_3 = a1_3 then (some true) else (some false)) else (some false)) else (some false)) else (some false)
set_option maxHeartbeats 8000000 in
set_option maxRecDepth 100000 in
theorem laws_eqVal.calls (a0_0 : Int) (a0_1 : Int) (a0_2 : Int) (a0_3 : Int) (a1_0 : Int) (a1_1 : Int) (a1_2 : Int) (a1_3 : Int) (r : Bool) (w : World) (h : laws_eqVal.f a0_0 a0_1 a0_2 a0_3 a1_0 a1_1 a1_2 a1_3 = some r) :
  Calls Try.prog 31 #[.agg #[.int .i64 a0_0, .int .i64 a0_1, .int .i64 a0_2, .int .i64 a0_3], .agg #[.int .i64 a1_0, .int .i64 a1_1, .int .i64 a1_2, .int .i64 a1_3]] w fun e w' => e = .returned (.bool r) ∧ Below w.heap.size w w' := by
 have hu50 := Try.underlying50
 have HB := am (Below.refl w.heap.size w)
 have H : (if a0_0 = a1_0 then (if a0_1 = a1_1 then (if a0_2 = a1_2 then (if a0_3 = a1_3 then (some true) else (some false)) else (some false)) else (some false)) else (some false)) = some r := h
 clear h
 by_cases c1 : a0_0 = a1_0
 rotate_left
 ·rw [if_neg c1] at H
  have d1 := eF c1
  have d2 := nT c1
  obtain rfl := Option.some.inj H
  go_enter Try.func31, Try.ntmps31
  go_wp2_with (first | ((with_reducible refine gate_dst (N := 2) rfl ?_); refine bxn 2 #[.int .i64 a0_0, .int .i64 a0_1, .int .i64 a0_2, .int .i64 a0_3] 50 HB fun g1 w1 K1 G1 hg hb => ?_; replace HB := am (below_step (YA HB) hb); clear hb hg) | ((with_reducible refine gate_dst (N := 3) rfl ?_); refine bxn 3 #[.int .i64 a1_0, .int .i64 a1_1, .int .i64 a1_2, .int .i64 a1_3] 50 HB fun g2 w2 K2 G2 hg hb => ?_; obtain ⟨N1,N2⟩ := ne_ hg K1; obtain ⟨K1, HB⟩ := bk1 K1 HB hb; clear hb hg; have z_ := ns1 N1; have z_ := cB4 K1; have z_ := cB4 K2))
  go_ret
  exact ⟨ez, YA HB⟩
 rw [if_pos c1] at H
 have d1 := eT c1
 have d2 := nF c1
 clear c1
 by_cases c2 : a0_1 = a1_1
 rotate_left
 ·rw [if_neg c2] at H
  have d3 := eF c2
  have d4 := nT c2
  obtain rfl := Option.some.inj H
  go_enter Try.func31, Try.ntmps31
  go_wp2_with (first | ((with_reducible refine gate_dst (N := 2) rfl ?_); refine bxn 2 #[.int .i64 a0_0, .int .i64 a0_1, .int .i64 a0_2, .int .i64 a0_3] 50 HB fun g1 w1 K1 G1 hg hb => ?_; replace HB := am (below_step (YA HB) hb); clear hb hg) | ((with_reducible refine gate_dst (N := 3) rfl ?_); refine bxn 3 #[.int .i64 a1_0, .int .i64 a1_1, .int .i64 a1_2, .int .i64 a1_3] 50 HB fun g2 w2 K2 G2 hg hb => ?_; obtain ⟨N1,N2⟩ := ne_ hg K1; obtain ⟨K1, HB⟩ := bk1 K1 HB hb; clear hb hg; have z_ := ns1 N1; have z_ := cB4 K1; have z_ := cB4 K2))
  go_ret
  exact ⟨ez, YA HB⟩
 rw [if_pos c2] at H
 have d3 := eT c2
 have d4 := nF c2
 clear c2
 by_cases c3 : a0_2 = a1_2
 rotate_left
 ·rw [if_neg c3] at H
  have d5 := eF c3
  have d6 := nT c3
  obtain rfl := Option.some.inj H
  go_enter Try.func31, Try.ntmps31
  go_wp2_with (first | ((with_reducible refine gate_dst (N := 2) rfl ?_); refine bxn 2 #[.int .i64 a0_0, .int .i64 a0_1, .int .i64 a0_2, .int .i64 a0_3] 50 HB fun g1 w1 K1 G1 hg hb => ?_; replace HB := am (below_step (YA HB) hb); clear hb hg) | ((with_reducible refine gate_dst (N := 3) rfl ?_); refine bxn 3 #[.int .i64 a1_0, .int .i64 a1_1, .int .i64 a1_2, .int .i64 a1_3] 50 HB fun g2 w2 K2 G2 hg hb => ?_; obtain ⟨N1,N2⟩ := ne_ hg K1; obtain ⟨K1, HB⟩ := bk1 K1 HB hb; clear hb hg; have z_ := ns1 N1; have z_ := cB4 K1; have z_ := cB4 K2))
  go_ret
  exact ⟨ez, YA HB⟩
 rw [if_pos c3] at H
 have d5 := eT c3
 have d6 := nF c3
 clear c3
 by_cases c4 : a0_3 = a1_3
 rotate_left
 ·rw [if_neg c4] at H
  have d7 := eF c4
  have d8 := nT c4
  obtain rfl := Option.some.inj H
  go_enter Try.func31, Try.ntmps31
  go_wp2_with (first | ((with_reducible refine gate_dst (N := 2) rfl ?_); refine bxn 2 #[.int .i64 a0_0, .int .i64 a0_1, .int .i64 a0_2, .int .i64 a0_3] 50 HB fun g1 w1 K1 G1 hg hb => ?_; replace HB := am (below_step (YA HB) hb); clear hb hg) | ((with_reducible refine gate_dst (N := 3) rfl ?_); refine bxn 3 #[.int .i64 a1_0, .int .i64 a1_1, .int .i64 a1_2, .int .i64 a1_3] 50 HB fun g2 w2 K2 G2 hg hb => ?_; obtain ⟨N1,N2⟩ := ne_ hg K1; obtain ⟨K1, HB⟩ := bk1 K1 HB hb; clear hb hg; have z_ := ns1 N1; have z_ := cB4 K1; have z_ := cB4 K2))
  go_ret
  exact ⟨ez, YA HB⟩
 rw [if_pos c4] at H
 have d7 := eT c4
 have d8 := nF c4
 clear c4
 obtain rfl := Option.some.inj H
 go_enter Try.func31, Try.ntmps31
 go_wp2_with (first | ((with_reducible refine gate_dst (N := 2) rfl ?_); refine bxn 2 #[.int .i64 a0_0, .int .i64 a0_1, .int .i64 a0_2, .int .i64 a0_3] 50 HB fun g1 w1 K1 G1 hg hb => ?_; replace HB := am (below_step (YA HB) hb); clear hb hg) | ((with_reducible refine gate_dst (N := 3) rfl ?_); refine bxn 3 #[.int .i64 a1_0, .int .i64 a1_1, .int .i64 a1_2, .int .i64 a1_3] 50 HB fun g2 w2 K2 G2 hg hb => ?_; obtain ⟨N1,N2⟩ := ne_ hg K1; obtain ⟨K1, HB⟩ := bk1 K1 HB hb; clear hb hg; have z_ := ns1 N1; have z_ := cB4 K1; have z_ := cB4 K2))
 go_ret
 exact ⟨ez, YA HB⟩
end
end Go.Proofs.Ythbkakcchgnhpaa.PFnExactValDo
