/- Written by this session's own driver (wip/dprint.py): the functions that the law FnExactValCmp reaches, as Lean functions, each with its contract. -/
import Derived.Test.YtdmadlfdibiejaaPFnExactValCmpx0
import Derived.Test.YtdmadlfdibiejaaPFnExactValCmpx1
import Derived.Test.YtdmadlfdibiejaaSv
namespace Go.Proofs.Ytdmadlfdibiejaa.PFnExactValCmp
open Go.RowKit Go.Proofs.YtdmadlfdibiejaaV.PrintWords Go.Proofs.YtdmadlfdibiejaaV.PrintLast Go.Proofs.YtdmadlfdibiejaaV.PrintMore Go.Proofs.YtdmadlfdibiejaaSv
set_option linter.unusedVariables false
set_option linter.unusedSimpArgs false
section
attribute [local go_sem] max2_int min2_int max_two min_two max_three min_three max_four min_four
attribute [local go_sem high] eqA33
attribute [local go_sem] Go.Proofs.YtdmadlfdibiejaaSet.isSome_setCell
mutual
def spec_RangeCmp.j0 : Nat → Int → Bool → Int → Int → Int → Int → Int → Int → Int → Int → Option (Int × Int × Int × Int)
 | 0, _, _, _, _, _, _, _, _, _, _ => none
 | k + 1, x1, x2, x3, x4, x5, x6, x7, x8, x9, x10 => if x2 = true then (some (x7, x8, x9, x10)) else (if x1 = 1 then ((spec_RangeMeet.f k x3 x4 x5 x6).bind fun u1 => (spec_RangeCmp.j1 k x1 x3 x4 x5 x6 u1.1 u1.2 u1.1 u1.2)) else (spec_RangeCmp.j1 k x1 x3 x4 x5 x6 x7 x8 x9 x10))
def spec_RangeCmp.j1 : Nat → Int → Int → Int → Int → Int → Int → Int → Int → Int → Option (Int × Int × Int × Int)
 | 0, _, _, _, _, _, _, _, _, _ => none
 | k + 1, x1, x2, x3, x4, x5, x6, x7, x8, x9 => if x1 = 2 then ((spec_l8Ne.f x2 x3 x4 x5).bind fun u1 => ((spec_l8Ne.f x4 x5 x2 x3).bind fun u2 => (spec_RangeCmp.j2 k x1 x2 x3 x4 x5 u1.1 u1.2 u2.1 u2.2))) else (spec_RangeCmp.j2 k x1 x2 x3 x4 x5 x6 x7 x8 x9)
def spec_RangeCmp.j2 : Nat → Int → Int → Int → Int → Int → Int → Int → Int → Int → Option (Int × Int × Int × Int)
 | 0, _, _, _, _, _, _, _, _, _ => none
 | k + 1, x1, x2, x3, x4, x5, x6, x7, x8, x9 => if x1 = 3 then ((spec_l8Min.f x3 (wrap64 (x5 - 1))).bind fun t1 => ((spec_l8Cut.f x2 t1).bind fun u1 => ((spec_l8Max.f x4 (wrap64 (x2 + 1))).bind fun t2 => ((spec_l8Cut.f t2 x5).bind fun u2 => (spec_RangeCmp.j3 k x1 x2 x3 x4 x5 u1.1 u1.2 u2.1 u2.2))))) else (spec_RangeCmp.j3 k x1 x2 x3 x4 x5 x6 x7 x8 x9)
def spec_RangeCmp.j3 : Nat → Int → Int → Int → Int → Int → Int → Int → Int → Int → Option (Int × Int × Int × Int)
 | 0, _, _, _, _, _, _, _, _, _ => none
 | k + 1, x1, x2, x3, x4, x5, x6, x7, x8, x9 => if x1 = 4 then ((spec_l8Min.f x3 x5).bind fun t1 => ((spec_l8Cut.f x2 t1).bind fun u1 => ((spec_l8Max.f x4 x2).bind fun t2 => ((spec_l8Cut.f t2 x5).bind fun u2 => (spec_RangeCmp.j4 k x1 x2 x3 x4 x5 u1.1 u1.2 u2.1 u2.2))))) else (spec_RangeCmp.j4 k x1 x2 x3 x4 x5 x6 x7 x8 x9)
def spec_RangeCmp.j4 : Nat → Int → Int → Int → Int → Int → Int → Int → Int → Int → Option (Int × Int × Int × Int)
 | 0, _, _, _, _, _, _, _, _, _ => none
 | k + 1, x1, x2, x3, x4, x5, x6, x7, x8, x9 => if x1 = 5 then (spec_RangeCmp.j5 k x1 true x2 x3 x4 x5 x6 x7 x8 x9) else (spec_RangeCmp.j5 k x1 (x1 == 6) x2 x3 x4 x5 x6 x7 x8 x9)
def spec_RangeCmp.j5 : Nat → Int → Bool → Int → Int → Int → Int → Int → Int → Int → Int → Option (Int × Int × Int × Int)
 | 0, _, _, _, _, _, _, _, _, _, _ => none
 | k + 1, x1, x2, x3, x4, x5, x6, x7, x8, x9, x10 => if x2 = true then ((spec_CmpTurn.f x1).bind fun t1 => ((spec_RangeCmp.f k t1 x5 x6 x3 x4).bind fun u1 => (spec_RangeCmp.j6 k u1.2.2.1 u1.2.2.2 u1.1 u1.2.1))) else (spec_RangeCmp.j6 k x7 x8 x9 x10)
def spec_RangeCmp.j6 : Nat → Int → Int → Int → Int → Option (Int × Int × Int × Int)
 | 0, _, _, _, _ => none
 | k + 1, x1, x2, x3, x4 => (spec_l8None.f).bind fun u1 => (if (x1 == u1.1 && (x2 == u1.2)) = true then (spec_RangeCmp.j7 k true x1 x2 x3 x4) else ((spec_l8None.f).bind fun u2 => (spec_RangeCmp.j7 k (x3 == u2.1 && (x4 == u2.2)) x1 x2 x3 x4)))
def spec_RangeCmp.j7 : Nat → Bool → Int → Int → Int → Int → Option (Int × Int × Int × Int)
 | 0, _, _, _, _, _ => none
 | k + 1, x1, x2, x3, x4, x5 => if x1 = true then ((spec_l8None.f).bind fun u1 => ((spec_l8None.f).bind fun u2 => (some (u1.1, u1.2, u2.1, u2.2)))) else (some (x2, x3, x4, x5))
def spec_RangeCmp.f : Nat → Int → Int → Int → Int → Int → Option (Int × Int × Int × Int)
 | 0, _, _, _, _, _ => none
 | k + 1, a0, a1_0, a1_1, a2_0, a2_1 => (spec_l8None.f).bind fun u1 => ((spec_l8None.f).bind fun u2 => ((spec_RangeOk.f a1_0 a1_1).bind fun t1 => (if t1 = true then ((spec_RangeOk.f a2_0 a2_1).bind fun t2 => (if t2 = true then ((spec_l8None.f).bind fun u3 => (if (a1_0 == u3.1 && (a1_1 == u3.2)) = true then (spec_RangeCmp.j0 k a0 true a1_0 a1_1 a2_0 a2_1 u1.1 u1.2 u2.1 u2.2) else ((spec_l8None.f).bind fun u4 => (spec_RangeCmp.j0 k a0 (a2_0 == u4.1 && (a2_1 == u4.2)) a1_0 a1_1 a2_0 a2_1 u1.1 u1.2 u2.1 u2.2)))) else (spec_RangeCmp.j0 k a0 true a1_0 a1_1 a2_0 a2_1 u1.1 u1.2 u2.1 u2.2))) else (spec_RangeCmp.j0 k a0 true a1_0 a1_1 a2_0 a2_1 u1.1 u1.2 u2.1 u2.2))))
end
theorem spec_RangeCmp.mono_l : ∀ k, (∀ y0 y1 y2 y3 y4, LeO (spec_RangeCmp.f k y0 y1 y2 y3 y4) (spec_RangeCmp.f (k + 1) y0 y1 y2 y3 y4)) ∧ (∀ y0 y1 y2 y3 y4 y5 y6 y7 y8 y9, LeO (spec_RangeCmp.j0 k y0 y1 y2 y3 y4 y5 y6 y7 y8 y9) (spec_RangeCmp.j0 (k + 1) y0 y1 y2 y3 y4 y5 y6 y7 y8 y9)) ∧ (∀ y0 y1 y2 y3 y4 y5 y6 y7 y8, LeO (spec_RangeCmp.j1 k y0 y1 y2 y3 y4 y5 y6 y7 y8) (spec_RangeCmp.j1 (k + 1) y0 y1 y2 y3 y4 y5 y6 y7 y8)) ∧ (∀ y0 y1 y2 y3 y4 y5 y6 y7 y8, LeO (spec_RangeCmp.j2 k y0 y1 y2 y3 y4 y5 y6 y7 y8) (spec_RangeCmp.j2 (k + 1) y0 y1 y2 y3 y4 y5 y6 y7 y8)) ∧ (∀ y0 y1 y2 y3 y4 y5 y6 y7 y8, LeO (spec_RangeCmp.j3 k y0 y1 y2 y3 y4 y5 y6 y7 y8) (spec_RangeCmp.j3 (k + 1) y0 y1 y2 y3 y4 y5 y6 y7 y8)) ∧ (∀ y0 y1 y2 y3 y4 y5 y6 y7 y8, LeO (spec_RangeCmp.j4 k y0 y1 y2 y3 y4 y5 y6 y7 y8) (spec_RangeCmp.j4 (k + 1) y0 y1 y2 y3 y4 y5 y6 y7 y8)) ∧ (∀ y0 y1 y2 y3 y4 y5 y6 y7 y8 y9, LeO (spec_RangeCmp.j5 k y0 y1 y2 y3 y4 y5 y6 y7 y8 y9) (spec_RangeCmp.j5 (k + 1) y0 y1 y2 y3 y4 y5 y6 y7 y8 y9)) ∧ (∀ y0 y1 y2 y3, LeO (spec_RangeCmp.j6 k y0 y1 y2 y3) (spec_RangeCmp.j6 (k + 1) y0 y1 y2 y3)) ∧ (∀ y0 y1 y2 y3 y4, LeO (spec_RangeCmp.j7 k y0 y1 y2 y3 y4) (spec_RangeCmp.j7 (k + 1) y0 y1 y2 y3 y4))
 | 0 => ⟨fun _ _ _ _ _ r h => by simp [spec_RangeCmp.f] at h, fun _ _ _ _ _ _ _ _ _ _ r h => by simp [spec_RangeCmp.j0] at h, fun _ _ _ _ _ _ _ _ _ r h => by simp [spec_RangeCmp.j1] at h, fun _ _ _ _ _ _ _ _ _ r h => by simp [spec_RangeCmp.j2] at h, fun _ _ _ _ _ _ _ _ _ r h => by simp [spec_RangeCmp.j3] at h, fun _ _ _ _ _ _ _ _ _ r h => by simp [spec_RangeCmp.j4] at h, fun _ _ _ _ _ _ _ _ _ _ r h => by simp [spec_RangeCmp.j5] at h, fun _ _ _ _ r h => by simp [spec_RangeCmp.j6] at h, fun _ _ _ _ _ r h => by simp [spec_RangeCmp.j7] at h⟩
 | k + 1 => by
  obtain ⟨ih0, ih1, ih2, ih3, ih4, ih5, ih6, ih7, ih8⟩ := spec_RangeCmp.mono_l k
  refine ⟨?_, ?_, ?_, ?_, ?_, ?_, ?_, ?_, ?_⟩ <;> (intros; (first | unfold spec_RangeCmp.f | unfold spec_RangeCmp.j0 | unfold spec_RangeCmp.j1 | unfold spec_RangeCmp.j2 | unfold spec_RangeCmp.j3 | unfold spec_RangeCmp.j4 | unfold spec_RangeCmp.j5 | unfold spec_RangeCmp.j6 | unfold spec_RangeCmp.j7); repeat' first | (with_reducible first | apply ih0 | apply ih1 | apply ih2 | apply ih3 | apply ih4 | apply ih5 | apply ih6 | apply ih7 | apply ih8 | apply spec_RangeMeet.mono | apply LeO.refl | apply LeO.none | refine LeO.ite ?_ ?_ | refine LeO.bind ?_ (fun _ => ?_)) | apply ih0 | apply ih1 | apply ih2 | apply ih3 | apply ih4 | apply ih5 | apply ih6 | apply ih7 | apply ih8 | apply spec_RangeMeet.mono | apply LeO.none | refine LeO.ite ?_ ?_ | refine LeO.bind ?_ (fun _ => ?_))
theorem spec_RangeCmp.mono : ∀ a0 a1 a2 a3 a4 k, LeO (spec_RangeCmp.f k a0 a1 a2 a3 a4) (spec_RangeCmp.f (k + 1) a0 a1 a2 a3 a4) := by
 intro a0 a1 a2 a3 a4 k
 obtain ⟨ih0, ih1, ih2, ih3, ih4, ih5, ih6, ih7, ih8⟩ := spec_RangeCmp.mono_l k
 exact ih0 a0 a1 a2 a3 a4
def spec_RangeCmp.T3 : Bool × List (List Nat × List Nat) := (true, [([], []), ([0], [0]), ([1], [1]), ([2, 1], [2]), ([3], [3]), ([4, 3, 3], [3, 4]), ([5, 3], [3, 5]), ([3, 6], [3, 6]), ([7, 5], [7]), ([8], [8]), ([8, 8], [8]), ([9, 10, 8], [8, 9, 10]), ([8, 11], [8, 11]), ([12, 10], [12]), ([13], [13]), ([13, 13], [13]), ([14, 15, 13], [13, 14, 15]), ([13, 16], [13, 16])])
def spec_RangeCmp.B3 : List Nat := [0, 1, 3, 7, 15, 31, 63, 127, 255, 511, 511, 2047, 4095, 8191, 16383, 16383, 65535, 131071]
theorem spec_RangeCmp.tab3 : rtab .any (opsOf Try.f10 3) = spec_RangeCmp.T3 := by kernel_rfl
theorem spec_RangeCmp.bits3 : waitsOk spec_RangeCmp.T3.2 spec_RangeCmp.B3 = true := by kernel_rfl
def spec_RangeCmp.T12 : Bool × List (List Nat × List Nat) := (true, [([], []), ([0], [0]), ([], []), ([2], [2]), ([], []), ([4], [4]), ([5], [5]), ([3, 6], [3, 6]), ([1, 7, 7], [1, 7]), ([8, 8, 0, 1, 2, 3, 4, 5, 6, 7, 8], [8])])
def spec_RangeCmp.B12 : List Nat := [0, 1, 0, 4, 0, 16, 48, 124, 255, 511]
theorem spec_RangeCmp.tab12 : rtab .any (opsOf Try.f10 12) = spec_RangeCmp.T12 := by kernel_rfl
theorem spec_RangeCmp.bits12 : waitsOk spec_RangeCmp.T12.2 spec_RangeCmp.B12 = true := by kernel_rfl
def spec_RangeCmp.T13 : Bool × List (List Nat × List Nat) := (true, [([], []), ([0], [0]), ([], []), ([2], [2]), ([3], [3]), ([1, 4], [1, 4]), ([], []), ([6], [6]), ([5, 7, 5], [5, 7]), ([8, 8, 0, 1, 2, 3, 4, 5, 6, 7, 8], [8])])
def spec_RangeCmp.B13 : List Nat := [0, 1, 0, 4, 12, 31, 0, 64, 255, 511]
theorem spec_RangeCmp.tab13 : rtab .any (opsOf Try.f10 13) = spec_RangeCmp.T13 := by kernel_rfl
theorem spec_RangeCmp.bits13 : waitsOk spec_RangeCmp.T13.2 spec_RangeCmp.B13 = true := by kernel_rfl
def spec_RangeCmp.T15 : Bool × List (List Nat × List Nat) := (true, [([], []), ([0], [0]), ([], []), ([2], [2]), ([], []), ([4], [4]), ([3, 5], [3, 5]), ([1, 6, 6], [1, 6]), ([7, 7, 0, 1, 2, 3, 4, 5, 6, 7], [7])])
def spec_RangeCmp.B15 : List Nat := [0, 1, 0, 4, 0, 16, 60, 127, 255]
theorem spec_RangeCmp.tab15 : rtab .any (opsOf Try.f10 15) = spec_RangeCmp.T15 := by kernel_rfl
theorem spec_RangeCmp.bits15 : waitsOk spec_RangeCmp.T15.2 spec_RangeCmp.B15 = true := by kernel_rfl
def spec_RangeCmp.T16 : Bool × List (List Nat × List Nat) := (true, [([], []), ([0], [0]), ([], []), ([2], [2]), ([1, 3], [1, 3]), ([], []), ([5], [5]), ([4, 6, 4], [4, 6]), ([7, 7, 0, 1, 2, 3, 4, 5, 6, 7], [7])])
def spec_RangeCmp.B16 : List Nat := [0, 1, 0, 4, 15, 0, 32, 127, 255]
theorem spec_RangeCmp.tab16 : rtab .any (opsOf Try.f10 16) = spec_RangeCmp.T16 := by kernel_rfl
theorem spec_RangeCmp.bits16 : waitsOk spec_RangeCmp.T16.2 spec_RangeCmp.B16 = true := by kernel_rfl
def spec_RangeCmp.T18 : Bool × List (List Nat × List Nat) := (true, [([], []), ([0], [0]), ([], []), ([], []), ([1, 2, 3, 1], [1, 2, 3]), ([4], [4]), ([5], [5]), ([5], [5]), ([6, 4, 0, 1, 2, 3, 4, 5, 6], [6]), ([7, 8, 0, 1, 2, 3, 4, 5, 6, 7, 8], [7])])
def spec_RangeCmp.B18 : List Nat := [0, 1, 0, 0, 15, 31, 63, 63, 127, 511]
theorem spec_RangeCmp.tab18 : rtab .any (opsOf Try.f10 18) = spec_RangeCmp.T18 := by kernel_rfl
theorem spec_RangeCmp.bits18 : waitsOk spec_RangeCmp.T18.2 spec_RangeCmp.B18 = true := by kernel_rfl
def spec_RangeCmp.T19 : Bool × List (List Nat × List Nat) := (true, [([], []), ([], []), ([0, 1], [0, 1]), ([2, 1], [2]), ([3], [3]), ([3, 3], [3]), ([4, 5, 3], [3, 4, 5]), ([3, 6], [3, 6])])
def spec_RangeCmp.B19 : List Nat := [0, 0, 3, 7, 15, 15, 63, 127]
theorem spec_RangeCmp.tab19 : rtab .any (opsOf Try.f10 19) = spec_RangeCmp.T19 := by kernel_rfl
theorem spec_RangeCmp.bits19 : waitsOk spec_RangeCmp.T19.2 spec_RangeCmp.B19 = true := by kernel_rfl
set_option maxHeartbeats 8000000 in
set_option maxRecDepth 100000 in
theorem spec_RangeCmp.calls (k : Nat) : ∀ (a0 : Int) (a1_0 : Int) (a1_1 : Int) (a2_0 : Int) (a2_1 : Int) (r1 : Int) (r2 : Int) (r3 : Int) (r4 : Int) (w : World) (h : spec_RangeCmp.f k a0 a1_0 a1_1 a2_0 a2_1 = some (r1, r2, r3, r4)),
  Calls Try.prog 10 #[.int .i64 a0, .agg #[.int .i64 a1_0, .int .i64 a1_1], .agg #[.int .i64 a2_0, .int .i64 a2_1]] w fun e w' => e = .returned (.tuple #[.agg #[.int .i64 r1, .int .i64 r2], .agg #[.int .i64 r3, .int .i64 r4]]) ∧ Below w.heap.size w w' := by
 induction k using Nat.strongRecOn with
 | _ k ih =>
 intro a0 a1_0 a1_1 a2_0 a2_1 r1 r2 r3 r4 w h
 cases k with
 | zero => exact absurd h (by simp [spec_RangeCmp.f])
 | succ k =>
 simp only [spec_RangeCmp.f] at h
 have hu33 := Try.underlying33
 have HB := am (Below.refl w.heap.size w)
 have H : ((spec_l8None.f).bind fun u1 => ((spec_l8None.f).bind fun u2 => ((spec_RangeOk.f a1_0 a1_1).bind fun t1 => (if t1 = true then ((spec_RangeOk.f a2_0 a2_1).bind fun t2 => (if t2 = true then ((spec_l8None.f).bind fun u3 => (if (a1_0 == u3.1 && (a1_1 == u3.2)) = true then (spec_RangeCmp.j0 k a0 true a1_0 a1_1 a2_0 a2_1 u1.1 u1.2 u2.1 u2.2) else ((spec_l8None.f).bind fun u4 => (spec_RangeCmp.j0 k a0 (a2_0 == u4.1 && (a2_1 == u4.2)) a1_0 a1_1 a2_0 a2_1 u1.1 u1.2 u2.1 u2.2)))) else (spec_RangeCmp.j0 k a0 true a1_0 a1_1 a2_0 a2_1 u1.1 u1.2 u2.1 u2.2))) else (spec_RangeCmp.j0 k a0 true a1_0 a1_1 a2_0 a2_1 u1.1 u1.2 u2.1 u2.2))))) = some (r1, r2, r3, r4) := h
 clear h
 obtain ⟨⟨t3, t4⟩, A1, H⟩ := bd H
 try dsimp only at H
 obtain ⟨⟨t5, t6⟩, A2, H⟩ := bd H
 try dsimp only at H
 have C1 := am H
 clear H
 go_enter Try.func10, Try.ntmps10
 go_upto_region 3 with (first | ((with_reducible refine gate_dst (N := 4) rfl ?_); refine bxn 4 #[.int .i64 a1_0, .int .i64 a1_1] 33 HB fun g1 w2 K1 G1 hg hb => ?_; replace HB := am (below_step (YA HB) hb); clear hb hg) | ((with_reducible refine gate_dst (N := 5) rfl ?_); refine bxn 5 #[.int .i64 a2_0, .int .i64 a2_1] 33 HB fun g2 w3 K2 G2 hg hb => ?_; obtain ⟨N1,N2⟩ := ne_ hg K1; obtain ⟨K1, HB⟩ := bk1 K1 HB hb; clear hb hg) | ((with_reducible refine gate_dst (N := 6) rfl ?_); refine bxn 6 #[.int .i64 0, .int .i64 0] 33 HB fun g3 w4 K3 G3 hg hb => ?_; obtain ⟨N3,N4⟩ := ne_ hg K1; obtain ⟨N5,N6⟩ := ne_ hg K2; obtain ⟨K1, K2, HB⟩ := bk2 K1 K2 HB hb; clear hb hg) | ((with_reducible refine gate_dst (N := 7) rfl ?_); refine bxn 7 #[.int .i64 0, .int .i64 0] 33 HB fun g4 w5 K4 G4 hg hb => ?_; obtain ⟨N7,N8⟩ := ne_ hg K1; obtain ⟨N9,N10⟩ := ne_ hg K2; obtain ⟨N11,N12⟩ := ne_ hg K3; obtain ⟨K1, K2, K3, HB⟩ := bk3 K1 K2 K3 HB hb; clear hb hg) | ((with_reducible refine gate_callee (f := 25) rfl ?_); refine gL 10 Try.func25 (spec_l8None.calls _ _ _ A1.out) fun w6 hb => ?_; obtain ⟨K1, K2, K3, K4, HB⟩ := bk4 K1 K2 K3 K4 HB hb; (try clear hb)) | ((with_reducible refine gate_dst (N := 8) rfl ?_); refine bxn 8 #[.int .i64 0, .int .i64 0] 33 HB fun g5 w7 K5 G5 hg hb => ?_; obtain ⟨N13,N14⟩ := ne_ hg K1; obtain ⟨N15,N16⟩ := ne_ hg K2; obtain ⟨N17,N18⟩ := ne_ hg K3; obtain ⟨N19,N20⟩ := ne_ hg K4; obtain ⟨K1, K2, K3, K4, HB⟩ := bk4 K1 K2 K3 K4 HB hb; clear hb hg; have z_ := ns4 N14 N16 N18 N20; have z_ := cB2 K5) | ((with_reducible refine gate_callee (f := 25) rfl ?_); refine gL 11 Try.func25 (spec_l8None.calls _ _ _ A2.out) fun w8 hb => ?_; replace K1 := am (blk_below (g := g1) (o := b2 a1_0 a1_1 33) (by refine fa N13 ?_; refine fa N13 ?_; exact Z K1) hb); replace K2 := am (blk_below (g := g2) (o := b2 a2_0 a2_1 33) (by refine fa N15 ?_; refine fa N15 ?_; exact Z K2) hb); replace K3 := am (blk_below (g := g3) (o := b2 0 0 33) (by refine fa N17 ?_; refine fa N17 ?_; exact Z K3) hb); replace K4 := am (blk_below (g := g4) (o := b2 0 0 33) (by refine fa N19 ?_; refine fa N19 ?_; exact Z K4) hb); replace K5 := am (blk_below (g := g5) (o := b2 t3 t4 33) (by refine pf ?_; refine blk_put (cs := #[.int .i64 t3, .int .i64 0]) ?_ 1 _ rfl; refine pf ?_; refine blk_put (cs := #[.int .i64 0, .int .i64 0]) ?_ 0 _ rfl; exact Z K5) hb); replace HB := am (below_step (YA HB) hb); (try clear hb)) | ((with_reducible refine gate_dst (N := 9) rfl ?_); refine bxn 9 #[.int .i64 0, .int .i64 0] 33 HB fun g6 w9 K6 G6 hg hb => ?_; obtain ⟨N21,N22⟩ := ne_ hg K1; obtain ⟨N23,N24⟩ := ne_ hg K2; obtain ⟨N25,N26⟩ := ne_ hg K3; obtain ⟨N27,N28⟩ := ne_ hg K4; obtain ⟨N29,N30⟩ := ne_ hg K5; obtain ⟨K1, K2, K3, K4, K5, HB⟩ := bk5 K1 K2 K3 K4 K5 HB hb; clear hb hg; have z_ := ns5 N22 N24 N26 N28 N30; have z_ := cB2 K6))
 (try simp only [Act.put, List.setIfInBounds_toArray, List.set_cons_zero, List.set_cons_succ])
 go_cut [29] (fun v1 wc => ∃ (kq : Nat) (x1 : Bool), v1 = .bool x1 ∧ Aside0 (spec_RangeCmp.j0 kq a0 x1 a1_0 a1_1 a2_0 a2_1 t3 t4 t5 t6 = some (r1, r2, r3, r4)) ∧ Aside0 (kq ≤ k) ∧ Bx2 wc g1 a1_0 a1_1 33 ∧ Bx2 wc g2 a2_0 a2_1 33 ∧ Bx2 wc g3 0 0 33 ∧ Bx2 wc g4 0 0 33 ∧ Bx2 wc g5 t3 t4 33 ∧ Bx2 wc g6 t5 t6 33 ∧ Aside0 (Below w.heap.size w wc))
 case first =>
  have H := C1.out
  clear C1
  obtain ⟨t1, A3, H⟩ := bd H
  try dsimp only at H
  by_cases c1 : t1 = true
  rotate_left
  ·replace c1 := Bool.eq_false_iff.mpr c1
   subst c1
   rw [if_neg ff] at H
   have H' := am H
   clear H
   try go_wp2
   have n0_ : Aside0 (((w9.setCell ⟨g6, 0, none⟩ (.int .i64 t5)).setCell ⟨g6, 1, none⟩ (.int .i64 t6)).heap[g1]? = some (.cells #[.int .i64 a1_0, .int .i64 a1_1] 33 (0, 0))) := ⟨by refine fa N21 ?_; refine fa N21 ?_; exact Z K1⟩
   have n1_ : Aside0 (((w9.setCell ⟨g6, 0, none⟩ (.int .i64 t5)).setCell ⟨g6, 1, none⟩ (.int .i64 t6)).heap[g2]? = some (.cells #[.int .i64 a2_0, .int .i64 a2_1] 33 (0, 0))) := ⟨by refine fa N23 ?_; refine fa N23 ?_; exact Z K2⟩
   have n2_ : Aside0 (((w9.setCell ⟨g6, 0, none⟩ (.int .i64 t5)).setCell ⟨g6, 1, none⟩ (.int .i64 t6)).heap[g3]? = some (.cells #[.int .i64 0, .int .i64 0] 33 (0, 0))) := ⟨by refine fa N25 ?_; refine fa N25 ?_; exact Z K3⟩
   have n3_ : Aside0 (((w9.setCell ⟨g6, 0, none⟩ (.int .i64 t5)).setCell ⟨g6, 1, none⟩ (.int .i64 t6)).heap[g4]? = some (.cells #[.int .i64 0, .int .i64 0] 33 (0, 0))) := ⟨by refine fa N27 ?_; refine fa N27 ?_; exact Z K4⟩
   have n4_ : Aside0 (((w9.setCell ⟨g6, 0, none⟩ (.int .i64 t5)).setCell ⟨g6, 1, none⟩ (.int .i64 t6)).heap[g5]? = some (.cells #[.int .i64 t3, .int .i64 t4] 33 (0, 0))) := ⟨by refine fa N29 ?_; refine fa N29 ?_; exact Z K5⟩
   have n5_ : Aside0 (((w9.setCell ⟨g6, 0, none⟩ (.int .i64 t5)).setCell ⟨g6, 1, none⟩ (.int .i64 t6)).heap[g6]? = some (.cells #[.int .i64 t5, .int .i64 t6] 33 (0, 0))) := ⟨by refine pf ?_; refine blk_put (cs := #[.int .i64 t5, .int .i64 0]) ?_ 1 _ rfl; refine pf ?_; refine blk_put (cs := #[.int .i64 0, .int .i64 0]) ?_ 0 _ rfl; exact Z K6⟩
   have n6_ : Aside0 (Below w.heap.size w ((w9.setCell ⟨g6, 0, none⟩ (.int .i64 t5)).setCell ⟨g6, 1, none⟩ (.int .i64 t6))) := ⟨YA HB⟩
   (try clear K1)
   (try clear K2)
   (try clear K3)
   (try clear K4)
   (try clear K5)
   (try clear K6)
   (try clear HB)
   generalize ((w9.setCell ⟨g6, 0, none⟩ (.int .i64 t5)).setCell ⟨g6, 1, none⟩ (.int .i64 t6)) = w10 at n0_ n1_ n2_ n3_ n4_ n5_ n6_ ⊢
   have K1 := n0_
   have K2 := n1_
   have K3 := n2_
   have K4 := n3_
   have K5 := n4_
   have K6 := n5_
   have HB := n6_
   clear n0_ n1_ n2_ n3_ n4_ n5_ n6_
   obtain ⟨K1, K2, K3, K4, K5, K6, HB⟩ := dk6 K1 K2 K3 K4 K5 K6 HB
   refine start_ (n := 18) (S := fun w' => w'.cell? ⟨g1, 0, none⟩ = some (.int .i64 a1_0) ∧ w'.cell? ⟨g1, 1, none⟩ = some (.int .i64 a1_1)) (ds := []) (lb 18 0) (by kernel_rfl) rfl rfl ⟨bc K1 0, bc K1 1⟩ (fun hHeld => ?_); refine with_tabW spec_RangeCmp.tab3 spec_RangeCmp.bits3 (fun HT_ HW_ => ?_)
   generalize w10.drew = w11 at K1 K2 K3 K4 K5 K6 HB hHeld ⊢
   refine tk 0 12 1 hHeld ?_
   refine cl6 1 13 3 Try.func23 (spec_RangeOk.calls _ _ _ _ A3.out) K1 K2 K3 K4 K5 K6 HB fun w12 K1 K2 K3 K4 K5 K6 HB hHeld => ?_
   refine pk 2 14 7 ?_
   refine pk 3 15 15 ?_
   refine uk 4 16 31 ?_
   refine uk 5 17 63 ?_
   refine uk 6 18 127 ?_
   refine pk 7 19 255 ?_
   refine pk 8 20 511 ?_
   refine uk 9 21 1023 ?_
   refine uk 10 22 2047 ?_
   refine uk 11 23 4095 ?_
   refine pk 12 24 8191 ?_
   refine pk 13 25 16383 ?_
   refine uk 14 26 32767 ?_
   refine uk 15 27 65535 ?_
   refine uk 16 28 131071 ?_
   refine pk 17 29 262143 ?_
   refine done_ (done_of HT_.out (by kernel_rfl)) ?_
   try go_wp2
   go_meet
   case rel => exact ⟨_, (true), ey, H', le0, ⟨Z K1⟩, ⟨Z K2⟩, ⟨Z K3⟩, ⟨Z K4⟩, ⟨Z K5⟩, ⟨Z K6⟩, ⟨YA HB⟩⟩
  subst c1
  rw [if_pos rfl] at H
  obtain ⟨t2, A4, H⟩ := bd H
  try dsimp only at H
  by_cases c2 : t2 = true
  rotate_left
  ·replace c2 := Bool.eq_false_iff.mpr c2
   subst c2
   rw [if_neg ff] at H
   have H' := am H
   clear H
   try go_wp2
   have n0_ : Aside0 (((w9.setCell ⟨g6, 0, none⟩ (.int .i64 t5)).setCell ⟨g6, 1, none⟩ (.int .i64 t6)).heap[g1]? = some (.cells #[.int .i64 a1_0, .int .i64 a1_1] 33 (0, 0))) := ⟨by refine fa N21 ?_; refine fa N21 ?_; exact Z K1⟩
   have n1_ : Aside0 (((w9.setCell ⟨g6, 0, none⟩ (.int .i64 t5)).setCell ⟨g6, 1, none⟩ (.int .i64 t6)).heap[g2]? = some (.cells #[.int .i64 a2_0, .int .i64 a2_1] 33 (0, 0))) := ⟨by refine fa N23 ?_; refine fa N23 ?_; exact Z K2⟩
   have n2_ : Aside0 (((w9.setCell ⟨g6, 0, none⟩ (.int .i64 t5)).setCell ⟨g6, 1, none⟩ (.int .i64 t6)).heap[g3]? = some (.cells #[.int .i64 0, .int .i64 0] 33 (0, 0))) := ⟨by refine fa N25 ?_; refine fa N25 ?_; exact Z K3⟩
   have n3_ : Aside0 (((w9.setCell ⟨g6, 0, none⟩ (.int .i64 t5)).setCell ⟨g6, 1, none⟩ (.int .i64 t6)).heap[g4]? = some (.cells #[.int .i64 0, .int .i64 0] 33 (0, 0))) := ⟨by refine fa N27 ?_; refine fa N27 ?_; exact Z K4⟩
   have n4_ : Aside0 (((w9.setCell ⟨g6, 0, none⟩ (.int .i64 t5)).setCell ⟨g6, 1, none⟩ (.int .i64 t6)).heap[g5]? = some (.cells #[.int .i64 t3, .int .i64 t4] 33 (0, 0))) := ⟨by refine fa N29 ?_; refine fa N29 ?_; exact Z K5⟩
   have n5_ : Aside0 (((w9.setCell ⟨g6, 0, none⟩ (.int .i64 t5)).setCell ⟨g6, 1, none⟩ (.int .i64 t6)).heap[g6]? = some (.cells #[.int .i64 t5, .int .i64 t6] 33 (0, 0))) := ⟨by refine pf ?_; refine blk_put (cs := #[.int .i64 t5, .int .i64 0]) ?_ 1 _ rfl; refine pf ?_; refine blk_put (cs := #[.int .i64 0, .int .i64 0]) ?_ 0 _ rfl; exact Z K6⟩
   have n6_ : Aside0 (Below w.heap.size w ((w9.setCell ⟨g6, 0, none⟩ (.int .i64 t5)).setCell ⟨g6, 1, none⟩ (.int .i64 t6))) := ⟨YA HB⟩
   (try clear K1)
   (try clear K2)
   (try clear K3)
   (try clear K4)
   (try clear K5)
   (try clear K6)
   (try clear HB)
   generalize ((w9.setCell ⟨g6, 0, none⟩ (.int .i64 t5)).setCell ⟨g6, 1, none⟩ (.int .i64 t6)) = w10 at n0_ n1_ n2_ n3_ n4_ n5_ n6_ ⊢
   have K1 := n0_
   have K2 := n1_
   have K3 := n2_
   have K4 := n3_
   have K5 := n4_
   have K6 := n5_
   have HB := n6_
   clear n0_ n1_ n2_ n3_ n4_ n5_ n6_
   obtain ⟨K1, K2, K3, K4, K5, K6, HB⟩ := dk6 K1 K2 K3 K4 K5 K6 HB
   refine start_ (n := 18) (S := fun w' => w'.cell? ⟨g1, 0, none⟩ = some (.int .i64 a1_0) ∧ w'.cell? ⟨g1, 1, none⟩ = some (.int .i64 a1_1) ∧ w'.cell? ⟨g2, 0, none⟩ = some (.int .i64 a2_0) ∧ w'.cell? ⟨g2, 1, none⟩ = some (.int .i64 a2_1)) (ds := []) (lb 18 0) (by kernel_rfl) rfl rfl ⟨bc K1 0, bc K1 1, bc K2 0, bc K2 1⟩ (fun hHeld => ?_); refine with_tabW spec_RangeCmp.tab3 spec_RangeCmp.bits3 (fun HT_ HW_ => ?_)
   generalize w10.drew = w11 at K1 K2 K3 K4 K5 K6 HB hHeld ⊢
   refine tk 0 12 1 hHeld ?_
   refine cl6 1 13 3 Try.func23 (spec_RangeOk.calls _ _ _ _ A3.out) K1 K2 K3 K4 K5 K6 HB fun w12 K1 K2 K3 K4 K5 K6 HB hHeld => ?_
   refine pk 2 14 7 ?_
   refine pk 3 15 15 ?_
   refine tk 4 16 31 hHeld ?_
   refine cl6 5 17 63 Try.func23 (spec_RangeOk.calls _ _ _ _ A4.out) K1 K2 K3 K4 K5 K6 HB fun w13 K1 K2 K3 K4 K5 K6 HB hHeld => ?_
   refine pk 6 18 127 ?_
   refine pk 7 19 255 ?_
   refine pk 8 20 511 ?_
   refine uk 9 21 1023 ?_
   refine uk 10 22 2047 ?_
   refine uk 11 23 4095 ?_
   refine pk 12 24 8191 ?_
   refine pk 13 25 16383 ?_
   refine uk 14 26 32767 ?_
   refine uk 15 27 65535 ?_
   refine uk 16 28 131071 ?_
   refine pk 17 29 262143 ?_
   refine done_ (done_of HT_.out (by kernel_rfl)) ?_
   try go_wp2
   go_meet
   case rel => exact ⟨_, (true), ey, H', le0, ⟨Z K1⟩, ⟨Z K2⟩, ⟨Z K3⟩, ⟨Z K4⟩, ⟨Z K5⟩, ⟨Z K6⟩, ⟨YA HB⟩⟩
  subst c2
  rw [if_pos rfl] at H
  obtain ⟨⟨t7, t8⟩, A5, H⟩ := bd H
  try dsimp only at H
  by_cases c3 : (a1_0 == t7 && (a1_1 == t8)) = true
  ·rw [if_pos c3] at H
   have d1 : (a1_0 == t7 && (a1_1 == t8)) = true := c3
   (try (have d2 : decide (a1_0 = t7 && (a1_1 == t8)) = true := by simpa using c3))
   (try (have d3 : (a1_0 == t7 && (a1_1 == t8)) = true := by simpa using c3))
   clear c3
   (first | rw [d1] | (simp only [i64_w, i32_w]; rw [d1]) | skip)
   have H' := am H
   clear H
   try go_wp2
   have n0_ : Aside0 (((w9.setCell ⟨g6, 0, none⟩ (.int .i64 t5)).setCell ⟨g6, 1, none⟩ (.int .i64 t6)).heap[g1]? = some (.cells #[.int .i64 a1_0, .int .i64 a1_1] 33 (0, 0))) := ⟨by refine fa N21 ?_; refine fa N21 ?_; exact Z K1⟩
   have n1_ : Aside0 (((w9.setCell ⟨g6, 0, none⟩ (.int .i64 t5)).setCell ⟨g6, 1, none⟩ (.int .i64 t6)).heap[g2]? = some (.cells #[.int .i64 a2_0, .int .i64 a2_1] 33 (0, 0))) := ⟨by refine fa N23 ?_; refine fa N23 ?_; exact Z K2⟩
   have n2_ : Aside0 (((w9.setCell ⟨g6, 0, none⟩ (.int .i64 t5)).setCell ⟨g6, 1, none⟩ (.int .i64 t6)).heap[g3]? = some (.cells #[.int .i64 0, .int .i64 0] 33 (0, 0))) := ⟨by refine fa N25 ?_; refine fa N25 ?_; exact Z K3⟩
   have n3_ : Aside0 (((w9.setCell ⟨g6, 0, none⟩ (.int .i64 t5)).setCell ⟨g6, 1, none⟩ (.int .i64 t6)).heap[g4]? = some (.cells #[.int .i64 0, .int .i64 0] 33 (0, 0))) := ⟨by refine fa N27 ?_; refine fa N27 ?_; exact Z K4⟩
   have n4_ : Aside0 (((w9.setCell ⟨g6, 0, none⟩ (.int .i64 t5)).setCell ⟨g6, 1, none⟩ (.int .i64 t6)).heap[g5]? = some (.cells #[.int .i64 t3, .int .i64 t4] 33 (0, 0))) := ⟨by refine fa N29 ?_; refine fa N29 ?_; exact Z K5⟩
   have n5_ : Aside0 (((w9.setCell ⟨g6, 0, none⟩ (.int .i64 t5)).setCell ⟨g6, 1, none⟩ (.int .i64 t6)).heap[g6]? = some (.cells #[.int .i64 t5, .int .i64 t6] 33 (0, 0))) := ⟨by refine pf ?_; refine blk_put (cs := #[.int .i64 t5, .int .i64 0]) ?_ 1 _ rfl; refine pf ?_; refine blk_put (cs := #[.int .i64 0, .int .i64 0]) ?_ 0 _ rfl; exact Z K6⟩
   have n6_ : Aside0 (Below w.heap.size w ((w9.setCell ⟨g6, 0, none⟩ (.int .i64 t5)).setCell ⟨g6, 1, none⟩ (.int .i64 t6))) := ⟨YA HB⟩
   (try clear K1)
   (try clear K2)
   (try clear K3)
   (try clear K4)
   (try clear K5)
   (try clear K6)
   (try clear HB)
   generalize ((w9.setCell ⟨g6, 0, none⟩ (.int .i64 t5)).setCell ⟨g6, 1, none⟩ (.int .i64 t6)) = w10 at n0_ n1_ n2_ n3_ n4_ n5_ n6_ ⊢
   have K1 := n0_
   have K2 := n1_
   have K3 := n2_
   have K4 := n3_
   have K5 := n4_
   have K6 := n5_
   have HB := n6_
   clear n0_ n1_ n2_ n3_ n4_ n5_ n6_
   obtain ⟨K1, K2, K3, K4, K5, K6, HB⟩ := dk6 K1 K2 K3 K4 K5 K6 HB
   refine start_ (n := 18) (S := fun w' => w'.cell? ⟨g1, 0, none⟩ = some (.int .i64 a1_0) ∧ w'.cell? ⟨g1, 1, none⟩ = some (.int .i64 a1_1) ∧ w'.cell? ⟨g2, 0, none⟩ = some (.int .i64 a2_0) ∧ w'.cell? ⟨g2, 1, none⟩ = some (.int .i64 a2_1)) (ds := []) (lb 18 0) (by kernel_rfl) rfl rfl ⟨bc K1 0, bc K1 1, bc K2 0, bc K2 1⟩ (fun hHeld => ?_); refine with_tabW spec_RangeCmp.tab3 spec_RangeCmp.bits3 (fun HT_ HW_ => ?_)
   generalize w10.drew = w11 at K1 K2 K3 K4 K5 K6 HB hHeld ⊢
   refine tk 0 12 1 hHeld ?_
   refine cl6 1 13 3 Try.func23 (spec_RangeOk.calls _ _ _ _ A3.out) K1 K2 K3 K4 K5 K6 HB fun w12 K1 K2 K3 K4 K5 K6 HB hHeld => ?_
   refine pk 2 14 7 ?_
   refine pk 3 15 15 ?_
   refine tk 4 16 31 hHeld ?_
   refine cl6 5 17 63 Try.func23 (spec_RangeOk.calls _ _ _ _ A4.out) K1 K2 K3 K4 K5 K6 HB fun w13 K1 K2 K3 K4 K5 K6 HB hHeld => ?_
   refine pk 6 18 127 ?_
   refine pk 7 19 255 ?_
   refine pk 8 20 511 ?_
   refine tk 9 21 1023 hHeld ?_
   refine cl6 10 22 2047 Try.func25 (spec_l8None.calls _ _ _ A5.out) K1 K2 K3 K4 K5 K6 HB fun w14 K1 K2 K3 K4 K5 K6 HB hHeld => ?_
   refine pk 11 23 4095 ?_
   refine pk 12 24 8191 ?_
   refine pk 13 25 16383 ?_
   refine uk 14 26 32767 ?_
   refine uk 15 27 65535 ?_
   refine uk 16 28 131071 ?_
   refine pk 17 29 262143 ?_
   refine done_ (done_of HT_.out (by kernel_rfl)) ?_
   try go_wp2
   go_meet
   case rel => exact ⟨_, (true), ey, H', le0, ⟨Z K1⟩, ⟨Z K2⟩, ⟨Z K3⟩, ⟨Z K4⟩, ⟨Z K5⟩, ⟨Z K6⟩, ⟨YA HB⟩⟩
  rw [if_neg c3] at H
  have d1 : (a1_0 == t7 && (a1_1 == t8)) = false := by simpa using c3
  (try (have d2 : decide (a1_0 = t7 && (a1_1 == t8)) = false := by simpa using c3))
  (try (have d3 : (a1_0 == t7 && (a1_1 == t8)) = false := by simpa using c3))
  (try (have d4 : ¬ (a1_0 = t7 && (a1_1 == t8)) := by simpa using c3))
  clear c3
  (first | rw [d1] | (simp only [i64_w, i32_w]; rw [d1]) | skip)
  obtain ⟨⟨t9, t10⟩, A6, H⟩ := bd H
  try dsimp only at H
  have H' := am H
  clear H
  try go_wp2
  have n0_ : Aside0 (((w9.setCell ⟨g6, 0, none⟩ (.int .i64 t5)).setCell ⟨g6, 1, none⟩ (.int .i64 t6)).heap[g1]? = some (.cells #[.int .i64 a1_0, .int .i64 a1_1] 33 (0, 0))) := ⟨by refine fa N21 ?_; refine fa N21 ?_; exact Z K1⟩
  have n1_ : Aside0 (((w9.setCell ⟨g6, 0, none⟩ (.int .i64 t5)).setCell ⟨g6, 1, none⟩ (.int .i64 t6)).heap[g2]? = some (.cells #[.int .i64 a2_0, .int .i64 a2_1] 33 (0, 0))) := ⟨by refine fa N23 ?_; refine fa N23 ?_; exact Z K2⟩
  have n2_ : Aside0 (((w9.setCell ⟨g6, 0, none⟩ (.int .i64 t5)).setCell ⟨g6, 1, none⟩ (.int .i64 t6)).heap[g3]? = some (.cells #[.int .i64 0, .int .i64 0] 33 (0, 0))) := ⟨by refine fa N25 ?_; refine fa N25 ?_; exact Z K3⟩
  have n3_ : Aside0 (((w9.setCell ⟨g6, 0, none⟩ (.int .i64 t5)).setCell ⟨g6, 1, none⟩ (.int .i64 t6)).heap[g4]? = some (.cells #[.int .i64 0, .int .i64 0] 33 (0, 0))) := ⟨by refine fa N27 ?_; refine fa N27 ?_; exact Z K4⟩
  have n4_ : Aside0 (((w9.setCell ⟨g6, 0, none⟩ (.int .i64 t5)).setCell ⟨g6, 1, none⟩ (.int .i64 t6)).heap[g5]? = some (.cells #[.int .i64 t3, .int .i64 t4] 33 (0, 0))) := ⟨by refine fa N29 ?_; refine fa N29 ?_; exact Z K5⟩
  have n5_ : Aside0 (((w9.setCell ⟨g6, 0, none⟩ (.int .i64 t5)).setCell ⟨g6, 1, none⟩ (.int .i64 t6)).heap[g6]? = some (.cells #[.int .i64 t5, .int .i64 t6] 33 (0, 0))) := ⟨by refine pf ?_; refine blk_put (cs := #[.int .i64 t5, .int .i64 0]) ?_ 1 _ rfl; refine pf ?_; refine blk_put (cs := #[.int .i64 0, .int .i64 0]) ?_ 0 _ rfl; exact Z K6⟩
  have n6_ : Aside0 (Below w.heap.size w ((w9.setCell ⟨g6, 0, none⟩ (.int .i64 t5)).setCell ⟨g6, 1, none⟩ (.int .i64 t6))) := ⟨YA HB⟩
  (try clear K1)
  (try clear K2)
  (try clear K3)
  (try clear K4)
  (try clear K5)
  (try clear K6)
  (try clear HB)
  generalize ((w9.setCell ⟨g6, 0, none⟩ (.int .i64 t5)).setCell ⟨g6, 1, none⟩ (.int .i64 t6)) = w10 at n0_ n1_ n2_ n3_ n4_ n5_ n6_ ⊢
  have K1 := n0_
  have K2 := n1_
  have K3 := n2_
  have K4 := n3_
  have K5 := n4_
  have K6 := n5_
  have HB := n6_
  clear n0_ n1_ n2_ n3_ n4_ n5_ n6_
  obtain ⟨K1, K2, K3, K4, K5, K6, HB⟩ := dk6 K1 K2 K3 K4 K5 K6 HB
  refine start_ (n := 18) (S := fun w' => w'.cell? ⟨g1, 0, none⟩ = some (.int .i64 a1_0) ∧ w'.cell? ⟨g1, 1, none⟩ = some (.int .i64 a1_1) ∧ w'.cell? ⟨g2, 0, none⟩ = some (.int .i64 a2_0) ∧ w'.cell? ⟨g2, 1, none⟩ = some (.int .i64 a2_1)) (ds := []) (lb 18 0) (by kernel_rfl) rfl rfl ⟨bc K1 0, bc K1 1, bc K2 0, bc K2 1⟩ (fun hHeld => ?_); refine with_tabW spec_RangeCmp.tab3 spec_RangeCmp.bits3 (fun HT_ HW_ => ?_)
  generalize w10.drew = w11 at K1 K2 K3 K4 K5 K6 HB hHeld ⊢
  refine tk 0 12 1 hHeld ?_
  refine cl6 1 13 3 Try.func23 (spec_RangeOk.calls _ _ _ _ A3.out) K1 K2 K3 K4 K5 K6 HB fun w12 K1 K2 K3 K4 K5 K6 HB hHeld => ?_
  refine pk 2 14 7 ?_
  refine pk 3 15 15 ?_
  refine tk 4 16 31 hHeld ?_
  refine cl6 5 17 63 Try.func23 (spec_RangeOk.calls _ _ _ _ A4.out) K1 K2 K3 K4 K5 K6 HB fun w13 K1 K2 K3 K4 K5 K6 HB hHeld => ?_
  refine pk 6 18 127 ?_
  refine pk 7 19 255 ?_
  refine pk 8 20 511 ?_
  refine tk 9 21 1023 hHeld ?_
  refine cl6 10 22 2047 Try.func25 (spec_l8None.calls _ _ _ A5.out) K1 K2 K3 K4 K5 K6 HB fun w14 K1 K2 K3 K4 K5 K6 HB hHeld => ?_
  refine pk 11 23 4095 ?_
  refine pk 12 24 8191 ?_
  refine pk 13 25 16383 ?_
  refine tk 14 26 32767 hHeld ?_
  refine cl6 15 27 65535 Try.func25 (spec_l8None.calls _ _ _ A6.out) K1 K2 K3 K4 K5 K6 HB fun w15 K1 K2 K3 K4 K5 K6 HB hHeld => ?_
  refine pk 16 28 131071 ?_
  refine pk 17 29 262143 ?_
  refine done_ (done_of HT_.out (by kernel_rfl)) ?_
  try go_wp2
  go_meet
  case rel => exact ⟨_, ((a2_0 == t9 && (a2_1 == t10))), ey, H', le0, ⟨Z K1⟩, ⟨Z K2⟩, ⟨Z K3⟩, ⟨Z K4⟩, ⟨Z K5⟩, ⟨Z K6⟩, ⟨YA HB⟩⟩
 case rest =>
  clear C1
  obtain ⟨kq, x1, rfl, HA, J1, K1, K2, K3, K4, K5, K6, HB⟩ := hcut
  cases kq with
  | zero => exact absurd HA.out (by simp [spec_RangeCmp.j0])
  | succ k1 =>
   have H := HA.out
   clear HA
   simp only [spec_RangeCmp.j0] at H
   by_cases c1 : x1 = true
   ·subst c1
    rw [if_pos rfl] at H
    simp only [Option.some.injEq, Prod.mk.injEq] at H
    obtain ⟨rfl, rfl, rfl, rfl⟩ := H
    try go_wp2
    obtain ⟨K1, K2, K3, K4, K5, K6, HB⟩ := dk6 K1 K2 K3 K4 K5 K6 HB
    refine start_ (n := 4) (S := fun w' => w'.cell? ⟨g5, 0, none⟩ = some (.int .i64 t3) ∧ w'.cell? ⟨g5, 1, none⟩ = some (.int .i64 t4) ∧ w'.cell? ⟨g6, 0, none⟩ = some (.int .i64 t5) ∧ w'.cell? ⟨g6, 1, none⟩ = some (.int .i64 t6)) (ds := []) (lb 4 0) (by kernel_rfl) rfl rfl ⟨bc K5 0, bc K5 1, bc K6 0, bc K6 1⟩ (fun hHeld => ?_)
    generalize wc.drew = w10 at K1 K2 K3 K4 K5 K6 HB hHeld ⊢
    refine take_ (i := 0) (N := some 30) (v := ?_) (a' := ?_) (lb 4 1) rfl rfl (by kernel_rfl) (fun _ _ _ h => h) (Or.inl ⟨by rfl, ?_⟩) hHeld ?_ ?_
    rotate_left
    ·rintro w' ⟨s0, s1, s2, s3⟩
     go_simp
     with_reducible rfl
    rotate_left
    ·exact pz
    refine take_ (i := 1) (N := some 31) (v := ?_) (a' := ?_) (lb 4 3) rfl rfl (by kernel_rfl) (fun _ _ _ h => h) (Or.inl ⟨by rfl, ?_⟩) hHeld ?_ ?_
    rotate_left
    ·rintro w' ⟨s0, s1, s2, s3⟩
     go_simp
     with_reducible rfl
    rotate_left
    ·exact pz
    refine one_ (i := 2) (N := none) (lb 4 7) rfl rfl (by kernel_rfl) (by decide) (fun K hK => ?_)
    have s4 : w10.cell? ⟨g3, 0, none⟩ = some (.int .i64 0) := bc K3 0
    have hfs53 := blk_frozen K3.out 0
    have z_ := ns10 N3 N5 N12 N18 N26 N4 N6 N11 N17 N25
    have s5 : w10.cell? ⟨g3, 1, none⟩ = some (.int .i64 0) := bc K3 1
    have hfs54 := blk_frozen K3.out 1
    have z_ := ns10 N3 N5 N12 N18 N26 N4 N6 N11 N17 N25
    refine skip_ (w1 := ?_) (by rfl) rfl ?_ ?_
    rotate_left
    ·go_simp
     rfl
    refine hK.out _ _ ⟨(cf N18 ((cf N18 (hHeld.1)))), (cf N18 ((cf N18 (hHeld.2.1)))), (cf N26 ((cf N26 (hHeld.2.2.1)))), (cf N26 ((cf N26 (hHeld.2.2.2))))⟩ (fun hHeld => ?_)
    clear hK K
    refine one_ (i := 3) (N := none) (lb 4 15) rfl rfl (by kernel_rfl) (by decide) (fun K hK => ?_)
    have s6 : w10.cell? ⟨g4, 0, none⟩ = some (.int .i64 0) := bc K4 0
    have hfs55 := blk_frozen K4.out 0
    have z_ := ns10 N7 N9 N11 N20 N28 N8 N10 N12 N19 N27
    have s7 : w10.cell? ⟨g4, 1, none⟩ = some (.int .i64 0) := bc K4 1
    have hfs56 := blk_frozen K4.out 1
    have z_ := ns10 N7 N9 N11 N20 N28 N8 N10 N12 N19 N27
    refine skip_ (w1 := ?_) (by rfl) rfl ?_ ?_
    rotate_left
    ·go_simp
     rfl
    refine hK.out _ _ ⟨(cf N20 ((cf N20 (hHeld.1)))), (cf N20 ((cf N20 (hHeld.2.1)))), (cf N28 ((cf N28 (hHeld.2.2.1)))), (cf N28 ((cf N28 (hHeld.2.2.2))))⟩ (fun hHeld => ?_)
    clear hK K
    refine done_ (by kernel_rfl) ?_
    try go_wp2
    refine bodyPost_ret (results_cc rfl _ _ g3 g4 33 33 #[.int .i64 t3, .int .i64 t4] #[.int .i64 t5, .int .i64 t6] (0, 0) (0, 0) _ _ rfl (by refine fa N11 ?_; refine fa N11 ?_; refine pf ?_; refine blk_put (cs := #[.int .i64 t3, .int .i64 0]) ?_ 1 _ rfl; refine pf ?_; refine blk_put (cs := #[.int .i64 0, .int .i64 0]) ?_ 0 _ rfl; exact Z K3) Try.underlying33 rfl (by kernel_rfl) rfl (by refine pf ?_; refine blk_put (cs := #[.int .i64 t5, .int .i64 0]) ?_ 1 _ rfl; refine pf ?_; refine blk_put (cs := #[.int .i64 0, .int .i64 0]) ?_ 0 _ rfl; refine fa N12 ?_; refine fa N12 ?_; exact Z K4) Try.underlying33 rfl (by kernel_rfl)) rfl ?_
    exact ⟨ez, YA HB⟩
   replace c1 := Bool.eq_false_iff.mpr c1
   subst c1
   rw [if_neg ff] at H
   have C2 := am H
   clear H
   go_upto_if 33 with (fail)
   go_cut [] (fun wc => ∃ (kq : Nat) (x2 : Int) (x3 : Int) (x4 : Int) (x5 : Int), Aside0 (spec_RangeCmp.j1 kq a0 a1_0 a1_1 a2_0 a2_1 x2 x3 x4 x5 = some (r1, r2, r3, r4)) ∧ Aside0 (kq ≤ k1) ∧ Bx2 wc g1 a1_0 a1_1 33 ∧ Bx2 wc g2 a2_0 a2_1 33 ∧ Bx2 wc g3 0 0 33 ∧ Bx2 wc g4 0 0 33 ∧ Bx2 wc g5 x2 x3 33 ∧ Bx2 wc g6 x4 x5 33 ∧ Aside0 (Below w.heap.size w wc))
   case first =>
    have H := C2.out
    clear C2
    by_cases c2 : a0 = 1
    rotate_left
    ·rw [if_neg c2] at H
     have d1 := eF c2
     have d2 := nT c2
     (first | rw [d1] | (simp only [i64_w, i32_w]; rw [d1]) | skip)
     have H' := am H
     clear H
     go_wp2
     go_meet
     case rel => exact ⟨_, (t3), (t4), (t5), (t6), H', le1 J1, ⟨Z K1⟩, ⟨Z K2⟩, ⟨Z K3⟩, ⟨Z K4⟩, ⟨Z K5⟩, ⟨Z K6⟩, ⟨YA HB⟩⟩
    rw [if_pos c2] at H
    have d1 := eT c2
    have d2 := nF c2
    clear c2
    (first | rw [d1] | (simp only [i64_w, i32_w]; rw [d1]) | skip)
    obtain ⟨⟨t7, t8⟩, A3, H⟩ := bd H
    try dsimp only at H
    have H' := am H
    clear H
    have z_ := ns9 N1 N3 N7 N13 N21 N5 N9 N15 N23
    have z_ := cB2 K1
    have z_ := cB2 K2
    go_wp2_with (first | ((with_reducible refine gate_callee (f := 26) rfl ?_); refine gL 36 Try.func26 (spec_RangeMeet.calls _ _ _ _ _ _ _ _ A3.out) fun w10 hb => ?_; obtain ⟨K1, K2, K3, K4, K5, K6, HB⟩ := bk6 K1 K2 K3 K4 K5 K6 HB hb; (try clear hb); have z_ := ns5 N18 N20 N29 N26 N28; have z_ := cB2 K5; have z_ := cB2 K6))
    go_meet
    case rel => exact ⟨_, (t7), (t8), (t7), (t8), H', le1 J1, ⟨by refine fa N21 ?_; refine fa N21 ?_; refine fa N13 ?_; refine fa N13 ?_; exact Z K1⟩, ⟨by refine fa N23 ?_; refine fa N23 ?_; refine fa N15 ?_; refine fa N15 ?_; exact Z K2⟩, ⟨by refine fa N25 ?_; refine fa N25 ?_; refine fa N17 ?_; refine fa N17 ?_; exact Z K3⟩, ⟨by refine fa N27 ?_; refine fa N27 ?_; refine fa N19 ?_; refine fa N19 ?_; exact Z K4⟩, ⟨by refine fa N29 ?_; refine fa N29 ?_; refine pf ?_; refine blk_put (cs := #[.int .i64 t7, .int .i64 t4]) ?_ 1 _ rfl; refine pf ?_; refine blk_put (cs := #[.int .i64 t3, .int .i64 t4]) ?_ 0 _ rfl; exact Z K5⟩, ⟨by refine pf ?_; refine blk_put (cs := #[.int .i64 t7, .int .i64 t6]) ?_ 1 _ rfl; refine pf ?_; refine blk_put (cs := #[.int .i64 t5, .int .i64 t6]) ?_ 0 _ rfl; refine fa N30 ?_; refine fa N30 ?_; exact Z K6⟩, ⟨YA HB⟩⟩
   case rest =>
    clear C2
    try clear c1
    obtain ⟨kq, x2, x3, x4, x5, HA, J2, K1, K2, K3, K4, K5, K6, HB⟩ := hcut
    cases kq with
    | zero => exact absurd HA.out (by simp [spec_RangeCmp.j1])
    | succ k2 =>
     have H := HA.out
     clear HA
     simp only [spec_RangeCmp.j1] at H
     have C3 := am H
     clear H
     go_upto_if 39 with (fail)
     go_cut [] (fun wc => ∃ (kq : Nat) (x6 : Int) (x7 : Int) (x8 : Int) (x9 : Int), Aside0 (spec_RangeCmp.j2 kq a0 a1_0 a1_1 a2_0 a2_1 x6 x7 x8 x9 = some (r1, r2, r3, r4)) ∧ Aside0 (kq ≤ k2) ∧ Bx2 wc g1 a1_0 a1_1 33 ∧ Bx2 wc g2 a2_0 a2_1 33 ∧ Bx2 wc g3 0 0 33 ∧ Bx2 wc g4 0 0 33 ∧ Bx2 wc g5 x6 x7 33 ∧ Bx2 wc g6 x8 x9 33 ∧ Aside0 (Below w.heap.size w wc))
     case first =>
      have H := C3.out
      clear C3
      by_cases c2 : a0 = 2
      rotate_left
      ·rw [if_neg c2] at H
       have d1 := eF c2
       have d2 := nT c2
       (first | rw [d1] | (simp only [i64_w, i32_w]; rw [d1]) | skip)
       have H' := am H
       clear H
       go_wp2
       go_meet
       case rel => exact ⟨_, (x2), (x3), (x4), (x5), H', ⟨by have := J1.out; have := J2.out; first | omega | exact Nat.le_refl _⟩, ⟨Z K1⟩, ⟨Z K2⟩, ⟨Z K3⟩, ⟨Z K4⟩, ⟨Z K5⟩, ⟨Z K6⟩, ⟨YA HB⟩⟩
      rw [if_pos c2] at H
      have d1 := eT c2
      have d2 := nF c2
      clear c2
      (first | rw [d1] | (simp only [i64_w, i32_w]; rw [d1]) | skip)
      obtain ⟨⟨t7, t8⟩, A3, H⟩ := bd H
      try dsimp only at H
      obtain ⟨⟨t9, t10⟩, A4, H⟩ := bd H
      try dsimp only at H
      have H' := am H
      clear H
      have z_ := ns9 N1 N3 N7 N13 N21 N5 N9 N15 N23
      have z_ := cB2 K1
      have z_ := cB2 K2
      go_wp2_with (first | ((with_reducible refine gate_callee (f := 27) rfl ?_); refine gL 42 Try.func27 (spec_l8Ne.calls _ _ _ _ _ _ _ A3.out) fun w10 hb => ?_; obtain ⟨K1, K2, K3, K4, K5, K6, HB⟩ := bk6 K1 K2 K3 K4 K5 K6 HB hb; (try clear hb); have z_ := ns3 N18 N20 N29; have z_ := cB2 K5; have z_ := cB2 K2; have z_ := cB2 K1) | ((with_reducible refine gate_callee (f := 27) rfl ?_); refine gL 45 Try.func27 (spec_l8Ne.calls _ _ _ _ _ _ _ A4.out) fun w11 hb => ?_; replace K1 := am (blk_below (g := g1) (o := b2 a1_0 a1_1 33) (by refine fa N13 ?_; refine fa N13 ?_; exact Z K1) hb); replace K2 := am (blk_below (g := g2) (o := b2 a2_0 a2_1 33) (by refine fa N15 ?_; refine fa N15 ?_; exact Z K2) hb); replace K3 := am (blk_below (g := g3) (o := b2 0 0 33) (by refine fa N17 ?_; refine fa N17 ?_; exact Z K3) hb); replace K4 := am (blk_below (g := g4) (o := b2 0 0 33) (by refine fa N19 ?_; refine fa N19 ?_; exact Z K4) hb); replace K5 := am (blk_below (g := g5) (o := b2 t7 t8 33) (by refine pf ?_; refine blk_put (cs := #[.int .i64 t7, .int .i64 x3]) ?_ 1 _ rfl; refine pf ?_; refine blk_put (cs := #[.int .i64 x2, .int .i64 x3]) ?_ 0 _ rfl; exact Z K5) hb); replace K6 := am (blk_below (g := g6) (o := b2 x4 x5 33) (by refine fa N30 ?_; refine fa N30 ?_; exact Z K6) hb); replace HB := am (below_step (YA HB) hb); (try clear hb); have z_ := ns2 N26 N28; have z_ := cB2 K6))
      go_meet
      case rel => exact ⟨_, (t7), (t8), (t9), (t10), H', ⟨by have := J1.out; have := J2.out; first | omega | exact Nat.le_refl _⟩, ⟨by refine fa N21 ?_; refine fa N21 ?_; exact Z K1⟩, ⟨by refine fa N23 ?_; refine fa N23 ?_; exact Z K2⟩, ⟨by refine fa N25 ?_; refine fa N25 ?_; exact Z K3⟩, ⟨by refine fa N27 ?_; refine fa N27 ?_; exact Z K4⟩, ⟨by refine fa N29 ?_; refine fa N29 ?_; exact Z K5⟩, ⟨by refine pf ?_; refine blk_put (cs := #[.int .i64 t9, .int .i64 x5]) ?_ 1 _ rfl; refine pf ?_; refine blk_put (cs := #[.int .i64 x4, .int .i64 x5]) ?_ 0 _ rfl; exact Z K6⟩, ⟨YA HB⟩⟩
     case rest =>
      clear C3
      obtain ⟨kq, x6, x7, x8, x9, HA, J3, K1, K2, K3, K4, K5, K6, HB⟩ := hcut
      cases kq with
      | zero => exact absurd HA.out (by simp [spec_RangeCmp.j2])
      | succ k3 =>
       have H := HA.out
       clear HA
       simp only [spec_RangeCmp.j2] at H
       have C4 := am H
       clear H
       go_upto_if 47 with (fail)
       go_cut [] (fun wc => ∃ (kq : Nat) (x10 : Int) (x11 : Int) (x12 : Int) (x13 : Int), Aside0 (spec_RangeCmp.j3 kq a0 a1_0 a1_1 a2_0 a2_1 x10 x11 x12 x13 = some (r1, r2, r3, r4)) ∧ Aside0 (kq ≤ k3) ∧ Bx2 wc g1 a1_0 a1_1 33 ∧ Bx2 wc g2 a2_0 a2_1 33 ∧ Bx2 wc g3 0 0 33 ∧ Bx2 wc g4 0 0 33 ∧ Bx2 wc g5 x10 x11 33 ∧ Bx2 wc g6 x12 x13 33 ∧ Aside0 (Below w.heap.size w wc))
       case first =>
        have H := C4.out
        clear C4
        by_cases c2 : a0 = 3
        rotate_left
        ·rw [if_neg c2] at H
         have d1 := eF c2
         have d2 := nT c2
         (first | rw [d1] | (simp only [i64_w, i32_w]; rw [d1]) | skip)
         have H' := am H
         clear H
         go_wp2
         go_meet
         case rel => exact ⟨_, (x6), (x7), (x8), (x9), H', ⟨by have := J1.out; have := J2.out; have := J3.out; first | omega | exact Nat.le_refl _⟩, ⟨Z K1⟩, ⟨Z K2⟩, ⟨Z K3⟩, ⟨Z K4⟩, ⟨Z K5⟩, ⟨Z K6⟩, ⟨YA HB⟩⟩
        rw [if_pos c2] at H
        have d1 := eT c2
        have d2 := nF c2
        clear c2
        (first | rw [d1] | (simp only [i64_w, i32_w]; rw [d1]) | skip)
        obtain ⟨t7, A3, H⟩ := bd H
        try dsimp only at H
        obtain ⟨⟨t8, t9⟩, A4, H⟩ := bd H
        try dsimp only at H
        obtain ⟨t10, A5, H⟩ := bd H
        try dsimp only at H
        obtain ⟨⟨t11, t12⟩, A6, H⟩ := bd H
        try dsimp only at H
        have H' := am H
        clear H
        try go_wp2
        obtain ⟨K1, K2, K3, K4, K5, K6, HB⟩ := dk6 K1 K2 K3 K4 K5 K6 HB
        refine start_ (n := 10) (S := fun w' => w'.cell? ⟨g1, 0, none⟩ = some (.int .i64 a1_0) ∧ w'.cell? ⟨g1, 1, none⟩ = some (.int .i64 a1_1) ∧ w'.cell? ⟨g2, 0, none⟩ = some (.int .i64 a2_0) ∧ w'.cell? ⟨g2, 1, none⟩ = some (.int .i64 a2_1)) (ds := []) (lb 10 0) (by kernel_rfl) rfl rfl ⟨bc K1 0, bc K1 1, bc K2 0, bc K2 1⟩ (fun hHeld => ?_); refine with_tabW spec_RangeCmp.tab12 spec_RangeCmp.bits12 (fun HT_ HW_ => ?_)
        generalize wc.drew = w10 at K1 K2 K3 K4 K5 K6 HB hHeld ⊢
        refine pk 0 48 1 ?_
        refine pk 2 50 5 ?_
        refine pk 4 52 21 ?_
        refine tk 1 49 23 hHeld ?_
        refine tk 3 51 31 hHeld ?_
        refine tk 5 53 63 hHeld ?_
        refine pk 6 54 127 ?_
        refine on 7 (some 55) 255 fun K hK => ?_
        refine goes_ Try.func29 (by kernel_rfl) rfl #[.int .i64 a1_1, .int .i64 (wrap64 (a2_1 - 1))] (by rfl) rfl rfl mz ?_
        with_reducible refine (spec_l8Min.calls _ _ _ _ A3.out).mono ?_
        rintro e w' ⟨rfl, ⟨nd, rfl⟩⟩
        refine ⟨_, rfl, ?_⟩
        refine kk hK ⟨bc K1 0, bc K1 1, bc K2 0, bc K2 1⟩ fun hHeld => ?_
        clear hK K
        refine cl6 8 56 511 Try.func28 (spec_l8Cut.calls _ _ _ _ _ A4.out) K1 K2 K3 K4 K5 K6 HB fun w11 K1 K2 K3 K4 K5 K6 HB hHeld => ?_
        refine on 9 none 1023 fun K hK => ?_
        have s4 : w11.cell? ⟨g5, 0, none⟩ = some (.int .i64 x6) := bc K5 0
        have hfs113 := blk_frozen K5.out 0
        have z_ := ns10 N13 N15 N17 N19 N30 N14 N16 N18 N20 N29
        have s5 : w11.cell? ⟨g5, 1, none⟩ = some (.int .i64 x7) := bc K5 1
        have hfs114 := blk_frozen K5.out 1
        have z_ := ns10 N13 N15 N17 N19 N30 N14 N16 N18 N20 N29
        refine skip_ (w1 := ?_) (by rfl) rfl ?_ ?_
        rotate_left
        ·go_simp
         rfl
        refine hK.out _ _ ⟨(cf N13 ((cf N13 (hHeld.1)))), (cf N13 ((cf N13 (hHeld.2.1)))), (cf N15 ((cf N15 (hHeld.2.2.1)))), (cf N15 ((cf N15 (hHeld.2.2.2))))⟩ (fun hHeld => ?_)
        clear hK K
        refine done_ (done_of HT_.out (by kernel_rfl)) ?_
        try go_wp2
        have n0_ : Aside0 (((w11.setCell ⟨g5, 0, none⟩ (.int .i64 t8)).setCell ⟨g5, 1, none⟩ (.int .i64 t9)).heap[g1]? = some (.cells #[.int .i64 a1_0, .int .i64 a1_1] 33 (0, 0))) := ⟨by refine fa N13 ?_; refine fa N13 ?_; exact Z K1⟩
        have n1_ : Aside0 (((w11.setCell ⟨g5, 0, none⟩ (.int .i64 t8)).setCell ⟨g5, 1, none⟩ (.int .i64 t9)).heap[g2]? = some (.cells #[.int .i64 a2_0, .int .i64 a2_1] 33 (0, 0))) := ⟨by refine fa N15 ?_; refine fa N15 ?_; exact Z K2⟩
        have n2_ : Aside0 (((w11.setCell ⟨g5, 0, none⟩ (.int .i64 t8)).setCell ⟨g5, 1, none⟩ (.int .i64 t9)).heap[g3]? = some (.cells #[.int .i64 0, .int .i64 0] 33 (0, 0))) := ⟨by refine fa N17 ?_; refine fa N17 ?_; exact Z K3⟩
        have n3_ : Aside0 (((w11.setCell ⟨g5, 0, none⟩ (.int .i64 t8)).setCell ⟨g5, 1, none⟩ (.int .i64 t9)).heap[g4]? = some (.cells #[.int .i64 0, .int .i64 0] 33 (0, 0))) := ⟨by refine fa N19 ?_; refine fa N19 ?_; exact Z K4⟩
        have n4_ : Aside0 (((w11.setCell ⟨g5, 0, none⟩ (.int .i64 t8)).setCell ⟨g5, 1, none⟩ (.int .i64 t9)).heap[g5]? = some (.cells #[.int .i64 t8, .int .i64 t9] 33 (0, 0))) := ⟨by refine pf ?_; refine blk_put (cs := #[.int .i64 t8, .int .i64 x7]) ?_ 1 _ rfl; refine pf ?_; refine blk_put (cs := #[.int .i64 x6, .int .i64 x7]) ?_ 0 _ rfl; exact Z K5⟩
        have n5_ : Aside0 (((w11.setCell ⟨g5, 0, none⟩ (.int .i64 t8)).setCell ⟨g5, 1, none⟩ (.int .i64 t9)).heap[g6]? = some (.cells #[.int .i64 x8, .int .i64 x9] 33 (0, 0))) := ⟨by refine fa N30 ?_; refine fa N30 ?_; exact Z K6⟩
        have n6_ : Aside0 (Below w.heap.size w ((w11.setCell ⟨g5, 0, none⟩ (.int .i64 t8)).setCell ⟨g5, 1, none⟩ (.int .i64 t9))) := ⟨YA HB⟩
        (try clear K1)
        (try clear K2)
        (try clear K3)
        (try clear K4)
        (try clear K5)
        (try clear K6)
        (try clear HB)
        generalize ((w11.setCell ⟨g5, 0, none⟩ (.int .i64 t8)).setCell ⟨g5, 1, none⟩ (.int .i64 t9)) = w12 at n0_ n1_ n2_ n3_ n4_ n5_ n6_ ⊢
        have K1 := n0_
        have K2 := n1_
        have K3 := n2_
        have K4 := n3_
        have K5 := n4_
        have K6 := n5_
        have HB := n6_
        clear n0_ n1_ n2_ n3_ n4_ n5_ n6_
        obtain ⟨K1, K2, K3, K4, K5, K6, HB⟩ := dk6 K1 K2 K3 K4 K5 K6 HB
        refine start_ (n := 10) (S := fun w' => w'.cell? ⟨g2, 0, none⟩ = some (.int .i64 a2_0) ∧ w'.cell? ⟨g2, 1, none⟩ = some (.int .i64 a2_1) ∧ w'.cell? ⟨g1, 0, none⟩ = some (.int .i64 a1_0) ∧ w'.cell? ⟨g1, 1, none⟩ = some (.int .i64 a1_1)) (ds := []) (lb 10 0) (by kernel_rfl) rfl rfl ⟨bc K2 0, bc K2 1, bc K1 0, bc K1 1⟩ (fun hHeld => ?_); refine with_tabW spec_RangeCmp.tab13 spec_RangeCmp.bits13 (fun HT_ HW_ => ?_)
        generalize w12.drew = w13 at K1 K2 K3 K4 K5 K6 HB hHeld ⊢
        refine pk 0 57 1 ?_
        refine pk 2 59 5 ?_
        refine pk 6 63 69 ?_
        refine tk 1 58 71 hHeld ?_
        refine tk 3 60 79 hHeld ?_
        refine pk 4 61 95 ?_
        refine tk 7 64 223 hHeld ?_
        refine on 5 (some 62) 255 fun K hK => ?_
        refine goes_ Try.func30 (by kernel_rfl) rfl #[.int .i64 a2_0, .int .i64 (wrap64 (a1_0 + 1))] (by rfl) rfl rfl mz ?_
        with_reducible refine (spec_l8Max.calls _ _ _ _ A5.out).mono ?_
        rintro e w' ⟨rfl, ⟨nd, rfl⟩⟩
        refine ⟨_, rfl, ?_⟩
        refine kk hK ⟨bc K2 0, bc K2 1, bc K1 0, bc K1 1⟩ fun hHeld => ?_
        clear hK K
        refine cl6 8 65 511 Try.func28 (spec_l8Cut.calls _ _ _ _ _ A6.out) K1 K2 K3 K4 K5 K6 HB fun w14 K1 K2 K3 K4 K5 K6 HB hHeld => ?_
        refine on 9 none 1023 fun K hK => ?_
        have s6 : w14.cell? ⟨g6, 0, none⟩ = some (.int .i64 x8) := bc K6 0
        have hfs118 := blk_frozen K6.out 0
        have z_ := ns10 N21 N23 N25 N27 N29 N22 N24 N26 N28 N30
        have s7 : w14.cell? ⟨g6, 1, none⟩ = some (.int .i64 x9) := bc K6 1
        have hfs119 := blk_frozen K6.out 1
        have z_ := ns10 N21 N23 N25 N27 N29 N22 N24 N26 N28 N30
        refine skip_ (w1 := ?_) (by rfl) rfl ?_ ?_
        rotate_left
        ·go_simp
         rfl
        refine hK.out _ _ ⟨(cf N23 ((cf N23 (hHeld.1)))), (cf N23 ((cf N23 (hHeld.2.1)))), (cf N21 ((cf N21 (hHeld.2.2.1)))), (cf N21 ((cf N21 (hHeld.2.2.2))))⟩ (fun hHeld => ?_)
        clear hK K
        refine done_ (done_of HT_.out (by kernel_rfl)) ?_
        try go_wp2
        go_meet
        case rel => exact ⟨_, (t8), (t9), (t11), (t12), H', ⟨by have := J1.out; have := J2.out; have := J3.out; first | omega | exact Nat.le_refl _⟩, ⟨by refine fa N21 ?_; refine fa N21 ?_; exact Z K1⟩, ⟨by refine fa N23 ?_; refine fa N23 ?_; exact Z K2⟩, ⟨by refine fa N25 ?_; refine fa N25 ?_; exact Z K3⟩, ⟨by refine fa N27 ?_; refine fa N27 ?_; exact Z K4⟩, ⟨by refine fa N29 ?_; refine fa N29 ?_; exact Z K5⟩, ⟨by refine pf ?_; refine blk_put (cs := #[.int .i64 t11, .int .i64 x9]) ?_ 1 _ rfl; refine pf ?_; refine blk_put (cs := #[.int .i64 x8, .int .i64 x9]) ?_ 0 _ rfl; exact Z K6⟩, ⟨YA HB⟩⟩
       case rest =>
        clear C4
        obtain ⟨kq, x10, x11, x12, x13, HA, J4, K1, K2, K3, K4, K5, K6, HB⟩ := hcut
        cases kq with
        | zero => exact absurd HA.out (by simp [spec_RangeCmp.j3])
        | succ k4 =>
         have H := HA.out
         clear HA
         simp only [spec_RangeCmp.j3] at H
         have C5 := am H
         clear H
         go_upto_if 67 with (fail)
         go_cut [] (fun wc => ∃ (kq : Nat) (x14 : Int) (x15 : Int) (x16 : Int) (x17 : Int), Aside0 (spec_RangeCmp.j4 kq a0 a1_0 a1_1 a2_0 a2_1 x14 x15 x16 x17 = some (r1, r2, r3, r4)) ∧ Aside0 (kq ≤ k4) ∧ Bx2 wc g1 a1_0 a1_1 33 ∧ Bx2 wc g2 a2_0 a2_1 33 ∧ Bx2 wc g3 0 0 33 ∧ Bx2 wc g4 0 0 33 ∧ Bx2 wc g5 x14 x15 33 ∧ Bx2 wc g6 x16 x17 33 ∧ Aside0 (Below w.heap.size w wc))
         case first =>
          have H := C5.out
          clear C5
          by_cases c2 : a0 = 4
          rotate_left
          ·rw [if_neg c2] at H
           have d1 := eF c2
           have d2 := nT c2
           (first | rw [d1] | (simp only [i64_w, i32_w]; rw [d1]) | skip)
           have H' := am H
           clear H
           go_wp2
           go_meet
           case rel => exact ⟨_, (x10), (x11), (x12), (x13), H', ⟨by have := J1.out; have := J2.out; have := J3.out; have := J4.out; first | omega | exact Nat.le_refl _⟩, ⟨Z K1⟩, ⟨Z K2⟩, ⟨Z K3⟩, ⟨Z K4⟩, ⟨Z K5⟩, ⟨Z K6⟩, ⟨YA HB⟩⟩
          rw [if_pos c2] at H
          have d1 := eT c2
          have d2 := nF c2
          clear c2
          (first | rw [d1] | (simp only [i64_w, i32_w]; rw [d1]) | skip)
          obtain ⟨t7, A3, H⟩ := bd H
          try dsimp only at H
          obtain ⟨⟨t8, t9⟩, A4, H⟩ := bd H
          try dsimp only at H
          obtain ⟨t10, A5, H⟩ := bd H
          try dsimp only at H
          obtain ⟨⟨t11, t12⟩, A6, H⟩ := bd H
          try dsimp only at H
          have H' := am H
          clear H
          try go_wp2
          obtain ⟨K1, K2, K3, K4, K5, K6, HB⟩ := dk6 K1 K2 K3 K4 K5 K6 HB
          refine start_ (n := 9) (S := fun w' => w'.cell? ⟨g1, 0, none⟩ = some (.int .i64 a1_0) ∧ w'.cell? ⟨g1, 1, none⟩ = some (.int .i64 a1_1) ∧ w'.cell? ⟨g2, 0, none⟩ = some (.int .i64 a2_0) ∧ w'.cell? ⟨g2, 1, none⟩ = some (.int .i64 a2_1)) (ds := []) (lb 9 0) (by kernel_rfl) rfl rfl ⟨bc K1 0, bc K1 1, bc K2 0, bc K2 1⟩ (fun hHeld => ?_); refine with_tabW spec_RangeCmp.tab15 spec_RangeCmp.bits15 (fun HT_ HW_ => ?_)
          generalize wc.drew = w10 at K1 K2 K3 K4 K5 K6 HB hHeld ⊢
          refine pk 0 68 1 ?_
          refine pk 2 70 5 ?_
          refine pk 4 72 21 ?_
          refine tk 1 69 23 hHeld ?_
          refine tk 3 71 31 hHeld ?_
          refine tk 5 73 63 hHeld ?_
          refine on 6 (some 74) 127 fun K hK => ?_
          refine goes_ Try.func29 (by kernel_rfl) rfl #[.int .i64 a1_1, .int .i64 a2_1] (by rfl) rfl rfl mz ?_
          with_reducible refine (spec_l8Min.calls _ _ _ _ A3.out).mono ?_
          rintro e w' ⟨rfl, ⟨nd, rfl⟩⟩
          refine ⟨_, rfl, ?_⟩
          refine kk hK ⟨bc K1 0, bc K1 1, bc K2 0, bc K2 1⟩ fun hHeld => ?_
          clear hK K
          refine cl6 7 75 255 Try.func28 (spec_l8Cut.calls _ _ _ _ _ A4.out) K1 K2 K3 K4 K5 K6 HB fun w11 K1 K2 K3 K4 K5 K6 HB hHeld => ?_
          refine on 8 none 511 fun K hK => ?_
          have s4 : w11.cell? ⟨g5, 0, none⟩ = some (.int .i64 x10) := bc K5 0
          have hfs128 := blk_frozen K5.out 0
          have z_ := ns10 N13 N15 N17 N19 N30 N14 N16 N18 N20 N29
          have s5 : w11.cell? ⟨g5, 1, none⟩ = some (.int .i64 x11) := bc K5 1
          have hfs129 := blk_frozen K5.out 1
          have z_ := ns10 N13 N15 N17 N19 N30 N14 N16 N18 N20 N29
          refine skip_ (w1 := ?_) (by rfl) rfl ?_ ?_
          rotate_left
          ·go_simp
           rfl
          refine hK.out _ _ ⟨(cf N13 ((cf N13 (hHeld.1)))), (cf N13 ((cf N13 (hHeld.2.1)))), (cf N15 ((cf N15 (hHeld.2.2.1)))), (cf N15 ((cf N15 (hHeld.2.2.2))))⟩ (fun hHeld => ?_)
          clear hK K
          refine done_ (done_of HT_.out (by kernel_rfl)) ?_
          try go_wp2
          have n0_ : Aside0 (((w11.setCell ⟨g5, 0, none⟩ (.int .i64 t8)).setCell ⟨g5, 1, none⟩ (.int .i64 t9)).heap[g1]? = some (.cells #[.int .i64 a1_0, .int .i64 a1_1] 33 (0, 0))) := ⟨by refine fa N13 ?_; refine fa N13 ?_; exact Z K1⟩
          have n1_ : Aside0 (((w11.setCell ⟨g5, 0, none⟩ (.int .i64 t8)).setCell ⟨g5, 1, none⟩ (.int .i64 t9)).heap[g2]? = some (.cells #[.int .i64 a2_0, .int .i64 a2_1] 33 (0, 0))) := ⟨by refine fa N15 ?_; refine fa N15 ?_; exact Z K2⟩
          have n2_ : Aside0 (((w11.setCell ⟨g5, 0, none⟩ (.int .i64 t8)).setCell ⟨g5, 1, none⟩ (.int .i64 t9)).heap[g3]? = some (.cells #[.int .i64 0, .int .i64 0] 33 (0, 0))) := ⟨by refine fa N17 ?_; refine fa N17 ?_; exact Z K3⟩
          have n3_ : Aside0 (((w11.setCell ⟨g5, 0, none⟩ (.int .i64 t8)).setCell ⟨g5, 1, none⟩ (.int .i64 t9)).heap[g4]? = some (.cells #[.int .i64 0, .int .i64 0] 33 (0, 0))) := ⟨by refine fa N19 ?_; refine fa N19 ?_; exact Z K4⟩
          have n4_ : Aside0 (((w11.setCell ⟨g5, 0, none⟩ (.int .i64 t8)).setCell ⟨g5, 1, none⟩ (.int .i64 t9)).heap[g5]? = some (.cells #[.int .i64 t8, .int .i64 t9] 33 (0, 0))) := ⟨by refine pf ?_; refine blk_put (cs := #[.int .i64 t8, .int .i64 x11]) ?_ 1 _ rfl; refine pf ?_; refine blk_put (cs := #[.int .i64 x10, .int .i64 x11]) ?_ 0 _ rfl; exact Z K5⟩
          have n5_ : Aside0 (((w11.setCell ⟨g5, 0, none⟩ (.int .i64 t8)).setCell ⟨g5, 1, none⟩ (.int .i64 t9)).heap[g6]? = some (.cells #[.int .i64 x12, .int .i64 x13] 33 (0, 0))) := ⟨by refine fa N30 ?_; refine fa N30 ?_; exact Z K6⟩
          have n6_ : Aside0 (Below w.heap.size w ((w11.setCell ⟨g5, 0, none⟩ (.int .i64 t8)).setCell ⟨g5, 1, none⟩ (.int .i64 t9))) := ⟨YA HB⟩
          (try clear K1)
          (try clear K2)
          (try clear K3)
          (try clear K4)
          (try clear K5)
          (try clear K6)
          (try clear HB)
          generalize ((w11.setCell ⟨g5, 0, none⟩ (.int .i64 t8)).setCell ⟨g5, 1, none⟩ (.int .i64 t9)) = w12 at n0_ n1_ n2_ n3_ n4_ n5_ n6_ ⊢
          have K1 := n0_
          have K2 := n1_
          have K3 := n2_
          have K4 := n3_
          have K5 := n4_
          have K6 := n5_
          have HB := n6_
          clear n0_ n1_ n2_ n3_ n4_ n5_ n6_
          obtain ⟨K1, K2, K3, K4, K5, K6, HB⟩ := dk6 K1 K2 K3 K4 K5 K6 HB
          refine start_ (n := 9) (S := fun w' => w'.cell? ⟨g2, 0, none⟩ = some (.int .i64 a2_0) ∧ w'.cell? ⟨g2, 1, none⟩ = some (.int .i64 a2_1) ∧ w'.cell? ⟨g1, 0, none⟩ = some (.int .i64 a1_0) ∧ w'.cell? ⟨g1, 1, none⟩ = some (.int .i64 a1_1)) (ds := []) (lb 9 0) (by kernel_rfl) rfl rfl ⟨bc K2 0, bc K2 1, bc K1 0, bc K1 1⟩ (fun hHeld => ?_); refine with_tabW spec_RangeCmp.tab16 spec_RangeCmp.bits16 (fun HT_ HW_ => ?_)
          generalize w12.drew = w13 at K1 K2 K3 K4 K5 K6 HB hHeld ⊢
          refine pk 0 76 1 ?_
          refine pk 2 78 5 ?_
          refine pk 5 81 37 ?_
          refine tk 1 77 39 hHeld ?_
          refine tk 3 79 47 hHeld ?_
          refine tk 6 82 111 hHeld ?_
          refine on 4 (some 80) 127 fun K hK => ?_
          refine goes_ Try.func30 (by kernel_rfl) rfl #[.int .i64 a2_0, .int .i64 a1_0] (by rfl) rfl rfl mz ?_
          with_reducible refine (spec_l8Max.calls _ _ _ _ A5.out).mono ?_
          rintro e w' ⟨rfl, ⟨nd, rfl⟩⟩
          refine ⟨_, rfl, ?_⟩
          refine kk hK ⟨bc K2 0, bc K2 1, bc K1 0, bc K1 1⟩ fun hHeld => ?_
          clear hK K
          refine cl6 7 83 255 Try.func28 (spec_l8Cut.calls _ _ _ _ _ A6.out) K1 K2 K3 K4 K5 K6 HB fun w14 K1 K2 K3 K4 K5 K6 HB hHeld => ?_
          refine on 8 none 511 fun K hK => ?_
          have s6 : w14.cell? ⟨g6, 0, none⟩ = some (.int .i64 x12) := bc K6 0
          have hfs133 := blk_frozen K6.out 0
          have z_ := ns10 N21 N23 N25 N27 N29 N22 N24 N26 N28 N30
          have s7 : w14.cell? ⟨g6, 1, none⟩ = some (.int .i64 x13) := bc K6 1
          have hfs134 := blk_frozen K6.out 1
          have z_ := ns10 N21 N23 N25 N27 N29 N22 N24 N26 N28 N30
          refine skip_ (w1 := ?_) (by rfl) rfl ?_ ?_
          rotate_left
          ·go_simp
           rfl
          refine hK.out _ _ ⟨(cf N23 ((cf N23 (hHeld.1)))), (cf N23 ((cf N23 (hHeld.2.1)))), (cf N21 ((cf N21 (hHeld.2.2.1)))), (cf N21 ((cf N21 (hHeld.2.2.2))))⟩ (fun hHeld => ?_)
          clear hK K
          refine done_ (done_of HT_.out (by kernel_rfl)) ?_
          try go_wp2
          go_meet
          case rel => exact ⟨_, (t8), (t9), (t11), (t12), H', ⟨by have := J1.out; have := J2.out; have := J3.out; have := J4.out; first | omega | exact Nat.le_refl _⟩, ⟨by refine fa N21 ?_; refine fa N21 ?_; exact Z K1⟩, ⟨by refine fa N23 ?_; refine fa N23 ?_; exact Z K2⟩, ⟨by refine fa N25 ?_; refine fa N25 ?_; exact Z K3⟩, ⟨by refine fa N27 ?_; refine fa N27 ?_; exact Z K4⟩, ⟨by refine fa N29 ?_; refine fa N29 ?_; exact Z K5⟩, ⟨by refine pf ?_; refine blk_put (cs := #[.int .i64 t11, .int .i64 x13]) ?_ 1 _ rfl; refine pf ?_; refine blk_put (cs := #[.int .i64 x12, .int .i64 x13]) ?_ 0 _ rfl; exact Z K6⟩, ⟨YA HB⟩⟩
         case rest =>
          clear C5
          obtain ⟨kq, x14, x15, x16, x17, HA, J5, K1, K2, K3, K4, K5, K6, HB⟩ := hcut
          cases kq with
          | zero => exact absurd HA.out (by simp [spec_RangeCmp.j4])
          | succ k5 =>
           have H := HA.out
           clear HA
           simp only [spec_RangeCmp.j4] at H
           have C6 := am H
           clear H
           go_upto_region 17 with (fail)
           go_cut [89] (fun v2 wc => ∃ (kq : Nat) (x18 : Bool), v2 = .bool x18 ∧ Aside0 (spec_RangeCmp.j5 kq a0 x18 a1_0 a1_1 a2_0 a2_1 x14 x15 x16 x17 = some (r1, r2, r3, r4)) ∧ Aside0 (kq ≤ k5) ∧ Bx2 wc g1 a1_0 a1_1 33 ∧ Bx2 wc g2 a2_0 a2_1 33 ∧ Bx2 wc g3 0 0 33 ∧ Bx2 wc g4 0 0 33 ∧ Bx2 wc g5 x14 x15 33 ∧ Bx2 wc g6 x16 x17 33 ∧ Aside0 (Below w.heap.size w wc))
           case first =>
            have H := C6.out
            clear C6
            by_cases c2 : a0 = 5
            rotate_left
            ·rw [if_neg c2] at H
             have d1 := eF c2
             have d2 := nT c2
             (first | rw [d1] | (simp only [i64_w, i32_w]; rw [d1]) | skip)
             have H' := am H
             clear H
             go_wp2
             go_meet
             case rel => exact ⟨_, ((a0 == 6)), ey, H', ⟨by have := J1.out; have := J2.out; have := J3.out; have := J4.out; have := J5.out; first | omega | exact Nat.le_refl _⟩, ⟨Z K1⟩, ⟨Z K2⟩, ⟨Z K3⟩, ⟨Z K4⟩, ⟨Z K5⟩, ⟨Z K6⟩, ⟨YA HB⟩⟩
            rw [if_pos c2] at H
            have d1 := eT c2
            have d2 := nF c2
            clear c2
            (first | rw [d1] | (simp only [i64_w, i32_w]; rw [d1]) | skip)
            have H' := am H
            clear H
            go_wp2
            go_meet
            case rel => exact ⟨_, (true), ey, H', ⟨by have := J1.out; have := J2.out; have := J3.out; have := J4.out; have := J5.out; first | omega | exact Nat.le_refl _⟩, ⟨Z K1⟩, ⟨Z K2⟩, ⟨Z K3⟩, ⟨Z K4⟩, ⟨Z K5⟩, ⟨Z K6⟩, ⟨YA HB⟩⟩
           case rest =>
            clear C6
            obtain ⟨kq, x18, rfl, HA, J6, K1, K2, K3, K4, K5, K6, HB⟩ := hcut
            cases kq with
            | zero => exact absurd HA.out (by simp [spec_RangeCmp.j5])
            | succ k6 =>
             have H := HA.out
             clear HA
             simp only [spec_RangeCmp.j5] at H
             have C7 := am H
             clear H
             go_upto_if 89 with (fail)
             go_cut [] (fun wc => ∃ (kq : Nat) (x19 : Int) (x20 : Int) (x21 : Int) (x22 : Int), Aside0 (spec_RangeCmp.j6 kq x19 x20 x21 x22 = some (r1, r2, r3, r4)) ∧ Aside0 (kq ≤ k6) ∧ Bx2 wc g1 a1_0 a1_1 33 ∧ Bx2 wc g2 a2_0 a2_1 33 ∧ Bx2 wc g3 0 0 33 ∧ Bx2 wc g4 0 0 33 ∧ Bx2 wc g5 x19 x20 33 ∧ Bx2 wc g6 x21 x22 33 ∧ Aside0 (Below w.heap.size w wc))
             case first =>
              have H := C7.out
              clear C7
              by_cases c2 : x18 = true
              rotate_left
              ·replace c2 := Bool.eq_false_iff.mpr c2
               subst c2
               rw [if_neg ff] at H
               have H' := am H
               clear H
               go_wp2
               go_meet
               case rel => exact ⟨_, (x14), (x15), (x16), (x17), H', ⟨by have := J1.out; have := J2.out; have := J3.out; have := J4.out; have := J5.out; have := J6.out; first | omega | exact Nat.le_refl _⟩, ⟨Z K1⟩, ⟨Z K2⟩, ⟨Z K3⟩, ⟨Z K4⟩, ⟨Z K5⟩, ⟨Z K6⟩, ⟨YA HB⟩⟩
              subst c2
              rw [if_pos rfl] at H
              obtain ⟨t7, A3, H⟩ := bd H
              try dsimp only at H
              obtain ⟨⟨t8, t9, t10, t11⟩, A4, H⟩ := bd H
              try dsimp only at H
              have H' := am H
              clear H
              try go_wp2
              obtain ⟨K1, K2, K3, K4, K5, K6, HB⟩ := dk6 K1 K2 K3 K4 K5 K6 HB
              refine start_ (n := 10) (S := fun w' => w'.cell? ⟨g2, 0, none⟩ = some (.int .i64 a2_0) ∧ w'.cell? ⟨g2, 1, none⟩ = some (.int .i64 a2_1) ∧ w'.cell? ⟨g1, 0, none⟩ = some (.int .i64 a1_0) ∧ w'.cell? ⟨g1, 1, none⟩ = some (.int .i64 a1_1)) (ds := []) (lb 10 0) (by kernel_rfl) rfl rfl ⟨bc K2 0, bc K2 1, bc K1 0, bc K1 1⟩ (fun hHeld => ?_); refine with_tabW spec_RangeCmp.tab18 spec_RangeCmp.bits18 (fun HT_ HW_ => ?_)
              generalize wc.drew = w10 at K1 K2 K3 K4 K5 K6 HB hHeld ⊢
              refine pk 0 91 1 ?_
              refine tk 2 93 5 hHeld ?_
              refine tk 3 94 13 hHeld ?_
              refine on 1 (some 92) 15 fun K hK => ?_
              refine goes_ Try.func31 (by kernel_rfl) rfl #[.int .i64 a0] (by rfl) rfl rfl mz ?_
              with_reducible refine (spec_CmpTurn.calls _ _ _ A3.out).mono ?_
              rintro e w' ⟨rfl, ⟨nd, rfl⟩⟩
              refine ⟨_, rfl, ?_⟩
              refine kk hK ⟨bc K2 0, bc K2 1, bc K1 0, bc K1 1⟩ fun hHeld => ?_
              clear hK K
              refine cl6 4 95 31 Try.func10 (ih k6 (by have := J1.out; have := J2.out; have := J3.out; have := J4.out; have := J5.out; have := J6.out; omega) t7 a2_0 a2_1 a1_0 a1_1 t8 t9 t10 t11 _ A4.out) K1 K2 K3 K4 K5 K6 HB fun w11 K1 K2 K3 K4 K5 K6 HB hHeld => ?_
              refine pk 5 90 63 ?_
              refine pk 6 96 127 ?_
              refine pk 7 97 255 ?_
              refine on 8 none 511 fun K hK => ?_
              have s4 : w11.cell? ⟨g6, 0, none⟩ = some (.int .i64 x16) := bc K6 0
              have hfs143 := blk_frozen K6.out 0
              have z_ := ns10 N21 N23 N25 N27 N29 N22 N24 N26 N28 N30
              have s5 : w11.cell? ⟨g6, 1, none⟩ = some (.int .i64 x17) := bc K6 1
              have hfs144 := blk_frozen K6.out 1
              have z_ := ns10 N21 N23 N25 N27 N29 N22 N24 N26 N28 N30
              refine skip_ (w1 := ?_) (by rfl) rfl ?_ ?_
              rotate_left
              ·go_simp
               rfl
              refine hK.out _ _ ⟨(cf N23 ((cf N23 (hHeld.1)))), (cf N23 ((cf N23 (hHeld.2.1)))), (cf N21 ((cf N21 (hHeld.2.2.1)))), (cf N21 ((cf N21 (hHeld.2.2.2))))⟩ (fun hHeld => ?_)
              clear hK K
              refine on 9 none 1023 fun K hK => ?_
              have s6 : w11.cell? ⟨g5, 0, none⟩ = some (.int .i64 x14) := bc K5 0
              have hfs145 := blk_frozen K5.out 0
              have z_ := ns10 N13 N15 N17 N19 N30 N14 N16 N18 N20 N29
              have s7 : w11.cell? ⟨g5, 1, none⟩ = some (.int .i64 x15) := bc K5 1
              have hfs146 := blk_frozen K5.out 1
              have z_ := ns10 N13 N15 N17 N19 N30 N14 N16 N18 N20 N29
              refine skip_ (w1 := ?_) (by rfl) rfl ?_ ?_
              rotate_left
              ·go_simp
               rfl
              refine hK.out _ _ ⟨(cf N15 ((cf N15 (hHeld.1)))), (cf N15 ((cf N15 (hHeld.2.1)))), (cf N13 ((cf N13 (hHeld.2.2.1)))), (cf N13 ((cf N13 (hHeld.2.2.2))))⟩ (fun hHeld => ?_)
              clear hK K
              refine done_ (done_of HT_.out (by kernel_rfl)) ?_
              try go_wp2
              go_meet
              case rel => exact ⟨_, (t10), (t11), (t8), (t9), H', ⟨by have := J1.out; have := J2.out; have := J3.out; have := J4.out; have := J5.out; have := J6.out; first | omega | exact Nat.le_refl _⟩, ⟨by refine fa N13 ?_; refine fa N13 ?_; refine fa N21 ?_; refine fa N21 ?_; exact Z K1⟩, ⟨by refine fa N15 ?_; refine fa N15 ?_; refine fa N23 ?_; refine fa N23 ?_; exact Z K2⟩, ⟨by refine fa N17 ?_; refine fa N17 ?_; refine fa N25 ?_; refine fa N25 ?_; exact Z K3⟩, ⟨by refine fa N19 ?_; refine fa N19 ?_; refine fa N27 ?_; refine fa N27 ?_; exact Z K4⟩, ⟨by refine pf ?_; refine blk_put (cs := #[.int .i64 t10, .int .i64 x15]) ?_ 1 _ rfl; refine pf ?_; refine blk_put (cs := #[.int .i64 x14, .int .i64 x15]) ?_ 0 _ rfl; refine fa N29 ?_; refine fa N29 ?_; exact Z K5⟩, ⟨by refine fa N30 ?_; refine fa N30 ?_; refine pf ?_; refine blk_put (cs := #[.int .i64 t8, .int .i64 x17]) ?_ 1 _ rfl; refine pf ?_; refine blk_put (cs := #[.int .i64 x16, .int .i64 x17]) ?_ 0 _ rfl; exact Z K6⟩, ⟨YA HB⟩⟩
             case rest =>
              clear C7
              obtain ⟨kq, x19, x20, x21, x22, HA, J7, K1, K2, K3, K4, K5, K6, HB⟩ := hcut
              cases kq with
              | zero => exact absurd HA.out (by simp [spec_RangeCmp.j6])
              | succ k7 =>
               have H := HA.out
               clear HA
               simp only [spec_RangeCmp.j6] at H
               have C8 := am H
               clear H
               go_upto_region 19 with (fail)
               go_cut [105] (fun v3 wc => ∃ (kq : Nat) (x23 : Bool), v3 = .bool x23 ∧ Aside0 (spec_RangeCmp.j7 kq x23 x19 x20 x21 x22 = some (r1, r2, r3, r4)) ∧ Aside0 (kq ≤ k7) ∧ Bx2 wc g1 a1_0 a1_1 33 ∧ Bx2 wc g2 a2_0 a2_1 33 ∧ Bx2 wc g3 0 0 33 ∧ Bx2 wc g4 0 0 33 ∧ Bx2 wc g5 x19 x20 33 ∧ Bx2 wc g6 x21 x22 33 ∧ Aside0 (Below w.heap.size w wc))
               case first =>
                have H := C8.out
                clear C8
                obtain ⟨⟨t7, t8⟩, A3, H⟩ := bd H
                try dsimp only at H
                by_cases c2 : (x19 == t7 && (x20 == t8)) = true
                ·rw [if_pos c2] at H
                 have d1 : (x19 == t7 && (x20 == t8)) = true := c2
                 (try (have d2 : decide (x19 = t7 && (x20 == t8)) = true := by simpa using c2))
                 (try (have d3 : (x19 == t7 && (x20 == t8)) = true := by simpa using c2))
                 clear c2
                 (first | rw [d1] | (simp only [i64_w, i32_w]; rw [d1]) | skip)
                 have H' := am H
                 clear H
                 try go_wp2
                 obtain ⟨K1, K2, K3, K4, K5, K6, HB⟩ := dk6 K1 K2 K3 K4 K5 K6 HB
                 refine start_ (n := 8) (S := fun w' => w'.cell? ⟨g5, 0, none⟩ = some (.int .i64 x19) ∧ w'.cell? ⟨g5, 1, none⟩ = some (.int .i64 x20)) (ds := []) (lb 8 0) (by kernel_rfl) rfl rfl ⟨bc K5 0, bc K5 1⟩ (fun hHeld => ?_); refine with_tabW spec_RangeCmp.tab19 spec_RangeCmp.bits19 (fun HT_ HW_ => ?_)
                 generalize wc.drew = w10 at K1 K2 K3 K4 K5 K6 HB hHeld ⊢
                 refine tk 0 98 1 hHeld ?_
                 refine cl6 1 99 3 Try.func25 (spec_l8None.calls _ _ _ A3.out) K1 K2 K3 K4 K5 K6 HB fun w11 K1 K2 K3 K4 K5 K6 HB hHeld => ?_
                 refine pk 2 100 7 ?_
                 refine pk 3 101 15 ?_
                 refine uk 4 102 31 ?_
                 refine uk 5 103 63 ?_
                 refine uk 6 104 127 ?_
                 refine pk 7 105 255 ?_
                 refine done_ (done_of HT_.out (by kernel_rfl)) ?_
                 try go_wp2
                 go_meet
                 case rel => exact ⟨_, (true), ey, H', ⟨by have := J1.out; have := J2.out; have := J3.out; have := J4.out; have := J5.out; have := J6.out; have := J7.out; first | omega | exact Nat.le_refl _⟩, ⟨Z K1⟩, ⟨Z K2⟩, ⟨Z K3⟩, ⟨Z K4⟩, ⟨Z K5⟩, ⟨Z K6⟩, ⟨YA HB⟩⟩
                rw [if_neg c2] at H
                have d1 : (x19 == t7 && (x20 == t8)) = false := by simpa using c2
                (try (have d2 : decide (x19 = t7 && (x20 == t8)) = false := by simpa using c2))
                (try (have d3 : (x19 == t7 && (x20 == t8)) = false := by simpa using c2))
                (try (have d4 : ¬ (x19 = t7 && (x20 == t8)) := by simpa using c2))
                clear c2
                (first | rw [d1] | (simp only [i64_w, i32_w]; rw [d1]) | skip)
                obtain ⟨⟨t9, t10⟩, A4, H⟩ := bd H
                try dsimp only at H
                have H' := am H
                clear H
                try go_wp2
                obtain ⟨K1, K2, K3, K4, K5, K6, HB⟩ := dk6 K1 K2 K3 K4 K5 K6 HB
                refine start_ (n := 8) (S := fun w' => w'.cell? ⟨g5, 0, none⟩ = some (.int .i64 x19) ∧ w'.cell? ⟨g5, 1, none⟩ = some (.int .i64 x20) ∧ w'.cell? ⟨g6, 0, none⟩ = some (.int .i64 x21) ∧ w'.cell? ⟨g6, 1, none⟩ = some (.int .i64 x22)) (ds := []) (lb 8 0) (by kernel_rfl) rfl rfl ⟨bc K5 0, bc K5 1, bc K6 0, bc K6 1⟩ (fun hHeld => ?_); refine with_tabW spec_RangeCmp.tab19 spec_RangeCmp.bits19 (fun HT_ HW_ => ?_)
                generalize wc.drew = w10 at K1 K2 K3 K4 K5 K6 HB hHeld ⊢
                refine tk 0 98 1 hHeld ?_
                refine cl6 1 99 3 Try.func25 (spec_l8None.calls _ _ _ A3.out) K1 K2 K3 K4 K5 K6 HB fun w11 K1 K2 K3 K4 K5 K6 HB hHeld => ?_
                refine pk 2 100 7 ?_
                refine pk 3 101 15 ?_
                refine tk 4 102 31 hHeld ?_
                refine cl6 5 103 63 Try.func25 (spec_l8None.calls _ _ _ A4.out) K1 K2 K3 K4 K5 K6 HB fun w12 K1 K2 K3 K4 K5 K6 HB hHeld => ?_
                refine pk 6 104 127 ?_
                refine pk 7 105 255 ?_
                refine done_ (done_of HT_.out (by kernel_rfl)) ?_
                try go_wp2
                go_meet
                case rel => exact ⟨_, ((x21 == t9 && (x22 == t10))), ey, H', ⟨by have := J1.out; have := J2.out; have := J3.out; have := J4.out; have := J5.out; have := J6.out; have := J7.out; first | omega | exact Nat.le_refl _⟩, ⟨Z K1⟩, ⟨Z K2⟩, ⟨Z K3⟩, ⟨Z K4⟩, ⟨Z K5⟩, ⟨Z K6⟩, ⟨YA HB⟩⟩
               case rest =>
                clear C8
                obtain ⟨kq, x23, rfl, HA, J8, K1, K2, K3, K4, K5, K6, HB⟩ := hcut
                cases kq with
                | zero => exact absurd HA.out (by simp [spec_RangeCmp.j7])
                | succ k8 =>
                 have H := HA.out
                 clear HA
                 simp only [spec_RangeCmp.j7] at H
                 by_cases c2 : x23 = true
                 ·subst c2
                  rw [if_pos rfl] at H
                  obtain ⟨⟨t7, t8⟩, A3, H⟩ := bd H
                  try dsimp only at H
                  obtain ⟨⟨t9, t10⟩, A4, H⟩ := bd H
                  try dsimp only at H
                  simp only [Option.some.injEq, Prod.mk.injEq] at H
                  obtain ⟨rfl, rfl, rfl, rfl⟩ := H
                  go_wp2_with (first | ((with_reducible refine gate_callee (f := 25) rfl ?_); refine gL 106 Try.func25 (spec_l8None.calls _ _ _ A3.out) fun w10 hb => ?_; obtain ⟨K1, K2, K3, K4, K5, K6, HB⟩ := bk6 K1 K2 K3 K4 K5 K6 HB hb; (try clear hb)) | ((with_reducible refine gate_callee (f := 25) rfl ?_); refine gL 107 Try.func25 (spec_l8None.calls _ _ _ A4.out) fun w11 hb => ?_; obtain ⟨K1, K2, K3, K4, K5, K6, HB⟩ := bk6 K1 K2 K3 K4 K5 K6 HB hb; (try clear hb); have z_ := ns9 N4 N6 N11 N17 N25 N8 N10 N19 N27; have z_ := cB2 K3; have z_ := cB2 K4))
                  refine bodyPost_ret (results_cc rfl _ _ g3 g4 33 33 #[.int .i64 t7, .int .i64 t8] #[.int .i64 t9, .int .i64 t10] (0, 0) (0, 0) _ _ rfl (by refine fa N11 ?_; refine fa N11 ?_; refine pf ?_; refine blk_put (cs := #[.int .i64 t7, .int .i64 0]) ?_ 1 _ rfl; refine pf ?_; refine blk_put (cs := #[.int .i64 0, .int .i64 0]) ?_ 0 _ rfl; exact Z K3) Try.underlying33 rfl (by kernel_rfl) rfl (by refine pf ?_; refine blk_put (cs := #[.int .i64 t9, .int .i64 0]) ?_ 1 _ rfl; refine pf ?_; refine blk_put (cs := #[.int .i64 0, .int .i64 0]) ?_ 0 _ rfl; refine fa N12 ?_; refine fa N12 ?_; exact Z K4) Try.underlying33 rfl (by kernel_rfl)) rfl ?_
                  exact ⟨ez, YA HB⟩
                 replace c2 := Bool.eq_false_iff.mpr c2
                 subst c2
                 rw [if_neg ff] at H
                 simp only [Option.some.injEq, Prod.mk.injEq] at H
                 obtain ⟨rfl, rfl, rfl, rfl⟩ := H
                 try go_wp2
                 obtain ⟨K1, K2, K3, K4, K5, K6, HB⟩ := dk6 K1 K2 K3 K4 K5 K6 HB
                 refine start_ (n := 4) (S := fun w' => w'.cell? ⟨g5, 0, none⟩ = some (.int .i64 x19) ∧ w'.cell? ⟨g5, 1, none⟩ = some (.int .i64 x20) ∧ w'.cell? ⟨g6, 0, none⟩ = some (.int .i64 x21) ∧ w'.cell? ⟨g6, 1, none⟩ = some (.int .i64 x22)) (ds := []) (lb 4 0) (by kernel_rfl) rfl rfl ⟨bc K5 0, bc K5 1, bc K6 0, bc K6 1⟩ (fun hHeld => ?_)
                 generalize wc.drew = w10 at K1 K2 K3 K4 K5 K6 HB hHeld ⊢
                 refine take_ (i := 0) (N := some 108) (v := ?_) (a' := ?_) (lb 4 1) rfl rfl (by kernel_rfl) (fun _ _ _ h => h) (Or.inl ⟨by rfl, ?_⟩) hHeld ?_ ?_
                 rotate_left
                 ·rintro w' ⟨s0, s1, s2, s3⟩
                  go_simp
                  with_reducible rfl
                 rotate_left
                 ·exact pz
                 refine take_ (i := 1) (N := some 109) (v := ?_) (a' := ?_) (lb 4 3) rfl rfl (by kernel_rfl) (fun _ _ _ h => h) (Or.inl ⟨by rfl, ?_⟩) hHeld ?_ ?_
                 rotate_left
                 ·rintro w' ⟨s0, s1, s2, s3⟩
                  go_simp
                  with_reducible rfl
                 rotate_left
                 ·exact pz
                 refine one_ (i := 2) (N := none) (lb 4 7) rfl rfl (by kernel_rfl) (by decide) (fun K hK => ?_)
                 have s4 : w10.cell? ⟨g3, 0, none⟩ = some (.int .i64 0) := bc K3 0
                 have hfs173 := blk_frozen K3.out 0
                 have z_ := ns10 N3 N5 N12 N18 N26 N4 N6 N11 N17 N25
                 have s5 : w10.cell? ⟨g3, 1, none⟩ = some (.int .i64 0) := bc K3 1
                 have hfs174 := blk_frozen K3.out 1
                 have z_ := ns10 N3 N5 N12 N18 N26 N4 N6 N11 N17 N25
                 refine skip_ (w1 := ?_) (by rfl) rfl ?_ ?_
                 rotate_left
                 ·go_simp
                  rfl
                 refine hK.out _ _ ⟨(cf N18 ((cf N18 (hHeld.1)))), (cf N18 ((cf N18 (hHeld.2.1)))), (cf N26 ((cf N26 (hHeld.2.2.1)))), (cf N26 ((cf N26 (hHeld.2.2.2))))⟩ (fun hHeld => ?_)
                 clear hK K
                 refine one_ (i := 3) (N := none) (lb 4 15) rfl rfl (by kernel_rfl) (by decide) (fun K hK => ?_)
                 have s6 : w10.cell? ⟨g4, 0, none⟩ = some (.int .i64 0) := bc K4 0
                 have hfs175 := blk_frozen K4.out 0
                 have z_ := ns10 N7 N9 N11 N20 N28 N8 N10 N12 N19 N27
                 have s7 : w10.cell? ⟨g4, 1, none⟩ = some (.int .i64 0) := bc K4 1
                 have hfs176 := blk_frozen K4.out 1
                 have z_ := ns10 N7 N9 N11 N20 N28 N8 N10 N12 N19 N27
                 refine skip_ (w1 := ?_) (by rfl) rfl ?_ ?_
                 rotate_left
                 ·go_simp
                  rfl
                 refine hK.out _ _ ⟨(cf N20 ((cf N20 (hHeld.1)))), (cf N20 ((cf N20 (hHeld.2.1)))), (cf N28 ((cf N28 (hHeld.2.2.1)))), (cf N28 ((cf N28 (hHeld.2.2.2))))⟩ (fun hHeld => ?_)
                 clear hK K
                 refine done_ (by kernel_rfl) ?_
                 try go_wp2
                 refine bodyPost_ret (results_cc rfl _ _ g3 g4 33 33 #[.int .i64 x19, .int .i64 x20] #[.int .i64 x21, .int .i64 x22] (0, 0) (0, 0) _ _ rfl (by refine fa N11 ?_; refine fa N11 ?_; refine pf ?_; refine blk_put (cs := #[.int .i64 x19, .int .i64 0]) ?_ 1 _ rfl; refine pf ?_; refine blk_put (cs := #[.int .i64 0, .int .i64 0]) ?_ 0 _ rfl; exact Z K3) Try.underlying33 rfl (by kernel_rfl) rfl (by refine pf ?_; refine blk_put (cs := #[.int .i64 x21, .int .i64 0]) ?_ 1 _ rfl; refine pf ?_; refine blk_put (cs := #[.int .i64 0, .int .i64 0]) ?_ 0 _ rfl; refine fa N12 ?_; refine fa N12 ?_; exact Z K4) Try.underlying33 rfl (by kernel_rfl)) rfl ?_
                 exact ⟨ez, YA HB⟩
end
section
attribute [local go_sem] max2_int min2_int max_two min_two max_three min_three max_four min_four
attribute [local go_sem] Go.Proofs.YtdmadlfdibiejaaSet.isSome_setCell
def spec_RestHas.j0 : Nat → Int → Bool → Int → Int → Option (Bool)
 | 0, _, _, _, _ => none
 | k + 1, x1, x2, x3, x4 => if x2 = true then (some false) else (if x3 = 0 then (some (x1 == x4)) else ((spec_l1Mod.f x1 x3).bind fun t1 => (some (t1 == x4))))
def spec_RestHas.f (k : Nat) (a0_0 : Int) (a0_1 : Int) (a1 : Int) : Option (Bool) := (spec_RestOk.f a0_0 a0_1).bind fun t1 => (if t1 = true then ((spec_NumOk.f a1).bind fun t2 => (spec_RestHas.j0 k a1 (!t2) a0_0 a0_1)) else (spec_RestHas.j0 k a1 true a0_0 a0_1))
theorem spec_RestHas.mono_l : ∀ k, (∀ y0 y1 y2 y3, LeO (spec_RestHas.j0 k y0 y1 y2 y3) (spec_RestHas.j0 (k + 1) y0 y1 y2 y3))
 | 0 => fun _ _ _ _ r h => by simp [spec_RestHas.j0] at h
 | k + 1 => by
  have ih0 := spec_RestHas.mono_l k
  ·intro y0 y1 y2 y3
   unfold spec_RestHas.j0
   repeat' first | (with_reducible first | apply ih0 | apply LeO.refl | apply LeO.none | refine LeO.ite ?_ ?_ | refine LeO.bind ?_ (fun _ => ?_)) | apply ih0 | apply LeO.none | refine LeO.ite ?_ ?_ | refine LeO.bind ?_ (fun _ => ?_)
theorem spec_RestHas.mono : ∀ a0 a1 a2 k, LeO (spec_RestHas.f k a0 a1 a2) (spec_RestHas.f (k + 1) a0 a1 a2) := by
 intro a0 a1 a2 k
 have ih0 := spec_RestHas.mono_l k
 unfold spec_RestHas.f
 repeat' first | (with_reducible first | apply ih0 | apply LeO.refl | apply LeO.none | refine LeO.ite ?_ ?_ | refine LeO.bind ?_ (fun _ => ?_)) | apply ih0 | apply LeO.none | refine LeO.ite ?_ ?_ | refine LeO.bind ?_ (fun _ => ?_)
set_option maxHeartbeats 8000000 in
set_option maxRecDepth 100000 in
theorem spec_RestHas.calls (k : Nat) (a0_0 : Int) (a0_1 : Int) (a1 : Int) (r : Bool) (w : World) (h : spec_RestHas.f k a0_0 a0_1 a1 = some r) :
  Calls Try.prog 50 #[.agg #[.int .i64 a0_0, .int .i64 a0_1], .int .i64 a1] w fun e w' => e = .returned (.bool r) ∧ Below w.heap.size w w' := by
 have hu39 := Try.underlying39
 have HB := am (Below.refl w.heap.size w)
 have H : ((spec_RestOk.f a0_0 a0_1).bind fun t1 => (if t1 = true then ((spec_NumOk.f a1).bind fun t2 => (spec_RestHas.j0 k a1 (!t2) a0_0 a0_1)) else (spec_RestHas.j0 k a1 true a0_0 a0_1))) = some r := h
 clear h
 have C1 := am H
 clear H
 go_enter Try.func50, Try.ntmps50
 go_upto_region 1 with (first | ((with_reducible refine gate_dst (N := 2) rfl ?_); refine bxn 2 #[.int .i64 a0_0, .int .i64 a0_1] 39 HB fun g1 w1 K1 G1 hg hb => ?_; replace HB := am (below_step (YA HB) hb); clear hb hg))
 repeat (go_quiet (first | ((with_reducible refine gate_dst (N := 2) rfl ?_); refine bxn 2 #[.int .i64 a0_0, .int .i64 a0_1] 39 HB fun g1 w1 K1 G1 hg hb => ?_; replace HB := am (below_step (YA HB) hb); clear hb hg)); go_upto_region 1 with (first | ((with_reducible refine gate_dst (N := 2) rfl ?_); refine bxn 2 #[.int .i64 a0_0, .int .i64 a0_1] 39 HB fun g1 w1 K1 G1 hg hb => ?_; replace HB := am (below_step (YA HB) hb); clear hb hg)))
 (try simp only [Act.put, List.setIfInBounds_toArray, List.set_cons_zero, List.set_cons_succ])
 go_cut [12] (fun v1 wc => ∃ (kq : Nat) (x1 : Bool), v1 = .bool x1 ∧ Aside0 (spec_RestHas.j0 kq a1 x1 a0_0 a0_1 = some r) ∧ Aside0 (kq ≤ k) ∧ Bx2 wc g1 a0_0 a0_1 39 ∧ Aside0 (Below w.heap.size w wc))
 case first =>
  have H := C1.out
  clear C1
  obtain ⟨t1, A1, H⟩ := bd H
  try dsimp only at H
  by_cases c1 : t1 = true
  rotate_left
  ·replace c1 := Bool.eq_false_iff.mpr c1
   subst c1
   rw [if_neg ff] at H
   have H' := am H
   clear H
   have z_ := cB2 K1
   go_wp2_with (first | (go_at_call 24; (with_reducible refine (spec_RestOk.calls _ _ _ _ A1.out).mono ?_); rintro e w2 ⟨rfl, hb⟩; obtain ⟨K1, HB⟩ := bk1 K1 HB hb; (try clear hb)))
   repeat (go_quiet (first | (go_at_call 24; (with_reducible refine (spec_RestOk.calls _ _ _ _ A1.out).mono ?_); rintro e w2 ⟨rfl, hb⟩; obtain ⟨K1, HB⟩ := bk1 K1 HB hb; (try clear hb))); try go_wp2_with (first | (go_at_call 24; (with_reducible refine (spec_RestOk.calls _ _ _ _ A1.out).mono ?_); rintro e w2 ⟨rfl, hb⟩; obtain ⟨K1, HB⟩ := bk1 K1 HB hb; (try clear hb))))
   go_meet
   case rel => exact ⟨_, (true), ey, H', le0, ⟨Z K1⟩, ⟨YA HB⟩⟩
  subst c1
  rw [if_pos rfl] at H
  obtain ⟨t2, A2, H⟩ := bd H
  try dsimp only at H
  have H' := am H
  clear H
  have z_ := cB2 K1
  go_wp2_with (first | (go_at_call 24; (with_reducible refine (spec_RestOk.calls _ _ _ _ A1.out).mono ?_); rintro e w2 ⟨rfl, hb⟩; obtain ⟨K1, HB⟩ := bk1 K1 HB hb; (try clear hb)) | (go_at_call 48; (with_reducible refine (spec_NumOk.calls _ _ _ A2.out).mono ?_); rintro e w' ⟨rfl, ⟨nd, rfl⟩⟩; (try first | exact ⟨rfl, _, World.drewN_drewN _ _ _⟩ | exact ⟨rfl, _, Eq.trans (World.drewN_drewN _ _ _) (congrArg (World.drewN _) (Nat.add_assoc _ _ _))⟩)))
  repeat (go_quiet (first | (go_at_call 24; (with_reducible refine (spec_RestOk.calls _ _ _ _ A1.out).mono ?_); rintro e w2 ⟨rfl, hb⟩; obtain ⟨K1, HB⟩ := bk1 K1 HB hb; (try clear hb)) | (go_at_call 48; (with_reducible refine (spec_NumOk.calls _ _ _ A2.out).mono ?_); rintro e w' ⟨rfl, ⟨nd, rfl⟩⟩; (try first | exact ⟨rfl, _, World.drewN_drewN _ _ _⟩ | exact ⟨rfl, _, Eq.trans (World.drewN_drewN _ _ _) (congrArg (World.drewN _) (Nat.add_assoc _ _ _))⟩))); try go_wp2_with (first | (go_at_call 24; (with_reducible refine (spec_RestOk.calls _ _ _ _ A1.out).mono ?_); rintro e w2 ⟨rfl, hb⟩; obtain ⟨K1, HB⟩ := bk1 K1 HB hb; (try clear hb)) | (go_at_call 48; (with_reducible refine (spec_NumOk.calls _ _ _ A2.out).mono ?_); rintro e w' ⟨rfl, ⟨nd, rfl⟩⟩; (try first | exact ⟨rfl, _, World.drewN_drewN _ _ _⟩ | exact ⟨rfl, _, Eq.trans (World.drewN_drewN _ _ _) (congrArg (World.drewN _) (Nat.add_assoc _ _ _))⟩))))
  go_meet
  case rel => exact ⟨_, (!t2), ey, H', le0, ⟨Z K1⟩, ⟨YA HB⟩⟩
 case rest =>
  clear C1
  obtain ⟨kq, x1, rfl, HA, J1, K1, HB⟩ := hcut
  cases kq with
  | zero => exact absurd HA.out (by simp [spec_RestHas.j0])
  | succ k1 =>
   have H := HA.out
   clear HA
   simp only [spec_RestHas.j0] at H
   by_cases c1 : x1 = true
   ·subst c1
    rw [if_pos rfl] at H
    obtain rfl := Option.some.inj H
    go_wp2
    repeat (go_quiet (fail); try go_wp2)
    go_ret
    exact ⟨ez, YA HB⟩
   replace c1 := Bool.eq_false_iff.mpr c1
   subst c1
   rw [if_neg ff] at H
   by_cases c2 : a0_0 = 0
   ·rw [if_pos c2] at H
    have d1 := eT c2
    have d2 := nF c2
    clear c2
    obtain rfl := Option.some.inj H
    have z_ := cB2 K1
    go_wp2
    repeat (go_quiet (fail); try go_wp2)
    go_ret
    exact ⟨ez, YA HB⟩
   rw [if_neg c2] at H
   have d1 := eF c2
   have d2 := nT c2
   obtain ⟨t3, A1, H⟩ := bd H
   try dsimp only at H
   obtain rfl := Option.some.inj H
   have z_ := cB2 K1
   go_wp2_with (first | (go_at_call 34; (with_reducible refine (spec_l1Mod.calls _ _ _ _ A1.out).mono ?_); rintro e w' ⟨rfl, ⟨nd, rfl⟩⟩; (try first | exact ⟨rfl, _, World.drewN_drewN _ _ _⟩ | exact ⟨rfl, _, Eq.trans (World.drewN_drewN _ _ _) (congrArg (World.drewN _) (Nat.add_assoc _ _ _))⟩)))
   repeat (go_quiet (first | (go_at_call 34; (with_reducible refine (spec_l1Mod.calls _ _ _ _ A1.out).mono ?_); rintro e w' ⟨rfl, ⟨nd, rfl⟩⟩; (try first | exact ⟨rfl, _, World.drewN_drewN _ _ _⟩ | exact ⟨rfl, _, Eq.trans (World.drewN_drewN _ _ _) (congrArg (World.drewN _) (Nat.add_assoc _ _ _))⟩))); try go_wp2_with (first | (go_at_call 34; (with_reducible refine (spec_l1Mod.calls _ _ _ _ A1.out).mono ?_); rintro e w' ⟨rfl, ⟨nd, rfl⟩⟩; (try first | exact ⟨rfl, _, World.drewN_drewN _ _ _⟩ | exact ⟨rfl, _, Eq.trans (World.drewN_drewN _ _ _) (congrArg (World.drewN _) (Nat.add_assoc _ _ _))⟩))))
   go_ret
   exact ⟨ez, YA HB⟩

mutual
def spec_l9Gcd.j0 : Nat → Int → Int → Option (Int)
 | 0, _, _ => none
 | k + 1, x1, x2 => if x2 < 0 then (spec_l9Gcd.j1 k x1 (wrap64 (-x2))) else (spec_l9Gcd.j1 k x1 x2)
def spec_l9Gcd.j1 : Nat → Int → Int → Option (Int)
 | 0, _, _ => none
 | k + 1, x1, x2 => spec_l9Gcd.l0 k x1 x2
def spec_l9Gcd.l0 : Nat → Int → Int → Option (Int)
 | 0, _, _ => none
 | k + 1, x1, x2 => if x2 = 0 then (some x1) else (spec_l9Gcd.l0 k x2 (Int.tmod x1 x2))
end
def spec_l9Gcd.f (k : Nat) (a0 : Int) (a1 : Int) : Option (Int) := if a0 < 0 then (spec_l9Gcd.j0 k (wrap64 (-a0)) a1) else (spec_l9Gcd.j0 k a0 a1)
theorem spec_l9Gcd.mono_l : ∀ k, (∀ y0 y1, LeO (spec_l9Gcd.j0 k y0 y1) (spec_l9Gcd.j0 (k + 1) y0 y1)) ∧ (∀ y0 y1, LeO (spec_l9Gcd.j1 k y0 y1) (spec_l9Gcd.j1 (k + 1) y0 y1)) ∧ (∀ y0 y1, LeO (spec_l9Gcd.l0 k y0 y1) (spec_l9Gcd.l0 (k + 1) y0 y1))
 | 0 => ⟨fun _ _ r h => by simp [spec_l9Gcd.j0] at h, fun _ _ r h => by simp [spec_l9Gcd.j1] at h, fun _ _ r h => by simp [spec_l9Gcd.l0] at h⟩
 | k + 1 => by
  obtain ⟨ih0, ih1, ih2⟩ := spec_l9Gcd.mono_l k
  refine ⟨?_, ?_, ?_⟩ <;> (intros; (first | unfold spec_l9Gcd.j0 | unfold spec_l9Gcd.j1 | unfold spec_l9Gcd.l0); repeat' first | (with_reducible first | apply ih0 | apply ih1 | apply ih2 | apply LeO.refl | apply LeO.none | refine LeO.ite ?_ ?_ | refine LeO.bind ?_ (fun _ => ?_)) | apply ih0 | apply ih1 | apply ih2 | apply LeO.none | refine LeO.ite ?_ ?_ | refine LeO.bind ?_ (fun _ => ?_))
theorem spec_l9Gcd.mono : ∀ a0 a1 k, LeO (spec_l9Gcd.f k a0 a1) (spec_l9Gcd.f (k + 1) a0 a1) := by
 intro a0 a1 k
 obtain ⟨ih0, ih1, ih2⟩ := spec_l9Gcd.mono_l k
 unfold spec_l9Gcd.f
 repeat' first | (with_reducible first | apply ih0 | apply ih1 | apply ih2 | apply LeO.refl | apply LeO.none | refine LeO.ite ?_ ?_ | refine LeO.bind ?_ (fun _ => ?_)) | apply ih0 | apply ih1 | apply ih2 | apply LeO.none | refine LeO.ite ?_ ?_ | refine LeO.bind ?_ (fun _ => ?_)
set_option maxHeartbeats 8000000 in
set_option maxRecDepth 100000 in
theorem spec_l9Gcd.calls (k : Nat) (a0 : Int) (a1 : Int) (r : Int) (w : World) (h : spec_l9Gcd.f k a0 a1 = some r) :
  Calls Try.prog 51 #[.int .i64 a0, .int .i64 a1] w fun e w' => e = .returned (.int .i64 r) ∧ Drawn0 w w' := by
 have H : (if a0 < 0 then (spec_l9Gcd.j0 k (wrap64 (-a0)) a1) else (spec_l9Gcd.j0 k a0 a1)) = some r := h
 clear h
 have C1 := am H
 clear H
 go_enter Try.func51, Try.ntmps51
 go_upto_if 7 with (fail)
 go_cut [0] (fun v1 wc => ∃ (kq : Nat) (x1 : Int), v1 = .int .i64 x1 ∧ Aside0 (spec_l9Gcd.j0 kq x1 a1 = some r) ∧ Aside0 (kq ≤ k) ∧ Drawn0 w wc)
 case first =>
  have H := C1.out
  clear C1
  by_cases c1 : a0 < 0
  rotate_left
  ·rw [if_neg c1] at H
   have d1 := dF c1
   clear c1
   (first | rw [d1] | (simp only [i64_w, i32_w]; rw [d1]) | skip)
   have H' := am H
   clear H
   go_wp2
   go_meet
   case rel => exact ⟨_, (a0), ey, H', le0, by repeat (first | exact Drawn0.refl _ | apply Drawn0.step)⟩
  rw [if_pos c1] at H
  have d1 := dT c1
  clear c1
  (first | rw [d1] | (simp only [i64_w, i32_w]; rw [d1]) | skip)
  have H' := am H
  clear H
  go_wp2
  go_meet
  case rel => exact ⟨_, (wrap64 (-a0)), ey, H', le0, by repeat (first | exact Drawn0.refl _ | apply Drawn0.step)⟩
 case rest =>
  clear C1
  obtain ⟨kq, x1, rfl, HA, J1, ⟨mc2, rfl⟩⟩ := hcut
  cases kq with
  | zero => exact absurd HA.out (by simp [spec_l9Gcd.j0])
  | succ k1 =>
   have H := HA.out
   clear HA
   simp only [spec_l9Gcd.j0] at H
   have C2 := am H
   clear H
   go_upto_if 11 with (fail)
   go_cut [1] (fun v2 wc => ∃ (kq : Nat) (x2 : Int), v2 = .int .i64 x2 ∧ Aside0 (spec_l9Gcd.j1 kq x1 x2 = some r) ∧ Aside0 (kq ≤ k1) ∧ Drawn0 w wc)
   case first =>
    have H := C2.out
    clear C2
    by_cases c1 : a1 < 0
    rotate_left
    ·rw [if_neg c1] at H
     have d1 := dF c1
     clear c1
     (first | rw [d1] | (simp only [i64_w, i32_w]; rw [d1]) | skip)
     have H' := am H
     clear H
     go_wp2
     go_meet
     case rel => exact ⟨_, (a1), ey, H', le1 J1, by repeat (first | exact Drawn0.refl _ | apply Drawn0.step)⟩
    rw [if_pos c1] at H
    have d1 := dT c1
    clear c1
    (first | rw [d1] | (simp only [i64_w, i32_w]; rw [d1]) | skip)
    have H' := am H
    clear H
    go_wp2
    go_meet
    case rel => exact ⟨_, (wrap64 (-a1)), ey, H', le1 J1, by repeat (first | exact Drawn0.refl _ | apply Drawn0.step)⟩
   case rest =>
    clear C2
    obtain ⟨kq, x2, rfl, HA, J2, ⟨mc4, rfl⟩⟩ := hcut
    cases kq with
    | zero => exact absurd HA.out (by simp [spec_l9Gcd.j1])
    | succ k2 =>
     have H := HA.out
     clear HA
     simp only [spec_l9Gcd.j1] at H
     have H' := am H
     clear H
     go_wp2
     go_loopg [0, 1] k2 (fun kq v1 v2 w' => ∃ (x3 : Int) (x4 : Int), v1 = .int .i64 x3 ∧ v2 = .int .i64 x4 ∧ Aside0 (spec_l9Gcd.l0 kq x3 x4 = some r) ∧ Aside0 (kq ≤ k2) ∧ Drawn0 w w')
     case atStart => exact ⟨(x1), (x2), ey, ey, H', ⟨Nat.le_refl _⟩, by repeat (first | exact Drawn0.refl _ | apply Drawn0.step)⟩
     case round =>
      clear H'
      obtain ⟨x3, x4, rfl, rfl, HA, HK3, ⟨m3, rfl⟩⟩ := hrel
      cases gk with
      | zero => exact absurd HA.out (by simp [spec_l9Gcd.l0])
      | succ k3 =>
       have H := HA.out
       clear HA
       simp only [spec_l9Gcd.l0] at H
       by_cases c1 : x4 = 0
       ·rw [if_pos c1] at H
        have d1 := eT c1
        have d2 := nF c1
        clear c1
        obtain rfl := Option.some.inj H
        go_wp2
        go_ret
        exact ⟨by first | rfl | (simp; done) | (simp [*]; done), by repeat (first | exact Drawn0.refl _ | apply Drawn0.step)⟩
       rw [if_neg c1] at H
       have d1 := eF c1
       have d2 := nT c1
       have H' := am H
       clear H
       go_wp2
       go_roundg k3
       case measure => have := J1.out; have := J2.out; have := HK3.out; omega
       case rel => exact ⟨(x4), (Int.tmod x3 x4), ey, ey, H', ⟨by have := J1.out; have := J2.out; have := HK3.out; omega⟩, by repeat (first | exact Drawn0.refl _ | apply Drawn0.step)⟩
end
section
attribute [local go_sem] max2_int min2_int max_two min_two max_three min_three max_four min_four
attribute [local go_sem] Go.Proofs.YtdmadlfdibiejaaSet.isSome_setCell
mutual
def spec_RestMeet.j0 : Nat → Bool → Int → Int → Int → Int → Option (Int × Int × Bool)
 | 0, _, _, _, _, _ => none
 | k + 1, x1, x2, x3, x4, x5 => if x1 = true then (some (0, 0, false)) else (if x2 = 0 then ((spec_RestHas.f k x4 x5 x3).bind fun t1 => (if t1 = true then (some (x2, x3, true)) else (some (0, 0, false)))) else (if x4 = 0 then ((spec_RestMeet.f k x4 x5 x2 x3).bind fun u1 => (some (u1.1, u1.2.1, u1.2.2))) else ((spec_l9Gcd.f k x2 x4).bind fun t2 => ((spec_l1Mod.f (wrap64 (x3 - x5)) t2).bind fun t3 => (if t3 = 0 then (if t2 = 0 then (none) else (if (wrap64 ((wrap64 (Int.tdiv x2 t2)) * x4)) > 65536 then (if x4 > x2 then (some (x4, x5, true)) else (some (x2, x3, true))) else (spec_RestMeet.l0 k (wrap64 ((wrap64 (Int.tdiv x2 t2)) * x4)) x3 x2 x3 x4 x5))) else (some (0, 0, false)))))))
def spec_RestMeet.l0 : Nat → Int → Int → Int → Int → Int → Int → Option (Int × Int × Bool)
 | 0, _, _, _, _, _, _ => none
 | k + 1, x1, x2, x3, x4, x5, x6 => (spec_l1Mod.f x2 x5).bind fun t1 => (if t1 = x6 then (some (x1, x2, true)) else (spec_RestMeet.l0 k x1 (wrap64 (x2 + x3)) x3 x4 x5 x6))
def spec_RestMeet.f : Nat → Int → Int → Int → Int → Option (Int × Int × Bool)
 | 0, _, _, _, _ => none
 | k + 1, a0_0, a0_1, a1_0, a1_1 => (spec_RestOk.f a0_0 a0_1).bind fun t1 => (if t1 = true then ((spec_RestOk.f a1_0 a1_1).bind fun t2 => (spec_RestMeet.j0 k (!t2) a0_0 a0_1 a1_0 a1_1)) else (spec_RestMeet.j0 k true a0_0 a0_1 a1_0 a1_1))
end
theorem spec_RestMeet.mono_l : ∀ k, (∀ y0 y1 y2 y3, LeO (spec_RestMeet.f k y0 y1 y2 y3) (spec_RestMeet.f (k + 1) y0 y1 y2 y3)) ∧ (∀ y0 y1 y2 y3 y4, LeO (spec_RestMeet.j0 k y0 y1 y2 y3 y4) (spec_RestMeet.j0 (k + 1) y0 y1 y2 y3 y4)) ∧ (∀ y0 y1 y2 y3 y4 y5, LeO (spec_RestMeet.l0 k y0 y1 y2 y3 y4 y5) (spec_RestMeet.l0 (k + 1) y0 y1 y2 y3 y4 y5))
 | 0 => ⟨fun _ _ _ _ r h => by simp [spec_RestMeet.f] at h, fun _ _ _ _ _ r h => by simp [spec_RestMeet.j0] at h, fun _ _ _ _ _ _ r h => by simp [spec_RestMeet.l0] at h⟩
 | k + 1 => by
  obtain ⟨ih0, ih1, ih2⟩ := spec_RestMeet.mono_l k
  refine ⟨?_, ?_, ?_⟩ <;> (intros; (first | unfold spec_RestMeet.f | unfold spec_RestMeet.j0 | unfold spec_RestMeet.l0); repeat' first | (with_reducible first | apply ih0 | apply ih1 | apply ih2 | apply spec_RestHas.mono | apply spec_l9Gcd.mono | apply LeO.refl | apply LeO.none | refine LeO.ite ?_ ?_ | refine LeO.bind ?_ (fun _ => ?_)) | apply ih0 | apply ih1 | apply ih2 | apply spec_RestHas.mono | apply spec_l9Gcd.mono | apply LeO.none | refine LeO.ite ?_ ?_ | refine LeO.bind ?_ (fun _ => ?_))
theorem spec_RestMeet.mono : ∀ a0 a1 a2 a3 k, LeO (spec_RestMeet.f k a0 a1 a2 a3) (spec_RestMeet.f (k + 1) a0 a1 a2 a3) := by
 intro a0 a1 a2 a3 k
 obtain ⟨ih0, ih1, ih2⟩ := spec_RestMeet.mono_l k
 exact ih0 a0 a1 a2 a3
set_option maxHeartbeats 8000000 in
set_option maxRecDepth 100000 in
theorem spec_RestMeet.calls (k : Nat) : ∀ (a0_0 : Int) (a0_1 : Int) (a1_0 : Int) (a1_1 : Int) (r1 : Int) (r2 : Int) (r3 : Bool) (w : World) (h : spec_RestMeet.f k a0_0 a0_1 a1_0 a1_1 = some (r1, r2, r3)),
  Calls Try.prog 35 #[.agg #[.int .i64 a0_0, .int .i64 a0_1], .agg #[.int .i64 a1_0, .int .i64 a1_1]] w fun e w' => e = .returned (.tuple #[.agg #[.int .i64 r1, .int .i64 r2], .bool r3]) ∧ Below w.heap.size w w' := by
 induction k using Nat.strongRecOn with
 | _ k ih =>
 intro a0_0 a0_1 a1_0 a1_1 r1 r2 r3 w h
 cases k with
 | zero => exact absurd h (by simp [spec_RestMeet.f])
 | succ k =>
 simp only [spec_RestMeet.f] at h
 have hu39 := Try.underlying39
 have HB := am (Below.refl w.heap.size w)
 have H : ((spec_RestOk.f a0_0 a0_1).bind fun t1 => (if t1 = true then ((spec_RestOk.f a1_0 a1_1).bind fun t2 => (spec_RestMeet.j0 k (!t2) a0_0 a0_1 a1_0 a1_1)) else (spec_RestMeet.j0 k true a0_0 a0_1 a1_0 a1_1))) = some (r1, r2, r3) := h
 clear h
 have C1 := am H
 clear H
 go_enter Try.func35, Try.ntmps35
 go_upto_region 1 with (first | ((with_reducible refine gate_dst (N := 2) rfl ?_); refine bxn 2 #[.int .i64 a0_0, .int .i64 a0_1] 39 HB fun g1 w1 K1 G1 hg hb => ?_; replace HB := am (below_step (YA HB) hb); clear hb hg) | ((with_reducible refine gate_dst (N := 3) rfl ?_); refine bxn 3 #[.int .i64 a1_0, .int .i64 a1_1] 39 HB fun g2 w2 K2 G2 hg hb => ?_; obtain ⟨N1,N2⟩ := ne_ hg K1; obtain ⟨K1, HB⟩ := bk1 K1 HB hb; clear hb hg) | ((with_reducible refine gate_dst (N := 4) rfl ?_); refine bxn 4 #[.int .i64 0, .int .i64 0] 39 HB fun g3 w3 K3 G3 hg hb => ?_; obtain ⟨N3,N4⟩ := ne_ hg K1; obtain ⟨N5,N6⟩ := ne_ hg K2; obtain ⟨K1, K2, HB⟩ := bk2 K1 K2 HB hb; clear hb hg))
 repeat (go_quiet (first | ((with_reducible refine gate_dst (N := 2) rfl ?_); refine bxn 2 #[.int .i64 a0_0, .int .i64 a0_1] 39 HB fun g1 w1 K1 G1 hg hb => ?_; replace HB := am (below_step (YA HB) hb); clear hb hg) | ((with_reducible refine gate_dst (N := 3) rfl ?_); refine bxn 3 #[.int .i64 a1_0, .int .i64 a1_1] 39 HB fun g2 w2 K2 G2 hg hb => ?_; obtain ⟨N1,N2⟩ := ne_ hg K1; obtain ⟨K1, HB⟩ := bk1 K1 HB hb; clear hb hg) | ((with_reducible refine gate_dst (N := 4) rfl ?_); refine bxn 4 #[.int .i64 0, .int .i64 0] 39 HB fun g3 w3 K3 G3 hg hb => ?_; obtain ⟨N3,N4⟩ := ne_ hg K1; obtain ⟨N5,N6⟩ := ne_ hg K2; obtain ⟨K1, K2, HB⟩ := bk2 K1 K2 HB hb; clear hb hg)); go_upto_region 1 with (first | ((with_reducible refine gate_dst (N := 2) rfl ?_); refine bxn 2 #[.int .i64 a0_0, .int .i64 a0_1] 39 HB fun g1 w1 K1 G1 hg hb => ?_; replace HB := am (below_step (YA HB) hb); clear hb hg) | ((with_reducible refine gate_dst (N := 3) rfl ?_); refine bxn 3 #[.int .i64 a1_0, .int .i64 a1_1] 39 HB fun g2 w2 K2 G2 hg hb => ?_; obtain ⟨N1,N2⟩ := ne_ hg K1; obtain ⟨K1, HB⟩ := bk1 K1 HB hb; clear hb hg) | ((with_reducible refine gate_dst (N := 4) rfl ?_); refine bxn 4 #[.int .i64 0, .int .i64 0] 39 HB fun g3 w3 K3 G3 hg hb => ?_; obtain ⟨N3,N4⟩ := ne_ hg K1; obtain ⟨N5,N6⟩ := ne_ hg K2; obtain ⟨K1, K2, HB⟩ := bk2 K1 K2 HB hb; clear hb hg)))
 (try simp only [Act.put, List.setIfInBounds_toArray, List.set_cons_zero, List.set_cons_succ])
 go_cut [16] (fun v1 wc => ∃ (kq : Nat) (x1 : Bool), v1 = .bool x1 ∧ Aside0 (spec_RestMeet.j0 kq x1 a0_0 a0_1 a1_0 a1_1 = some (r1, r2, r3)) ∧ Aside0 (kq ≤ k) ∧ Bx2 wc g1 a0_0 a0_1 39 ∧ Bx2 wc g2 a1_0 a1_1 39 ∧ Bx2 wc g3 0 0 39 ∧ Aside0 (Below w.heap.size w wc))
 case first =>
  have H := C1.out
  clear C1
  obtain ⟨t1, A1, H⟩ := bd H
  try dsimp only at H
  by_cases c1 : t1 = true
  rotate_left
  ·replace c1 := Bool.eq_false_iff.mpr c1
   subst c1
   rw [if_neg ff] at H
   have H' := am H
   clear H
   have z_ := ns2 N1 N3
   have z_ := cB2 K1
   go_wp2_with (first | (go_at_call 24; (with_reducible refine (spec_RestOk.calls _ _ _ _ A1.out).mono ?_); rintro e w4 ⟨rfl, hb⟩; obtain ⟨K1, K2, K3, HB⟩ := bk3 K1 K2 K3 HB hb; (try clear hb)))
   repeat (go_quiet (first | (go_at_call 24; (with_reducible refine (spec_RestOk.calls _ _ _ _ A1.out).mono ?_); rintro e w4 ⟨rfl, hb⟩; obtain ⟨K1, K2, K3, HB⟩ := bk3 K1 K2 K3 HB hb; (try clear hb))); try go_wp2_with (first | (go_at_call 24; (with_reducible refine (spec_RestOk.calls _ _ _ _ A1.out).mono ?_); rintro e w4 ⟨rfl, hb⟩; obtain ⟨K1, K2, K3, HB⟩ := bk3 K1 K2 K3 HB hb; (try clear hb))))
   go_meet
   case rel => exact ⟨_, (true), ey, H', le0, ⟨Z K1⟩, ⟨Z K2⟩, ⟨Z K3⟩, ⟨YA HB⟩⟩
  subst c1
  rw [if_pos rfl] at H
  obtain ⟨t2, A2, H⟩ := bd H
  try dsimp only at H
  have H' := am H
  clear H
  have z_ := ns2 N1 N3
  have z_ := cB2 K1
  go_wp2_with (first | (go_at_call 24; (with_reducible refine (spec_RestOk.calls _ _ _ _ A1.out).mono ?_); rintro e w4 ⟨rfl, hb⟩; obtain ⟨K1, K2, K3, HB⟩ := bk3 K1 K2 K3 HB hb; (try clear hb); have z_ := ns1 N5; have z_ := cB2 K2) | (go_at_call 24; (with_reducible refine (spec_RestOk.calls _ _ _ _ A2.out).mono ?_); rintro e w5 ⟨rfl, hb⟩; obtain ⟨K1, K2, K3, HB⟩ := bk3 K1 K2 K3 HB hb; (try clear hb)))
  try have z1 := N5.out
  try have z2 := N6.out
  try have z3 := bc K2 0
  try have z4 := bc K2 1
  try have z5 := blk_frozen K2.out 0
  try have z6 := blk_frozen K2.out 1
  repeat (go_quiet (first | (go_at_call 24; (with_reducible refine (spec_RestOk.calls _ _ _ _ A1.out).mono ?_); rintro e w4 ⟨rfl, hb⟩; obtain ⟨K1, K2, K3, HB⟩ := bk3 K1 K2 K3 HB hb; (try clear hb); (try (have z_ := ns1 N5; have z_ := cB2 K2))) | (go_at_call 24; (with_reducible refine (spec_RestOk.calls _ _ _ _ A2.out).mono ?_); rintro e w5 ⟨rfl, hb⟩; obtain ⟨K1, K2, K3, HB⟩ := bk3 K1 K2 K3 HB hb; (try clear hb))); try go_wp2_with (first | (go_at_call 24; (with_reducible refine (spec_RestOk.calls _ _ _ _ A1.out).mono ?_); rintro e w4 ⟨rfl, hb⟩; obtain ⟨K1, K2, K3, HB⟩ := bk3 K1 K2 K3 HB hb; (try clear hb); (try (have z_ := ns1 N5; have z_ := cB2 K2))) | (go_at_call 24; (with_reducible refine (spec_RestOk.calls _ _ _ _ A2.out).mono ?_); rintro e w5 ⟨rfl, hb⟩; obtain ⟨K1, K2, K3, HB⟩ := bk3 K1 K2 K3 HB hb; (try clear hb))))
  go_meet
  case rel => exact ⟨_, (!t2), ey, H', le0, ⟨Z K1⟩, ⟨Z K2⟩, ⟨Z K3⟩, ⟨YA HB⟩⟩
 case rest =>
  clear C1
  obtain ⟨kq, x1, rfl, HA, J1, K1, K2, K3, HB⟩ := hcut
  cases kq with
  | zero => exact absurd HA.out (by simp [spec_RestMeet.j0])
  | succ k1 =>
   have H := HA.out
   clear HA
   simp only [spec_RestMeet.j0] at H
   by_cases c1 : x1 = true
   ·subst c1
    rw [if_pos rfl] at H
    simp only [Option.some.injEq, Prod.mk.injEq] at H
    obtain ⟨rfl, rfl, rfl⟩ := H
    have z_ := ns2 N4 N6
    have z_ := cB2 K3
    go_wp2
    repeat (go_quiet (fail); try go_wp2)
    refine bodyPost_ret (results_ct rfl _ _ g3 39 #[.int .i64 0, .int .i64 0] (0, 0) _ rfl (by refine pf ?_; refine blk_put (cs := #[.int .i64 0, .int .i64 0]) ?_ 1 _ rfl; refine pf ?_; refine blk_put (cs := #[.int .i64 0, .int .i64 0]) ?_ 0 _ rfl; exact Z K3) Try.underlying39 rfl (by kernel_rfl)) rfl ?_
    exact ⟨ez, YA HB⟩
   replace c1 := Bool.eq_false_iff.mpr c1
   subst c1
   rw [if_neg ff] at H
   by_cases c2 : a0_0 = 0
   ·rw [if_pos c2] at H
    have d1 := eT c2
    have d2 := nF c2
    clear c2
    obtain ⟨t3, A1, H⟩ := bd H
    try dsimp only at H
    by_cases c3 : t3 = true
    rotate_left
    ·replace c3 := Bool.eq_false_iff.mpr c3
     subst c3
     rw [if_neg ff] at H
     simp only [Option.some.injEq, Prod.mk.injEq] at H
     obtain ⟨rfl, rfl, rfl⟩ := H
     have z_ := ns3 N1 N3 N5
     have z_ := cB2 K1
     have z_ := cB2 K2
     go_wp2_with (first | (go_at_call 50; (with_reducible refine (spec_RestHas.calls _ _ _ _ _ _ A1.out).mono ?_); rintro e w4 ⟨rfl, hb⟩; obtain ⟨K1, K2, K3, HB⟩ := bk3 K1 K2 K3 HB hb; (try clear hb); have z_ := cB2 K3))
     try have z1 := bc K3 0
     try have z2 := bc K3 1
     try have z3 := blk_frozen K3.out 0
     try have z4 := blk_frozen K3.out 1
     repeat (go_quiet (first | (go_at_call 50; (with_reducible refine (spec_RestHas.calls _ _ _ _ _ _ A1.out).mono ?_); rintro e w4 ⟨rfl, hb⟩; obtain ⟨K1, K2, K3, HB⟩ := bk3 K1 K2 K3 HB hb; (try clear hb); (try (have z_ := cB2 K3)))); try go_wp2_with (first | (go_at_call 50; (with_reducible refine (spec_RestHas.calls _ _ _ _ _ _ A1.out).mono ?_); rintro e w4 ⟨rfl, hb⟩; obtain ⟨K1, K2, K3, HB⟩ := bk3 K1 K2 K3 HB hb; (try clear hb); (try (have z_ := cB2 K3)))))
     refine bodyPost_ret (results_ct rfl _ _ g3 39 #[.int .i64 0, .int .i64 0] (0, 0) _ rfl (by refine pf ?_; refine blk_put (cs := #[.int .i64 0, .int .i64 0]) ?_ 1 _ rfl; refine pf ?_; refine blk_put (cs := #[.int .i64 0, .int .i64 0]) ?_ 0 _ rfl; exact Z K3) Try.underlying39 rfl (by kernel_rfl)) rfl ?_
     exact ⟨ez, YA HB⟩
    subst c3
    rw [if_pos rfl] at H
    simp only [Option.some.injEq, Prod.mk.injEq] at H
    obtain ⟨rfl, rfl, rfl⟩ := H
    have z_ := ns3 N1 N3 N5
    have z_ := cB2 K1
    have z_ := cB2 K2
    go_wp2_with (first | (go_at_call 50; (with_reducible refine (spec_RestHas.calls _ _ _ _ _ _ A1.out).mono ?_); rintro e w4 ⟨rfl, hb⟩; obtain ⟨K1, K2, K3, HB⟩ := bk3 K1 K2 K3 HB hb; (try clear hb); have z_ := cB2 K1; have z_ := cB2 K3))
    try have z1 := bc K1 0
    try have z2 := bc K1 1
    try have z3 := blk_frozen K1.out 0
    try have z4 := blk_frozen K1.out 1
    try have z5 := bc K3 0
    try have z6 := bc K3 1
    try have z7 := blk_frozen K3.out 0
    try have z8 := blk_frozen K3.out 1
    repeat (go_quiet (first | (go_at_call 50; (with_reducible refine (spec_RestHas.calls _ _ _ _ _ _ A1.out).mono ?_); rintro e w4 ⟨rfl, hb⟩; obtain ⟨K1, K2, K3, HB⟩ := bk3 K1 K2 K3 HB hb; (try clear hb); (try (have z_ := cB2 K1; have z_ := cB2 K3)))); try go_wp2_with (first | (go_at_call 50; (with_reducible refine (spec_RestHas.calls _ _ _ _ _ _ A1.out).mono ?_); rintro e w4 ⟨rfl, hb⟩; obtain ⟨K1, K2, K3, HB⟩ := bk3 K1 K2 K3 HB hb; (try clear hb); (try (have z_ := cB2 K1; have z_ := cB2 K3)))))
    refine bodyPost_ret (results_ct rfl _ _ g3 39 #[.int .i64 a0_0, .int .i64 a0_1] (0, 0) _ rfl (by refine pf ?_; refine blk_put (cs := #[.int .i64 a0_0, .int .i64 0]) ?_ 1 _ rfl; refine pf ?_; refine blk_put (cs := #[.int .i64 0, .int .i64 0]) ?_ 0 _ rfl; exact Z K3) Try.underlying39 rfl (by kernel_rfl)) rfl ?_
    exact ⟨ez, YA HB⟩
   rw [if_neg c2] at H
   have d1 := eF c2
   have d2 := nT c2
   by_cases c3 : a1_0 = 0
   ·rw [if_pos c3] at H
    have d3 := eT c3
    have d4 := nF c3
    clear c3
    obtain ⟨⟨t3, t4, t5⟩, A1, H⟩ := bd H
    try dsimp only at H
    simp only [Option.some.injEq, Prod.mk.injEq] at H
    obtain ⟨rfl, rfl, rfl⟩ := H
    have z_ := ns3 N1 N3 N5
    have z_ := cB2 K1
    have z_ := cB2 K2
    go_wp2_with (first | (go_at_call 35; (with_reducible refine (ih k1 (by have := J1.out; omega) a1_0 a1_1 a0_0 a0_1 t3 t4 t5 _ A1.out).mono ?_); rintro e w4 ⟨rfl, hb⟩; obtain ⟨K1, K2, K3, HB⟩ := bk3 K1 K2 K3 HB hb; (try clear hb); have z_ := cB2 K3))
    try have z1 := bc K3 0
    try have z2 := bc K3 1
    try have z3 := blk_frozen K3.out 0
    try have z4 := blk_frozen K3.out 1
    repeat (go_quiet (first | (go_at_call 35; (with_reducible refine (ih k1 (by have := J1.out; omega) a1_0 a1_1 a0_0 a0_1 t3 t4 t5 _ A1.out).mono ?_); rintro e w4 ⟨rfl, hb⟩; obtain ⟨K1, K2, K3, HB⟩ := bk3 K1 K2 K3 HB hb; (try clear hb); (try (have z_ := cB2 K3)))); try go_wp2_with (first | (go_at_call 35; (with_reducible refine (ih k1 (by have := J1.out; omega) a1_0 a1_1 a0_0 a0_1 t3 t4 t5 _ A1.out).mono ?_); rintro e w4 ⟨rfl, hb⟩; obtain ⟨K1, K2, K3, HB⟩ := bk3 K1 K2 K3 HB hb; (try clear hb); (try (have z_ := cB2 K3)))))
    refine bodyPost_ret (results_ct rfl _ _ g3 39 #[.int .i64 t3, .int .i64 t4] (0, 0) _ rfl (by refine pf ?_; refine blk_put (cs := #[.int .i64 t3, .int .i64 0]) ?_ 1 _ rfl; refine pf ?_; refine blk_put (cs := #[.int .i64 0, .int .i64 0]) ?_ 0 _ rfl; exact Z K3) Try.underlying39 rfl (by kernel_rfl)) rfl ?_
    exact ⟨ez, YA HB⟩
   rw [if_neg c3] at H
   have d3 := eF c3
   have d4 := nT c3
   obtain ⟨t3, A1, H⟩ := bd H
   try dsimp only at H
   obtain ⟨t4, A2, H⟩ := bd H
   try dsimp only at H
   by_cases c4 : t4 = 0
   rotate_left
   ·rw [if_neg c4] at H
    have d5 := eF c4
    have d6 := nT c4
    simp only [Option.some.injEq, Prod.mk.injEq] at H
    obtain ⟨rfl, rfl, rfl⟩ := H
    have z_ := ns3 N1 N3 N5
    have z_ := cB2 K1
    have z_ := cB2 K2
    go_wp2_with (first | (go_at_call 51; (with_reducible refine (spec_l9Gcd.calls _ _ _ _ _ A1.out).mono ?_); rintro e w' ⟨rfl, ⟨nd, rfl⟩⟩; (try first | exact ⟨rfl, _, World.drewN_drewN _ _ _⟩ | exact ⟨rfl, _, Eq.trans (World.drewN_drewN _ _ _) (congrArg (World.drewN _) (Nat.add_assoc _ _ _))⟩)) | (go_at_call 34; (with_reducible refine (spec_l1Mod.calls _ _ _ _ A2.out).mono ?_); rintro e w' ⟨rfl, ⟨nd, rfl⟩⟩; (try first | exact ⟨rfl, _, World.drewN_drewN _ _ _⟩ | exact ⟨rfl, _, Eq.trans (World.drewN_drewN _ _ _) (congrArg (World.drewN _) (Nat.add_assoc _ _ _))⟩); have z_ := cB2 K3))
    try have z1 := bc K3 0
    try have z2 := bc K3 1
    try have z3 := blk_frozen K3.out 0
    try have z4 := blk_frozen K3.out 1
    repeat (go_quiet (first | (go_at_call 51; (with_reducible refine (spec_l9Gcd.calls _ _ _ _ _ A1.out).mono ?_); rintro e w' ⟨rfl, ⟨nd, rfl⟩⟩; (try first | exact ⟨rfl, _, World.drewN_drewN _ _ _⟩ | exact ⟨rfl, _, Eq.trans (World.drewN_drewN _ _ _) (congrArg (World.drewN _) (Nat.add_assoc _ _ _))⟩)) | (go_at_call 34; (with_reducible refine (spec_l1Mod.calls _ _ _ _ A2.out).mono ?_); rintro e w' ⟨rfl, ⟨nd, rfl⟩⟩; (try first | exact ⟨rfl, _, World.drewN_drewN _ _ _⟩ | exact ⟨rfl, _, Eq.trans (World.drewN_drewN _ _ _) (congrArg (World.drewN _) (Nat.add_assoc _ _ _))⟩); (try (have z_ := cB2 K3)))); try go_wp2_with (first | (go_at_call 51; (with_reducible refine (spec_l9Gcd.calls _ _ _ _ _ A1.out).mono ?_); rintro e w' ⟨rfl, ⟨nd, rfl⟩⟩; (try first | exact ⟨rfl, _, World.drewN_drewN _ _ _⟩ | exact ⟨rfl, _, Eq.trans (World.drewN_drewN _ _ _) (congrArg (World.drewN _) (Nat.add_assoc _ _ _))⟩)) | (go_at_call 34; (with_reducible refine (spec_l1Mod.calls _ _ _ _ A2.out).mono ?_); rintro e w' ⟨rfl, ⟨nd, rfl⟩⟩; (try first | exact ⟨rfl, _, World.drewN_drewN _ _ _⟩ | exact ⟨rfl, _, Eq.trans (World.drewN_drewN _ _ _) (congrArg (World.drewN _) (Nat.add_assoc _ _ _))⟩); (try (have z_ := cB2 K3)))))
    refine bodyPost_ret (results_ct rfl _ _ g3 39 #[.int .i64 0, .int .i64 0] (0, 0) _ rfl (by refine pf ?_; refine blk_put (cs := #[.int .i64 0, .int .i64 0]) ?_ 1 _ rfl; refine pf ?_; refine blk_put (cs := #[.int .i64 0, .int .i64 0]) ?_ 0 _ rfl; exact Z K3) Try.underlying39 rfl (by kernel_rfl)) rfl ?_
    exact ⟨ez, YA HB⟩
   rw [if_pos c4] at H
   have d5 := eT c4
   have d6 := nF c4
   clear c4
   by_cases c5 : t3 = 0
   ·rw [if_pos c5] at H
    exact absurd H (by simp)
   rw [if_neg c5] at H
   have d7 := eF c5
   have d8 := nT c5
   by_cases c6 : (wrap64 ((wrap64 (Int.tdiv a0_0 t3)) * a1_0)) > 65536
   ·rw [if_pos c6] at H
    have d9 := dT c6
    clear c6
    by_cases c7 : a1_0 > a0_0
    ·rw [if_pos c7] at H
     have d10 := dT c7
     clear c7
     simp only [Option.some.injEq, Prod.mk.injEq] at H
     obtain ⟨rfl, rfl, rfl⟩ := H
     have z_ := ns3 N1 N3 N5
     have z_ := cB2 K1
     have z_ := cB2 K2
     go_wp2_with (first | (go_at_call 51; (with_reducible refine (spec_l9Gcd.calls _ _ _ _ _ A1.out).mono ?_); rintro e w' ⟨rfl, ⟨nd, rfl⟩⟩; (try first | exact ⟨rfl, _, World.drewN_drewN _ _ _⟩ | exact ⟨rfl, _, Eq.trans (World.drewN_drewN _ _ _) (congrArg (World.drewN _) (Nat.add_assoc _ _ _))⟩)) | (go_at_call 34; (with_reducible refine (spec_l1Mod.calls _ _ _ _ A2.out).mono ?_); rintro e w' ⟨rfl, ⟨nd, rfl⟩⟩; (try first | exact ⟨rfl, _, World.drewN_drewN _ _ _⟩ | exact ⟨rfl, _, Eq.trans (World.drewN_drewN _ _ _) (congrArg (World.drewN _) (Nat.add_assoc _ _ _))⟩); have z_ := cB2 K3))
     try have z1 := bc K3 0
     try have z2 := bc K3 1
     try have z3 := blk_frozen K3.out 0
     try have z4 := blk_frozen K3.out 1
     repeat (go_quiet (first | (go_at_call 51; (with_reducible refine (spec_l9Gcd.calls _ _ _ _ _ A1.out).mono ?_); rintro e w' ⟨rfl, ⟨nd, rfl⟩⟩; (try first | exact ⟨rfl, _, World.drewN_drewN _ _ _⟩ | exact ⟨rfl, _, Eq.trans (World.drewN_drewN _ _ _) (congrArg (World.drewN _) (Nat.add_assoc _ _ _))⟩)) | (go_at_call 34; (with_reducible refine (spec_l1Mod.calls _ _ _ _ A2.out).mono ?_); rintro e w' ⟨rfl, ⟨nd, rfl⟩⟩; (try first | exact ⟨rfl, _, World.drewN_drewN _ _ _⟩ | exact ⟨rfl, _, Eq.trans (World.drewN_drewN _ _ _) (congrArg (World.drewN _) (Nat.add_assoc _ _ _))⟩); (try (have z_ := cB2 K3)))); try go_wp2_with (first | (go_at_call 51; (with_reducible refine (spec_l9Gcd.calls _ _ _ _ _ A1.out).mono ?_); rintro e w' ⟨rfl, ⟨nd, rfl⟩⟩; (try first | exact ⟨rfl, _, World.drewN_drewN _ _ _⟩ | exact ⟨rfl, _, Eq.trans (World.drewN_drewN _ _ _) (congrArg (World.drewN _) (Nat.add_assoc _ _ _))⟩)) | (go_at_call 34; (with_reducible refine (spec_l1Mod.calls _ _ _ _ A2.out).mono ?_); rintro e w' ⟨rfl, ⟨nd, rfl⟩⟩; (try first | exact ⟨rfl, _, World.drewN_drewN _ _ _⟩ | exact ⟨rfl, _, Eq.trans (World.drewN_drewN _ _ _) (congrArg (World.drewN _) (Nat.add_assoc _ _ _))⟩); (try (have z_ := cB2 K3)))))
     refine bodyPost_ret (results_ct rfl _ _ g3 39 #[.int .i64 a1_0, .int .i64 a1_1] (0, 0) _ rfl (by refine pf ?_; refine blk_put (cs := #[.int .i64 a1_0, .int .i64 0]) ?_ 1 _ rfl; refine pf ?_; refine blk_put (cs := #[.int .i64 0, .int .i64 0]) ?_ 0 _ rfl; exact Z K3) Try.underlying39 rfl (by kernel_rfl)) rfl ?_
     exact ⟨ez, YA HB⟩
    rw [if_neg c7] at H
    have d10 := dF c7
    clear c7
    simp only [Option.some.injEq, Prod.mk.injEq] at H
    obtain ⟨rfl, rfl, rfl⟩ := H
    have z_ := ns3 N1 N3 N5
    have z_ := cB2 K1
    have z_ := cB2 K2
    go_wp2_with (first | (go_at_call 51; (with_reducible refine (spec_l9Gcd.calls _ _ _ _ _ A1.out).mono ?_); rintro e w' ⟨rfl, ⟨nd, rfl⟩⟩; (try first | exact ⟨rfl, _, World.drewN_drewN _ _ _⟩ | exact ⟨rfl, _, Eq.trans (World.drewN_drewN _ _ _) (congrArg (World.drewN _) (Nat.add_assoc _ _ _))⟩)) | (go_at_call 34; (with_reducible refine (spec_l1Mod.calls _ _ _ _ A2.out).mono ?_); rintro e w' ⟨rfl, ⟨nd, rfl⟩⟩; (try first | exact ⟨rfl, _, World.drewN_drewN _ _ _⟩ | exact ⟨rfl, _, Eq.trans (World.drewN_drewN _ _ _) (congrArg (World.drewN _) (Nat.add_assoc _ _ _))⟩); have z_ := cB2 K3))
    try have z1 := bc K3 0
    try have z2 := bc K3 1
    try have z3 := blk_frozen K3.out 0
    try have z4 := blk_frozen K3.out 1
    repeat (go_quiet (first | (go_at_call 51; (with_reducible refine (spec_l9Gcd.calls _ _ _ _ _ A1.out).mono ?_); rintro e w' ⟨rfl, ⟨nd, rfl⟩⟩; (try first | exact ⟨rfl, _, World.drewN_drewN _ _ _⟩ | exact ⟨rfl, _, Eq.trans (World.drewN_drewN _ _ _) (congrArg (World.drewN _) (Nat.add_assoc _ _ _))⟩)) | (go_at_call 34; (with_reducible refine (spec_l1Mod.calls _ _ _ _ A2.out).mono ?_); rintro e w' ⟨rfl, ⟨nd, rfl⟩⟩; (try first | exact ⟨rfl, _, World.drewN_drewN _ _ _⟩ | exact ⟨rfl, _, Eq.trans (World.drewN_drewN _ _ _) (congrArg (World.drewN _) (Nat.add_assoc _ _ _))⟩); (try (have z_ := cB2 K3)))); try go_wp2_with (first | (go_at_call 51; (with_reducible refine (spec_l9Gcd.calls _ _ _ _ _ A1.out).mono ?_); rintro e w' ⟨rfl, ⟨nd, rfl⟩⟩; (try first | exact ⟨rfl, _, World.drewN_drewN _ _ _⟩ | exact ⟨rfl, _, Eq.trans (World.drewN_drewN _ _ _) (congrArg (World.drewN _) (Nat.add_assoc _ _ _))⟩)) | (go_at_call 34; (with_reducible refine (spec_l1Mod.calls _ _ _ _ A2.out).mono ?_); rintro e w' ⟨rfl, ⟨nd, rfl⟩⟩; (try first | exact ⟨rfl, _, World.drewN_drewN _ _ _⟩ | exact ⟨rfl, _, Eq.trans (World.drewN_drewN _ _ _) (congrArg (World.drewN _) (Nat.add_assoc _ _ _))⟩); (try (have z_ := cB2 K3)))))
    refine bodyPost_ret (results_ct rfl _ _ g3 39 #[.int .i64 a0_0, .int .i64 a0_1] (0, 0) _ rfl (by refine pf ?_; refine blk_put (cs := #[.int .i64 a0_0, .int .i64 0]) ?_ 1 _ rfl; refine pf ?_; refine blk_put (cs := #[.int .i64 0, .int .i64 0]) ?_ 0 _ rfl; exact Z K3) Try.underlying39 rfl (by kernel_rfl)) rfl ?_
    exact ⟨ez, YA HB⟩
   rw [if_neg c6] at H
   have d9 := dF c6
   clear c6
   have H' := am H
   clear H
   have z_ := ns3 N1 N3 N5
   have z_ := cB2 K1
   have z_ := cB2 K2
   go_wp2_with (first | (go_at_call 51; (with_reducible refine (spec_l9Gcd.calls _ _ _ _ _ A1.out).mono ?_); rintro e w' ⟨rfl, ⟨nd, rfl⟩⟩; (try first | exact ⟨rfl, _, World.drewN_drewN _ _ _⟩ | exact ⟨rfl, _, Eq.trans (World.drewN_drewN _ _ _) (congrArg (World.drewN _) (Nat.add_assoc _ _ _))⟩)) | (go_at_call 34; (with_reducible refine (spec_l1Mod.calls _ _ _ _ A2.out).mono ?_); rintro e w' ⟨rfl, ⟨nd, rfl⟩⟩; (try first | exact ⟨rfl, _, World.drewN_drewN _ _ _⟩ | exact ⟨rfl, _, Eq.trans (World.drewN_drewN _ _ _) (congrArg (World.drewN _) (Nat.add_assoc _ _ _))⟩)))
   repeat (go_quiet (first | (go_at_call 51; (with_reducible refine (spec_l9Gcd.calls _ _ _ _ _ A1.out).mono ?_); rintro e w' ⟨rfl, ⟨nd, rfl⟩⟩; (try first | exact ⟨rfl, _, World.drewN_drewN _ _ _⟩ | exact ⟨rfl, _, Eq.trans (World.drewN_drewN _ _ _) (congrArg (World.drewN _) (Nat.add_assoc _ _ _))⟩)) | (go_at_call 34; (with_reducible refine (spec_l1Mod.calls _ _ _ _ A2.out).mono ?_); rintro e w' ⟨rfl, ⟨nd, rfl⟩⟩; (try first | exact ⟨rfl, _, World.drewN_drewN _ _ _⟩ | exact ⟨rfl, _, Eq.trans (World.drewN_drewN _ _ _) (congrArg (World.drewN _) (Nat.add_assoc _ _ _))⟩))); try go_wp2_with (first | (go_at_call 51; (with_reducible refine (spec_l9Gcd.calls _ _ _ _ _ A1.out).mono ?_); rintro e w' ⟨rfl, ⟨nd, rfl⟩⟩; (try first | exact ⟨rfl, _, World.drewN_drewN _ _ _⟩ | exact ⟨rfl, _, Eq.trans (World.drewN_drewN _ _ _) (congrArg (World.drewN _) (Nat.add_assoc _ _ _))⟩)) | (go_at_call 34; (with_reducible refine (spec_l1Mod.calls _ _ _ _ A2.out).mono ?_); rintro e w' ⟨rfl, ⟨nd, rfl⟩⟩; (try first | exact ⟨rfl, _, World.drewN_drewN _ _ _⟩ | exact ⟨rfl, _, Eq.trans (World.drewN_drewN _ _ _) (congrArg (World.drewN _) (Nat.add_assoc _ _ _))⟩))))
   go_loopg [8] k1 (fun kq v2 w' => ∃ (x2 : Int), v2 = .int .i64 x2 ∧ Aside0 (spec_RestMeet.l0 kq (wrap64 ((wrap64 (Int.tdiv a0_0 t3)) * a1_0)) x2 a0_0 a0_1 a1_0 a1_1 = some (r1, r2, r3)) ∧ Aside0 (kq ≤ k1) ∧ Aside0 (w'.heap[g1]? = some (.cells #[.int .i64 a0_0, .int .i64 a0_1] 39 (0, 0))) ∧ Aside0 (w'.heap[g2]? = some (.cells #[.int .i64 a1_0, .int .i64 a1_1] 39 (0, 0))) ∧ Aside0 (w'.heap[g3]? = some (.cells #[.int .i64 0, .int .i64 0] 39 (0, 0))) ∧ Aside0 (Below w.heap.size w w'))
   case atStart => exact ⟨(a0_1), ey, H', ⟨Nat.le_refl _⟩, ⟨Z K1⟩, ⟨Z K2⟩, ⟨Z K3⟩, ⟨YA HB⟩⟩
   case round =>
    clear H'
    (try clear c1);(try clear c2);(try clear d1);(try clear d2);(try clear c3);(try clear d3);(try clear d4);(try clear d5);(try clear d6);(try clear c5);(try clear d7);(try clear d8);(try clear d9)
    obtain ⟨x2, rfl, HA, HK2, K1, K2, K3, HB⟩ := hrel
    cases gk with
    | zero => exact absurd HA.out (by simp [spec_RestMeet.l0])
    | succ k2 =>
     have H := HA.out
     clear HA
     simp only [spec_RestMeet.l0] at H
     obtain ⟨t5, A3, H⟩ := bd H
     try dsimp only at H
     by_cases c7 : t5 = a1_1
     rotate_left
     ·rw [if_neg c7] at H
      have d10 := eF c7
      have d11 := nT c7
      have H' := am H
      clear H
      have z_ := ns2 N2 N5
      have z_ := cB2 K2
      go_wp2_with (first | (go_at_call 34; (with_reducible refine (spec_l1Mod.calls _ _ _ _ A3.out).mono ?_); rintro e w' ⟨rfl, ⟨nd, rfl⟩⟩; (try first | exact ⟨rfl, _, World.drewN_drewN _ _ _⟩ | exact ⟨rfl, _, Eq.trans (World.drewN_drewN _ _ _) (congrArg (World.drewN _) (Nat.add_assoc _ _ _))⟩); have z_ := ns1 N3; have z_ := cB2 K1))
      try have z1 := N3.out
      try have z2 := N4.out
      try have z3 := bc K1 0
      try have z4 := bc K1 1
      try have z5 := blk_frozen K1.out 0
      try have z6 := blk_frozen K1.out 1
      repeat (go_quiet (first | (go_at_call 34; (with_reducible refine (spec_l1Mod.calls _ _ _ _ A3.out).mono ?_); rintro e w' ⟨rfl, ⟨nd, rfl⟩⟩; (try first | exact ⟨rfl, _, World.drewN_drewN _ _ _⟩ | exact ⟨rfl, _, Eq.trans (World.drewN_drewN _ _ _) (congrArg (World.drewN _) (Nat.add_assoc _ _ _))⟩); (try (have z_ := ns1 N3; have z_ := cB2 K1)))); try go_wp2_with (first | (go_at_call 34; (with_reducible refine (spec_l1Mod.calls _ _ _ _ A3.out).mono ?_); rintro e w' ⟨rfl, ⟨nd, rfl⟩⟩; (try first | exact ⟨rfl, _, World.drewN_drewN _ _ _⟩ | exact ⟨rfl, _, Eq.trans (World.drewN_drewN _ _ _) (congrArg (World.drewN _) (Nat.add_assoc _ _ _))⟩); (try (have z_ := ns1 N3; have z_ := cB2 K1)))))
      go_roundg k2
      case measure => have := J1.out; have := HK2.out; omega
      case rel => exact ⟨(wrap64 (x2 + a0_0)), ey, H', ⟨by have := J1.out; have := HK2.out; omega⟩, ⟨Z K1⟩, ⟨Z K2⟩, ⟨Z K3⟩, ⟨YA HB⟩⟩
     rw [if_pos c7] at H
     have d10 := eT c7
     have d11 := nF c7
     clear c7
     simp only [Option.some.injEq, Prod.mk.injEq] at H
     obtain ⟨rfl, rfl, rfl⟩ := H
     have z_ := ns2 N2 N5
     have z_ := cB2 K2
     go_wp2_with (first | (go_at_call 34; (with_reducible refine (spec_l1Mod.calls _ _ _ _ A3.out).mono ?_); rintro e w' ⟨rfl, ⟨nd, rfl⟩⟩; (try first | exact ⟨rfl, _, World.drewN_drewN _ _ _⟩ | exact ⟨rfl, _, Eq.trans (World.drewN_drewN _ _ _) (congrArg (World.drewN _) (Nat.add_assoc _ _ _))⟩); have z_ := ns1 N4; have z_ := cB2 K3))
     try have z1 := N4.out
     try have z2 := N3.out
     try have z3 := bc K3 0
     try have z4 := bc K3 1
     try have z5 := blk_frozen K3.out 0
     try have z6 := blk_frozen K3.out 1
     repeat (go_quiet (first | (go_at_call 34; (with_reducible refine (spec_l1Mod.calls _ _ _ _ A3.out).mono ?_); rintro e w' ⟨rfl, ⟨nd, rfl⟩⟩; (try first | exact ⟨rfl, _, World.drewN_drewN _ _ _⟩ | exact ⟨rfl, _, Eq.trans (World.drewN_drewN _ _ _) (congrArg (World.drewN _) (Nat.add_assoc _ _ _))⟩); (try (have z_ := ns1 N4; have z_ := cB2 K3)))); try go_wp2_with (first | (go_at_call 34; (with_reducible refine (spec_l1Mod.calls _ _ _ _ A3.out).mono ?_); rintro e w' ⟨rfl, ⟨nd, rfl⟩⟩; (try first | exact ⟨rfl, _, World.drewN_drewN _ _ _⟩ | exact ⟨rfl, _, Eq.trans (World.drewN_drewN _ _ _) (congrArg (World.drewN _) (Nat.add_assoc _ _ _))⟩); (try (have z_ := ns1 N4; have z_ := cB2 K3)))))
     refine bodyPost_ret (results_ct rfl _ _ g3 39 #[.int .i64 (wrap64 ((wrap64 (Int.tdiv a0_0 t3)) * a1_0)), .int .i64 x2] (0, 0) _ rfl (by refine pf ?_; refine blk_put (cs := #[.int .i64 (wrap64 ((wrap64 (Int.tdiv a0_0 t3)) * a1_0)), .int .i64 0]) ?_ 1 _ rfl; refine pf ?_; refine blk_put (cs := #[.int .i64 0, .int .i64 0]) ?_ 0 _ rfl; exact Z K3) Try.underlying39 rfl (by kernel_rfl)) rfl ?_
     exact ⟨ez, YA HB⟩
end
end Go.Proofs.Ytdmadlfdibiejaa.PFnExactValCmp
