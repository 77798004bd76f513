/- Written by this session's own driver (wip/dprint.py): the functions that the law FnRangeMore reaches, as Lean functions, each with its contract. -/
import Derived.Test.YthbkakcchgnhpaaPFnRangeMorex0
import Derived.Test.YthbkakcchgnhpaaPFnRangeMorex3
import Derived.Test.YthbkakcchgnhpaaPFnRangeMorex5
import Derived.Test.YthbkakcchgnhpaaPFnRangeMorex8
import Derived.Test.YthbkakcchgnhpaaSv
namespace Go.Proofs.Ythbkakcchgnhpaa.PFnRangeMore
open Go.RowKit Go.Proofs.YthbkakcchgnhpaaV.PrintWords Go.Proofs.YthbkakcchgnhpaaV.PrintLast Go.Proofs.YthbkakcchgnhpaaV.PrintMore Go.Proofs.YthbkakcchgnhpaaSv
attribute [local go_sem] max2_int min2_int max_two min_two max_three min_three max_four min_four   -- for this text's walks alone
set_option linter.unusedVariables false
set_option linter.unusedSimpArgs false

/-! ### spec_l8Bits: function 40 -/
attribute [local go_sem] Go.Proofs.YthbkakcchgnhpaaSet.isSome_setCell
mutual
def spec_l8Bits.j0 : Nat → Int → Bool → Int → Int → Int → Int → Option (Int × Int)
 | 0, _, _, _, _, _, _ => none
 | k + 1, x1, x2, x3, x4, x5, x6 => if x2 = true then ((spec_l1Bits.f k x1 x3 x5).bind fun t1 => (some (t1, t1))) else (if x1 = 6 then (if x3 ≥ 0 then (spec_l8Bits.j1 k x1 (decide (x5 ≥ 0)) x3 x4 x5 x6) else (spec_l8Bits.j1 k x1 false x3 x4 x5 x6)) else (spec_l8Bits.j1 k x1 false x3 x4 x5 x6))
def spec_l8Bits.j1 : Nat → Int → Bool → Int → Int → Int → Int → Option (Int × Int)
 | 0, _, _, _, _, _, _ => none
 | k + 1, x1, x2, x3, x4, x5, x6 => if x2 = true then ((spec_l8Min.f x4 x6).bind fun t1 => (some (0, t1))) else (if x1 = 6 then (spec_l8Bits.j2 k x1 (decide (x3 ≥ 0)) x3 x4 x5 x6) else (spec_l8Bits.j2 k x1 false x3 x4 x5 x6))
def spec_l8Bits.j2 : Nat → Int → Bool → Int → Int → Int → Int → Option (Int × Int)
 | 0, _, _, _, _, _, _ => none
 | k + 1, x1, x2, x3, x4, x5, x6 => if x2 = true then (some (0, x4)) else (if x1 = 6 then (spec_l8Bits.j3 k x1 (decide (x5 ≥ 0)) x3 x4 x5 x6) else (spec_l8Bits.j3 k x1 false x3 x4 x5 x6))
def spec_l8Bits.j3 : Nat → Int → Bool → Int → Int → Int → Int → Option (Int × Int)
 | 0, _, _, _, _, _, _ => none
 | k + 1, x1, x2, x3, x4, x5, x6 => if x2 = true then (some (0, x6)) else (if x3 ≥ 0 then (if x5 ≥ 0 then (spec_l8Bits.j4 k x1 (x1 == 7) x3 x4 x5 x6) else (spec_l8Bits.j4 k x1 false x3 x4 x5 x6)) else (spec_l8Bits.j4 k x1 false x3 x4 x5 x6))
def spec_l8Bits.j4 : Nat → Int → Bool → Int → Int → Int → Int → Option (Int × Int)
 | 0, _, _, _, _, _, _ => none
 | k + 1, x1, x2, x3, x4, x5, x6 => if x2 = true then ((spec_l8Max.f x3 x5).bind fun t1 => ((spec_l8Max.f x4 x6).bind fun t2 => ((spec_l8Mask.f k t2).bind fun t3 => (some (t1, t3))))) else (if x3 ≥ 0 then (if x5 ≥ 0 then (spec_l8Bits.j5 k (x1 == 8) x3 x4 x5 x6) else (spec_l8Bits.j5 k false x3 x4 x5 x6)) else (spec_l8Bits.j5 k false x3 x4 x5 x6))
def spec_l8Bits.j5 : Nat → Bool → Int → Int → Int → Int → Option (Int × Int)
 | 0, _, _, _, _, _ => none
 | k + 1, x1, x2, x3, x4, x5 => if x1 = true then ((spec_l8Max.f x3 x5).bind fun t1 => ((spec_l8Mask.f k t1).bind fun t2 => (some (0, t2)))) else (some ((-2147483648), 2147483647))
end
def spec_l8Bits.f (k : Nat) (a0 : Int) (a1_0 : Int) (a1_1 : Int) (a2_0 : Int) (a2_1 : Int) : Option (Int × Int) := if a1_0 = a1_1 then (spec_l8Bits.j0 k a0 (a2_0 == a2_1) a1_0 a1_1 a2_0 a2_1) else (spec_l8Bits.j0 k a0 false a1_0 a1_1 a2_0 a2_1)
theorem spec_l8Bits.mono_l : ∀ k, (∀ y0 y1 y2 y3 y4 y5, LeO (spec_l8Bits.j0 k y0 y1 y2 y3 y4 y5) (spec_l8Bits.j0 (k + 1) y0 y1 y2 y3 y4 y5)) ∧ (∀ y0 y1 y2 y3 y4 y5, LeO (spec_l8Bits.j1 k y0 y1 y2 y3 y4 y5) (spec_l8Bits.j1 (k + 1) y0 y1 y2 y3 y4 y5)) ∧ (∀ y0 y1 y2 y3 y4 y5, LeO (spec_l8Bits.j2 k y0 y1 y2 y3 y4 y5) (spec_l8Bits.j2 (k + 1) y0 y1 y2 y3 y4 y5)) ∧ (∀ y0 y1 y2 y3 y4 y5, LeO (spec_l8Bits.j3 k y0 y1 y2 y3 y4 y5) (spec_l8Bits.j3 (k + 1) y0 y1 y2 y3 y4 y5)) ∧ (∀ y0 y1 y2 y3 y4 y5, LeO (spec_l8Bits.j4 k y0 y1 y2 y3 y4 y5) (spec_l8Bits.j4 (k + 1) y0 y1 y2 y3 y4 y5)) ∧ (∀ y0 y1 y2 y3 y4, LeO (spec_l8Bits.j5 k y0 y1 y2 y3 y4) (spec_l8Bits.j5 (k + 1) y0 y1 y2 y3 y4))
 | 0 => ⟨fun _ _ _ _ _ _ r h => by simp [spec_l8Bits.j0] at h, fun _ _ _ _ _ _ r h => by simp [spec_l8Bits.j1] at h, fun _ _ _ _ _ _ r h => by simp [spec_l8Bits.j2] at h, fun _ _ _ _ _ _ r h => by simp [spec_l8Bits.j3] at h, fun _ _ _ _ _ _ r h => by simp [spec_l8Bits.j4] at h, fun _ _ _ _ _ r h => by simp [spec_l8Bits.j5] at h⟩
 | k + 1 => by
  obtain ⟨ih0, ih1, ih2, ih3, ih4, ih5⟩ := spec_l8Bits.mono_l k
  refine ⟨?_, ?_, ?_, ?_, ?_, ?_⟩ <;> (intros; (first | unfold spec_l8Bits.j0 | unfold spec_l8Bits.j1 | unfold spec_l8Bits.j2 | unfold spec_l8Bits.j3 | unfold spec_l8Bits.j4 | unfold spec_l8Bits.j5); repeat' first | (with_reducible first | apply ih0 | apply ih1 | apply ih2 | apply ih3 | apply ih4 | apply ih5 | apply spec_l1Bits.mono | apply spec_l8Mask.mono | apply LeO.refl | apply LeO.none | refine LeO.ite ?_ ?_ | refine LeO.bind ?_ (fun _ => ?_)) | apply ih0 | apply ih1 | apply ih2 | apply ih3 | apply ih4 | apply ih5 | apply spec_l1Bits.mono | apply spec_l8Mask.mono | apply LeO.none | refine LeO.ite ?_ ?_ | refine LeO.bind ?_ (fun _ => ?_))
theorem spec_l8Bits.mono : ∀ a0 a1 a2 a3 a4 k, LeO (spec_l8Bits.f k a0 a1 a2 a3 a4) (spec_l8Bits.f (k + 1) a0 a1 a2 a3 a4) := by
 intro a0 a1 a2 a3 a4 k
 obtain ⟨ih0, ih1, ih2, ih3, ih4, ih5⟩ := spec_l8Bits.mono_l k
 unfold spec_l8Bits.f
 repeat' first | (with_reducible first | apply ih0 | apply ih1 | apply ih2 | apply ih3 | apply ih4 | apply ih5 | apply spec_l1Bits.mono | apply spec_l8Mask.mono | apply LeO.refl | apply LeO.none | refine LeO.ite ?_ ?_ | refine LeO.bind ?_ (fun _ => ?_)) | apply ih0 | apply ih1 | apply ih2 | apply ih3 | apply ih4 | apply ih5 | apply spec_l1Bits.mono | apply spec_l8Mask.mono | apply LeO.none | refine LeO.ite ?_ ?_ | refine LeO.bind ?_ (fun _ => ?_)
def spec_l8Bits.T11 : Bool × List (List Nat × List Nat) := (true, [([], []), ([0], [0]), ([], []), ([2], [2]), ([1, 3], [1, 3]), ([], []), ([5], [5]), ([], []), ([7], [7]), ([6, 8, 4], [6, 8]), ([9, 9], [9]), ([4, 10], [4, 10]), ([11, 10, 0, 1, 2, 3, 4, 5, 6, 7, 8, 9, 10, 11], [11])])
def spec_l8Bits.B11 : List Nat := [0, 1, 0, 4, 15, 0, 32, 0, 128, 511, 1023, 2047, 4095]
theorem spec_l8Bits.tab11 : rtab .any (opsOf Try.f40 11) = spec_l8Bits.T11 := by kernel_rfl
theorem spec_l8Bits.bits11 : waitsOk spec_l8Bits.T11.2 spec_l8Bits.B11 = true := by kernel_rfl
set_option maxHeartbeats 8000000 in
set_option maxRecDepth 100000 in
theorem spec_l8Bits.calls (k : Nat) (a0 : Int) (a1_0 : Int) (a1_1 : Int) (a2_0 : Int) (a2_1 : Int) (r1 : Int) (r2 : Int) (w : World) (h : spec_l8Bits.f k a0 a1_0 a1_1 a2_0 a2_1 = some (r1, r2)) :
  Calls Try.prog 40 #[.int .i64 a0, .agg #[.int .i64 a1_0, .int .i64 a1_1], .agg #[.int .i64 a2_0, .int .i64 a2_1]] w fun e w' => e = .returned (.agg #[.int .i64 r1, .int .i64 r2]) ∧ Below w.heap.size w w' := by
 have hu24 := Try.underlying24
 have HB := am (Below.refl w.heap.size w)
 have H : (if a1_0 = a1_1 then (spec_l8Bits.j0 k a0 (a2_0 == a2_1) a1_0 a1_1 a2_0 a2_1) else (spec_l8Bits.j0 k a0 false a1_0 a1_1 a2_0 a2_1)) = some (r1, r2) := h
 clear h
 have C1 := am H
 clear H
 go_enter Try.func40, Try.ntmps40
 go_upto_region 1 with (first | ((with_reducible refine gate_dst (N := 4) rfl ?_); refine bxn 4 #[.int .i64 a1_0, .int .i64 a1_1] 24 HB fun g1 w2 K1 G1 hg hb => ?_; replace HB := am (below_step (YA HB) hb); clear hb hg) | ((with_reducible refine gate_dst (N := 5) rfl ?_); refine bxn 5 #[.int .i64 a2_0, .int .i64 a2_1] 24 HB fun g2 w3 K2 G2 hg hb => ?_; obtain ⟨N1,N2⟩ := ne_ hg K1; obtain ⟨K1, HB⟩ := bk1 K1 HB hb; clear hb hg) | ((with_reducible refine gate_dst (N := 6) rfl ?_); refine bxn 6 #[.int .i64 0, .int .i64 0] 24 HB fun g3 w4 K3 G3 hg hb => ?_; obtain ⟨N3,N4⟩ := ne_ hg K1; obtain ⟨N5,N6⟩ := ne_ hg K2; obtain ⟨K1, K2, HB⟩ := bk2 K1 K2 HB hb; clear hb hg))
 (try simp only [Act.put, List.setIfInBounds_toArray, List.set_cons_zero, List.set_cons_succ])
 go_cut [19] (fun v1 wc => ∃ (kq : Nat) (x1 : Bool), v1 = .bool x1 ∧ Aside0 (spec_l8Bits.j0 kq a0 x1 a1_0 a1_1 a2_0 a2_1 = some (r1, r2)) ∧ Aside0 (kq ≤ k) ∧ Bx2 wc g1 a1_0 a1_1 24 ∧ Bx2 wc g2 a2_0 a2_1 24 ∧ Bx2 wc g3 0 0 24 ∧ Aside0 (Below w.heap.size w wc))
 case first =>
  have H := C1.out
  clear C1
  by_cases c1 : a1_0 = a1_1
  rotate_left
  ·rw [if_neg c1] at H
   have d1 := eF c1
   have d2 := nT c1
   (first | rw [d1] | (simp only [i64_w, i32_w]; rw [d1]) | skip)
   have H' := am H
   clear H
   have z_ := ns2 N1 N3
   have z_ := cB2 K1
   go_wp2
   go_meet
   case rel => exact ⟨_, (false), ey, H', le0, ⟨Z K1⟩, ⟨Z K2⟩, ⟨Z K3⟩, ⟨YA HB⟩⟩
  rw [if_pos c1] at H
  have d1 := eT c1
  have d2 := nF c1
  clear c1
  (first | rw [d1] | (simp only [i64_w, i32_w]; rw [d1]) | skip)
  have H' := am H
  clear H
  have z_ := ns3 N1 N3 N5
  have z_ := cB2 K1
  have z_ := cB2 K2
  go_wp2
  go_meet
  case rel => exact ⟨_, ((a2_0 == a2_1)), ey, H', le0, ⟨Z K1⟩, ⟨Z K2⟩, ⟨Z K3⟩, ⟨YA HB⟩⟩
 case rest =>
  clear C1
  obtain ⟨kq, x1, rfl, HA, J1, K1, K2, K3, HB⟩ := hcut
  cases kq with
  | zero => exact absurd HA.out (by simp [spec_l8Bits.j0])
  | succ k1 =>
   have H := HA.out
   clear HA
   simp only [spec_l8Bits.j0] at H
   by_cases c1 : x1 = true
   ·subst c1
    rw [if_pos rfl] at H
    obtain ⟨t1, A1, H⟩ := bd H
    try dsimp only at H
    simp only [Option.some.injEq, Prod.mk.injEq] at H
    obtain ⟨rfl, rfl⟩ := H
    have z_ := ns3 N1 N3 N5
    have z_ := cB2 K1
    have z_ := cB2 K2
    go_wp2_with (first | ((with_reducible refine gate_callee (f := 90) rfl ?_); refine goesL_ (some 25) rfl rfl Try.func90 (by kernel_rfl) rfl #[.int .i64 a0, .int .i64 a1_0, .int .i64 a2_0] rfl mz ?_; (with_reducible refine (spec_l1Bits.calls _ _ _ _ _ _ A1.out).mono ?_); rintro e w' ⟨rfl, ⟨nd, rfl⟩⟩; refine ⟨_, rfl, ?_⟩; (try (rw [drewN_self wc]; generalize hq_ : World.drewN wc _ = wc; replace K1 : Bx2 wc g1 a1_0 a1_1 24 := ⟨by rw [← hq_]; exact (Z K1)⟩; replace K2 : Bx2 wc g2 a2_0 a2_1 24 := ⟨by rw [← hq_]; exact (Z K2)⟩; replace K3 : Bx2 wc g3 0 0 24 := ⟨by rw [← hq_]; exact (Z K3)⟩; replace HB : Aside0 (Below w.heap.size w wc) := ⟨by rw [← hq_]; exact (YA HB)⟩; clear hq_)); have z_ := cB2 K3))
    refine bodyPost_ret (results_cell_row rfl _ _ g3 24 #[.int .i64 t1, .int .i64 t1] (0, 0) _ rfl (by refine pf ?_; refine blk_put (cs := #[.int .i64 t1, .int .i64 0]) ?_ 1 _ rfl; refine pf ?_; refine blk_put (cs := #[.int .i64 0, .int .i64 0]) ?_ 0 _ rfl; exact Z K3) Try.underlying24 rfl (by kernel_rfl)) rfl ?_
    exact ⟨ez, YA HB⟩
   replace c1 := Bool.eq_false_iff.mpr c1
   subst c1
   rw [if_neg ff] at H
   have C2 := am H
   clear H
   go_upto_region 4 with (fail)
   go_cut [40] (fun v2 wc => ∃ (kq : Nat) (x2 : Bool), v2 = .bool x2 ∧ Aside0 (spec_l8Bits.j1 kq a0 x2 a1_0 a1_1 a2_0 a2_1 = some (r1, r2)) ∧ Aside0 (kq ≤ k1) ∧ Bx2 wc g1 a1_0 a1_1 24 ∧ Bx2 wc g2 a2_0 a2_1 24 ∧ Bx2 wc g3 0 0 24 ∧ Aside0 (Below w.heap.size w wc))
   case first =>
    have H := C2.out
    clear C2
    by_cases c2 : a0 = 6
    rotate_left
    ·rw [if_neg c2] at H
     have d1 := eF c2
     have d2 := nT c2
     (first | rw [d1] | (simp only [i64_w, i32_w]; rw [d1]) | skip)
     have H' := am H
     clear H
     go_wp2
     go_meet
     case rel => exact ⟨_, (false), ey, H', le1 J1, ⟨Z K1⟩, ⟨Z K2⟩, ⟨Z K3⟩, ⟨YA HB⟩⟩
    rw [if_pos c2] at H
    have d1 := eT c2
    have d2 := nF c2
    clear c2
    (first | rw [d1] | (simp only [i64_w, i32_w]; rw [d1]) | skip)
    by_cases c3 : a1_0 ≥ 0
    rotate_left
    ·rw [if_neg c3] at H
     have d3 := dF c3
     clear c3
     have H' := am H
     clear H
     have z_ := ns2 N1 N3
     have z_ := cB2 K1
     go_wp2
     go_meet
     case rel => exact ⟨_, (false), ey, H', le1 J1, ⟨Z K1⟩, ⟨Z K2⟩, ⟨Z K3⟩, ⟨YA HB⟩⟩
    rw [if_pos c3] at H
    have d3 := dT c3
    clear c3
    have H' := am H
    clear H
    have z_ := ns3 N1 N3 N5
    have z_ := cB2 K1
    have z_ := cB2 K2
    go_wp2
    go_meet
    case rel => exact ⟨_, (decide (a2_0 ≥ 0)), ey, H', le1 J1, ⟨Z K1⟩, ⟨Z K2⟩, ⟨Z K3⟩, ⟨YA HB⟩⟩
   case rest =>
    clear C2
    try clear c1
    obtain ⟨kq, x2, rfl, HA, J2, K1, K2, K3, HB⟩ := hcut
    cases kq with
    | zero => exact absurd HA.out (by simp [spec_l8Bits.j1])
    | succ k2 =>
     have H := HA.out
     clear HA
     simp only [spec_l8Bits.j1] at H
     by_cases c2 : x2 = true
     ·subst c2
      rw [if_pos rfl] at H
      obtain ⟨t1, A1, H⟩ := bd H
      try dsimp only at H
      simp only [Option.some.injEq, Prod.mk.injEq] at H
      obtain ⟨rfl, rfl⟩ := H
      have z_ := ns3 N1 N3 N5
      have z_ := cB2 K1
      have z_ := cB2 K2
      go_wp2_with (first | ((with_reducible refine gate_callee (f := 68) rfl ?_); refine goesL_ (some 45) rfl rfl Try.func68 (by kernel_rfl) rfl #[.int .i64 a1_1, .int .i64 a2_1] rfl mz ?_; (with_reducible refine (spec_l8Min.calls _ _ _ _ A1.out).mono ?_); rintro e w' ⟨rfl, ⟨nd, rfl⟩⟩; refine ⟨_, rfl, ?_⟩; (try (rw [drewN_self wc]; generalize hq_ : World.drewN wc _ = wc; replace K1 : Bx2 wc g1 a1_0 a1_1 24 := ⟨by rw [← hq_]; exact (Z K1)⟩; replace K2 : Bx2 wc g2 a2_0 a2_1 24 := ⟨by rw [← hq_]; exact (Z K2)⟩; replace K3 : Bx2 wc g3 0 0 24 := ⟨by rw [← hq_]; exact (Z K3)⟩; replace HB : Aside0 (Below w.heap.size w wc) := ⟨by rw [← hq_]; exact (YA HB)⟩; clear hq_)); have z_ := cB2 K3))
      refine bodyPost_ret (results_cell_row rfl _ _ g3 24 #[.int .i64 0, .int .i64 t1] (0, 0) _ rfl (by refine pf ?_; refine blk_put (cs := #[.int .i64 0, .int .i64 0]) ?_ 1 _ rfl; refine pf ?_; refine blk_put (cs := #[.int .i64 0, .int .i64 0]) ?_ 0 _ rfl; exact Z K3) Try.underlying24 rfl (by kernel_rfl)) rfl ?_
      exact ⟨ez, YA HB⟩
     replace c2 := Bool.eq_false_iff.mpr c2
     subst c2
     rw [if_neg ff] at H
     have C3 := am H
     clear H
     go_upto_region 6 with (fail)
     go_cut [53] (fun v3 wc => ∃ (kq : Nat) (x3 : Bool), v3 = .bool x3 ∧ Aside0 (spec_l8Bits.j2 kq a0 x3 a1_0 a1_1 a2_0 a2_1 = some (r1, r2)) ∧ Aside0 (kq ≤ k2) ∧ Bx2 wc g1 a1_0 a1_1 24 ∧ Bx2 wc g2 a2_0 a2_1 24 ∧ Bx2 wc g3 0 0 24 ∧ Aside0 (Below w.heap.size w wc))
     case first =>
      have H := C3.out
      clear C3
      by_cases c3 : a0 = 6
      rotate_left
      ·rw [if_neg c3] at H
       have d1 := eF c3
       have d2 := nT c3
       (first | rw [d1] | (simp only [i64_w, i32_w]; rw [d1]) | skip)
       have H' := am H
       clear H
       go_wp2
       go_meet
       case rel => exact ⟨_, (false), ey, H', ⟨by have := J1.out; have := J2.out; first | omega | exact Nat.le_refl _⟩, ⟨Z K1⟩, ⟨Z K2⟩, ⟨Z K3⟩, ⟨YA HB⟩⟩
      rw [if_pos c3] at H
      have d1 := eT c3
      have d2 := nF c3
      clear c3
      (first | rw [d1] | (simp only [i64_w, i32_w]; rw [d1]) | skip)
      have H' := am H
      clear H
      have z_ := ns2 N1 N3
      have z_ := cB2 K1
      go_wp2
      go_meet
      case rel => exact ⟨_, (decide (a1_0 ≥ 0)), ey, H', ⟨by have := J1.out; have := J2.out; first | omega | exact Nat.le_refl _⟩, ⟨Z K1⟩, ⟨Z K2⟩, ⟨Z K3⟩, ⟨YA HB⟩⟩
     case rest =>
      clear C3
      try clear c2
      obtain ⟨kq, x3, rfl, HA, J3, K1, K2, K3, HB⟩ := hcut
      cases kq with
      | zero => exact absurd HA.out (by simp [spec_l8Bits.j2])
      | succ k3 =>
       have H := HA.out
       clear HA
       simp only [spec_l8Bits.j2] at H
       by_cases c3 : x3 = true
       ·subst c3
        rw [if_pos rfl] at H
        simp only [Option.some.injEq, Prod.mk.injEq] at H
        obtain ⟨rfl, rfl⟩ := H
        have z_ := ns3 N1 N3 N6
        have z_ := cB2 K1
        have z_ := cB2 K3
        go_wp2
        refine bodyPost_ret (results_cell_row rfl _ _ g3 24 #[.int .i64 0, .int .i64 a1_1] (0, 0) _ rfl (by refine pf ?_; refine blk_put (cs := #[.int .i64 0, .int .i64 0]) ?_ 1 _ rfl; refine pf ?_; refine blk_put (cs := #[.int .i64 0, .int .i64 0]) ?_ 0 _ rfl; exact Z K3) Try.underlying24 rfl (by kernel_rfl)) rfl ?_
        exact ⟨ez, YA HB⟩
       replace c3 := Bool.eq_false_iff.mpr c3
       subst c3
       rw [if_neg ff] at H
       have C4 := am H
       clear H
       go_upto_region 8 with (fail)
       go_cut [63] (fun v4 wc => ∃ (kq : Nat) (x4 : Bool), v4 = .bool x4 ∧ Aside0 (spec_l8Bits.j3 kq a0 x4 a1_0 a1_1 a2_0 a2_1 = some (r1, r2)) ∧ Aside0 (kq ≤ k3) ∧ Bx2 wc g1 a1_0 a1_1 24 ∧ Bx2 wc g2 a2_0 a2_1 24 ∧ Bx2 wc g3 0 0 24 ∧ Aside0 (Below w.heap.size w wc))
       case first =>
        have H := C4.out
        clear C4
        by_cases c4 : a0 = 6
        rotate_left
        ·rw [if_neg c4] at H
         have d1 := eF c4
         have d2 := nT c4
         (first | rw [d1] | (simp only [i64_w, i32_w]; rw [d1]) | skip)
         have H' := am H
         clear H
         go_wp2
         go_meet
         case rel => exact ⟨_, (false), ey, H', ⟨by have := J1.out; have := J2.out; have := J3.out; first | omega | exact Nat.le_refl _⟩, ⟨Z K1⟩, ⟨Z K2⟩, ⟨Z K3⟩, ⟨YA HB⟩⟩
        rw [if_pos c4] at H
        have d1 := eT c4
        have d2 := nF c4
        clear c4
        (first | rw [d1] | (simp only [i64_w, i32_w]; rw [d1]) | skip)
        have H' := am H
        clear H
        have z_ := ns2 N2 N5
        have z_ := cB2 K2
        go_wp2
        go_meet
        case rel => exact ⟨_, (decide (a2_0 ≥ 0)), ey, H', ⟨by have := J1.out; have := J2.out; have := J3.out; first | omega | exact Nat.le_refl _⟩, ⟨Z K1⟩, ⟨Z K2⟩, ⟨Z K3⟩, ⟨YA HB⟩⟩
       case rest =>
        clear C4
        try clear c3
        obtain ⟨kq, x4, rfl, HA, J4, K1, K2, K3, HB⟩ := hcut
        cases kq with
        | zero => exact absurd HA.out (by simp [spec_l8Bits.j3])
        | succ k4 =>
         have H := HA.out
         clear HA
         simp only [spec_l8Bits.j3] at H
         by_cases c4 : x4 = true
         ·subst c4
          rw [if_pos rfl] at H
          simp only [Option.some.injEq, Prod.mk.injEq] at H
          obtain ⟨rfl, rfl⟩ := H
          have z_ := ns3 N2 N5 N4
          have z_ := cB2 K2
          have z_ := cB2 K3
          go_wp2
          refine bodyPost_ret (results_cell_row rfl _ _ g3 24 #[.int .i64 0, .int .i64 a2_1] (0, 0) _ rfl (by refine pf ?_; refine blk_put (cs := #[.int .i64 0, .int .i64 0]) ?_ 1 _ rfl; refine pf ?_; refine blk_put (cs := #[.int .i64 0, .int .i64 0]) ?_ 0 _ rfl; exact Z K3) Try.underlying24 rfl (by kernel_rfl)) rfl ?_
          exact ⟨ez, YA HB⟩
         replace c4 := Bool.eq_false_iff.mpr c4
         subst c4
         rw [if_neg ff] at H
         have C5 := am H
         clear H
         go_upto_region 10 with (fail)
         go_cut [78] (fun v5 wc => ∃ (kq : Nat) (x5 : Bool), v5 = .bool x5 ∧ Aside0 (spec_l8Bits.j4 kq a0 x5 a1_0 a1_1 a2_0 a2_1 = some (r1, r2)) ∧ Aside0 (kq ≤ k4) ∧ Bx2 wc g1 a1_0 a1_1 24 ∧ Bx2 wc g2 a2_0 a2_1 24 ∧ Bx2 wc g3 0 0 24 ∧ Aside0 (Below w.heap.size w wc))
         case first =>
          have H := C5.out
          clear C5
          by_cases c5 : a1_0 ≥ 0
          rotate_left
          ·rw [if_neg c5] at H
           have d1 := dF c5
           clear c5
           (first | rw [d1] | (simp only [i64_w, i32_w]; rw [d1]) | skip)
           have H' := am H
           clear H
           have z_ := ns2 N1 N3
           have z_ := cB2 K1
           go_wp2
           go_meet
           case rel => exact ⟨_, (false), ey, H', ⟨by have := J1.out; have := J2.out; have := J3.out; have := J4.out; first | omega | exact Nat.le_refl _⟩, ⟨Z K1⟩, ⟨Z K2⟩, ⟨Z K3⟩, ⟨YA HB⟩⟩
          rw [if_pos c5] at H
          have d1 := dT c5
          clear c5
          (first | rw [d1] | (simp only [i64_w, i32_w]; rw [d1]) | skip)
          by_cases c6 : a2_0 ≥ 0
          rotate_left
          ·rw [if_neg c6] at H
           have d2 := dF c6
           clear c6
           have H' := am H
           clear H
           have z_ := ns3 N1 N3 N5
           have z_ := cB2 K1
           have z_ := cB2 K2
           go_wp2
           go_meet
           case rel => exact ⟨_, (false), ey, H', ⟨by have := J1.out; have := J2.out; have := J3.out; have := J4.out; first | omega | exact Nat.le_refl _⟩, ⟨Z K1⟩, ⟨Z K2⟩, ⟨Z K3⟩, ⟨YA HB⟩⟩
          rw [if_pos c6] at H
          have d2 := dT c6
          clear c6
          have H' := am H
          clear H
          have z_ := ns3 N1 N3 N5
          have z_ := cB2 K1
          have z_ := cB2 K2
          go_wp2
          go_meet
          case rel => exact ⟨_, ((a0 == 7)), ey, H', ⟨by have := J1.out; have := J2.out; have := J3.out; have := J4.out; first | omega | exact Nat.le_refl _⟩, ⟨Z K1⟩, ⟨Z K2⟩, ⟨Z K3⟩, ⟨YA HB⟩⟩
         case rest =>
          clear C5
          try clear c4
          obtain ⟨kq, x5, rfl, HA, J5, K1, K2, K3, HB⟩ := hcut
          cases kq with
          | zero => exact absurd HA.out (by simp [spec_l8Bits.j4])
          | succ k5 =>
           have H := HA.out
           clear HA
           simp only [spec_l8Bits.j4] at H
           by_cases c5 : x5 = true
           ·subst c5
            rw [if_pos rfl] at H
            obtain ⟨t1, A1, H⟩ := bd H
            try dsimp only at H
            obtain ⟨t2, A2, H⟩ := bd H
            try dsimp only at H
            obtain ⟨t3, A3, H⟩ := bd H
            try dsimp only at H
            simp only [Option.some.injEq, Prod.mk.injEq] at H
            obtain ⟨rfl, rfl⟩ := H
            try go_wp2
            obtain ⟨K1, K2, K3, HB⟩ := dk3 K1 K2 K3 HB
            refine start_ (n := 13) (S := fun w' => w'.cell? ⟨g1, 0, none⟩ = some (.int .i64 a1_0) ∧ w'.cell? ⟨g1, 1, none⟩ = some (.int .i64 a1_1) ∧ w'.cell? ⟨g2, 0, none⟩ = some (.int .i64 a2_0) ∧ w'.cell? ⟨g2, 1, none⟩ = some (.int .i64 a2_1)) (ds := []) (lb 13 0) (by kernel_rfl) rfl rfl ⟨bc K1 0, bc K1 1, bc K2 0, bc K2 1⟩ (fun hHeld => ?_); refine with_tabW spec_l8Bits.tab11 spec_l8Bits.bits11 (fun HT_ HW_ => ?_)
            generalize wc.drew = w5 at K1 K2 K3 HB hHeld ⊢
            refine pk 0 79 1 ?_
            refine pk 2 81 5 ?_
            refine pk 5 84 37 ?_
            refine pk 7 86 165 ?_
            refine tk 1 80 167 hHeld ?_
            refine tk 3 82 175 hHeld ?_
            refine tk 6 85 239 hHeld ?_
            refine tk 8 87 495 hHeld ?_
            refine on 4 (some 83) 511 fun K hK => ?_
            refine goes_ Try.func69 (by kernel_rfl) rfl #[.int .i64 a1_0, .int .i64 a2_0] (by rfl) rfl rfl mz ?_
            with_reducible refine (spec_l8Max.calls _ _ _ _ A1.out).mono ?_
            rintro e w' ⟨rfl, ⟨nd, rfl⟩⟩
            refine ⟨_, rfl, ?_⟩
            refine kk hK ⟨bc K1 0, bc K1 1, bc K2 0, bc K2 1⟩ fun hHeld => ?_
            clear hK K
            refine on 9 (some 88) 1023 fun K hK => ?_
            refine goes_ Try.func69 (by kernel_rfl) rfl #[.int .i64 a1_1, .int .i64 a2_1] (by rfl) rfl rfl mz ?_
            with_reducible refine (spec_l8Max.calls _ _ _ _ A2.out).mono ?_
            rintro e w' ⟨rfl, ⟨nd, rfl⟩⟩
            refine ⟨_, rfl, ?_⟩
            refine kk hK ⟨bc K1 0, bc K1 1, bc K2 0, bc K2 1⟩ fun hHeld => ?_
            clear hK K
            refine on 10 (some 89) 2047 fun K hK => ?_
            refine goes_ Try.func91 (by kernel_rfl) rfl #[.int .i64 t2] (by rfl) rfl rfl mz ?_
            with_reducible refine (spec_l8Mask.calls _ _ _ _ A3.out).mono ?_
            rintro e w' ⟨rfl, ⟨nd, rfl⟩⟩
            refine ⟨_, rfl, ?_⟩
            refine kk hK ⟨bc K1 0, bc K1 1, bc K2 0, bc K2 1⟩ fun hHeld => ?_
            clear hK K
            refine pk 11 90 4095 ?_
            refine on 12 none 8191 fun K hK => ?_
            have s1 : w5.cell? ⟨g3, 0, none⟩ = some (.int .i64 0) := bc K3 0
            have hfs87 := blk_frozen K3.out 0
            have z_ := ns4 N3 N5 N4 N6
            have s2 : w5.cell? ⟨g3, 1, none⟩ = some (.int .i64 0) := bc K3 1
            have hfs88 := blk_frozen K3.out 1
            have z_ := ns4 N3 N5 N4 N6
            refine skip_ (w1 := ?_) (by rfl) rfl ?_ ?_
            rotate_left
            ·go_simp
             rfl
            refine hK.out _ _ ⟨((cell_far (p := ⟨g3, _, none⟩) N3.out _).trans (((cell_far (p := ⟨g3, _, none⟩) N3.out _).trans (hHeld.1)))), ((cell_far (p := ⟨g3, _, none⟩) N3.out _).trans (((cell_far (p := ⟨g3, _, none⟩) N3.out _).trans (hHeld.2.1)))), ((cell_far (p := ⟨g3, _, none⟩) N5.out _).trans (((cell_far (p := ⟨g3, _, none⟩) N5.out _).trans (hHeld.2.2.1)))), ((cell_far (p := ⟨g3, _, none⟩) N5.out _).trans (((cell_far (p := ⟨g3, _, none⟩) N5.out _).trans (hHeld.2.2.2))))⟩ (fun hHeld => ?_)
            clear hK K
            refine done_ (done_of HT_.out (by kernel_rfl)) ?_
            try go_wp2
            refine bodyPost_ret (results_cell_row rfl _ _ g3 24 #[.int .i64 t1, .int .i64 t3] (0, 0) _ rfl (by refine pf ?_; refine blk_put (cs := #[.int .i64 t1, .int .i64 0]) ?_ 1 _ rfl; refine pf ?_; refine blk_put (cs := #[.int .i64 0, .int .i64 0]) ?_ 0 _ rfl; exact Z K3) Try.underlying24 rfl (by kernel_rfl)) rfl ?_
            exact ⟨ez, YA HB⟩
           replace c5 := Bool.eq_false_iff.mpr c5
           subst c5
           rw [if_neg ff] at H
           have C6 := am H
           clear H
           go_upto_region 12 with (fail)
           go_cut [102] (fun v6 wc => ∃ (kq : Nat) (x6 : Bool), v6 = .bool x6 ∧ Aside0 (spec_l8Bits.j5 kq x6 a1_0 a1_1 a2_0 a2_1 = some (r1, r2)) ∧ Aside0 (kq ≤ k5) ∧ Bx2 wc g1 a1_0 a1_1 24 ∧ Bx2 wc g2 a2_0 a2_1 24 ∧ Bx2 wc g3 0 0 24 ∧ Aside0 (Below w.heap.size w wc))
           case first =>
            have H := C6.out
            clear C6
            by_cases c6 : a1_0 ≥ 0
            rotate_left
            ·rw [if_neg c6] at H
             have d1 := dF c6
             clear c6
             (first | rw [d1] | (simp only [i64_w, i32_w]; rw [d1]) | skip)
             have H' := am H
             clear H
             have z_ := ns2 N1 N3
             have z_ := cB2 K1
             go_wp2
             go_meet
             case rel => exact ⟨_, (false), ey, H', ⟨by have := J1.out; have := J2.out; have := J3.out; have := J4.out; have := J5.out; first | omega | exact Nat.le_refl _⟩, ⟨Z K1⟩, ⟨Z K2⟩, ⟨Z K3⟩, ⟨YA HB⟩⟩
            rw [if_pos c6] at H
            have d1 := dT c6
            clear c6
            (first | rw [d1] | (simp only [i64_w, i32_w]; rw [d1]) | skip)
            by_cases c7 : a2_0 ≥ 0
            ·rw [if_pos c7] at H
             have d2 := dT c7
             clear c7
             have H' := am H
             clear H
             have z_ := ns3 N1 N3 N5
             have z_ := cB2 K1
             have z_ := cB2 K2
             go_wp2
             go_meet
             case rel => exact ⟨_, ((a0 == 8)), ey, H', ⟨by have := J1.out; have := J2.out; have := J3.out; have := J4.out; have := J5.out; first | omega | exact Nat.le_refl _⟩, ⟨Z K1⟩, ⟨Z K2⟩, ⟨Z K3⟩, ⟨YA HB⟩⟩
            rw [if_neg c7] at H
            have d2 := dF c7
            clear c7
            have H' := am H
            clear H
            have z_ := ns3 N1 N3 N5
            have z_ := cB2 K1
            have z_ := cB2 K2
            go_wp2
            go_meet
            case rel => exact ⟨_, (false), ey, H', ⟨by have := J1.out; have := J2.out; have := J3.out; have := J4.out; have := J5.out; first | omega | exact Nat.le_refl _⟩, ⟨Z K1⟩, ⟨Z K2⟩, ⟨Z K3⟩, ⟨YA HB⟩⟩
           case rest =>
            clear C6
            try clear c5
            obtain ⟨kq, x6, rfl, HA, J6, K1, K2, K3, HB⟩ := hcut
            cases kq with
            | zero => exact absurd HA.out (by simp [spec_l8Bits.j5])
            | succ k6 =>
             have H := HA.out
             clear HA
             simp only [spec_l8Bits.j5] at H
             by_cases c6 : x6 = true
             rotate_left
             ·replace c6 := Bool.eq_false_iff.mpr c6
              subst c6
              rw [if_neg ff] at H
              simp only [Option.some.injEq, Prod.mk.injEq] at H
              obtain ⟨rfl, rfl⟩ := H
              have z_ := ns2 N4 N6
              have z_ := cB2 K3
              go_wp2
              refine bodyPost_ret (results_cell_row rfl _ _ g3 24 #[.int .i64 (-2147483648), .int .i64 2147483647] (0, 0) _ rfl (by refine pf ?_; refine blk_put (cs := #[.int .i64 (-2147483648), .int .i64 0]) ?_ 1 _ rfl; refine pf ?_; refine blk_put (cs := #[.int .i64 0, .int .i64 0]) ?_ 0 _ rfl; exact Z K3) Try.underlying24 rfl (by kernel_rfl)) rfl ?_
              exact ⟨ez, YA HB⟩
             subst c6
             rw [if_pos rfl] at H
             obtain ⟨t1, A1, H⟩ := bd H
             try dsimp only at H
             obtain ⟨t2, A2, H⟩ := bd H
             try dsimp only at H
             simp only [Option.some.injEq, Prod.mk.injEq] at H
             obtain ⟨rfl, rfl⟩ := H
             have z_ := ns3 N1 N3 N5
             have z_ := cB2 K1
             have z_ := cB2 K2
             go_wp2_with (first | ((with_reducible refine gate_callee (f := 69) rfl ?_); refine goesL_ (some 107) rfl rfl Try.func69 (by kernel_rfl) rfl #[.int .i64 a1_1, .int .i64 a2_1] rfl mz ?_; (with_reducible refine (spec_l8Max.calls _ _ _ _ A1.out).mono ?_); rintro e w' ⟨rfl, ⟨nd, rfl⟩⟩; refine ⟨_, rfl, ?_⟩; (try (rw [drewN_self wc]; generalize hq_ : World.drewN wc _ = wc; replace K1 : Bx2 wc g1 a1_0 a1_1 24 := ⟨by rw [← hq_]; exact (Z K1)⟩; replace K2 : Bx2 wc g2 a2_0 a2_1 24 := ⟨by rw [← hq_]; exact (Z K2)⟩; replace K3 : Bx2 wc g3 0 0 24 := ⟨by rw [← hq_]; exact (Z K3)⟩; replace HB : Aside0 (Below w.heap.size w wc) := ⟨by rw [← hq_]; exact (YA HB)⟩; clear hq_))) | ((with_reducible refine gate_callee (f := 91) rfl ?_); refine goesL_ (some 108) rfl rfl Try.func91 (by kernel_rfl) rfl #[.int .i64 t1] rfl mz ?_; (with_reducible refine (spec_l8Mask.calls _ _ _ _ A2.out).mono ?_); rintro e w' ⟨rfl, ⟨nd, rfl⟩⟩; refine ⟨_, rfl, ?_⟩; (try (rw [drewN_self wc]; generalize hq_ : World.drewN wc _ = wc; replace K1 : Bx2 wc g1 a1_0 a1_1 24 := ⟨by rw [← hq_]; exact (Z K1)⟩; replace K2 : Bx2 wc g2 a2_0 a2_1 24 := ⟨by rw [← hq_]; exact (Z K2)⟩; replace K3 : Bx2 wc g3 0 0 24 := ⟨by rw [← hq_]; exact (Z K3)⟩; replace HB : Aside0 (Below w.heap.size w wc) := ⟨by rw [← hq_]; exact (YA HB)⟩; clear hq_)); have z_ := cB2 K3))
             refine bodyPost_ret (results_cell_row rfl _ _ g3 24 #[.int .i64 0, .int .i64 t2] (0, 0) _ rfl (by refine pf ?_; refine blk_put (cs := #[.int .i64 0, .int .i64 0]) ?_ 1 _ rfl; refine pf ?_; refine blk_put (cs := #[.int .i64 0, .int .i64 0]) ?_ 0 _ rfl; exact Z K3) Try.underlying24 rfl (by kernel_rfl)) rfl ?_
             exact ⟨ez, YA HB⟩

end Go.Proofs.Ythbkakcchgnhpaa.PFnRangeMore
