/- Written by this session's own driver (wip/dprint.py): the functions that the law FnExactValDo reaches, as Lean functions, each with its contract. -/
import Derived.Test.YthbkakcchgnhpaaPFnExactValDox0
import Derived.Test.YthbkakcchgnhpaaPFnExactValDox1
import Derived.Test.YthbkakcchgnhpaaPFnExactValDox2
import Derived.Test.YthbkakcchgnhpaaSv
namespace Go.Proofs.Ythbkakcchgnhpaa.PFnExactValDo
open Go.RowKit Go.Proofs.YthbkakcchgnhpaaV.PrintWords Go.Proofs.YthbkakcchgnhpaaV.PrintLast Go.Proofs.YthbkakcchgnhpaaV.PrintMore Go.Proofs.YthbkakcchgnhpaaSv
set_option linter.unusedVariables false
set_option linter.unusedSimpArgs false
section
attribute [local go_sem] max2_int min2_int max_two min_two max_three min_three max_four min_four
attribute [local go_sem] Go.Proofs.YthbkakcchgnhpaaSet.isSome_setCell
mutual
def spec_l8Bits.j0 : Nat → Int → Bool → Int → Int → Int → Int → Option (Int × Int)
 | 0, _, _, _, _, _, _ => none
 | k + 1, x1, x2, x3, x4, x5, x6 => if x2 = true then ((spec_l1Bits.f k x1 x3 x5).bind fun t1 => (some (t1, t1))) else (if x1 = 6 then (if x3 ≥ 0 then (spec_l8Bits.j1 k x1 (decide (x5 ≥ 0)) x3 x4 x5 x6) else (spec_l8Bits.j1 k x1 false x3 x4 x5 x6)) else (spec_l8Bits.j1 k x1 false x3 x4 x5 x6))
def spec_l8Bits.j1 : Nat → Int → Bool → Int → Int → Int → Int → Option (Int × Int)
 | 0, _, _, _, _, _, _ => none
 | k + 1, x1, x2, x3, x4, x5, x6 => if x2 = true then ((spec_l8Min.f x4 x6).bind fun t1 => (some (0, t1))) else (if x1 = 6 then (spec_l8Bits.j2 k x1 (decide (x3 ≥ 0)) x3 x4 x5 x6) else (spec_l8Bits.j2 k x1 false x3 x4 x5 x6))
def spec_l8Bits.j2 : Nat → Int → Bool → Int → Int → Int → Int → Option (Int × Int)
 | 0, _, _, _, _, _, _ => none
 | k + 1, x1, x2, x3, x4, x5, x6 => if x2 = true then (some (0, x4)) else (if x1 = 6 then (spec_l8Bits.j3 k x1 (decide (x5 ≥ 0)) x3 x4 x5 x6) else (spec_l8Bits.j3 k x1 false x3 x4 x5 x6))
def spec_l8Bits.j3 : Nat → Int → Bool → Int → Int → Int → Int → Option (Int × Int)
 | 0, _, _, _, _, _, _ => none
 | k + 1, x1, x2, x3, x4, x5, x6 => if x2 = true then (some (0, x6)) else (if x3 ≥ 0 then (if x5 ≥ 0 then (spec_l8Bits.j4 k x1 (x1 == 7) x3 x4 x5 x6) else (spec_l8Bits.j4 k x1 false x3 x4 x5 x6)) else (spec_l8Bits.j4 k x1 false x3 x4 x5 x6))
def spec_l8Bits.j4 : Nat → Int → Bool → Int → Int → Int → Int → Option (Int × Int)
 | 0, _, _, _, _, _, _ => none
 | k + 1, x1, x2, x3, x4, x5, x6 => if x2 = true then ((spec_l8Max.f x3 x5).bind fun t1 => ((spec_l8Max.f x4 x6).bind fun t2 => ((spec_l8Mask.f k t2).bind fun t3 => (some (t1, t3))))) else (if x3 ≥ 0 then (if x5 ≥ 0 then (spec_l8Bits.j5 k (x1 == 8) x3 x4 x5 x6) else (spec_l8Bits.j5 k false x3 x4 x5 x6)) else (spec_l8Bits.j5 k false x3 x4 x5 x6))
def spec_l8Bits.j5 : Nat → Bool → Int → Int → Int → Int → Option (Int × Int)
 | 0, _, _, _, _, _ => none
 | k + 1, x1, x2, x3, x4, x5 => if x1 = true then ((spec_l8Max.f x3 x5).bind fun t1 => ((spec_l8Mask.f k t1).bind fun t2 => (some (0, t2)))) else (some ((-2147483648), 2147483647))
end
def spec_l8Bits.f (k : Nat) (a0 : Int) (a1_0 : Int) (a1_1 : Int) (a2_0 : Int) (a2_1 : Int) : Option (Int × Int) := if a1_0 = a1_1 then (spec_l8Bits.j0 k a0 (a2_0 == a2_1) a1_0 a1_1 a2_0 a2_1) else (spec_l8Bits.j0 k a0 false a1_0 a1_1 a2_0 a2_1)
theorem spec_l8Bits.mono_l : ∀ k, (∀ y0 y1 y2 y3 y4 y5, LeO (spec_l8Bits.j0 k y0 y1 y2 y3 y4 y5) (spec_l8Bits.j0 (k + 1) y0 y1 y2 y3 y4 y5)) ∧ (∀ y0 y1 y2 y3 y4 y5, LeO (spec_l8Bits.j1 k y0 y1 y2 y3 y4 y5) (spec_l8Bits.j1 (k + 1) y0 y1 y2 y3 y4 y5)) ∧ (∀ y0 y1 y2 y3 y4 y5, LeO (spec_l8Bits.j2 k y0 y1 y2 y3 y4 y5) (spec_l8Bits.j2 (k + 1) y0 y1 y2 y3 y4 y5)) ∧ (∀ y0 y1 y2 y3 y4 y5, LeO (spec_l8Bits.j3 k y0 y1 y2 y3 y4 y5) (spec_l8Bits.j3 (k + 1) y0 y1 y2 y3 y4 y5)) ∧ (∀ y0 y1 y2 y3 y4 y5, LeO (spec_l8Bits.j4 k y0 y1 y2 y3 y4 y5) (spec_l8Bits.j4 (k + 1) y0 y1 y2 y3 y4 y5)) ∧ (∀ y0 y1 y2 y3 y4, LeO (spec_l8Bits.j5 k y0 y1 y2 y3 y4) (spec_l8Bits.j5 (k + 1) y0 y1 y2 y3 y4))
 | 0 => ⟨fun _ _ _ _ _ _ r h => by simp [spec_l8Bits.j0] at h, fun _ _ _ _ _ _ r h => by simp [spec_l8Bits.j1] at h, fun _ _ _ _ _ _ r h => by simp [spec_l8Bits.j2] at h, fun _ _ _ _ _ _ r h => by simp [spec_l8Bits.j3] at h, fun _ _ _ _ _ _ r h => by simp [spec_l8Bits.j4] at h, fun _ _ _ _ _ r h => by simp [spec_l8Bits.j5] at h⟩
 | k + 1 => by
  obtain ⟨ih0, ih1, ih2, ih3, ih4, ih5⟩ := spec_l8Bits.mono_l k
  refine ⟨?_, ?_, ?_, ?_, ?_, ?_⟩ <;> (intros; (first | unfold spec_l8Bits.j0 | unfold spec_l8Bits.j1 | unfold spec_l8Bits.j2 | unfold spec_l8Bits.j3 | unfold spec_l8Bits.j4 | unfold spec_l8Bits.j5); repeat' first | (with_reducible first | apply ih0 | apply ih1 | apply ih2 | apply ih3 | apply ih4 | apply ih5 | apply spec_l1Bits.mono | apply spec_l8Mask.mono | apply LeO.refl | apply LeO.none | refine LeO.ite ?_ ?_ | refine LeO.bind ?_ (fun _ => ?_)) | apply ih0 | apply ih1 | apply ih2 | apply ih3 | apply ih4 | apply ih5 | apply spec_l1Bits.mono | apply spec_l8Mask.mono | apply LeO.none | refine LeO.ite ?_ ?_ | refine LeO.bind ?_ (fun _ => ?_))
theorem spec_l8Bits.mono : ∀ a0 a1 a2 a3 a4 k, LeO (spec_l8Bits.f k a0 a1 a2 a3 a4) (spec_l8Bits.f (k + 1) a0 a1 a2 a3 a4) := by
 intro a0 a1 a2 a3 a4 k
 obtain ⟨ih0, ih1, ih2, ih3, ih4, ih5⟩ := spec_l8Bits.mono_l k
 unfold spec_l8Bits.f
 repeat' first | (with_reducible first | apply ih0 | apply ih1 | apply ih2 | apply ih3 | apply ih4 | apply ih5 | apply spec_l1Bits.mono | apply spec_l8Mask.mono | apply LeO.refl | apply LeO.none | refine LeO.ite ?_ ?_ | refine LeO.bind ?_ (fun _ => ?_)) | apply ih0 | apply ih1 | apply ih2 | apply ih3 | apply ih4 | apply ih5 | apply spec_l1Bits.mono | apply spec_l8Mask.mono | apply LeO.none | refine LeO.ite ?_ ?_ | refine LeO.bind ?_ (fun _ => ?_)
def spec_l8Bits.T11 : Bool × List (List Nat × List Nat) := (true, [([], []), ([0], [0]), ([], []), ([2], [2]), ([1, 3], [1, 3]), ([], []), ([5], [5]), ([], []), ([7], [7]), ([6, 8, 4], [6, 8]), ([9, 9], [9]), ([4, 10], [4, 10]), ([11, 10, 0, 1, 2, 3, 4, 5, 6, 7, 8, 9, 10, 11], [11])])
def spec_l8Bits.B11 : List Nat := [0, 1, 0, 4, 15, 0, 32, 0, 128, 511, 1023, 2047, 4095]
theorem spec_l8Bits.tab11 : rtab .any (opsOf Try.f40 11) = spec_l8Bits.T11 := by kernel_rfl
theorem spec_l8Bits.bits11 : waitsOk spec_l8Bits.T11.2 spec_l8Bits.B11 = true := by kernel_rfl
set_option maxHeartbeats 8000000 in
set_option maxRecDepth 100000 in
theorem spec_l8Bits.calls (k : Nat) (a0 : Int) (a1_0 : Int) (a1_1 : Int) (a2_0 : Int) (a2_1 : Int) (r1 : Int) (r2 : Int) (w : World) (h : spec_l8Bits.f k a0 a1_0 a1_1 a2_0 a2_1 = some (r1, r2)) :
  Calls Try.prog 40 #[.int .i64 a0, .agg #[.int .i64 a1_0, .int .i64 a1_1], .agg #[.int .i64 a2_0, .int .i64 a2_1]] w fun e w' => e = .returned (.agg #[.int .i64 r1, .int .i64 r2]) ∧ Below w.heap.size w w' := by
 have hu24 := Try.underlying24
 have HB := am (Below.refl w.heap.size w)
 have H : (if a1_0 = a1_1 then (spec_l8Bits.j0 k a0 (a2_0 == a2_1) a1_0 a1_1 a2_0 a2_1) else (spec_l8Bits.j0 k a0 false a1_0 a1_1 a2_0 a2_1)) = some (r1, r2) := h
 clear h
 have C1 := am H
 clear H
 go_enter Try.func40, Try.ntmps40
 go_upto_region 1 with (first | ((with_reducible refine gate_dst (N := 4) rfl ?_); refine bxn 4 #[.int .i64 a1_0, .int .i64 a1_1] 24 HB fun g1 w2 K1 G1 hg hb => ?_; replace HB := am (below_step (YA HB) hb); clear hb hg) | ((with_reducible refine gate_dst (N := 5) rfl ?_); refine bxn 5 #[.int .i64 a2_0, .int .i64 a2_1] 24 HB fun g2 w3 K2 G2 hg hb => ?_; obtain ⟨N1,N2⟩ := ne_ hg K1; obtain ⟨K1, HB⟩ := bk1 K1 HB hb; clear hb hg) | ((with_reducible refine gate_dst (N := 6) rfl ?_); refine bxn 6 #[.int .i64 0, .int .i64 0] 24 HB fun g3 w4 K3 G3 hg hb => ?_; obtain ⟨N3,N4⟩ := ne_ hg K1; obtain ⟨N5,N6⟩ := ne_ hg K2; obtain ⟨K1, K2, HB⟩ := bk2 K1 K2 HB hb; clear hb hg))
 (try simp only [Act.put, List.setIfInBounds_toArray, List.set_cons_zero, List.set_cons_succ])
 go_cut [19] (fun v1 wc => ∃ (kq : Nat) (x1 : Bool), v1 = .bool x1 ∧ Aside0 (spec_l8Bits.j0 kq a0 x1 a1_0 a1_1 a2_0 a2_1 = some (r1, r2)) ∧ Aside0 (kq ≤ k) ∧ Bx2 wc g1 a1_0 a1_1 24 ∧ Bx2 wc g2 a2_0 a2_1 24 ∧ Bx2 wc g3 0 0 24 ∧ Aside0 (Below w.heap.size w wc))
 case first =>
  have H := C1.out
  clear C1
  by_cases c1 : a1_0 = a1_1
  rotate_left
  ·rw [if_neg c1] at H
   have d1 := eF c1
   have d2 := nT c1
   (first | rw [d1] | (simp only [i64_w, i32_w]; rw [d1]) | skip)
   have H' := am H
   clear H
   have z_ := ns2 N1 N3
   have z_ := cB2 K1
   go_wp2
   go_meet
   case rel => exact ⟨_, (false), ey, H', le0, ⟨Z K1⟩, ⟨Z K2⟩, ⟨Z K3⟩, ⟨YA HB⟩⟩
  rw [if_pos c1] at H
  have d1 := eT c1
  have d2 := nF c1
  clear c1
  (first | rw [d1] | (simp only [i64_w, i32_w]; rw [d1]) | skip)
  have H' := am H
  clear H
  have z_ := ns3 N1 N3 N5
  have z_ := cB2 K1
  have z_ := cB2 K2
  go_wp2
  go_meet
  case rel => exact ⟨_, ((a2_0 == a2_1)), ey, H', le0, ⟨Z K1⟩, ⟨Z K2⟩, ⟨Z K3⟩, ⟨YA HB⟩⟩
 case rest =>
  clear C1
  obtain ⟨kq, x1, rfl, HA, J1, K1, K2, K3, HB⟩ := hcut
  cases kq with
  | zero => exact absurd HA.out (by simp [spec_l8Bits.j0])
  | succ k1 =>
   have H := HA.out
   clear HA
   simp only [spec_l8Bits.j0] at H
   by_cases c1 : x1 = true
   ·subst c1
    rw [if_pos rfl] at H
    obtain ⟨t1, A1, H⟩ := bd H
    try dsimp only at H
    simp only [Option.some.injEq, Prod.mk.injEq] at H
    obtain ⟨rfl, rfl⟩ := H
    have z_ := ns3 N1 N3 N5
    have z_ := cB2 K1
    have z_ := cB2 K2
    go_wp2_with (first | ((with_reducible refine gate_callee (f := 90) rfl ?_); refine goesL_ (some 25) rfl rfl Try.func90 (by kernel_rfl) rfl #[.int .i64 a0, .int .i64 a1_0, .int .i64 a2_0] rfl mz ?_; (with_reducible refine (spec_l1Bits.calls _ _ _ _ _ _ A1.out).mono ?_); rintro e w' ⟨rfl, ⟨nd, rfl⟩⟩; refine ⟨_, rfl, ?_⟩; (try (rw [drewN_self wc]; generalize hq_ : World.drewN wc _ = wc; replace K1 : Bx2 wc g1 a1_0 a1_1 24 := ⟨by rw [← hq_]; exact (Z K1)⟩; replace K2 : Bx2 wc g2 a2_0 a2_1 24 := ⟨by rw [← hq_]; exact (Z K2)⟩; replace K3 : Bx2 wc g3 0 0 24 := ⟨by rw [← hq_]; exact (Z K3)⟩; replace HB : Aside0 (Below w.heap.size w wc) := ⟨by rw [← hq_]; exact (YA HB)⟩; clear hq_)); have z_ := cB2 K3))
    refine bodyPost_ret (results_cell_row rfl _ _ g3 24 #[.int .i64 t1, .int .i64 t1] (0, 0) _ rfl (by refine pf ?_; refine blk_put (cs := #[.int .i64 t1, .int .i64 0]) ?_ 1 _ rfl; refine pf ?_; refine blk_put (cs := #[.int .i64 0, .int .i64 0]) ?_ 0 _ rfl; exact Z K3) Try.underlying24 rfl (by kernel_rfl)) rfl ?_
    exact ⟨ez, YA HB⟩
   replace c1 := Bool.eq_false_iff.mpr c1
   subst c1
   rw [if_neg ff] at H
   have C2 := am H
   clear H
   go_upto_region 4 with (fail)
   go_cut [40] (fun v2 wc => ∃ (kq : Nat) (x2 : Bool), v2 = .bool x2 ∧ Aside0 (spec_l8Bits.j1 kq a0 x2 a1_0 a1_1 a2_0 a2_1 = some (r1, r2)) ∧ Aside0 (kq ≤ k1) ∧ Bx2 wc g1 a1_0 a1_1 24 ∧ Bx2 wc g2 a2_0 a2_1 24 ∧ Bx2 wc g3 0 0 24 ∧ Aside0 (Below w.heap.size w wc))
   case first =>
    have H := C2.out
    clear C2
    by_cases c2 : a0 = 6
    rotate_left
    ·rw [if_neg c2] at H
     have d1 := eF c2
     have d2 := nT c2
     (first | rw [d1] | (simp only [i64_w, i32_w]; rw [d1]) | skip)
     have H' := am H
     clear H
     go_wp2
     go_meet
     case rel => exact ⟨_, (false), ey, H', le1 J1, ⟨Z K1⟩, ⟨Z K2⟩, ⟨Z K3⟩, ⟨YA HB⟩⟩
    rw [if_pos c2] at H
    have d1 := eT c2
    have d2 := nF c2
    clear c2
    (first | rw [d1] | (simp only [i64_w, i32_w]; rw [d1]) | skip)
    by_cases c3 : a1_0 ≥ 0
    rotate_left
    ·rw [if_neg c3] at H
     have d3 := dF c3
     clear c3
     have H' := am H
     clear H
     have z_ := ns2 N1 N3
     have z_ := cB2 K1
     go_wp2
     go_meet
     case rel => exact ⟨_, (false), ey, H', le1 J1, ⟨Z K1⟩, ⟨Z K2⟩, ⟨Z K3⟩, ⟨YA HB⟩⟩
    rw [if_pos c3] at H
    have d3 := dT c3
    clear c3
    have H' := am H
    clear H
    have z_ := ns3 N1 N3 N5
    have z_ := cB2 K1
    have z_ := cB2 K2
    go_wp2
    go_meet
    case rel => exact ⟨_, (decide (a2_0 ≥ 0)), ey, H', le1 J1, ⟨Z K1⟩, ⟨Z K2⟩, ⟨Z K3⟩, ⟨YA HB⟩⟩
   case rest =>
    clear C2
    try clear c1
    obtain ⟨kq, x2, rfl, HA, J2, K1, K2, K3, HB⟩ := hcut
    cases kq with
    | zero => exact absurd HA.out (by simp [spec_l8Bits.j1])
    | succ k2 =>
     have H := HA.out
     clear HA
     simp only [spec_l8Bits.j1] at H
     by_cases c2 : x2 = true
     ·subst c2
      rw [if_pos rfl] at H
      obtain ⟨t1, A1, H⟩ := bd H
      try dsimp only at H
      simp only [Option.some.injEq, Prod.mk.injEq] at H
      obtain ⟨rfl, rfl⟩ := H
      have z_ := ns3 N1 N3 N5
      have z_ := cB2 K1
      have z_ := cB2 K2
      go_wp2_with (first | ((with_reducible refine gate_callee (f := 68) rfl ?_); refine goesL_ (some 45) rfl rfl Try.func68 (by kernel_rfl) rfl #[.int .i64 a1_1, .int .i64 a2_1] rfl mz ?_; (with_reducible refine (spec_l8Min.calls _ _ _ _ A1.out).mono ?_); rintro e w' ⟨rfl, ⟨nd, rfl⟩⟩; refine ⟨_, rfl, ?_⟩; (try (rw [drewN_self wc]; generalize hq_ : World.drewN wc _ = wc; replace K1 : Bx2 wc g1 a1_0 a1_1 24 := ⟨by rw [← hq_]; exact (Z K1)⟩; replace K2 : Bx2 wc g2 a2_0 a2_1 24 := ⟨by rw [← hq_]; exact (Z K2)⟩; replace K3 : Bx2 wc g3 0 0 24 := ⟨by rw [← hq_]; exact (Z K3)⟩; replace HB : Aside0 (Below w.heap.size w wc) := ⟨by rw [← hq_]; exact (YA HB)⟩; clear hq_)); have z_ := cB2 K3))
      refine bodyPost_ret (results_cell_row rfl _ _ g3 24 #[.int .i64 0, .int .i64 t1] (0, 0) _ rfl (by refine pf ?_; refine blk_put (cs := #[.int .i64 0, .int .i64 0]) ?_ 1 _ rfl; refine pf ?_; refine blk_put (cs := #[.int .i64 0, .int .i64 0]) ?_ 0 _ rfl; exact Z K3) Try.underlying24 rfl (by kernel_rfl)) rfl ?_
      exact ⟨ez, YA HB⟩
     replace c2 := Bool.eq_false_iff.mpr c2
     subst c2
     rw [if_neg ff] at H
     have C3 := am H
     clear H
     go_upto_region 6 with (fail)
     go_cut [53] (fun v3 wc => ∃ (kq : Nat) (x3 : Bool), v3 = .bool x3 ∧ Aside0 (spec_l8Bits.j2 kq a0 x3 a1_0 a1_1 a2_0 a2_1 = some (r1, r2)) ∧ Aside0 (kq ≤ k2) ∧ Bx2 wc g1 a1_0 a1_1 24 ∧ Bx2 wc g2 a2_0 a2_1 24 ∧ Bx2 wc g3 0 0 24 ∧ Aside0 (Below w.heap.size w wc))
     case first =>
      have H := C3.out
      clear C3
      by_cases c3 : a0 = 6
      rotate_left
      ·rw [if_neg c3] at H
       have d1 := eF c3
       have d2 := nT c3
       (first | rw [d1] | (simp only [i64_w, i32_w]; rw [d1]) | skip)
       have H' := am H
       clear H
       go_wp2
       go_meet
       case rel => exact ⟨_, (false), ey, H', ⟨by have := J1.out; have := J2.out; first | omega | exact Nat.le_refl _⟩, ⟨Z K1⟩, ⟨Z K2⟩, ⟨Z K3⟩, ⟨YA HB⟩⟩
      rw [if_pos c3] at H
      have d1 := eT c3
      have d2 := nF c3
      clear c3
      (first | rw [d1] | (simp only [i64_w, i32_w]; rw [d1]) | skip)
      have H' := am H
      clear H
      have z_ := ns2 N1 N3
      have z_ := cB2 K1
      go_wp2
      go_meet
      case rel => exact ⟨_, (decide (a1_0 ≥ 0)), ey, H', ⟨by have := J1.out; have := J2.out; first | omega | exact Nat.le_refl _⟩, ⟨Z K1⟩, ⟨Z K2⟩, ⟨Z K3⟩, ⟨YA HB⟩⟩
     case rest =>
      clear C3
      try clear c2
      obtain ⟨kq, x3, rfl, HA, J3, K1, K2, K3, HB⟩ := hcut
      cases kq with
      | zero => exact absurd HA.out (by simp [spec_l8Bits.j2])
      | succ k3 =>
       have H := HA.out
       clear HA
       simp only [spec_l8Bits.j2] at H
       by_cases c3 : x3 = true
       ·subst c3
        rw [if_pos rfl] at H
        simp only [Option.some.injEq, Prod.mk.injEq] at H
        obtain ⟨rfl, rfl⟩ := H
        have z_ := ns3 N1 N3 N6
        have z_ := cB2 K1
        have z_ := cB2 K3
        go_wp2
        refine bodyPost_ret (results_cell_row rfl _ _ g3 24 #[.int .i64 0, .int .i64 a1_1] (0, 0) _ rfl (by refine pf ?_; refine blk_put (cs := #[.int .i64 0, .int .i64 0]) ?_ 1 _ rfl; refine pf ?_; refine blk_put (cs := #[.int .i64 0, .int .i64 0]) ?_ 0 _ rfl; exact Z K3) Try.underlying24 rfl (by kernel_rfl)) rfl ?_
        exact ⟨ez, YA HB⟩
       replace c3 := Bool.eq_false_iff.mpr c3
       subst c3
       rw [if_neg ff] at H
       have C4 := am H
       clear H
       go_upto_region 8 with (fail)
       go_cut [63] (fun v4 wc => ∃ (kq : Nat) (x4 : Bool), v4 = .bool x4 ∧ Aside0 (spec_l8Bits.j3 kq a0 x4 a1_0 a1_1 a2_0 a2_1 = some (r1, r2)) ∧ Aside0 (kq ≤ k3) ∧ Bx2 wc g1 a1_0 a1_1 24 ∧ Bx2 wc g2 a2_0 a2_1 24 ∧ Bx2 wc g3 0 0 24 ∧ Aside0 (Below w.heap.size w wc))
       case first =>
        have H := C4.out
        clear C4
        by_cases c4 : a0 = 6
        rotate_left
        ·rw [if_neg c4] at H
         have d1 := eF c4
         have d2 := nT c4
         (first | rw [d1] | (simp only [i64_w, i32_w]; rw [d1]) | skip)
         have H' := am H
         clear H
         go_wp2
         go_meet
         case rel => exact ⟨_, (false), ey, H', ⟨by have := J1.out; have := J2.out; have := J3.out; first | omega | exact Nat.le_refl _⟩, ⟨Z K1⟩, ⟨Z K2⟩, ⟨Z K3⟩, ⟨YA HB⟩⟩
        rw [if_pos c4] at H
        have d1 := eT c4
        have d2 := nF c4
        clear c4
        (first | rw [d1] | (simp only [i64_w, i32_w]; rw [d1]) | skip)
        have H' := am H
        clear H
        have z_ := ns2 N2 N5
        have z_ := cB2 K2
        go_wp2
        go_meet
        case rel => exact ⟨_, (decide (a2_0 ≥ 0)), ey, H', ⟨by have := J1.out; have := J2.out; have := J3.out; first | omega | exact Nat.le_refl _⟩, ⟨Z K1⟩, ⟨Z K2⟩, ⟨Z K3⟩, ⟨YA HB⟩⟩
       case rest =>
        clear C4
        try clear c3
        obtain ⟨kq, x4, rfl, HA, J4, K1, K2, K3, HB⟩ := hcut
        cases kq with
        | zero => exact absurd HA.out (by simp [spec_l8Bits.j3])
        | succ k4 =>
         have H := HA.out
         clear HA
         simp only [spec_l8Bits.j3] at H
         by_cases c4 : x4 = true
         ·subst c4
          rw [if_pos rfl] at H
          simp only [Option.some.injEq, Prod.mk.injEq] at H
          obtain ⟨rfl, rfl⟩ := H
          have z_ := ns3 N2 N5 N4
          have z_ := cB2 K2
          have z_ := cB2 K3
          go_wp2
          refine bodyPost_ret (results_cell_row rfl _ _ g3 24 #[.int .i64 0, .int .i64 a2_1] (0, 0) _ rfl (by refine pf ?_; refine blk_put (cs := #[.int .i64 0, .int .i64 0]) ?_ 1 _ rfl; refine pf ?_; refine blk_put (cs := #[.int .i64 0, .int .i64 0]) ?_ 0 _ rfl; exact Z K3) Try.underlying24 rfl (by kernel_rfl)) rfl ?_
          exact ⟨ez, YA HB⟩
         replace c4 := Bool.eq_false_iff.mpr c4
         subst c4
         rw [if_neg ff] at H
         have C5 := am H
         clear H
         go_upto_region 10 with (fail)
         go_cut [78] (fun v5 wc => ∃ (kq : Nat) (x5 : Bool), v5 = .bool x5 ∧ Aside0 (spec_l8Bits.j4 kq a0 x5 a1_0 a1_1 a2_0 a2_1 = some (r1, r2)) ∧ Aside0 (kq ≤ k4) ∧ Bx2 wc g1 a1_0 a1_1 24 ∧ Bx2 wc g2 a2_0 a2_1 24 ∧ Bx2 wc g3 0 0 24 ∧ Aside0 (Below w.heap.size w wc))
         case first =>
          have H := C5.out
          clear C5
          by_cases c5 : a1_0 ≥ 0
          rotate_left
          ·rw [if_neg c5] at H
           have d1 := dF c5
           clear c5
           (first | rw [d1] | (simp only [i64_w, i32_w]; rw [d1]) | skip)
           have H' := am H
           clear H
           have z_ := ns2 N1 N3
           have z_ := cB2 K1
           go_wp2
           go_meet
           case rel => exact ⟨_, (false), ey, H', ⟨by have := J1.out; have := J2.out; have := J3.out; have := J4.out; first | omega | exact Nat.le_refl _⟩, ⟨Z K1⟩, ⟨Z K2⟩, ⟨Z K3⟩, ⟨YA HB⟩⟩
          rw [if_pos c5] at H
          have d1 := dT c5
          clear c5
          (first | rw [d1] | (simp only [i64_w, i32_w]; rw [d1]) | skip)
          by_cases c6 : a2_0 ≥ 0
          rotate_left
          ·rw [if_neg c6] at H
           have d2 := dF c6
           clear c6
           have H' := am H
           clear H
           have z_ := ns3 N1 N3 N5
           have z_ := cB2 K1
           have z_ := cB2 K2
           go_wp2
           go_meet
           case rel => exact ⟨_, (false), ey, H', ⟨by have := J1.out; have := J2.out; have := J3.out; have := J4.out; first | omega | exact Nat.le_refl _⟩, ⟨Z K1⟩, ⟨Z K2⟩, ⟨Z K3⟩, ⟨YA HB⟩⟩
          rw [if_pos c6] at H
          have d2 := dT c6
          clear c6
          have H' := am H
          clear H
          have z_ := ns3 N1 N3 N5
          have z_ := cB2 K1
          have z_ := cB2 K2
          go_wp2
          go_meet
          case rel => exact ⟨_, ((a0 == 7)), ey, H', ⟨by have := J1.out; have := J2.out; have := J3.out; have := J4.out; first | omega | exact Nat.le_refl _⟩, ⟨Z K1⟩, ⟨Z K2⟩, ⟨Z K3⟩, ⟨YA HB⟩⟩
         case rest =>
          clear C5
          try clear c4
          obtain ⟨kq, x5, rfl, HA, J5, K1, K2, K3, HB⟩ := hcut
          cases kq with
          | zero => exact absurd HA.out (by simp [spec_l8Bits.j4])
          | succ k5 =>
           have H := HA.out
           clear HA
           simp only [spec_l8Bits.j4] at H
           by_cases c5 : x5 = true
           ·subst c5
            rw [if_pos rfl] at H
            obtain ⟨t1, A1, H⟩ := bd H
            try dsimp only at H
            obtain ⟨t2, A2, H⟩ := bd H
            try dsimp only at H
            obtain ⟨t3, A3, H⟩ := bd H
            try dsimp only at H
            simp only [Option.some.injEq, Prod.mk.injEq] at H
            obtain ⟨rfl, rfl⟩ := H
            try go_wp2
            obtain ⟨K1, K2, K3, HB⟩ := dk3 K1 K2 K3 HB
            refine start_ (n := 13) (S := fun w' => w'.cell? ⟨g1, 0, none⟩ = some (.int .i64 a1_0) ∧ w'.cell? ⟨g1, 1, none⟩ = some (.int .i64 a1_1) ∧ w'.cell? ⟨g2, 0, none⟩ = some (.int .i64 a2_0) ∧ w'.cell? ⟨g2, 1, none⟩ = some (.int .i64 a2_1)) (ds := []) (lb 13 0) (by kernel_rfl) rfl rfl ⟨bc K1 0, bc K1 1, bc K2 0, bc K2 1⟩ (fun hHeld => ?_); refine with_tabW spec_l8Bits.tab11 spec_l8Bits.bits11 (fun HT_ HW_ => ?_)
            generalize wc.drew = w5 at K1 K2 K3 HB hHeld ⊢
            refine pk 0 79 1 ?_
            refine pk 2 81 5 ?_
            refine pk 5 84 37 ?_
            refine pk 7 86 165 ?_
            refine tk 1 80 167 hHeld ?_
            refine tk 3 82 175 hHeld ?_
            refine tk 6 85 239 hHeld ?_
            refine tk 8 87 495 hHeld ?_
            refine on 4 (some 83) 511 fun K hK => ?_
            refine goes_ Try.func69 (by kernel_rfl) rfl #[.int .i64 a1_0, .int .i64 a2_0] (by rfl) rfl rfl mz ?_
            with_reducible refine (spec_l8Max.calls _ _ _ _ A1.out).mono ?_
            rintro e w' ⟨rfl, ⟨nd, rfl⟩⟩
            refine ⟨_, rfl, ?_⟩
            refine kk hK ⟨bc K1 0, bc K1 1, bc K2 0, bc K2 1⟩ fun hHeld => ?_
            clear hK K
            refine on 9 (some 88) 1023 fun K hK => ?_
            refine goes_ Try.func69 (by kernel_rfl) rfl #[.int .i64 a1_1, .int .i64 a2_1] (by rfl) rfl rfl mz ?_
            with_reducible refine (spec_l8Max.calls _ _ _ _ A2.out).mono ?_
            rintro e w' ⟨rfl, ⟨nd, rfl⟩⟩
            refine ⟨_, rfl, ?_⟩
            refine kk hK ⟨bc K1 0, bc K1 1, bc K2 0, bc K2 1⟩ fun hHeld => ?_
            clear hK K
            refine on 10 (some 89) 2047 fun K hK => ?_
            refine goes_ Try.func91 (by kernel_rfl) rfl #[.int .i64 t2] (by rfl) rfl rfl mz ?_
            with_reducible refine (spec_l8Mask.calls _ _ _ _ A3.out).mono ?_
            rintro e w' ⟨rfl, ⟨nd, rfl⟩⟩
            refine ⟨_, rfl, ?_⟩
            refine kk hK ⟨bc K1 0, bc K1 1, bc K2 0, bc K2 1⟩ fun hHeld => ?_
            clear hK K
            refine pk 11 90 4095 ?_
            refine on 12 none 8191 fun K hK => ?_
            have s1 : w5.cell? ⟨g3, 0, none⟩ = some (.int .i64 0) := bc K3 0
            have hfs87 := blk_frozen K3.out 0
            have z_ := ns4 N3 N5 N4 N6
            have s2 : w5.cell? ⟨g3, 1, none⟩ = some (.int .i64 0) := bc K3 1
            have hfs88 := blk_frozen K3.out 1
            have z_ := ns4 N3 N5 N4 N6
            refine skip_ (w1 := ?_) (by rfl) rfl ?_ ?_
            rotate_left
            ·go_simp
             rfl
            refine hK.out _ _ ⟨(cf N3 ((cf N3 (hHeld.1)))), (cf N3 ((cf N3 (hHeld.2.1)))), (cf N5 ((cf N5 (hHeld.2.2.1)))), (cf N5 ((cf N5 (hHeld.2.2.2))))⟩ (fun hHeld => ?_)
            clear hK K
            refine done_ (done_of HT_.out (by kernel_rfl)) ?_
            try go_wp2
            refine bodyPost_ret (results_cell_row rfl _ _ g3 24 #[.int .i64 t1, .int .i64 t3] (0, 0) _ rfl (by refine pf ?_; refine blk_put (cs := #[.int .i64 t1, .int .i64 0]) ?_ 1 _ rfl; refine pf ?_; refine blk_put (cs := #[.int .i64 0, .int .i64 0]) ?_ 0 _ rfl; exact Z K3) Try.underlying24 rfl (by kernel_rfl)) rfl ?_
            exact ⟨ez, YA HB⟩
           replace c5 := Bool.eq_false_iff.mpr c5
           subst c5
           rw [if_neg ff] at H
           have C6 := am H
           clear H
           go_upto_region 12 with (fail)
           go_cut [102] (fun v6 wc => ∃ (kq : Nat) (x6 : Bool), v6 = .bool x6 ∧ Aside0 (spec_l8Bits.j5 kq x6 a1_0 a1_1 a2_0 a2_1 = some (r1, r2)) ∧ Aside0 (kq ≤ k5) ∧ Bx2 wc g1 a1_0 a1_1 24 ∧ Bx2 wc g2 a2_0 a2_1 24 ∧ Bx2 wc g3 0 0 24 ∧ Aside0 (Below w.heap.size w wc))
           case first =>
            have H := C6.out
            clear C6
            by_cases c6 : a1_0 ≥ 0
            rotate_left
            ·rw [if_neg c6] at H
             have d1 := dF c6
             clear c6
             (first | rw [d1] | (simp only [i64_w, i32_w]; rw [d1]) | skip)
             have H' := am H
             clear H
             have z_ := ns2 N1 N3
             have z_ := cB2 K1
             go_wp2
             go_meet
             case rel => exact ⟨_, (false), ey, H', ⟨by have := J1.out; have := J2.out; have := J3.out; have := J4.out; have := J5.out; first | omega | exact Nat.le_refl _⟩, ⟨Z K1⟩, ⟨Z K2⟩, ⟨Z K3⟩, ⟨YA HB⟩⟩
            rw [if_pos c6] at H
            have d1 := dT c6
            clear c6
            (first | rw [d1] | (simp only [i64_w, i32_w]; rw [d1]) | skip)
            by_cases c7 : a2_0 ≥ 0
            ·rw [if_pos c7] at H
             have d2 := dT c7
             clear c7
             have H' := am H
             clear H
             have z_ := ns3 N1 N3 N5
             have z_ := cB2 K1
             have z_ := cB2 K2
             go_wp2
             go_meet
             case rel => exact ⟨_, ((a0 == 8)), ey, H', ⟨by have := J1.out; have := J2.out; have := J3.out; have := J4.out; have := J5.out; first | omega | exact Nat.le_refl _⟩, ⟨Z K1⟩, ⟨Z K2⟩, ⟨Z K3⟩, ⟨YA HB⟩⟩
            rw [if_neg c7] at H
            have d2 := dF c7
            clear c7
            have H' := am H
            clear H
            have z_ := ns3 N1 N3 N5
            have z_ := cB2 K1
            have z_ := cB2 K2
            go_wp2
            go_meet
            case rel => exact ⟨_, (false), ey, H', ⟨by have := J1.out; have := J2.out; have := J3.out; have := J4.out; have := J5.out; first | omega | exact Nat.le_refl _⟩, ⟨Z K1⟩, ⟨Z K2⟩, ⟨Z K3⟩, ⟨YA HB⟩⟩
           case rest =>
            clear C6
            try clear c5
            obtain ⟨kq, x6, rfl, HA, J6, K1, K2, K3, HB⟩ := hcut
            cases kq with
            | zero => exact absurd HA.out (by simp [spec_l8Bits.j5])
            | succ k6 =>
             have H := HA.out
             clear HA
             simp only [spec_l8Bits.j5] at H
             by_cases c6 : x6 = true
             rotate_left
             ·replace c6 := Bool.eq_false_iff.mpr c6
              subst c6
              rw [if_neg ff] at H
              simp only [Option.some.injEq, Prod.mk.injEq] at H
              obtain ⟨rfl, rfl⟩ := H
              have z_ := ns2 N4 N6
              have z_ := cB2 K3
              go_wp2
              refine bodyPost_ret (results_cell_row rfl _ _ g3 24 #[.int .i64 (-2147483648), .int .i64 2147483647] (0, 0) _ rfl (by refine pf ?_; refine blk_put (cs := #[.int .i64 (-2147483648), .int .i64 0]) ?_ 1 _ rfl; refine pf ?_; refine blk_put (cs := #[.int .i64 0, .int .i64 0]) ?_ 0 _ rfl; exact Z K3) Try.underlying24 rfl (by kernel_rfl)) rfl ?_
              exact ⟨ez, YA HB⟩
             subst c6
             rw [if_pos rfl] at H
             obtain ⟨t1, A1, H⟩ := bd H
             try dsimp only at H
             obtain ⟨t2, A2, H⟩ := bd H
             try dsimp only at H
             simp only [Option.some.injEq, Prod.mk.injEq] at H
             obtain ⟨rfl, rfl⟩ := H
             have z_ := ns3 N1 N3 N5
             have z_ := cB2 K1
             have z_ := cB2 K2
             go_wp2_with (first | ((with_reducible refine gate_callee (f := 69) rfl ?_); refine goesL_ (some 107) rfl rfl Try.func69 (by kernel_rfl) rfl #[.int .i64 a1_1, .int .i64 a2_1] rfl mz ?_; (with_reducible refine (spec_l8Max.calls _ _ _ _ A1.out).mono ?_); rintro e w' ⟨rfl, ⟨nd, rfl⟩⟩; refine ⟨_, rfl, ?_⟩; (try (rw [drewN_self wc]; generalize hq_ : World.drewN wc _ = wc; replace K1 : Bx2 wc g1 a1_0 a1_1 24 := ⟨by rw [← hq_]; exact (Z K1)⟩; replace K2 : Bx2 wc g2 a2_0 a2_1 24 := ⟨by rw [← hq_]; exact (Z K2)⟩; replace K3 : Bx2 wc g3 0 0 24 := ⟨by rw [← hq_]; exact (Z K3)⟩; replace HB : Aside0 (Below w.heap.size w wc) := ⟨by rw [← hq_]; exact (YA HB)⟩; clear hq_))) | ((with_reducible refine gate_callee (f := 91) rfl ?_); refine goesL_ (some 108) rfl rfl Try.func91 (by kernel_rfl) rfl #[.int .i64 t1] rfl mz ?_; (with_reducible refine (spec_l8Mask.calls _ _ _ _ A2.out).mono ?_); rintro e w' ⟨rfl, ⟨nd, rfl⟩⟩; refine ⟨_, rfl, ?_⟩; (try (rw [drewN_self wc]; generalize hq_ : World.drewN wc _ = wc; replace K1 : Bx2 wc g1 a1_0 a1_1 24 := ⟨by rw [← hq_]; exact (Z K1)⟩; replace K2 : Bx2 wc g2 a2_0 a2_1 24 := ⟨by rw [← hq_]; exact (Z K2)⟩; replace K3 : Bx2 wc g3 0 0 24 := ⟨by rw [← hq_]; exact (Z K3)⟩; replace HB : Aside0 (Below w.heap.size w wc) := ⟨by rw [← hq_]; exact (YA HB)⟩; clear hq_)); have z_ := cB2 K3))
             refine bodyPost_ret (results_cell_row rfl _ _ g3 24 #[.int .i64 0, .int .i64 t2] (0, 0) _ rfl (by refine pf ?_; refine blk_put (cs := #[.int .i64 0, .int .i64 0]) ?_ 1 _ rfl; refine pf ?_; refine blk_put (cs := #[.int .i64 0, .int .i64 0]) ?_ 0 _ rfl; exact Z K3) Try.underlying24 rfl (by kernel_rfl)) rfl ?_
             exact ⟨ez, YA HB⟩
end
section
attribute [local go_sem] max2_int min2_int max_two min_two max_three min_three max_four min_four
attribute [local go_sem] Go.Proofs.YthbkakcchgnhpaaSet.isSome_setCell
def spec_l8Wrapped.j0 : Nat → Int → Int → Bool → Option (Int × Int)
 | 0, _, _, _ => none
 | k + 1, x1, x2, x3 => if x3 = true then (some ((-2147483648), 2147483647)) else ((spec_NumWrap.f x1).bind fun t1 => ((spec_NumWrap.f x2).bind fun t2 => (some (t1, t2))))
def spec_l8Wrapped.f (k : Nat) (a0 : Int) (a1 : Int) : Option (Int × Int) := if (wrap64 (a1 - a0)) > 4294967295 then (spec_l8Wrapped.j0 k a0 a1 true) else ((spec_NumWrap.f a0).bind fun t1 => ((spec_NumWrap.f a1).bind fun t2 => (spec_l8Wrapped.j0 k a0 a1 (decide (t1 > t2)))))
theorem spec_l8Wrapped.mono_l : ∀ k, (∀ y0 y1 y2, LeO (spec_l8Wrapped.j0 k y0 y1 y2) (spec_l8Wrapped.j0 (k + 1) y0 y1 y2))
 | 0 => fun _ _ _ r h => by simp [spec_l8Wrapped.j0] at h
 | k + 1 => by
  have ih0 := spec_l8Wrapped.mono_l k
  ·intro y0 y1 y2
   unfold spec_l8Wrapped.j0
   repeat' first | (with_reducible first | apply ih0 | apply LeO.refl | apply LeO.none | refine LeO.ite ?_ ?_ | refine LeO.bind ?_ (fun _ => ?_)) | apply ih0 | apply LeO.none | refine LeO.ite ?_ ?_ | refine LeO.bind ?_ (fun _ => ?_)
theorem spec_l8Wrapped.mono : ∀ a0 a1 k, LeO (spec_l8Wrapped.f k a0 a1) (spec_l8Wrapped.f (k + 1) a0 a1) := by
 intro a0 a1 k
 have ih0 := spec_l8Wrapped.mono_l k
 unfold spec_l8Wrapped.f
 repeat' first | (with_reducible first | apply ih0 | apply LeO.refl | apply LeO.none | refine LeO.ite ?_ ?_ | refine LeO.bind ?_ (fun _ => ?_)) | apply ih0 | apply LeO.none | refine LeO.ite ?_ ?_ | refine LeO.bind ?_ (fun _ => ?_)
set_option maxHeartbeats 8000000 in
set_option maxRecDepth 100000 in
theorem spec_l8Wrapped.calls (k : Nat) (a0 : Int) (a1 : Int) (r1 : Int) (r2 : Int) (w : World) (h : spec_l8Wrapped.f k a0 a1 = some (r1, r2)) :
  Calls Try.prog 43 #[.int .i64 a0, .int .i64 a1] w fun e w' => e = .returned (.agg #[.int .i64 r1, .int .i64 r2]) ∧ Below w.heap.size w w' := by
 have hu24 := Try.underlying24
 have HB := am (Below.refl w.heap.size w)
 have H : (if (wrap64 (a1 - a0)) > 4294967295 then (spec_l8Wrapped.j0 k a0 a1 true) else ((spec_NumWrap.f a0).bind fun t1 => ((spec_NumWrap.f a1).bind fun t2 => (spec_l8Wrapped.j0 k a0 a1 (decide (t1 > t2)))))) = some (r1, r2) := h
 clear h
 have C1 := am H
 clear H
 go_enter Try.func43, Try.ntmps43
 go_upto_region 1 with (first | ((with_reducible refine gate_dst (N := 4) rfl ?_); refine bxn 4 #[.int .i64 0, .int .i64 0] 24 HB fun g1 w1 K1 G1 hg hb => ?_; replace HB := am (below_step (YA HB) hb); clear hb hg))
 (try simp only [Act.put, List.setIfInBounds_toArray, List.set_cons_zero, List.set_cons_succ])
 go_cut [15] (fun v1 wc => ∃ (kq : Nat) (x1 : Bool), v1 = .bool x1 ∧ Aside0 (spec_l8Wrapped.j0 kq a0 a1 x1 = some (r1, r2)) ∧ Aside0 (kq ≤ k) ∧ Bx2 wc g1 0 0 24 ∧ Aside0 (Below w.heap.size w wc))
 case first =>
  have H := C1.out
  clear C1
  by_cases c1 : (wrap64 (a1 - a0)) > 4294967295
  ·rw [if_pos c1] at H
   have d1 := dT c1
   clear c1
   (first | rw [d1] | (simp only [i64_w, i32_w]; rw [d1]) | skip)
   have H' := am H
   clear H
   go_wp2
   go_meet
   case rel => exact ⟨_, (true), ey, H', le0, ⟨Z K1⟩, ⟨YA HB⟩⟩
  rw [if_neg c1] at H
  have d1 := dF c1
  clear c1
  (first | rw [d1] | (simp only [i64_w, i32_w]; rw [d1]) | skip)
  obtain ⟨t1, A1, H⟩ := bd H
  try dsimp only at H
  obtain ⟨t2, A2, H⟩ := bd H
  try dsimp only at H
  have H' := am H
  clear H
  go_wp2_with (first | (go_at_call 64; (with_reducible refine (spec_NumWrap.calls _ _ _ A1.out).mono ?_); rintro e w' ⟨rfl, ⟨nd, rfl⟩⟩) | (go_at_call 64; (with_reducible refine (spec_NumWrap.calls _ _ _ A2.out).mono ?_); rintro e w' ⟨rfl, ⟨nd, rfl⟩⟩))
  go_meet
  case rel => exact ⟨_, (decide (t1 > t2)), ey, H', le0, ⟨Z K1⟩, ⟨YA HB⟩⟩
 case rest =>
  clear C1
  obtain ⟨kq, x1, rfl, HA, J1, K1, HB⟩ := hcut
  cases kq with
  | zero => exact absurd HA.out (by simp [spec_l8Wrapped.j0])
  | succ k1 =>
   have H := HA.out
   clear HA
   simp only [spec_l8Wrapped.j0] at H
   by_cases c1 : x1 = true
   ·subst c1
    rw [if_pos rfl] at H
    simp only [Option.some.injEq, Prod.mk.injEq] at H
    obtain ⟨rfl, rfl⟩ := H
    have z_ := cB2 K1
    go_wp2
    refine bodyPost_ret (results_cell_row rfl _ _ g1 24 #[.int .i64 (-2147483648), .int .i64 2147483647] (0, 0) _ rfl (by refine pf ?_; refine blk_put (cs := #[.int .i64 (-2147483648), .int .i64 0]) ?_ 1 _ rfl; refine pf ?_; refine blk_put (cs := #[.int .i64 0, .int .i64 0]) ?_ 0 _ rfl; exact Z K1) Try.underlying24 rfl (by kernel_rfl)) rfl ?_
    exact ⟨ez, YA HB⟩
   replace c1 := Bool.eq_false_iff.mpr c1
   subst c1
   rw [if_neg ff] at H
   obtain ⟨t3, A1, H⟩ := bd H
   try dsimp only at H
   obtain ⟨t4, A2, H⟩ := bd H
   try dsimp only at H
   simp only [Option.some.injEq, Prod.mk.injEq] at H
   obtain ⟨rfl, rfl⟩ := H
   go_wp2_with (first | ((with_reducible refine gate_callee (f := 64) rfl ?_); refine goesL_ (some 18) rfl rfl Try.func64 (by kernel_rfl) rfl #[.int .i64 a0] rfl mz ?_; (with_reducible refine (spec_NumWrap.calls _ _ _ A1.out).mono ?_); rintro e w' ⟨rfl, ⟨nd, rfl⟩⟩; refine ⟨_, rfl, ?_⟩; (try (rw [drewN_self wc]; generalize hq_ : World.drewN wc _ = wc; replace K1 : Bx2 wc g1 0 0 24 := ⟨by rw [← hq_]; exact (Z K1)⟩; replace HB : Aside0 (Below w.heap.size w wc) := ⟨by rw [← hq_]; exact (YA HB)⟩; clear hq_))) | ((with_reducible refine gate_callee (f := 64) rfl ?_); refine goesL_ (some 20) rfl rfl Try.func64 (by kernel_rfl) rfl #[.int .i64 a1] rfl mz ?_; (with_reducible refine (spec_NumWrap.calls _ _ _ A2.out).mono ?_); rintro e w' ⟨rfl, ⟨nd, rfl⟩⟩; refine ⟨_, rfl, ?_⟩; (try (rw [drewN_self wc]; generalize hq_ : World.drewN wc _ = wc; replace K1 : Bx2 wc g1 0 0 24 := ⟨by rw [← hq_]; exact (Z K1)⟩; replace HB : Aside0 (Below w.heap.size w wc) := ⟨by rw [← hq_]; exact (YA HB)⟩; clear hq_)); have z_ := cB2 K1))
   refine bodyPost_ret (results_cell_row rfl _ _ g1 24 #[.int .i64 t3, .int .i64 t4] (0, 0) _ rfl (by refine pf ?_; refine blk_put (cs := #[.int .i64 t3, .int .i64 0]) ?_ 1 _ rfl; refine pf ?_; refine blk_put (cs := #[.int .i64 0, .int .i64 0]) ?_ 0 _ rfl; exact Z K1) Try.underlying24 rfl (by kernel_rfl)) rfl ?_
   exact ⟨ez, YA HB⟩
end
section
attribute [local go_sem] max2_int min2_int max_two min_two max_three min_three max_four min_four
attribute [local go_sem high] eqA24
attribute [local go_sem] Go.Proofs.YthbkakcchgnhpaaSet.isSome_setCell
mutual
def spec_RangeDo.j0 : Nat → Int → List Int → Bool → Int → Int → Int → Int → Option (Int × Int × List Int)
 | 0, _, _, _, _, _, _, _ => none
 | k + 1, x1, x2, x3, x4, x5, x6, x7 => if x3 = true then ((spec_l8None.f).bind fun u1 => (some (u1.1, u1.2, x2))) else (if x1 = 4 then (spec_RangeDo.j1 k x1 x2 true x4 x5 x6 x7) else (spec_RangeDo.j1 k x1 x2 (x1 == 5) x4 x5 x6 x7))
def spec_RangeDo.j1 : Nat → Int → List Int → Bool → Int → Int → Int → Int → Option (Int × Int × List Int)
 | 0, _, _, _, _, _, _, _ => none
 | k + 1, x1, x2, x3, x4, x5, x6, x7 => if x3 = true then ((spec_l8Div.f k x1 x4 x5 x6 x7).bind fun u1 => (some (u1.1, u1.2.1, u1.2.2))) else ((spec_l1In.f x1 6 8).bind fun t1 => (if t1 = true then ((spec_l8Bits.f k x1 x4 x5 x6 x7).bind fun u2 => (some (u2.1, u2.2, x2))) else (if x1 = 9 then (spec_RangeDo.j2 k x1 x2 true x4 x5 x6 x7 x6 x7) else (spec_RangeDo.j2 k x1 x2 (x1 == 10) x4 x5 x6 x7 x6 x7))))
def spec_RangeDo.j2 : Nat → Int → List Int → Bool → Int → Int → Int → Int → Int → Int → Option (Int × Int × List Int)
 | 0, _, _, _, _, _, _, _, _, _ => none
 | k + 1, x1, x2, x3, x4, x5, x6, x7, x8, x9 => if x3 = true then ((spec_RangeMeet.f k x6 x7 0 31).bind fun u1 => (spec_RangeDo.j3 k x1 x2 x3 x4 x5 x6 x7 u1.1 u1.2)) else (spec_RangeDo.j3 k x1 x2 x3 x4 x5 x6 x7 x8 x9)
def spec_RangeDo.j3 : Nat → Int → List Int → Bool → Int → Int → Int → Int → Int → Int → Option (Int × Int × List Int)
 | 0, _, _, _, _, _, _, _, _, _ => none
 | k + 1, x1, x2, x3, x4, x5, x6, x7, x8, x9 => (spec_l8None.f).bind fun u1 => (if (!(x8 == u1.1) || (!(x9 == u1.2))) = true then ((spec_l8R_corners.f k false 0 0 x1 x4 x5 x8 x9).bind fun u2 => (spec_RangeDo.j4 k x1 x2 x3 x6 x7 x8 x9 u2.1 u2.2.1 u2.2.2)) else (spec_RangeDo.j4 k x1 x2 x3 x6 x7 x8 x9 false 0 0))
def spec_RangeDo.j4 : Nat → Int → List Int → Bool → Int → Int → Int → Int → Bool → Int → Int → Option (Int × Int × List Int)
 | 0, _, _, _, _, _, _, _, _, _, _ => none
 | k + 1, x1, x2, x3, x4, x5, x6, x7, x8, x9, x10 => if x1 ≥ 11 then ((spec_l8Wrapped.f k x9 x10).bind fun u1 => (some (u1.1, u1.2, x2))) else (if x8 = true then (if x9 < (-2147483648) then (spec_RangeDo.j5 k x2 x3 true x4 x5 x6 x7 x8 x9 x10) else (spec_RangeDo.j5 k x2 x3 (decide (x10 > 2147483647)) x4 x5 x6 x7 x8 x9 x10)) else (spec_RangeDo.j5 k x2 x3 false x4 x5 x6 x7 x8 x9 x10))
def spec_RangeDo.j5 : Nat → List Int → Bool → Bool → Int → Int → Int → Int → Bool → Int → Int → Option (Int × Int × List Int)
 | 0, _, _, _, _, _, _, _, _, _, _ => none
 | k + 1, x1, x2, x3, x4, x5, x6, x7, x8, x9, x10 => if x3 = true then (if x1.length < 17592186044416 then (spec_RangeDo.j6 k (x1 ++ [1]) x2 x4 x5 x6 x7 x8 x9 x10) else (none)) else (spec_RangeDo.j6 k x1 x2 x4 x5 x6 x7 x8 x9 x10)
def spec_RangeDo.j6 : Nat → List Int → Bool → Int → Int → Int → Int → Bool → Int → Int → Option (Int × Int × List Int)
 | 0, _, _, _, _, _, _, _, _, _ => none
 | k + 1, x1, x2, x3, x4, x5, x6, x7, x8, x9 => if x2 = true then (spec_RangeDo.j7 k x1 (!(x5 == x3) || (!(x6 == x4))) x7 x8 x9) else (spec_RangeDo.j7 k x1 false x7 x8 x9)
def spec_RangeDo.j7 : Nat → List Int → Bool → Bool → Int → Int → Option (Int × Int × List Int)
 | 0, _, _, _, _, _ => none
 | k + 1, x1, x2, x3, x4, x5 => if x2 = true then (if x1.length < 17592186044416 then (spec_RangeDo.j8 k (x1 ++ [3]) x3 x4 x5) else (none)) else (spec_RangeDo.j8 k x1 x3 x4 x5)
def spec_RangeDo.j8 : Nat → List Int → Bool → Int → Int → Option (Int × Int × List Int)
 | 0, _, _, _, _ => none
 | k + 1, x1, x2, x3, x4 => if x2 = true then ((spec_l8Cut.f x3 x4).bind fun u1 => (some (u1.1, u1.2, x1))) else ((spec_l8None.f).bind fun u2 => (some (u2.1, u2.2, x1)))
end
def spec_RangeDo.f (k : Nat) (a0 : Int) (a1_0 : Int) (a1_1 : Int) (a2_0 : Int) (a2_1 : Int) : Option (Int × Int × List Int) := (some (([] : List Int) : List Int)).bind fun y1 => ((spec_l1In.f a0 1 13).bind fun t1 => (if t1 = true then ((spec_RangeOk.f a1_0 a1_1).bind fun t2 => (if t2 = true then ((spec_RangeOk.f a2_0 a2_1).bind fun t3 => (if t3 = true then ((spec_l8None.f).bind fun u1 => (if (a1_0 == u1.1 && (a1_1 == u1.2)) = true then (spec_RangeDo.j0 k a0 y1 true a1_0 a1_1 a2_0 a2_1) else ((spec_l8None.f).bind fun u2 => (spec_RangeDo.j0 k a0 y1 (a2_0 == u2.1 && (a2_1 == u2.2)) a1_0 a1_1 a2_0 a2_1)))) else (spec_RangeDo.j0 k a0 y1 true a1_0 a1_1 a2_0 a2_1))) else (spec_RangeDo.j0 k a0 y1 true a1_0 a1_1 a2_0 a2_1))) else (spec_RangeDo.j0 k a0 y1 true a1_0 a1_1 a2_0 a2_1)))
theorem spec_RangeDo.mono_l : ∀ k, (∀ y0 y1 y2 y3 y4 y5 y6, LeO (spec_RangeDo.j0 k y0 y1 y2 y3 y4 y5 y6) (spec_RangeDo.j0 (k + 1) y0 y1 y2 y3 y4 y5 y6)) ∧ (∀ y0 y1 y2 y3 y4 y5 y6, LeO (spec_RangeDo.j1 k y0 y1 y2 y3 y4 y5 y6) (spec_RangeDo.j1 (k + 1) y0 y1 y2 y3 y4 y5 y6)) ∧ (∀ y0 y1 y2 y3 y4 y5 y6 y7 y8, LeO (spec_RangeDo.j2 k y0 y1 y2 y3 y4 y5 y6 y7 y8) (spec_RangeDo.j2 (k + 1) y0 y1 y2 y3 y4 y5 y6 y7 y8)) ∧ (∀ y0 y1 y2 y3 y4 y5 y6 y7 y8, LeO (spec_RangeDo.j3 k y0 y1 y2 y3 y4 y5 y6 y7 y8) (spec_RangeDo.j3 (k + 1) y0 y1 y2 y3 y4 y5 y6 y7 y8)) ∧ (∀ y0 y1 y2 y3 y4 y5 y6 y7 y8 y9, LeO (spec_RangeDo.j4 k y0 y1 y2 y3 y4 y5 y6 y7 y8 y9) (spec_RangeDo.j4 (k + 1) y0 y1 y2 y3 y4 y5 y6 y7 y8 y9)) ∧ (∀ y0 y1 y2 y3 y4 y5 y6 y7 y8 y9, LeO (spec_RangeDo.j5 k y0 y1 y2 y3 y4 y5 y6 y7 y8 y9) (spec_RangeDo.j5 (k + 1) y0 y1 y2 y3 y4 y5 y6 y7 y8 y9)) ∧ (∀ y0 y1 y2 y3 y4 y5 y6 y7 y8, LeO (spec_RangeDo.j6 k y0 y1 y2 y3 y4 y5 y6 y7 y8) (spec_RangeDo.j6 (k + 1) y0 y1 y2 y3 y4 y5 y6 y7 y8)) ∧ (∀ y0 y1 y2 y3 y4, LeO (spec_RangeDo.j7 k y0 y1 y2 y3 y4) (spec_RangeDo.j7 (k + 1) y0 y1 y2 y3 y4)) ∧ (∀ y0 y1 y2 y3, LeO (spec_RangeDo.j8 k y0 y1 y2 y3) (spec_RangeDo.j8 (k + 1) y0 y1 y2 y3))
 | 0 => ⟨fun _ _ _ _ _ _ _ r h => by simp [spec_RangeDo.j0] at h, fun _ _ _ _ _ _ _ r h => by simp [spec_RangeDo.j1] at h, fun _ _ _ _ _ _ _ _ _ r h => by simp [spec_RangeDo.j2] at h, fun _ _ _ _ _ _ _ _ _ r h => by simp [spec_RangeDo.j3] at h, fun _ _ _ _ _ _ _ _ _ _ r h => by simp [spec_RangeDo.j4] at h, fun _ _ _ _ _ _ _ _ _ _ r h => by simp [spec_RangeDo.j5] at h, fun _ _ _ _ _ _ _ _ _ r h => by simp [spec_RangeDo.j6] at h, fun _ _ _ _ _ r h => by simp [spec_RangeDo.j7] at h, fun _ _ _ _ r h => by simp [spec_RangeDo.j8] at h⟩
 | k + 1 => by
  obtain ⟨ih0, ih1, ih2, ih3, ih4, ih5, ih6, ih7, ih8⟩ := spec_RangeDo.mono_l k
  refine ⟨?_, ?_, ?_, ?_, ?_, ?_, ?_, ?_, ?_⟩ <;> (intros; (first | unfold spec_RangeDo.j0 | unfold spec_RangeDo.j1 | unfold spec_RangeDo.j2 | unfold spec_RangeDo.j3 | unfold spec_RangeDo.j4 | unfold spec_RangeDo.j5 | unfold spec_RangeDo.j6 | unfold spec_RangeDo.j7 | unfold spec_RangeDo.j8); repeat' first | (with_reducible first | apply ih0 | apply ih1 | apply ih2 | apply ih3 | apply ih4 | apply ih5 | apply ih6 | apply ih7 | apply ih8 | apply spec_RangeMeet.mono | apply spec_l8Bits.mono | apply spec_l8Div.mono | apply spec_l8R_corners.mono | apply spec_l8Wrapped.mono | apply LeO.refl | apply LeO.none | refine LeO.ite ?_ ?_ | refine LeO.bind ?_ (fun _ => ?_)) | apply ih0 | apply ih1 | apply ih2 | apply ih3 | apply ih4 | apply ih5 | apply ih6 | apply ih7 | apply ih8 | apply spec_RangeMeet.mono | apply spec_l8Bits.mono | apply spec_l8Div.mono | apply spec_l8R_corners.mono | apply spec_l8Wrapped.mono | apply LeO.none | refine LeO.ite ?_ ?_ | refine LeO.bind ?_ (fun _ => ?_))
theorem spec_RangeDo.mono : ∀ a0 a1 a2 a3 a4 k, LeO (spec_RangeDo.f k a0 a1 a2 a3 a4) (spec_RangeDo.f (k + 1) a0 a1 a2 a3 a4) := by
 intro a0 a1 a2 a3 a4 k
 obtain ⟨ih0, ih1, ih2, ih3, ih4, ih5, ih6, ih7, ih8⟩ := spec_RangeDo.mono_l k
 unfold spec_RangeDo.f
 repeat' first | (with_reducible first | apply ih0 | apply ih1 | apply ih2 | apply ih3 | apply ih4 | apply ih5 | apply ih6 | apply ih7 | apply ih8 | apply spec_RangeMeet.mono | apply spec_l8Bits.mono | apply spec_l8Div.mono | apply spec_l8R_corners.mono | apply spec_l8Wrapped.mono | apply LeO.refl | apply LeO.none | refine LeO.ite ?_ ?_ | refine LeO.bind ?_ (fun _ => ?_)) | apply ih0 | apply ih1 | apply ih2 | apply ih3 | apply ih4 | apply ih5 | apply ih6 | apply ih7 | apply ih8 | apply spec_RangeMeet.mono | apply spec_l8Bits.mono | apply spec_l8Div.mono | apply spec_l8R_corners.mono | apply spec_l8Wrapped.mono | apply LeO.none | refine LeO.ite ?_ ?_ | refine LeO.bind ?_ (fun _ => ?_)
def spec_RangeDo.T2 : Bool × List (List Nat × List Nat) := (true, [([], []), ([0], [0]), ([1], [1]), ([2, 1], [2]), ([3], [3]), ([4, 3, 3], [3, 4]), ([5, 3], [3, 5]), ([3, 6], [3, 6]), ([7, 5], [7]), ([8], [8]), ([9, 8, 8], [8, 9]), ([10, 8], [8, 10]), ([8, 11], [8, 11]), ([12, 10], [12]), ([13], [13]), ([13, 13], [13]), ([14, 15, 13], [13, 14, 15]), ([13, 16], [13, 16]), ([17, 15], [17]), ([18], [18]), ([18, 18], [18]), ([19, 20, 18], [18, 19, 20]), ([18, 21], [18, 21])])
def spec_RangeDo.B2 : List Nat := [0, 1, 3, 7, 15, 31, 63, 127, 255, 511, 1023, 2047, 4095, 8191, 16383, 16383, 65535, 131071, 262143, 524287, 524287, 2097151, 4194303]
theorem spec_RangeDo.tab2 : rtab .any (opsOf Try.f9 2) = spec_RangeDo.T2 := by kernel_rfl
theorem spec_RangeDo.bits2 : waitsOk spec_RangeDo.T2.2 spec_RangeDo.B2 = true := by kernel_rfl
def spec_RangeDo.T16 : Bool × List (List Nat × List Nat) := (true, [([], []), ([0], [0]), ([1], [1]), ([2], [2]), ([], []), ([4], [4]), ([5], [5]), ([6], [6]), ([3, 7], [3, 7]), ([], []), ([8, 8, 0, 1, 2, 3, 4, 5, 6, 7, 8], [8]), ([9, 10, 0, 1, 2, 3, 4, 5, 6, 7, 8, 9, 10], [9])])
def spec_RangeDo.B16 : List Nat := [0, 1, 3, 7, 0, 16, 48, 112, 255, 0, 511, 2047]
theorem spec_RangeDo.tab16 : rtab .any (opsOf Try.f9 16) = spec_RangeDo.T16 := by kernel_rfl
theorem spec_RangeDo.bits16 : waitsOk spec_RangeDo.T16.2 spec_RangeDo.B16 = true := by kernel_rfl
def spec_RangeDo.T23 : Bool × List (List Nat × List Nat) := (true, [([], []), ([0], [0]), ([1], [1]), ([2], [2]), ([], []), ([4], [4]), ([5], [5]), ([6], [6]), ([3, 7], [3, 7]), ([], []), ([8, 8, 0, 1, 2, 3, 4, 5, 6, 7, 8], [8]), ([9, 10, 0, 1, 2, 3, 4, 5, 6, 7, 8, 9, 10], [9])])
def spec_RangeDo.B23 : List Nat := [0, 1, 3, 7, 0, 16, 48, 112, 255, 0, 511, 2047]
theorem spec_RangeDo.tab23 : rtab .any (opsOf Try.f9 23) = spec_RangeDo.T23 := by kernel_rfl
theorem spec_RangeDo.bits23 : waitsOk spec_RangeDo.T23.2 spec_RangeDo.B23 = true := by kernel_rfl
set_option maxHeartbeats 8000000 in
set_option maxRecDepth 100000 in
theorem spec_RangeDo.calls (k : Nat) (a0 : Int) (a1_0 : Int) (a1_1 : Int) (a2_0 : Int) (a2_1 : Int) (r1 : Int) (r2 : Int) (r3 : List Int) (w : World) (h : spec_RangeDo.f k a0 a1_0 a1_1 a2_0 a2_1 = some (r1, r2, r3)) :
  Calls Try.prog 9 #[.int .i64 a0, .agg #[.int .i64 a1_0, .int .i64 a1_1], .agg #[.int .i64 a2_0, .int .i64 a2_1]] w fun e w' => ∃ v2_ : Value, e = .returned (.tuple #[.agg #[.int .i64 r1, .int .i64 r2], v2_]) ∧ Kd.R (Kd.int .i64) 3 w' w.heap.size (fun _ => True) v2_ r3 ∧ Below w.heap.size w w' := by
 have hu24 := Try.underlying24
 have hu67 := Try.underlying67
 have HB := am (Below.refl w.heap.size w)
 have H : ((some (([] : List Int) : List Int)).bind fun y1 => ((spec_l1In.f a0 1 13).bind fun t1 => (if t1 = true then ((spec_RangeOk.f a1_0 a1_1).bind fun t2 => (if t2 = true then ((spec_RangeOk.f a2_0 a2_1).bind fun t3 => (if t3 = true then ((spec_l8None.f).bind fun u1 => (if (a1_0 == u1.1 && (a1_1 == u1.2)) = true then (spec_RangeDo.j0 k a0 y1 true a1_0 a1_1 a2_0 a2_1) else ((spec_l8None.f).bind fun u2 => (spec_RangeDo.j0 k a0 y1 (a2_0 == u2.1 && (a2_1 == u2.2)) a1_0 a1_1 a2_0 a2_1)))) else (spec_RangeDo.j0 k a0 y1 true a1_0 a1_1 a2_0 a2_1))) else (spec_RangeDo.j0 k a0 y1 true a1_0 a1_1 a2_0 a2_1))) else (spec_RangeDo.j0 k a0 y1 true a1_0 a1_1 a2_0 a2_1)))) = some (r1, r2, r3) := h
 clear h
 obtain ⟨y1, y2⟩ : ∃ y_ : List Int, y_ = (([] : List Int)) := ⟨_, rfl⟩
 replace H : ((spec_l1In.f a0 1 13).bind fun t1 => (if t1 = true then ((spec_RangeOk.f a1_0 a1_1).bind fun t2 => (if t2 = true then ((spec_RangeOk.f a2_0 a2_1).bind fun t3 => (if t3 = true then ((spec_l8None.f).bind fun u1 => (if (a1_0 == u1.1 && (a1_1 == u1.2)) = true then (spec_RangeDo.j0 k a0 y1 true a1_0 a1_1 a2_0 a2_1) else ((spec_l8None.f).bind fun u2 => (spec_RangeDo.j0 k a0 y1 (a2_0 == u2.1 && (a2_1 == u2.2)) a1_0 a1_1 a2_0 a2_1)))) else (spec_RangeDo.j0 k a0 y1 true a1_0 a1_1 a2_0 a2_1))) else (spec_RangeDo.j0 k a0 y1 true a1_0 a1_1 a2_0 a2_1))) else (spec_RangeDo.j0 k a0 y1 true a1_0 a1_1 a2_0 a2_1))) = some (r1, r2, r3) := by first | (rw [y2]; with_reducible exact H) | (have H2_ := (Option.bind_some _ _).symm.trans H; rw [y2]; with_reducible exact H2_) | (have H2_ := (Option.bind_some _ _).symm.trans H; with_reducible exact H2_) | with_reducible exact H | (rw [y2]; exact H) | exact H
 have Y25 := am y2
 clear y2
 have C1 := am H
 clear H
 go_enter Try.func9, Try.ntmps9
 go_upto_region 2 with (first | ((with_reducible refine gate_dst (N := 4) rfl ?_); refine bxn 4 #[.int .i64 a1_0, .int .i64 a1_1] 24 HB fun g1 w2 K1 G1 hg hb => ?_; replace HB := am (below_step (YA HB) hb); clear hb hg) | ((with_reducible refine gate_dst (N := 5) rfl ?_); refine bxn 5 #[.int .i64 a2_0, .int .i64 a2_1] 24 HB fun g2 w3 K2 G2 hg hb => ?_; obtain ⟨N1,N2⟩ := ne_ hg K1; obtain ⟨K1, HB⟩ := bk1 K1 HB hb; clear hb hg) | ((with_reducible refine gate_dst (N := 6) rfl ?_); refine bxn 6 #[.int .i64 0, .int .i64 0] 24 HB fun g3 w4 K3 G3 hg hb => ?_; obtain ⟨N3,N4⟩ := ne_ hg K1; obtain ⟨N5,N6⟩ := ne_ hg K2; obtain ⟨K1, K2, HB⟩ := bk2 K1 K2 HB hb; clear hb hg) | ((with_reducible refine gate_dst (N := 12) rfl ?_); refine Kd.R_lit (Kd.int .i64) _ 3 ?hg (N := 12) ?hd (xs := ([] : List Int)) (inner := []) (ok := fun _ => True) (okp := fun _ => True) ?hr ?hp (fun _ hk => hk) trivial (Below.refl _ _) (Nat.le_refl _) (by simp) ?_; (case hd => rfl); (case hg => rfl); (case hr => first | (go_simp; done) | (go_simp; rfl)); (case hp => exact (Reps.none _ _)); intro v1 w5 o1 hb hg_ hnew_; clear hg_ hnew_; (first | rw [← Y25.out] at o1 | (simp only [Int.reduceToNat] at o1; rw [← Y25.out] at o1)); have O1 := am (Kd.R_lower o1 (below_size (YA HB))); obtain ⟨K1, K2, K3, HB⟩ := bk3 K1 K2 K3 HB hb; clear hb o1))
 (try simp only [Act.put, List.setIfInBounds_toArray, List.set_cons_zero, List.set_cons_succ])
 go_cut [35] (fun v2 wc => ∃ (kq : Nat) (x1 : Bool), v2 = .bool x1 ∧ Aside0 (spec_RangeDo.j0 kq a0 y1 x1 a1_0 a1_1 a2_0 a2_1 = some (r1, r2, r3)) ∧ Aside0 (kq ≤ k) ∧ Aside0 (Kd.R (Kd.int .i64) 3 wc w.heap.size (fun _ => True) v1 y1) ∧ Bx2 wc g1 a1_0 a1_1 24 ∧ Bx2 wc g2 a2_0 a2_1 24 ∧ Bx2 wc g3 0 0 24 ∧ Aside0 (Below w.heap.size w wc))
 case first =>
  have H := C1.out
  clear C1
  obtain ⟨t1, A1, H⟩ := bd H
  try dsimp only at H
  by_cases c1 : t1 = true
  rotate_left
  ·replace c1 := Bool.eq_false_iff.mpr c1
   subst c1
   rw [if_neg ff] at H
   have H' := am H
   clear H
   try go_wp2
   replace O1 := am (Kd.R_drew O1.out)
   obtain ⟨K1, K2, K3, HB⟩ := dk3 K1 K2 K3 HB
   refine start_ (n := 23) (S := fun w' => True) (ds := []) (lb 23 0) (by kernel_rfl) rfl rfl trivial (fun hHeld => ?_); refine with_tabW spec_RangeDo.tab2 spec_RangeDo.bits2 (fun HT_ HW_ => ?_)
   generalize w5.drew = w6 at O1 K1 K2 K3 HB hHeld ⊢
   refine pk 0 13 1 ?_
   refine on 1 (some 14) 3 fun K hK => ?_
   refine goes_ Try.func37 (by kernel_rfl) rfl #[.int .i64 a0, .int .i64 1, .int .i64 13] (by rfl) rfl rfl mz ?_
   with_reducible refine (spec_l1In.calls _ _ _ _ _ A1.out).mono ?_
   rintro e w' ⟨rfl, ⟨nd, rfl⟩⟩
   refine ⟨_, rfl, ?_⟩
   refine kk hK trivial fun hHeld => ?_
   clear hK K
   refine pk 2 15 7 ?_
   refine pk 3 16 15 ?_
   refine uk 4 17 31 ?_
   refine uk 5 18 63 ?_
   refine uk 6 19 127 ?_
   refine pk 7 20 255 ?_
   refine pk 8 21 511 ?_
   refine uk 9 22 1023 ?_
   refine uk 10 23 2047 ?_
   refine uk 11 24 4095 ?_
   refine pk 12 25 8191 ?_
   refine pk 13 26 16383 ?_
   refine uk 14 27 32767 ?_
   refine uk 15 28 65535 ?_
   refine uk 16 29 131071 ?_
   refine pk 17 30 262143 ?_
   refine pk 18 31 524287 ?_
   refine uk 19 32 1048575 ?_
   refine uk 20 33 2097151 ?_
   refine uk 21 34 4194303 ?_
   refine pk 22 35 8388607 ?_
   refine done_ (done_of HT_.out (by kernel_rfl)) ?_
   try go_wp2
   go_meet
   case rel => exact ⟨_, (true), ey, H', le0, ⟨by exact RZ O1⟩, ⟨Z K1⟩, ⟨Z K2⟩, ⟨Z K3⟩, ⟨YA HB⟩⟩
  subst c1
  rw [if_pos rfl] at H
  obtain ⟨t2, A2, H⟩ := bd H
  try dsimp only at H
  by_cases c2 : t2 = true
  rotate_left
  ·replace c2 := Bool.eq_false_iff.mpr c2
   subst c2
   rw [if_neg ff] at H
   have H' := am H
   clear H
   try go_wp2
   replace O1 := am (Kd.R_drew O1.out)
   obtain ⟨K1, K2, K3, HB⟩ := dk3 K1 K2 K3 HB
   refine start_ (n := 23) (S := fun w' => w'.cell? ⟨g1, 0, none⟩ = some (.int .i64 a1_0) ∧ w'.cell? ⟨g1, 1, none⟩ = some (.int .i64 a1_1)) (ds := []) (lb 23 0) (by kernel_rfl) rfl rfl ⟨bc K1 0, bc K1 1⟩ (fun hHeld => ?_); refine with_tabW spec_RangeDo.tab2 spec_RangeDo.bits2 (fun HT_ HW_ => ?_)
   generalize w5.drew = w6 at O1 K1 K2 K3 HB hHeld ⊢
   refine pk 0 13 1 ?_
   refine on 1 (some 14) 3 fun K hK => ?_
   refine goes_ Try.func37 (by kernel_rfl) rfl #[.int .i64 a0, .int .i64 1, .int .i64 13] (by rfl) rfl rfl mz ?_
   with_reducible refine (spec_l1In.calls _ _ _ _ _ A1.out).mono ?_
   rintro e w' ⟨rfl, ⟨nd, rfl⟩⟩
   refine ⟨_, rfl, ?_⟩
   refine kk hK ⟨bc K1 0, bc K1 1⟩ fun hHeld => ?_
   clear hK K
   refine pk 2 15 7 ?_
   refine pk 3 16 15 ?_
   refine tk 4 17 31 hHeld ?_
   refine on 5 (some 18) 63 fun K hK => ?_
   refine gq Try.func24 (spec_RangeOk.calls _ _ _ _ A2.out) fun w7 hb => ?_
   replace O1 := am (Kd.R_below (RZ O1) hb)
   obtain ⟨K1, K2, K3, HB⟩ := bk3 K1 K2 K3 HB hb
   clear hb
   refine kk hK ⟨bc K1 0, bc K1 1⟩ fun hHeld => ?_
   clear hK K
   refine pk 6 19 127 ?_
   refine pk 7 20 255 ?_
   refine pk 8 21 511 ?_
   refine uk 9 22 1023 ?_
   refine uk 10 23 2047 ?_
   refine uk 11 24 4095 ?_
   refine pk 12 25 8191 ?_
   refine pk 13 26 16383 ?_
   refine uk 14 27 32767 ?_
   refine uk 15 28 65535 ?_
   refine uk 16 29 131071 ?_
   refine pk 17 30 262143 ?_
   refine pk 18 31 524287 ?_
   refine uk 19 32 1048575 ?_
   refine uk 20 33 2097151 ?_
   refine uk 21 34 4194303 ?_
   refine pk 22 35 8388607 ?_
   refine done_ (done_of HT_.out (by kernel_rfl)) ?_
   try go_wp2
   go_meet
   case rel => exact ⟨_, (true), ey, H', le0, ⟨by exact RZ O1⟩, ⟨Z K1⟩, ⟨Z K2⟩, ⟨Z K3⟩, ⟨YA HB⟩⟩
  subst c2
  rw [if_pos rfl] at H
  obtain ⟨t3, A3, H⟩ := bd H
  try dsimp only at H
  by_cases c3 : t3 = true
  rotate_left
  ·replace c3 := Bool.eq_false_iff.mpr c3
   subst c3
   rw [if_neg ff] at H
   have H' := am H
   clear H
   try go_wp2
   replace O1 := am (Kd.R_drew O1.out)
   obtain ⟨K1, K2, K3, HB⟩ := dk3 K1 K2 K3 HB
   refine start_ (n := 23) (S := fun w' => w'.cell? ⟨g1, 0, none⟩ = some (.int .i64 a1_0) ∧ w'.cell? ⟨g1, 1, none⟩ = some (.int .i64 a1_1) ∧ w'.cell? ⟨g2, 0, none⟩ = some (.int .i64 a2_0) ∧ w'.cell? ⟨g2, 1, none⟩ = some (.int .i64 a2_1)) (ds := []) (lb 23 0) (by kernel_rfl) rfl rfl ⟨bc K1 0, bc K1 1, bc K2 0, bc K2 1⟩ (fun hHeld => ?_); refine with_tabW spec_RangeDo.tab2 spec_RangeDo.bits2 (fun HT_ HW_ => ?_)
   generalize w5.drew = w6 at O1 K1 K2 K3 HB hHeld ⊢
   refine pk 0 13 1 ?_
   refine on 1 (some 14) 3 fun K hK => ?_
   refine goes_ Try.func37 (by kernel_rfl) rfl #[.int .i64 a0, .int .i64 1, .int .i64 13] (by rfl) rfl rfl mz ?_
   with_reducible refine (spec_l1In.calls _ _ _ _ _ A1.out).mono ?_
   rintro e w' ⟨rfl, ⟨nd, rfl⟩⟩
   refine ⟨_, rfl, ?_⟩
   refine kk hK ⟨bc K1 0, bc K1 1, bc K2 0, bc K2 1⟩ fun hHeld => ?_
   clear hK K
   refine pk 2 15 7 ?_
   refine pk 3 16 15 ?_
   refine tk 4 17 31 hHeld ?_
   refine on 5 (some 18) 63 fun K hK => ?_
   refine gq Try.func24 (spec_RangeOk.calls _ _ _ _ A2.out) fun w7 hb => ?_
   replace O1 := am (Kd.R_below (RZ O1) hb)
   obtain ⟨K1, K2, K3, HB⟩ := bk3 K1 K2 K3 HB hb
   clear hb
   refine kk hK ⟨bc K1 0, bc K1 1, bc K2 0, bc K2 1⟩ fun hHeld => ?_
   clear hK K
   refine pk 6 19 127 ?_
   refine pk 7 20 255 ?_
   refine pk 8 21 511 ?_
   refine tk 9 22 1023 hHeld ?_
   refine on 10 (some 23) 2047 fun K hK => ?_
   refine gq Try.func24 (spec_RangeOk.calls _ _ _ _ A3.out) fun w8 hb => ?_
   replace O1 := am (Kd.R_below (RZ O1) hb)
   obtain ⟨K1, K2, K3, HB⟩ := bk3 K1 K2 K3 HB hb
   clear hb
   refine kk hK ⟨bc K1 0, bc K1 1, bc K2 0, bc K2 1⟩ fun hHeld => ?_
   clear hK K
   refine pk 11 24 4095 ?_
   refine pk 12 25 8191 ?_
   refine pk 13 26 16383 ?_
   refine uk 14 27 32767 ?_
   refine uk 15 28 65535 ?_
   refine uk 16 29 131071 ?_
   refine pk 17 30 262143 ?_
   refine pk 18 31 524287 ?_
   refine uk 19 32 1048575 ?_
   refine uk 20 33 2097151 ?_
   refine uk 21 34 4194303 ?_
   refine pk 22 35 8388607 ?_
   refine done_ (done_of HT_.out (by kernel_rfl)) ?_
   try go_wp2
   go_meet
   case rel => exact ⟨_, (true), ey, H', le0, ⟨by exact RZ O1⟩, ⟨Z K1⟩, ⟨Z K2⟩, ⟨Z K3⟩, ⟨YA HB⟩⟩
  subst c3
  rw [if_pos rfl] at H
  obtain ⟨⟨t4, t5⟩, A4, H⟩ := bd H
  try dsimp only at H
  by_cases c4 : (a1_0 == t4 && (a1_1 == t5)) = true
  ·rw [if_pos c4] at H
   have d1 : (a1_0 == t4 && (a1_1 == t5)) = true := c4
   (try (have d2 : decide (a1_0 = t4 && (a1_1 == t5)) = true := by simpa using c4))
   (try (have d3 : (a1_0 == t4 && (a1_1 == t5)) = true := by simpa using c4))
   clear c4
   (first | rw [d1] | (simp only [i64_w, i32_w]; rw [d1]) | skip)
   have H' := am H
   clear H
   try go_wp2
   replace O1 := am (Kd.R_drew O1.out)
   obtain ⟨K1, K2, K3, HB⟩ := dk3 K1 K2 K3 HB
   refine start_ (n := 23) (S := fun w' => w'.cell? ⟨g1, 0, none⟩ = some (.int .i64 a1_0) ∧ w'.cell? ⟨g1, 1, none⟩ = some (.int .i64 a1_1) ∧ w'.cell? ⟨g2, 0, none⟩ = some (.int .i64 a2_0) ∧ w'.cell? ⟨g2, 1, none⟩ = some (.int .i64 a2_1)) (ds := []) (lb 23 0) (by kernel_rfl) rfl rfl ⟨bc K1 0, bc K1 1, bc K2 0, bc K2 1⟩ (fun hHeld => ?_); refine with_tabW spec_RangeDo.tab2 spec_RangeDo.bits2 (fun HT_ HW_ => ?_)
   generalize w5.drew = w6 at O1 K1 K2 K3 HB hHeld ⊢
   refine pk 0 13 1 ?_
   refine on 1 (some 14) 3 fun K hK => ?_
   refine goes_ Try.func37 (by kernel_rfl) rfl #[.int .i64 a0, .int .i64 1, .int .i64 13] (by rfl) rfl rfl mz ?_
   with_reducible refine (spec_l1In.calls _ _ _ _ _ A1.out).mono ?_
   rintro e w' ⟨rfl, ⟨nd, rfl⟩⟩
   refine ⟨_, rfl, ?_⟩
   refine kk hK ⟨bc K1 0, bc K1 1, bc K2 0, bc K2 1⟩ fun hHeld => ?_
   clear hK K
   refine pk 2 15 7 ?_
   refine pk 3 16 15 ?_
   refine tk 4 17 31 hHeld ?_
   refine on 5 (some 18) 63 fun K hK => ?_
   refine gq Try.func24 (spec_RangeOk.calls _ _ _ _ A2.out) fun w7 hb => ?_
   replace O1 := am (Kd.R_below (RZ O1) hb)
   obtain ⟨K1, K2, K3, HB⟩ := bk3 K1 K2 K3 HB hb
   clear hb
   refine kk hK ⟨bc K1 0, bc K1 1, bc K2 0, bc K2 1⟩ fun hHeld => ?_
   clear hK K
   refine pk 6 19 127 ?_
   refine pk 7 20 255 ?_
   refine pk 8 21 511 ?_
   refine tk 9 22 1023 hHeld ?_
   refine on 10 (some 23) 2047 fun K hK => ?_
   refine gq Try.func24 (spec_RangeOk.calls _ _ _ _ A3.out) fun w8 hb => ?_
   replace O1 := am (Kd.R_below (RZ O1) hb)
   obtain ⟨K1, K2, K3, HB⟩ := bk3 K1 K2 K3 HB hb
   clear hb
   refine kk hK ⟨bc K1 0, bc K1 1, bc K2 0, bc K2 1⟩ fun hHeld => ?_
   clear hK K
   refine pk 11 24 4095 ?_
   refine pk 12 25 8191 ?_
   refine pk 13 26 16383 ?_
   refine tk 14 27 32767 hHeld ?_
   refine on 15 (some 28) 65535 fun K hK => ?_
   refine gq Try.func38 (spec_l8None.calls _ _ _ A4.out) fun w9 hb => ?_
   replace O1 := am (Kd.R_below (RZ O1) hb)
   obtain ⟨K1, K2, K3, HB⟩ := bk3 K1 K2 K3 HB hb
   clear hb
   refine kk hK ⟨bc K1 0, bc K1 1, bc K2 0, bc K2 1⟩ fun hHeld => ?_
   clear hK K
   refine pk 16 29 131071 ?_
   refine pk 17 30 262143 ?_
   refine pk 18 31 524287 ?_
   refine uk 19 32 1048575 ?_
   refine uk 20 33 2097151 ?_
   refine uk 21 34 4194303 ?_
   refine pk 22 35 8388607 ?_
   refine done_ (done_of HT_.out (by kernel_rfl)) ?_
   try go_wp2
   go_meet
   case rel => exact ⟨_, (true), ey, H', le0, ⟨by exact RZ O1⟩, ⟨Z K1⟩, ⟨Z K2⟩, ⟨Z K3⟩, ⟨YA HB⟩⟩
  rw [if_neg c4] at H
  have d1 : (a1_0 == t4 && (a1_1 == t5)) = false := by simpa using c4
  (try (have d2 : decide (a1_0 = t4 && (a1_1 == t5)) = false := by simpa using c4))
  (try (have d3 : (a1_0 == t4 && (a1_1 == t5)) = false := by simpa using c4))
  (try (have d4 : ¬ (a1_0 = t4 && (a1_1 == t5)) := by simpa using c4))
  clear c4
  (first | rw [d1] | (simp only [i64_w, i32_w]; rw [d1]) | skip)
  obtain ⟨⟨t6, t7⟩, A5, H⟩ := bd H
  try dsimp only at H
  have H' := am H
  clear H
  try go_wp2
  replace O1 := am (Kd.R_drew O1.out)
  obtain ⟨K1, K2, K3, HB⟩ := dk3 K1 K2 K3 HB
  refine start_ (n := 23) (S := fun w' => w'.cell? ⟨g1, 0, none⟩ = some (.int .i64 a1_0) ∧ w'.cell? ⟨g1, 1, none⟩ = some (.int .i64 a1_1) ∧ w'.cell? ⟨g2, 0, none⟩ = some (.int .i64 a2_0) ∧ w'.cell? ⟨g2, 1, none⟩ = some (.int .i64 a2_1)) (ds := []) (lb 23 0) (by kernel_rfl) rfl rfl ⟨bc K1 0, bc K1 1, bc K2 0, bc K2 1⟩ (fun hHeld => ?_); refine with_tabW spec_RangeDo.tab2 spec_RangeDo.bits2 (fun HT_ HW_ => ?_)
  generalize w5.drew = w6 at O1 K1 K2 K3 HB hHeld ⊢
  refine pk 0 13 1 ?_
  refine on 1 (some 14) 3 fun K hK => ?_
  refine goes_ Try.func37 (by kernel_rfl) rfl #[.int .i64 a0, .int .i64 1, .int .i64 13] (by rfl) rfl rfl mz ?_
  with_reducible refine (spec_l1In.calls _ _ _ _ _ A1.out).mono ?_
  rintro e w' ⟨rfl, ⟨nd, rfl⟩⟩
  refine ⟨_, rfl, ?_⟩
  refine kk hK ⟨bc K1 0, bc K1 1, bc K2 0, bc K2 1⟩ fun hHeld => ?_
  clear hK K
  refine pk 2 15 7 ?_
  refine pk 3 16 15 ?_
  refine tk 4 17 31 hHeld ?_
  refine on 5 (some 18) 63 fun K hK => ?_
  refine gq Try.func24 (spec_RangeOk.calls _ _ _ _ A2.out) fun w7 hb => ?_
  replace O1 := am (Kd.R_below (RZ O1) hb)
  obtain ⟨K1, K2, K3, HB⟩ := bk3 K1 K2 K3 HB hb
  clear hb
  refine kk hK ⟨bc K1 0, bc K1 1, bc K2 0, bc K2 1⟩ fun hHeld => ?_
  clear hK K
  refine pk 6 19 127 ?_
  refine pk 7 20 255 ?_
  refine pk 8 21 511 ?_
  refine tk 9 22 1023 hHeld ?_
  refine on 10 (some 23) 2047 fun K hK => ?_
  refine gq Try.func24 (spec_RangeOk.calls _ _ _ _ A3.out) fun w8 hb => ?_
  replace O1 := am (Kd.R_below (RZ O1) hb)
  obtain ⟨K1, K2, K3, HB⟩ := bk3 K1 K2 K3 HB hb
  clear hb
  refine kk hK ⟨bc K1 0, bc K1 1, bc K2 0, bc K2 1⟩ fun hHeld => ?_
  clear hK K
  refine pk 11 24 4095 ?_
  refine pk 12 25 8191 ?_
  refine pk 13 26 16383 ?_
  refine tk 14 27 32767 hHeld ?_
  refine on 15 (some 28) 65535 fun K hK => ?_
  refine gq Try.func38 (spec_l8None.calls _ _ _ A4.out) fun w9 hb => ?_
  replace O1 := am (Kd.R_below (RZ O1) hb)
  obtain ⟨K1, K2, K3, HB⟩ := bk3 K1 K2 K3 HB hb
  clear hb
  refine kk hK ⟨bc K1 0, bc K1 1, bc K2 0, bc K2 1⟩ fun hHeld => ?_
  clear hK K
  refine pk 16 29 131071 ?_
  refine pk 17 30 262143 ?_
  refine pk 18 31 524287 ?_
  refine tk 19 32 1048575 hHeld ?_
  refine on 20 (some 33) 2097151 fun K hK => ?_
  refine gq Try.func38 (spec_l8None.calls _ _ _ A5.out) fun w10 hb => ?_
  replace O1 := am (Kd.R_below (RZ O1) hb)
  obtain ⟨K1, K2, K3, HB⟩ := bk3 K1 K2 K3 HB hb
  clear hb
  refine kk hK ⟨bc K1 0, bc K1 1, bc K2 0, bc K2 1⟩ fun hHeld => ?_
  clear hK K
  refine pk 21 34 4194303 ?_
  refine pk 22 35 8388607 ?_
  refine done_ (done_of HT_.out (by kernel_rfl)) ?_
  try go_wp2
  go_meet
  case rel => exact ⟨_, ((a2_0 == t6 && (a2_1 == t7))), ey, H', le0, ⟨by exact RZ O1⟩, ⟨Z K1⟩, ⟨Z K2⟩, ⟨Z K3⟩, ⟨YA HB⟩⟩
 case rest =>
  clear C1
  obtain ⟨kq, x1, rfl, HA, J1, O2, K1, K2, K3, HB⟩ := hcut
  cases kq with
  | zero => exact absurd HA.out (by simp [spec_RangeDo.j0])
  | succ k1 =>
   have H := HA.out
   clear HA
   simp only [spec_RangeDo.j0] at H
   by_cases c1 : x1 = true
   ·subst c1
    rw [if_pos rfl] at H
    obtain ⟨⟨t4, t5⟩, A1, H⟩ := bd H
    try dsimp only at H
    simp only [Option.some.injEq, Prod.mk.injEq] at H
    obtain ⟨rfl, rfl, rfl⟩ := H
    go_wp2_with (first | ((with_reducible refine gate_callee (f := 38) rfl ?_); refine gL 36 Try.func38 (spec_l8None.calls _ _ _ A1.out) fun w6 hb => ?_; replace O2 := am (Kd.R_below (RZ O2) hb); obtain ⟨K1, K2, K3, HB⟩ := bk3 K1 K2 K3 HB hb; (try clear hb); have z_ := ns2 N4 N6; have z_ := cB2 K3))
    refine bodyPost_ret (results_ct rfl _ _ g3 24 #[.int .i64 t4, .int .i64 t5] (0, 0) _ rfl (by refine pf ?_; refine blk_put (cs := #[.int .i64 t4, .int .i64 0]) ?_ 1 _ rfl; refine pf ?_; refine blk_put (cs := #[.int .i64 0, .int .i64 0]) ?_ 0 _ rfl; exact Z K3) Try.underlying24 rfl (by kernel_rfl)) rfl ?_
    exact ⟨_, ez, by (with_reducible repeat (first | apply Kd.R_alloc | apply Kd.R_drewN | apply Kd.R_drew)); exact Kd.R_mono (Kd.R_far (p := ⟨g3, 1, none⟩) (Kd.R_far (p := ⟨g3, 0, none⟩) (Kd.R_types O2.out K3.out (by decide)) (fun _ hk => hk.2) (.int .i64 t4)) (fun _ hk => hk.2) (.int .i64 t5)) (fun _ hk => trivial), YA HB⟩
   replace c1 := Bool.eq_false_iff.mpr c1
   subst c1
   rw [if_neg ff] at H
   have C2 := am H
   clear H
   go_upto_region 4 with (fail)
   go_cut [43] (fun v3 wc => ∃ (kq : Nat) (x2 : Bool), v3 = .bool x2 ∧ Aside0 (spec_RangeDo.j1 kq a0 y1 x2 a1_0 a1_1 a2_0 a2_1 = some (r1, r2, r3)) ∧ Aside0 (kq ≤ k1) ∧ Aside0 (Kd.R (Kd.int .i64) 3 wc w.heap.size (fun _ => True) v1 y1) ∧ Bx2 wc g1 a1_0 a1_1 24 ∧ Bx2 wc g2 a2_0 a2_1 24 ∧ Bx2 wc g3 0 0 24 ∧ Aside0 (Below w.heap.size w wc))
   case first =>
    have H := C2.out
    clear C2
    by_cases c2 : a0 = 4
    rotate_left
    ·rw [if_neg c2] at H
     have d1 := eF c2
     have d2 := nT c2
     (first | rw [d1] | (simp only [i64_w, i32_w]; rw [d1]) | skip)
     have H' := am H
     clear H
     go_wp2
     go_meet
     case rel => exact ⟨_, ((a0 == 5)), ey, H', le1 J1, ⟨by exact RZ O2⟩, ⟨Z K1⟩, ⟨Z K2⟩, ⟨Z K3⟩, ⟨YA HB⟩⟩
    rw [if_pos c2] at H
    have d1 := eT c2
    have d2 := nF c2
    clear c2
    (first | rw [d1] | (simp only [i64_w, i32_w]; rw [d1]) | skip)
    have H' := am H
    clear H
    go_wp2
    go_meet
    case rel => exact ⟨_, (true), ey, H', le1 J1, ⟨by exact RZ O2⟩, ⟨Z K1⟩, ⟨Z K2⟩, ⟨Z K3⟩, ⟨YA HB⟩⟩
   case rest =>
    clear C2
    try clear c1
    obtain ⟨kq, x2, rfl, HA, J2, O2, K1, K2, K3, HB⟩ := hcut
    cases kq with
    | zero => exact absurd HA.out (by simp [spec_RangeDo.j1])
    | succ k2 =>
     have H := HA.out
     clear HA
     simp only [spec_RangeDo.j1] at H
     by_cases c2 : x2 = true
     ·subst c2
      rw [if_pos rfl] at H
      obtain ⟨⟨t4, t5, t6⟩, A1, H⟩ := bd H
      try dsimp only at H
      simp only [Option.some.injEq, Prod.mk.injEq] at H
      obtain ⟨rfl, rfl, rfl⟩ := H
      have z_ := ns3 N1 N3 N5
      have z_ := cB2 K1
      have z_ := cB2 K2
      go_wp2_with (first | ((with_reducible refine gate_callee (f := 39) rfl ?_); refine goesL_ (some 47) rfl rfl Try.func39 (by kernel_rfl) rfl #[.int .i64 a0, .agg #[.int .i64 a1_0, .int .i64 a1_1], .agg #[.int .i64 a2_0, .int .i64 a2_1]] rfl mz ?_; (with_reducible refine (spec_l8Div.calls _ _ _ _ _ _ _ _ _ _ A1.out).mono ?_); rintro e w6 ⟨v4, rfl, o2, hb⟩; refine ⟨_, rfl, ?_⟩; have O3 := am (Kd.R_lower (Kd.R_new' o2 (Kd.R_lt (RZ O2))) (below_size (YA HB))); replace O2 := am (Kd.R_elder' (RZ O2) (Kd.R_base o2) hb); obtain ⟨K1, K2, K3, HB⟩ := bk3 K1 K2 K3 HB hb; (try clear hb); (try clear o2); have z_ := cB2 K3))
      refine bodyPost_ret (results_ct rfl _ _ g3 24 #[.int .i64 t4, .int .i64 t5] (0, 0) _ rfl (by refine pf ?_; refine blk_put (cs := #[.int .i64 t4, .int .i64 0]) ?_ 1 _ rfl; refine pf ?_; refine blk_put (cs := #[.int .i64 0, .int .i64 0]) ?_ 0 _ rfl; exact Z K3) Try.underlying24 rfl (by kernel_rfl)) rfl ?_
      exact ⟨_, ez, by (with_reducible repeat (first | apply Kd.R_alloc | apply Kd.R_drewN | apply Kd.R_drew)); exact Kd.R_mono (Kd.R_far (p := ⟨g3, 1, none⟩) (Kd.R_far (p := ⟨g3, 0, none⟩) (Kd.R_types O3.out K3.out (by decide)) (fun _ hk => hk.2) (.int .i64 t4)) (fun _ hk => hk.2) (.int .i64 t5)) (fun _ hk => trivial), YA HB⟩
     replace c2 := Bool.eq_false_iff.mpr c2
     subst c2
     rw [if_neg ff] at H
     obtain ⟨t4, A1, H⟩ := bd H
     try dsimp only at H
     by_cases c3 : t4 = true
     ·subst c3
      rw [if_pos rfl] at H
      obtain ⟨⟨t5, t6⟩, A2, H⟩ := bd H
      try dsimp only at H
      simp only [Option.some.injEq, Prod.mk.injEq] at H
      obtain ⟨rfl, rfl, rfl⟩ := H
      go_wp2_with (first | ((with_reducible refine gate_callee (f := 37) rfl ?_); refine goesL_ (some 51) rfl rfl Try.func37 (by kernel_rfl) rfl #[.int .i64 a0, .int .i64 6, .int .i64 8] rfl mz ?_; (with_reducible refine (spec_l1In.calls _ _ _ _ _ A1.out).mono ?_); rintro e w' ⟨rfl, ⟨nd, rfl⟩⟩; refine ⟨_, rfl, ?_⟩; (try (rw [drewN_self wc]; generalize hq_ : World.drewN wc _ = wc; replace O2 : Aside0 (Kd.R (Kd.int .i64) 3 wc w.heap.size (fun _ => True) v1 y1) := ⟨by rw [← hq_]; exact (RZ O2)⟩; replace K1 : Bx2 wc g1 a1_0 a1_1 24 := ⟨by rw [← hq_]; exact (Z K1)⟩; replace K2 : Bx2 wc g2 a2_0 a2_1 24 := ⟨by rw [← hq_]; exact (Z K2)⟩; replace K3 : Bx2 wc g3 0 0 24 := ⟨by rw [← hq_]; exact (Z K3)⟩; replace HB : Aside0 (Below w.heap.size w wc) := ⟨by rw [← hq_]; exact (YA HB)⟩; clear hq_)); have z_ := ns3 N1 N3 N5; have z_ := cB2 K1; have z_ := cB2 K2) | ((with_reducible refine gate_callee (f := 40) rfl ?_); refine gL 55 Try.func40 (spec_l8Bits.calls _ _ _ _ _ _ _ _ _ A2.out) fun w6 hb => ?_; replace O2 := am (Kd.R_below (RZ O2) hb); obtain ⟨K1, K2, K3, HB⟩ := bk3 K1 K2 K3 HB hb; (try clear hb); have z_ := cB2 K3))
      refine bodyPost_ret (results_ct rfl _ _ g3 24 #[.int .i64 t5, .int .i64 t6] (0, 0) _ rfl (by refine pf ?_; refine blk_put (cs := #[.int .i64 t5, .int .i64 0]) ?_ 1 _ rfl; refine pf ?_; refine blk_put (cs := #[.int .i64 0, .int .i64 0]) ?_ 0 _ rfl; exact Z K3) Try.underlying24 rfl (by kernel_rfl)) rfl ?_
      exact ⟨_, ez, by (with_reducible repeat (first | apply Kd.R_alloc | apply Kd.R_drewN | apply Kd.R_drew)); exact Kd.R_mono (Kd.R_far (p := ⟨g3, 1, none⟩) (Kd.R_far (p := ⟨g3, 0, none⟩) (Kd.R_types O2.out K3.out (by decide)) (fun _ hk => hk.2) (.int .i64 t5)) (fun _ hk => hk.2) (.int .i64 t6)) (fun _ hk => trivial), YA HB⟩
     replace c3 := Bool.eq_false_iff.mpr c3
     subst c3
     rw [if_neg ff] at H
     have C3 := am H
     clear H
     go_upto_region 9 with (first | ((with_reducible refine gate_callee (f := 37) rfl ?_); refine goesL_ (some 51) rfl rfl Try.func37 (by kernel_rfl) rfl #[.int .i64 a0, .int .i64 6, .int .i64 8] rfl mz ?_; (with_reducible refine (spec_l1In.calls _ _ _ _ _ A1.out).mono ?_); rintro e w' ⟨rfl, ⟨nd, rfl⟩⟩; refine ⟨_, rfl, ?_⟩; (try (rw [drewN_self wc]; generalize hq_ : World.drewN wc _ = wc; replace O2 : Aside0 (Kd.R (Kd.int .i64) 3 wc w.heap.size (fun _ => True) v1 y1) := ⟨by rw [← hq_]; exact (RZ O2)⟩; replace K1 : Bx2 wc g1 a1_0 a1_1 24 := ⟨by rw [← hq_]; exact (Z K1)⟩; replace K2 : Bx2 wc g2 a2_0 a2_1 24 := ⟨by rw [← hq_]; exact (Z K2)⟩; replace K3 : Bx2 wc g3 0 0 24 := ⟨by rw [← hq_]; exact (Z K3)⟩; replace HB : Aside0 (Below w.heap.size w wc) := ⟨by rw [← hq_]; exact (YA HB)⟩; clear hq_)); have z_ := ns2 N2 N5; have z_ := cB2 K2) | ((with_reducible refine gate_dst (N := 9) rfl ?_); refine bxn 9 #[.int .i64 0, .int .i64 0] 24 HB fun g4 w6 K4 G4 hg hb => ?_; obtain ⟨N7,N8⟩ := ne_ hg K1; obtain ⟨N9,N10⟩ := ne_ hg K2; obtain ⟨N11,N12⟩ := ne_ hg K3; replace O2 := am (Kd.R_below (RZ O2) hb); obtain ⟨K1, K2, K3, HB⟩ := bk3 K1 K2 K3 HB hb; clear hb hg; have z_ := ns3 N8 N10 N12; have z_ := cB2 K4))
     (try simp only [Act.put, List.setIfInBounds_toArray, List.set_cons_zero, List.set_cons_succ])
     go_cut [10] (fun v4 wc => ∃ (kq : Nat) (x3 : Bool), v4 = .bool x3 ∧ Aside0 (spec_RangeDo.j2 kq a0 y1 x3 a1_0 a1_1 a2_0 a2_1 a2_0 a2_1 = some (r1, r2, r3)) ∧ Aside0 (kq ≤ k2) ∧ Aside0 (Kd.R (Kd.int .i64) 3 wc w.heap.size (fun _ => True) v1 y1) ∧ Bx2 wc g1 a1_0 a1_1 24 ∧ Bx2 wc g2 a2_0 a2_1 24 ∧ Bx2 wc g3 0 0 24 ∧ Bx2 wc g4 a2_0 a2_1 24 ∧ Aside0 (Below w.heap.size w wc))
     case first =>
      have H := C3.out
      clear C3
      by_cases c4 : a0 = 9
      rotate_left
      ·rw [if_neg c4] at H
       have d1 := eF c4
       have d2 := nT c4
       (first | rw [d1] | (simp only [i64_w, i32_w]; rw [d1]) | skip)
       have H' := am H
       clear H
       go_wp2
       go_meet
       case rel => exact ⟨_, ((a0 == 10)), ey, H', ⟨by have := J1.out; have := J2.out; first | omega | exact Nat.le_refl _⟩, ⟨by (with_reducible repeat (first | apply Kd.R_alloc | apply Kd.R_drewN | apply Kd.R_drew)); exact Kd.R_mono (Kd.R_far (p := ⟨g4, 1, none⟩) (Kd.R_far (p := ⟨g4, 0, none⟩) (Kd.R_types O2.out K4.out (by decide)) (fun _ hk => hk.2) (.int .i64 a2_0)) (fun _ hk => hk.2) (.int .i64 a2_1)) (fun _ hk => trivial)⟩, ⟨by refine fa N7 ?_; refine fa N7 ?_; exact Z K1⟩, ⟨by refine fa N9 ?_; refine fa N9 ?_; exact Z K2⟩, ⟨by refine fa N11 ?_; refine fa N11 ?_; exact Z K3⟩, ⟨by refine pf ?_; refine blk_put (cs := #[.int .i64 a2_0, .int .i64 0]) ?_ 1 _ rfl; refine pf ?_; refine blk_put (cs := #[.int .i64 0, .int .i64 0]) ?_ 0 _ rfl; exact Z K4⟩, ⟨YA HB⟩⟩
      rw [if_pos c4] at H
      have d1 := eT c4
      have d2 := nF c4
      clear c4
      (first | rw [d1] | (simp only [i64_w, i32_w]; rw [d1]) | skip)
      have H' := am H
      clear H
      go_wp2
      go_meet
      case rel => exact ⟨_, (true), ey, H', ⟨by have := J1.out; have := J2.out; first | omega | exact Nat.le_refl _⟩, ⟨by (with_reducible repeat (first | apply Kd.R_alloc | apply Kd.R_drewN | apply Kd.R_drew)); exact Kd.R_mono (Kd.R_far (p := ⟨g4, 1, none⟩) (Kd.R_far (p := ⟨g4, 0, none⟩) (Kd.R_types O2.out K4.out (by decide)) (fun _ hk => hk.2) (.int .i64 a2_0)) (fun _ hk => hk.2) (.int .i64 a2_1)) (fun _ hk => trivial)⟩, ⟨by refine fa N7 ?_; refine fa N7 ?_; exact Z K1⟩, ⟨by refine fa N9 ?_; refine fa N9 ?_; exact Z K2⟩, ⟨by refine fa N11 ?_; refine fa N11 ?_; exact Z K3⟩, ⟨by refine pf ?_; refine blk_put (cs := #[.int .i64 a2_0, .int .i64 0]) ?_ 1 _ rfl; refine pf ?_; refine blk_put (cs := #[.int .i64 0, .int .i64 0]) ?_ 0 _ rfl; exact Z K4⟩, ⟨YA HB⟩⟩
     case rest =>
      clear C3
      (try clear c2);(try clear c3)
      obtain ⟨kq, x3, rfl, HA, J3, O2, K1, K2, K3, K4, HB⟩ := hcut
      cases kq with
      | zero => exact absurd HA.out (by simp [spec_RangeDo.j2])
      | succ k3 =>
       have H := HA.out
       clear HA
       simp only [spec_RangeDo.j2] at H
       have C4 := am H
       clear H
       go_upto_if 64 with (fail)
       go_cut [] (fun wc => ∃ (kq : Nat) (x4 : Int) (x5 : Int), Aside0 (spec_RangeDo.j3 kq a0 y1 x3 a1_0 a1_1 a2_0 a2_1 x4 x5 = some (r1, r2, r3)) ∧ Aside0 (kq ≤ k3) ∧ Aside0 (Kd.R (Kd.int .i64) 3 wc w.heap.size (fun _ => True) v1 y1) ∧ Bx2 wc g1 a1_0 a1_1 24 ∧ Bx2 wc g2 a2_0 a2_1 24 ∧ Bx2 wc g3 0 0 24 ∧ Bx2 wc g4 x4 x5 24 ∧ Aside0 (Below w.heap.size w wc))
       case first =>
        have H := C4.out
        clear C4
        by_cases c4 : x3 = true
        rotate_left
        ·replace c4 := Bool.eq_false_iff.mpr c4
         subst c4
         rw [if_neg ff] at H
         have H' := am H
         clear H
         go_wp2
         go_meet
         case rel => exact ⟨_, (a2_0), (a2_1), H', ⟨by have := J1.out; have := J2.out; have := J3.out; first | omega | exact Nat.le_refl _⟩, ⟨by exact RZ O2⟩, ⟨Z K1⟩, ⟨Z K2⟩, ⟨Z K3⟩, ⟨Z K4⟩, ⟨YA HB⟩⟩
        subst c4
        rw [if_pos rfl] at H
        obtain ⟨⟨t5, t6⟩, A2, H⟩ := bd H
        try dsimp only at H
        have H' := am H
        clear H
        have z_ := ns3 N2 N5 N9
        have z_ := cB2 K2
        go_wp2_with (first | ((with_reducible refine gate_callee (f := 41) rfl ?_); refine gL 67 Try.func41 (spec_RangeMeet.calls _ _ _ _ _ _ _ _ A2.out) fun w7 hb => ?_; replace O2 := am (Kd.R_below (RZ O2) hb); obtain ⟨K1, K2, K3, K4, HB⟩ := bk4 K1 K2 K3 K4 HB hb; (try clear hb); have z_ := ns2 N8 N12; have z_ := cB2 K4))
        go_meet
        case rel => exact ⟨_, (t5), (t6), H', ⟨by have := J1.out; have := J2.out; have := J3.out; first | omega | exact Nat.le_refl _⟩, ⟨by (with_reducible repeat (first | apply Kd.R_alloc | apply Kd.R_drewN | apply Kd.R_drew)); exact Kd.R_mono (Kd.R_far (p := ⟨g4, 1, none⟩) (Kd.R_far (p := ⟨g4, 0, none⟩) (Kd.R_types O2.out K4.out (by decide)) (fun _ hk => hk.2) (.int .i64 t5)) (fun _ hk => hk.2) (.int .i64 t6)) (fun _ hk => trivial)⟩, ⟨by refine fa N7 ?_; refine fa N7 ?_; exact Z K1⟩, ⟨by refine fa N9 ?_; refine fa N9 ?_; exact Z K2⟩, ⟨by refine fa N11 ?_; refine fa N11 ?_; exact Z K3⟩, ⟨by refine pf ?_; refine blk_put (cs := #[.int .i64 t5, .int .i64 a2_1]) ?_ 1 _ rfl; refine pf ?_; refine blk_put (cs := #[.int .i64 a2_0, .int .i64 a2_1]) ?_ 0 _ rfl; exact Z K4⟩, ⟨YA HB⟩⟩
       case rest =>
        clear C4
        obtain ⟨kq, x4, x5, HA, J4, O2, K1, K2, K3, K4, HB⟩ := hcut
        cases kq with
        | zero => exact absurd HA.out (by simp [spec_RangeDo.j3])
        | succ k4 =>
         have H := HA.out
         clear HA
         simp only [spec_RangeDo.j3] at H
         obtain ⟨⟨t5, t6⟩, A2, H⟩ := bd H
         try dsimp only at H
         have C5 := am H
         clear H
         try go_wp2_with (first | ((with_reducible refine gate_dst (N := 69) rfl ?_); refine bxn 69 #[.bool false, .int .i64 0, .int .i64 0] 67 HB fun g5 w7 K5 G5 hg hb => ?_; obtain ⟨N13,N14⟩ := ne_ hg K1; obtain ⟨N15,N16⟩ := ne_ hg K2; obtain ⟨N17,N18⟩ := ne_ hg K3; obtain ⟨N19,N20⟩ := ne_ hg K4; replace O2 := am (Kd.R_below (RZ O2) hb); obtain ⟨K1, K2, K3, K4, HB⟩ := bk4 K1 K2 K3 K4 HB hb; clear hb hg))
         replace O2 := am (Kd.R_drew O2.out)
         obtain ⟨K1, K2, K3, K4, K5, HB⟩ := dk5 K1 K2 K3 K4 K5 HB
         refine start_ (n := 3) (S := fun w' => w'.cell? ⟨g4, 0, none⟩ = some (.int .i64 x4) ∧ w'.cell? ⟨g4, 1, none⟩ = some (.int .i64 x5)) (ds := []) (lb 3 0) (by kernel_rfl) rfl rfl ⟨bc K4 0, bc K4 1⟩ (fun hHeld => ?_)
         generalize w7.drew = w8 at O2 K1 K2 K3 K4 K5 HB hHeld ⊢
         refine take_ (i := 0) (N := some 70) (v := ?_) (a' := ?_) (lb 3 1) rfl rfl (by kernel_rfl) (fun _ _ _ h => h) (Or.inl ⟨by rfl, ?_⟩) hHeld ?_ ?_
         rotate_left
         ·rintro w' ⟨s0, s1⟩
          go_simp
          with_reducible rfl
         rotate_left
         ·exact pz
         refine one_ (i := 1) (N := some 71) (lb 3 3) rfl rfl (by kernel_rfl) (by decide) (fun K hK => ?_)
         refine gq Try.func38 (spec_l8None.calls _ _ _ A2.out) fun w9 hb => ?_
         replace O2 := am (Kd.R_below (RZ O2) hb)
         obtain ⟨K1, K2, K3, K4, K5, HB⟩ := bk5 K1 K2 K3 K4 K5 HB hb
         clear hb
         refine kk hK ⟨bc K4 0, bc K4 1⟩ fun hHeld => ?_
         clear hK K
         refine pure_ (i := 2) (N := some 72) (v := ?_) (a' := ?_) (lb 3 7) rfl rfl (by kernel_rfl) (fun _ _ _ h => h) (Or.inl ⟨by rfl, ?_⟩) ?_ ?_
         rotate_left
         ·exact gz
         rotate_left
         ·exact pz
         refine done_ (by kernel_rfl) ?_
         go_upto_if 72 with (fail)
         go_cut [] (fun wc => ∃ (kq : Nat) (x6 : Bool) (x7 : Int) (x8 : Int), Aside0 (spec_RangeDo.j4 kq a0 y1 x3 a2_0 a2_1 x4 x5 x6 x7 x8 = some (r1, r2, r3)) ∧ Aside0 (kq ≤ k4) ∧ Aside0 (Kd.R (Kd.int .i64) 3 wc w.heap.size (fun _ => True) v1 y1) ∧ Bx2 wc g1 a1_0 a1_1 24 ∧ Bx2 wc g2 a2_0 a2_1 24 ∧ Bx2 wc g3 0 0 24 ∧ Bx2 wc g4 x4 x5 24 ∧ Aside0 (wc.heap[g5]? = some (.cells #[.bool x6, .int .i64 x7, .int .i64 x8] 67 (0, 0))) ∧ Aside0 (Below w.heap.size w wc))
         case first =>
          have H := C5.out
          clear C5
          by_cases c4 : (!(x4 == t5) || (!(x5 == t6))) = true
          rotate_left
          ·rw [if_neg c4] at H
           have d1 : (!(x4 == t5) || (!(x5 == t6))) = false := by simpa using c4
           clear c4
           (first | rw [d1] | (simp only [i64_w, i32_w]; rw [d1]) | skip)
           have H' := am H
           clear H
           go_wp2
           go_meet
           case rel => exact ⟨_, (false), (0), (0), H', ⟨by have := J1.out; have := J2.out; have := J3.out; have := J4.out; first | omega | exact Nat.le_refl _⟩, ⟨by exact RZ O2⟩, ⟨Z K1⟩, ⟨Z K2⟩, ⟨Z K3⟩, ⟨Z K4⟩, ⟨Z K5⟩, ⟨YA HB⟩⟩
          rw [if_pos c4] at H
          have d1 : (!(x4 == t5) || (!(x5 == t6))) = true := c4
          clear c4
          (first | rw [d1] | (simp only [i64_w, i32_w]; rw [d1]) | skip)
          obtain ⟨⟨t7, t8, t9⟩, A3, H⟩ := bd H
          try dsimp only at H
          have H' := am H
          clear H
          have z_ := ns7 N1 N3 N7 N13 N10 N12 N19
          have z_ := cB2 K1
          have z_ := cB2 K4
          go_wp2_with (first | (have I1 := am (show IsS67 w _ g5 false 0 0 from And.intro K5.out G5.out); (with_reducible refine gate_callee (f := 42) rfl ?_); refine goesL_ (some 77) rfl rfl Try.func42 (by kernel_rfl) rfl #[.pointer (some ⟨g5, 0, none⟩), .int .i64 a0, .agg #[.int .i64 a1_0, .int .i64 a1_1], .agg #[.int .i64 x4, .int .i64 x5]] rfl mz ?_; (with_reducible refine (spec_l8R_corners.calls k4 g5 false 0 0 a0 a1_0 a1_1 x4 x5 t7 t8 t9 w _ ?side1 ?side2 A3.out).mono ?_); (case side1 => repeat (first | (with_reducible first | exact I1.out | apply IsS67.alloc | apply IsS67.drewN | apply IsS67.drew | apply IsS67.set_0 | apply IsS67.set_1 | apply IsS67.set_2 | refine IsS67.far ?_ N14.out _ | refine IsS67.far ?_ N16.out _ | refine IsS67.far ?_ N18.out _ | refine IsS67.far ?_ N20.out _) | exact I1.out)); (case side2 => repeat (first | (with_reducible first | exact HB.out | apply below_alloc | apply pw_below_drewN | apply below_drew1 | refine below_set ?_ (IsS67.ge I1.out) | refine below_set ?_ G1.out | refine below_set ?_ G2.out | refine below_set ?_ G3.out | refine below_set ?_ G4.out) | exact HB.out)); rintro e w10 ⟨rfl, hi, hb, hk⟩; refine ⟨_, rfl, ?_⟩; replace O2 := am (Kd.R_mono (Kd.R_keep (IsS67.apart (show IsS67 w _ g5 false 0 0 from by repeat (first | (with_reducible first | exact I1.out | apply IsS67.alloc | apply IsS67.drewN | apply IsS67.drew | apply IsS67.set_0 | apply IsS67.set_1 | apply IsS67.set_2 | refine IsS67.far ?_ N14.out _ | refine IsS67.far ?_ N16.out _ | refine IsS67.far ?_ N18.out _ | refine IsS67.far ?_ N20.out _) | exact I1.out)) (RZ O2) (by decide)) hk (fun _ h => h.2)) (fun _ h => h.1)); replace K1 := am (KeepBut.blk hk (g' := g1) (o := b2 a1_0 a1_1 24) (Z K1) N13.out (by simp)); replace K2 := am (KeepBut.blk hk (g' := g2) (o := b2 a2_0 a2_1 24) (Z K2) N15.out (by simp)); replace K3 := am (KeepBut.blk hk (g' := g3) (o := b2 0 0 24) (Z K3) N17.out (by simp)); replace K4 := am (KeepBut.blk hk (g' := g4) (o := b2 x4 x5 24) (Z K4) N19.out (by simp)); replace HB := am (hb); replace I1 := am (hi); (try clear hb); clear K5; have K5 := am (I1.out.1); clear I1))
          go_meet
          case rel => exact ⟨_, (t7), (t8), (t9), H', ⟨by have := J1.out; have := J2.out; have := J3.out; have := J4.out; first | omega | exact Nat.le_refl _⟩, ⟨by exact RZ O2⟩, ⟨Z K1⟩, ⟨Z K2⟩, ⟨Z K3⟩, ⟨Z K4⟩, ⟨Z K5⟩, ⟨YA HB⟩⟩
         case rest =>
          clear C5
          obtain ⟨kq, x6, x7, x8, HA, J5, O2, K1, K2, K3, K4, K5, HB⟩ := hcut
          cases kq with
          | zero => exact absurd HA.out (by simp [spec_RangeDo.j4])
          | succ k5 =>
           have H := HA.out
           clear HA
           simp only [spec_RangeDo.j4] at H
           by_cases c4 : a0 ≥ 11
           ·rw [if_pos c4] at H
            have d1 := dT c4
            clear c4
            obtain ⟨⟨t7, t8⟩, A3, H⟩ := bd H
            try dsimp only at H
            simp only [Option.some.injEq, Prod.mk.injEq] at H
            obtain ⟨rfl, rfl, rfl⟩ := H
            try go_wp2
            replace O2 := am (Kd.R_drew O2.out)
            obtain ⟨K1, K2, K3, K4, K5, HB⟩ := dk5 K1 K2 K3 K4 K5 HB
            refine start_ (n := 12) (S := fun w' => w'.cell? ⟨g5, 0, none⟩ = some (.bool x6) ∧ w'.cell? ⟨g5, 1, none⟩ = some (.int .i64 x7) ∧ w'.cell? ⟨g5, 2, none⟩ = some (.int .i64 x8)) (ds := []) (lb 12 0) (by kernel_rfl) rfl rfl ⟨bc K5 0, bc K5 1, bc K5 2⟩ (fun hHeld => ?_); refine with_tabW spec_RangeDo.tab16 spec_RangeDo.bits16 (fun HT_ HW_ => ?_)
            generalize wc.drew = w10 at O2 K1 K2 K3 K4 K5 HB hHeld ⊢
            refine pk 0 80 1 ?_
            refine pk 1 81 3 ?_
            refine pk 2 82 7 ?_
            refine pk 4 84 23 ?_
            refine pk 5 85 55 ?_
            refine pk 6 86 119 ?_
            refine pk 9 89 631 ?_
            refine tk 3 83 639 hHeld ?_
            refine tk 7 87 767 hHeld ?_
            refine on 8 (some 88) 1023 fun K hK => ?_
            refine gq Try.func43 (spec_l8Wrapped.calls _ _ _ _ _ _ A3.out) fun w11 hb => ?_
            replace O2 := am (Kd.R_below (RZ O2) hb)
            obtain ⟨K1, K2, K3, K4, K5, HB⟩ := bk5 K1 K2 K3 K4 K5 HB hb
            clear hb
            refine kk hK ⟨bc K5 0, bc K5 1, bc K5 2⟩ fun hHeld => ?_
            clear hK K
            refine on 10 none 2047 fun K hK => ?_
            have s2 : w11.cell? ⟨g3, 0, none⟩ = some (.int .i64 0) := bc K3 0
            have hfs103 := blk_frozen K3.out 0
            have z_ := ns8 N3 N5 N12 N18 N4 N6 N11 N17
            have s3 : w11.cell? ⟨g3, 1, none⟩ = some (.int .i64 0) := bc K3 1
            have hfs104 := blk_frozen K3.out 1
            have z_ := ns8 N3 N5 N12 N18 N4 N6 N11 N17
            refine skip_ (w1 := ?_) (by rfl) rfl ?_ ?_
            rotate_left
            ·go_simp
             rfl
            refine hK.out _ _ ⟨(cf N18 ((cf N18 (hHeld.1)))), (cf N18 ((cf N18 (hHeld.2.1)))), (cf N18 ((cf N18 (hHeld.2.2))))⟩ (fun hHeld => ?_)
            clear hK K
            refine pk 11 7 4095 ?_
            refine done_ (done_of HT_.out (by kernel_rfl)) ?_
            try go_wp2
            refine bodyPost_ret (results_ct rfl _ _ g3 24 #[.int .i64 t7, .int .i64 t8] (0, 0) _ rfl (by refine pf ?_; refine blk_put (cs := #[.int .i64 t7, .int .i64 0]) ?_ 1 _ rfl; refine pf ?_; refine blk_put (cs := #[.int .i64 0, .int .i64 0]) ?_ 0 _ rfl; exact Z K3) Try.underlying24 rfl (by kernel_rfl)) rfl ?_
            exact ⟨_, ez, by (with_reducible repeat (first | apply Kd.R_alloc | apply Kd.R_drewN | apply Kd.R_drew)); exact Kd.R_mono (Kd.R_far (p := ⟨g3, 1, none⟩) (Kd.R_far (p := ⟨g3, 0, none⟩) (Kd.R_types O2.out K3.out (by decide)) (fun _ hk => hk.2) (.int .i64 t7)) (fun _ hk => hk.2) (.int .i64 t8)) (fun _ hk => trivial), YA HB⟩
           rw [if_neg c4] at H
           have d1 := dF c4
           clear c4
           have C6 := am H
           clear H
           go_upto_region 17 with (fail)
           go_cut [107] (fun v5 wc => ∃ (kq : Nat) (x9 : Bool), v5 = .bool x9 ∧ Aside0 (spec_RangeDo.j5 kq y1 x3 x9 a2_0 a2_1 x4 x5 x6 x7 x8 = some (r1, r2, r3)) ∧ Aside0 (kq ≤ k5) ∧ Aside0 (Kd.R (Kd.int .i64) 3 wc w.heap.size (fun _ => True) v1 y1) ∧ Bx2 wc g1 a1_0 a1_1 24 ∧ Bx2 wc g2 a2_0 a2_1 24 ∧ Bx2 wc g3 0 0 24 ∧ Bx2 wc g4 x4 x5 24 ∧ Aside0 (wc.heap[g5]? = some (.cells #[.bool x6, .int .i64 x7, .int .i64 x8] 67 (0, 0))) ∧ Aside0 (Below w.heap.size w wc))
           case first =>
            have H := C6.out
            clear C6
            by_cases c5 : x6 = true
            rotate_left
            ·replace c5 := Bool.eq_false_iff.mpr c5
             subst c5
             rw [if_neg ff] at H
             have H' := am H
             clear H
             have z_ := ns4 N14 N16 N18 N20
             have z_ := cB3 K5
             go_wp2
             go_meet
             case rel => exact ⟨_, (false), ey, H', ⟨by have := J1.out; have := J2.out; have := J3.out; have := J4.out; have := J5.out; first | omega | exact Nat.le_refl _⟩, ⟨by exact RZ O2⟩, ⟨Z K1⟩, ⟨Z K2⟩, ⟨Z K3⟩, ⟨Z K4⟩, ⟨Z K5⟩, ⟨YA HB⟩⟩
            subst c5
            rw [if_pos rfl] at H
            by_cases c6 : x7 < (-2147483648)
            ·rw [if_pos c6] at H
             have d2 := dT c6
             clear c6
             (first | rw [d2] | (simp only [i64_w, i32_w]; rw [d2]) | skip)
             have H' := am H
             clear H
             have z_ := ns4 N14 N16 N18 N20
             have z_ := cB3 K5
             go_wp2
             go_meet
             case rel => exact ⟨_, (true), ey, H', ⟨by have := J1.out; have := J2.out; have := J3.out; have := J4.out; have := J5.out; first | omega | exact Nat.le_refl _⟩, ⟨by exact RZ O2⟩, ⟨Z K1⟩, ⟨Z K2⟩, ⟨Z K3⟩, ⟨Z K4⟩, ⟨Z K5⟩, ⟨YA HB⟩⟩
            rw [if_neg c6] at H
            have d2 := dF c6
            clear c6
            (first | rw [d2] | (simp only [i64_w, i32_w]; rw [d2]) | skip)
            have H' := am H
            clear H
            have z_ := ns4 N14 N16 N18 N20
            have z_ := cB3 K5
            go_wp2
            go_meet
            case rel => exact ⟨_, (decide (x8 > 2147483647)), ey, H', ⟨by have := J1.out; have := J2.out; have := J3.out; have := J4.out; have := J5.out; first | omega | exact Nat.le_refl _⟩, ⟨by exact RZ O2⟩, ⟨Z K1⟩, ⟨Z K2⟩, ⟨Z K3⟩, ⟨Z K4⟩, ⟨Z K5⟩, ⟨YA HB⟩⟩
           case rest =>
            clear C6
            try clear d1
            obtain ⟨kq, x9, rfl, HA, J6, O2, K1, K2, K3, K4, K5, HB⟩ := hcut
            cases kq with
            | zero => exact absurd HA.out (by simp [spec_RangeDo.j5])
            | succ k6 =>
             have H := HA.out
             clear HA
             simp only [spec_RangeDo.j5] at H
             have C7 := am H
             clear H
             go_upto_if 107 with (fail)
             go_cut [8] (fun v6 wc => ∃ (kq : Nat) (x10 : List Int), Aside0 (spec_RangeDo.j6 kq x10 x3 a2_0 a2_1 x4 x5 x6 x7 x8 = some (r1, r2, r3)) ∧ Aside0 (kq ≤ k6) ∧ Aside0 (Kd.R (Kd.int .i64) 3 wc w.heap.size (fun _ => True) v6 x10) ∧ Bx2 wc g1 a1_0 a1_1 24 ∧ Bx2 wc g2 a2_0 a2_1 24 ∧ Bx2 wc g3 0 0 24 ∧ Bx2 wc g4 x4 x5 24 ∧ Aside0 (wc.heap[g5]? = some (.cells #[.bool x6, .int .i64 x7, .int .i64 x8] 67 (0, 0))) ∧ Aside0 (Below w.heap.size w wc))
             case first =>
              have H := C7.out
              clear C7
              by_cases c5 : x9 = true
              rotate_left
              ·replace c5 := Bool.eq_false_iff.mpr c5
               subst c5
               rw [if_neg ff] at H
               have H' := am H
               clear H
               go_wp2
               go_meet
               case rel => exact ⟨_, (y1), H', ⟨by have := J1.out; have := J2.out; have := J3.out; have := J4.out; have := J5.out; have := J6.out; first | omega | exact Nat.le_refl _⟩, ⟨by exact RZ O2⟩, ⟨Z K1⟩, ⟨Z K2⟩, ⟨Z K3⟩, ⟨Z K4⟩, ⟨Z K5⟩, ⟨YA HB⟩⟩
              subst c5
              rw [if_pos rfl] at H
              by_cases c6 : y1.length < 17592186044416
              rotate_left
              ·rw [if_neg c6] at H
               exact absurd H (by simp)
              rw [if_pos c6] at H
              have L1 := am c6
              clear c6
              obtain ⟨y3, y4⟩ : ∃ y_ : List Int, y_ = (y1 ++ [1]) := ⟨_, rfl⟩
              replace H : (spec_RangeDo.j6 k6 y3 x3 a2_0 a2_1 x4 x5 x6 x7 x8) = some (r1, r2, r3) := by first | (rw [y4]; with_reducible exact H) | (have H2_ := (Option.bind_some _ _).symm.trans H; rw [y4]; with_reducible exact H2_) | (have H2_ := (Option.bind_some _ _).symm.trans H; with_reducible exact H2_) | with_reducible exact H | (rw [y4]; exact H) | exact H
              have Y26 := am y4
              clear y4
              have H' := am H
              clear H
              go_wp2_with (first | ((with_reducible refine gate_builtin (b := .append) (xs := #[.tmp 108, .tmp 109]) rfl ?_); at_builtin; refine Kd.R_append (Kd.int .i64) (w0 := w) w.heap.size rfl (.tmp 108) (.tmp 109) 25 3 (.int .i64 0) 8 rfl Try.underlying25 info3 rfl (by decide) (by omega) v1 y1 1 [.int .i64 1] (fun _ => True) (fun _ => False) rfl rfl ?aP (fun _ hk => hk.elim) ?aF ?aO ?aB ?aS ?aL ?_; (case aP => exact rfl); (case aB => exact (YA HB)); (case aF => exact (fun _ _ => trivial)); (case aO => exact (RZ O2)); (case aS => exact (below_size (YA HB))); (case aL => have := L1.out; omega); intro v7 w10 ho hb hg hat; rw [← Y26.out] at ho; have O3 := am (ho); replace K1 := am (blk_grown (g := g1) (o := b2 a1_0 a1_1 24) (Z K1) hg (Kd.R_ne O2.out K1.out (by decide))); replace K2 := am (blk_grown (g := g2) (o := b2 a2_0 a2_1 24) (Z K2) hg (Kd.R_ne O2.out K2.out (by decide))); replace K3 := am (blk_grown (g := g3) (o := b2 0 0 24) (Z K3) hg (Kd.R_ne O2.out K3.out (by decide))); replace K4 := am (blk_grown (g := g4) (o := b2 x4 x5 24) (Z K4) hg (Kd.R_ne O2.out K4.out (by decide))); replace K5 := am (blk_grown (g := g5) (o := .cells #[.bool x6, .int .i64 x7, .int .i64 x8] 67 (0, 0)) (Z K5) hg (Kd.R_ne O2.out K5.out (by decide))); replace HB := am (hb); clear O2; clear ho hb hg hat))
              go_meet
              case rel => exact ⟨_, (y3), H', ⟨by have := J1.out; have := J2.out; have := J3.out; have := J4.out; have := J5.out; have := J6.out; first | omega | exact Nat.le_refl _⟩, ⟨by exact RZ O3⟩, ⟨Z K1⟩, ⟨Z K2⟩, ⟨Z K3⟩, ⟨Z K4⟩, ⟨Z K5⟩, ⟨YA HB⟩⟩
             case rest =>
              clear C7
              obtain ⟨kq, x10, HA, J7, O2, K1, K2, K3, K4, K5, HB⟩ := hcut
              cases kq with
              | zero => exact absurd HA.out (by simp [spec_RangeDo.j6])
              | succ k7 =>
               have H := HA.out
               clear HA
               simp only [spec_RangeDo.j6] at H
               have C8 := am H
               clear H
               go_upto_region 19 with (fail)
               go_cut [116] (fun v7 wc => ∃ (kq : Nat) (x11 : Bool), v7 = .bool x11 ∧ Aside0 (spec_RangeDo.j7 kq x10 x11 x6 x7 x8 = some (r1, r2, r3)) ∧ Aside0 (kq ≤ k7) ∧ Aside0 (Kd.R (Kd.int .i64) 3 wc w.heap.size (fun _ => True) u8 x10) ∧ Bx2 wc g1 a1_0 a1_1 24 ∧ Bx2 wc g2 a2_0 a2_1 24 ∧ Bx2 wc g3 0 0 24 ∧ Bx2 wc g4 x4 x5 24 ∧ Aside0 (wc.heap[g5]? = some (.cells #[.bool x6, .int .i64 x7, .int .i64 x8] 67 (0, 0))) ∧ Aside0 (Below w.heap.size w wc))
               case first =>
                have H := C8.out
                clear C8
                by_cases c5 : x3 = true
                rotate_left
                ·replace c5 := Bool.eq_false_iff.mpr c5
                 subst c5
                 rw [if_neg ff] at H
                 have H' := am H
                 clear H
                 go_wp2
                 go_meet
                 case rel => exact ⟨_, (false), ey, H', ⟨by have := J1.out; have := J2.out; have := J3.out; have := J4.out; have := J5.out; have := J6.out; have := J7.out; first | omega | exact Nat.le_refl _⟩, ⟨by exact RZ O2⟩, ⟨Z K1⟩, ⟨Z K2⟩, ⟨Z K3⟩, ⟨Z K4⟩, ⟨Z K5⟩, ⟨YA HB⟩⟩
                subst c5
                rw [if_pos rfl] at H
                have H' := am H
                clear H
                have z_ := ns7 N8 N10 N12 N19 N2 N5 N15
                have z_ := cB2 K4
                have z_ := cB2 K2
                go_wp2
                go_meet
                case rel => exact ⟨_, ((!(x4 == a2_0) || (!(x5 == a2_1)))), ey, H', ⟨by have := J1.out; have := J2.out; have := J3.out; have := J4.out; have := J5.out; have := J6.out; have := J7.out; first | omega | exact Nat.le_refl _⟩, ⟨by exact RZ O2⟩, ⟨Z K1⟩, ⟨Z K2⟩, ⟨Z K3⟩, ⟨Z K4⟩, ⟨Z K5⟩, ⟨YA HB⟩⟩
               case rest =>
                clear C8
                obtain ⟨kq, x11, rfl, HA, J8, O2, K1, K2, K3, K4, K5, HB⟩ := hcut
                cases kq with
                | zero => exact absurd HA.out (by simp [spec_RangeDo.j7])
                | succ k8 =>
                 have H := HA.out
                 clear HA
                 simp only [spec_RangeDo.j7] at H
                 have C9 := am H
                 clear H
                 go_upto_if 116 with (fail)
                 go_cut [8] (fun v6 wc => ∃ (kq : Nat) (x12 : List Int), Aside0 (spec_RangeDo.j8 kq x12 x6 x7 x8 = some (r1, r2, r3)) ∧ Aside0 (kq ≤ k8) ∧ Aside0 (Kd.R (Kd.int .i64) 3 wc w.heap.size (fun _ => True) v6 x12) ∧ Bx2 wc g1 a1_0 a1_1 24 ∧ Bx2 wc g2 a2_0 a2_1 24 ∧ Bx2 wc g3 0 0 24 ∧ Bx2 wc g4 x4 x5 24 ∧ Aside0 (wc.heap[g5]? = some (.cells #[.bool x6, .int .i64 x7, .int .i64 x8] 67 (0, 0))) ∧ Aside0 (Below w.heap.size w wc))
                 case first =>
                  have H := C9.out
                  clear C9
                  by_cases c5 : x11 = true
                  rotate_left
                  ·replace c5 := Bool.eq_false_iff.mpr c5
                   subst c5
                   rw [if_neg ff] at H
                   have H' := am H
                   clear H
                   go_wp2
                   go_meet
                   case rel => exact ⟨_, (x10), H', ⟨by have := J1.out; have := J2.out; have := J3.out; have := J4.out; have := J5.out; have := J6.out; have := J7.out; have := J8.out; first | omega | exact Nat.le_refl _⟩, ⟨by exact RZ O2⟩, ⟨Z K1⟩, ⟨Z K2⟩, ⟨Z K3⟩, ⟨Z K4⟩, ⟨Z K5⟩, ⟨YA HB⟩⟩
                  subst c5
                  rw [if_pos rfl] at H
                  by_cases c6 : x10.length < 17592186044416
                  rotate_left
                  ·rw [if_neg c6] at H
                   exact absurd H (by simp)
                  rw [if_pos c6] at H
                  have L1 := am c6
                  clear c6
                  obtain ⟨y3, y4⟩ : ∃ y_ : List Int, y_ = (x10 ++ [3]) := ⟨_, rfl⟩
                  replace H : (spec_RangeDo.j8 k8 y3 x6 x7 x8) = some (r1, r2, r3) := by first | (rw [y4]; with_reducible exact H) | (have H2_ := (Option.bind_some _ _).symm.trans H; rw [y4]; with_reducible exact H2_) | (have H2_ := (Option.bind_some _ _).symm.trans H; with_reducible exact H2_) | with_reducible exact H | (rw [y4]; exact H) | exact H
                  have Y26 := am y4
                  clear y4
                  have H' := am H
                  clear H
                  go_wp2_with (first | ((with_reducible refine gate_builtin (b := .append) (xs := #[.tmp 117, .tmp 118]) rfl ?_); at_builtin; refine Kd.R_append (Kd.int .i64) (w0 := w) w.heap.size rfl (.tmp 117) (.tmp 118) 25 3 (.int .i64 0) 8 rfl Try.underlying25 info3 rfl (by decide) (by omega) u8 x10 3 [.int .i64 3] (fun _ => True) (fun _ => False) rfl rfl ?aP (fun _ hk => hk.elim) ?aF ?aO ?aB ?aS ?aL ?_; (case aP => exact rfl); (case aB => exact (YA HB)); (case aF => exact (fun _ _ => trivial)); (case aO => exact (RZ O2)); (case aS => exact (below_size (YA HB))); (case aL => have := L1.out; omega); intro v8 w10 ho hb hg hat; rw [← Y26.out] at ho; have O3 := am (ho); replace K1 := am (blk_grown (g := g1) (o := b2 a1_0 a1_1 24) (Z K1) hg (Kd.R_ne O2.out K1.out (by decide))); replace K2 := am (blk_grown (g := g2) (o := b2 a2_0 a2_1 24) (Z K2) hg (Kd.R_ne O2.out K2.out (by decide))); replace K3 := am (blk_grown (g := g3) (o := b2 0 0 24) (Z K3) hg (Kd.R_ne O2.out K3.out (by decide))); replace K4 := am (blk_grown (g := g4) (o := b2 x4 x5 24) (Z K4) hg (Kd.R_ne O2.out K4.out (by decide))); replace K5 := am (blk_grown (g := g5) (o := .cells #[.bool x6, .int .i64 x7, .int .i64 x8] 67 (0, 0)) (Z K5) hg (Kd.R_ne O2.out K5.out (by decide))); replace HB := am (hb); clear O2; clear ho hb hg hat))
                  go_meet
                  case rel => exact ⟨_, (y3), H', ⟨by have := J1.out; have := J2.out; have := J3.out; have := J4.out; have := J5.out; have := J6.out; have := J7.out; have := J8.out; first | omega | exact Nat.le_refl _⟩, ⟨by exact RZ O3⟩, ⟨Z K1⟩, ⟨Z K2⟩, ⟨Z K3⟩, ⟨Z K4⟩, ⟨Z K5⟩, ⟨YA HB⟩⟩
                 case rest =>
                  clear C9
                  obtain ⟨kq, x12, HA, J9, O2, K1, K2, K3, K4, K5, HB⟩ := hcut
                  cases kq with
                  | zero => exact absurd HA.out (by simp [spec_RangeDo.j8])
                  | succ k9 =>
                   have H := HA.out
                   clear HA
                   simp only [spec_RangeDo.j8] at H
                   by_cases c5 : x6 = true
                   rotate_left
                   ·replace c5 := Bool.eq_false_iff.mpr c5
                    subst c5
                    rw [if_neg ff] at H
                    obtain ⟨⟨t7, t8⟩, A3, H⟩ := bd H
                    try dsimp only at H
                    simp only [Option.some.injEq, Prod.mk.injEq] at H
                    obtain ⟨rfl, rfl, rfl⟩ := H
                    have z_ := ns4 N14 N16 N18 N20
                    have z_ := cB3 K5
                    go_wp2_with (first | ((with_reducible refine gate_callee (f := 38) rfl ?_); refine gL 125 Try.func38 (spec_l8None.calls _ _ _ A3.out) fun w10 hb => ?_; replace O2 := am (Kd.R_below (RZ O2) hb); obtain ⟨K1, K2, K3, K4, K5, HB⟩ := bk5 K1 K2 K3 K4 K5 HB hb; (try clear hb); have z_ := ns3 N4 N6 N11; have z_ := cB2 K3))
                    refine bodyPost_ret (results_ct rfl _ _ g3 24 #[.int .i64 t7, .int .i64 t8] (0, 0) _ rfl (by refine pf ?_; refine blk_put (cs := #[.int .i64 t7, .int .i64 0]) ?_ 1 _ rfl; refine pf ?_; refine blk_put (cs := #[.int .i64 0, .int .i64 0]) ?_ 0 _ rfl; exact Z K3) Try.underlying24 rfl (by kernel_rfl)) rfl ?_
                    exact ⟨_, ez, by (with_reducible repeat (first | apply Kd.R_alloc | apply Kd.R_drewN | apply Kd.R_drew)); exact Kd.R_mono (Kd.R_far (p := ⟨g3, 1, none⟩) (Kd.R_far (p := ⟨g3, 0, none⟩) (Kd.R_types O2.out K3.out (by decide)) (fun _ hk => hk.2) (.int .i64 t7)) (fun _ hk => hk.2) (.int .i64 t8)) (fun _ hk => trivial), YA HB⟩
                   subst c5
                   rw [if_pos rfl] at H
                   obtain ⟨⟨t7, t8⟩, A3, H⟩ := bd H
                   try dsimp only at H
                   simp only [Option.some.injEq, Prod.mk.injEq] at H
                   obtain ⟨rfl, rfl, rfl⟩ := H
                   have z_ := ns4 N14 N16 N18 N20
                   have z_ := cB3 K5
                   try go_wp2
                   replace O2 := am (Kd.R_drew O2.out)
                   obtain ⟨K1, K2, K3, K4, K5, HB⟩ := dk5 K1 K2 K3 K4 K5 HB
                   refine start_ (n := 12) (S := fun w' => w'.cell? ⟨g5, 0, none⟩ = some (.bool true) ∧ w'.cell? ⟨g5, 1, none⟩ = some (.int .i64 x7) ∧ w'.cell? ⟨g5, 2, none⟩ = some (.int .i64 x8)) (ds := []) (lb 12 0) (by kernel_rfl) rfl rfl ⟨bc K5 0, bc K5 1, bc K5 2⟩ (fun hHeld => ?_); refine with_tabW spec_RangeDo.tab23 spec_RangeDo.bits23 (fun HT_ HW_ => ?_)
                   generalize wc.drew = w10 at O2 K1 K2 K3 K4 K5 HB hHeld ⊢
                   refine pk 0 127 1 ?_
                   refine pk 1 128 3 ?_
                   refine pk 2 129 7 ?_
                   refine pk 4 131 23 ?_
                   refine pk 5 132 55 ?_
                   refine pk 6 133 119 ?_
                   refine pk 9 136 631 ?_
                   refine tk 3 130 639 hHeld ?_
                   refine tk 7 134 767 hHeld ?_
                   refine on 8 (some 135) 1023 fun K hK => ?_
                   refine gq Try.func44 (spec_l8Cut.calls _ _ _ _ _ A3.out) fun w11 hb => ?_
                   replace O2 := am (Kd.R_below (RZ O2) hb)
                   obtain ⟨K1, K2, K3, K4, K5, HB⟩ := bk5 K1 K2 K3 K4 K5 HB hb
                   clear hb
                   refine kk hK ⟨bc K5 0, bc K5 1, bc K5 2⟩ fun hHeld => ?_
                   clear hK K
                   refine on 10 none 2047 fun K hK => ?_
                   have s2 : w11.cell? ⟨g3, 0, none⟩ = some (.int .i64 0) := bc K3 0
                   have hfs151 := blk_frozen K3.out 0
                   have z_ := ns8 N3 N5 N12 N18 N4 N6 N11 N17
                   have s3 : w11.cell? ⟨g3, 1, none⟩ = some (.int .i64 0) := bc K3 1
                   have hfs152 := blk_frozen K3.out 1
                   have z_ := ns8 N3 N5 N12 N18 N4 N6 N11 N17
                   refine skip_ (w1 := ?_) (by rfl) rfl ?_ ?_
                   rotate_left
                   ·go_simp
                    rfl
                   refine hK.out _ _ ⟨(cf N18 ((cf N18 (hHeld.1)))), (cf N18 ((cf N18 (hHeld.2.1)))), (cf N18 ((cf N18 (hHeld.2.2))))⟩ (fun hHeld => ?_)
                   clear hK K
                   refine pk 11 7 4095 ?_
                   refine done_ (done_of HT_.out (by kernel_rfl)) ?_
                   try go_wp2
                   refine bodyPost_ret (results_ct rfl _ _ g3 24 #[.int .i64 t7, .int .i64 t8] (0, 0) _ rfl (by refine pf ?_; refine blk_put (cs := #[.int .i64 t7, .int .i64 0]) ?_ 1 _ rfl; refine pf ?_; refine blk_put (cs := #[.int .i64 0, .int .i64 0]) ?_ 0 _ rfl; exact Z K3) Try.underlying24 rfl (by kernel_rfl)) rfl ?_
                   exact ⟨_, ez, by (with_reducible repeat (first | apply Kd.R_alloc | apply Kd.R_drewN | apply Kd.R_drew)); exact Kd.R_mono (Kd.R_far (p := ⟨g3, 1, none⟩) (Kd.R_far (p := ⟨g3, 0, none⟩) (Kd.R_types O2.out K3.out (by decide)) (fun _ hk => hk.2) (.int .i64 t7)) (fun _ hk => hk.2) (.int .i64 t8)) (fun _ hk => trivial), YA HB⟩
end
section
attribute [local go_sem] max2_int min2_int max_two min_two max_three min_three max_four min_four
attribute [local go_sem] Go.Proofs.YthbkakcchgnhpaaSet.isSome_setCell
def spec_l10None.f  : Option (Int × Int × Int × Int) := some (1, 0, 0, 0)
set_option maxHeartbeats 8000000 in
set_option maxRecDepth 100000 in
theorem spec_l10None.calls  (r1 : Int) (r2 : Int) (r3 : Int) (r4 : Int) (w : World) (h : spec_l10None.f  = some (r1, r2, r3, r4)) :
  Calls Try.prog 71 #[] w fun e w' => e = .returned (.agg #[.int .i64 r1, .int .i64 r2, .int .i64 r3, .int .i64 r4]) ∧ Below w.heap.size w w' := by
 have hu50 := Try.underlying50
 have HB := am (Below.refl w.heap.size w)
 have H : (some (1, 0, 0, 0)) = some (r1, r2, r3, r4) := h
 clear h
 simp only [Option.some.injEq, Prod.mk.injEq] at H
 obtain ⟨rfl, rfl, rfl, rfl⟩ := H
 go_enter Try.func71, Try.ntmps71
 go_wp2_with (first | ((with_reducible refine gate_dst (N := 0) rfl ?_); refine bxn 0 #[.int .i64 0, .int .i64 0, .int .i64 0, .int .i64 0] 50 HB fun g1 w1 K1 G1 hg hb => ?_; replace HB := am (below_step (YA HB) hb); clear hb hg; have z_ := cB4 K1))
 refine bodyPost_ret (results_cell_row rfl _ _ g1 50 #[.int .i64 1, .int .i64 0, .int .i64 0, .int .i64 0] (0, 0) _ rfl (by refine pf ?_; refine blk_put (cs := #[.int .i64 1, .int .i64 0, .int .i64 0, .int .i64 0]) ?_ 3 _ rfl; refine pf ?_; refine blk_put (cs := #[.int .i64 1, .int .i64 0, .int .i64 0, .int .i64 0]) ?_ 2 _ rfl; refine pf ?_; refine blk_put (cs := #[.int .i64 1, .int .i64 0, .int .i64 0, .int .i64 0]) ?_ 1 _ rfl; refine pf ?_; refine blk_put (cs := #[.int .i64 0, .int .i64 0, .int .i64 0, .int .i64 0]) ?_ 0 _ rfl; exact Z K1) Try.underlying50 rfl (by kernel_rfl)) rfl ?_
 exact ⟨ez, YA HB⟩

def spec_l10Range.f (a0_0 : Int) (a0_1 : Int) (a0_2 : Int) (a0_3 : Int) : Option (Int × Int) := some (a0_0, a0_1)
set_option maxHeartbeats 8000000 in
set_option maxRecDepth 100000 in
theorem spec_l10Range.calls (a0_0 : Int) (a0_1 : Int) (a0_2 : Int) (a0_3 : Int) (r1 : Int) (r2 : Int) (w : World) (h : spec_l10Range.f a0_0 a0_1 a0_2 a0_3 = some (r1, r2)) :
  Calls Try.prog 72 #[.agg #[.int .i64 a0_0, .int .i64 a0_1, .int .i64 a0_2, .int .i64 a0_3]] w fun e w' => e = .returned (.agg #[.int .i64 r1, .int .i64 r2]) ∧ Below w.heap.size w w' := by
 have hu50 := Try.underlying50
 have hu24 := Try.underlying24
 have HB := am (Below.refl w.heap.size w)
 have H : (some (a0_0, a0_1)) = some (r1, r2) := h
 clear h
 simp only [Option.some.injEq, Prod.mk.injEq] at H
 obtain ⟨rfl, rfl⟩ := H
 go_enter Try.func72, Try.ntmps72
 go_wp2_with (first | ((with_reducible refine gate_dst (N := 1) rfl ?_); refine bxn 1 #[.int .i64 a0_0, .int .i64 a0_1, .int .i64 a0_2, .int .i64 a0_3] 50 HB fun g1 w1 K1 G1 hg hb => ?_; replace HB := am (below_step (YA HB) hb); clear hb hg) | ((with_reducible refine gate_dst (N := 2) rfl ?_); refine bxn 2 #[.int .i64 0, .int .i64 0] 24 HB fun g2 w2 K2 G2 hg hb => ?_; obtain ⟨N1,N2⟩ := ne_ hg K1; obtain ⟨K1, HB⟩ := bk1 K1 HB hb; clear hb hg; have z_ := ns1 N1; have z_ := cB4 K1; have z_ := cB2 K2))
 refine bodyPost_ret (results_cell_row rfl _ _ g2 24 #[.int .i64 a0_0, .int .i64 a0_1] (0, 0) _ rfl (by refine pf ?_; refine blk_put (cs := #[.int .i64 a0_0, .int .i64 0]) ?_ 1 _ rfl; refine pf ?_; refine blk_put (cs := #[.int .i64 0, .int .i64 0]) ?_ 0 _ rfl; exact Z K2) Try.underlying24 rfl (by kernel_rfl)) rfl ?_
 exact ⟨ez, YA HB⟩

def spec_RestOk.f (a0_0 : Int) (a0_1 : Int) : Option (Bool) := if a0_0 = 0 then ((spec_NumOk.f a0_1).bind fun t1 => (some t1)) else ((spec_l1In.f a0_0 1 65536).bind fun t2 => (if t2 = true then ((spec_l1In.f a0_1 0 (wrap64 (a0_0 - 1))).bind fun t3 => (some t3)) else (some false)))
set_option maxHeartbeats 8000000 in
set_option maxRecDepth 100000 in
theorem spec_RestOk.calls (a0_0 : Int) (a0_1 : Int) (r : Bool) (w : World) (h : spec_RestOk.f a0_0 a0_1 = some r) :
  Calls Try.prog 102 #[.agg #[.int .i64 a0_0, .int .i64 a0_1]] w fun e w' => e = .returned (.bool r) ∧ Below w.heap.size w w' := by
 have hu86 := Try.underlying86
 have HB := am (Below.refl w.heap.size w)
 have H : (if a0_0 = 0 then ((spec_NumOk.f a0_1).bind fun t1 => (some t1)) else ((spec_l1In.f a0_0 1 65536).bind fun t2 => (if t2 = true then ((spec_l1In.f a0_1 0 (wrap64 (a0_0 - 1))).bind fun t3 => (some t3)) else (some false)))) = some r := h
 clear h
 by_cases c1 : a0_0 = 0
 ·rw [if_pos c1] at H
  have d1 := eT c1
  have d2 := nF c1
  clear c1
  obtain ⟨t1, A1, H⟩ := bd H
  try dsimp only at H
  obtain rfl := Option.some.inj H
  go_enter Try.func102, Try.ntmps102
  go_wp2_with (first | ((with_reducible refine gate_dst (N := 1) rfl ?_); refine bxn 1 #[.int .i64 a0_0, .int .i64 a0_1] 86 HB fun g1 w1 K1 G1 hg hb => ?_; replace HB := am (below_step (YA HB) hb); clear hb hg; have z_ := cB2 K1) | ((with_reducible refine gate_callee (f := 19) rfl ?_); refine goesL_ (some 8) rfl rfl Try.func19 (by kernel_rfl) rfl #[.int .i64 a0_1] rfl mz ?_; (with_reducible refine (spec_NumOk.calls _ _ _ A1.out).mono ?_); rintro e w' ⟨rfl, ⟨nd, rfl⟩⟩; refine ⟨_, rfl, ?_⟩))
  go_ret
  exact ⟨ez, YA HB⟩
 rw [if_neg c1] at H
 have d1 := eF c1
 have d2 := nT c1
 obtain ⟨t2, A1, H⟩ := bd H
 try dsimp only at H
 by_cases c2 : t2 = true
 rotate_left
 ·replace c2 := Bool.eq_false_iff.mpr c2
  subst c2
  rw [if_neg ff] at H
  obtain rfl := Option.some.inj H
  go_enter Try.func102, Try.ntmps102
  go_wp2_with (first | ((with_reducible refine gate_dst (N := 1) rfl ?_); refine bxn 1 #[.int .i64 a0_0, .int .i64 a0_1] 86 HB fun g1 w1 K1 G1 hg hb => ?_; replace HB := am (below_step (YA HB) hb); clear hb hg; have z_ := cB2 K1) | ((with_reducible refine gate_callee (f := 37) rfl ?_); refine goesL_ (some 11) rfl rfl Try.func37 (by kernel_rfl) rfl #[.int .i64 a0_0, .int .i64 1, .int .i64 65536] rfl mz ?_; (with_reducible refine (spec_l1In.calls _ _ _ _ _ A1.out).mono ?_); rintro e w' ⟨rfl, ⟨nd, rfl⟩⟩; refine ⟨_, rfl, ?_⟩))
  go_ret
  exact ⟨ez, YA HB⟩
 subst c2
 rw [if_pos rfl] at H
 obtain ⟨t3, A2, H⟩ := bd H
 try dsimp only at H
 obtain rfl := Option.some.inj H
 go_enter Try.func102, Try.ntmps102
 go_wp2_with (first | ((with_reducible refine gate_dst (N := 1) rfl ?_); refine bxn 1 #[.int .i64 a0_0, .int .i64 a0_1] 86 HB fun g1 w1 K1 G1 hg hb => ?_; replace HB := am (below_step (YA HB) hb); clear hb hg; have z_ := cB2 K1) | ((with_reducible refine gate_callee (f := 37) rfl ?_); refine goesL_ (some 11) rfl rfl Try.func37 (by kernel_rfl) rfl #[.int .i64 a0_0, .int .i64 1, .int .i64 65536] rfl mz ?_; (with_reducible refine (spec_l1In.calls _ _ _ _ _ A1.out).mono ?_); rintro e w' ⟨rfl, ⟨nd, rfl⟩⟩; refine ⟨_, rfl, ?_⟩) | (go_at_call 37; (with_reducible refine (spec_l1In.calls _ _ _ _ _ A2.out).mono ?_); rintro e w' ⟨rfl, ⟨nd, rfl⟩⟩))
 go_ret
 exact ⟨ez, YA HB⟩

def spec_l10One.f (a0 : Int) : Option (Int × Int × Int × Int) := some (a0, a0, 0, a0)
set_option maxHeartbeats 8000000 in
set_option maxRecDepth 100000 in
theorem spec_l10One.calls (a0 : Int) (r1 : Int) (r2 : Int) (r3 : Int) (r4 : Int) (w : World) (h : spec_l10One.f a0 = some (r1, r2, r3, r4)) :
  Calls Try.prog 103 #[.int .i64 a0] w fun e w' => e = .returned (.agg #[.int .i64 r1, .int .i64 r2, .int .i64 r3, .int .i64 r4]) ∧ Below w.heap.size w w' := by
 have hu50 := Try.underlying50
 have HB := am (Below.refl w.heap.size w)
 have H : (some (a0, a0, 0, a0)) = some (r1, r2, r3, r4) := h
 clear h
 simp only [Option.some.injEq, Prod.mk.injEq] at H
 obtain ⟨rfl, rfl, rfl, rfl⟩ := H
 go_enter Try.func103, Try.ntmps103
 go_wp2_with (first | ((with_reducible refine gate_dst (N := 2) rfl ?_); refine bxn 2 #[.int .i64 0, .int .i64 0, .int .i64 0, .int .i64 0] 50 HB fun g1 w1 K1 G1 hg hb => ?_; replace HB := am (below_step (YA HB) hb); clear hb hg; have z_ := cB4 K1))
 refine bodyPost_ret (results_cell_row rfl _ _ g1 50 #[.int .i64 a0, .int .i64 a0, .int .i64 0, .int .i64 a0] (0, 0) _ rfl (by refine pf ?_; refine blk_put (cs := #[.int .i64 a0, .int .i64 a0, .int .i64 0, .int .i64 0]) ?_ 3 _ rfl; refine pf ?_; refine blk_put (cs := #[.int .i64 a0, .int .i64 a0, .int .i64 0, .int .i64 0]) ?_ 2 _ rfl; refine pf ?_; refine blk_put (cs := #[.int .i64 a0, .int .i64 0, .int .i64 0, .int .i64 0]) ?_ 1 _ rfl; refine pf ?_; refine blk_put (cs := #[.int .i64 0, .int .i64 0, .int .i64 0, .int .i64 0]) ?_ 0 _ rfl; exact Z K1) Try.underlying50 rfl (by kernel_rfl)) rfl ?_
 exact ⟨ez, YA HB⟩
end
section
attribute [local go_sem] max2_int min2_int max_two min_two max_three min_three max_four min_four
attribute [local go_sem high] eqA24
attribute [local go_sem] Go.Proofs.YthbkakcchgnhpaaSet.isSome_setCell
def spec_ValMake.j0 : Nat → Bool → Int → Int → Int → Int → Option (Int × Int × Int × Int)
 | 0, _, _, _, _, _ => none
 | k + 1, x1, x2, x3, x4, x5 => if x1 = true then ((spec_l10None.f).bind fun u1 => (some (u1.1, u1.2.1, u1.2.2.1, u1.2.2.2))) else (if x4 = 0 then ((spec_RangeHas.f x2 x3 x5).bind fun t1 => (if t1 = true then ((spec_l10One.f x5).bind fun u2 => (some (u2.1, u2.2.1, u2.2.2.1, u2.2.2.2))) else ((spec_l10None.f).bind fun u3 => (some (u3.1, u3.2.1, u3.2.2.1, u3.2.2.2))))) else ((spec_l1Mod.f (wrap64 (x5 - x2)) x4).bind fun t2 => ((spec_l1Mod.f (wrap64 (x3 - x5)) x4).bind fun t3 => (if (wrap64 (x2 + t2)) > (wrap64 (x3 - t3)) then ((spec_l10None.f).bind fun u4 => (some (u4.1, u4.2.1, u4.2.2.1, u4.2.2.2))) else (if (wrap64 (x2 + t2)) = (wrap64 (x3 - t3)) then ((spec_l10One.f (wrap64 (x2 + t2))).bind fun u5 => (some (u5.1, u5.2.1, u5.2.2.1, u5.2.2.2))) else (some (wrap64 (x2 + t2), wrap64 (x3 - t3), x4, x5)))))))
def spec_ValMake.f (k : Nat) (a0_0 : Int) (a0_1 : Int) (a1_0 : Int) (a1_1 : Int) : Option (Int × Int × Int × Int) := (spec_RangeOk.f a0_0 a0_1).bind fun t1 => (if t1 = true then ((spec_RestOk.f a1_0 a1_1).bind fun t2 => (if t2 = true then ((spec_l8None.f).bind fun u1 => (spec_ValMake.j0 k (a0_0 == u1.1 && (a0_1 == u1.2)) a0_0 a0_1 a1_0 a1_1)) else (spec_ValMake.j0 k true a0_0 a0_1 a1_0 a1_1))) else (spec_ValMake.j0 k true a0_0 a0_1 a1_0 a1_1))
theorem spec_ValMake.mono_l : ∀ k, (∀ y0 y1 y2 y3 y4, LeO (spec_ValMake.j0 k y0 y1 y2 y3 y4) (spec_ValMake.j0 (k + 1) y0 y1 y2 y3 y4))
 | 0 => fun _ _ _ _ _ r h => by simp [spec_ValMake.j0] at h
 | k + 1 => by
  have ih0 := spec_ValMake.mono_l k
  ·intro y0 y1 y2 y3 y4
   unfold spec_ValMake.j0
   repeat' first | (with_reducible first | apply ih0 | apply LeO.refl | apply LeO.none | refine LeO.ite ?_ ?_ | refine LeO.bind ?_ (fun _ => ?_)) | apply ih0 | apply LeO.none | refine LeO.ite ?_ ?_ | refine LeO.bind ?_ (fun _ => ?_)
theorem spec_ValMake.mono : ∀ a0 a1 a2 a3 k, LeO (spec_ValMake.f k a0 a1 a2 a3) (spec_ValMake.f (k + 1) a0 a1 a2 a3) := by
 intro a0 a1 a2 a3 k
 have ih0 := spec_ValMake.mono_l k
 unfold spec_ValMake.f
 repeat' first | (with_reducible first | apply ih0 | apply LeO.refl | apply LeO.none | refine LeO.ite ?_ ?_ | refine LeO.bind ?_ (fun _ => ?_)) | apply ih0 | apply LeO.none | refine LeO.ite ?_ ?_ | refine LeO.bind ?_ (fun _ => ?_)
def spec_ValMake.T1 : Bool × List (List Nat × List Nat) := (true, [([], []), ([0], [0]), ([1], [1]), ([2, 1], [2]), ([3], [3]), ([4, 3, 3], [3, 4]), ([5, 3], [3, 5]), ([3, 6], [3, 6]), ([7, 5], [7]), ([8], [8]), ([8, 8], [8]), ([9, 10, 8], [8, 9, 10]), ([8, 11], [8, 11])])
def spec_ValMake.B1 : List Nat := [0, 1, 3, 7, 15, 31, 63, 127, 255, 511, 511, 2047, 4095]
theorem spec_ValMake.tab1 : rtab .any (opsOf Try.f73 1) = spec_ValMake.T1 := by kernel_rfl
theorem spec_ValMake.bits1 : waitsOk spec_ValMake.T1.2 spec_ValMake.B1 = true := by kernel_rfl
def spec_ValMake.T7 : Bool × List (List Nat × List Nat) := (true, [([], []), ([0], [0]), ([], []), ([2], [2]), ([], []), ([4], [4]), ([3, 5], [3, 5]), ([], []), ([7], [7]), ([6, 8], [6, 8]), ([1, 9], [1, 9]), ([10, 9, 0, 1, 2, 3, 4, 5, 6, 7, 8, 9, 10], [10])])
def spec_ValMake.B7 : List Nat := [0, 1, 0, 4, 0, 16, 60, 0, 128, 508, 1023, 2047]
theorem spec_ValMake.tab7 : rtab .any (opsOf Try.f73 7) = spec_ValMake.T7 := by kernel_rfl
theorem spec_ValMake.bits7 : waitsOk spec_ValMake.T7.2 spec_ValMake.B7 = true := by kernel_rfl
def spec_ValMake.T8 : Bool × List (List Nat × List Nat) := (true, [([], []), ([0], [0]), ([], []), ([2], [2]), ([], []), ([4], [4]), ([3, 5], [3, 5]), ([], []), ([7], [7]), ([6, 8], [6, 8]), ([1, 9], [1, 9]), ([10, 9, 0, 1, 2, 3, 4, 5, 6, 7, 8, 9, 10], [10])])
def spec_ValMake.B8 : List Nat := [0, 1, 0, 4, 0, 16, 60, 0, 128, 508, 1023, 2047]
theorem spec_ValMake.tab8 : rtab .any (opsOf Try.f73 8) = spec_ValMake.T8 := by kernel_rfl
theorem spec_ValMake.bits8 : waitsOk spec_ValMake.T8.2 spec_ValMake.B8 = true := by kernel_rfl
set_option maxHeartbeats 8000000 in
set_option maxRecDepth 100000 in
theorem spec_ValMake.calls (k : Nat) (a0_0 : Int) (a0_1 : Int) (a1_0 : Int) (a1_1 : Int) (r1 : Int) (r2 : Int) (r3 : Int) (r4 : Int) (w : World) (h : spec_ValMake.f k a0_0 a0_1 a1_0 a1_1 = some (r1, r2, r3, r4)) :
  Calls Try.prog 73 #[.agg #[.int .i64 a0_0, .int .i64 a0_1], .agg #[.int .i64 a1_0, .int .i64 a1_1]] w fun e w' => e = .returned (.agg #[.int .i64 r1, .int .i64 r2, .int .i64 r3, .int .i64 r4]) ∧ Below w.heap.size w w' := by
 have hu24 := Try.underlying24
 have hu86 := Try.underlying86
 have hu50 := Try.underlying50
 have HB := am (Below.refl w.heap.size w)
 have H : ((spec_RangeOk.f a0_0 a0_1).bind fun t1 => (if t1 = true then ((spec_RestOk.f a1_0 a1_1).bind fun t2 => (if t2 = true then ((spec_l8None.f).bind fun u1 => (spec_ValMake.j0 k (a0_0 == u1.1 && (a0_1 == u1.2)) a0_0 a0_1 a1_0 a1_1)) else (spec_ValMake.j0 k true a0_0 a0_1 a1_0 a1_1))) else (spec_ValMake.j0 k true a0_0 a0_1 a1_0 a1_1))) = some (r1, r2, r3, r4) := h
 clear h
 have C1 := am H
 clear H
 go_enter Try.func73, Try.ntmps73
 go_upto_region 1 with (first | ((with_reducible refine gate_dst (N := 2) rfl ?_); refine bxn 2 #[.int .i64 a0_0, .int .i64 a0_1] 24 HB fun g1 w1 K1 G1 hg hb => ?_; replace HB := am (below_step (YA HB) hb); clear hb hg) | ((with_reducible refine gate_dst (N := 3) rfl ?_); refine bxn 3 #[.int .i64 a1_0, .int .i64 a1_1] 86 HB fun g2 w2 K2 G2 hg hb => ?_; obtain ⟨N1,N2⟩ := ne_ hg K1; obtain ⟨K1, HB⟩ := bk1 K1 HB hb; clear hb hg) | ((with_reducible refine gate_dst (N := 4) rfl ?_); refine bxn 4 #[.int .i64 0, .int .i64 0, .int .i64 0, .int .i64 0] 50 HB fun g3 w3 K3 G3 hg hb => ?_; obtain ⟨N3,N4⟩ := ne_ hg K1; obtain ⟨N5,N6⟩ := ne_ hg K2; obtain ⟨K1, K2, HB⟩ := bk2 K1 K2 HB hb; clear hb hg))
 (try simp only [Act.put, List.setIfInBounds_toArray, List.set_cons_zero, List.set_cons_succ])
 go_cut [19] (fun v1 wc => ∃ (kq : Nat) (x1 : Bool), v1 = .bool x1 ∧ Aside0 (spec_ValMake.j0 kq x1 a0_0 a0_1 a1_0 a1_1 = some (r1, r2, r3, r4)) ∧ Aside0 (kq ≤ k) ∧ Bx2 wc g1 a0_0 a0_1 24 ∧ Bx2 wc g2 a1_0 a1_1 86 ∧ Bx4 wc g3 0 0 0 0 50 ∧ Aside0 (Below w.heap.size w wc))
 case first =>
  have H := C1.out
  clear C1
  obtain ⟨t1, A1, H⟩ := bd H
  try dsimp only at H
  by_cases c1 : t1 = true
  rotate_left
  ·replace c1 := Bool.eq_false_iff.mpr c1
   subst c1
   rw [if_neg ff] at H
   have H' := am H
   clear H
   try go_wp2
   obtain ⟨K1, K2, K3, HB⟩ := dk3 K1 K2 K3 HB
   refine start_ (n := 13) (S := fun w' => ce2 w' g1 a0_0 a0_1) (ds := []) (lb 13 0) (by kernel_rfl) rfl rfl (cc2 K1) (fun hHeld => ?_); refine with_tabW spec_ValMake.tab1 spec_ValMake.bits1 (fun HT_ HW_ => ?_)
   generalize w3.drew = w4 at K1 K2 K3 HB hHeld ⊢
   refine tk 0 7 1 hHeld ?_
   refine on 1 (some 8) 3 fun K hK => ?_
   refine ck hK Try.func24 (spec_RangeOk.calls _ _ _ _ A1.out) (fun _ b => bk3 K1 K2 K3 HB b) fun w5 Q_ hHeld => ?_
   clear hK K
   obtain ⟨K1, K2, K3, HB⟩ := Q_
   refine pk 2 9 7 ?_
   refine pk 3 10 15 ?_
   refine uk 4 11 31 ?_
   refine uk 5 12 63 ?_
   refine uk 6 13 127 ?_
   refine pk 7 14 255 ?_
   refine pk 8 15 511 ?_
   refine uk 9 16 1023 ?_
   refine uk 10 17 2047 ?_
   refine uk 11 18 4095 ?_
   refine pk 12 19 8191 ?_
   refine done_ (done_of HT_.out (by kernel_rfl)) ?_
   try go_wp2
   go_meet
   case rel => exact ⟨_, (true), ey, H', le0, ⟨Z K1⟩, ⟨Z K2⟩, ⟨Z K3⟩, ⟨YA HB⟩⟩
  subst c1
  rw [if_pos rfl] at H
  obtain ⟨t2, A2, H⟩ := bd H
  try dsimp only at H
  by_cases c2 : t2 = true
  rotate_left
  ·replace c2 := Bool.eq_false_iff.mpr c2
   subst c2
   rw [if_neg ff] at H
   have H' := am H
   clear H
   try go_wp2
   obtain ⟨K1, K2, K3, HB⟩ := dk3 K1 K2 K3 HB
   refine start_ (n := 13) (S := fun w' => ce2 w' g1 a0_0 a0_1 ∧ ce2 w' g2 a1_0 a1_1) (ds := []) (lb 13 0) (by kernel_rfl) rfl rfl ⟨cc2 K1, cc2 K2⟩ (fun hHeld => ?_); refine with_tabW spec_ValMake.tab1 spec_ValMake.bits1 (fun HT_ HW_ => ?_)
   generalize w3.drew = w4 at K1 K2 K3 HB hHeld ⊢
   refine tk 0 7 1 hHeld ?_
   refine on 1 (some 8) 3 fun K hK => ?_
   refine ck hK Try.func24 (spec_RangeOk.calls _ _ _ _ A1.out) (fun _ b => bk3 K1 K2 K3 HB b) fun w5 Q_ hHeld => ?_
   clear hK K
   obtain ⟨K1, K2, K3, HB⟩ := Q_
   refine pk 2 9 7 ?_
   refine pk 3 10 15 ?_
   refine tk 4 11 31 hHeld ?_
   refine on 5 (some 12) 63 fun K hK => ?_
   refine ck hK Try.func102 (spec_RestOk.calls _ _ _ _ A2.out) (fun _ b => bk3 K1 K2 K3 HB b) fun w6 Q_ hHeld => ?_
   clear hK K
   obtain ⟨K1, K2, K3, HB⟩ := Q_
   refine pk 6 13 127 ?_
   refine pk 7 14 255 ?_
   refine pk 8 15 511 ?_
   refine uk 9 16 1023 ?_
   refine uk 10 17 2047 ?_
   refine uk 11 18 4095 ?_
   refine pk 12 19 8191 ?_
   refine done_ (done_of HT_.out (by kernel_rfl)) ?_
   try go_wp2
   go_meet
   case rel => exact ⟨_, (true), ey, H', le0, ⟨Z K1⟩, ⟨Z K2⟩, ⟨Z K3⟩, ⟨YA HB⟩⟩
  subst c2
  rw [if_pos rfl] at H
  obtain ⟨⟨t3, t4⟩, A3, H⟩ := bd H
  try dsimp only at H
  have H' := am H
  clear H
  try go_wp2
  obtain ⟨K1, K2, K3, HB⟩ := dk3 K1 K2 K3 HB
  refine start_ (n := 13) (S := fun w' => ce2 w' g1 a0_0 a0_1 ∧ ce2 w' g2 a1_0 a1_1) (ds := []) (lb 13 0) (by kernel_rfl) rfl rfl ⟨cc2 K1, cc2 K2⟩ (fun hHeld => ?_); refine with_tabW spec_ValMake.tab1 spec_ValMake.bits1 (fun HT_ HW_ => ?_)
  generalize w3.drew = w4 at K1 K2 K3 HB hHeld ⊢
  refine tk 0 7 1 hHeld ?_
  refine on 1 (some 8) 3 fun K hK => ?_
  refine ck hK Try.func24 (spec_RangeOk.calls _ _ _ _ A1.out) (fun _ b => bk3 K1 K2 K3 HB b) fun w5 Q_ hHeld => ?_
  clear hK K
  obtain ⟨K1, K2, K3, HB⟩ := Q_
  refine pk 2 9 7 ?_
  refine pk 3 10 15 ?_
  refine tk 4 11 31 hHeld ?_
  refine on 5 (some 12) 63 fun K hK => ?_
  refine ck hK Try.func102 (spec_RestOk.calls _ _ _ _ A2.out) (fun _ b => bk3 K1 K2 K3 HB b) fun w6 Q_ hHeld => ?_
  clear hK K
  obtain ⟨K1, K2, K3, HB⟩ := Q_
  refine pk 6 13 127 ?_
  refine pk 7 14 255 ?_
  refine pk 8 15 511 ?_
  refine tk 9 16 1023 hHeld ?_
  refine on 10 (some 17) 2047 fun K hK => ?_
  refine ck hK Try.func38 (spec_l8None.calls _ _ _ A3.out) (fun _ b => bk3 K1 K2 K3 HB b) fun w7 Q_ hHeld => ?_
  clear hK K
  obtain ⟨K1, K2, K3, HB⟩ := Q_
  refine pk 11 18 4095 ?_
  refine pk 12 19 8191 ?_
  refine done_ (done_of HT_.out (by kernel_rfl)) ?_
  try go_wp2
  go_meet
  case rel => exact ⟨_, ((a0_0 == t3 && (a0_1 == t4))), ey, H', le0, ⟨Z K1⟩, ⟨Z K2⟩, ⟨Z K3⟩, ⟨YA HB⟩⟩
 case rest =>
  clear C1
  obtain ⟨kq, x1, rfl, HA, J1, K1, K2, K3, HB⟩ := hcut
  cases kq with
  | zero => exact absurd HA.out (by simp [spec_ValMake.j0])
  | succ k1 =>
   have H := HA.out
   clear HA
   simp only [spec_ValMake.j0] at H
   by_cases c1 : x1 = true
   ·subst c1
    rw [if_pos rfl] at H
    obtain ⟨⟨t3, t4, t5, t6⟩, A1, H⟩ := bd H
    try dsimp only at H
    simp only [Option.some.injEq, Prod.mk.injEq] at H
    obtain ⟨rfl, rfl, rfl, rfl⟩ := H
    go_wp2_with (first | ((with_reducible refine gate_callee (f := 71) rfl ?_); refine gL 20 Try.func71 (spec_l10None.calls _ _ _ _ _ A1.out) fun w4 hb => ?_; obtain ⟨K1, K2, K3, HB⟩ := bk3 K1 K2 K3 HB hb; (try clear hb); have z_ := ns2 N4 N6; have z_ := cB4 K3))
    refine bodyPost_ret (results_cell_row rfl _ _ g3 50 #[.int .i64 t3, .int .i64 t4, .int .i64 t5, .int .i64 t6] (0, 0) _ rfl (by refine pf ?_; refine blk_put (cs := #[.int .i64 t3, .int .i64 t4, .int .i64 t5, .int .i64 0]) ?_ 3 _ rfl; refine pf ?_; refine blk_put (cs := #[.int .i64 t3, .int .i64 t4, .int .i64 0, .int .i64 0]) ?_ 2 _ rfl; refine pf ?_; refine blk_put (cs := #[.int .i64 t3, .int .i64 0, .int .i64 0, .int .i64 0]) ?_ 1 _ rfl; refine pf ?_; refine blk_put (cs := #[.int .i64 0, .int .i64 0, .int .i64 0, .int .i64 0]) ?_ 0 _ rfl; exact Z K3) Try.underlying50 rfl (by kernel_rfl)) rfl ?_
    exact ⟨ez, YA HB⟩
   replace c1 := Bool.eq_false_iff.mpr c1
   subst c1
   rw [if_neg ff] at H
   by_cases c2 : a1_0 = 0
   ·rw [if_pos c2] at H
    have d1 := eT c2
    have d2 := nF c2
    clear c2
    obtain ⟨t3, A1, H⟩ := bd H
    try dsimp only at H
    by_cases c3 : t3 = true
    rotate_left
    ·replace c3 := Bool.eq_false_iff.mpr c3
     subst c3
     rw [if_neg ff] at H
     obtain ⟨⟨t4, t5, t6, t7⟩, A2, H⟩ := bd H
     try dsimp only at H
     simp only [Option.some.injEq, Prod.mk.injEq] at H
     obtain ⟨rfl, rfl, rfl, rfl⟩ := H
     have z_ := ns3 N2 N5 N3
     have z_ := cB2 K2
     have z_ := cB2 K1
     go_wp2_with (first | ((with_reducible refine gate_callee (f := 22) rfl ?_); refine gL 27 Try.func22 (spec_RangeHas.calls _ _ _ _ _ A1.out) fun w4 hb => ?_; obtain ⟨K1, K2, K3, HB⟩ := bk3 K1 K2 K3 HB hb; (try clear hb)) | ((with_reducible refine gate_callee (f := 71) rfl ?_); refine gL 31 Try.func71 (spec_l10None.calls _ _ _ _ _ A2.out) fun w5 hb => ?_; obtain ⟨K1, K2, K3, HB⟩ := bk3 K1 K2 K3 HB hb; (try clear hb); have z_ := cB4 K3))
     refine bodyPost_ret (results_cell_row rfl _ _ g3 50 #[.int .i64 t4, .int .i64 t5, .int .i64 t6, .int .i64 t7] (0, 0) _ rfl (by refine pf ?_; refine blk_put (cs := #[.int .i64 t4, .int .i64 t5, .int .i64 t6, .int .i64 0]) ?_ 3 _ rfl; refine pf ?_; refine blk_put (cs := #[.int .i64 t4, .int .i64 t5, .int .i64 0, .int .i64 0]) ?_ 2 _ rfl; refine pf ?_; refine blk_put (cs := #[.int .i64 t4, .int .i64 0, .int .i64 0, .int .i64 0]) ?_ 1 _ rfl; refine pf ?_; refine blk_put (cs := #[.int .i64 0, .int .i64 0, .int .i64 0, .int .i64 0]) ?_ 0 _ rfl; exact Z K3) Try.underlying50 rfl (by kernel_rfl)) rfl ?_
     exact ⟨ez, YA HB⟩
    subst c3
    rw [if_pos rfl] at H
    obtain ⟨⟨t4, t5, t6, t7⟩, A2, H⟩ := bd H
    try dsimp only at H
    simp only [Option.some.injEq, Prod.mk.injEq] at H
    obtain ⟨rfl, rfl, rfl, rfl⟩ := H
    have z_ := ns3 N2 N5 N3
    have z_ := cB2 K2
    have z_ := cB2 K1
    go_wp2_with (first | ((with_reducible refine gate_callee (f := 22) rfl ?_); refine gL 27 Try.func22 (spec_RangeHas.calls _ _ _ _ _ A1.out) fun w4 hb => ?_; obtain ⟨K1, K2, K3, HB⟩ := bk3 K1 K2 K3 HB hb; (try clear hb); have z_ := cB2 K2) | ((with_reducible refine gate_callee (f := 103) rfl ?_); refine gL 30 Try.func103 (spec_l10One.calls _ _ _ _ _ _ A2.out) fun w5 hb => ?_; obtain ⟨K1, K2, K3, HB⟩ := bk3 K1 K2 K3 HB hb; (try clear hb); have z_ := cB4 K3))
    refine bodyPost_ret (results_cell_row rfl _ _ g3 50 #[.int .i64 t4, .int .i64 t5, .int .i64 t6, .int .i64 t7] (0, 0) _ rfl (by refine pf ?_; refine blk_put (cs := #[.int .i64 t4, .int .i64 t5, .int .i64 t6, .int .i64 0]) ?_ 3 _ rfl; refine pf ?_; refine blk_put (cs := #[.int .i64 t4, .int .i64 t5, .int .i64 0, .int .i64 0]) ?_ 2 _ rfl; refine pf ?_; refine blk_put (cs := #[.int .i64 t4, .int .i64 0, .int .i64 0, .int .i64 0]) ?_ 1 _ rfl; refine pf ?_; refine blk_put (cs := #[.int .i64 0, .int .i64 0, .int .i64 0, .int .i64 0]) ?_ 0 _ rfl; exact Z K3) Try.underlying50 rfl (by kernel_rfl)) rfl ?_
    exact ⟨ez, YA HB⟩
   rw [if_neg c2] at H
   have d1 := eF c2
   have d2 := nT c2
   obtain ⟨t3, A1, H⟩ := bd H
   try dsimp only at H
   obtain ⟨t4, A2, H⟩ := bd H
   try dsimp only at H
   by_cases c3 : (wrap64 (a0_0 + t3)) > (wrap64 (a0_1 - t4))
   ·rw [if_pos c3] at H
    have d3 := dT c3
    clear c3
    obtain ⟨⟨t5, t6, t7, t8⟩, A3, H⟩ := bd H
    try dsimp only at H
    simp only [Option.some.injEq, Prod.mk.injEq] at H
    obtain ⟨rfl, rfl, rfl, rfl⟩ := H
    have z_ := ns2 N2 N5
    have z_ := cB2 K2
    try go_wp2
    obtain ⟨K1, K2, K3, HB⟩ := dk3 K1 K2 K3 HB
    refine start_ (n := 12) (S := fun w' => ce2 w' g1 a0_0 a0_1 ∧ ce2 w' g2 a1_0 a1_1) (ds := []) (lb 12 0) (by kernel_rfl) rfl rfl ⟨cc2 K1, cc2 K2⟩ (fun hHeld => ?_); refine with_tabW spec_ValMake.tab7 spec_ValMake.bits7 (fun HT_ HW_ => ?_)
    generalize wc.drew = w4 at K1 K2 K3 HB hHeld ⊢
    refine pk 0 32 1 ?_
    refine pk 2 34 5 ?_
    refine pk 4 36 21 ?_
    refine pk 7 39 149 ?_
    refine tk 1 33 151 hHeld ?_
    refine tk 3 35 159 hHeld ?_
    refine tk 5 37 191 hHeld ?_
    refine pk 6 38 255 ?_
    refine tk 8 40 511 hHeld ?_
    refine on 9 (some 41) 1023 fun K hK => ?_
    refine goes_ Try.func100 (by kernel_rfl) rfl #[.int .i64 (wrap64 (a1_1 - a0_0)), .int .i64 a1_0] (by rfl) rfl rfl mz ?_
    with_reducible refine (spec_l1Mod.calls _ _ _ _ A1.out).mono ?_
    rintro e w' ⟨rfl, ⟨nd, rfl⟩⟩
    refine ⟨_, rfl, ?_⟩
    refine kk hK ⟨cc2 K1, cc2 K2⟩ fun hHeld => ?_
    clear hK K
    refine pk 10 42 2047 ?_
    refine pk 11 5 4095 ?_
    refine done_ (done_of HT_.out (by kernel_rfl)) ?_
    try go_wp2
    (try (rw [drewN_self w4]; generalize hq_ : World.drewN w4 _ = w4; replace K1 : Bx2 w4 g1 a0_0 a0_1 24 := ⟨by rw [← hq_]; exact (Z K1)⟩; replace K2 : Bx2 w4 g2 a1_0 a1_1 86 := ⟨by rw [← hq_]; exact (Z K2)⟩; replace K3 : Bx4 w4 g3 0 0 0 0 50 := ⟨by rw [← hq_]; exact (Z K3)⟩; replace HB : Aside0 (Below w.heap.size w w4) := ⟨by rw [← hq_]; exact (YA HB)⟩; clear hq_))
    obtain ⟨K1, K2, K3, HB⟩ := dk3 K1 K2 K3 HB
    refine start_ (n := 12) (S := fun w' => ce2 w' g1 a0_0 a0_1 ∧ ce2 w' g2 a1_0 a1_1) (ds := []) (lb 12 0) (by kernel_rfl) rfl rfl ⟨cc2 K1, cc2 K2⟩ (fun hHeld => ?_); refine with_tabW spec_ValMake.tab8 spec_ValMake.bits8 (fun HT_ HW_ => ?_)
    generalize w4.drew = w5 at K1 K2 K3 HB hHeld ⊢
    refine pk 0 43 1 ?_
    refine pk 2 45 5 ?_
    refine pk 4 47 21 ?_
    refine pk 7 50 149 ?_
    refine tk 1 44 151 hHeld ?_
    refine tk 3 46 159 hHeld ?_
    refine tk 5 48 191 hHeld ?_
    refine pk 6 49 255 ?_
    refine tk 8 51 511 hHeld ?_
    refine on 9 (some 52) 1023 fun K hK => ?_
    refine goes_ Try.func100 (by kernel_rfl) rfl #[.int .i64 (wrap64 (a0_1 - a1_1)), .int .i64 a1_0] (by rfl) rfl rfl mz ?_
    with_reducible refine (spec_l1Mod.calls _ _ _ _ A2.out).mono ?_
    rintro e w' ⟨rfl, ⟨nd, rfl⟩⟩
    refine ⟨_, rfl, ?_⟩
    refine kk hK ⟨cc2 K1, cc2 K2⟩ fun hHeld => ?_
    clear hK K
    refine pk 10 53 2047 ?_
    refine pk 11 6 4095 ?_
    refine done_ (done_of HT_.out (by kernel_rfl)) ?_
    try go_wp2_with (first | ((with_reducible refine gate_callee (f := 71) rfl ?_); refine gL 57 Try.func71 (spec_l10None.calls _ _ _ _ _ A3.out) fun w6 hb => ?_; obtain ⟨K1, K2, K3, HB⟩ := bk3 K1 K2 K3 HB hb; (try clear hb); have z_ := ns1 N4; have z_ := cB4 K3))
    refine bodyPost_ret (results_cell_row rfl _ _ g3 50 #[.int .i64 t5, .int .i64 t6, .int .i64 t7, .int .i64 t8] (0, 0) _ rfl (by refine pf ?_; refine blk_put (cs := #[.int .i64 t5, .int .i64 t6, .int .i64 t7, .int .i64 0]) ?_ 3 _ rfl; refine pf ?_; refine blk_put (cs := #[.int .i64 t5, .int .i64 t6, .int .i64 0, .int .i64 0]) ?_ 2 _ rfl; refine pf ?_; refine blk_put (cs := #[.int .i64 t5, .int .i64 0, .int .i64 0, .int .i64 0]) ?_ 1 _ rfl; refine pf ?_; refine blk_put (cs := #[.int .i64 0, .int .i64 0, .int .i64 0, .int .i64 0]) ?_ 0 _ rfl; exact Z K3) Try.underlying50 rfl (by kernel_rfl)) rfl ?_
    exact ⟨ez, YA HB⟩
   rw [if_neg c3] at H
   have d3 := dF c3
   clear c3
   by_cases c4 : (wrap64 (a0_0 + t3)) = (wrap64 (a0_1 - t4))
   rotate_left
   ·rw [if_neg c4] at H
    have d4 := eF c4
    have d5 := nT c4
    simp only [Option.some.injEq, Prod.mk.injEq] at H
    obtain ⟨rfl, rfl, rfl, rfl⟩ := H
    have z_ := ns2 N2 N5
    have z_ := cB2 K2
    try go_wp2
    obtain ⟨K1, K2, K3, HB⟩ := dk3 K1 K2 K3 HB
    refine start_ (n := 12) (S := fun w' => ce2 w' g1 a0_0 a0_1 ∧ ce2 w' g2 a1_0 a1_1) (ds := []) (lb 12 0) (by kernel_rfl) rfl rfl ⟨cc2 K1, cc2 K2⟩ (fun hHeld => ?_); refine with_tabW spec_ValMake.tab7 spec_ValMake.bits7 (fun HT_ HW_ => ?_)
    generalize wc.drew = w4 at K1 K2 K3 HB hHeld ⊢
    refine pk 0 32 1 ?_
    refine pk 2 34 5 ?_
    refine pk 4 36 21 ?_
    refine pk 7 39 149 ?_
    refine tk 1 33 151 hHeld ?_
    refine tk 3 35 159 hHeld ?_
    refine tk 5 37 191 hHeld ?_
    refine pk 6 38 255 ?_
    refine tk 8 40 511 hHeld ?_
    refine on 9 (some 41) 1023 fun K hK => ?_
    refine goes_ Try.func100 (by kernel_rfl) rfl #[.int .i64 (wrap64 (a1_1 - a0_0)), .int .i64 a1_0] (by rfl) rfl rfl mz ?_
    with_reducible refine (spec_l1Mod.calls _ _ _ _ A1.out).mono ?_
    rintro e w' ⟨rfl, ⟨nd, rfl⟩⟩
    refine ⟨_, rfl, ?_⟩
    refine kk hK ⟨cc2 K1, cc2 K2⟩ fun hHeld => ?_
    clear hK K
    refine pk 10 42 2047 ?_
    refine pk 11 5 4095 ?_
    refine done_ (done_of HT_.out (by kernel_rfl)) ?_
    try go_wp2
    (try (rw [drewN_self w4]; generalize hq_ : World.drewN w4 _ = w4; replace K1 : Bx2 w4 g1 a0_0 a0_1 24 := ⟨by rw [← hq_]; exact (Z K1)⟩; replace K2 : Bx2 w4 g2 a1_0 a1_1 86 := ⟨by rw [← hq_]; exact (Z K2)⟩; replace K3 : Bx4 w4 g3 0 0 0 0 50 := ⟨by rw [← hq_]; exact (Z K3)⟩; replace HB : Aside0 (Below w.heap.size w w4) := ⟨by rw [← hq_]; exact (YA HB)⟩; clear hq_))
    obtain ⟨K1, K2, K3, HB⟩ := dk3 K1 K2 K3 HB
    refine start_ (n := 12) (S := fun w' => ce2 w' g1 a0_0 a0_1 ∧ ce2 w' g2 a1_0 a1_1) (ds := []) (lb 12 0) (by kernel_rfl) rfl rfl ⟨cc2 K1, cc2 K2⟩ (fun hHeld => ?_); refine with_tabW spec_ValMake.tab8 spec_ValMake.bits8 (fun HT_ HW_ => ?_)
    generalize w4.drew = w5 at K1 K2 K3 HB hHeld ⊢
    refine pk 0 43 1 ?_
    refine pk 2 45 5 ?_
    refine pk 4 47 21 ?_
    refine pk 7 50 149 ?_
    refine tk 1 44 151 hHeld ?_
    refine tk 3 46 159 hHeld ?_
    refine tk 5 48 191 hHeld ?_
    refine pk 6 49 255 ?_
    refine tk 8 51 511 hHeld ?_
    refine on 9 (some 52) 1023 fun K hK => ?_
    refine goes_ Try.func100 (by kernel_rfl) rfl #[.int .i64 (wrap64 (a0_1 - a1_1)), .int .i64 a1_0] (by rfl) rfl rfl mz ?_
    with_reducible refine (spec_l1Mod.calls _ _ _ _ A2.out).mono ?_
    rintro e w' ⟨rfl, ⟨nd, rfl⟩⟩
    refine ⟨_, rfl, ?_⟩
    refine kk hK ⟨cc2 K1, cc2 K2⟩ fun hHeld => ?_
    clear hK K
    refine pk 10 53 2047 ?_
    refine pk 11 6 4095 ?_
    refine done_ (done_of HT_.out (by kernel_rfl)) ?_
    have z_ := ns1 N4
    have z_ := cB2 K2
    have z_ := cB4 K3
    try go_wp2
    refine bodyPost_ret (results_cell_row rfl _ _ g3 50 #[.int .i64 (wrap64 (a0_0 + t3)), .int .i64 (wrap64 (a0_1 - t4)), .int .i64 a1_0, .int .i64 a1_1] (0, 0) _ rfl (by refine pf ?_; refine blk_put (cs := #[.int .i64 (wrap64 (a0_0 + t3)), .int .i64 (wrap64 (a0_1 - t4)), .int .i64 a1_0, .int .i64 0]) ?_ 3 _ rfl; refine pf ?_; refine blk_put (cs := #[.int .i64 (wrap64 (a0_0 + t3)), .int .i64 (wrap64 (a0_1 - t4)), .int .i64 0, .int .i64 0]) ?_ 2 _ rfl; refine pf ?_; refine blk_put (cs := #[.int .i64 (wrap64 (a0_0 + t3)), .int .i64 0, .int .i64 0, .int .i64 0]) ?_ 1 _ rfl; refine pf ?_; refine blk_put (cs := #[.int .i64 0, .int .i64 0, .int .i64 0, .int .i64 0]) ?_ 0 _ rfl; exact Z K3) Try.underlying50 rfl (by kernel_rfl)) rfl ?_
    exact ⟨ez, YA HB⟩
   rw [if_pos c4] at H
   have d4 := eT c4
   have d5 := nF c4
   clear c4
   obtain ⟨⟨t5, t6, t7, t8⟩, A3, H⟩ := bd H
   try dsimp only at H
   simp only [Option.some.injEq, Prod.mk.injEq] at H
   obtain ⟨rfl, rfl, rfl, rfl⟩ := H
   have z_ := ns2 N2 N5
   have z_ := cB2 K2
   try go_wp2
   obtain ⟨K1, K2, K3, HB⟩ := dk3 K1 K2 K3 HB
   refine start_ (n := 12) (S := fun w' => ce2 w' g1 a0_0 a0_1 ∧ ce2 w' g2 a1_0 a1_1) (ds := []) (lb 12 0) (by kernel_rfl) rfl rfl ⟨cc2 K1, cc2 K2⟩ (fun hHeld => ?_); refine with_tabW spec_ValMake.tab7 spec_ValMake.bits7 (fun HT_ HW_ => ?_)
   generalize wc.drew = w4 at K1 K2 K3 HB hHeld ⊢
   refine pk 0 32 1 ?_
   refine pk 2 34 5 ?_
   refine pk 4 36 21 ?_
   refine pk 7 39 149 ?_
   refine tk 1 33 151 hHeld ?_
   refine tk 3 35 159 hHeld ?_
   refine tk 5 37 191 hHeld ?_
   refine pk 6 38 255 ?_
   refine tk 8 40 511 hHeld ?_
   refine on 9 (some 41) 1023 fun K hK => ?_
   refine goes_ Try.func100 (by kernel_rfl) rfl #[.int .i64 (wrap64 (a1_1 - a0_0)), .int .i64 a1_0] (by rfl) rfl rfl mz ?_
   with_reducible refine (spec_l1Mod.calls _ _ _ _ A1.out).mono ?_
   rintro e w' ⟨rfl, ⟨nd, rfl⟩⟩
   refine ⟨_, rfl, ?_⟩
   refine kk hK ⟨cc2 K1, cc2 K2⟩ fun hHeld => ?_
   clear hK K
   refine pk 10 42 2047 ?_
   refine pk 11 5 4095 ?_
   refine done_ (done_of HT_.out (by kernel_rfl)) ?_
   try go_wp2
   (try (rw [drewN_self w4]; generalize hq_ : World.drewN w4 _ = w4; replace K1 : Bx2 w4 g1 a0_0 a0_1 24 := ⟨by rw [← hq_]; exact (Z K1)⟩; replace K2 : Bx2 w4 g2 a1_0 a1_1 86 := ⟨by rw [← hq_]; exact (Z K2)⟩; replace K3 : Bx4 w4 g3 0 0 0 0 50 := ⟨by rw [← hq_]; exact (Z K3)⟩; replace HB : Aside0 (Below w.heap.size w w4) := ⟨by rw [← hq_]; exact (YA HB)⟩; clear hq_))
   obtain ⟨K1, K2, K3, HB⟩ := dk3 K1 K2 K3 HB
   refine start_ (n := 12) (S := fun w' => ce2 w' g1 a0_0 a0_1 ∧ ce2 w' g2 a1_0 a1_1) (ds := []) (lb 12 0) (by kernel_rfl) rfl rfl ⟨cc2 K1, cc2 K2⟩ (fun hHeld => ?_); refine with_tabW spec_ValMake.tab8 spec_ValMake.bits8 (fun HT_ HW_ => ?_)
   generalize w4.drew = w5 at K1 K2 K3 HB hHeld ⊢
   refine pk 0 43 1 ?_
   refine pk 2 45 5 ?_
   refine pk 4 47 21 ?_
   refine pk 7 50 149 ?_
   refine tk 1 44 151 hHeld ?_
   refine tk 3 46 159 hHeld ?_
   refine tk 5 48 191 hHeld ?_
   refine pk 6 49 255 ?_
   refine tk 8 51 511 hHeld ?_
   refine on 9 (some 52) 1023 fun K hK => ?_
   refine goes_ Try.func100 (by kernel_rfl) rfl #[.int .i64 (wrap64 (a0_1 - a1_1)), .int .i64 a1_0] (by rfl) rfl rfl mz ?_
   with_reducible refine (spec_l1Mod.calls _ _ _ _ A2.out).mono ?_
   rintro e w' ⟨rfl, ⟨nd, rfl⟩⟩
   refine ⟨_, rfl, ?_⟩
   refine kk hK ⟨cc2 K1, cc2 K2⟩ fun hHeld => ?_
   clear hK K
   refine pk 10 53 2047 ?_
   refine pk 11 6 4095 ?_
   refine done_ (done_of HT_.out (by kernel_rfl)) ?_
   try go_wp2_with (first | ((with_reducible refine gate_callee (f := 103) rfl ?_); refine gL 62 Try.func103 (spec_l10One.calls _ _ _ _ _ _ A3.out) fun w6 hb => ?_; obtain ⟨K1, K2, K3, HB⟩ := bk3 K1 K2 K3 HB hb; (try clear hb); have z_ := ns1 N4; have z_ := cB4 K3))
   refine bodyPost_ret (results_cell_row rfl _ _ g3 50 #[.int .i64 t5, .int .i64 t6, .int .i64 t7, .int .i64 t8] (0, 0) _ rfl (by refine pf ?_; refine blk_put (cs := #[.int .i64 t5, .int .i64 t6, .int .i64 t7, .int .i64 0]) ?_ 3 _ rfl; refine pf ?_; refine blk_put (cs := #[.int .i64 t5, .int .i64 t6, .int .i64 0, .int .i64 0]) ?_ 2 _ rfl; refine pf ?_; refine blk_put (cs := #[.int .i64 t5, .int .i64 0, .int .i64 0, .int .i64 0]) ?_ 1 _ rfl; refine pf ?_; refine blk_put (cs := #[.int .i64 0, .int .i64 0, .int .i64 0, .int .i64 0]) ?_ 0 _ rfl; exact Z K3) Try.underlying50 rfl (by kernel_rfl)) rfl ?_
   exact ⟨ez, YA HB⟩
end
section
attribute [local go_sem] max2_int min2_int max_two min_two max_three min_three max_four min_four
attribute [local go_sem] Go.Proofs.YthbkakcchgnhpaaSet.isSome_setCell
def spec_l10Rest.f (a0_0 : Int) (a0_1 : Int) (a0_2 : Int) (a0_3 : Int) : Option (Int × Int) := some (a0_2, a0_3)
set_option maxHeartbeats 8000000 in
set_option maxRecDepth 100000 in
theorem spec_l10Rest.calls (a0_0 : Int) (a0_1 : Int) (a0_2 : Int) (a0_3 : Int) (r1 : Int) (r2 : Int) (w : World) (h : spec_l10Rest.f a0_0 a0_1 a0_2 a0_3 = some (r1, r2)) :
  Calls Try.prog 75 #[.agg #[.int .i64 a0_0, .int .i64 a0_1, .int .i64 a0_2, .int .i64 a0_3]] w fun e w' => e = .returned (.agg #[.int .i64 r1, .int .i64 r2]) ∧ Below w.heap.size w w' := by
 have hu50 := Try.underlying50
 have hu86 := Try.underlying86
 have HB := am (Below.refl w.heap.size w)
 have H : (some (a0_2, a0_3)) = some (r1, r2) := h
 clear h
 simp only [Option.some.injEq, Prod.mk.injEq] at H
 obtain ⟨rfl, rfl⟩ := H
 go_enter Try.func75, Try.ntmps75
 go_wp2_with (first | ((with_reducible refine gate_dst (N := 1) rfl ?_); refine bxn 1 #[.int .i64 a0_0, .int .i64 a0_1, .int .i64 a0_2, .int .i64 a0_3] 50 HB fun g1 w1 K1 G1 hg hb => ?_; replace HB := am (below_step (YA HB) hb); clear hb hg) | ((with_reducible refine gate_dst (N := 2) rfl ?_); refine bxn 2 #[.int .i64 0, .int .i64 0] 86 HB fun g2 w2 K2 G2 hg hb => ?_; obtain ⟨N1,N2⟩ := ne_ hg K1; obtain ⟨K1, HB⟩ := bk1 K1 HB hb; clear hb hg; have z_ := ns1 N1; have z_ := cB4 K1; have z_ := cB2 K2))
 refine bodyPost_ret (results_cell_row rfl _ _ g2 86 #[.int .i64 a0_2, .int .i64 a0_3] (0, 0) _ rfl (by refine pf ?_; refine blk_put (cs := #[.int .i64 a0_2, .int .i64 0]) ?_ 1 _ rfl; refine pf ?_; refine blk_put (cs := #[.int .i64 0, .int .i64 0]) ?_ 0 _ rfl; exact Z K2) Try.underlying86 rfl (by kernel_rfl)) rfl ?_
 exact ⟨ez, YA HB⟩
end
end Go.Proofs.Ythbkakcchgnhpaa.PFnExactValDo
