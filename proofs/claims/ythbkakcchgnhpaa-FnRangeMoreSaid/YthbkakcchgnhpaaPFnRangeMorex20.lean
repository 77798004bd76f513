/- Written by this session's own driver (wip/dprint.py): the functions that the law FnRangeMore reaches, as Lean functions, each with its contract. -/
import Derived.Test.YthbkakcchgnhpaaPFnRangeMorex0
import Derived.Test.YthbkakcchgnhpaaPFnRangeMorex13
import Derived.Test.YthbkakcchgnhpaaPFnRangeMorex18
import Derived.Test.YthbkakcchgnhpaaSv
namespace Go.Proofs.Ythbkakcchgnhpaa.PFnRangeMore
open Go.RowKit Go.Proofs.YthbkakcchgnhpaaV.PrintWords Go.Proofs.YthbkakcchgnhpaaV.PrintLast Go.Proofs.YthbkakcchgnhpaaV.PrintMore Go.Proofs.YthbkakcchgnhpaaSv
attribute [local go_sem] max2_int min2_int max_two min_two max_three min_three max_four min_four   -- for this text's walks alone
set_option linter.unusedVariables false
set_option linter.unusedSimpArgs false

/-! ### impl_rangeBits: function 55 -/
attribute [local go_sem] Go.Proofs.YthbkakcchgnhpaaSet.isSome_setCell
mutual
def impl_rangeBits.j0 : Nat → Int → Bool → Int → Int → Int → Int → Option (Int × Int)
 | 0, _, _, _, _, _, _ => none
 | k + 1, x1, x2, x3, x4, x5, x6 => if x2 = true then ((impl_numExact.f k x1 x3 x5).bind fun t1 => (some (t1, t1))) else (if x1 = 6 then (if x3 ≥ 0 then (impl_rangeBits.j1 k (decide (x5 ≥ 0)) x3 x4 x5 x6) else (impl_rangeBits.j1 k false x3 x4 x5 x6)) else (if x3 < 0 then (impl_rangeBits.j2 k x1 true x3 x4 x5 x6) else (impl_rangeBits.j2 k x1 (decide (x5 < 0)) x3 x4 x5 x6)))
def impl_rangeBits.j1 : Nat → Bool → Int → Int → Int → Int → Option (Int × Int)
 | 0, _, _, _, _, _ => none
 | k + 1, x1, x2, x3, x4, x5 => if x1 = true then (some (0, mn x3 x5)) else (if x2 ≥ 0 then (some (0, x3)) else (if x4 ≥ 0 then (some (0, x5)) else (some ((-2147483648), 2147483647))))
def impl_rangeBits.j2 : Nat → Int → Bool → Int → Int → Int → Int → Option (Int × Int)
 | 0, _, _, _, _, _, _ => none
 | k + 1, x1, x2, x3, x4, x5, x6 => if x2 = true then (some ((-2147483648), 2147483647)) else (if x1 = 7 then (impl_rangeBits.j3 k x3 x4 x5 x6 (mx x3 x5) 0) else (impl_rangeBits.j3 k x3 x4 x5 x6 0 0))
def impl_rangeBits.j3 : Nat → Int → Int → Int → Int → Int → Int → Option (Int × Int)
 | 0, _, _, _, _, _, _ => none
 | k + 1, x1, x2, x3, x4, x5, x6 => impl_rangeBits.l0 k x1 x2 x3 x4 x5 x6
def impl_rangeBits.l0 : Nat → Int → Int → Int → Int → Int → Int → Option (Int × Int)
 | 0, _, _, _, _, _, _ => none
 | k + 1, x1, x2, x3, x4, x5, x6 => if x6 < (mx x2 x4) then (impl_rangeBits.l0 k x1 x2 x3 x4 x5 (wrap64 ((wrap64 (2 * x6)) + 1))) else (some (x5, x6))
end
def impl_rangeBits.f (k : Nat) (a0 : Int) (a1_0 : Int) (a1_1 : Int) (a2_0 : Int) (a2_1 : Int) : Option (Int × Int) := (impl_Range_single.f a1_0 a1_1).bind fun t1 => (if t1 = true then ((impl_Range_single.f a2_0 a2_1).bind fun t2 => (impl_rangeBits.j0 k a0 t2 a1_0 a1_1 a2_0 a2_1)) else (impl_rangeBits.j0 k a0 false a1_0 a1_1 a2_0 a2_1))
theorem impl_rangeBits.mono_l : ∀ k, (∀ y0 y1 y2 y3 y4 y5, LeO (impl_rangeBits.j0 k y0 y1 y2 y3 y4 y5) (impl_rangeBits.j0 (k + 1) y0 y1 y2 y3 y4 y5)) ∧ (∀ y0 y1 y2 y3 y4, LeO (impl_rangeBits.j1 k y0 y1 y2 y3 y4) (impl_rangeBits.j1 (k + 1) y0 y1 y2 y3 y4)) ∧ (∀ y0 y1 y2 y3 y4 y5, LeO (impl_rangeBits.j2 k y0 y1 y2 y3 y4 y5) (impl_rangeBits.j2 (k + 1) y0 y1 y2 y3 y4 y5)) ∧ (∀ y0 y1 y2 y3 y4 y5, LeO (impl_rangeBits.j3 k y0 y1 y2 y3 y4 y5) (impl_rangeBits.j3 (k + 1) y0 y1 y2 y3 y4 y5)) ∧ (∀ y0 y1 y2 y3 y4 y5, LeO (impl_rangeBits.l0 k y0 y1 y2 y3 y4 y5) (impl_rangeBits.l0 (k + 1) y0 y1 y2 y3 y4 y5))
 | 0 => ⟨fun _ _ _ _ _ _ r h => by simp [impl_rangeBits.j0] at h, fun _ _ _ _ _ r h => by simp [impl_rangeBits.j1] at h, fun _ _ _ _ _ _ r h => by simp [impl_rangeBits.j2] at h, fun _ _ _ _ _ _ r h => by simp [impl_rangeBits.j3] at h, fun _ _ _ _ _ _ r h => by simp [impl_rangeBits.l0] at h⟩
 | k + 1 => by
  obtain ⟨ih0, ih1, ih2, ih3, ih4⟩ := impl_rangeBits.mono_l k
  refine ⟨?_, ?_, ?_, ?_, ?_⟩ <;> (intros; (first | unfold impl_rangeBits.j0 | unfold impl_rangeBits.j1 | unfold impl_rangeBits.j2 | unfold impl_rangeBits.j3 | unfold impl_rangeBits.l0); repeat' first | (with_reducible first | apply ih0 | apply ih1 | apply ih2 | apply ih3 | apply ih4 | apply impl_numExact.mono | apply LeO.refl | apply LeO.none | refine LeO.ite ?_ ?_ | refine LeO.bind ?_ (fun _ => ?_)) | apply ih0 | apply ih1 | apply ih2 | apply ih3 | apply ih4 | apply impl_numExact.mono | apply LeO.none | refine LeO.ite ?_ ?_ | refine LeO.bind ?_ (fun _ => ?_))
theorem impl_rangeBits.mono : ∀ a0 a1 a2 a3 a4 k, LeO (impl_rangeBits.f k a0 a1 a2 a3 a4) (impl_rangeBits.f (k + 1) a0 a1 a2 a3 a4) := by
 intro a0 a1 a2 a3 a4 k
 obtain ⟨ih0, ih1, ih2, ih3, ih4⟩ := impl_rangeBits.mono_l k
 unfold impl_rangeBits.f
 repeat' first | (with_reducible first | apply ih0 | apply ih1 | apply ih2 | apply ih3 | apply ih4 | apply impl_numExact.mono | apply LeO.refl | apply LeO.none | refine LeO.ite ?_ ?_ | refine LeO.bind ?_ (fun _ => ?_)) | apply ih0 | apply ih1 | apply ih2 | apply ih3 | apply ih4 | apply impl_numExact.mono | apply LeO.none | refine LeO.ite ?_ ?_ | refine LeO.bind ?_ (fun _ => ?_)
set_option maxHeartbeats 8000000 in
set_option maxRecDepth 100000 in
theorem impl_rangeBits.calls (k : Nat) (a0 : Int) (a1_0 : Int) (a1_1 : Int) (a2_0 : Int) (a2_1 : Int) (r1 : Int) (r2 : Int) (w : World) (h : impl_rangeBits.f k a0 a1_0 a1_1 a2_0 a2_1 = some (r1, r2)) :
  Calls Try.prog 55 #[.int .i64 a0, .agg #[.int .i64 a1_0, .int .i64 a1_1], .agg #[.int .i64 a2_0, .int .i64 a2_1]] w fun e w' => e = .returned (.agg #[.int .i64 r1, .int .i64 r2]) ∧ Below w.heap.size w w' := by
 have hu24 := Try.underlying24
 have HB := am (Below.refl w.heap.size w)
 have H : ((impl_Range_single.f a1_0 a1_1).bind fun t1 => (if t1 = true then ((impl_Range_single.f a2_0 a2_1).bind fun t2 => (impl_rangeBits.j0 k a0 t2 a1_0 a1_1 a2_0 a2_1)) else (impl_rangeBits.j0 k a0 false a1_0 a1_1 a2_0 a2_1))) = some (r1, r2) := h
 clear h
 have C1 := am H
 clear H
 go_enter Try.func55, Try.ntmps55
 go_upto_region 1 with (first | ((with_reducible refine gate_dst (N := 4) rfl ?_); refine bxn 4 #[.int .i64 a1_0, .int .i64 a1_1] 24 HB fun g1 w1 K1 G1 hg hb => ?_; replace HB := am (below_step (YA HB) hb); clear hb hg) | ((with_reducible refine gate_dst (N := 5) rfl ?_); refine bxn 5 #[.int .i64 a2_0, .int .i64 a2_1] 24 HB fun g2 w2 K2 G2 hg hb => ?_; obtain ⟨N1,N2⟩ := ne_ hg K1; obtain ⟨K1, HB⟩ := bk1 K1 HB hb; clear hb hg) | ((with_reducible refine gate_dst (N := 6) rfl ?_); refine bxn 6 #[.int .i64 0, .int .i64 0] 24 HB fun g3 w3 K3 G3 hg hb => ?_; obtain ⟨N3,N4⟩ := ne_ hg K1; obtain ⟨N5,N6⟩ := ne_ hg K2; obtain ⟨K1, K2, HB⟩ := bk2 K1 K2 HB hb; clear hb hg))
 (try simp only [Act.put, List.setIfInBounds_toArray, List.set_cons_zero, List.set_cons_succ])
 go_cut [14] (fun v1 wc => ∃ (kq : Nat) (x1 : Bool), v1 = .bool x1 ∧ Aside0 (impl_rangeBits.j0 kq a0 x1 a1_0 a1_1 a2_0 a2_1 = some (r1, r2)) ∧ Aside0 (kq ≤ k) ∧ Bx2 wc g1 a1_0 a1_1 24 ∧ Bx2 wc g2 a2_0 a2_1 24 ∧ Bx2 wc g3 0 0 24 ∧ Aside0 (Below w.heap.size w wc))
 case first =>
  have H := C1.out
  clear C1
  obtain ⟨t1, A1, H⟩ := bd H
  try dsimp only at H
  by_cases c1 : t1 = true
  rotate_left
  ·replace c1 := Bool.eq_false_iff.mpr c1
   subst c1
   rw [if_neg ff] at H
   have H' := am H
   clear H
   have z_ := ns2 N1 N3
   have z_ := cB2 K1
   go_wp2_with (first | ((with_reducible refine gate_callee (f := 96) rfl ?_); refine gL 10 Try.func96 (impl_Range_single.calls _ _ _ _ A1.out) fun w4 hb => ?_; obtain ⟨K1, K2, K3, HB⟩ := bk3 K1 K2 K3 HB hb; (try clear hb)))
   go_meet
   case rel => exact ⟨_, (false), ey, H', le0, ⟨Z K1⟩, ⟨Z K2⟩, ⟨Z K3⟩, ⟨YA HB⟩⟩
  subst c1
  rw [if_pos rfl] at H
  obtain ⟨t2, A2, H⟩ := bd H
  try dsimp only at H
  have H' := am H
  clear H
  have z_ := ns2 N1 N3
  have z_ := cB2 K1
  go_wp2_with (first | ((with_reducible refine gate_callee (f := 96) rfl ?_); refine gL 10 Try.func96 (impl_Range_single.calls _ _ _ _ A1.out) fun w4 hb => ?_; obtain ⟨K1, K2, K3, HB⟩ := bk3 K1 K2 K3 HB hb; (try clear hb); have z_ := ns1 N5; have z_ := cB2 K2) | (go_at_call 96; (with_reducible refine (impl_Range_single.calls _ _ _ _ A2.out).mono ?_); rintro e w5 ⟨rfl, hb⟩; obtain ⟨K1, K2, K3, HB⟩ := bk3 K1 K2 K3 HB hb; (try clear hb)))
  go_meet
  case rel => exact ⟨_, (t2), ey, H', le0, ⟨Z K1⟩, ⟨Z K2⟩, ⟨Z K3⟩, ⟨YA HB⟩⟩
 case rest =>
  clear C1
  obtain ⟨kq, x1, rfl, HA, J1, K1, K2, K3, HB⟩ := hcut
  cases kq with
  | zero => exact absurd HA.out (by simp [impl_rangeBits.j0])
  | succ k1 =>
   have H := HA.out
   clear HA
   simp only [impl_rangeBits.j0] at H
   by_cases c1 : x1 = true
   ·subst c1
    rw [if_pos rfl] at H
    obtain ⟨t3, A1, H⟩ := bd H
    try dsimp only at H
    simp only [Option.some.injEq, Prod.mk.injEq] at H
    obtain ⟨rfl, rfl⟩ := H
    have z_ := ns3 N1 N3 N5
    have z_ := cB2 K1
    have z_ := cB2 K2
    go_wp2_with (first | ((with_reducible refine gate_callee (f := 61) rfl ?_); refine goesL_ (some 20) rfl rfl Try.func61 (by kernel_rfl) rfl #[.int .i64 a0, .int .i64 a1_0, .int .i64 a2_0] rfl mz ?_; (with_reducible refine (impl_numExact.calls _ _ _ _ _ _ A1.out).mono ?_); rintro e w' ⟨rfl, ⟨nd, rfl⟩⟩; refine ⟨_, rfl, ?_⟩; (try (rw [drewN_self wc]; generalize hq_ : World.drewN wc _ = wc; replace K1 : Bx2 wc g1 a1_0 a1_1 24 := ⟨by rw [← hq_]; exact (Z K1)⟩; replace K2 : Bx2 wc g2 a2_0 a2_1 24 := ⟨by rw [← hq_]; exact (Z K2)⟩; replace K3 : Bx2 wc g3 0 0 24 := ⟨by rw [← hq_]; exact (Z K3)⟩; replace HB : Aside0 (Below w.heap.size w wc) := ⟨by rw [← hq_]; exact (YA HB)⟩; clear hq_)); have z_ := cB2 K3))
    refine bodyPost_ret (results_cell_row rfl _ _ g3 24 #[.int .i64 t3, .int .i64 t3] (0, 0) _ rfl (by refine pf ?_; refine blk_put (cs := #[.int .i64 t3, .int .i64 0]) ?_ 1 _ rfl; refine pf ?_; refine blk_put (cs := #[.int .i64 0, .int .i64 0]) ?_ 0 _ rfl; exact Z K3) Try.underlying24 rfl (by kernel_rfl)) rfl ?_
    exact ⟨ez, YA HB⟩
   replace c1 := Bool.eq_false_iff.mpr c1
   subst c1
   rw [if_neg ff] at H
   by_cases c2 : a0 = 6
   ·rw [if_pos c2] at H
    have d1 := eT c2
    have d2 := nF c2
    clear c2
    have C2 := am H
    clear H
    go_upto_region 5 with (fail)
    go_cut [26] (fun v2 wc => ∃ (kq : Nat) (x2 : Bool), v2 = .bool x2 ∧ Aside0 (impl_rangeBits.j1 kq x2 a1_0 a1_1 a2_0 a2_1 = some (r1, r2)) ∧ Aside0 (kq ≤ k1) ∧ Bx2 wc g1 a1_0 a1_1 24 ∧ Bx2 wc g2 a2_0 a2_1 24 ∧ Bx2 wc g3 0 0 24 ∧ Aside0 (Below w.heap.size w wc))
    case first =>
     have H := C2.out
     clear C2
     by_cases c3 : a1_0 ≥ 0
     rotate_left
     ·rw [if_neg c3] at H
      have d3 := dF c3
      clear c3
      (first | rw [d3] | (simp only [i64_w, i32_w]; rw [d3]) | skip)
      have H' := am H
      clear H
      have z_ := ns2 N1 N3
      have z_ := cB2 K1
      go_wp2
      go_meet
      case rel => exact ⟨_, (false), ey, H', le1 J1, ⟨Z K1⟩, ⟨Z K2⟩, ⟨Z K3⟩, ⟨YA HB⟩⟩
     rw [if_pos c3] at H
     have d3 := dT c3
     clear c3
     (first | rw [d3] | (simp only [i64_w, i32_w]; rw [d3]) | skip)
     have H' := am H
     clear H
     have z_ := ns3 N1 N3 N5
     have z_ := cB2 K1
     have z_ := cB2 K2
     go_wp2
     go_meet
     case rel => exact ⟨_, (decide (a2_0 ≥ 0)), ey, H', le1 J1, ⟨Z K1⟩, ⟨Z K2⟩, ⟨Z K3⟩, ⟨YA HB⟩⟩
    case rest =>
     clear C2
     (try clear c1);(try clear d1);(try clear d2)
     obtain ⟨kq, x2, rfl, HA, J2, K1, K2, K3, HB⟩ := hcut
     cases kq with
     | zero => exact absurd HA.out (by simp [impl_rangeBits.j1])
     | succ k2 =>
      have H := HA.out
      clear HA
      simp only [impl_rangeBits.j1] at H
      by_cases c3 : x2 = true
      ·subst c3
       rw [if_pos rfl] at H
       obtain ⟨i1, j9⟩ : ∃ j_ : Int, (mn a1_1 a2_1) = j_ := ⟨_, rfl⟩
       replace H : (some (0, i1)) = some (r1, r2) := by first | (rw [j9] at H; exact H) | (simp only [j9] at H ⊢; exact H)
       have hji42_ : (if a2_1 < a1_1 then a2_1 else a1_1) = i1 := j9
       simp only [Option.some.injEq, Prod.mk.injEq] at H
       obtain ⟨rfl, rfl⟩ := H
       have z_ := ns3 N1 N3 N5
       have z_ := cB2 K1
       have z_ := cB2 K2
       have z_ := cB2 K3
       go_wp2
       refine bodyPost_ret (results_cell_row rfl _ _ g3 24 #[.int .i64 0, .int .i64 i1] (0, 0) _ rfl (by refine pf ?_; refine blk_put (cs := #[.int .i64 0, .int .i64 0]) ?_ 1 _ rfl; refine pf ?_; refine blk_put (cs := #[.int .i64 0, .int .i64 0]) ?_ 0 _ rfl; exact Z K3) Try.underlying24 rfl (by kernel_rfl)) rfl ?_
       exact ⟨by first | rfl | (simp [errW_none, errW_some] <;> rfl) | (simp only [← j9]; first | rfl | (simp [errW_none, errW_some] <;> rfl)) | (simp [*, errW_none, errW_some] <;> rfl), YA HB⟩
      replace c3 := Bool.eq_false_iff.mpr c3
      subst c3
      rw [if_neg ff] at H
      by_cases c4 : a1_0 ≥ 0
      ·rw [if_pos c4] at H
       have d3 := dT c4
       clear c4
       simp only [Option.some.injEq, Prod.mk.injEq] at H
       obtain ⟨rfl, rfl⟩ := H
       have z_ := ns3 N1 N3 N6
       have z_ := cB2 K1
       have z_ := cB2 K3
       go_wp2
       refine bodyPost_ret (results_cell_row rfl _ _ g3 24 #[.int .i64 0, .int .i64 a1_1] (0, 0) _ rfl (by refine pf ?_; refine blk_put (cs := #[.int .i64 0, .int .i64 0]) ?_ 1 _ rfl; refine pf ?_; refine blk_put (cs := #[.int .i64 0, .int .i64 0]) ?_ 0 _ rfl; exact Z K3) Try.underlying24 rfl (by kernel_rfl)) rfl ?_
       exact ⟨ez, YA HB⟩
      rw [if_neg c4] at H
      have d3 := dF c4
      clear c4
      by_cases c5 : a2_0 ≥ 0
      ·rw [if_pos c5] at H
       have d4 := dT c5
       clear c5
       simp only [Option.some.injEq, Prod.mk.injEq] at H
       obtain ⟨rfl, rfl⟩ := H
       have z_ := ns3 N1 N3 N5
       have z_ := cB2 K1
       have z_ := cB2 K2
       have z_ := cB2 K3
       go_wp2
       refine bodyPost_ret (results_cell_row rfl _ _ g3 24 #[.int .i64 0, .int .i64 a2_1] (0, 0) _ rfl (by refine pf ?_; refine blk_put (cs := #[.int .i64 0, .int .i64 0]) ?_ 1 _ rfl; refine pf ?_; refine blk_put (cs := #[.int .i64 0, .int .i64 0]) ?_ 0 _ rfl; exact Z K3) Try.underlying24 rfl (by kernel_rfl)) rfl ?_
       exact ⟨ez, YA HB⟩
      rw [if_neg c5] at H
      have d4 := dF c5
      clear c5
      simp only [Option.some.injEq, Prod.mk.injEq] at H
      obtain ⟨rfl, rfl⟩ := H
      have z_ := ns3 N1 N3 N5
      have z_ := cB2 K1
      have z_ := cB2 K2
      have z_ := cB2 K3
      go_wp2
      refine bodyPost_ret (results_cell_row rfl _ _ g3 24 #[.int .i64 (-2147483648), .int .i64 2147483647] (0, 0) _ rfl (by refine pf ?_; refine blk_put (cs := #[.int .i64 (-2147483648), .int .i64 0]) ?_ 1 _ rfl; refine pf ?_; refine blk_put (cs := #[.int .i64 0, .int .i64 0]) ?_ 0 _ rfl; exact Z K3) Try.underlying24 rfl (by kernel_rfl)) rfl ?_
      exact ⟨ez, YA HB⟩
   rw [if_neg c2] at H
   have d1 := eF c2
   have d2 := nT c2
   have C2 := am H
   clear H
   go_upto_region 12 with (fail)
   go_cut [63] (fun v2 wc => ∃ (kq : Nat) (x2 : Bool), v2 = .bool x2 ∧ Aside0 (impl_rangeBits.j2 kq a0 x2 a1_0 a1_1 a2_0 a2_1 = some (r1, r2)) ∧ Aside0 (kq ≤ k1) ∧ Bx2 wc g1 a1_0 a1_1 24 ∧ Bx2 wc g2 a2_0 a2_1 24 ∧ Bx2 wc g3 0 0 24 ∧ Aside0 (Below w.heap.size w wc))
   case first =>
    have H := C2.out
    clear C2
    by_cases c3 : a1_0 < 0
    ·rw [if_pos c3] at H
     have d3 := dT c3
     clear c3
     (first | rw [d3] | (simp only [i64_w, i32_w]; rw [d3]) | skip)
     have H' := am H
     clear H
     have z_ := ns2 N1 N3
     have z_ := cB2 K1
     go_wp2
     go_meet
     case rel => exact ⟨_, (true), ey, H', le1 J1, ⟨Z K1⟩, ⟨Z K2⟩, ⟨Z K3⟩, ⟨YA HB⟩⟩
    rw [if_neg c3] at H
    have d3 := dF c3
    clear c3
    (first | rw [d3] | (simp only [i64_w, i32_w]; rw [d3]) | skip)
    have H' := am H
    clear H
    have z_ := ns3 N1 N3 N5
    have z_ := cB2 K1
    have z_ := cB2 K2
    go_wp2
    go_meet
    case rel => exact ⟨_, (decide (a2_0 < 0)), ey, H', le1 J1, ⟨Z K1⟩, ⟨Z K2⟩, ⟨Z K3⟩, ⟨YA HB⟩⟩
   case rest =>
    clear C2
    (try clear c1);(try clear c2);(try clear d1);(try clear d2)
    obtain ⟨kq, x2, rfl, HA, J2, K1, K2, K3, HB⟩ := hcut
    cases kq with
    | zero => exact absurd HA.out (by simp [impl_rangeBits.j2])
    | succ k2 =>
     have H := HA.out
     clear HA
     simp only [impl_rangeBits.j2] at H
     by_cases c3 : x2 = true
     ·subst c3
      rw [if_pos rfl] at H
      simp only [Option.some.injEq, Prod.mk.injEq] at H
      obtain ⟨rfl, rfl⟩ := H
      have z_ := ns2 N4 N6
      have z_ := cB2 K3
      go_wp2
      refine bodyPost_ret (results_cell_row rfl _ _ g3 24 #[.int .i64 (-2147483648), .int .i64 2147483647] (0, 0) _ rfl (by refine pf ?_; refine blk_put (cs := #[.int .i64 (-2147483648), .int .i64 0]) ?_ 1 _ rfl; refine pf ?_; refine blk_put (cs := #[.int .i64 0, .int .i64 0]) ?_ 0 _ rfl; exact Z K3) Try.underlying24 rfl (by kernel_rfl)) rfl ?_
      exact ⟨ez, YA HB⟩
     replace c3 := Bool.eq_false_iff.mpr c3
     subst c3
     rw [if_neg ff] at H
     have C3 := am H
     clear H
     go_upto_if 67 with (first | ((with_reducible refine gate_dst (N := 8) rfl ?_); refine bxn 8 #[.int .i64 0, .int .i64 0] 24 HB fun g4 w4 K4 G4 hg hb => ?_; obtain ⟨N7,N8⟩ := ne_ hg K1; obtain ⟨N9,N10⟩ := ne_ hg K2; obtain ⟨N11,N12⟩ := ne_ hg K3; obtain ⟨K1, K2, K3, HB⟩ := bk3 K1 K2 K3 HB hb; clear hb hg; have z_ := ns3 N8 N10 N12; have z_ := cB2 K4))
     (try simp only [Act.put, List.setIfInBounds_toArray, List.set_cons_zero, List.set_cons_succ])
     go_cut [] (fun wc => ∃ (kq : Nat) (x3 : Int), Aside0 (impl_rangeBits.j3 kq a1_0 a1_1 a2_0 a2_1 x3 0 = some (r1, r2)) ∧ Aside0 (kq ≤ k2) ∧ Bx2 wc g1 a1_0 a1_1 24 ∧ Bx2 wc g2 a2_0 a2_1 24 ∧ Bx2 wc g3 0 0 24 ∧ Bx2 wc g4 x3 0 24 ∧ Aside0 (Below w.heap.size w wc))
     case first =>
      have H := C3.out
      clear C3
      by_cases c4 : a0 = 7
      rotate_left
      ·rw [if_neg c4] at H
       have d3 := eF c4
       have d4 := nT c4
       (first | rw [d3] | (simp only [i64_w, i32_w]; rw [d3]) | skip)
       have H' := am H
       clear H
       go_wp2
       go_meet
       case rel => exact ⟨_, (0), H', ⟨by have := J1.out; have := J2.out; first | omega | exact Nat.le_refl _⟩, ⟨by refine fa N7 ?_; refine fa N7 ?_; exact Z K1⟩, ⟨by refine fa N9 ?_; refine fa N9 ?_; exact Z K2⟩, ⟨by refine fa N11 ?_; refine fa N11 ?_; exact Z K3⟩, ⟨by refine pf ?_; refine blk_put (cs := #[.int .i64 0, .int .i64 0]) ?_ 1 _ rfl; refine pf ?_; refine blk_put (cs := #[.int .i64 0, .int .i64 0]) ?_ 0 _ rfl; exact Z K4⟩, ⟨YA HB⟩⟩
      rw [if_pos c4] at H
      have d3 := eT c4
      have d4 := nF c4
      clear c4
      (first | rw [d3] | (simp only [i64_w, i32_w]; rw [d3]) | skip)
      obtain ⟨i1, j9⟩ : ∃ j_ : Int, (mx a1_0 a2_0) = j_ := ⟨_, rfl⟩
      replace H : (impl_rangeBits.j3 k2 a1_0 a1_1 a2_0 a2_1 i1 0) = some (r1, r2) := by first | (rw [j9] at H; exact H) | (simp only [j9] at H ⊢; exact H)
      have hji89_ : (if a1_0 < a2_0 then a2_0 else a1_0) = i1 := j9
      have H' := am H
      clear H
      have z_ := ns6 N1 N3 N7 N5 N9 N12
      have z_ := cB2 K1
      have z_ := cB2 K2
      have z_ := cB2 K4
      go_wp2
      go_meet
      case rel => exact ⟨_, (i1), H', ⟨by have := J1.out; have := J2.out; first | omega | exact Nat.le_refl _⟩, ⟨by refine fa N7 ?_; refine fa N7 ?_; refine fa N7 ?_; exact Z K1⟩, ⟨by refine fa N9 ?_; refine fa N9 ?_; refine fa N9 ?_; exact Z K2⟩, ⟨by refine fa N11 ?_; refine fa N11 ?_; refine fa N11 ?_; exact Z K3⟩, ⟨by refine pf ?_; refine blk_put (cs := #[.int .i64 0, .int .i64 0]) ?_ 0 _ rfl; refine pf ?_; refine blk_put (cs := #[.int .i64 0, .int .i64 0]) ?_ 1 _ rfl; refine pf ?_; refine blk_put (cs := #[.int .i64 0, .int .i64 0]) ?_ 0 _ rfl; exact Z K4⟩, ⟨YA HB⟩⟩
     case rest =>
      clear C3
      (try clear c3)
      obtain ⟨kq, x3, HA, J3, K1, K2, K3, K4, HB⟩ := hcut
      cases kq with
      | zero => exact absurd HA.out (by simp [impl_rangeBits.j3])
      | succ k3 =>
       have H := HA.out
       clear HA
       simp only [impl_rangeBits.j3] at H
       have H' := am H
       clear H
       go_wp2
       go_loopg [] k3 (fun kq w' => ∃ (x4 : Int), Aside0 (impl_rangeBits.l0 kq a1_0 a1_1 a2_0 a2_1 x3 x4 = some (r1, r2)) ∧ Aside0 (kq ≤ k3) ∧ Aside0 (w'.heap[g1]? = some (.cells #[.int .i64 a1_0, .int .i64 a1_1] 24 (0, 0))) ∧ Aside0 (w'.heap[g2]? = some (.cells #[.int .i64 a2_0, .int .i64 a2_1] 24 (0, 0))) ∧ Aside0 (w'.heap[g3]? = some (.cells #[.int .i64 0, .int .i64 0] 24 (0, 0))) ∧ Aside0 (w'.heap[g4]? = some (.cells #[.int .i64 x3, .int .i64 x4] 24 (0, 0))) ∧ Aside0 (Below w.heap.size w w'))
       case atStart => exact ⟨(0), H', ⟨Nat.le_refl _⟩, ⟨Z K1⟩, ⟨Z K2⟩, ⟨Z K3⟩, ⟨Z K4⟩, ⟨YA HB⟩⟩
       case round =>
        clear H'
        obtain ⟨x4, HA, HK4, K1, K2, K3, K4, HB⟩ := hrel
        cases gk with
        | zero => exact absurd HA.out (by simp [impl_rangeBits.l0])
        | succ k4 =>
         have H := HA.out
         clear HA
         simp only [impl_rangeBits.l0] at H
         obtain ⟨i1, j9⟩ : ∃ j_ : Int, (mx a1_1 a2_1) = j_ := ⟨_, rfl⟩
         replace H : (if x4 < (i1) then (impl_rangeBits.l0 k4 a1_0 a1_1 a2_0 a2_1 x3 (wrap64 ((wrap64 (2 * x4)) + 1))) else (some (x3, x4))) = some (r1, r2) := by first | (rw [j9] at H; exact H) | (simp only [j9] at H ⊢; exact H)
         have hji99_ : (if a1_1 < a2_1 then a2_1 else a1_1) = i1 := j9
         by_cases c4 : x4 < (i1)
         ·rw [if_pos c4] at H
          have d3 := dT c4
          clear c4
          have H' := am H
          clear H
          have z_ := ns6 N8 N10 N12 N1 N3 N5
          have z_ := cB2 K4
          have z_ := cB2 K1
          have z_ := cB2 K2
          go_wp2
          go_roundg k4
          case measure => have := J1.out; have := J2.out; have := J3.out; have := HK4.out; omega
          case rel => exact ⟨(wrap64 ((wrap64 (2 * x4)) + 1)), H', ⟨by have := J1.out; have := J2.out; have := J3.out; have := HK4.out; omega⟩, ⟨by refine fa N7 ?_; exact Z K1⟩, ⟨by refine fa N9 ?_; exact Z K2⟩, ⟨by refine fa N11 ?_; exact Z K3⟩, ⟨by refine pf ?_; refine blk_put (cs := #[.int .i64 x3, .int .i64 x4]) ?_ 1 _ rfl; exact Z K4⟩, ⟨YA HB⟩⟩
         rw [if_neg c4] at H
         have d3 := dF c4
         clear c4
         simp only [Option.some.injEq, Prod.mk.injEq] at H
         obtain ⟨rfl, rfl⟩ := H
         have z_ := ns6 N8 N10 N12 N1 N3 N5
         have z_ := cB2 K4
         have z_ := cB2 K1
         have z_ := cB2 K2
         have z_ := cB2 K3
         go_wp2
         refine bodyPost_ret (results_cell_row rfl _ _ g3 24 #[.int .i64 x3, .int .i64 x4] (0, 0) _ rfl (by refine pf ?_; refine blk_put (cs := #[.int .i64 x3, .int .i64 0]) ?_ 1 _ rfl; refine pf ?_; refine blk_put (cs := #[.int .i64 0, .int .i64 0]) ?_ 0 _ rfl; exact Z K3) Try.underlying24 rfl (by kernel_rfl)) rfl ?_
         exact ⟨by first | rfl | (simp [errW_none, errW_some] <;> rfl) | (simp only [← j9]; first | rfl | (simp [errW_none, errW_some] <;> rfl)) | (simp [*, errW_none, errW_some] <;> rfl), YA HB⟩

end Go.Proofs.Ythbkakcchgnhpaa.PFnRangeMore
