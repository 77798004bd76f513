/- Written by this session's own driver (wip/dprint.py): the functions that the law FnRangeMore reaches, as Lean functions, each with its contract. -/
import Derived.Test.YthbkakcchgnhpaaPFnRangeMorex0
import Derived.Test.YthbkakcchgnhpaaPFnRangeMorex1
import Derived.Test.YthbkakcchgnhpaaPFnRangeMorex12
import Derived.Test.YthbkakcchgnhpaaPFnRangeMorex14
import Derived.Test.YthbkakcchgnhpaaPFnRangeMorex15
import Derived.Test.YthbkakcchgnhpaaSv
namespace Go.Proofs.Ythbkakcchgnhpaa.PFnRangeMore
open Go.RowKit Go.Proofs.YthbkakcchgnhpaaV.PrintWords Go.Proofs.YthbkakcchgnhpaaV.PrintLast Go.Proofs.YthbkakcchgnhpaaV.PrintMore Go.Proofs.YthbkakcchgnhpaaSv
attribute [local go_sem] max2_int min2_int max_two min_two max_three min_three max_four min_four   -- for this text's walks alone
set_option linter.unusedVariables false
set_option linter.unusedSimpArgs false

attribute [local go_sem high] eqA24
/-! ### impl_rangeShift: function 52 -/
attribute [local go_sem] Go.Proofs.YthbkakcchgnhpaaSet.isSome_setCell
def impl_rangeShift.j0 : Nat → List Int → Bool → Int → Int → Int → Int → Int → Int → Option (Int × Int × List Int)
 | 0, _, _, _, _, _, _, _, _ => none
 | k + 1, x1, x2, x3, x4, x5, x6, x7, x8 => if x2 = true then (if x1.length < 17592186044416 then ((some (x1 ++ [1] : List Int)).bind fun y1 => (if (!(x5 == x3) || (!(x6 == x4))) = true then (if y1.length < 17592186044416 then (some (x7, x8, (y1 ++ [3]))) else (none)) else (some (x7, x8, y1)))) else (none)) else (if (!(x5 == x3) || (!(x6 == x4))) = true then (if x1.length < 17592186044416 then (some (x7, x8, (x1 ++ [3]))) else (none)) else (some (x7, x8, x1)))
def impl_rangeShift.f (k : Nat) (a0 : Int) (a1_0 : Int) (a1_1 : Int) (a2_0 : Int) (a2_1 : Int) : Option (Int × Int × List Int) := (impl_RangeMeet.f k a2_0 a2_1 0 31).bind fun u1 => ((impl_rangeNone.f).bind fun u2 => ((impl_Range_empty.f u1.1 u1.2).bind fun t1 => (if t1 = true then (if (!(u1.1 == a2_0) || (!(u1.2 == a2_1))) = true then (if ([] : List Int).length < 17592186044416 then (some (u2.1, u2.2, (([] : List Int) ++ [3]))) else (none)) else (some (u2.1, u2.2, ([] : List Int)))) else ((impl_rangeCorners.f k a0 a1_0 a1_1 u1.1 u1.2).bind fun u3 => ((impl_rangeFrom.f u3.1 u3.2).bind fun u4 => (if u3.1 < (-2147483648) then (impl_rangeShift.j0 k ([] : List Int) true a2_0 a2_1 u1.1 u1.2 u4.1 u4.2) else (impl_rangeShift.j0 k ([] : List Int) (decide (u3.2 > 2147483647)) a2_0 a2_1 u1.1 u1.2 u4.1 u4.2)))))))
theorem impl_rangeShift.mono_l : ∀ k, (∀ y0 y1 y2 y3 y4 y5 y6 y7, LeO (impl_rangeShift.j0 k y0 y1 y2 y3 y4 y5 y6 y7) (impl_rangeShift.j0 (k + 1) y0 y1 y2 y3 y4 y5 y6 y7))
 | 0 => fun _ _ _ _ _ _ _ _ r h => by simp [impl_rangeShift.j0] at h
 | k + 1 => by
  have ih0 := impl_rangeShift.mono_l k
  ·intro y0 y1 y2 y3 y4 y5 y6 y7
   unfold impl_rangeShift.j0
   repeat' first | (with_reducible first | apply ih0 | apply impl_RangeMeet.mono | apply impl_rangeCorners.mono | apply LeO.refl | apply LeO.none | refine LeO.ite ?_ ?_ | refine LeO.bind ?_ (fun _ => ?_)) | apply ih0 | apply impl_RangeMeet.mono | apply impl_rangeCorners.mono | apply LeO.none | refine LeO.ite ?_ ?_ | refine LeO.bind ?_ (fun _ => ?_)
theorem impl_rangeShift.mono : ∀ a0 a1 a2 a3 a4 k, LeO (impl_rangeShift.f k a0 a1 a2 a3 a4) (impl_rangeShift.f (k + 1) a0 a1 a2 a3 a4) := by
 intro a0 a1 a2 a3 a4 k
 have ih0 := impl_rangeShift.mono_l k
 unfold impl_rangeShift.f
 repeat' first | (with_reducible first | apply ih0 | apply impl_RangeMeet.mono | apply impl_rangeCorners.mono | apply LeO.refl | apply LeO.none | refine LeO.ite ?_ ?_ | refine LeO.bind ?_ (fun _ => ?_)) | apply ih0 | apply impl_RangeMeet.mono | apply impl_rangeCorners.mono | apply LeO.none | refine LeO.ite ?_ ?_ | refine LeO.bind ?_ (fun _ => ?_)
set_option maxHeartbeats 8000000 in
set_option maxRecDepth 100000 in
theorem impl_rangeShift.calls (k : Nat) (a0 : Int) (a1_0 : Int) (a1_1 : Int) (a2_0 : Int) (a2_1 : Int) (r1 : Int) (r2 : Int) (r3 : List Int) (w : World) (h : impl_rangeShift.f k a0 a1_0 a1_1 a2_0 a2_1 = some (r1, r2, r3)) :
  Calls Try.prog 52 #[.int .i64 a0, .agg #[.int .i64 a1_0, .int .i64 a1_1], .agg #[.int .i64 a2_0, .int .i64 a2_1]] w fun e w' => ∃ v2_ : Value, e = .returned (.tuple #[.agg #[.int .i64 r1, .int .i64 r2], v2_]) ∧ Kd.R (Kd.int .i64) 3 w' w.heap.size (fun _ => True) v2_ r3 ∧ Below w.heap.size w w' := by
 have hu24 := Try.underlying24
 have HB := am (Below.refl w.heap.size w)
 have H : ((impl_RangeMeet.f k a2_0 a2_1 0 31).bind fun u1 => ((impl_rangeNone.f).bind fun u2 => ((impl_Range_empty.f u1.1 u1.2).bind fun t1 => (if t1 = true then (if (!(u1.1 == a2_0) || (!(u1.2 == a2_1))) = true then (if ([] : List Int).length < 17592186044416 then (some (u2.1, u2.2, (([] : List Int) ++ [3]))) else (none)) else (some (u2.1, u2.2, ([] : List Int)))) else ((impl_rangeCorners.f k a0 a1_0 a1_1 u1.1 u1.2).bind fun u3 => ((impl_rangeFrom.f u3.1 u3.2).bind fun u4 => (if u3.1 < (-2147483648) then (impl_rangeShift.j0 k ([] : List Int) true a2_0 a2_1 u1.1 u1.2 u4.1 u4.2) else (impl_rangeShift.j0 k ([] : List Int) (decide (u3.2 > 2147483647)) a2_0 a2_1 u1.1 u1.2 u4.1 u4.2)))))))) = some (r1, r2, r3) := h
 clear h
 obtain ⟨⟨t2, t3⟩, A1, H⟩ := bd H
 try dsimp only at H
 obtain ⟨⟨t4, t5⟩, A2, H⟩ := bd H
 try dsimp only at H
 obtain ⟨t1, A3, H⟩ := bd H
 try dsimp only at H
 by_cases c1 : t1 = true
 ·subst c1
  rw [if_pos rfl] at H
  by_cases c2 : (!(t2 == a2_0) || (!(t3 == a2_1))) = true
  rotate_left
  ·rw [if_neg c2] at H
   have d1 : (!(t2 == a2_0) || (!(t3 == a2_1))) = false := by simpa using c2
   clear c2
   simp only [Option.some.injEq, Prod.mk.injEq] at H
   obtain ⟨rfl, rfl, rfl⟩ := H
   go_enter Try.func52, Try.ntmps52
   go_wp2_with (first | ((with_reducible refine gate_dst (N := 4) rfl ?_); refine bxn 4 #[.int .i64 a1_0, .int .i64 a1_1] 24 HB fun g1 w1 K1 G1 hg hb => ?_; replace HB := am (below_step (YA HB) hb); clear hb hg) | ((with_reducible refine gate_dst (N := 5) rfl ?_); refine bxn 5 #[.int .i64 a2_0, .int .i64 a2_1] 24 HB fun g2 w2 K2 G2 hg hb => ?_; obtain ⟨N1,N2⟩ := ne_ hg K1; obtain ⟨K1, HB⟩ := bk1 K1 HB hb; clear hb hg) | ((with_reducible refine gate_dst (N := 6) rfl ?_); refine bxn 6 #[.int .i64 0, .int .i64 0] 24 HB fun g3 w3 K3 G3 hg hb => ?_; obtain ⟨N3,N4⟩ := ne_ hg K1; obtain ⟨N5,N6⟩ := ne_ hg K2; obtain ⟨K1, K2, HB⟩ := bk2 K1 K2 HB hb; clear hb hg; have z_ := ns2 N2 N5; have z_ := cB2 K2) | ((with_reducible refine gate_callee (f := 93) rfl ?_); refine gL 15 Try.func93 (impl_RangeMeet.calls _ _ _ _ _ _ _ _ A1.out) fun w4 hb => ?_; obtain ⟨K1, K2, K3, HB⟩ := bk3 K1 K2 K3 HB hb; (try clear hb)) | ((with_reducible refine gate_dst (N := 8) rfl ?_); refine bxn 8 #[.int .i64 0, .int .i64 0] 24 HB fun g4 w5 K4 G4 hg hb => ?_; obtain ⟨N7,N8⟩ := ne_ hg K1; obtain ⟨N9,N10⟩ := ne_ hg K2; obtain ⟨N11,N12⟩ := ne_ hg K3; obtain ⟨K1, K2, K3, HB⟩ := bk3 K1 K2 K3 HB hb; clear hb hg; have z_ := ns3 N8 N10 N12; have z_ := cB2 K4) | ((with_reducible refine gate_callee (f := 48) rfl ?_); refine gL 16 Try.func48 (impl_rangeNone.calls _ _ _ A2.out) fun w6 hb => ?_; replace K1 := am (blk_below (g := g1) (o := b2 a1_0 a1_1 24) (by refine fa N7 ?_; refine fa N7 ?_; exact Z K1) hb); replace K2 := am (blk_below (g := g2) (o := b2 a2_0 a2_1 24) (by refine fa N9 ?_; refine fa N9 ?_; exact Z K2) hb); replace K3 := am (blk_below (g := g3) (o := b2 0 0 24) (by refine fa N11 ?_; refine fa N11 ?_; exact Z K3) hb); replace K4 := am (blk_below (g := g4) (o := b2 t2 t3 24) (by refine pf ?_; refine blk_put (cs := #[.int .i64 t2, .int .i64 0]) ?_ 1 _ rfl; refine pf ?_; refine blk_put (cs := #[.int .i64 0, .int .i64 0]) ?_ 0 _ rfl; exact Z K4) hb); replace HB := am (below_step (YA HB) hb); (try clear hb)) | ((with_reducible refine gate_dst (N := 9) rfl ?_); refine bxn 9 #[.int .i64 0, .int .i64 0] 24 HB fun g5 w7 K5 G5 hg hb => ?_; obtain ⟨N13,N14⟩ := ne_ hg K1; obtain ⟨N15,N16⟩ := ne_ hg K2; obtain ⟨N17,N18⟩ := ne_ hg K3; obtain ⟨N19,N20⟩ := ne_ hg K4; obtain ⟨K1, K2, K3, K4, HB⟩ := bk4 K1 K2 K3 K4 HB hb; clear hb hg; have z_ := ns4 N14 N16 N18 N20; have z_ := cB2 K5; have z_ := cB2 K4) | ((with_reducible refine gate_callee (f := 47) rfl ?_); refine gL 18 Try.func47 (impl_Range_empty.calls _ _ _ _ A3.out) fun w8 hb => ?_; replace K1 := am (blk_below (g := g1) (o := b2 a1_0 a1_1 24) (by refine fa N13 ?_; refine fa N13 ?_; exact Z K1) hb); replace K2 := am (blk_below (g := g2) (o := b2 a2_0 a2_1 24) (by refine fa N15 ?_; refine fa N15 ?_; exact Z K2) hb); replace K3 := am (blk_below (g := g3) (o := b2 0 0 24) (by refine fa N17 ?_; refine fa N17 ?_; exact Z K3) hb); replace K4 := am (blk_below (g := g4) (o := b2 t2 t3 24) (by refine fa N19 ?_; refine fa N19 ?_; exact Z K4) hb); replace K5 := am (blk_below (g := g5) (o := b2 t4 t5 24) (by refine pf ?_; refine blk_put (cs := #[.int .i64 t4, .int .i64 0]) ?_ 1 _ rfl; refine pf ?_; refine blk_put (cs := #[.int .i64 0, .int .i64 0]) ?_ 0 _ rfl; exact Z K5) hb); replace HB := am (below_step (YA HB) hb); (try clear hb); have z_ := ns1 N4; have z_ := cB2 K4; have z_ := cB2 K2; have z_ := cB2 K5; have z_ := cB2 K3))
   refine bodyPost_ret (results_ct rfl _ _ g3 24 #[.int .i64 t4, .int .i64 t5] (0, 0) _ rfl (by refine pf ?_; refine blk_put (cs := #[.int .i64 t4, .int .i64 0]) ?_ 1 _ rfl; refine pf ?_; refine blk_put (cs := #[.int .i64 0, .int .i64 0]) ?_ 0 _ rfl; exact Z K3) Try.underlying24 rfl (by kernel_rfl)) rfl ?_
   exact ⟨_, ez, by first | exact Kd.R_nil _ _ _ _ _ | exact Kd.N_nil _ _ _ _ _ | exact Kd.V_nil _ _ _ _ _ | exact Kd.Q_nil _ _ _ _ _ | exact Kd.S_nil _ _ _ _ _, YA HB⟩
  rw [if_pos c2] at H
  have d1 : (!(t2 == a2_0) || (!(t3 == a2_1))) = true := c2
  clear c2
  by_cases c3 : ([] : List Int).length < 17592186044416
  rotate_left
  ·rw [if_neg c3] at H
   exact absurd H (by simp)
  rw [if_pos c3] at H
  have L1 := am c3
  clear c3
  obtain ⟨y1, y2⟩ : ∃ y_ : List Int, y_ = (([] : List Int) ++ [3]) := ⟨_, rfl⟩
  replace H : (some (t4, t5, y1)) = some (r1, r2, r3) := by first | (rw [y2]; with_reducible exact H) | (have H2_ := (Option.bind_some _ _).symm.trans H; rw [y2]; with_reducible exact H2_) | (have H2_ := (Option.bind_some _ _).symm.trans H; with_reducible exact H2_) | with_reducible exact H | (rw [y2]; exact H) | exact H
  have Y25 := am y2
  clear y2
  simp only [Option.some.injEq, Prod.mk.injEq] at H
  obtain ⟨rfl, rfl, rfl⟩ := H
  go_enter Try.func52, Try.ntmps52
  go_wp2_with (first | ((with_reducible refine gate_dst (N := 4) rfl ?_); refine bxn 4 #[.int .i64 a1_0, .int .i64 a1_1] 24 HB fun g1 w1 K1 G1 hg hb => ?_; replace HB := am (below_step (YA HB) hb); clear hb hg) | ((with_reducible refine gate_dst (N := 5) rfl ?_); refine bxn 5 #[.int .i64 a2_0, .int .i64 a2_1] 24 HB fun g2 w2 K2 G2 hg hb => ?_; obtain ⟨N1,N2⟩ := ne_ hg K1; obtain ⟨K1, HB⟩ := bk1 K1 HB hb; clear hb hg) | ((with_reducible refine gate_dst (N := 6) rfl ?_); refine bxn 6 #[.int .i64 0, .int .i64 0] 24 HB fun g3 w3 K3 G3 hg hb => ?_; obtain ⟨N3,N4⟩ := ne_ hg K1; obtain ⟨N5,N6⟩ := ne_ hg K2; obtain ⟨K1, K2, HB⟩ := bk2 K1 K2 HB hb; clear hb hg; have z_ := ns2 N2 N5; have z_ := cB2 K2) | ((with_reducible refine gate_callee (f := 93) rfl ?_); refine gL 15 Try.func93 (impl_RangeMeet.calls _ _ _ _ _ _ _ _ A1.out) fun w4 hb => ?_; obtain ⟨K1, K2, K3, HB⟩ := bk3 K1 K2 K3 HB hb; (try clear hb)) | ((with_reducible refine gate_dst (N := 8) rfl ?_); refine bxn 8 #[.int .i64 0, .int .i64 0] 24 HB fun g4 w5 K4 G4 hg hb => ?_; obtain ⟨N7,N8⟩ := ne_ hg K1; obtain ⟨N9,N10⟩ := ne_ hg K2; obtain ⟨N11,N12⟩ := ne_ hg K3; obtain ⟨K1, K2, K3, HB⟩ := bk3 K1 K2 K3 HB hb; clear hb hg; have z_ := ns3 N8 N10 N12; have z_ := cB2 K4) | ((with_reducible refine gate_callee (f := 48) rfl ?_); refine gL 16 Try.func48 (impl_rangeNone.calls _ _ _ A2.out) fun w6 hb => ?_; replace K1 := am (blk_below (g := g1) (o := b2 a1_0 a1_1 24) (by refine fa N7 ?_; refine fa N7 ?_; exact Z K1) hb); replace K2 := am (blk_below (g := g2) (o := b2 a2_0 a2_1 24) (by refine fa N9 ?_; refine fa N9 ?_; exact Z K2) hb); replace K3 := am (blk_below (g := g3) (o := b2 0 0 24) (by refine fa N11 ?_; refine fa N11 ?_; exact Z K3) hb); replace K4 := am (blk_below (g := g4) (o := b2 t2 t3 24) (by refine pf ?_; refine blk_put (cs := #[.int .i64 t2, .int .i64 0]) ?_ 1 _ rfl; refine pf ?_; refine blk_put (cs := #[.int .i64 0, .int .i64 0]) ?_ 0 _ rfl; exact Z K4) hb); replace HB := am (below_step (YA HB) hb); (try clear hb)) | ((with_reducible refine gate_dst (N := 9) rfl ?_); refine bxn 9 #[.int .i64 0, .int .i64 0] 24 HB fun g5 w7 K5 G5 hg hb => ?_; obtain ⟨N13,N14⟩ := ne_ hg K1; obtain ⟨N15,N16⟩ := ne_ hg K2; obtain ⟨N17,N18⟩ := ne_ hg K3; obtain ⟨N19,N20⟩ := ne_ hg K4; obtain ⟨K1, K2, K3, K4, HB⟩ := bk4 K1 K2 K3 K4 HB hb; clear hb hg; have z_ := ns4 N14 N16 N18 N20; have z_ := cB2 K5; have z_ := cB2 K4) | ((with_reducible refine gate_callee (f := 47) rfl ?_); refine gL 18 Try.func47 (impl_Range_empty.calls _ _ _ _ A3.out) fun w8 hb => ?_; replace K1 := am (blk_below (g := g1) (o := b2 a1_0 a1_1 24) (by refine fa N13 ?_; refine fa N13 ?_; exact Z K1) hb); replace K2 := am (blk_below (g := g2) (o := b2 a2_0 a2_1 24) (by refine fa N15 ?_; refine fa N15 ?_; exact Z K2) hb); replace K3 := am (blk_below (g := g3) (o := b2 0 0 24) (by refine fa N17 ?_; refine fa N17 ?_; exact Z K3) hb); replace K4 := am (blk_below (g := g4) (o := b2 t2 t3 24) (by refine fa N19 ?_; refine fa N19 ?_; exact Z K4) hb); replace K5 := am (blk_below (g := g5) (o := b2 t4 t5 24) (by refine pf ?_; refine blk_put (cs := #[.int .i64 t4, .int .i64 0]) ?_ 1 _ rfl; refine pf ?_; refine blk_put (cs := #[.int .i64 0, .int .i64 0]) ?_ 0 _ rfl; exact Z K5) hb); replace HB := am (below_step (YA HB) hb); (try clear hb); have z_ := cB2 K4; have z_ := cB2 K2) | ((with_reducible refine gate_builtin (b := .append) (xs := #[.tmp 42, .tmp 43]) rfl ?_); at_builtin; refine Kd.R_append (Kd.int .i64) (w0 := w) w.heap.size rfl (.tmp 42) (.tmp 43) 25 3 (.int .i64 0) 8 rfl Try.underlying25 info3 rfl (by decide) (by omega) (.slice none 0 0) ([] : List Int) 3 [.int .i64 3] (fun _ => True) (fun _ => False) rfl rfl ?aP (fun _ hk => hk.elim) ?aF ?aO ?aB ?aS ?aL ?_; (case aP => exact rfl); (case aB => exact (YA HB)); (case aF => exact (fun _ _ => trivial)); (case aO => exact ((Kd.R_nil _ _ _ _ (fun _ => True)))); (case aS => exact (below_size (YA HB))); (case aL => have := L1.out; omega); intro v1 w9 ho hb hg hat; rw [← Y25.out] at ho; have O1 := am (ho); replace K1 := am (blk_grown (g := g1) (o := b2 a1_0 a1_1 24) (Z K1) hg (by simp [Value.ownBlock])); replace K2 := am (blk_grown (g := g2) (o := b2 a2_0 a2_1 24) (Z K2) hg (by simp [Value.ownBlock])); replace K3 := am (blk_grown (g := g3) (o := b2 0 0 24) (Z K3) hg (by simp [Value.ownBlock])); replace K4 := am (blk_grown (g := g4) (o := b2 t2 t3 24) (Z K4) hg (by simp [Value.ownBlock])); replace K5 := am (blk_grown (g := g5) (o := b2 t4 t5 24) (Z K5) hg (by simp [Value.ownBlock])); replace HB := am (hb); clear ho hb hg hat; have z_ := ns1 N4; have z_ := cB2 K5; have z_ := cB2 K3))
  refine bodyPost_ret (results_ct rfl _ _ g3 24 #[.int .i64 t4, .int .i64 t5] (0, 0) _ rfl (by refine pf ?_; refine blk_put (cs := #[.int .i64 t4, .int .i64 0]) ?_ 1 _ rfl; refine pf ?_; refine blk_put (cs := #[.int .i64 0, .int .i64 0]) ?_ 0 _ rfl; exact Z K3) Try.underlying24 rfl (by kernel_rfl)) rfl ?_
  exact ⟨_, ez, by (with_reducible repeat (first | apply Kd.R_alloc | apply Kd.R_drewN | apply Kd.R_drew)); exact Kd.R_mono (Kd.R_far (p := ⟨g3, 1, none⟩) (Kd.R_far (p := ⟨g3, 0, none⟩) (Kd.R_types O1.out K3.out (by decide)) (fun _ hk => hk.2) (.int .i64 t4)) (fun _ hk => hk.2) (.int .i64 t5)) (fun _ hk => trivial), YA HB⟩
 replace c1 := Bool.eq_false_iff.mpr c1
 subst c1
 rw [if_neg ff] at H
 obtain ⟨⟨t6, t7⟩, A4, H⟩ := bd H
 try dsimp only at H
 obtain ⟨⟨t8, t9⟩, A5, H⟩ := bd H
 try dsimp only at H
 have C1 := am H
 clear H
 go_enter Try.func52, Try.ntmps52
 go_upto_region 7 with (first | ((with_reducible refine gate_dst (N := 4) rfl ?_); refine bxn 4 #[.int .i64 a1_0, .int .i64 a1_1] 24 HB fun g1 w1 K1 G1 hg hb => ?_; replace HB := am (below_step (YA HB) hb); clear hb hg) | ((with_reducible refine gate_dst (N := 5) rfl ?_); refine bxn 5 #[.int .i64 a2_0, .int .i64 a2_1] 24 HB fun g2 w2 K2 G2 hg hb => ?_; obtain ⟨N1,N2⟩ := ne_ hg K1; obtain ⟨K1, HB⟩ := bk1 K1 HB hb; clear hb hg) | ((with_reducible refine gate_dst (N := 6) rfl ?_); refine bxn 6 #[.int .i64 0, .int .i64 0] 24 HB fun g3 w3 K3 G3 hg hb => ?_; obtain ⟨N3,N4⟩ := ne_ hg K1; obtain ⟨N5,N6⟩ := ne_ hg K2; obtain ⟨K1, K2, HB⟩ := bk2 K1 K2 HB hb; clear hb hg; have z_ := ns2 N2 N5; have z_ := cB2 K2) | ((with_reducible refine gate_callee (f := 93) rfl ?_); refine gL 15 Try.func93 (impl_RangeMeet.calls _ _ _ _ _ _ _ _ A1.out) fun w4 hb => ?_; obtain ⟨K1, K2, K3, HB⟩ := bk3 K1 K2 K3 HB hb; (try clear hb)) | ((with_reducible refine gate_dst (N := 8) rfl ?_); refine bxn 8 #[.int .i64 0, .int .i64 0] 24 HB fun g4 w5 K4 G4 hg hb => ?_; obtain ⟨N7,N8⟩ := ne_ hg K1; obtain ⟨N9,N10⟩ := ne_ hg K2; obtain ⟨N11,N12⟩ := ne_ hg K3; obtain ⟨K1, K2, K3, HB⟩ := bk3 K1 K2 K3 HB hb; clear hb hg; have z_ := ns3 N8 N10 N12; have z_ := cB2 K4) | ((with_reducible refine gate_callee (f := 48) rfl ?_); refine gL 16 Try.func48 (impl_rangeNone.calls _ _ _ A2.out) fun w6 hb => ?_; replace K1 := am (blk_below (g := g1) (o := b2 a1_0 a1_1 24) (by refine fa N7 ?_; refine fa N7 ?_; exact Z K1) hb); replace K2 := am (blk_below (g := g2) (o := b2 a2_0 a2_1 24) (by refine fa N9 ?_; refine fa N9 ?_; exact Z K2) hb); replace K3 := am (blk_below (g := g3) (o := b2 0 0 24) (by refine fa N11 ?_; refine fa N11 ?_; exact Z K3) hb); replace K4 := am (blk_below (g := g4) (o := b2 t2 t3 24) (by refine pf ?_; refine blk_put (cs := #[.int .i64 t2, .int .i64 0]) ?_ 1 _ rfl; refine pf ?_; refine blk_put (cs := #[.int .i64 0, .int .i64 0]) ?_ 0 _ rfl; exact Z K4) hb); replace HB := am (below_step (YA HB) hb); (try clear hb)) | ((with_reducible refine gate_dst (N := 9) rfl ?_); refine bxn 9 #[.int .i64 0, .int .i64 0] 24 HB fun g5 w7 K5 G5 hg hb => ?_; obtain ⟨N13,N14⟩ := ne_ hg K1; obtain ⟨N15,N16⟩ := ne_ hg K2; obtain ⟨N17,N18⟩ := ne_ hg K3; obtain ⟨N19,N20⟩ := ne_ hg K4; obtain ⟨K1, K2, K3, K4, HB⟩ := bk4 K1 K2 K3 K4 HB hb; clear hb hg; have z_ := ns4 N14 N16 N18 N20; have z_ := cB2 K5; have z_ := cB2 K4) | ((with_reducible refine gate_callee (f := 47) rfl ?_); refine gL 18 Try.func47 (impl_Range_empty.calls _ _ _ _ A3.out) fun w8 hb => ?_; replace K1 := am (blk_below (g := g1) (o := b2 a1_0 a1_1 24) (by refine fa N13 ?_; refine fa N13 ?_; exact Z K1) hb); replace K2 := am (blk_below (g := g2) (o := b2 a2_0 a2_1 24) (by refine fa N15 ?_; refine fa N15 ?_; exact Z K2) hb); replace K3 := am (blk_below (g := g3) (o := b2 0 0 24) (by refine fa N17 ?_; refine fa N17 ?_; exact Z K3) hb); replace K4 := am (blk_below (g := g4) (o := b2 t2 t3 24) (by refine fa N19 ?_; refine fa N19 ?_; exact Z K4) hb); replace K5 := am (blk_below (g := g5) (o := b2 t4 t5 24) (by refine pf ?_; refine blk_put (cs := #[.int .i64 t4, .int .i64 0]) ?_ 1 _ rfl; refine pf ?_; refine blk_put (cs := #[.int .i64 0, .int .i64 0]) ?_ 0 _ rfl; exact Z K5) hb); replace HB := am (below_step (YA HB) hb); (try clear hb); have z_ := ns1 N3; have z_ := cB2 K1; have z_ := cB2 K4) | ((with_reducible refine gate_callee (f := 49) rfl ?_); refine gL 24 Try.func49 (impl_rangeCorners.calls _ _ _ _ _ _ _ _ _ A4.out) fun w9 hb => ?_; obtain ⟨K1, K2, K3, K4, K5, HB⟩ := bk5 K1 K2 K3 K4 K5 HB hb; (try clear hb)) | ((with_reducible refine gate_callee (f := 50) rfl ?_); refine gL 29 Try.func50 (impl_rangeFrom.calls _ _ _ _ _ A5.out) fun w10 hb => ?_; obtain ⟨K1, K2, K3, K4, K5, HB⟩ := bk5 K1 K2 K3 K4 K5 HB hb; (try clear hb); have z_ := cB2 K5))
 (try simp only [Act.put, List.setIfInBounds_toArray, List.set_cons_zero, List.set_cons_succ])
 go_cut [35] (fun v1 wc => ∃ (kq : Nat) (x1 : Bool), v1 = .bool x1 ∧ Aside0 (impl_rangeShift.j0 kq ([] : List Int) x1 a2_0 a2_1 t2 t3 t8 t9 = some (r1, r2, r3)) ∧ Aside0 (kq ≤ k) ∧ Aside0 (Kd.R (Kd.int .i64) 3 wc w.heap.size (fun _ => True) (.slice none 0 0) ([] : List Int)) ∧ Bx2 wc g1 a1_0 a1_1 24 ∧ Bx2 wc g2 a2_0 a2_1 24 ∧ Bx2 wc g3 0 0 24 ∧ Bx2 wc g4 t2 t3 24 ∧ Bx2 wc g5 t8 t9 24 ∧ Aside0 (Below w.heap.size w wc))
 case first =>
  have H := C1.out
  clear C1
  by_cases c2 : t6 < (-2147483648)
  ·rw [if_pos c2] at H
   have d1 := dT c2
   clear c2
   (first | rw [d1] | (simp only [i64_w, i32_w]; rw [d1]) | skip)
   have H' := am H
   clear H
   go_wp2
   go_meet
   case rel => exact ⟨_, (true), ey, H', le0, ⟨by first | exact Kd.R_nil _ _ _ _ _ | exact Kd.N_nil _ _ _ _ _ | exact Kd.V_nil _ _ _ _ _ | exact Kd.Q_nil _ _ _ _ _ | exact Kd.S_nil _ _ _ _ _⟩, ⟨by refine fa N13 ?_; refine fa N13 ?_; exact Z K1⟩, ⟨by refine fa N15 ?_; refine fa N15 ?_; exact Z K2⟩, ⟨by refine fa N17 ?_; refine fa N17 ?_; exact Z K3⟩, ⟨by refine fa N19 ?_; refine fa N19 ?_; exact Z K4⟩, ⟨by refine pf ?_; refine blk_put (cs := #[.int .i64 t8, .int .i64 t5]) ?_ 1 _ rfl; refine pf ?_; refine blk_put (cs := #[.int .i64 t4, .int .i64 t5]) ?_ 0 _ rfl; exact Z K5⟩, ⟨YA HB⟩⟩
  rw [if_neg c2] at H
  have d1 := dF c2
  clear c2
  (first | rw [d1] | (simp only [i64_w, i32_w]; rw [d1]) | skip)
  have H' := am H
  clear H
  go_wp2
  go_meet
  case rel => exact ⟨_, (decide (t7 > 2147483647)), ey, H', le0, ⟨by first | exact Kd.R_nil _ _ _ _ _ | exact Kd.N_nil _ _ _ _ _ | exact Kd.V_nil _ _ _ _ _ | exact Kd.Q_nil _ _ _ _ _ | exact Kd.S_nil _ _ _ _ _⟩, ⟨by refine fa N13 ?_; refine fa N13 ?_; exact Z K1⟩, ⟨by refine fa N15 ?_; refine fa N15 ?_; exact Z K2⟩, ⟨by refine fa N17 ?_; refine fa N17 ?_; exact Z K3⟩, ⟨by refine fa N19 ?_; refine fa N19 ?_; exact Z K4⟩, ⟨by refine pf ?_; refine blk_put (cs := #[.int .i64 t8, .int .i64 t5]) ?_ 1 _ rfl; refine pf ?_; refine blk_put (cs := #[.int .i64 t4, .int .i64 t5]) ?_ 0 _ rfl; exact Z K5⟩, ⟨YA HB⟩⟩
 case rest =>
  clear C1
  (try clear c1)
  obtain ⟨kq, x1, rfl, HA, J1, O1, K1, K2, K3, K4, K5, HB⟩ := hcut
  cases kq with
  | zero => exact absurd HA.out (by simp [impl_rangeShift.j0])
  | succ k1 =>
   have H := HA.out
   clear HA
   simp only [impl_rangeShift.j0] at H
   by_cases c2 : x1 = true
   rotate_left
   ·replace c2 := Bool.eq_false_iff.mpr c2
    subst c2
    rw [if_neg ff] at H
    by_cases c3 : (!(t2 == a2_0) || (!(t3 == a2_1))) = true
    rotate_left
    ·rw [if_neg c3] at H
     have d1 : (!(t2 == a2_0) || (!(t3 == a2_1))) = false := by simpa using c3
     clear c3
     simp only [Option.some.injEq, Prod.mk.injEq] at H
     obtain ⟨rfl, rfl, rfl⟩ := H
     have z_ := ns10 N8 N10 N12 N19 N2 N5 N15 N14 N18 N4
     have z_ := cB2 K4
     have z_ := cB2 K2
     have z_ := cB2 K5
     have z_ := cB2 K3
     go_wp2
     refine bodyPost_ret (results_ct rfl _ _ g3 24 #[.int .i64 t8, .int .i64 t9] (0, 0) _ rfl (by refine pf ?_; refine blk_put (cs := #[.int .i64 t8, .int .i64 0]) ?_ 1 _ rfl; refine pf ?_; refine blk_put (cs := #[.int .i64 0, .int .i64 0]) ?_ 0 _ rfl; exact Z K3) Try.underlying24 rfl (by kernel_rfl)) rfl ?_
     exact ⟨_, ez, by (with_reducible repeat (first | apply Kd.R_alloc | apply Kd.R_drewN | apply Kd.R_drew)); exact Kd.R_mono (Kd.R_far (p := ⟨g3, 1, none⟩) (Kd.R_far (p := ⟨g3, 0, none⟩) (Kd.R_types O1.out K3.out (by decide)) (fun _ hk => hk.2) (.int .i64 t8)) (fun _ hk => hk.2) (.int .i64 t9)) (fun _ hk => trivial), YA HB⟩
    rw [if_pos c3] at H
    have d1 : (!(t2 == a2_0) || (!(t3 == a2_1))) = true := c3
    clear c3
    by_cases c4 : ([] : List Int).length < 17592186044416
    rotate_left
    ·rw [if_neg c4] at H
     exact absurd H (by simp)
    rw [if_pos c4] at H
    have L1 := am c4
    clear c4
    obtain ⟨y1, y2⟩ : ∃ y_ : List Int, y_ = (([] : List Int) ++ [3]) := ⟨_, rfl⟩
    replace H : (some (t8, t9, y1)) = some (r1, r2, r3) := by first | (rw [y2]; with_reducible exact H) | (have H2_ := (Option.bind_some _ _).symm.trans H; rw [y2]; with_reducible exact H2_) | (have H2_ := (Option.bind_some _ _).symm.trans H; with_reducible exact H2_) | with_reducible exact H | (rw [y2]; exact H) | exact H
    have Y25 := am y2
    clear y2
    simp only [Option.some.injEq, Prod.mk.injEq] at H
    obtain ⟨rfl, rfl, rfl⟩ := H
    have z_ := ns7 N8 N10 N12 N19 N2 N5 N15
    have z_ := cB2 K4
    have z_ := cB2 K2
    go_wp2_with (first | ((with_reducible refine gate_builtin (b := .append) (xs := #[.tmp 42, .tmp 43]) rfl ?_); at_builtin; refine Kd.R_append (Kd.int .i64) (w0 := w) w.heap.size rfl (.tmp 42) (.tmp 43) 25 3 (.int .i64 0) 8 rfl Try.underlying25 info3 rfl (by decide) (by omega) (.slice none 0 0) ([] : List Int) 3 [.int .i64 3] (fun _ => True) (fun _ => False) rfl rfl ?aP (fun _ hk => hk.elim) ?aF ?aO ?aB ?aS ?aL ?_; (case aP => exact rfl); (case aB => exact (YA HB)); (case aF => exact (fun _ _ => trivial)); (case aO => exact (RZ O1)); (case aS => exact (below_size (YA HB))); (case aL => have := L1.out; omega); intro v2 w11 ho hb hg hat; rw [← Y25.out] at ho; have O2 := am (ho); replace K1 := am (blk_grown (g := g1) (o := b2 a1_0 a1_1 24) (Z K1) hg (Kd.R_ne O1.out K1.out (by decide))); replace K2 := am (blk_grown (g := g2) (o := b2 a2_0 a2_1 24) (Z K2) hg (Kd.R_ne O1.out K2.out (by decide))); replace K3 := am (blk_grown (g := g3) (o := b2 0 0 24) (Z K3) hg (Kd.R_ne O1.out K3.out (by decide))); replace K4 := am (blk_grown (g := g4) (o := b2 t2 t3 24) (Z K4) hg (Kd.R_ne O1.out K4.out (by decide))); replace K5 := am (blk_grown (g := g5) (o := b2 t8 t9 24) (Z K5) hg (Kd.R_ne O1.out K5.out (by decide))); replace HB := am (hb); clear O1; clear ho hb hg hat; have z_ := ns3 N14 N18 N4; have z_ := cB2 K5; have z_ := cB2 K3))
    refine bodyPost_ret (results_ct rfl _ _ g3 24 #[.int .i64 t8, .int .i64 t9] (0, 0) _ rfl (by refine pf ?_; refine blk_put (cs := #[.int .i64 t8, .int .i64 0]) ?_ 1 _ rfl; refine pf ?_; refine blk_put (cs := #[.int .i64 0, .int .i64 0]) ?_ 0 _ rfl; exact Z K3) Try.underlying24 rfl (by kernel_rfl)) rfl ?_
    exact ⟨_, ez, by (with_reducible repeat (first | apply Kd.R_alloc | apply Kd.R_drewN | apply Kd.R_drew)); exact Kd.R_mono (Kd.R_far (p := ⟨g3, 1, none⟩) (Kd.R_far (p := ⟨g3, 0, none⟩) (Kd.R_types O2.out K3.out (by decide)) (fun _ hk => hk.2) (.int .i64 t8)) (fun _ hk => hk.2) (.int .i64 t9)) (fun _ hk => trivial), YA HB⟩
   subst c2
   rw [if_pos rfl] at H
   by_cases c3 : ([] : List Int).length < 17592186044416
   rotate_left
   ·rw [if_neg c3] at H
    exact absurd H (by simp)
   rw [if_pos c3] at H
   have L1 := am c3
   clear c3
   obtain ⟨y1, y2⟩ : ∃ y_ : List Int, y_ = (([] : List Int) ++ [1]) := ⟨_, rfl⟩
   replace H : (if (!(t2 == a2_0) || (!(t3 == a2_1))) = true then (if y1.length < 17592186044416 then (some (t8, t9, (y1 ++ [3]))) else (none)) else (some (t8, t9, y1))) = some (r1, r2, r3) := by first | (rw [y2]; with_reducible exact H) | (have H2_ := (Option.bind_some _ _).symm.trans H; rw [y2]; with_reducible exact H2_) | (have H2_ := (Option.bind_some _ _).symm.trans H; with_reducible exact H2_) | with_reducible exact H | (rw [y2]; exact H) | exact H
   have Y25 := am y2
   clear y2
   by_cases c4 : (!(t2 == a2_0) || (!(t3 == a2_1))) = true
   rotate_left
   ·rw [if_neg c4] at H
    have d1 : (!(t2 == a2_0) || (!(t3 == a2_1))) = false := by simpa using c4
    clear c4
    simp only [Option.some.injEq, Prod.mk.injEq] at H
    obtain ⟨rfl, rfl, rfl⟩ := H
    go_wp2_with (first | ((with_reducible refine gate_builtin (b := .append) (xs := #[.tmp 36, .tmp 37]) rfl ?_); at_builtin; refine Kd.R_append (Kd.int .i64) (w0 := w) w.heap.size rfl (.tmp 36) (.tmp 37) 25 3 (.int .i64 0) 8 rfl Try.underlying25 info3 rfl (by decide) (by omega) (.slice none 0 0) ([] : List Int) 1 [.int .i64 1] (fun _ => True) (fun _ => False) rfl rfl ?aP (fun _ hk => hk.elim) ?aF ?aO ?aB ?aS ?aL ?_; (case aP => exact rfl); (case aB => exact (YA HB)); (case aF => exact (fun _ _ => trivial)); (case aO => exact (RZ O1)); (case aS => exact (below_size (YA HB))); (case aL => have := L1.out; omega); intro v2 w11 ho hb hg hat; rw [← Y25.out] at ho; have O2 := am (ho); replace K1 := am (blk_grown (g := g1) (o := b2 a1_0 a1_1 24) (Z K1) hg (Kd.R_ne O1.out K1.out (by decide))); replace K2 := am (blk_grown (g := g2) (o := b2 a2_0 a2_1 24) (Z K2) hg (Kd.R_ne O1.out K2.out (by decide))); replace K3 := am (blk_grown (g := g3) (o := b2 0 0 24) (Z K3) hg (Kd.R_ne O1.out K3.out (by decide))); replace K4 := am (blk_grown (g := g4) (o := b2 t2 t3 24) (Z K4) hg (Kd.R_ne O1.out K4.out (by decide))); replace K5 := am (blk_grown (g := g5) (o := b2 t8 t9 24) (Z K5) hg (Kd.R_ne O1.out K5.out (by decide))); replace HB := am (hb); clear O1; clear ho hb hg hat; have z_ := ns10 N8 N10 N12 N19 N2 N5 N15 N14 N18 N4; have z_ := cB2 K4; have z_ := cB2 K2; have z_ := cB2 K5; have z_ := cB2 K3))
    refine bodyPost_ret (results_ct rfl _ _ g3 24 #[.int .i64 t8, .int .i64 t9] (0, 0) _ rfl (by refine pf ?_; refine blk_put (cs := #[.int .i64 t8, .int .i64 0]) ?_ 1 _ rfl; refine pf ?_; refine blk_put (cs := #[.int .i64 0, .int .i64 0]) ?_ 0 _ rfl; exact Z K3) Try.underlying24 rfl (by kernel_rfl)) rfl ?_
    exact ⟨_, ez, by (with_reducible repeat (first | apply Kd.R_alloc | apply Kd.R_drewN | apply Kd.R_drew)); exact Kd.R_mono (Kd.R_far (p := ⟨g3, 1, none⟩) (Kd.R_far (p := ⟨g3, 0, none⟩) (Kd.R_types O2.out K3.out (by decide)) (fun _ hk => hk.2) (.int .i64 t8)) (fun _ hk => hk.2) (.int .i64 t9)) (fun _ hk => trivial), YA HB⟩
   rw [if_pos c4] at H
   have d1 : (!(t2 == a2_0) || (!(t3 == a2_1))) = true := c4
   clear c4
   by_cases c5 : y1.length < 17592186044416
   rotate_left
   ·rw [if_neg c5] at H
    exact absurd H (by simp)
   rw [if_pos c5] at H
   have L2 := am c5
   clear c5
   obtain ⟨y3, y4⟩ : ∃ y_ : List Int, y_ = (y1 ++ [3]) := ⟨_, rfl⟩
   replace H : (some (t8, t9, y3)) = some (r1, r2, r3) := by first | (rw [y4]; with_reducible exact H) | (have H2_ := (Option.bind_some _ _).symm.trans H; rw [y4]; with_reducible exact H2_) | (have H2_ := (Option.bind_some _ _).symm.trans H; with_reducible exact H2_) | with_reducible exact H | (rw [y4]; exact H) | exact H
   have Y26 := am y4
   clear y4
   simp only [Option.some.injEq, Prod.mk.injEq] at H
   obtain ⟨rfl, rfl, rfl⟩ := H
   go_wp2_with (first | ((with_reducible refine gate_builtin (b := .append) (xs := #[.tmp 36, .tmp 37]) rfl ?_); at_builtin; refine Kd.R_append (Kd.int .i64) (w0 := w) w.heap.size rfl (.tmp 36) (.tmp 37) 25 3 (.int .i64 0) 8 rfl Try.underlying25 info3 rfl (by decide) (by omega) (.slice none 0 0) ([] : List Int) 1 [.int .i64 1] (fun _ => True) (fun _ => False) rfl rfl ?aP (fun _ hk => hk.elim) ?aF ?aO ?aB ?aS ?aL ?_; (case aP => exact rfl); (case aB => exact (YA HB)); (case aF => exact (fun _ _ => trivial)); (case aO => exact (RZ O1)); (case aS => exact (below_size (YA HB))); (case aL => have := L1.out; omega); intro v2 w11 ho hb hg hat; rw [← Y25.out] at ho; have O2 := am (ho); replace K1 := am (blk_grown (g := g1) (o := b2 a1_0 a1_1 24) (Z K1) hg (Kd.R_ne O1.out K1.out (by decide))); replace K2 := am (blk_grown (g := g2) (o := b2 a2_0 a2_1 24) (Z K2) hg (Kd.R_ne O1.out K2.out (by decide))); replace K3 := am (blk_grown (g := g3) (o := b2 0 0 24) (Z K3) hg (Kd.R_ne O1.out K3.out (by decide))); replace K4 := am (blk_grown (g := g4) (o := b2 t2 t3 24) (Z K4) hg (Kd.R_ne O1.out K4.out (by decide))); replace K5 := am (blk_grown (g := g5) (o := b2 t8 t9 24) (Z K5) hg (Kd.R_ne O1.out K5.out (by decide))); replace HB := am (hb); clear O1; clear ho hb hg hat; have z_ := ns7 N8 N10 N12 N19 N2 N5 N15; have z_ := cB2 K4; have z_ := cB2 K2) | ((with_reducible refine gate_builtin (b := .append) (xs := #[.tmp 42, .tmp 43]) rfl ?_); at_builtin; refine Kd.R_append (Kd.int .i64) (w0 := w) w.heap.size rfl (.tmp 42) (.tmp 43) 25 3 (.int .i64 0) 8 rfl Try.underlying25 info3 rfl (by decide) (by omega) v2 y1 3 [.int .i64 3] (fun _ => True) (fun _ => False) rfl rfl ?aP (fun _ hk => hk.elim) ?aF ?aO ?aB ?aS ?aL ?_; (case aP => exact rfl); (case aB => exact (YA HB)); (case aF => exact (fun _ _ => trivial)); (case aO => exact (RZ O2)); (case aS => exact (below_size (YA HB))); (case aL => have := L2.out; omega); intro v3 w12 ho hb hg hat; rw [← Y26.out] at ho; have O3 := am (ho); replace K1 := am (blk_grown (g := g1) (o := b2 a1_0 a1_1 24) (Z K1) hg (Kd.R_ne O2.out K1.out (by decide))); replace K2 := am (blk_grown (g := g2) (o := b2 a2_0 a2_1 24) (Z K2) hg (Kd.R_ne O2.out K2.out (by decide))); replace K3 := am (blk_grown (g := g3) (o := b2 0 0 24) (Z K3) hg (Kd.R_ne O2.out K3.out (by decide))); replace K4 := am (blk_grown (g := g4) (o := b2 t2 t3 24) (Z K4) hg (Kd.R_ne O2.out K4.out (by decide))); replace K5 := am (blk_grown (g := g5) (o := b2 t8 t9 24) (Z K5) hg (Kd.R_ne O2.out K5.out (by decide))); replace HB := am (hb); clear O2; clear ho hb hg hat; have z_ := ns3 N14 N18 N4; have z_ := cB2 K5; have z_ := cB2 K3))
   refine bodyPost_ret (results_ct rfl _ _ g3 24 #[.int .i64 t8, .int .i64 t9] (0, 0) _ rfl (by refine pf ?_; refine blk_put (cs := #[.int .i64 t8, .int .i64 0]) ?_ 1 _ rfl; refine pf ?_; refine blk_put (cs := #[.int .i64 0, .int .i64 0]) ?_ 0 _ rfl; exact Z K3) Try.underlying24 rfl (by kernel_rfl)) rfl ?_
   exact ⟨_, ez, by (with_reducible repeat (first | apply Kd.R_alloc | apply Kd.R_drewN | apply Kd.R_drew)); exact Kd.R_mono (Kd.R_far (p := ⟨g3, 1, none⟩) (Kd.R_far (p := ⟨g3, 0, none⟩) (Kd.R_types O3.out K3.out (by decide)) (fun _ hk => hk.2) (.int .i64 t8)) (fun _ hk => hk.2) (.int .i64 t9)) (fun _ hk => trivial), YA HB⟩

/-! ### impl_rangeSides: function 94 -/
attribute [local go_sem] Go.Proofs.YthbkakcchgnhpaaSet.isSome_setCell
def impl_rangeSides.f (k : Nat) (a0_0 : Int) (a0_1 : Int) : Option (Int × Int × Int × Int) := (impl_RangeMeet.f k a0_0 a0_1 (-2147483648) (-1)).bind fun u1 => ((impl_RangeMeet.f k a0_0 a0_1 1 2147483647).bind fun u2 => (some (u1.1, u1.2, u2.1, u2.2)))
theorem impl_rangeSides.mono : ∀ a0 a1 k, LeO (impl_rangeSides.f k a0 a1) (impl_rangeSides.f (k + 1) a0 a1) := by
 intro a0 a1 k
 unfold impl_rangeSides.f
 repeat' first | (with_reducible first | apply impl_RangeMeet.mono | apply LeO.refl | apply LeO.none | refine LeO.ite ?_ ?_ | refine LeO.bind ?_ (fun _ => ?_)) | apply impl_RangeMeet.mono | apply LeO.none | refine LeO.ite ?_ ?_ | refine LeO.bind ?_ (fun _ => ?_)
def impl_rangeSides.T1 : Bool × List (List Nat × List Nat) := (true, [([], []), ([], []), ([0, 1], [0, 1]), ([], []), ([], []), ([3, 4, 2], [3, 4]), ([2, 5], [2, 5]), ([6, 5, 0, 1, 2, 3, 4, 5, 6], [6])])
def impl_rangeSides.B1 : List Nat := [0, 0, 3, 0, 0, 31, 63, 127]
theorem impl_rangeSides.tab1 : rtab .any (opsOf Try.f94 1) = impl_rangeSides.T1 := by kernel_rfl
theorem impl_rangeSides.bits1 : waitsOk impl_rangeSides.T1.2 impl_rangeSides.B1 = true := by kernel_rfl
set_option maxHeartbeats 8000000 in
set_option maxRecDepth 100000 in
theorem impl_rangeSides.calls (k : Nat) (a0_0 : Int) (a0_1 : Int) (r1 : Int) (r2 : Int) (r3 : Int) (r4 : Int) (w : World) (h : impl_rangeSides.f k a0_0 a0_1 = some (r1, r2, r3, r4)) :
  Calls Try.prog 94 #[.agg #[.int .i64 a0_0, .int .i64 a0_1]] w fun e w' => e = .returned (.agg #[.int .i64 r1, .int .i64 r2, .int .i64 r3, .int .i64 r4]) ∧ Below w.heap.size w w' := by
 have hu24 := Try.underlying24
 have hu96 := Try.underlying96
 have HB := am (Below.refl w.heap.size w)
 have H : ((impl_RangeMeet.f k a0_0 a0_1 (-2147483648) (-1)).bind fun u1 => ((impl_RangeMeet.f k a0_0 a0_1 1 2147483647).bind fun u2 => (some (u1.1, u1.2, u2.1, u2.2)))) = some (r1, r2, r3, r4) := h
 clear h
 obtain ⟨⟨t1, t2⟩, A1, H⟩ := bd H
 try dsimp only at H
 obtain ⟨⟨t3, t4⟩, A2, H⟩ := bd H
 try dsimp only at H
 simp only [Option.some.injEq, Prod.mk.injEq] at H
 obtain ⟨rfl, rfl, rfl, rfl⟩ := H
 go_enter Try.func94, Try.ntmps94
 try go_wp2_with (first | ((with_reducible refine gate_dst (N := 1) rfl ?_); refine bxn 1 #[.int .i64 a0_0, .int .i64 a0_1] 24 HB fun g1 w2 K1 G1 hg hb => ?_; replace HB := am (below_step (YA HB) hb); clear hb hg) | ((with_reducible refine gate_dst (N := 2) rfl ?_); refine bxn 2 #[.int .i64 0, .int .i64 0, .int .i64 0, .int .i64 0] 96 HB fun g2 w3 K2 G2 hg hb => ?_; obtain ⟨N1,N2⟩ := ne_ hg K1; obtain ⟨K1, HB⟩ := bk1 K1 HB hb; clear hb hg))
 obtain ⟨K1, K2, HB⟩ := dk2 K1 K2 HB
 refine start_ (n := 8) (S := fun w' => w'.cell? ⟨g1, 0, none⟩ = some (.int .i64 a0_0) ∧ w'.cell? ⟨g1, 1, none⟩ = some (.int .i64 a0_1)) (ds := []) (lb 8 0) (by kernel_rfl) rfl rfl ⟨bc K1 0, bc K1 1⟩ (fun hHeld => ?_); refine with_tabW impl_rangeSides.tab1 impl_rangeSides.bits1 (fun HT_ HW_ => ?_)
 generalize w3.drew = w4 at K1 K2 HB hHeld ⊢
 refine pk 1 4 2 ?_
 refine pk 4 7 18 ?_
 refine tk 0 3 19 hHeld ?_
 refine tk 3 6 27 hHeld ?_
 refine on 2 (some 5) 31 fun K hK => ?_
 refine gq Try.func93 (impl_RangeMeet.calls _ _ _ _ _ _ _ _ A1.out) fun w5 hb => ?_
 obtain ⟨K1, K2, HB⟩ := bk2 K1 K2 HB hb
 clear hb
 refine kk hK ⟨bc K1 0, bc K1 1⟩ fun hHeld => ?_
 clear hK K
 refine on 5 (some 8) 63 fun K hK => ?_
 refine gq Try.func93 (impl_RangeMeet.calls _ _ _ _ _ _ _ _ A2.out) fun w6 hb => ?_
 obtain ⟨K1, K2, HB⟩ := bk2 K1 K2 HB hb
 clear hb
 refine kk hK ⟨bc K1 0, bc K1 1⟩ fun hHeld => ?_
 clear hK K
 refine pk 6 9 127 ?_
 refine on 7 none 255 fun K hK => ?_
 have s1 : w6.cell? ⟨g2, 0, none⟩ = some (.int .i64 0) := bc K2 0
 have hfs9 := blk_frozen K2.out 0
 obtain ⟨z1,z2⟩ := nn N1
 have s2 : w6.cell? ⟨g2, 1, none⟩ = some (.int .i64 0) := bc K2 1
 have hfs10 := blk_frozen K2.out 1
 obtain ⟨z3,z4⟩ := nn N1
 have s3 : w6.cell? ⟨g2, 2, none⟩ = some (.int .i64 0) := bc K2 2
 have hfs11 := blk_frozen K2.out 2
 obtain ⟨z5,z6⟩ := nn N1
 have s4 : w6.cell? ⟨g2, 3, none⟩ = some (.int .i64 0) := bc K2 3
 have hfs12 := blk_frozen K2.out 3
 obtain ⟨z7,z8⟩ := nn N1
 refine skip_ (w1 := ?_) (by rfl) rfl ?_ ?_
 rotate_left
 ·go_simp
  rfl
 refine hK.out _ _ ⟨((cell_far (p := ⟨g2, _, none⟩) N1.out _).trans (((cell_far (p := ⟨g2, _, none⟩) N1.out _).trans (((cell_far (p := ⟨g2, _, none⟩) N1.out _).trans (((cell_far (p := ⟨g2, _, none⟩) N1.out _).trans (hHeld.1)))))))), ((cell_far (p := ⟨g2, _, none⟩) N1.out _).trans (((cell_far (p := ⟨g2, _, none⟩) N1.out _).trans (((cell_far (p := ⟨g2, _, none⟩) N1.out _).trans (((cell_far (p := ⟨g2, _, none⟩) N1.out _).trans (hHeld.2))))))))⟩ (fun hHeld => ?_)
 clear hK K
 refine done_ (done_of HT_.out (by kernel_rfl)) ?_
 try go_wp2
 refine bodyPost_ret (results_cell_row rfl _ _ g2 96 #[.int .i64 t1, .int .i64 t2, .int .i64 t3, .int .i64 t4] (0, 0) _ rfl (by refine pf ?_; refine blk_put (cs := #[.int .i64 t1, .int .i64 t2, .int .i64 t3, .int .i64 0]) ?_ 3 _ rfl; refine pf ?_; refine blk_put (cs := #[.int .i64 t1, .int .i64 t2, .int .i64 0, .int .i64 0]) ?_ 2 _ rfl; refine pf ?_; refine blk_put (cs := #[.int .i64 t1, .int .i64 0, .int .i64 0, .int .i64 0]) ?_ 1 _ rfl; refine pf ?_; refine blk_put (cs := #[.int .i64 0, .int .i64 0, .int .i64 0, .int .i64 0]) ?_ 0 _ rfl; exact Z K2) Try.underlying96 rfl (by kernel_rfl)) rfl ?_
 exact ⟨ez, YA HB⟩

/-! ### impl_RangeHas: function 95 -/
attribute [local go_sem] Go.Proofs.YthbkakcchgnhpaaSet.isSome_setCell
def impl_RangeHas.f (a0_0 : Int) (a0_1 : Int) (a1 : Int) : Option (Bool) := (impl_RangeOk.f a0_0 a0_1).bind fun t1 => (if t1 = true then (if a0_0 ≤ a1 then (some (decide (a1 ≤ a0_1))) else (some false)) else (some false))
set_option maxHeartbeats 8000000 in
set_option maxRecDepth 100000 in
theorem impl_RangeHas.calls (a0_0 : Int) (a0_1 : Int) (a1 : Int) (r : Bool) (w : World) (h : impl_RangeHas.f a0_0 a0_1 a1 = some r) :
  Calls Try.prog 95 #[.agg #[.int .i64 a0_0, .int .i64 a0_1], .int .i64 a1] w fun e w' => e = .returned (.bool r) ∧ Below w.heap.size w w' := by
 have hu24 := Try.underlying24
 have HB := am (Below.refl w.heap.size w)
 have H : ((impl_RangeOk.f a0_0 a0_1).bind fun t1 => (if t1 = true then (if a0_0 ≤ a1 then (some (decide (a1 ≤ a0_1))) else (some false)) else (some false))) = some r := h
 clear h
 obtain ⟨t1, A1, H⟩ := bd H
 try dsimp only at H
 by_cases c1 : t1 = true
 rotate_left
 ·replace c1 := Bool.eq_false_iff.mpr c1
  subst c1
  rw [if_neg ff] at H
  obtain rfl := Option.some.inj H
  go_enter Try.func95, Try.ntmps95
  go_wp2_with (first | ((with_reducible refine gate_dst (N := 2) rfl ?_); refine bxn 2 #[.int .i64 a0_0, .int .i64 a0_1] 24 HB fun g1 w1 K1 G1 hg hb => ?_; replace HB := am (below_step (YA HB) hb); clear hb hg; have z_ := cB2 K1) | ((with_reducible refine gate_callee (f := 46) rfl ?_); refine gL 6 Try.func46 (impl_RangeOk.calls _ _ _ _ A1.out) fun w2 hb => ?_; obtain ⟨K1, HB⟩ := bk1 K1 HB hb; (try clear hb)))
  go_ret
  exact ⟨ez, YA HB⟩
 subst c1
 rw [if_pos rfl] at H
 by_cases c2 : a0_0 ≤ a1
 ·rw [if_pos c2] at H
  have d1 := dT c2
  clear c2
  obtain rfl := Option.some.inj H
  go_enter Try.func95, Try.ntmps95
  go_wp2_with (first | ((with_reducible refine gate_dst (N := 2) rfl ?_); refine bxn 2 #[.int .i64 a0_0, .int .i64 a0_1] 24 HB fun g1 w1 K1 G1 hg hb => ?_; replace HB := am (below_step (YA HB) hb); clear hb hg; have z_ := cB2 K1) | ((with_reducible refine gate_callee (f := 46) rfl ?_); refine gL 6 Try.func46 (impl_RangeOk.calls _ _ _ _ A1.out) fun w2 hb => ?_; obtain ⟨K1, HB⟩ := bk1 K1 HB hb; (try clear hb); have z_ := cB2 K1))
  go_ret
  exact ⟨ez, YA HB⟩
 rw [if_neg c2] at H
 have d1 := dF c2
 clear c2
 obtain rfl := Option.some.inj H
 go_enter Try.func95, Try.ntmps95
 go_wp2_with (first | ((with_reducible refine gate_dst (N := 2) rfl ?_); refine bxn 2 #[.int .i64 a0_0, .int .i64 a0_1] 24 HB fun g1 w1 K1 G1 hg hb => ?_; replace HB := am (below_step (YA HB) hb); clear hb hg; have z_ := cB2 K1) | ((with_reducible refine gate_callee (f := 46) rfl ?_); refine gL 6 Try.func46 (impl_RangeOk.calls _ _ _ _ A1.out) fun w2 hb => ?_; obtain ⟨K1, HB⟩ := bk1 K1 HB hb; (try clear hb); have z_ := cB2 K1))
 go_ret
 exact ⟨ez, YA HB⟩

end Go.Proofs.Ythbkakcchgnhpaa.PFnRangeMore
