/- Written by this session's own driver (wip/dprint.py): the functions that the law FnRangeMore reaches, as Lean functions, each with its contract. -/
import Derived.Test.YthbkakcchgnhpaaPFnRangeMorex0
import Derived.Test.YthbkakcchgnhpaaPFnRangeMorex1
import Derived.Test.YthbkakcchgnhpaaPFnRangeMorex2
import Derived.Test.YthbkakcchgnhpaaPFnRangeMorex3
import Derived.Test.YthbkakcchgnhpaaPFnRangeMorex11
import Derived.Test.YthbkakcchgnhpaaPFnRangeMorex21
import Derived.Test.YthbkakcchgnhpaaPFnRangeMorex22
import Derived.Test.YthbkakcchgnhpaaPFnRangeMorex23
import Derived.Test.YthbkakcchgnhpaaPFnRangeMorex25
import Derived.Test.YthbkakcchgnhpaaSv
namespace Go.Proofs.Ythbkakcchgnhpaa.PFnRangeMore
open Go.RowKit Go.Proofs.YthbkakcchgnhpaaV.PrintWords Go.Proofs.YthbkakcchgnhpaaV.PrintLast Go.Proofs.YthbkakcchgnhpaaV.PrintMore Go.Proofs.YthbkakcchgnhpaaSv
attribute [local go_sem] max2_int min2_int max_two min_two max_three min_three max_four min_four   -- for this text's walks alone
set_option linter.unusedVariables false
set_option linter.unusedSimpArgs false

attribute [local go_sem high] eqA24
/-! ### laws_FnRangeMore: function 6 -/
attribute [local go_sem] Go.Proofs.YthbkakcchgnhpaaSet.isSome_setCell
mutual
def laws_FnRangeMore.j0 : Nat → Int → List Int → Bool → Int → Int → Int → Int → Int → Int → Int → Int → Int → Int → Option (Bool)
 | 0, _, _, _, _, _, _, _, _, _, _, _, _, _ => none
 | k + 1, x1, x2, x3, x4, x5, x6, x7, x8, x9, x10, x11, x12, x13 => if x3 = true then (none) else ((spec_RangeOk.f x4 x5).bind fun t1 => (if t1 = true then ((spec_RangeOk.f x6 x7).bind fun t2 => (if t2 = true then ((spec_RangeOk.f x8 x9).bind fun t3 => (if t3 = true then ((spec_RangeOk.f x10 x11).bind fun t4 => (laws_FnRangeMore.j1 k x1 x2 (!t4) x4 x5 x6 x7 x8 x9 x10 x11 x12 x13)) else (laws_FnRangeMore.j1 k x1 x2 true x4 x5 x6 x7 x8 x9 x10 x11 x12 x13))) else (laws_FnRangeMore.j1 k x1 x2 true x4 x5 x6 x7 x8 x9 x10 x11 x12 x13))) else (laws_FnRangeMore.j1 k x1 x2 true x4 x5 x6 x7 x8 x9 x10 x11 x12 x13)))
def laws_FnRangeMore.j1 : Nat → Int → List Int → Bool → Int → Int → Int → Int → Int → Int → Int → Int → Int → Int → Option (Bool)
 | 0, _, _, _, _, _, _, _, _, _, _, _, _, _ => none
 | k + 1, x1, x2, x3, x4, x5, x6, x7, x8, x9, x10, x11, x12, x13 => if x3 = true then (some true) else ((spec_RangeJoin.f k x4 x5 x8 x9).bind fun u1 => ((spec_RangeJoin.f k x6 x7 x10 x11).bind fun u2 => ((impl_RangeDo.f k x1 u1.1 u1.2 u2.1 u2.2).bind fun u3 => (laws_FnRangeMore.l0 k x2 u3.2.2 0 x12 x13 u3.1 u3.2.1))))
def laws_FnRangeMore.l0 : Nat → List Int → List Int → Int → Int → Int → Int → Int → Option (Bool)
 | 0, _, _, _, _, _, _, _ => none
 | k + 1, x1, x2, x3, x4, x5, x6, x7 => if x3 < (x1.length : Int) then (if 0 ≤ x3 then ((laws_has.f k x2 (rd x1 x3)).bind fun t1 => (if t1 = true then (laws_FnRangeMore.l0 k x1 x2 (wrap64 (x3 + 1)) x4 x5 x6 x7) else (none))) else (none)) else ((impl_RangeIn.f x4 x5 x6 x7).bind fun t2 => (some t2))
end
def laws_FnRangeMore.f (k : Nat) (l0 : List Int) : Option (Bool) := if (l0.length : Int) > 1048576 then (some true) else ((spec_DrawRangeDo.f k l0).bind fun u1 => ((spec_DrawRangeJoin.f k l0).bind fun u2 => ((impl_RangeDo.f k u1.1 u1.2.1 u1.2.2.1 u1.2.2.2.1 u1.2.2.2.2).bind fun u3 => ((spec_RangeDo.f k u1.1 u1.2.1 u1.2.2.1 u1.2.2.2.1 u1.2.2.2.2).bind fun u4 => (if (!(u3.1 == u4.1) || (!(u3.2.1 == u4.2.1))) = true then (laws_FnRangeMore.j0 k u1.1 u3.2.2 true u1.2.1 u1.2.2.1 u1.2.2.2.1 u1.2.2.2.2 u2.1 u2.2.1 u2.2.2.1 u2.2.2.2 u3.1 u3.2.1) else ((laws_sameInts.f k u3.2.2 u4.2.2).bind fun t1 => (laws_FnRangeMore.j0 k u1.1 u3.2.2 (!t1) u1.2.1 u1.2.2.1 u1.2.2.2.1 u1.2.2.2.2 u2.1 u2.2.1 u2.2.2.1 u2.2.2.2 u3.1 u3.2.1)))))))
theorem laws_FnRangeMore.mono_l : ∀ k, (∀ y0 y1 y2 y3 y4 y5 y6 y7 y8 y9 y10 y11 y12, LeO (laws_FnRangeMore.j0 k y0 y1 y2 y3 y4 y5 y6 y7 y8 y9 y10 y11 y12) (laws_FnRangeMore.j0 (k + 1) y0 y1 y2 y3 y4 y5 y6 y7 y8 y9 y10 y11 y12)) ∧ (∀ y0 y1 y2 y3 y4 y5 y6 y7 y8 y9 y10 y11 y12, LeO (laws_FnRangeMore.j1 k y0 y1 y2 y3 y4 y5 y6 y7 y8 y9 y10 y11 y12) (laws_FnRangeMore.j1 (k + 1) y0 y1 y2 y3 y4 y5 y6 y7 y8 y9 y10 y11 y12)) ∧ (∀ y0 y1 y2 y3 y4 y5 y6, LeO (laws_FnRangeMore.l0 k y0 y1 y2 y3 y4 y5 y6) (laws_FnRangeMore.l0 (k + 1) y0 y1 y2 y3 y4 y5 y6))
 | 0 => ⟨fun _ _ _ _ _ _ _ _ _ _ _ _ _ r h => by simp [laws_FnRangeMore.j0] at h, fun _ _ _ _ _ _ _ _ _ _ _ _ _ r h => by simp [laws_FnRangeMore.j1] at h, fun _ _ _ _ _ _ _ r h => by simp [laws_FnRangeMore.l0] at h⟩
 | k + 1 => by
  obtain ⟨ih0, ih1, ih2⟩ := laws_FnRangeMore.mono_l k
  refine ⟨?_, ?_, ?_⟩ <;> (intros; (first | unfold laws_FnRangeMore.j0 | unfold laws_FnRangeMore.j1 | unfold laws_FnRangeMore.l0); repeat' first | (with_reducible first | apply ih0 | apply ih1 | apply ih2 | apply impl_RangeDo.mono | apply laws_has.mono | apply laws_sameInts.mono | apply spec_DrawRangeDo.mono | apply spec_DrawRangeJoin.mono | apply spec_RangeDo.mono | apply spec_RangeJoin.mono | apply LeO.refl | apply LeO.none | refine LeO.ite ?_ ?_ | refine LeO.bind ?_ (fun _ => ?_)) | apply ih0 | apply ih1 | apply ih2 | apply impl_RangeDo.mono | apply laws_has.mono | apply laws_sameInts.mono | apply spec_DrawRangeDo.mono | apply spec_DrawRangeJoin.mono | apply spec_RangeDo.mono | apply spec_RangeJoin.mono | apply LeO.none | refine LeO.ite ?_ ?_ | refine LeO.bind ?_ (fun _ => ?_))
theorem laws_FnRangeMore.mono : ∀ a0 k, LeO (laws_FnRangeMore.f k a0) (laws_FnRangeMore.f (k + 1) a0) := by
 intro a0 k
 obtain ⟨ih0, ih1, ih2⟩ := laws_FnRangeMore.mono_l k
 unfold laws_FnRangeMore.f
 repeat' first | (with_reducible first | apply ih0 | apply ih1 | apply ih2 | apply impl_RangeDo.mono | apply laws_has.mono | apply laws_sameInts.mono | apply spec_DrawRangeDo.mono | apply spec_DrawRangeJoin.mono | apply spec_RangeDo.mono | apply spec_RangeJoin.mono | apply LeO.refl | apply LeO.none | refine LeO.ite ?_ ?_ | refine LeO.bind ?_ (fun _ => ?_)) | apply ih0 | apply ih1 | apply ih2 | apply impl_RangeDo.mono | apply laws_has.mono | apply laws_sameInts.mono | apply spec_DrawRangeDo.mono | apply spec_DrawRangeJoin.mono | apply spec_RangeDo.mono | apply spec_RangeJoin.mono | apply LeO.none | refine LeO.ite ?_ ?_ | refine LeO.bind ?_ (fun _ => ?_)
def laws_FnRangeMore.T11 : Bool × List (List Nat × List Nat) := (true, [([], []), ([], []), ([], []), ([1, 2], [1, 2]), ([], []), ([], []), ([4, 5, 3], [4, 5]), ([0, 3, 6, 6], [0, 3, 6]), ([7], [7]), ([8], [8]), ([8], [8]), ([], []), ([11, 9, 7, 0, 1, 2, 3, 4, 5, 6, 7, 8, 9, 11], [9, 11]), ([10, 12, 0, 1, 2, 3, 4, 5, 6, 7, 8, 9, 10, 11, 12], [10])])
def laws_FnRangeMore.B11 : List Nat := [0, 0, 0, 6, 0, 0, 62, 127, 255, 511, 511, 0, 3071, 8191]
theorem laws_FnRangeMore.tab11 : rtab .any (opsOf Try.f6 11) = laws_FnRangeMore.T11 := by kernel_rfl
theorem laws_FnRangeMore.bits11 : waitsOk laws_FnRangeMore.T11.2 laws_FnRangeMore.B11 = true := by kernel_rfl
set_option maxHeartbeats 8000000 in
set_option maxRecDepth 100000 in
theorem laws_FnRangeMore.calls (k : Nat) (A1 : Option Addr) (c1 : Nat) (l0 : List Int) (r : Bool) (w : World) (hr0 : Kd.C (Kd.int .u8) w A1 l0.length l0) (hc0 : l0.length ≤ c1) (h : laws_FnRangeMore.f k l0 = some r) :
  Calls Try.prog 6 #[.slice A1 l0.length c1] w fun e w' => e = .returned (.bool r) ∧ Below w.heap.size w w' := by
 have hu24 := Try.underlying24
 have R1 := am hr0
 have C1 := am hc0
 clear hr0 hc0
 have HB := am (Below.refl w.heap.size w)
 have H : (if (l0.length : Int) > 1048576 then (some true) else ((spec_DrawRangeDo.f k l0).bind fun u1 => ((spec_DrawRangeJoin.f k l0).bind fun u2 => ((impl_RangeDo.f k u1.1 u1.2.1 u1.2.2.1 u1.2.2.2.1 u1.2.2.2.2).bind fun u3 => ((spec_RangeDo.f k u1.1 u1.2.1 u1.2.2.1 u1.2.2.2.1 u1.2.2.2.2).bind fun u4 => (if (!(u3.1 == u4.1) || (!(u3.2.1 == u4.2.1))) = true then (laws_FnRangeMore.j0 k u1.1 u3.2.2 true u1.2.1 u1.2.2.1 u1.2.2.2.1 u1.2.2.2.2 u2.1 u2.2.1 u2.2.2.1 u2.2.2.2 u3.1 u3.2.1) else ((laws_sameInts.f k u3.2.2 u4.2.2).bind fun t1 => (laws_FnRangeMore.j0 k u1.1 u3.2.2 (!t1) u1.2.1 u1.2.2.1 u1.2.2.2.1 u1.2.2.2.2 u2.1 u2.2.1 u2.2.2.1 u2.2.2.2 u3.1 u3.2.1)))))))) = some r := h
 clear h
 by_cases c2 : (l0.length : Int) > 1048576
 ·rw [if_pos c2] at H
  have d1 := dT c2
  have d2 : decide (1048576 < l0.length) = true := decide_eq_true (by omega)
  clear c2
  obtain rfl := Option.some.inj H
  go_enter Try.func6, Try.ntmps6
  go_wp2
  go_ret
  exact ⟨ez, YA HB⟩
 ·rw [if_neg c2] at H
  have d1 := dF c2
  have d2 : decide (1048576 < l0.length) = false := decide_eq_false (by omega)
  clear c2
  obtain ⟨⟨t2, t3, t4, t5, t6⟩, A2, H⟩ := bd H
  try dsimp only at H
  obtain ⟨⟨t7, t8, t9, t10⟩, A3, H⟩ := bd H
  try dsimp only at H
  obtain ⟨⟨t11, t12, t13⟩, A4, H⟩ := bd H
  try dsimp only at H
  obtain ⟨⟨t14, t15, t16⟩, A5, H⟩ := bd H
  try dsimp only at H
  have C2 := am H
  clear H
  go_enter Try.func6, Try.ntmps6
  go_upto_region 7 with (first | ((with_reducible refine gate_callee (f := 21) rfl ?_); refine goesL_ (some 20) rfl rfl Try.func21 (by kernel_rfl) rfl #[.slice A1 l0.length c1] rfl mz ?_; (with_reducible refine (spec_DrawRangeDo.calls k _ _ l0 t2 t3 t4 t5 t6 _ ?side1 ?side2 A2.out).mono ?_); (case side1 => repeat (first | exact R1.out | (with_reducible refine Kd.C_alloc ?_ _) | (with_reducible refine Kd.C_drewN ?_ _) | (with_reducible refine Kd.C_drew ?_))); (case side2 => exact C1.out); rintro e w2 ⟨rfl, hb⟩; refine ⟨_, rfl, ?_⟩; replace HB := am (below_step (YA HB) hb); (try clear hb)) | ((with_reducible refine gate_dst (N := 4) rfl ?_); refine bxn 4 #[.int .i64 0, .int .i64 0] 24 HB fun g1 w3 K1 G1 hg hb => ?_; replace HB := am (below_step (YA HB) hb); clear hb hg) | ((with_reducible refine gate_dst (N := 5) rfl ?_); refine bxn 5 #[.int .i64 0, .int .i64 0] 24 HB fun g2 w4 K2 G2 hg hb => ?_; obtain ⟨N1,N2⟩ := ne_ hg K1; obtain ⟨K1, HB⟩ := bk1 K1 HB hb; clear hb hg; have z_ := ns1 N1; have z_ := cB2 K1; have z_ := cB2 K2) | ((with_reducible refine gate_callee (f := 23) rfl ?_); refine goesL_ (some 26) rfl rfl Try.func23 (by kernel_rfl) rfl #[.slice A1 l0.length c1] rfl mz ?_; (with_reducible refine (spec_DrawRangeJoin.calls k _ _ l0 t7 t8 t9 t10 _ ?side1 ?side2 A3.out).mono ?_); (case side1 => exact Kd.C_below R1.out (YA HB)); (case side2 => exact C1.out); rintro e w5 ⟨rfl, hb⟩; refine ⟨_, rfl, ?_⟩; replace K1 := am (blk_below (g := g1) (o := b2 t3 t4 24) (by refine fa N1 ?_; refine fa N1 ?_; refine pf ?_; refine blk_put (cs := #[.int .i64 t3, .int .i64 0]) ?_ 1 _ rfl; refine pf ?_; refine blk_put (cs := #[.int .i64 0, .int .i64 0]) ?_ 0 _ rfl; exact Z K1) hb); replace K2 := am (blk_below (g := g2) (o := b2 t5 t6 24) (by refine pf ?_; refine blk_put (cs := #[.int .i64 t5, .int .i64 0]) ?_ 1 _ rfl; refine pf ?_; refine blk_put (cs := #[.int .i64 0, .int .i64 0]) ?_ 0 _ rfl; refine fa N2 ?_; refine fa N2 ?_; exact Z K2) hb); replace HB := am (below_step (YA HB) hb); (try clear hb)) | ((with_reducible refine gate_dst (N := 6) rfl ?_); refine bxn 6 #[.int .i64 0, .int .i64 0] 24 HB fun g3 w6 K3 G3 hg hb => ?_; obtain ⟨N3,N4⟩ := ne_ hg K1; obtain ⟨N5,N6⟩ := ne_ hg K2; obtain ⟨K1, K2, HB⟩ := bk2 K1 K2 HB hb; clear hb hg) | ((with_reducible refine gate_dst (N := 7) rfl ?_); refine bxn 7 #[.int .i64 0, .int .i64 0] 24 HB fun g4 w7 K4 G4 hg hb => ?_; obtain ⟨N7,N8⟩ := ne_ hg K1; obtain ⟨N9,N10⟩ := ne_ hg K2; obtain ⟨N11,N12⟩ := ne_ hg K3; obtain ⟨K1, K2, K3, HB⟩ := bk3 K1 K2 K3 HB hb; clear hb hg; have z_ := ns5 N4 N6 N11 N8 N10; have z_ := cB2 K3; have z_ := cB2 K4; have z_ := cB2 K1; have z_ := cB2 K2) | ((with_reducible refine gate_callee (f := 11) rfl ?_); refine goesL_ (some 33) rfl rfl Try.func11 (by kernel_rfl) rfl #[.int .i64 t2, .agg #[.int .i64 t3, .int .i64 t4], .agg #[.int .i64 t5, .int .i64 t6]] rfl mz ?_; (with_reducible refine (impl_RangeDo.calls _ _ _ _ _ _ _ _ _ _ A4.out).mono ?_); rintro e w8 ⟨v1, rfl, o1, hb⟩; refine ⟨_, rfl, ?_⟩; have O1 := am (Kd.R_lower o1 (below_size (YA HB))); replace K1 := am (blk_below (g := g1) (o := b2 t3 t4 24) (by refine fa N7 ?_; refine fa N7 ?_; refine fa N3 ?_; refine fa N3 ?_; exact Z K1) hb); replace K2 := am (blk_below (g := g2) (o := b2 t5 t6 24) (by refine fa N9 ?_; refine fa N9 ?_; refine fa N5 ?_; refine fa N5 ?_; exact Z K2) hb); replace K3 := am (blk_below (g := g3) (o := b2 t7 t8 24) (by refine fa N11 ?_; refine fa N11 ?_; refine pf ?_; refine blk_put (cs := #[.int .i64 t7, .int .i64 0]) ?_ 1 _ rfl; refine pf ?_; refine blk_put (cs := #[.int .i64 0, .int .i64 0]) ?_ 0 _ rfl; exact Z K3) hb); replace K4 := am (blk_below (g := g4) (o := b2 t9 t10 24) (by refine pf ?_; refine blk_put (cs := #[.int .i64 t9, .int .i64 0]) ?_ 1 _ rfl; refine pf ?_; refine blk_put (cs := #[.int .i64 0, .int .i64 0]) ?_ 0 _ rfl; refine fa N12 ?_; refine fa N12 ?_; exact Z K4) hb); replace HB := am (below_step (YA HB) hb); (try clear hb); (try clear o1)) | ((with_reducible refine gate_dst (N := 8) rfl ?_); refine bxn 8 #[.int .i64 0, .int .i64 0] 24 HB fun g5 w9 K5 G5 hg hb => ?_; obtain ⟨N13,N14⟩ := ne_ hg K1; obtain ⟨N15,N16⟩ := ne_ hg K2; obtain ⟨N17,N18⟩ := ne_ hg K3; obtain ⟨N19,N20⟩ := ne_ hg K4; replace O1 := am (Kd.R_below (RZ O1) hb); obtain ⟨K1, K2, K3, K4, HB⟩ := bk4 K1 K2 K3 K4 HB hb; clear hb hg; have z_ := ns4 N14 N16 N18 N20; have z_ := cB2 K5; have z_ := cB2 K1; have z_ := cB2 K2) | ((with_reducible refine gate_callee (f := 9) rfl ?_); refine goesL_ (some 40) rfl rfl Try.func9 (by kernel_rfl) rfl #[.int .i64 t2, .agg #[.int .i64 t3, .int .i64 t4], .agg #[.int .i64 t5, .int .i64 t6]] rfl mz ?_; (with_reducible refine (spec_RangeDo.calls _ _ _ _ _ _ _ _ _ _ A5.out).mono ?_); rintro e w10 ⟨v2, rfl, o1, hb⟩; refine ⟨_, rfl, ?_⟩; have O2 := am (Kd.R_lower (Kd.R_new' o1 (Kd.R_lt (by (with_reducible repeat (first | apply Kd.R_alloc | apply Kd.R_drewN | apply Kd.R_drew)); exact (Kd.R_mono (Kd.R_far (p := ⟨g5, 1, none⟩) (Kd.R_far (p := ⟨g5, 0, none⟩) (Kd.R_types O1.out K5.out (by decide)) (fun _ hk => hk.2) (.int .i64 t11)) (fun _ hk => hk.2) (.int .i64 t12)) (fun _ h_ => h_.1))))) (below_size (YA HB))); replace O1 := am (Kd.R_elder' (by (with_reducible repeat (first | apply Kd.R_alloc | apply Kd.R_drewN | apply Kd.R_drew)); exact (Kd.R_mono (Kd.R_far (p := ⟨g5, 1, none⟩) (Kd.R_far (p := ⟨g5, 0, none⟩) (Kd.R_types O1.out K5.out (by decide)) (fun _ hk => hk.2) (.int .i64 t11)) (fun _ hk => hk.2) (.int .i64 t12)) (fun _ h_ => h_.1))) (Kd.R_base o1) hb); replace K1 := am (blk_below (g := g1) (o := b2 t3 t4 24) (by refine fa N13 ?_; refine fa N13 ?_; exact Z K1) hb); replace K2 := am (blk_below (g := g2) (o := b2 t5 t6 24) (by refine fa N15 ?_; refine fa N15 ?_; exact Z K2) hb); replace K3 := am (blk_below (g := g3) (o := b2 t7 t8 24) (by refine fa N17 ?_; refine fa N17 ?_; exact Z K3) hb); replace K4 := am (blk_below (g := g4) (o := b2 t9 t10 24) (by refine fa N19 ?_; refine fa N19 ?_; exact Z K4) hb); replace K5 := am (blk_below (g := g5) (o := b2 t11 t12 24) (by refine pf ?_; refine blk_put (cs := #[.int .i64 t11, .int .i64 0]) ?_ 1 _ rfl; refine pf ?_; refine blk_put (cs := #[.int .i64 0, .int .i64 0]) ?_ 0 _ rfl; exact Z K5) hb); replace HB := am (below_step (YA HB) hb); (try clear hb); (try clear o1)) | ((with_reducible refine gate_dst (N := 10) rfl ?_); refine bxn 10 #[.int .i64 0, .int .i64 0] 24 HB fun g6 w11 K6 G6 hg hb => ?_; obtain ⟨N21,N22⟩ := ne_ hg K1; obtain ⟨N23,N24⟩ := ne_ hg K2; obtain ⟨N25,N26⟩ := ne_ hg K3; obtain ⟨N27,N28⟩ := ne_ hg K4; obtain ⟨N29,N30⟩ := ne_ hg K5; replace O1 := am (Kd.R_below (RZ O1) hb); replace O2 := am (Kd.R_below (RZ O2) hb); obtain ⟨K1, K2, K3, K4, K5, HB⟩ := bk5 K1 K2 K3 K4 K5 HB hb; clear hb hg; have z_ := ns5 N22 N24 N26 N28 N30; have z_ := cB2 K6))
  (try simp only [Act.put, List.setIfInBounds_toArray, List.set_cons_zero, List.set_cons_succ])
  go_cut [51] (fun v3 wc => ∃ (kq : Nat) (x1 : Bool), v3 = .bool x1 ∧ Aside0 (laws_FnRangeMore.j0 kq t2 t13 x1 t3 t4 t5 t6 t7 t8 t9 t10 t11 t12 = some r) ∧ Aside0 (kq ≤ k) ∧ Aside0 (Kd.R (Kd.int .i64) 3 wc w.heap.size (fun _ => True) v1 t13) ∧ Bx2 wc g1 t3 t4 24 ∧ Bx2 wc g2 t5 t6 24 ∧ Bx2 wc g3 t7 t8 24 ∧ Bx2 wc g4 t9 t10 24 ∧ Bx2 wc g5 t11 t12 24 ∧ Bx2 wc g6 t14 t15 24 ∧ Aside0 (Below w.heap.size w wc))
  case first =>
   have H := C2.out
   clear C2
   by_cases c3 : (!(t11 == t14) || (!(t12 == t15))) = true
   ·rw [if_pos c3] at H
    have d3 : (!(t11 == t14) || (!(t12 == t15))) = true := c3
    clear c3
    (first | rw [d3] | (simp only [i64_w, i32_w]; rw [d3]) | skip)
    have H' := am H
    clear H
    have z_ := ns9 N14 N16 N18 N20 N29 N22 N24 N26 N28
    have z_ := cB2 K5
    have z_ := cB2 K6
    go_wp2
    go_meet
    case rel => exact ⟨_, (true), ey, H', le0, ⟨by (with_reducible repeat (first | apply Kd.R_alloc | apply Kd.R_drewN | apply Kd.R_drew)); exact Kd.R_mono (Kd.R_far (p := ⟨g6, 1, none⟩) (Kd.R_far (p := ⟨g6, 0, none⟩) (Kd.R_types O1.out K6.out (by decide)) (fun _ hk => hk.2) (.int .i64 t14)) (fun _ hk => hk.2) (.int .i64 t15)) (fun _ hk => trivial)⟩, ⟨by refine fa N21 ?_; refine fa N21 ?_; exact Z K1⟩, ⟨by refine fa N23 ?_; refine fa N23 ?_; exact Z K2⟩, ⟨by refine fa N25 ?_; refine fa N25 ?_; exact Z K3⟩, ⟨by refine fa N27 ?_; refine fa N27 ?_; exact Z K4⟩, ⟨by refine fa N29 ?_; refine fa N29 ?_; exact Z K5⟩, ⟨by refine pf ?_; refine blk_put (cs := #[.int .i64 t14, .int .i64 0]) ?_ 1 _ rfl; refine pf ?_; refine blk_put (cs := #[.int .i64 0, .int .i64 0]) ?_ 0 _ rfl; exact Z K6⟩, ⟨YA HB⟩⟩
   rw [if_neg c3] at H
   have d3 : (!(t11 == t14) || (!(t12 == t15))) = false := by simpa using c3
   clear c3
   (first | rw [d3] | (simp only [i64_w, i32_w]; rw [d3]) | skip)
   obtain ⟨t1, A6, H⟩ := bd H
   try dsimp only at H
   have H' := am H
   clear H
   have z_ := ns9 N14 N16 N18 N20 N29 N22 N24 N26 N28
   have z_ := cB2 K5
   have z_ := cB2 K6
   obtain ⟨q1, f1, e1⟩ := Kd.R_slice O1.out
   subst e1
   obtain ⟨q2, f2, e2⟩ := Kd.R_slice O2.out
   subst e2
   go_wp2_with (first | (go_at_call 20; (with_reducible refine (laws_sameInts.calls k _ _ t13 _ _ t16 t1 _ ?side1 ?side2 ?side3 ?side4 A6.out).mono ?_); (case side1 => refine (Kd.R_reads' (e := 3) (base := w.heap.size) (ok := fun k_ => (True ∧ some k_ ≠ (.slice q2 t16.length f2 : Value).ownBlock)) (n := t13.length) (c := f1) ?_).2.2; exact (by (with_reducible repeat (first | apply Kd.R_alloc | apply Kd.R_drewN | apply Kd.R_drew)); exact (Kd.R_mono (Kd.R_far (p := ⟨g6, 1, none⟩) (Kd.R_far (p := ⟨g6, 0, none⟩) (Kd.R_types O1.out K6.out (by decide)) (fun _ hk => hk.2) (.int .i64 t14)) (fun _ hk => hk.2) (.int .i64 t15)) (fun _ h_ => h_.1)))); (case side2 => exact (Kd.R_reads' O1.out).2.1); (case side3 => refine (Kd.R_reads' (e := 3) (base := w.heap.size) (ok := fun k_ => (True ∧ some k_ ≠ (.slice q1 t13.length f1 : Value).ownBlock)) (n := t16.length) (c := f2) ?_).2.2; exact (by (with_reducible repeat (first | apply Kd.R_alloc | apply Kd.R_drewN | apply Kd.R_drew)); exact (Kd.R_mono (Kd.R_far (p := ⟨g6, 1, none⟩) (Kd.R_far (p := ⟨g6, 0, none⟩) (Kd.R_types O2.out K6.out (by decide)) (fun _ hk => hk.2) (.int .i64 t14)) (fun _ hk => hk.2) (.int .i64 t15)) (fun _ h_ => h_.1)))); (case side4 => exact (Kd.R_reads' O2.out).2.1); rintro e w' ⟨rfl, ⟨nd, rfl⟩⟩))
   go_meet
   case rel => exact ⟨_, (!t1), ey, H', le0, ⟨by (with_reducible repeat (first | apply Kd.R_alloc | apply Kd.R_drewN | apply Kd.R_drew)); exact Kd.R_mono (Kd.R_far (p := ⟨g6, 1, none⟩) (Kd.R_far (p := ⟨g6, 0, none⟩) (Kd.R_types O1.out K6.out (by decide)) (fun _ hk => hk.2) (.int .i64 t14)) (fun _ hk => hk.2) (.int .i64 t15)) (fun _ hk => trivial)⟩, ⟨by refine fa N21 ?_; refine fa N21 ?_; exact Z K1⟩, ⟨by refine fa N23 ?_; refine fa N23 ?_; exact Z K2⟩, ⟨by refine fa N25 ?_; refine fa N25 ?_; exact Z K3⟩, ⟨by refine fa N27 ?_; refine fa N27 ?_; exact Z K4⟩, ⟨by refine fa N29 ?_; refine fa N29 ?_; exact Z K5⟩, ⟨by refine pf ?_; refine blk_put (cs := #[.int .i64 t14, .int .i64 0]) ?_ 1 _ rfl; refine pf ?_; refine blk_put (cs := #[.int .i64 0, .int .i64 0]) ?_ 0 _ rfl; exact Z K6⟩, ⟨YA HB⟩⟩
  case rest =>
   clear C2
   (try clear d1);(try clear d2)
   obtain ⟨kq, x1, rfl, HA, J1, O3, K1, K2, K3, K4, K5, K6, HB⟩ := hcut
   cases kq with
   | zero => exact absurd HA.out (by simp [laws_FnRangeMore.j0])
   | succ k1 =>
    have H := HA.out
    clear HA
    simp only [laws_FnRangeMore.j0] at H
    by_cases c3 : x1 = true
    ·subst c3
     rw [if_pos rfl] at H
     exact absurd H (by simp)
    replace c3 := Bool.eq_false_iff.mpr c3
    subst c3
    rw [if_neg ff] at H
    have C3 := am H
    clear H
    go_upto_region 9 with (fail)
    go_cut [69] (fun v4 wc => ∃ (kq : Nat) (x2 : Bool), v4 = .bool x2 ∧ Aside0 (laws_FnRangeMore.j1 kq t2 t13 x2 t3 t4 t5 t6 t7 t8 t9 t10 t11 t12 = some r) ∧ Aside0 (kq ≤ k1) ∧ Aside0 (Kd.R (Kd.int .i64) 3 wc w.heap.size (fun _ => True) v1 t13) ∧ Bx2 wc g1 t3 t4 24 ∧ Bx2 wc g2 t5 t6 24 ∧ Bx2 wc g3 t7 t8 24 ∧ Bx2 wc g4 t9 t10 24 ∧ Bx2 wc g5 t11 t12 24 ∧ Bx2 wc g6 t14 t15 24 ∧ Aside0 (Below w.heap.size w wc))
    case first =>
     have H := C3.out
     clear C3
     obtain ⟨t17, A6, H⟩ := bd H
     try dsimp only at H
     by_cases c4 : t17 = true
     rotate_left
     ·replace c4 := Bool.eq_false_iff.mpr c4
      subst c4
      rw [if_neg ff] at H
      have H' := am H
      clear H
      have z_ := ns5 N1 N3 N7 N13 N21
      have z_ := cB2 K1
      go_wp2_with (first | ((with_reducible refine gate_callee (f := 24) rfl ?_); refine gL 53 Try.func24 (spec_RangeOk.calls _ _ _ _ A6.out) fun w12 hb => ?_; replace O3 := am (Kd.R_below (RZ O3) hb); obtain ⟨K1, K2, K3, K4, K5, K6, HB⟩ := bk6 K1 K2 K3 K4 K5 K6 HB hb; (try clear hb)))
      go_meet
      case rel => exact ⟨_, (true), ey, H', le1 J1, ⟨by exact RZ O3⟩, ⟨Z K1⟩, ⟨Z K2⟩, ⟨Z K3⟩, ⟨Z K4⟩, ⟨Z K5⟩, ⟨Z K6⟩, ⟨YA HB⟩⟩
     subst c4
     rw [if_pos rfl] at H
     obtain ⟨t18, A7, H⟩ := bd H
     try dsimp only at H
     by_cases c5 : t18 = true
     rotate_left
     ·replace c5 := Bool.eq_false_iff.mpr c5
      subst c5
      rw [if_neg ff] at H
      have H' := am H
      clear H
      have z_ := ns5 N1 N3 N7 N13 N21
      have z_ := cB2 K1
      go_wp2_with (first | ((with_reducible refine gate_callee (f := 24) rfl ?_); refine gL 53 Try.func24 (spec_RangeOk.calls _ _ _ _ A6.out) fun w12 hb => ?_; replace O3 := am (Kd.R_below (RZ O3) hb); obtain ⟨K1, K2, K3, K4, K5, K6, HB⟩ := bk6 K1 K2 K3 K4 K5 K6 HB hb; (try clear hb); have z_ := ns4 N5 N9 N15 N23; have z_ := cB2 K2) | (go_at_call 24; (with_reducible refine (spec_RangeOk.calls _ _ _ _ A7.out).mono ?_); rintro e w13 ⟨rfl, hb⟩; replace O3 := am (Kd.R_below (RZ O3) hb); obtain ⟨K1, K2, K3, K4, K5, K6, HB⟩ := bk6 K1 K2 K3 K4 K5 K6 HB hb; (try clear hb)))
      go_meet
      case rel => exact ⟨_, (true), ey, H', le1 J1, ⟨by exact RZ O3⟩, ⟨Z K1⟩, ⟨Z K2⟩, ⟨Z K3⟩, ⟨Z K4⟩, ⟨Z K5⟩, ⟨Z K6⟩, ⟨YA HB⟩⟩
     subst c5
     rw [if_pos rfl] at H
     obtain ⟨t19, A8, H⟩ := bd H
     try dsimp only at H
     by_cases c6 : t19 = true
     rotate_left
     ·replace c6 := Bool.eq_false_iff.mpr c6
      subst c6
      rw [if_neg ff] at H
      have H' := am H
      clear H
      have z_ := ns5 N1 N3 N7 N13 N21
      have z_ := cB2 K1
      go_wp2_with (first | ((with_reducible refine gate_callee (f := 24) rfl ?_); refine gL 53 Try.func24 (spec_RangeOk.calls _ _ _ _ A6.out) fun w12 hb => ?_; replace O3 := am (Kd.R_below (RZ O3) hb); obtain ⟨K1, K2, K3, K4, K5, K6, HB⟩ := bk6 K1 K2 K3 K4 K5 K6 HB hb; (try clear hb); have z_ := ns4 N5 N9 N15 N23; have z_ := cB2 K2) | (go_at_call 24; (with_reducible refine (spec_RangeOk.calls _ _ _ _ A7.out).mono ?_); rintro e w13 ⟨rfl, hb⟩; replace O3 := am (Kd.R_below (RZ O3) hb); obtain ⟨K1, K2, K3, K4, K5, K6, HB⟩ := bk6 K1 K2 K3 K4 K5 K6 HB hb; (try clear hb); have z_ := ns3 N11 N17 N25; have z_ := cB2 K3) | (go_at_call 24; (with_reducible refine (spec_RangeOk.calls _ _ _ _ A8.out).mono ?_); rintro e w14 ⟨rfl, hb⟩; replace O3 := am (Kd.R_below (RZ O3) hb); obtain ⟨K1, K2, K3, K4, K5, K6, HB⟩ := bk6 K1 K2 K3 K4 K5 K6 HB hb; (try clear hb)))
      go_meet
      case rel => exact ⟨_, (true), ey, H', le1 J1, ⟨by exact RZ O3⟩, ⟨Z K1⟩, ⟨Z K2⟩, ⟨Z K3⟩, ⟨Z K4⟩, ⟨Z K5⟩, ⟨Z K6⟩, ⟨YA HB⟩⟩
     subst c6
     rw [if_pos rfl] at H
     obtain ⟨t20, A9, H⟩ := bd H
     try dsimp only at H
     have H' := am H
     clear H
     have z_ := ns5 N1 N3 N7 N13 N21
     have z_ := cB2 K1
     go_wp2_with (first | ((with_reducible refine gate_callee (f := 24) rfl ?_); refine gL 53 Try.func24 (spec_RangeOk.calls _ _ _ _ A6.out) fun w12 hb => ?_; replace O3 := am (Kd.R_below (RZ O3) hb); obtain ⟨K1, K2, K3, K4, K5, K6, HB⟩ := bk6 K1 K2 K3 K4 K5 K6 HB hb; (try clear hb); have z_ := ns4 N5 N9 N15 N23; have z_ := cB2 K2) | (go_at_call 24; (with_reducible refine (spec_RangeOk.calls _ _ _ _ A7.out).mono ?_); rintro e w13 ⟨rfl, hb⟩; replace O3 := am (Kd.R_below (RZ O3) hb); obtain ⟨K1, K2, K3, K4, K5, K6, HB⟩ := bk6 K1 K2 K3 K4 K5 K6 HB hb; (try clear hb); have z_ := ns3 N11 N17 N25; have z_ := cB2 K3) | (go_at_call 24; (with_reducible refine (spec_RangeOk.calls _ _ _ _ A8.out).mono ?_); rintro e w14 ⟨rfl, hb⟩; replace O3 := am (Kd.R_below (RZ O3) hb); obtain ⟨K1, K2, K3, K4, K5, K6, HB⟩ := bk6 K1 K2 K3 K4 K5 K6 HB hb; (try clear hb); have z_ := ns2 N19 N27; have z_ := cB2 K4) | (go_at_call 24; (with_reducible refine (spec_RangeOk.calls _ _ _ _ A9.out).mono ?_); rintro e w15 ⟨rfl, hb⟩; replace O3 := am (Kd.R_below (RZ O3) hb); obtain ⟨K1, K2, K3, K4, K5, K6, HB⟩ := bk6 K1 K2 K3 K4 K5 K6 HB hb; (try clear hb)))
     go_meet
     case rel => exact ⟨_, (!t20), ey, H', le1 J1, ⟨by exact RZ O3⟩, ⟨Z K1⟩, ⟨Z K2⟩, ⟨Z K3⟩, ⟨Z K4⟩, ⟨Z K5⟩, ⟨Z K6⟩, ⟨YA HB⟩⟩
    case rest =>
     clear C3
     try clear c3
     obtain ⟨kq, x2, rfl, HA, J2, O3, K1, K2, K3, K4, K5, K6, HB⟩ := hcut
     cases kq with
     | zero => exact absurd HA.out (by simp [laws_FnRangeMore.j1])
     | succ k2 =>
      have H := HA.out
      clear HA
      simp only [laws_FnRangeMore.j1] at H
      by_cases c4 : x2 = true
      ·subst c4
       rw [if_pos rfl] at H
       obtain rfl := Option.some.inj H
       go_wp2
       go_ret
       exact ⟨ez, YA HB⟩
      replace c4 := Bool.eq_false_iff.mpr c4
      subst c4
      rw [if_neg ff] at H
      obtain ⟨⟨t17, t18⟩, A6, H⟩ := bd H
      try dsimp only at H
      obtain ⟨⟨t19, t20⟩, A7, H⟩ := bd H
      try dsimp only at H
      obtain ⟨⟨t21, t22, t23⟩, A8, H⟩ := bd H
      try dsimp only at H
      have H' := am H
      clear H
      try go_wp2
      replace O3 := am (Kd.R_drew O3.out)
      obtain ⟨K1, K2, K3, K4, K5, K6, HB⟩ := dk6 K1 K2 K3 K4 K5 K6 HB
      refine start_ (n := 14) (S := fun w' => w'.cell? ⟨g1, 0, none⟩ = some (.int .i64 t3) ∧ w'.cell? ⟨g1, 1, none⟩ = some (.int .i64 t4) ∧ w'.cell? ⟨g3, 0, none⟩ = some (.int .i64 t7) ∧ w'.cell? ⟨g3, 1, none⟩ = some (.int .i64 t8) ∧ w'.cell? ⟨g2, 0, none⟩ = some (.int .i64 t5) ∧ w'.cell? ⟨g2, 1, none⟩ = some (.int .i64 t6) ∧ w'.cell? ⟨g4, 0, none⟩ = some (.int .i64 t9) ∧ w'.cell? ⟨g4, 1, none⟩ = some (.int .i64 t10)) (ds := []) (lb 14 0) (by kernel_rfl) rfl rfl ⟨bc K1 0, bc K1 1, bc K3 0, bc K3 1, bc K2 0, bc K2 1, bc K4 0, bc K4 1⟩ (fun hHeld => ?_); refine with_tabW laws_FnRangeMore.tab11 laws_FnRangeMore.bits11 (fun HT_ HW_ => ?_)
      generalize wc.drew = w12 at O3 K1 K2 K3 K4 K5 K6 HB hHeld ⊢
      refine pk 0 71 1 ?_
      refine tk 1 72 3 hHeld ?_
      refine tk 2 73 7 hHeld ?_
      refine tk 4 75 23 hHeld ?_
      refine tk 5 76 55 hHeld ?_
      refine join_ (σ := Value × Nat) 2 (lb 14 4095) (fun s_ => [(74, .agg #[.int .i64 t17, .int .i64 t18]), (77, .agg #[.int .i64 t19, .int .i64 t20]), (78, .tuple #[.agg #[.int .i64 t21, .int .i64 t22], s_.1]), (12, .pointer (some ⟨s_.2, 0, none⟩)), (70, .tuple #[.agg #[.int .i64 t21, .int .i64 t22], s_.1]), (79, .agg #[.int .i64 t21, .int .i64 t22]), (80, s_.1)]) (fun s_ w' => (w'.cell? ⟨g1, 0, none⟩ = some (.int .i64 t3) ∧ w'.cell? ⟨g1, 1, none⟩ = some (.int .i64 t4) ∧ w'.cell? ⟨g3, 0, none⟩ = some (.int .i64 t7) ∧ w'.cell? ⟨g3, 1, none⟩ = some (.int .i64 t8) ∧ w'.cell? ⟨g2, 0, none⟩ = some (.int .i64 t5) ∧ w'.cell? ⟨g2, 1, none⟩ = some (.int .i64 t6) ∧ w'.cell? ⟨g4, 0, none⟩ = some (.int .i64 t9) ∧ w'.cell? ⟨g4, 1, none⟩ = some (.int .i64 t10)) ∧ (Kd.R (Kd.int .i64) 3 w' w.heap.size (fun k_ => some k_ ≠ (v1 : Value).ownBlock) s_.1 t23) ∧ (Kd.R (Kd.int .i64) 3 w' w.heap.size (fun k_ => some k_ ≠ (s_.1 : Value).ownBlock) v1 t13) ∧ (w'.heap[g1]? = some (.cells #[.int .i64 t3, .int .i64 t4] 24 (0, 0))) ∧ (w'.heap[g2]? = some (.cells #[.int .i64 t5, .int .i64 t6] 24 (0, 0))) ∧ (w'.heap[g3]? = some (.cells #[.int .i64 t7, .int .i64 t8] 24 (0, 0))) ∧ (w'.heap[g4]? = some (.cells #[.int .i64 t9, .int .i64 t10] 24 (0, 0))) ∧ (w'.heap[g5]? = some (.cells #[.int .i64 t11, .int .i64 t12] 24 (0, 0))) ∧ (w'.heap[g6]? = some (.cells #[.int .i64 t14, .int .i64 t15] 24 (0, 0))) ∧ (w'.heap[s_.2]? = some (.cells #[.int .i64 0, .int .i64 0] 24 (0, 0))) ∧ (w.heap.size ≤ s_.2) ∧ (w.heap.size ≤ s_.2) ∧ (g1 ≠ s_.2) ∧ (s_.2 ≠ g1) ∧ (g2 ≠ s_.2) ∧ (s_.2 ≠ g2) ∧ (g3 ≠ s_.2) ∧ (s_.2 ≠ g3) ∧ (g4 ≠ s_.2) ∧ (s_.2 ≠ g4) ∧ (g5 ≠ s_.2) ∧ (s_.2 ≠ g5) ∧ (g6 ≠ s_.2) ∧ (s_.2 ≠ g6) ∧ (Below w.heap.size w w')) ?_ ?_
      rotate_left
      ·intro hCont
       refine two_ (i := 3) (j := 11) (Ni := some 74) (Nj := some 12) (lb 14 63) (lb 14 2103) rfl rfl rfl rfl (two_of HT_.out (by kernel_rfl)) (by decide) (by decide) (fun K hK => ?_) (fun K hK => ?_)
       rotate_left
       ·skip
        refine box_step ?hg (N := 12) ?hd (cs := #[.int .i64 0, .int .i64 0]) (t := 24) ?hr ?_; (case hd => rfl); (case hg => rfl); (case hr => first | (go_simp; done) | (go_simp; rfl))
        intro g7 hg w13 hbox hb
        have K7 := am (hbox)
        have G7 := am (bs hg (YA HB))
        have G8 := am (bs hg (YA HB))
        obtain ⟨N31,N32⟩ := ne_ hg K1
        obtain ⟨N33,N34⟩ := ne_ hg K2
        obtain ⟨N35,N36⟩ := ne_ hg K3
        obtain ⟨N37,N38⟩ := ne_ hg K4
        obtain ⟨N39,N40⟩ := ne_ hg K5
        obtain ⟨N41,N42⟩ := ne_ hg K6
        replace O3 := am (Kd.R_below (RZ O3) hb)
        obtain ⟨K1, K2, K3, K4, K5, K6, HB⟩ := bk6 K1 K2 K3 K4 K5 K6 HB hb
        clear hb hbox hg
        refine kk hK ⟨bc K1 0, bc K1 1, bc K3 0, bc K3 1, bc K2 0, bc K2 1, bc K4 0, bc K4 1⟩ fun hHeld => ?_
        clear hK K
        refine on 3 (some 74) 2111 fun K hK => ?_
        refine gq Try.func25 (spec_RangeJoin.calls _ _ _ _ _ _ _ _ A6.out) fun w14 hb => ?_
        replace O3 := am (Kd.R_below (RZ O3) hb)
        obtain ⟨K1, K2, K3, K4, K5, K6, K7, HB⟩ := bk7 K1 K2 K3 K4 K5 K6 K7 HB hb
        clear hb
        refine kk hK ⟨bc K1 0, bc K1 1, bc K3 0, bc K3 1, bc K2 0, bc K2 1, bc K4 0, bc K4 1⟩ fun hHeld => ?_
        clear hK K
        refine on 6 (some 77) 2175 fun K hK => ?_
        refine gq Try.func25 (spec_RangeJoin.calls _ _ _ _ _ _ _ _ A7.out) fun w15 hb => ?_
        replace O3 := am (Kd.R_below (RZ O3) hb)
        obtain ⟨K1, K2, K3, K4, K5, K6, K7, HB⟩ := bk7 K1 K2 K3 K4 K5 K6 K7 HB hb
        clear hb
        refine kk hK ⟨bc K1 0, bc K1 1, bc K3 0, bc K3 1, bc K2 0, bc K2 1, bc K4 0, bc K4 1⟩ fun hHeld => ?_
        clear hK K
        refine on 7 (some 78) 2303 fun K hK => ?_
        refine goes_ Try.func11 (by kernel_rfl) rfl #[.int .i64 t2, .agg #[.int .i64 t17, .int .i64 t18], .agg #[.int .i64 t19, .int .i64 t20]] (by rfl) rfl rfl mz ?_
        with_reducible refine (impl_RangeDo.calls _ _ _ _ _ _ _ _ _ _ A8.out).mono ?_
        rintro e w16 ⟨v5, rfl, o1, hb⟩
        refine ⟨_, rfl, ?_⟩
        have O4 := am (Kd.R_lower (Kd.R_new' o1 (Kd.R_lt (RZ O3))) (below_size (YA HB)))
        replace O3 := am (Kd.R_elder' (RZ O3) (Kd.R_base o1) hb)
        obtain ⟨K1, K2, K3, K4, K5, K6, K7, HB⟩ := bk7 K1 K2 K3 K4 K5 K6 K7 HB hb
        clear hb
        (try clear o1)
        refine kk hK ⟨bc K1 0, bc K1 1, bc K3 0, bc K3 1, bc K2 0, bc K2 1, bc K4 0, bc K4 1⟩ fun hHeld => ?_
        clear hK K
        refine pk 8 70 2559 ?_
        refine pk 9 79 3071 ?_
        refine pk 10 80 4095 ?_
        exact norm_ (by simp only [putAll, Act.put, List.setIfInBounds_toArray, List.set_cons_zero, List.set_cons_succ]) (hCont (v5, g7) _ ⟨hHeld, (by (with_reducible repeat (first | apply Kd.R_alloc | apply Kd.R_drewN | apply Kd.R_drew)); exact Kd.R_mono O4.out (fun _ hk => hk.2)), (by (with_reducible repeat (first | apply Kd.R_alloc | apply Kd.R_drewN | apply Kd.R_drew)); exact Kd.R_mono O3.out (fun _ hk => hk.2)), (Z K1), (Z K2), (Z K3), (Z K4), (Z K5), (Z K6), (Z K7), G7.out, G8.out, N31.out, N32.out, N33.out, N34.out, N35.out, N36.out, N37.out, N38.out, N39.out, N40.out, N41.out, N42.out, (YA HB)⟩)
       skip
       refine gq Try.func25 (spec_RangeJoin.calls _ _ _ _ _ _ _ _ A6.out) fun w13 hb => ?_
       replace O3 := am (Kd.R_below (RZ O3) hb)
       obtain ⟨K1, K2, K3, K4, K5, K6, HB⟩ := bk6 K1 K2 K3 K4 K5 K6 HB hb
       clear hb
       refine kk hK ⟨bc K1 0, bc K1 1, bc K3 0, bc K3 1, bc K2 0, bc K2 1, bc K4 0, bc K4 1⟩ fun hHeld => ?_
       clear hK K
       refine two_ (i := 6) (j := 11) (Ni := some 77) (Nj := some 12) (lb 14 127) (lb 14 2111) rfl rfl rfl rfl (two_of HT_.out (by kernel_rfl)) (by decide) (by decide) (fun K hK => ?_) (fun K hK => ?_)
       rotate_left
       ·skip
        refine box_step ?hg (N := 12) ?hd (cs := #[.int .i64 0, .int .i64 0]) (t := 24) ?hr ?_; (case hd => rfl); (case hg => rfl); (case hr => first | (go_simp; done) | (go_simp; rfl))
        intro g7 hg w14 hbox hb
        have K7 := am (hbox)
        have G7 := am (bs hg (YA HB))
        have G8 := am (bs hg (YA HB))
        obtain ⟨N31,N32⟩ := ne_ hg K1
        obtain ⟨N33,N34⟩ := ne_ hg K2
        obtain ⟨N35,N36⟩ := ne_ hg K3
        obtain ⟨N37,N38⟩ := ne_ hg K4
        obtain ⟨N39,N40⟩ := ne_ hg K5
        obtain ⟨N41,N42⟩ := ne_ hg K6
        replace O3 := am (Kd.R_below (RZ O3) hb)
        obtain ⟨K1, K2, K3, K4, K5, K6, HB⟩ := bk6 K1 K2 K3 K4 K5 K6 HB hb
        clear hb hbox hg
        refine kk hK ⟨bc K1 0, bc K1 1, bc K3 0, bc K3 1, bc K2 0, bc K2 1, bc K4 0, bc K4 1⟩ fun hHeld => ?_
        clear hK K
        refine on 6 (some 77) 2175 fun K hK => ?_
        refine gq Try.func25 (spec_RangeJoin.calls _ _ _ _ _ _ _ _ A7.out) fun w15 hb => ?_
        replace O3 := am (Kd.R_below (RZ O3) hb)
        obtain ⟨K1, K2, K3, K4, K5, K6, K7, HB⟩ := bk7 K1 K2 K3 K4 K5 K6 K7 HB hb
        clear hb
        refine kk hK ⟨bc K1 0, bc K1 1, bc K3 0, bc K3 1, bc K2 0, bc K2 1, bc K4 0, bc K4 1⟩ fun hHeld => ?_
        clear hK K
        refine on 7 (some 78) 2303 fun K hK => ?_
        refine goes_ Try.func11 (by kernel_rfl) rfl #[.int .i64 t2, .agg #[.int .i64 t17, .int .i64 t18], .agg #[.int .i64 t19, .int .i64 t20]] (by rfl) rfl rfl mz ?_
        with_reducible refine (impl_RangeDo.calls _ _ _ _ _ _ _ _ _ _ A8.out).mono ?_
        rintro e w16 ⟨v5, rfl, o1, hb⟩
        refine ⟨_, rfl, ?_⟩
        have O4 := am (Kd.R_lower (Kd.R_new' o1 (Kd.R_lt (RZ O3))) (below_size (YA HB)))
        replace O3 := am (Kd.R_elder' (RZ O3) (Kd.R_base o1) hb)
        obtain ⟨K1, K2, K3, K4, K5, K6, K7, HB⟩ := bk7 K1 K2 K3 K4 K5 K6 K7 HB hb
        clear hb
        (try clear o1)
        refine kk hK ⟨bc K1 0, bc K1 1, bc K3 0, bc K3 1, bc K2 0, bc K2 1, bc K4 0, bc K4 1⟩ fun hHeld => ?_
        clear hK K
        refine pk 8 70 2559 ?_
        refine pk 9 79 3071 ?_
        refine pk 10 80 4095 ?_
        exact norm_ (by simp only [putAll, Act.put, List.setIfInBounds_toArray, List.set_cons_zero, List.set_cons_succ]) (hCont (v5, g7) _ ⟨hHeld, (by (with_reducible repeat (first | apply Kd.R_alloc | apply Kd.R_drewN | apply Kd.R_drew)); exact Kd.R_mono O4.out (fun _ hk => hk.2)), (by (with_reducible repeat (first | apply Kd.R_alloc | apply Kd.R_drewN | apply Kd.R_drew)); exact Kd.R_mono O3.out (fun _ hk => hk.2)), (Z K1), (Z K2), (Z K3), (Z K4), (Z K5), (Z K6), (Z K7), G7.out, G8.out, N31.out, N32.out, N33.out, N34.out, N35.out, N36.out, N37.out, N38.out, N39.out, N40.out, N41.out, N42.out, (YA HB)⟩)
       skip
       refine gq Try.func25 (spec_RangeJoin.calls _ _ _ _ _ _ _ _ A7.out) fun w14 hb => ?_
       replace O3 := am (Kd.R_below (RZ O3) hb)
       obtain ⟨K1, K2, K3, K4, K5, K6, HB⟩ := bk6 K1 K2 K3 K4 K5 K6 HB hb
       clear hb
       refine kk hK ⟨bc K1 0, bc K1 1, bc K3 0, bc K3 1, bc K2 0, bc K2 1, bc K4 0, bc K4 1⟩ fun hHeld => ?_
       clear hK K
       refine two_ (i := 7) (j := 11) (Ni := some 78) (Nj := some 12) (lb 14 255) (lb 14 2175) rfl rfl rfl rfl (two_of HT_.out (by kernel_rfl)) (by decide) (by decide) (fun K hK => ?_) (fun K hK => ?_)
       rotate_left
       ·skip
        refine box_step ?hg (N := 12) ?hd (cs := #[.int .i64 0, .int .i64 0]) (t := 24) ?hr ?_; (case hd => rfl); (case hg => rfl); (case hr => first | (go_simp; done) | (go_simp; rfl))
        intro g7 hg w15 hbox hb
        have K7 := am (hbox)
        have G7 := am (bs hg (YA HB))
        have G8 := am (bs hg (YA HB))
        obtain ⟨N31,N32⟩ := ne_ hg K1
        obtain ⟨N33,N34⟩ := ne_ hg K2
        obtain ⟨N35,N36⟩ := ne_ hg K3
        obtain ⟨N37,N38⟩ := ne_ hg K4
        obtain ⟨N39,N40⟩ := ne_ hg K5
        obtain ⟨N41,N42⟩ := ne_ hg K6
        replace O3 := am (Kd.R_below (RZ O3) hb)
        obtain ⟨K1, K2, K3, K4, K5, K6, HB⟩ := bk6 K1 K2 K3 K4 K5 K6 HB hb
        clear hb hbox hg
        refine kk hK ⟨bc K1 0, bc K1 1, bc K3 0, bc K3 1, bc K2 0, bc K2 1, bc K4 0, bc K4 1⟩ fun hHeld => ?_
        clear hK K
        refine on 7 (some 78) 2303 fun K hK => ?_
        refine goes_ Try.func11 (by kernel_rfl) rfl #[.int .i64 t2, .agg #[.int .i64 t17, .int .i64 t18], .agg #[.int .i64 t19, .int .i64 t20]] (by rfl) rfl rfl mz ?_
        with_reducible refine (impl_RangeDo.calls _ _ _ _ _ _ _ _ _ _ A8.out).mono ?_
        rintro e w16 ⟨v5, rfl, o1, hb⟩
        refine ⟨_, rfl, ?_⟩
        have O4 := am (Kd.R_lower (Kd.R_new' o1 (Kd.R_lt (RZ O3))) (below_size (YA HB)))
        replace O3 := am (Kd.R_elder' (RZ O3) (Kd.R_base o1) hb)
        obtain ⟨K1, K2, K3, K4, K5, K6, K7, HB⟩ := bk7 K1 K2 K3 K4 K5 K6 K7 HB hb
        clear hb
        (try clear o1)
        refine kk hK ⟨bc K1 0, bc K1 1, bc K3 0, bc K3 1, bc K2 0, bc K2 1, bc K4 0, bc K4 1⟩ fun hHeld => ?_
        clear hK K
        refine pk 8 70 2559 ?_
        refine pk 9 79 3071 ?_
        refine pk 10 80 4095 ?_
        exact norm_ (by simp only [putAll, Act.put, List.setIfInBounds_toArray, List.set_cons_zero, List.set_cons_succ]) (hCont (v5, g7) _ ⟨hHeld, (by (with_reducible repeat (first | apply Kd.R_alloc | apply Kd.R_drewN | apply Kd.R_drew)); exact Kd.R_mono O4.out (fun _ hk => hk.2)), (by (with_reducible repeat (first | apply Kd.R_alloc | apply Kd.R_drewN | apply Kd.R_drew)); exact Kd.R_mono O3.out (fun _ hk => hk.2)), (Z K1), (Z K2), (Z K3), (Z K4), (Z K5), (Z K6), (Z K7), G7.out, G8.out, N31.out, N32.out, N33.out, N34.out, N35.out, N36.out, N37.out, N38.out, N39.out, N40.out, N41.out, N42.out, (YA HB)⟩)
       skip
       refine goes_ Try.func11 (by kernel_rfl) rfl #[.int .i64 t2, .agg #[.int .i64 t17, .int .i64 t18], .agg #[.int .i64 t19, .int .i64 t20]] (by rfl) rfl rfl mz ?_
       with_reducible refine (impl_RangeDo.calls _ _ _ _ _ _ _ _ _ _ A8.out).mono ?_
       rintro e w15 ⟨v5, rfl, o1, hb⟩
       refine ⟨_, rfl, ?_⟩
       have O4 := am (Kd.R_lower (Kd.R_new' o1 (Kd.R_lt (RZ O3))) (below_size (YA HB)))
       replace O3 := am (Kd.R_elder' (RZ O3) (Kd.R_base o1) hb)
       obtain ⟨K1, K2, K3, K4, K5, K6, HB⟩ := bk6 K1 K2 K3 K4 K5 K6 HB hb
       clear hb
       (try clear o1)
       refine kk hK ⟨bc K1 0, bc K1 1, bc K3 0, bc K3 1, bc K2 0, bc K2 1, bc K4 0, bc K4 1⟩ fun hHeld => ?_
       clear hK K
       refine pk 8 70 511 ?_
       refine pk 9 79 1023 ?_
       refine pk 10 80 2047 ?_
       refine on 11 (some 12) 4095 fun K hK => ?_
       refine box_step ?hg (N := 12) ?hd (cs := #[.int .i64 0, .int .i64 0]) (t := 24) ?hr ?_; (case hd => rfl); (case hg => rfl); (case hr => first | (go_simp; done) | (go_simp; rfl))
       intro g7 hg w16 hbox hb
       have K7 := am (hbox)
       have G7 := am (bs hg (YA HB))
       have G8 := am (bs hg (YA HB))
       obtain ⟨N31,N32⟩ := ne_ hg K1
       obtain ⟨N33,N34⟩ := ne_ hg K2
       obtain ⟨N35,N36⟩ := ne_ hg K3
       obtain ⟨N37,N38⟩ := ne_ hg K4
       obtain ⟨N39,N40⟩ := ne_ hg K5
       obtain ⟨N41,N42⟩ := ne_ hg K6
       replace O3 := am (Kd.R_below (RZ O3) hb)
       replace O4 := am (Kd.R_below (RZ O4) hb)
       obtain ⟨K1, K2, K3, K4, K5, K6, HB⟩ := bk6 K1 K2 K3 K4 K5 K6 HB hb
       clear hb hbox hg
       refine kk hK ⟨bc K1 0, bc K1 1, bc K3 0, bc K3 1, bc K2 0, bc K2 1, bc K4 0, bc K4 1⟩ fun hHeld => ?_
       clear hK K
       exact norm_ (by simp only [putAll, Act.put, List.setIfInBounds_toArray, List.set_cons_zero, List.set_cons_succ]) (hCont (v5, g7) _ ⟨hHeld, (by (with_reducible repeat (first | apply Kd.R_alloc | apply Kd.R_drewN | apply Kd.R_drew)); exact Kd.R_mono O4.out (fun _ hk => hk.2)), (by (with_reducible repeat (first | apply Kd.R_alloc | apply Kd.R_drewN | apply Kd.R_drew)); exact Kd.R_mono O3.out (fun _ hk => hk.2)), (Z K1), (Z K2), (Z K3), (Z K4), (Z K5), (Z K6), (Z K7), G7.out, G8.out, N31.out, N32.out, N33.out, N34.out, N35.out, N36.out, N37.out, N38.out, N39.out, N40.out, N41.out, N42.out, (YA HB)⟩)
      rintro ⟨v5, g7⟩ w13 ⟨hS_, h0_, h1_, h2_, h3_, h4_, h5_, h6_, h7_, h8_, h9_, h10_, h11_, h12_, h13_, h14_, h15_, h16_, h17_, h18_, h19_, h20_, h21_, h22_, h23_⟩
      have O4 : Aside0 (Kd.R (Kd.int .i64) 3 w13 w.heap.size (fun k_ => some k_ ≠ (v1 : Value).ownBlock) v5 t23) := ⟨h0_⟩
      have K7 : Bx2 w13 g7 0 0 24 := ⟨h8_⟩
      have G7 : Aside0 (w.heap.size ≤ g7) := ⟨h9_⟩
      have G8 : Aside0 (w.heap.size ≤ g7) := ⟨h10_⟩
      have N31 : Aside0 (g1 ≠ g7) := ⟨h11_⟩
      have N32 : Aside0 (g7 ≠ g1) := ⟨h12_⟩
      have N33 : Aside0 (g2 ≠ g7) := ⟨h13_⟩
      have N34 : Aside0 (g7 ≠ g2) := ⟨h14_⟩
      have N35 : Aside0 (g3 ≠ g7) := ⟨h15_⟩
      have N36 : Aside0 (g7 ≠ g3) := ⟨h16_⟩
      have N37 : Aside0 (g4 ≠ g7) := ⟨h17_⟩
      have N38 : Aside0 (g7 ≠ g4) := ⟨h18_⟩
      have N39 : Aside0 (g5 ≠ g7) := ⟨h19_⟩
      have N40 : Aside0 (g7 ≠ g5) := ⟨h20_⟩
      have N41 : Aside0 (g6 ≠ g7) := ⟨h21_⟩
      have N42 : Aside0 (g7 ≠ g6) := ⟨h22_⟩
      replace O3 : Aside0 (Kd.R (Kd.int .i64) 3 w13 w.heap.size (fun k_ => some k_ ≠ (v5 : Value).ownBlock) v1 t13) := ⟨h1_⟩
      replace K1 : Bx2 w13 g1 t3 t4 24 := ⟨h2_⟩
      replace K2 : Bx2 w13 g2 t5 t6 24 := ⟨h3_⟩
      replace K3 : Bx2 w13 g3 t7 t8 24 := ⟨h4_⟩
      replace K4 : Bx2 w13 g4 t9 t10 24 := ⟨h5_⟩
      replace K5 : Bx2 w13 g5 t11 t12 24 := ⟨h6_⟩
      replace K6 : Bx2 w13 g6 t14 t15 24 := ⟨h7_⟩
      replace HB : Aside0 (Below w.heap.size w w13) := ⟨h23_⟩
      clear h0_ h1_ h2_ h3_ h4_ h5_ h6_ h7_ h8_ h9_ h10_ h11_ h12_ h13_ h14_ h15_ h16_ h17_ h18_ h19_ h20_ h21_ h22_ h23_
      have hHeld : w13.cell? ⟨g1, 0, none⟩ = some (.int .i64 t3) ∧ w13.cell? ⟨g1, 1, none⟩ = some (.int .i64 t4) ∧ w13.cell? ⟨g3, 0, none⟩ = some (.int .i64 t7) ∧ w13.cell? ⟨g3, 1, none⟩ = some (.int .i64 t8) ∧ w13.cell? ⟨g2, 0, none⟩ = some (.int .i64 t5) ∧ w13.cell? ⟨g2, 1, none⟩ = some (.int .i64 t6) ∧ w13.cell? ⟨g4, 0, none⟩ = some (.int .i64 t9) ∧ w13.cell? ⟨g4, 1, none⟩ = some (.int .i64 t10) := hS_
      refine norm_ (a' := ?_) ?_ ?_
      rotate_left
      ·simp only [putAll, Act.put, List.setIfInBounds_toArray, List.set_cons_zero, List.set_cons_succ]
       rfl
      refine on 12 none 8191 fun K hK => ?_
      have s1 : w13.cell? ⟨g7, 0, none⟩ = some (.int .i64 0) := bc K7 0
      have hfs148 := blk_frozen K7.out 0
      have z_ := ns10 N31 N33 N35 N37 N39 N41 N32 N34 N36 N38
      have z_ := ns2 N40 N42
      have s2 : w13.cell? ⟨g7, 1, none⟩ = some (.int .i64 0) := bc K7 1
      have hfs149 := blk_frozen K7.out 1
      have z_ := ns10 N31 N33 N35 N37 N39 N41 N32 N34 N36 N38
      have z_ := ns2 N40 N42
      refine skip_ (w1 := ?_) (by rfl) rfl ?_ ?_
      rotate_left
      ·go_simp
       rfl
      refine hK.out _ _ ⟨((cell_far (p := ⟨g7, _, none⟩) N31.out _).trans (((cell_far (p := ⟨g7, _, none⟩) N31.out _).trans (hHeld.1)))), ((cell_far (p := ⟨g7, _, none⟩) N31.out _).trans (((cell_far (p := ⟨g7, _, none⟩) N31.out _).trans (hHeld.2.1)))), ((cell_far (p := ⟨g7, _, none⟩) N35.out _).trans (((cell_far (p := ⟨g7, _, none⟩) N35.out _).trans (hHeld.2.2.1)))), ((cell_far (p := ⟨g7, _, none⟩) N35.out _).trans (((cell_far (p := ⟨g7, _, none⟩) N35.out _).trans (hHeld.2.2.2.1)))), ((cell_far (p := ⟨g7, _, none⟩) N33.out _).trans (((cell_far (p := ⟨g7, _, none⟩) N33.out _).trans (hHeld.2.2.2.2.1)))), ((cell_far (p := ⟨g7, _, none⟩) N33.out _).trans (((cell_far (p := ⟨g7, _, none⟩) N33.out _).trans (hHeld.2.2.2.2.2.1)))), ((cell_far (p := ⟨g7, _, none⟩) N37.out _).trans (((cell_far (p := ⟨g7, _, none⟩) N37.out _).trans (hHeld.2.2.2.2.2.2.1)))), ((cell_far (p := ⟨g7, _, none⟩) N37.out _).trans (((cell_far (p := ⟨g7, _, none⟩) N37.out _).trans (hHeld.2.2.2.2.2.2.2))))⟩ (fun hHeld => ?_)
      clear hK K
      refine pk 13 13 16383 ?_
      refine done_ (done_of HT_.out (by kernel_rfl)) ?_
      try go_wp2
      go_loopg [14] k2 (fun kq v6 w' => ∃ (x3 : Int), v6 = .int .i64 x3 ∧ Aside0 (laws_FnRangeMore.l0 kq t13 t23 x3 t11 t12 t21 t22 = some r) ∧ Aside0 (kq ≤ k2) ∧ Aside0 (Kd.R (Kd.int .i64) 3 w' w.heap.size (fun k_ => some k_ ≠ (v5 : Value).ownBlock) v1 t13) ∧ Aside0 (Kd.R (Kd.int .i64) 3 w' w.heap.size (fun k_ => some k_ ≠ (v1 : Value).ownBlock) v5 t23) ∧ Aside0 (w'.heap[g1]? = some (.cells #[.int .i64 t3, .int .i64 t4] 24 (0, 0))) ∧ Aside0 (w'.heap[g2]? = some (.cells #[.int .i64 t5, .int .i64 t6] 24 (0, 0))) ∧ Aside0 (w'.heap[g3]? = some (.cells #[.int .i64 t7, .int .i64 t8] 24 (0, 0))) ∧ Aside0 (w'.heap[g4]? = some (.cells #[.int .i64 t9, .int .i64 t10] 24 (0, 0))) ∧ Aside0 (w'.heap[g5]? = some (.cells #[.int .i64 t11, .int .i64 t12] 24 (0, 0))) ∧ Aside0 (w'.heap[g6]? = some (.cells #[.int .i64 t14, .int .i64 t15] 24 (0, 0))) ∧ Aside0 (w'.heap[g7]? = some (.cells #[.int .i64 t21, .int .i64 t22] 24 (0, 0))) ∧ Aside0 (Below w.heap.size w w'))
      case atStart => exact ⟨(0), ey, H', ⟨Nat.le_refl _⟩, ⟨by (with_reducible repeat (first | apply Kd.R_alloc | apply Kd.R_drewN | apply Kd.R_drew)); exact Kd.R_mono (Kd.R_far (p := ⟨g7, 1, none⟩) (Kd.R_far (p := ⟨g7, 0, none⟩) (Kd.R_types O3.out K7.out (by decide)) (fun _ hk => hk.2) (.int .i64 t21)) (fun _ hk => hk.2) (.int .i64 t22)) (fun _ hk => hk.1)⟩, ⟨by (with_reducible repeat (first | apply Kd.R_alloc | apply Kd.R_drewN | apply Kd.R_drew)); exact Kd.R_mono (Kd.R_far (p := ⟨g7, 1, none⟩) (Kd.R_far (p := ⟨g7, 0, none⟩) (Kd.R_types O4.out K7.out (by decide)) (fun _ hk => hk.2) (.int .i64 t21)) (fun _ hk => hk.2) (.int .i64 t22)) (fun _ hk => hk.1)⟩, ⟨by refine fa N31 ?_; refine fa N31 ?_; exact Z K1⟩, ⟨by refine fa N33 ?_; refine fa N33 ?_; exact Z K2⟩, ⟨by refine fa N35 ?_; refine fa N35 ?_; exact Z K3⟩, ⟨by refine fa N37 ?_; refine fa N37 ?_; exact Z K4⟩, ⟨by refine fa N39 ?_; refine fa N39 ?_; exact Z K5⟩, ⟨by refine fa N41 ?_; refine fa N41 ?_; exact Z K6⟩, ⟨by refine pf ?_; refine blk_put (cs := #[.int .i64 t21, .int .i64 0]) ?_ 1 _ rfl; refine pf ?_; refine blk_put (cs := #[.int .i64 0, .int .i64 0]) ?_ 0 _ rfl; exact Z K7⟩, ⟨YA HB⟩⟩
      case round =>
       clear H'
       obtain ⟨x3, rfl, HA, HK3, O3, O5, K1, K2, K3, K4, K5, K6, K7, HB⟩ := hrel
       cases gk with
       | zero => exact absurd HA.out (by simp [laws_FnRangeMore.l0])
       | succ k3 =>
        have H := HA.out
        clear HA
        simp only [laws_FnRangeMore.l0] at H
        by_cases c5 : x3 < (t13.length : Int)
        ·rw [if_pos c5] at H
         have d3 := dT c5
         clear c5
         by_cases c6 : 0 ≤ x3
         rotate_left
         ·rw [if_neg c6] at H
          exact absurd H (by simp)
         rw [if_pos c6] at H
         have d4 := dT c6
         clear c6
         obtain ⟨t24, A9, H⟩ := bd H
         try dsimp only at H
         by_cases c7 : t24 = true
         rotate_left
         ·replace c7 := Bool.eq_false_iff.mpr c7
          subst c7
          rw [if_neg ff] at H
          exact absurd H (by simp)
         subst c7
         rw [if_pos rfl] at H
         have H' := am H
         clear H
         obtain ⟨q1, f1, e1⟩ := Kd.R_slice O3.out
         subst e1
         have p670 : 0 ≤ (x3 : Int) := oz
         have q670 : x3 < (t13.length : Int) := oz
         obtain ⟨ad670, e670, hx670_0⟩ := Kd.at_int (Kd.R_reads' O3.out).2.2 x3 p670 q670
         cases e670
         replace p670 := eq_true p670
         replace q670 := eq_true q670
         obtain ⟨q2, f2, e2⟩ := Kd.R_slice O5.out
         subst e2
         go_wp2_with (first | ((with_reducible refine gate_callee (f := 26) rfl ?_); refine goesL_ (some 92) rfl rfl Try.func26 (by kernel_rfl) rfl #[.slice q2 t23.length f2, .int .i64 (rd t13 x3)] rfl mz ?_; (with_reducible refine (laws_has.calls k3 _ _ t23 (rd t13 x3) true _ ?side1 ?side2 A9.out).mono ?_); (case side1 => repeat (first | exact (Kd.R_reads' O5.out).2.2 | (with_reducible refine Kd.C_alloc ?_ _) | (with_reducible refine Kd.C_drewN ?_ _) | (with_reducible refine Kd.C_drew ?_))); (case side2 => exact (Kd.R_reads' O5.out).2.1); rintro e w' ⟨rfl, ⟨nd, rfl⟩⟩; refine ⟨_, rfl, ?_⟩))
         go_roundg k3
         case measure => have := J1.out; have := J2.out; have := HK3.out; omega
         case rel => exact ⟨(wrap64 (x3 + 1)), ey, H', ⟨by have := J1.out; have := J2.out; have := HK3.out; omega⟩, ⟨by exact RZ O3⟩, ⟨by exact RZ O5⟩, ⟨Z K1⟩, ⟨Z K2⟩, ⟨Z K3⟩, ⟨Z K4⟩, ⟨Z K5⟩, ⟨Z K6⟩, ⟨Z K7⟩, ⟨YA HB⟩⟩
        rw [if_neg c5] at H
        have d3 := dF c5
        clear c5
        obtain ⟨t24, A9, H⟩ := bd H
        try dsimp only at H
        obtain rfl := Option.some.inj H
        obtain ⟨q1, f1, e1⟩ := Kd.R_slice O3.out
        subst e1
        have z_ := ns10 N14 N16 N18 N20 N29 N39 N32 N34 N36 N38
        have z_ := ns1 N42
        have z_ := cB2 K5
        have z_ := cB2 K7
        go_wp2_with (first | ((with_reducible refine gate_callee (f := 27) rfl ?_); refine gL 96 Try.func27 (impl_RangeIn.calls _ _ _ _ _ _ A9.out) fun w14 hb => ?_; replace O3 := am (Kd.R_below (RZ O3) hb); replace O5 := am (Kd.R_below (RZ O5) hb); obtain ⟨K1, K2, K3, K4, K5, K6, K7, HB⟩ := bk7 K1 K2 K3 K4 K5 K6 K7 HB hb; (try clear hb)))
        go_ret
        exact ⟨ez, YA HB⟩
 -- THE ONE PURE STATEMENT of laws_FnRangeMore: yours. -/
def laws_FnRangeMore.Pure : Prop := ∀ (l0 : List Int), l0.length ≤ maxLen → l0.length * 1 ≤ 140737488351232 → (∀ x ∈ l0, (Lit.int .u8 x).wf = true) → ∃ k, laws_FnRangeMore.f k l0 = some true
theorem laws_FnRangeMore.walk (P : laws_FnRangeMore.Pure) (a0 : Option Addr) (len0 cap0 : Nat) (z0 : List Int) (w : World) (w0 : (a0 = none ∧ len0 = 0 ∧ cap0 = 0 ∧ z0 = []) ∨ ∃ x, a0 = some x ∧ len0 ≤ cap0 ∧ cap0 ≤ maxLen ∧ z0.length = cap0 ∧ (∀ i, i < z0.length → w.cell? (x.add i) = some (.int .u8 (z0.getD i 0))) ∧ ∀ n ∈ z0, (Lit.int .u8 n).wf = true) (y0 : len0 * 1 ≤ 140737488351232) :
  Calls Try.prog 6 #[.slice a0 len0 cap0] w fun e w' => e = .returned (.bool true) ∧ Below w.heap.size w w' := by
 obtain ⟨l0, rfl, hr0, hm0, hw0, hc0⟩ := ReadsInt.ofRowC w0
 obtain ⟨k, h⟩ := P l0 hm0 y0 hw0
 refine (laws_FnRangeMore.calls k _ _ l0 true w (Kd.C_of_reads (d := (0 : Int)) (h1 := fun _ => rfl) hr0) hc0 h).mono ?_
 rintro e w' ⟨rfl, hd⟩
 exact ⟨rfl, hd⟩

end Go.Proofs.Ythbkakcchgnhpaa.PFnRangeMore
