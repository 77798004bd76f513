/- Written by this session's own driver (wip/dprint.py): the functions that the law FnRangeMore reaches, as Lean functions, each with its contract. -/
import Derived.Test.YthbkakcchgnhpaaPFnRangeMorex0
import Derived.Test.YthbkakcchgnhpaaPFnRangeMorex12
import Derived.Test.YthbkakcchgnhpaaPFnRangeMorex14
import Derived.Test.YthbkakcchgnhpaaPFnRangeMorex15
import Derived.Test.YthbkakcchgnhpaaPFnRangeMorex16
import Derived.Test.YthbkakcchgnhpaaSv
namespace Go.Proofs.Ythbkakcchgnhpaa.PFnRangeMore
open Go.RowKit Go.Proofs.YthbkakcchgnhpaaV.PrintWords Go.Proofs.YthbkakcchgnhpaaV.PrintLast Go.Proofs.YthbkakcchgnhpaaV.PrintMore Go.Proofs.YthbkakcchgnhpaaSv
attribute [local go_sem] max2_int min2_int max_two min_two max_three min_three max_four min_four   -- for this text's walks alone
set_option linter.unusedVariables false
set_option linter.unusedSimpArgs false

/-! ### impl_rangeDiv: function 53 -/
attribute [local go_sem] Go.Proofs.YthbkakcchgnhpaaSet.isSome_setCell
mutual
def impl_rangeDiv.l0 : Nat → Int → Int → Bool → Int → Int → Int → Int → Int → Int → Int → Int → Int → Option (Int × Int × List Int)
 | 0, _, _, _, _, _, _, _, _, _, _, _, _ => none
 | k + 1, x1, x2, x3, x4, x5, x6, x7, x8, x9, x10, x11, x12 => if x4 < 2 then (if x4 = 0 then ((impl_Range_empty.f x9 x10).bind fun t1 => (if t1 = true then (impl_rangeDiv.l0 k x1 x2 x3 (wrap64 (x4 + 1)) x5 x6 x7 x8 x9 x10 x11 x12) else ((impl_rangeCorners.f k 4 x5 x6 x9 x10).bind fun u1 => (if x3 = true then (impl_rangeDiv.l0 k (mn u1.1 x1) (mx u1.2 x2) true (wrap64 (x4 + 1)) x5 x6 x7 x8 x9 x10 x11 x12) else (impl_rangeDiv.l0 k u1.1 u1.2 true (wrap64 (x4 + 1)) x5 x6 x7 x8 x9 x10 x11 x12))))) else (if x4 = 1 then ((impl_Range_empty.f x11 x12).bind fun t2 => (if t2 = true then (impl_rangeDiv.l0 k x1 x2 x3 (wrap64 (x4 + 1)) x5 x6 x7 x8 x9 x10 x11 x12) else ((impl_rangeCorners.f k 4 x5 x6 x11 x12).bind fun u2 => (if x3 = true then (impl_rangeDiv.l0 k (mn u2.1 x1) (mx u2.2 x2) true (wrap64 (x4 + 1)) x5 x6 x7 x8 x9 x10 x11 x12) else (impl_rangeDiv.l0 k u2.1 u2.2 true (wrap64 (x4 + 1)) x5 x6 x7 x8 x9 x10 x11 x12))))) else (none))) else ((impl_rangeNone.f).bind fun u3 => (if x3 = true then ((impl_rangeFrom.f x1 x2).bind fun u4 => (impl_rangeDiv.j1 k x5 x6 x7 x8 u4.1 u4.2)) else (impl_rangeDiv.j1 k x5 x6 x7 x8 u3.1 u3.2)))
def impl_rangeDiv.j1 : Nat → Int → Int → Int → Int → Int → Int → Option (Int × Int × List Int)
 | 0, _, _, _, _, _, _ => none
 | k + 1, x1, x2, x3, x4, x5, x6 => (impl_RangeHas.f x1 x2 (-2147483648)).bind fun t1 => (if t1 = true then ((impl_RangeHas.f x3 x4 (-1)).bind fun t2 => (impl_rangeDiv.j2 k ([] : List Int) t2 x3 x4 x5 x6)) else (impl_rangeDiv.j2 k ([] : List Int) false x3 x4 x5 x6))
def impl_rangeDiv.j2 : Nat → List Int → Bool → Int → Int → Int → Int → Option (Int × Int × List Int)
 | 0, _, _, _, _, _, _ => none
 | k + 1, x1, x2, x3, x4, x5, x6 => if x2 = true then (if x1.length < 17592186044416 then ((some (x1 ++ [1] : List Int)).bind fun y1 => ((impl_RangeHas.f x3 x4 0).bind fun t1 => (if t1 = true then (if y1.length < 17592186044416 then (some (x5, x6, (y1 ++ [2]))) else (none)) else (some (x5, x6, y1))))) else (none)) else ((impl_RangeHas.f x3 x4 0).bind fun t2 => (if t2 = true then (if x1.length < 17592186044416 then (some (x5, x6, (x1 ++ [2]))) else (none)) else (some (x5, x6, x1))))
end
def impl_rangeDiv.f (k : Nat) (a0_0 : Int) (a0_1 : Int) (a1_0 : Int) (a1_1 : Int) : Option (Int × Int × List Int) := (impl_rangeSides.f k a1_0 a1_1).bind fun u1 => (impl_rangeDiv.l0 k 0 0 false 0 a0_0 a0_1 a1_0 a1_1 u1.1 u1.2.1 u1.2.2.1 u1.2.2.2)
theorem impl_rangeDiv.mono_l : ∀ k, (∀ y0 y1 y2 y3 y4 y5 y6 y7 y8 y9 y10 y11, LeO (impl_rangeDiv.l0 k y0 y1 y2 y3 y4 y5 y6 y7 y8 y9 y10 y11) (impl_rangeDiv.l0 (k + 1) y0 y1 y2 y3 y4 y5 y6 y7 y8 y9 y10 y11)) ∧ (∀ y0 y1 y2 y3 y4 y5, LeO (impl_rangeDiv.j1 k y0 y1 y2 y3 y4 y5) (impl_rangeDiv.j1 (k + 1) y0 y1 y2 y3 y4 y5)) ∧ (∀ y0 y1 y2 y3 y4 y5, LeO (impl_rangeDiv.j2 k y0 y1 y2 y3 y4 y5) (impl_rangeDiv.j2 (k + 1) y0 y1 y2 y3 y4 y5))
 | 0 => ⟨fun _ _ _ _ _ _ _ _ _ _ _ _ r h => by simp [impl_rangeDiv.l0] at h, fun _ _ _ _ _ _ r h => by simp [impl_rangeDiv.j1] at h, fun _ _ _ _ _ _ r h => by simp [impl_rangeDiv.j2] at h⟩
 | k + 1 => by
  obtain ⟨ih0, ih1, ih2⟩ := impl_rangeDiv.mono_l k
  refine ⟨?_, ?_, ?_⟩ <;> (intros; (first | unfold impl_rangeDiv.l0 | unfold impl_rangeDiv.j1 | unfold impl_rangeDiv.j2); repeat' first | (with_reducible first | apply ih0 | apply ih1 | apply ih2 | apply impl_rangeCorners.mono | apply impl_rangeSides.mono | apply LeO.refl | apply LeO.none | refine LeO.ite ?_ ?_ | refine LeO.bind ?_ (fun _ => ?_)) | apply ih0 | apply ih1 | apply ih2 | apply impl_rangeCorners.mono | apply impl_rangeSides.mono | apply LeO.none | refine LeO.ite ?_ ?_ | refine LeO.bind ?_ (fun _ => ?_))
theorem impl_rangeDiv.mono : ∀ a0 a1 a2 a3 k, LeO (impl_rangeDiv.f k a0 a1 a2 a3) (impl_rangeDiv.f (k + 1) a0 a1 a2 a3) := by
 intro a0 a1 a2 a3 k
 obtain ⟨ih0, ih1, ih2⟩ := impl_rangeDiv.mono_l k
 unfold impl_rangeDiv.f
 repeat' first | (with_reducible first | apply ih0 | apply ih1 | apply ih2 | apply impl_rangeCorners.mono | apply impl_rangeSides.mono | apply LeO.refl | apply LeO.none | refine LeO.ite ?_ ?_ | refine LeO.bind ?_ (fun _ => ?_)) | apply ih0 | apply ih1 | apply ih2 | apply impl_rangeCorners.mono | apply impl_rangeSides.mono | apply LeO.none | refine LeO.ite ?_ ?_ | refine LeO.bind ?_ (fun _ => ?_)
set_option maxHeartbeats 8000000 in
set_option maxRecDepth 100000 in
theorem impl_rangeDiv.calls (k : Nat) (a0_0 : Int) (a0_1 : Int) (a1_0 : Int) (a1_1 : Int) (r1 : Int) (r2 : Int) (r3 : List Int) (w : World) (h : impl_rangeDiv.f k a0_0 a0_1 a1_0 a1_1 = some (r1, r2, r3)) :
  Calls Try.prog 53 #[.agg #[.int .i64 a0_0, .int .i64 a0_1], .agg #[.int .i64 a1_0, .int .i64 a1_1]] w fun e w' => ∃ v2_ : Value, e = .returned (.tuple #[.agg #[.int .i64 r1, .int .i64 r2], v2_]) ∧ Kd.R (Kd.int .i64) 3 w' w.heap.size (fun _ => True) v2_ r3 ∧ Below w.heap.size w w' := by
 have hu24 := Try.underlying24
 have HB := am (Below.refl w.heap.size w)
 have H : ((impl_rangeSides.f k a1_0 a1_1).bind fun u1 => (impl_rangeDiv.l0 k 0 0 false 0 a0_0 a0_1 a1_0 a1_1 u1.1 u1.2.1 u1.2.2.1 u1.2.2.2)) = some (r1, r2, r3) := h
 clear h
 obtain ⟨⟨t1, t2, t3, t4⟩, A1, H⟩ := bd H
 try dsimp only at H
 have H' := am H
 clear H
 go_enter Try.func53, Try.ntmps53
 go_wp2_with (first | ((with_reducible refine gate_dst (N := 2) rfl ?_); refine bxn 2 #[.int .i64 a0_0, .int .i64 a0_1] 24 HB fun g1 w1 K1 G1 hg hb => ?_; replace HB := am (below_step (YA HB) hb); clear hb hg) | ((with_reducible refine gate_dst (N := 3) rfl ?_); refine bxn 3 #[.int .i64 a1_0, .int .i64 a1_1] 24 HB fun g2 w2 K2 G2 hg hb => ?_; obtain ⟨N1,N2⟩ := ne_ hg K1; obtain ⟨K1, HB⟩ := bk1 K1 HB hb; clear hb hg) | ((with_reducible refine gate_dst (N := 4) rfl ?_); refine bxn 4 #[.int .i64 0, .int .i64 0] 24 HB fun g3 w3 K3 G3 hg hb => ?_; obtain ⟨N3,N4⟩ := ne_ hg K1; obtain ⟨N5,N6⟩ := ne_ hg K2; obtain ⟨K1, K2, HB⟩ := bk2 K1 K2 HB hb; clear hb hg; have z_ := ns2 N2 N5; have z_ := cB2 K2) | ((with_reducible refine gate_callee (f := 94) rfl ?_); refine gL 16 Try.func94 (impl_rangeSides.calls _ _ _ _ _ _ _ _ A1.out) fun w4 hb => ?_; obtain ⟨K1, K2, K3, HB⟩ := bk3 K1 K2 K3 HB hb; (try clear hb)))
 go_loopg [6, 7, 8, 17] k (fun kq v1 v2 v3 v4 w' => ∃ (x1 : Int) (x2 : Int) (x3 : Bool) (x4 : Int), v1 = .int .i64 x1 ∧ v2 = .int .i64 x2 ∧ v3 = .bool x3 ∧ v4 = .int .i64 x4 ∧ Aside0 (impl_rangeDiv.l0 kq x1 x2 x3 x4 a0_0 a0_1 a1_0 a1_1 t1 t2 t3 t4 = some (r1, r2, r3)) ∧ Aside0 (kq ≤ k) ∧ Aside0 (w'.heap[g1]? = some (.cells #[.int .i64 a0_0, .int .i64 a0_1] 24 (0, 0))) ∧ Aside0 (w'.heap[g2]? = some (.cells #[.int .i64 a1_0, .int .i64 a1_1] 24 (0, 0))) ∧ Aside0 (w'.heap[g3]? = some (.cells #[.int .i64 0, .int .i64 0] 24 (0, 0))) ∧ Aside0 (Below w.heap.size w w'))
 case atStart => exact ⟨(0), (0), (false), (0), ey, ey, ey, ey, H', ⟨Nat.le_refl _⟩, ⟨Z K1⟩, ⟨Z K2⟩, ⟨Z K3⟩, ⟨YA HB⟩⟩
 case round =>
  clear H'
  obtain ⟨x1, x2, x3, x4, rfl, rfl, rfl, rfl, HA, HK1, K1, K2, K3, HB⟩ := hrel
  cases gk with
  | zero => exact absurd HA.out (by simp [impl_rangeDiv.l0])
  | succ k1 =>
   have H := HA.out
   clear HA
   simp only [impl_rangeDiv.l0] at H
   by_cases c1 : x4 < 2
   ·rw [if_pos c1] at H
    have d1 := dT c1
    clear c1
    by_cases c2 : x4 = 0
    ·rw [if_pos c2] at H
     have hix12 : ∀ w', (Instr.index 96 (.agg #[.int .i64 t1, .int .i64 t2, .int .i64 t3, .int .i64 t4]) (.int .i64 x4)).run Try.prog w' = .ok (.agg #[.int .i64 t1, .int .i64 t2]) w' := by intro w'; rw [c2]; first | (go_simp; done) | (go_simp; rfl) | rfl
     have d2 := eT c2
     have d3 := nF c2
     clear c2
     obtain ⟨t5, A2, H⟩ := bd H
     try dsimp only at H
     by_cases c3 : t5 = true
     ·subst c3
      rw [if_pos rfl] at H
      have H' := am H
      clear H
      go_wp2_with (first | ((with_reducible refine gate_dst (N := 10) rfl ?_); refine bxn 10 #[.int .i64 0, .int .i64 0] 24 HB fun g4 w5 K4 G4 hg hb => ?_; obtain ⟨N7,N8⟩ := ne_ hg K1; obtain ⟨N9,N10⟩ := ne_ hg K2; obtain ⟨N11,N12⟩ := ne_ hg K3; obtain ⟨K1, K2, K3, HB⟩ := bk3 K1 K2 K3 HB hb; clear hb hg; have z_ := ns3 N8 N10 N12; have z_ := cB2 K4) | ((with_reducible refine gate_callee (f := 47) rfl ?_); refine gL 21 Try.func47 (impl_Range_empty.calls _ _ _ _ A2.out) fun w6 hb => ?_; replace K1 := am (blk_below (g := g1) (o := b2 a0_0 a0_1 24) (by refine fa N7 ?_; refine fa N7 ?_; exact Z K1) hb); replace K2 := am (blk_below (g := g2) (o := b2 a1_0 a1_1 24) (by refine fa N9 ?_; refine fa N9 ?_; exact Z K2) hb); replace K3 := am (blk_below (g := g3) (o := b2 0 0 24) (by refine fa N11 ?_; refine fa N11 ?_; exact Z K3) hb); replace K4 := am (blk_below (g := g4) (o := b2 t1 t2 24) (by refine pf ?_; refine blk_put (cs := #[.int .i64 t1, .int .i64 0]) ?_ 1 _ rfl; refine pf ?_; refine blk_put (cs := #[.int .i64 0, .int .i64 0]) ?_ 0 _ rfl; exact Z K4) hb); replace HB := am (below_step (YA HB) hb); (try clear hb)))
      go_roundg k1
      case measure => have := HK1.out; omega
      case rel => exact ⟨(x1), (x2), (x3), (wrap64 (x4 + 1)), ey, ey, ey, ey, H', ⟨by have := HK1.out; omega⟩, ⟨Z K1⟩, ⟨Z K2⟩, ⟨Z K3⟩, ⟨YA HB⟩⟩
     replace c3 := Bool.eq_false_iff.mpr c3
     subst c3
     rw [if_neg ff] at H
     obtain ⟨⟨t6, t7⟩, A3, H⟩ := bd H
     try dsimp only at H
     by_cases c4 : x3 = true
     rotate_left
     ·replace c4 := Bool.eq_false_iff.mpr c4
      subst c4
      rw [if_neg ff] at H
      have H' := am H
      clear H
      go_wp2_with (first | ((with_reducible refine gate_dst (N := 10) rfl ?_); refine bxn 10 #[.int .i64 0, .int .i64 0] 24 HB fun g4 w5 K4 G4 hg hb => ?_; obtain ⟨N7,N8⟩ := ne_ hg K1; obtain ⟨N9,N10⟩ := ne_ hg K2; obtain ⟨N11,N12⟩ := ne_ hg K3; obtain ⟨K1, K2, K3, HB⟩ := bk3 K1 K2 K3 HB hb; clear hb hg; have z_ := ns3 N8 N10 N12; have z_ := cB2 K4) | ((with_reducible refine gate_callee (f := 47) rfl ?_); refine gL 21 Try.func47 (impl_Range_empty.calls _ _ _ _ A2.out) fun w6 hb => ?_; replace K1 := am (blk_below (g := g1) (o := b2 a0_0 a0_1 24) (by refine fa N7 ?_; refine fa N7 ?_; exact Z K1) hb); replace K2 := am (blk_below (g := g2) (o := b2 a1_0 a1_1 24) (by refine fa N9 ?_; refine fa N9 ?_; exact Z K2) hb); replace K3 := am (blk_below (g := g3) (o := b2 0 0 24) (by refine fa N11 ?_; refine fa N11 ?_; exact Z K3) hb); replace K4 := am (blk_below (g := g4) (o := b2 t1 t2 24) (by refine pf ?_; refine blk_put (cs := #[.int .i64 t1, .int .i64 0]) ?_ 1 _ rfl; refine pf ?_; refine blk_put (cs := #[.int .i64 0, .int .i64 0]) ?_ 0 _ rfl; exact Z K4) hb); replace HB := am (below_step (YA HB) hb); (try clear hb); have z_ := ns2 N1 N3; have z_ := cB2 K1; have z_ := cB2 K4) | ((with_reducible refine gate_callee (f := 49) rfl ?_); refine gL 25 Try.func49 (impl_rangeCorners.calls _ _ _ _ _ _ _ _ _ A3.out) fun w7 hb => ?_; obtain ⟨K1, K2, K3, K4, HB⟩ := bk4 K1 K2 K3 K4 HB hb; (try clear hb)))
      go_roundg k1
      case measure => have := HK1.out; omega
      case rel => exact ⟨(t6), (t7), (true), (wrap64 (x4 + 1)), ey, ey, ey, ey, H', ⟨by have := HK1.out; omega⟩, ⟨Z K1⟩, ⟨Z K2⟩, ⟨Z K3⟩, ⟨YA HB⟩⟩
     subst c4
     rw [if_pos rfl] at H
     obtain ⟨i1, j9⟩ : ∃ j_ : Int, (mn t6 x1) = j_ := ⟨_, rfl⟩
     replace H : (impl_rangeDiv.l0 k1 i1 (mx t7 x2) true (wrap64 (x4 + 1)) a0_0 a0_1 a1_0 a1_1 t1 t2 t3 t4) = some (r1, r2, r3) := by first | (rw [j9] at H; exact H) | (simp only [j9] at H ⊢; exact H)
     (try rw [j9] at A2)
     (try rw [j9] at A3)
     have hji23_ : (if x1 < t6 then x1 else t6) = i1 := j9
     obtain ⟨i2, j10⟩ : ∃ j_ : Int, (mx t7 x2) = j_ := ⟨_, rfl⟩
     replace H : (impl_rangeDiv.l0 k1 i1 i2 true (wrap64 (x4 + 1)) a0_0 a0_1 a1_0 a1_1 t1 t2 t3 t4) = some (r1, r2, r3) := by first | (rw [j10] at H; exact H) | (simp only [j10] at H ⊢; exact H)
     (try rw [j10] at A2)
     (try rw [j10] at A3)
     have hji24_ : (if t7 < x2 then x2 else t7) = i2 := j10
     have H' := am H
     clear H
     go_wp2_with (first | ((with_reducible refine gate_dst (N := 10) rfl ?_); refine bxn 10 #[.int .i64 0, .int .i64 0] 24 HB fun g4 w5 K4 G4 hg hb => ?_; obtain ⟨N7,N8⟩ := ne_ hg K1; obtain ⟨N9,N10⟩ := ne_ hg K2; obtain ⟨N11,N12⟩ := ne_ hg K3; obtain ⟨K1, K2, K3, HB⟩ := bk3 K1 K2 K3 HB hb; clear hb hg; have z_ := ns3 N8 N10 N12; have z_ := cB2 K4) | ((with_reducible refine gate_callee (f := 47) rfl ?_); refine gL 21 Try.func47 (impl_Range_empty.calls _ _ _ _ A2.out) fun w6 hb => ?_; replace K1 := am (blk_below (g := g1) (o := b2 a0_0 a0_1 24) (by refine fa N7 ?_; refine fa N7 ?_; exact Z K1) hb); replace K2 := am (blk_below (g := g2) (o := b2 a1_0 a1_1 24) (by refine fa N9 ?_; refine fa N9 ?_; exact Z K2) hb); replace K3 := am (blk_below (g := g3) (o := b2 0 0 24) (by refine fa N11 ?_; refine fa N11 ?_; exact Z K3) hb); replace K4 := am (blk_below (g := g4) (o := b2 t1 t2 24) (by refine pf ?_; refine blk_put (cs := #[.int .i64 t1, .int .i64 0]) ?_ 1 _ rfl; refine pf ?_; refine blk_put (cs := #[.int .i64 0, .int .i64 0]) ?_ 0 _ rfl; exact Z K4) hb); replace HB := am (below_step (YA HB) hb); (try clear hb); have z_ := ns2 N1 N3; have z_ := cB2 K1; have z_ := cB2 K4) | ((with_reducible refine gate_callee (f := 49) rfl ?_); refine gL 25 Try.func49 (impl_rangeCorners.calls _ _ _ _ _ _ _ _ _ A3.out) fun w7 hb => ?_; obtain ⟨K1, K2, K3, K4, HB⟩ := bk4 K1 K2 K3 K4 HB hb; (try clear hb)))
     go_roundg k1
     case measure => have := HK1.out; omega
     case rel => exact ⟨(i1), (i2), (true), (wrap64 (x4 + 1)), (by first | rfl | (simp; done) | (simp only [← j9] <;> (first | rfl | simp)) | (simp [*]; done)), (by first | rfl | (simp; done) | (simp only [← j10] <;> (first | rfl | simp)) | (simp [*]; done)), ey, ey, H', ⟨by have := HK1.out; omega⟩, ⟨Z K1⟩, ⟨Z K2⟩, ⟨Z K3⟩, ⟨YA HB⟩⟩
    rw [if_neg c2] at H
    have d2 := eF c2
    have d3 := nT c2
    by_cases c3 : x4 = 1
    rotate_left
    ·rw [if_neg c3] at H
     exact absurd H (by simp)
    rw [if_pos c3] at H
    have hix47 : ∀ w', (Instr.index 96 (.agg #[.int .i64 t1, .int .i64 t2, .int .i64 t3, .int .i64 t4]) (.int .i64 x4)).run Try.prog w' = .ok (.agg #[.int .i64 t3, .int .i64 t4]) w' := by intro w'; rw [c3]; first | (go_simp; done) | (go_simp; rfl) | rfl
    have d4 := eT c3
    have d5 := nF c3
    clear c3
    obtain ⟨t5, A2, H⟩ := bd H
    try dsimp only at H
    by_cases c4 : t5 = true
    ·subst c4
     rw [if_pos rfl] at H
     have H' := am H
     clear H
     go_wp2_with (first | ((with_reducible refine gate_dst (N := 10) rfl ?_); refine bxn 10 #[.int .i64 0, .int .i64 0] 24 HB fun g4 w5 K4 G4 hg hb => ?_; obtain ⟨N7,N8⟩ := ne_ hg K1; obtain ⟨N9,N10⟩ := ne_ hg K2; obtain ⟨N11,N12⟩ := ne_ hg K3; obtain ⟨K1, K2, K3, HB⟩ := bk3 K1 K2 K3 HB hb; clear hb hg; have z_ := ns3 N8 N10 N12; have z_ := cB2 K4) | ((with_reducible refine gate_callee (f := 47) rfl ?_); refine gL 21 Try.func47 (impl_Range_empty.calls _ _ _ _ A2.out) fun w6 hb => ?_; replace K1 := am (blk_below (g := g1) (o := b2 a0_0 a0_1 24) (by refine fa N7 ?_; refine fa N7 ?_; exact Z K1) hb); replace K2 := am (blk_below (g := g2) (o := b2 a1_0 a1_1 24) (by refine fa N9 ?_; refine fa N9 ?_; exact Z K2) hb); replace K3 := am (blk_below (g := g3) (o := b2 0 0 24) (by refine fa N11 ?_; refine fa N11 ?_; exact Z K3) hb); replace K4 := am (blk_below (g := g4) (o := b2 t3 t4 24) (by refine pf ?_; refine blk_put (cs := #[.int .i64 t3, .int .i64 0]) ?_ 1 _ rfl; refine pf ?_; refine blk_put (cs := #[.int .i64 0, .int .i64 0]) ?_ 0 _ rfl; exact Z K4) hb); replace HB := am (below_step (YA HB) hb); (try clear hb)))
     go_roundg k1
     case measure => have := HK1.out; omega
     case rel => exact ⟨(x1), (x2), (x3), (wrap64 (x4 + 1)), ey, ey, ey, ey, H', ⟨by have := HK1.out; omega⟩, ⟨Z K1⟩, ⟨Z K2⟩, ⟨Z K3⟩, ⟨YA HB⟩⟩
    replace c4 := Bool.eq_false_iff.mpr c4
    subst c4
    rw [if_neg ff] at H
    obtain ⟨⟨t6, t7⟩, A3, H⟩ := bd H
    try dsimp only at H
    by_cases c5 : x3 = true
    rotate_left
    ·replace c5 := Bool.eq_false_iff.mpr c5
     subst c5
     rw [if_neg ff] at H
     have H' := am H
     clear H
     go_wp2_with (first | ((with_reducible refine gate_dst (N := 10) rfl ?_); refine bxn 10 #[.int .i64 0, .int .i64 0] 24 HB fun g4 w5 K4 G4 hg hb => ?_; obtain ⟨N7,N8⟩ := ne_ hg K1; obtain ⟨N9,N10⟩ := ne_ hg K2; obtain ⟨N11,N12⟩ := ne_ hg K3; obtain ⟨K1, K2, K3, HB⟩ := bk3 K1 K2 K3 HB hb; clear hb hg; have z_ := ns3 N8 N10 N12; have z_ := cB2 K4) | ((with_reducible refine gate_callee (f := 47) rfl ?_); refine gL 21 Try.func47 (impl_Range_empty.calls _ _ _ _ A2.out) fun w6 hb => ?_; replace K1 := am (blk_below (g := g1) (o := b2 a0_0 a0_1 24) (by refine fa N7 ?_; refine fa N7 ?_; exact Z K1) hb); replace K2 := am (blk_below (g := g2) (o := b2 a1_0 a1_1 24) (by refine fa N9 ?_; refine fa N9 ?_; exact Z K2) hb); replace K3 := am (blk_below (g := g3) (o := b2 0 0 24) (by refine fa N11 ?_; refine fa N11 ?_; exact Z K3) hb); replace K4 := am (blk_below (g := g4) (o := b2 t3 t4 24) (by refine pf ?_; refine blk_put (cs := #[.int .i64 t3, .int .i64 0]) ?_ 1 _ rfl; refine pf ?_; refine blk_put (cs := #[.int .i64 0, .int .i64 0]) ?_ 0 _ rfl; exact Z K4) hb); replace HB := am (below_step (YA HB) hb); (try clear hb); have z_ := ns2 N1 N3; have z_ := cB2 K1; have z_ := cB2 K4) | ((with_reducible refine gate_callee (f := 49) rfl ?_); refine gL 25 Try.func49 (impl_rangeCorners.calls _ _ _ _ _ _ _ _ _ A3.out) fun w7 hb => ?_; obtain ⟨K1, K2, K3, K4, HB⟩ := bk4 K1 K2 K3 K4 HB hb; (try clear hb)))
     go_roundg k1
     case measure => have := HK1.out; omega
     case rel => exact ⟨(t6), (t7), (true), (wrap64 (x4 + 1)), ey, ey, ey, ey, H', ⟨by have := HK1.out; omega⟩, ⟨Z K1⟩, ⟨Z K2⟩, ⟨Z K3⟩, ⟨YA HB⟩⟩
    subst c5
    rw [if_pos rfl] at H
    obtain ⟨i1, j9⟩ : ∃ j_ : Int, (mn t6 x1) = j_ := ⟨_, rfl⟩
    replace H : (impl_rangeDiv.l0 k1 i1 (mx t7 x2) true (wrap64 (x4 + 1)) a0_0 a0_1 a1_0 a1_1 t1 t2 t3 t4) = some (r1, r2, r3) := by first | (rw [j9] at H; exact H) | (simp only [j9] at H ⊢; exact H)
    (try rw [j9] at A2)
    (try rw [j9] at A3)
    have hji58_ : (if x1 < t6 then x1 else t6) = i1 := j9
    obtain ⟨i2, j10⟩ : ∃ j_ : Int, (mx t7 x2) = j_ := ⟨_, rfl⟩
    replace H : (impl_rangeDiv.l0 k1 i1 i2 true (wrap64 (x4 + 1)) a0_0 a0_1 a1_0 a1_1 t1 t2 t3 t4) = some (r1, r2, r3) := by first | (rw [j10] at H; exact H) | (simp only [j10] at H ⊢; exact H)
    (try rw [j10] at A2)
    (try rw [j10] at A3)
    have hji59_ : (if t7 < x2 then x2 else t7) = i2 := j10
    have H' := am H
    clear H
    go_wp2_with (first | ((with_reducible refine gate_dst (N := 10) rfl ?_); refine bxn 10 #[.int .i64 0, .int .i64 0] 24 HB fun g4 w5 K4 G4 hg hb => ?_; obtain ⟨N7,N8⟩ := ne_ hg K1; obtain ⟨N9,N10⟩ := ne_ hg K2; obtain ⟨N11,N12⟩ := ne_ hg K3; obtain ⟨K1, K2, K3, HB⟩ := bk3 K1 K2 K3 HB hb; clear hb hg; have z_ := ns3 N8 N10 N12; have z_ := cB2 K4) | ((with_reducible refine gate_callee (f := 47) rfl ?_); refine gL 21 Try.func47 (impl_Range_empty.calls _ _ _ _ A2.out) fun w6 hb => ?_; replace K1 := am (blk_below (g := g1) (o := b2 a0_0 a0_1 24) (by refine fa N7 ?_; refine fa N7 ?_; exact Z K1) hb); replace K2 := am (blk_below (g := g2) (o := b2 a1_0 a1_1 24) (by refine fa N9 ?_; refine fa N9 ?_; exact Z K2) hb); replace K3 := am (blk_below (g := g3) (o := b2 0 0 24) (by refine fa N11 ?_; refine fa N11 ?_; exact Z K3) hb); replace K4 := am (blk_below (g := g4) (o := b2 t3 t4 24) (by refine pf ?_; refine blk_put (cs := #[.int .i64 t3, .int .i64 0]) ?_ 1 _ rfl; refine pf ?_; refine blk_put (cs := #[.int .i64 0, .int .i64 0]) ?_ 0 _ rfl; exact Z K4) hb); replace HB := am (below_step (YA HB) hb); (try clear hb); have z_ := ns2 N1 N3; have z_ := cB2 K1; have z_ := cB2 K4) | ((with_reducible refine gate_callee (f := 49) rfl ?_); refine gL 25 Try.func49 (impl_rangeCorners.calls _ _ _ _ _ _ _ _ _ A3.out) fun w7 hb => ?_; obtain ⟨K1, K2, K3, K4, HB⟩ := bk4 K1 K2 K3 K4 HB hb; (try clear hb)))
    go_roundg k1
    case measure => have := HK1.out; omega
    case rel => exact ⟨(i1), (i2), (true), (wrap64 (x4 + 1)), (by first | rfl | (simp; done) | (simp only [← j9] <;> (first | rfl | simp)) | (simp [*]; done)), (by first | rfl | (simp; done) | (simp only [← j10] <;> (first | rfl | simp)) | (simp [*]; done)), ey, ey, H', ⟨by have := HK1.out; omega⟩, ⟨Z K1⟩, ⟨Z K2⟩, ⟨Z K3⟩, ⟨YA HB⟩⟩
   rw [if_neg c1] at H
   have d1 := dF c1
   clear c1
   obtain ⟨⟨t5, t6⟩, A2, H⟩ := bd H
   try dsimp only at H
   have C1 := am H
   clear H
   go_upto_if 39 with (first | ((with_reducible refine gate_callee (f := 48) rfl ?_); refine gL 38 Try.func48 (impl_rangeNone.calls _ _ _ A2.out) fun w5 hb => ?_; obtain ⟨K1, K2, K3, HB⟩ := bk3 K1 K2 K3 HB hb; (try clear hb)) | ((with_reducible refine gate_dst (N := 13) rfl ?_); refine bxn 13 #[.int .i64 0, .int .i64 0] 24 HB fun g4 w6 K4 G4 hg hb => ?_; obtain ⟨N7,N8⟩ := ne_ hg K1; obtain ⟨N9,N10⟩ := ne_ hg K2; obtain ⟨N11,N12⟩ := ne_ hg K3; obtain ⟨K1, K2, K3, HB⟩ := bk3 K1 K2 K3 HB hb; clear hb hg; have z_ := ns3 N8 N10 N12; have z_ := cB2 K4))
   (try simp only [Act.put, List.setIfInBounds_toArray, List.set_cons_zero, List.set_cons_succ])
   go_cut [] (fun wc => ∃ (kq : Nat) (x5 : Int) (x6 : Int), Aside0 (impl_rangeDiv.j1 kq a0_0 a0_1 a1_0 a1_1 x5 x6 = some (r1, r2, r3)) ∧ Aside0 (kq ≤ k1) ∧ Bx2 wc g1 a0_0 a0_1 24 ∧ Bx2 wc g2 a1_0 a1_1 24 ∧ Bx2 wc g3 0 0 24 ∧ Bx2 wc g4 x5 x6 24 ∧ Aside0 (Below w.heap.size w wc))
   case first =>
    have H := C1.out
    clear C1
    by_cases c2 : x3 = true
    rotate_left
    ·replace c2 := Bool.eq_false_iff.mpr c2
     subst c2
     rw [if_neg ff] at H
     have H' := am H
     clear H
     go_wp2
     go_meet
     case rel => exact ⟨_, (t5), (t6), H', le1 HK1, ⟨by refine fa N7 ?_; refine fa N7 ?_; exact Z K1⟩, ⟨by refine fa N9 ?_; refine fa N9 ?_; exact Z K2⟩, ⟨by refine fa N11 ?_; refine fa N11 ?_; exact Z K3⟩, ⟨by refine pf ?_; refine blk_put (cs := #[.int .i64 t5, .int .i64 0]) ?_ 1 _ rfl; refine pf ?_; refine blk_put (cs := #[.int .i64 0, .int .i64 0]) ?_ 0 _ rfl; exact Z K4⟩, ⟨YA HB⟩⟩
    subst c2
    rw [if_pos rfl] at H
    obtain ⟨⟨t7, t8⟩, A3, H⟩ := bd H
    try dsimp only at H
    have H' := am H
    clear H
    go_wp2_with (first | ((with_reducible refine gate_callee (f := 50) rfl ?_); refine gL 42 Try.func50 (impl_rangeFrom.calls _ _ _ _ _ A3.out) fun w7 hb => ?_; replace K1 := am (blk_below (g := g1) (o := b2 a0_0 a0_1 24) (by refine fa N7 ?_; refine fa N7 ?_; exact Z K1) hb); replace K2 := am (blk_below (g := g2) (o := b2 a1_0 a1_1 24) (by refine fa N9 ?_; refine fa N9 ?_; exact Z K2) hb); replace K3 := am (blk_below (g := g3) (o := b2 0 0 24) (by refine fa N11 ?_; refine fa N11 ?_; exact Z K3) hb); replace K4 := am (blk_below (g := g4) (o := b2 t5 t6 24) (by refine pf ?_; refine blk_put (cs := #[.int .i64 t5, .int .i64 0]) ?_ 1 _ rfl; refine pf ?_; refine blk_put (cs := #[.int .i64 0, .int .i64 0]) ?_ 0 _ rfl; exact Z K4) hb); replace HB := am (below_step (YA HB) hb); (try clear hb); have z_ := ns3 N8 N10 N12; have z_ := cB2 K4))
    go_meet
    case rel => exact ⟨_, (t7), (t8), H', le1 HK1, ⟨by refine fa N7 ?_; refine fa N7 ?_; exact Z K1⟩, ⟨by refine fa N9 ?_; refine fa N9 ?_; exact Z K2⟩, ⟨by refine fa N11 ?_; refine fa N11 ?_; exact Z K3⟩, ⟨by refine pf ?_; refine blk_put (cs := #[.int .i64 t7, .int .i64 t6]) ?_ 1 _ rfl; refine pf ?_; refine blk_put (cs := #[.int .i64 t5, .int .i64 t6]) ?_ 0 _ rfl; exact Z K4⟩, ⟨YA HB⟩⟩
   case rest =>
    clear C1
    (try clear d1)
    obtain ⟨kq, x5, x6, HA, J1, K1, K2, K3, K4, HB⟩ := hcut
    cases kq with
    | zero => exact absurd HA.out (by simp [impl_rangeDiv.j1])
    | succ k2 =>
     have H := HA.out
     clear HA
     simp only [impl_rangeDiv.j1] at H
     have C2 := am H
     clear H
     go_upto_region 15 with (fail)
     go_cut [48] (fun v5 wc => ∃ (kq : Nat) (x7 : Bool), v5 = .bool x7 ∧ Aside0 (impl_rangeDiv.j2 kq ([] : List Int) x7 a1_0 a1_1 x5 x6 = some (r1, r2, r3)) ∧ Aside0 (kq ≤ k2) ∧ Aside0 (Kd.R (Kd.int .i64) 3 wc w.heap.size (fun _ => True) (.slice none 0 0) ([] : List Int)) ∧ Bx2 wc g1 a0_0 a0_1 24 ∧ Bx2 wc g2 a1_0 a1_1 24 ∧ Bx2 wc g3 0 0 24 ∧ Bx2 wc g4 x5 x6 24 ∧ Aside0 (Below w.heap.size w wc))
     case first =>
      have H := C2.out
      clear C2
      obtain ⟨t7, A3, H⟩ := bd H
      try dsimp only at H
      by_cases c2 : t7 = true
      rotate_left
      ·replace c2 := Bool.eq_false_iff.mpr c2
       subst c2
       rw [if_neg ff] at H
       have H' := am H
       clear H
       have z_ := ns3 N1 N3 N7
       have z_ := cB2 K1
       go_wp2_with (first | ((with_reducible refine gate_callee (f := 95) rfl ?_); refine gL 44 Try.func95 (impl_RangeHas.calls _ _ _ _ _ A3.out) fun w7 hb => ?_; obtain ⟨K1, K2, K3, K4, HB⟩ := bk4 K1 K2 K3 K4 HB hb; (try clear hb)))
       go_meet
       case rel => exact ⟨_, (false), ey, H', ⟨by have := HK1.out; have := J1.out; first | omega | exact Nat.le_refl _⟩, ⟨by first | exact Kd.R_nil _ _ _ _ _ | exact Kd.N_nil _ _ _ _ _ | exact Kd.V_nil _ _ _ _ _ | exact Kd.Q_nil _ _ _ _ _ | exact Kd.S_nil _ _ _ _ _⟩, ⟨Z K1⟩, ⟨Z K2⟩, ⟨Z K3⟩, ⟨Z K4⟩, ⟨YA HB⟩⟩
      subst c2
      rw [if_pos rfl] at H
      obtain ⟨t8, A4, H⟩ := bd H
      try dsimp only at H
      have H' := am H
      clear H
      have z_ := ns3 N1 N3 N7
      have z_ := cB2 K1
      go_wp2_with (first | ((with_reducible refine gate_callee (f := 95) rfl ?_); refine gL 44 Try.func95 (impl_RangeHas.calls _ _ _ _ _ A3.out) fun w7 hb => ?_; obtain ⟨K1, K2, K3, K4, HB⟩ := bk4 K1 K2 K3 K4 HB hb; (try clear hb); have z_ := ns2 N5 N9; have z_ := cB2 K2) | (go_at_call 95; (with_reducible refine (impl_RangeHas.calls _ _ _ _ _ A4.out).mono ?_); rintro e w8 ⟨rfl, hb⟩; obtain ⟨K1, K2, K3, K4, HB⟩ := bk4 K1 K2 K3 K4 HB hb; (try clear hb)))
      go_meet
      case rel => exact ⟨_, (t8), ey, H', ⟨by have := HK1.out; have := J1.out; first | omega | exact Nat.le_refl _⟩, ⟨by first | exact Kd.R_nil _ _ _ _ _ | exact Kd.N_nil _ _ _ _ _ | exact Kd.V_nil _ _ _ _ _ | exact Kd.Q_nil _ _ _ _ _ | exact Kd.S_nil _ _ _ _ _⟩, ⟨Z K1⟩, ⟨Z K2⟩, ⟨Z K3⟩, ⟨Z K4⟩, ⟨YA HB⟩⟩
     case rest =>
      clear C2
      obtain ⟨kq, x7, rfl, HA, J2, O1, K1, K2, K3, K4, HB⟩ := hcut
      cases kq with
      | zero => exact absurd HA.out (by simp [impl_rangeDiv.j2])
      | succ k3 =>
       have H := HA.out
       clear HA
       simp only [impl_rangeDiv.j2] at H
       by_cases c2 : x7 = true
       rotate_left
       ·replace c2 := Bool.eq_false_iff.mpr c2
        subst c2
        rw [if_neg ff] at H
        obtain ⟨t7, A3, H⟩ := bd H
        try dsimp only at H
        by_cases c3 : t7 = true
        rotate_left
        ·replace c3 := Bool.eq_false_iff.mpr c3
         subst c3
         rw [if_neg ff] at H
         simp only [Option.some.injEq, Prod.mk.injEq] at H
         obtain ⟨rfl, rfl, rfl⟩ := H
         have z_ := ns3 N2 N5 N9
         have z_ := cB2 K2
         go_wp2_with (first | ((with_reducible refine gate_callee (f := 95) rfl ?_); refine gL 53 Try.func95 (impl_RangeHas.calls _ _ _ _ _ A3.out) fun w7 hb => ?_; replace O1 := am (Kd.R_below (RZ O1) hb); obtain ⟨K1, K2, K3, K4, HB⟩ := bk4 K1 K2 K3 K4 HB hb; (try clear hb); have z_ := ns3 N8 N12 N4; have z_ := cB2 K4; have z_ := cB2 K3))
         refine bodyPost_ret (results_ct rfl _ _ g3 24 #[.int .i64 x5, .int .i64 x6] (0, 0) _ rfl (by refine pf ?_; refine blk_put (cs := #[.int .i64 x5, .int .i64 0]) ?_ 1 _ rfl; refine pf ?_; refine blk_put (cs := #[.int .i64 0, .int .i64 0]) ?_ 0 _ rfl; exact Z K3) Try.underlying24 rfl (by kernel_rfl)) rfl ?_
         exact ⟨_, ez, by (with_reducible repeat (first | apply Kd.R_alloc | apply Kd.R_drewN | apply Kd.R_drew)); exact Kd.R_mono (Kd.R_far (p := ⟨g3, 1, none⟩) (Kd.R_far (p := ⟨g3, 0, none⟩) (Kd.R_types O1.out K3.out (by decide)) (fun _ hk => hk.2) (.int .i64 x5)) (fun _ hk => hk.2) (.int .i64 x6)) (fun _ hk => trivial), YA HB⟩
        subst c3
        rw [if_pos rfl] at H
        by_cases c4 : ([] : List Int).length < 17592186044416
        rotate_left
        ·rw [if_neg c4] at H
         exact absurd H (by simp)
        rw [if_pos c4] at H
        have L1 := am c4
        clear c4
        obtain ⟨y1, y2⟩ : ∃ y_ : List Int, y_ = (([] : List Int) ++ [2]) := ⟨_, rfl⟩
        replace H : (some (x5, x6, y1)) = some (r1, r2, r3) := by first | (rw [y2]; with_reducible exact H) | (have H2_ := (Option.bind_some _ _).symm.trans H; rw [y2]; with_reducible exact H2_) | (have H2_ := (Option.bind_some _ _).symm.trans H; with_reducible exact H2_) | with_reducible exact H | (rw [y2]; exact H) | exact H
        have Y25 := am y2
        clear y2
        simp only [Option.some.injEq, Prod.mk.injEq] at H
        obtain ⟨rfl, rfl, rfl⟩ := H
        have z_ := ns3 N2 N5 N9
        have z_ := cB2 K2
        go_wp2_with (first | ((with_reducible refine gate_callee (f := 95) rfl ?_); refine gL 53 Try.func95 (impl_RangeHas.calls _ _ _ _ _ A3.out) fun w7 hb => ?_; replace O1 := am (Kd.R_below (RZ O1) hb); obtain ⟨K1, K2, K3, K4, HB⟩ := bk4 K1 K2 K3 K4 HB hb; (try clear hb)) | ((with_reducible refine gate_builtin (b := .append) (xs := #[.tmp 54, .tmp 55]) rfl ?_); at_builtin; refine Kd.R_append (Kd.int .i64) (w0 := w) w.heap.size rfl (.tmp 54) (.tmp 55) 25 3 (.int .i64 0) 8 rfl Try.underlying25 info3 rfl (by decide) (by omega) (.slice none 0 0) ([] : List Int) 2 [.int .i64 2] (fun _ => True) (fun _ => False) rfl rfl ?aP (fun _ hk => hk.elim) ?aF ?aO ?aB ?aS ?aL ?_; (case aP => exact rfl); (case aB => exact (YA HB)); (case aF => exact (fun _ _ => trivial)); (case aO => exact (RZ O1)); (case aS => exact (below_size (YA HB))); (case aL => have := L1.out; omega); intro v6 w8 ho hb hg hat; rw [← Y25.out] at ho; have O2 := am (ho); replace K1 := am (blk_grown (g := g1) (o := b2 a0_0 a0_1 24) (Z K1) hg (Kd.R_ne O1.out K1.out (by decide))); replace K2 := am (blk_grown (g := g2) (o := b2 a1_0 a1_1 24) (Z K2) hg (Kd.R_ne O1.out K2.out (by decide))); replace K3 := am (blk_grown (g := g3) (o := b2 0 0 24) (Z K3) hg (Kd.R_ne O1.out K3.out (by decide))); replace K4 := am (blk_grown (g := g4) (o := b2 x5 x6 24) (Z K4) hg (Kd.R_ne O1.out K4.out (by decide))); replace HB := am (hb); clear O1; clear ho hb hg hat; have z_ := ns3 N8 N12 N4; have z_ := cB2 K4; have z_ := cB2 K3))
        refine bodyPost_ret (results_ct rfl _ _ g3 24 #[.int .i64 x5, .int .i64 x6] (0, 0) _ rfl (by refine pf ?_; refine blk_put (cs := #[.int .i64 x5, .int .i64 0]) ?_ 1 _ rfl; refine pf ?_; refine blk_put (cs := #[.int .i64 0, .int .i64 0]) ?_ 0 _ rfl; exact Z K3) Try.underlying24 rfl (by kernel_rfl)) rfl ?_
        exact ⟨_, ez, by (with_reducible repeat (first | apply Kd.R_alloc | apply Kd.R_drewN | apply Kd.R_drew)); exact Kd.R_mono (Kd.R_far (p := ⟨g3, 1, none⟩) (Kd.R_far (p := ⟨g3, 0, none⟩) (Kd.R_types O2.out K3.out (by decide)) (fun _ hk => hk.2) (.int .i64 x5)) (fun _ hk => hk.2) (.int .i64 x6)) (fun _ hk => trivial), YA HB⟩
       subst c2
       rw [if_pos rfl] at H
       by_cases c3 : ([] : List Int).length < 17592186044416
       rotate_left
       ·rw [if_neg c3] at H
        exact absurd H (by simp)
       rw [if_pos c3] at H
       have L1 := am c3
       clear c3
       obtain ⟨y1, y2⟩ : ∃ y_ : List Int, y_ = (([] : List Int) ++ [1]) := ⟨_, rfl⟩
       replace H : ((impl_RangeHas.f a1_0 a1_1 0).bind fun t7 => (if t7 = true then (if y1.length < 17592186044416 then (some (x5, x6, (y1 ++ [2]))) else (none)) else (some (x5, x6, y1)))) = some (r1, r2, r3) := by first | (rw [y2]; with_reducible exact H) | (have H2_ := (Option.bind_some _ _).symm.trans H; rw [y2]; with_reducible exact H2_) | (have H2_ := (Option.bind_some _ _).symm.trans H; with_reducible exact H2_) | with_reducible exact H | (rw [y2]; exact H) | exact H
       have Y25 := am y2
       clear y2
       obtain ⟨t7, A3, H⟩ := bd H
       try dsimp only at H
       by_cases c4 : t7 = true
       rotate_left
       ·replace c4 := Bool.eq_false_iff.mpr c4
        subst c4
        rw [if_neg ff] at H
        simp only [Option.some.injEq, Prod.mk.injEq] at H
        obtain ⟨rfl, rfl, rfl⟩ := H
        go_wp2_with (first | ((with_reducible refine gate_builtin (b := .append) (xs := #[.tmp 49, .tmp 50]) rfl ?_); at_builtin; refine Kd.R_append (Kd.int .i64) (w0 := w) w.heap.size rfl (.tmp 49) (.tmp 50) 25 3 (.int .i64 0) 8 rfl Try.underlying25 info3 rfl (by decide) (by omega) (.slice none 0 0) ([] : List Int) 1 [.int .i64 1] (fun _ => True) (fun _ => False) rfl rfl ?aP (fun _ hk => hk.elim) ?aF ?aO ?aB ?aS ?aL ?_; (case aP => exact rfl); (case aB => exact (YA HB)); (case aF => exact (fun _ _ => trivial)); (case aO => exact (RZ O1)); (case aS => exact (below_size (YA HB))); (case aL => have := L1.out; omega); intro v6 w7 ho hb hg hat; rw [← Y25.out] at ho; have O2 := am (ho); replace K1 := am (blk_grown (g := g1) (o := b2 a0_0 a0_1 24) (Z K1) hg (Kd.R_ne O1.out K1.out (by decide))); replace K2 := am (blk_grown (g := g2) (o := b2 a1_0 a1_1 24) (Z K2) hg (Kd.R_ne O1.out K2.out (by decide))); replace K3 := am (blk_grown (g := g3) (o := b2 0 0 24) (Z K3) hg (Kd.R_ne O1.out K3.out (by decide))); replace K4 := am (blk_grown (g := g4) (o := b2 x5 x6 24) (Z K4) hg (Kd.R_ne O1.out K4.out (by decide))); replace HB := am (hb); clear O1; clear ho hb hg hat; have z_ := ns3 N2 N5 N9; have z_ := cB2 K2) | ((with_reducible refine gate_callee (f := 95) rfl ?_); refine gL 53 Try.func95 (impl_RangeHas.calls _ _ _ _ _ A3.out) fun w8 hb => ?_; replace O2 := am (Kd.R_below (RZ O2) hb); obtain ⟨K1, K2, K3, K4, HB⟩ := bk4 K1 K2 K3 K4 HB hb; (try clear hb); have z_ := ns3 N8 N12 N4; have z_ := cB2 K4; have z_ := cB2 K3))
        refine bodyPost_ret (results_ct rfl _ _ g3 24 #[.int .i64 x5, .int .i64 x6] (0, 0) _ rfl (by refine pf ?_; refine blk_put (cs := #[.int .i64 x5, .int .i64 0]) ?_ 1 _ rfl; refine pf ?_; refine blk_put (cs := #[.int .i64 0, .int .i64 0]) ?_ 0 _ rfl; exact Z K3) Try.underlying24 rfl (by kernel_rfl)) rfl ?_
        exact ⟨_, ez, by (with_reducible repeat (first | apply Kd.R_alloc | apply Kd.R_drewN | apply Kd.R_drew)); exact Kd.R_mono (Kd.R_far (p := ⟨g3, 1, none⟩) (Kd.R_far (p := ⟨g3, 0, none⟩) (Kd.R_types O2.out K3.out (by decide)) (fun _ hk => hk.2) (.int .i64 x5)) (fun _ hk => hk.2) (.int .i64 x6)) (fun _ hk => trivial), YA HB⟩
       subst c4
       rw [if_pos rfl] at H
       by_cases c5 : y1.length < 17592186044416
       rotate_left
       ·rw [if_neg c5] at H
        exact absurd H (by simp)
       rw [if_pos c5] at H
       have L2 := am c5
       clear c5
       obtain ⟨y3, y4⟩ : ∃ y_ : List Int, y_ = (y1 ++ [2]) := ⟨_, rfl⟩
       replace H : (some (x5, x6, y3)) = some (r1, r2, r3) := by first | (rw [y4]; with_reducible exact H) | (have H2_ := (Option.bind_some _ _).symm.trans H; rw [y4]; with_reducible exact H2_) | (have H2_ := (Option.bind_some _ _).symm.trans H; with_reducible exact H2_) | with_reducible exact H | (rw [y4]; exact H) | exact H
       have Y26 := am y4
       clear y4
       simp only [Option.some.injEq, Prod.mk.injEq] at H
       obtain ⟨rfl, rfl, rfl⟩ := H
       go_wp2_with (first | ((with_reducible refine gate_builtin (b := .append) (xs := #[.tmp 49, .tmp 50]) rfl ?_); at_builtin; refine Kd.R_append (Kd.int .i64) (w0 := w) w.heap.size rfl (.tmp 49) (.tmp 50) 25 3 (.int .i64 0) 8 rfl Try.underlying25 info3 rfl (by decide) (by omega) (.slice none 0 0) ([] : List Int) 1 [.int .i64 1] (fun _ => True) (fun _ => False) rfl rfl ?aP (fun _ hk => hk.elim) ?aF ?aO ?aB ?aS ?aL ?_; (case aP => exact rfl); (case aB => exact (YA HB)); (case aF => exact (fun _ _ => trivial)); (case aO => exact (RZ O1)); (case aS => exact (below_size (YA HB))); (case aL => have := L1.out; omega); intro v6 w7 ho hb hg hat; rw [← Y25.out] at ho; have O2 := am (ho); replace K1 := am (blk_grown (g := g1) (o := b2 a0_0 a0_1 24) (Z K1) hg (Kd.R_ne O1.out K1.out (by decide))); replace K2 := am (blk_grown (g := g2) (o := b2 a1_0 a1_1 24) (Z K2) hg (Kd.R_ne O1.out K2.out (by decide))); replace K3 := am (blk_grown (g := g3) (o := b2 0 0 24) (Z K3) hg (Kd.R_ne O1.out K3.out (by decide))); replace K4 := am (blk_grown (g := g4) (o := b2 x5 x6 24) (Z K4) hg (Kd.R_ne O1.out K4.out (by decide))); replace HB := am (hb); clear O1; clear ho hb hg hat; have z_ := ns3 N2 N5 N9; have z_ := cB2 K2) | ((with_reducible refine gate_callee (f := 95) rfl ?_); refine gL 53 Try.func95 (impl_RangeHas.calls _ _ _ _ _ A3.out) fun w8 hb => ?_; replace O2 := am (Kd.R_below (RZ O2) hb); obtain ⟨K1, K2, K3, K4, HB⟩ := bk4 K1 K2 K3 K4 HB hb; (try clear hb)) | ((with_reducible refine gate_builtin (b := .append) (xs := #[.tmp 54, .tmp 55]) rfl ?_); at_builtin; refine Kd.R_append (Kd.int .i64) (w0 := w) w.heap.size rfl (.tmp 54) (.tmp 55) 25 3 (.int .i64 0) 8 rfl Try.underlying25 info3 rfl (by decide) (by omega) v6 y1 2 [.int .i64 2] (fun _ => True) (fun _ => False) rfl rfl ?aP (fun _ hk => hk.elim) ?aF ?aO ?aB ?aS ?aL ?_; (case aP => exact rfl); (case aB => exact (YA HB)); (case aF => exact (fun _ _ => trivial)); (case aO => exact (RZ O2)); (case aS => exact (below_size (YA HB))); (case aL => have := L2.out; omega); intro v7 w9 ho hb hg hat; rw [← Y26.out] at ho; have O3 := am (ho); replace K1 := am (blk_grown (g := g1) (o := b2 a0_0 a0_1 24) (Z K1) hg (Kd.R_ne O2.out K1.out (by decide))); replace K2 := am (blk_grown (g := g2) (o := b2 a1_0 a1_1 24) (Z K2) hg (Kd.R_ne O2.out K2.out (by decide))); replace K3 := am (blk_grown (g := g3) (o := b2 0 0 24) (Z K3) hg (Kd.R_ne O2.out K3.out (by decide))); replace K4 := am (blk_grown (g := g4) (o := b2 x5 x6 24) (Z K4) hg (Kd.R_ne O2.out K4.out (by decide))); replace HB := am (hb); clear O2; clear ho hb hg hat; have z_ := ns3 N8 N12 N4; have z_ := cB2 K4; have z_ := cB2 K3))
       refine bodyPost_ret (results_ct rfl _ _ g3 24 #[.int .i64 x5, .int .i64 x6] (0, 0) _ rfl (by refine pf ?_; refine blk_put (cs := #[.int .i64 x5, .int .i64 0]) ?_ 1 _ rfl; refine pf ?_; refine blk_put (cs := #[.int .i64 0, .int .i64 0]) ?_ 0 _ rfl; exact Z K3) Try.underlying24 rfl (by kernel_rfl)) rfl ?_
       exact ⟨_, ez, by (with_reducible repeat (first | apply Kd.R_alloc | apply Kd.R_drewN | apply Kd.R_drew)); exact Kd.R_mono (Kd.R_far (p := ⟨g3, 1, none⟩) (Kd.R_far (p := ⟨g3, 0, none⟩) (Kd.R_types O3.out K3.out (by decide)) (fun _ hk => hk.2) (.int .i64 x5)) (fun _ hk => hk.2) (.int .i64 x6)) (fun _ hk => trivial), YA HB⟩

end Go.Proofs.Ythbkakcchgnhpaa.PFnRangeMore
