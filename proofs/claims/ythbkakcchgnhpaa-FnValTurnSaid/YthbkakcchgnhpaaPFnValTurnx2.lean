/- Written by this session's own driver (wip/dprint.py): the functions that the law FnValTurn reaches, as Lean functions, each with its contract. -/
import Derived.Test.YthbkakcchgnhpaaPFnValTurnx0
import Derived.Test.YthbkakcchgnhpaaPFnValTurnx1
import Derived.Test.YthbkakcchgnhpaaSv
namespace Go.Proofs.Ythbkakcchgnhpaa.PFnValTurn
open Go.RowKit Go.Proofs.YthbkakcchgnhpaaV.PrintWords Go.Proofs.YthbkakcchgnhpaaV.PrintLast Go.Proofs.YthbkakcchgnhpaaV.PrintMore Go.Proofs.YthbkakcchgnhpaaSv
set_option linter.unusedVariables false
set_option linter.unusedSimpArgs false
section
attribute [local go_sem] max2_int min2_int max_two min_two max_three min_three max_four min_four
attribute [local go_sem] Go.Proofs.YthbkakcchgnhpaaSet.isSome_setCell
mutual
def impl_rangeDiv.l0 : Nat → Int → Int → Bool → Int → Int → Int → Int → Int → Int → Int → Int → Int → Option (Int × Int × List Int)
 | 0, _, _, _, _, _, _, _, _, _, _, _, _ => none
 | k + 1, x1, x2, x3, x4, x5, x6, x7, x8, x9, x10, x11, x12 => if x4 < 2 then (if x4 = 0 then ((impl_Range_empty.f x9 x10).bind fun t1 => (if t1 = true then (impl_rangeDiv.l0 k x1 x2 x3 (wrap64 (x4 + 1)) x5 x6 x7 x8 x9 x10 x11 x12) else ((impl_rangeCorners.f k 4 x5 x6 x9 x10).bind fun u1 => (if x3 = true then (impl_rangeDiv.l0 k (mn u1.1 x1) (mx u1.2 x2) true (wrap64 (x4 + 1)) x5 x6 x7 x8 x9 x10 x11 x12) else (impl_rangeDiv.l0 k u1.1 u1.2 true (wrap64 (x4 + 1)) x5 x6 x7 x8 x9 x10 x11 x12))))) else (if x4 = 1 then ((impl_Range_empty.f x11 x12).bind fun t2 => (if t2 = true then (impl_rangeDiv.l0 k x1 x2 x3 (wrap64 (x4 + 1)) x5 x6 x7 x8 x9 x10 x11 x12) else ((impl_rangeCorners.f k 4 x5 x6 x11 x12).bind fun u2 => (if x3 = true then (impl_rangeDiv.l0 k (mn u2.1 x1) (mx u2.2 x2) true (wrap64 (x4 + 1)) x5 x6 x7 x8 x9 x10 x11 x12) else (impl_rangeDiv.l0 k u2.1 u2.2 true (wrap64 (x4 + 1)) x5 x6 x7 x8 x9 x10 x11 x12))))) else (none))) else ((impl_rangeNone.f).bind fun u3 => (if x3 = true then ((impl_rangeFrom.f x1 x2).bind fun u4 => (impl_rangeDiv.j1 k x5 x6 x7 x8 u4.1 u4.2)) else (impl_rangeDiv.j1 k x5 x6 x7 x8 u3.1 u3.2)))
def impl_rangeDiv.j1 : Nat → Int → Int → Int → Int → Int → Int → Option (Int × Int × List Int)
 | 0, _, _, _, _, _, _ => none
 | k + 1, x1, x2, x3, x4, x5, x6 => (impl_RangeHas.f x1 x2 (-2147483648)).bind fun t1 => (if t1 = true then ((impl_RangeHas.f x3 x4 (-1)).bind fun t2 => (impl_rangeDiv.j2 k ([] : List Int) t2 x3 x4 x5 x6)) else (impl_rangeDiv.j2 k ([] : List Int) false x3 x4 x5 x6))
def impl_rangeDiv.j2 : Nat → List Int → Bool → Int → Int → Int → Int → Option (Int × Int × List Int)
 | 0, _, _, _, _, _, _ => none
 | k + 1, x1, x2, x3, x4, x5, x6 => if x2 = true then (if x1.length < 17592186044416 then ((some (x1 ++ [1] : List Int)).bind fun y1 => ((impl_RangeHas.f x3 x4 0).bind fun t1 => (if t1 = true then (if y1.length < 17592186044416 then (some (x5, x6, (y1 ++ [2]))) else (none)) else (some (x5, x6, y1))))) else (none)) else ((impl_RangeHas.f x3 x4 0).bind fun t2 => (if t2 = true then (if x1.length < 17592186044416 then (some (x5, x6, (x1 ++ [2]))) else (none)) else (some (x5, x6, x1))))
end
def impl_rangeDiv.f (k : Nat) (a0_0 : Int) (a0_1 : Int) (a1_0 : Int) (a1_1 : Int) : Option (Int × Int × List Int) := (impl_rangeSides.f k a1_0 a1_1).bind fun u1 => (impl_rangeDiv.l0 k 0 0 false 0 a0_0 a0_1 a1_0 a1_1 u1.1 u1.2.1 u1.2.2.1 u1.2.2.2)
theorem impl_rangeDiv.mono_l : ∀ k, (∀ y0 y1 y2 y3 y4 y5 y6 y7 y8 y9 y10 y11, LeO (impl_rangeDiv.l0 k y0 y1 y2 y3 y4 y5 y6 y7 y8 y9 y10 y11) (impl_rangeDiv.l0 (k + 1) y0 y1 y2 y3 y4 y5 y6 y7 y8 y9 y10 y11)) ∧ (∀ y0 y1 y2 y3 y4 y5, LeO (impl_rangeDiv.j1 k y0 y1 y2 y3 y4 y5) (impl_rangeDiv.j1 (k + 1) y0 y1 y2 y3 y4 y5)) ∧ (∀ y0 y1 y2 y3 y4 y5, LeO (impl_rangeDiv.j2 k y0 y1 y2 y3 y4 y5) (impl_rangeDiv.j2 (k + 1) y0 y1 y2 y3 y4 y5))
 | 0 => ⟨fun _ _ _ _ _ _ _ _ _ _ _ _ r h => by simp [impl_rangeDiv.l0] at h, fun _ _ _ _ _ _ r h => by simp [impl_rangeDiv.j1] at h, fun _ _ _ _ _ _ r h => by simp [impl_rangeDiv.j2] at h⟩
 | k + 1 => by
  obtain ⟨ih0, ih1, ih2⟩ := impl_rangeDiv.mono_l k
  refine ⟨?_, ?_, ?_⟩ <;> (intros; (first | unfold impl_rangeDiv.l0 | unfold impl_rangeDiv.j1 | unfold impl_rangeDiv.j2); repeat' first | (with_reducible first | apply ih0 | apply ih1 | apply ih2 | apply impl_rangeCorners.mono | apply impl_rangeSides.mono | apply LeO.refl | apply LeO.none | refine LeO.ite ?_ ?_ | refine LeO.bind ?_ (fun _ => ?_)) | apply ih0 | apply ih1 | apply ih2 | apply impl_rangeCorners.mono | apply impl_rangeSides.mono | apply LeO.none | refine LeO.ite ?_ ?_ | refine LeO.bind ?_ (fun _ => ?_))
theorem impl_rangeDiv.mono : ∀ a0 a1 a2 a3 k, LeO (impl_rangeDiv.f k a0 a1 a2 a3) (impl_rangeDiv.f (k + 1) a0 a1 a2 a3) := by
 intro a0 a1 a2 a3 k
 obtain ⟨ih0, ih1, ih2⟩ := impl_rangeDiv.mono_l k
 unfold impl_rangeDiv.f
 repeat' first | (with_reducible first | apply ih0 | apply ih1 | apply ih2 | apply impl_rangeCorners.mono | apply impl_rangeSides.mono | apply LeO.refl | apply LeO.none | refine LeO.ite ?_ ?_ | refine LeO.bind ?_ (fun _ => ?_)) | apply ih0 | apply ih1 | apply ih2 | apply impl_rangeCorners.mono | apply impl_rangeSides.mono | apply LeO.none | refine LeO.ite ?_ ?_ | refine LeO.bind ?_ (fun _ => ?_)
set_option maxHeartbeats 8000000 in
set_option maxRecDepth 100000 in
theorem impl_rangeDiv.calls (k : Nat) (a0_0 : Int) (a0_1 : Int) (a1_0 : Int) (a1_1 : Int) (r1 : Int) (r2 : Int) (r3 : List Int) (w : World) (h : impl_rangeDiv.f k a0_0 a0_1 a1_0 a1_1 = some (r1, r2, r3)) :
  Calls Try.prog 53 #[.agg #[.int .i64 a0_0, .int .i64 a0_1], .agg #[.int .i64 a1_0, .int .i64 a1_1]] w fun e w' => ∃ v2_ : Value, e = .returned (.tuple #[.agg #[.int .i64 r1, .int .i64 r2], v2_]) ∧ Kd.R (Kd.int .i64) 3 w' w.heap.size (fun _ => True) v2_ r3 ∧ Below w.heap.size w w' := by
 have hu24 := Try.underlying24
 have HB := am (Below.refl w.heap.size w)
 have H : ((impl_rangeSides.f k a1_0 a1_1).bind fun u1 => (impl_rangeDiv.l0 k 0 0 false 0 a0_0 a0_1 a1_0 a1_1 u1.1 u1.2.1 u1.2.2.1 u1.2.2.2)) = some (r1, r2, r3) := h
 clear h
 obtain ⟨⟨t1, t2, t3, t4⟩, A1, H⟩ := bd H
 try dsimp only at H
 have H' := am H
 clear H
 go_enter Try.func53, Try.ntmps53
 go_wp2_with (first | ((with_reducible refine gate_dst (N := 2) rfl ?_); refine bxn 2 #[.int .i64 a0_0, .int .i64 a0_1] 24 HB fun g1 w1 K1 G1 hg hb => ?_; replace HB := am (below_step (YA HB) hb); clear hb hg) | ((with_reducible refine gate_dst (N := 3) rfl ?_); refine bxn 3 #[.int .i64 a1_0, .int .i64 a1_1] 24 HB fun g2 w2 K2 G2 hg hb => ?_; obtain ⟨N1,N2⟩ := ne_ hg K1; obtain ⟨K1, HB⟩ := bk1 K1 HB hb; clear hb hg) | ((with_reducible refine gate_dst (N := 4) rfl ?_); refine bxn 4 #[.int .i64 0, .int .i64 0] 24 HB fun g3 w3 K3 G3 hg hb => ?_; obtain ⟨N3,N4⟩ := ne_ hg K1; obtain ⟨N5,N6⟩ := ne_ hg K2; obtain ⟨K1, K2, HB⟩ := bk2 K1 K2 HB hb; clear hb hg; have := ns2 N2 N5; have := cB2 K2) | ((with_reducible refine gate_callee (f := 94) rfl ?_); refine gL 16 Try.func94 (impl_rangeSides.calls _ _ _ _ _ _ _ _ A1.out) fun w4 hb => ?_; obtain ⟨K1, K2, K3, HB⟩ := bk3 K1 K2 K3 HB hb; (try clear hb)))
 go_loopg [6, 7, 8, 17] k (fun kq v1 v2 v3 v4 w' => ∃ (x1 : Int) (x2 : Int) (x3 : Bool) (x4 : Int), v1 = .int .i64 x1 ∧ v2 = .int .i64 x2 ∧ v3 = .bool x3 ∧ v4 = .int .i64 x4 ∧ Aside0 (impl_rangeDiv.l0 kq x1 x2 x3 x4 a0_0 a0_1 a1_0 a1_1 t1 t2 t3 t4 = some (r1, r2, r3)) ∧ Aside0 (kq ≤ k) ∧ Aside0 (w'.heap[g1]? = some (.cells #[.int .i64 a0_0, .int .i64 a0_1] 24 (0, 0))) ∧ Aside0 (w'.heap[g2]? = some (.cells #[.int .i64 a1_0, .int .i64 a1_1] 24 (0, 0))) ∧ Aside0 (w'.heap[g3]? = some (.cells #[.int .i64 0, .int .i64 0] 24 (0, 0))) ∧ Aside0 (Below w.heap.size w w'))
 case atStart => exact ⟨(0), (0), (false), (0), ey, ey, ey, ey, H', ⟨Nat.le_refl _⟩, ⟨Z K1⟩, ⟨Z K2⟩, ⟨Z K3⟩, ⟨YA HB⟩⟩
 case round =>
  clear H'
  obtain ⟨x1, x2, x3, x4, rfl, rfl, rfl, rfl, HA, HK1, K1, K2, K3, HB⟩ := hrel
  cases gk with
  | zero => exact absurd HA.out (by simp [impl_rangeDiv.l0])
  | succ k1 => ?_
  have H := HA.out
  clear HA
  simp only [impl_rangeDiv.l0] at H
  by_cases c1 : x4 < 2
  ·rw [if_pos c1] at H
   have d1 := dT c1
   clear c1
   by_cases c2 : x4 = 0
   ·rw [if_pos c2] at H
    have hix12 : ∀ w', (Instr.index 96 (.agg #[.int .i64 t1, .int .i64 t2, .int .i64 t3, .int .i64 t4]) (.int .i64 x4)).run Try.prog w' = .ok (.agg #[.int .i64 t1, .int .i64 t2]) w' := by intro w'; rw [c2]; first | (go_simp; done) | (go_simp; rfl) | rfl
    have d2 := eT c2
    have d3 := nF c2
    clear c2
    obtain ⟨t5, A2, H⟩ := bd H
    try dsimp only at H
    by_cases c3 : t5 = true
    ·subst c3
     rw [if_pos rfl] at H
     have H' := am H
     clear H
     go_wp2_with (first | ((with_reducible refine gate_dst (N := 10) rfl ?_); refine bxn 10 #[.int .i64 0, .int .i64 0] 24 HB fun g4 w5 K4 G4 hg hb => ?_; obtain ⟨N7,N8⟩ := ne_ hg K1; obtain ⟨N9,N10⟩ := ne_ hg K2; obtain ⟨N11,N12⟩ := ne_ hg K3; obtain ⟨K1, K2, K3, HB⟩ := bk3 K1 K2 K3 HB hb; clear hb hg; have := ns3 N8 N10 N12; have := cB2 K4) | ((with_reducible refine gate_callee (f := 47) rfl ?_); refine gL 21 Try.func47 (impl_Range_empty.calls _ _ _ _ A2.out) fun w6 hb => ?_; replace K1 := am (blk_below (g := g1) (o := b2 a0_0 a0_1 24) (ft N7 K1) hb); replace K2 := am (blk_below (g := g2) (o := b2 a1_0 a1_1 24) (ft N9 K2) hb); replace K3 := am (blk_below (g := g3) (o := b2 0 0 24) (ft N11 K3) hb); replace K4 := am (blk_below (g := g4) (o := b2 t1 t2 24) (by refine pf ?_; refine bp (ia2 t1 0) ?_ 1; refine pf ?_; refine bp (ia2 0 0) ?_ 0; exact Z K4) hb); replace HB := am (below_step (YA HB) hb); (try clear hb)))
     go_roundg k1
     case measure => have := HK1.out; omega
     case rel => exact ⟨(x1), (x2), (x3), (wrap64 (x4 + 1)), ey, ey, ey, ey, H', ⟨by have := HK1.out; omega⟩, ⟨Z K1⟩, ⟨Z K2⟩, ⟨Z K3⟩, ⟨YA HB⟩⟩
    replace c3 := Bool.eq_false_iff.mpr c3
    subst c3
    rw [if_neg ff] at H
    obtain ⟨⟨t6, t7⟩, A3, H⟩ := bd H
    try dsimp only at H
    by_cases c4 : x3 = true
    rotate_left
    ·replace c4 := Bool.eq_false_iff.mpr c4
     subst c4
     rw [if_neg ff] at H
     have H' := am H
     clear H
     go_wp2_with (first | ((with_reducible refine gate_dst (N := 10) rfl ?_); refine bxn 10 #[.int .i64 0, .int .i64 0] 24 HB fun g4 w5 K4 G4 hg hb => ?_; obtain ⟨N7,N8⟩ := ne_ hg K1; obtain ⟨N9,N10⟩ := ne_ hg K2; obtain ⟨N11,N12⟩ := ne_ hg K3; obtain ⟨K1, K2, K3, HB⟩ := bk3 K1 K2 K3 HB hb; clear hb hg; have := ns3 N8 N10 N12; have := cB2 K4) | ((with_reducible refine gate_callee (f := 47) rfl ?_); refine gL 21 Try.func47 (impl_Range_empty.calls _ _ _ _ A2.out) fun w6 hb => ?_; replace K1 := am (blk_below (g := g1) (o := b2 a0_0 a0_1 24) (ft N7 K1) hb); replace K2 := am (blk_below (g := g2) (o := b2 a1_0 a1_1 24) (ft N9 K2) hb); replace K3 := am (blk_below (g := g3) (o := b2 0 0 24) (ft N11 K3) hb); replace K4 := am (blk_below (g := g4) (o := b2 t1 t2 24) (by refine pf ?_; refine bp (ia2 t1 0) ?_ 1; refine pf ?_; refine bp (ia2 0 0) ?_ 0; exact Z K4) hb); replace HB := am (below_step (YA HB) hb); (try clear hb); have := ns2 N1 N3; have := cB2 K1; have := cB2 K4) | ((with_reducible refine gate_callee (f := 49) rfl ?_); refine gL 25 Try.func49 (impl_rangeCorners.calls _ _ _ _ _ _ _ _ _ A3.out) fun w7 hb => ?_; obtain ⟨K1, K2, K3, K4, HB⟩ := bk4 K1 K2 K3 K4 HB hb; (try clear hb)))
     go_roundg k1
     case measure => have := HK1.out; omega
     case rel => exact ⟨(t6), (t7), (true), (wrap64 (x4 + 1)), ey, ey, ey, ey, H', ⟨by have := HK1.out; omega⟩, ⟨Z K1⟩, ⟨Z K2⟩, ⟨Z K3⟩, ⟨YA HB⟩⟩
    subst c4
    rw [if_pos rfl] at H
    obtain ⟨i1, j7⟩ : ∃ j_ : Int, (mn t6 x1) = j_ := ⟨_, rfl⟩
    replace H : (impl_rangeDiv.l0 k1 i1 (mx t7 x2) true (wrap64 (x4 + 1)) a0_0 a0_1 a1_0 a1_1 t1 t2 t3 t4) = some (r1, r2, r3) := by first | (rw [j7] at H; exact H) | (simp only [j7] at H ⊢; exact H)
    (try rw [j7] at A2)
    (try rw [j7] at A3)
    have hji23_ : (if x1 < t6 then x1 else t6) = i1 := j7
    obtain ⟨i2, j8⟩ : ∃ j_ : Int, (mx t7 x2) = j_ := ⟨_, rfl⟩
    replace H : (impl_rangeDiv.l0 k1 i1 i2 true (wrap64 (x4 + 1)) a0_0 a0_1 a1_0 a1_1 t1 t2 t3 t4) = some (r1, r2, r3) := by first | (rw [j8] at H; exact H) | (simp only [j8] at H ⊢; exact H)
    (try rw [j8] at A2)
    (try rw [j8] at A3)
    have hji24_ : (if t7 < x2 then x2 else t7) = i2 := j8
    have H' := am H
    clear H
    go_wp2_with (first | ((with_reducible refine gate_dst (N := 10) rfl ?_); refine bxn 10 #[.int .i64 0, .int .i64 0] 24 HB fun g4 w5 K4 G4 hg hb => ?_; obtain ⟨N7,N8⟩ := ne_ hg K1; obtain ⟨N9,N10⟩ := ne_ hg K2; obtain ⟨N11,N12⟩ := ne_ hg K3; obtain ⟨K1, K2, K3, HB⟩ := bk3 K1 K2 K3 HB hb; clear hb hg; have := ns3 N8 N10 N12; have := cB2 K4) | ((with_reducible refine gate_callee (f := 47) rfl ?_); refine gL 21 Try.func47 (impl_Range_empty.calls _ _ _ _ A2.out) fun w6 hb => ?_; replace K1 := am (blk_below (g := g1) (o := b2 a0_0 a0_1 24) (ft N7 K1) hb); replace K2 := am (blk_below (g := g2) (o := b2 a1_0 a1_1 24) (ft N9 K2) hb); replace K3 := am (blk_below (g := g3) (o := b2 0 0 24) (ft N11 K3) hb); replace K4 := am (blk_below (g := g4) (o := b2 t1 t2 24) (by refine pf ?_; refine bp (ia2 t1 0) ?_ 1; refine pf ?_; refine bp (ia2 0 0) ?_ 0; exact Z K4) hb); replace HB := am (below_step (YA HB) hb); (try clear hb); have := ns2 N1 N3; have := cB2 K1; have := cB2 K4) | ((with_reducible refine gate_callee (f := 49) rfl ?_); refine gL 25 Try.func49 (impl_rangeCorners.calls _ _ _ _ _ _ _ _ _ A3.out) fun w7 hb => ?_; obtain ⟨K1, K2, K3, K4, HB⟩ := bk4 K1 K2 K3 K4 HB hb; (try clear hb)))
    go_roundg k1
    case measure => have := HK1.out; omega
    case rel => exact ⟨(i1), (i2), (true), (wrap64 (x4 + 1)), (by first | rfl | (simp; done) | (simp only [← j7] <;> (first | rfl | simp)) | (simp [*]; done)), (by first | rfl | (simp; done) | (simp only [← j8] <;> (first | rfl | simp)) | (simp [*]; done)), ey, ey, H', ⟨by have := HK1.out; omega⟩, ⟨Z K1⟩, ⟨Z K2⟩, ⟨Z K3⟩, ⟨YA HB⟩⟩
   rw [if_neg c2] at H
   have d2 := eF c2
   have d3 := nT c2
   by_cases c3 : x4 = 1
   rotate_left
   ·rw [if_neg c3] at H
    exact absurd H (by simp)
   rw [if_pos c3] at H
   have hix47 : ∀ w', (Instr.index 96 (.agg #[.int .i64 t1, .int .i64 t2, .int .i64 t3, .int .i64 t4]) (.int .i64 x4)).run Try.prog w' = .ok (.agg #[.int .i64 t3, .int .i64 t4]) w' := by intro w'; rw [c3]; first | (go_simp; done) | (go_simp; rfl) | rfl
   have d4 := eT c3
   have d5 := nF c3
   clear c3
   obtain ⟨t5, A2, H⟩ := bd H
   try dsimp only at H
   by_cases c4 : t5 = true
   ·subst c4
    rw [if_pos rfl] at H
    have H' := am H
    clear H
    go_wp2_with (first | ((with_reducible refine gate_dst (N := 10) rfl ?_); refine bxn 10 #[.int .i64 0, .int .i64 0] 24 HB fun g4 w5 K4 G4 hg hb => ?_; obtain ⟨N7,N8⟩ := ne_ hg K1; obtain ⟨N9,N10⟩ := ne_ hg K2; obtain ⟨N11,N12⟩ := ne_ hg K3; obtain ⟨K1, K2, K3, HB⟩ := bk3 K1 K2 K3 HB hb; clear hb hg; have := ns3 N8 N10 N12; have := cB2 K4) | ((with_reducible refine gate_callee (f := 47) rfl ?_); refine gL 21 Try.func47 (impl_Range_empty.calls _ _ _ _ A2.out) fun w6 hb => ?_; replace K1 := am (blk_below (g := g1) (o := b2 a0_0 a0_1 24) (ft N7 K1) hb); replace K2 := am (blk_below (g := g2) (o := b2 a1_0 a1_1 24) (ft N9 K2) hb); replace K3 := am (blk_below (g := g3) (o := b2 0 0 24) (ft N11 K3) hb); replace K4 := am (blk_below (g := g4) (o := b2 t3 t4 24) (by refine pf ?_; refine bp (ia2 t3 0) ?_ 1; refine pf ?_; refine bp (ia2 0 0) ?_ 0; exact Z K4) hb); replace HB := am (below_step (YA HB) hb); (try clear hb)))
    go_roundg k1
    case measure => have := HK1.out; omega
    case rel => exact ⟨(x1), (x2), (x3), (wrap64 (x4 + 1)), ey, ey, ey, ey, H', ⟨by have := HK1.out; omega⟩, ⟨Z K1⟩, ⟨Z K2⟩, ⟨Z K3⟩, ⟨YA HB⟩⟩
   replace c4 := Bool.eq_false_iff.mpr c4
   subst c4
   rw [if_neg ff] at H
   obtain ⟨⟨t6, t7⟩, A3, H⟩ := bd H
   try dsimp only at H
   by_cases c5 : x3 = true
   rotate_left
   ·replace c5 := Bool.eq_false_iff.mpr c5
    subst c5
    rw [if_neg ff] at H
    have H' := am H
    clear H
    go_wp2_with (first | ((with_reducible refine gate_dst (N := 10) rfl ?_); refine bxn 10 #[.int .i64 0, .int .i64 0] 24 HB fun g4 w5 K4 G4 hg hb => ?_; obtain ⟨N7,N8⟩ := ne_ hg K1; obtain ⟨N9,N10⟩ := ne_ hg K2; obtain ⟨N11,N12⟩ := ne_ hg K3; obtain ⟨K1, K2, K3, HB⟩ := bk3 K1 K2 K3 HB hb; clear hb hg; have := ns3 N8 N10 N12; have := cB2 K4) | ((with_reducible refine gate_callee (f := 47) rfl ?_); refine gL 21 Try.func47 (impl_Range_empty.calls _ _ _ _ A2.out) fun w6 hb => ?_; replace K1 := am (blk_below (g := g1) (o := b2 a0_0 a0_1 24) (ft N7 K1) hb); replace K2 := am (blk_below (g := g2) (o := b2 a1_0 a1_1 24) (ft N9 K2) hb); replace K3 := am (blk_below (g := g3) (o := b2 0 0 24) (ft N11 K3) hb); replace K4 := am (blk_below (g := g4) (o := b2 t3 t4 24) (by refine pf ?_; refine bp (ia2 t3 0) ?_ 1; refine pf ?_; refine bp (ia2 0 0) ?_ 0; exact Z K4) hb); replace HB := am (below_step (YA HB) hb); (try clear hb); have := ns2 N1 N3; have := cB2 K1; have := cB2 K4) | ((with_reducible refine gate_callee (f := 49) rfl ?_); refine gL 25 Try.func49 (impl_rangeCorners.calls _ _ _ _ _ _ _ _ _ A3.out) fun w7 hb => ?_; obtain ⟨K1, K2, K3, K4, HB⟩ := bk4 K1 K2 K3 K4 HB hb; (try clear hb)))
    go_roundg k1
    case measure => have := HK1.out; omega
    case rel => exact ⟨(t6), (t7), (true), (wrap64 (x4 + 1)), ey, ey, ey, ey, H', ⟨by have := HK1.out; omega⟩, ⟨Z K1⟩, ⟨Z K2⟩, ⟨Z K3⟩, ⟨YA HB⟩⟩
   subst c5
   rw [if_pos rfl] at H
   obtain ⟨i1, j7⟩ : ∃ j_ : Int, (mn t6 x1) = j_ := ⟨_, rfl⟩
   replace H : (impl_rangeDiv.l0 k1 i1 (mx t7 x2) true (wrap64 (x4 + 1)) a0_0 a0_1 a1_0 a1_1 t1 t2 t3 t4) = some (r1, r2, r3) := by first | (rw [j7] at H; exact H) | (simp only [j7] at H ⊢; exact H)
   (try rw [j7] at A2)
   (try rw [j7] at A3)
   have hji58_ : (if x1 < t6 then x1 else t6) = i1 := j7
   obtain ⟨i2, j8⟩ : ∃ j_ : Int, (mx t7 x2) = j_ := ⟨_, rfl⟩
   replace H : (impl_rangeDiv.l0 k1 i1 i2 true (wrap64 (x4 + 1)) a0_0 a0_1 a1_0 a1_1 t1 t2 t3 t4) = some (r1, r2, r3) := by first | (rw [j8] at H; exact H) | (simp only [j8] at H ⊢; exact H)
   (try rw [j8] at A2)
   (try rw [j8] at A3)
   have hji59_ : (if t7 < x2 then x2 else t7) = i2 := j8
   have H' := am H
   clear H
   go_wp2_with (first | ((with_reducible refine gate_dst (N := 10) rfl ?_); refine bxn 10 #[.int .i64 0, .int .i64 0] 24 HB fun g4 w5 K4 G4 hg hb => ?_; obtain ⟨N7,N8⟩ := ne_ hg K1; obtain ⟨N9,N10⟩ := ne_ hg K2; obtain ⟨N11,N12⟩ := ne_ hg K3; obtain ⟨K1, K2, K3, HB⟩ := bk3 K1 K2 K3 HB hb; clear hb hg; have := ns3 N8 N10 N12; have := cB2 K4) | ((with_reducible refine gate_callee (f := 47) rfl ?_); refine gL 21 Try.func47 (impl_Range_empty.calls _ _ _ _ A2.out) fun w6 hb => ?_; replace K1 := am (blk_below (g := g1) (o := b2 a0_0 a0_1 24) (ft N7 K1) hb); replace K2 := am (blk_below (g := g2) (o := b2 a1_0 a1_1 24) (ft N9 K2) hb); replace K3 := am (blk_below (g := g3) (o := b2 0 0 24) (ft N11 K3) hb); replace K4 := am (blk_below (g := g4) (o := b2 t3 t4 24) (by refine pf ?_; refine bp (ia2 t3 0) ?_ 1; refine pf ?_; refine bp (ia2 0 0) ?_ 0; exact Z K4) hb); replace HB := am (below_step (YA HB) hb); (try clear hb); have := ns2 N1 N3; have := cB2 K1; have := cB2 K4) | ((with_reducible refine gate_callee (f := 49) rfl ?_); refine gL 25 Try.func49 (impl_rangeCorners.calls _ _ _ _ _ _ _ _ _ A3.out) fun w7 hb => ?_; obtain ⟨K1, K2, K3, K4, HB⟩ := bk4 K1 K2 K3 K4 HB hb; (try clear hb)))
   go_roundg k1
   case measure => have := HK1.out; omega
   case rel => exact ⟨(i1), (i2), (true), (wrap64 (x4 + 1)), (by first | rfl | (simp; done) | (simp only [← j7] <;> (first | rfl | simp)) | (simp [*]; done)), (by first | rfl | (simp; done) | (simp only [← j8] <;> (first | rfl | simp)) | (simp [*]; done)), ey, ey, H', ⟨by have := HK1.out; omega⟩, ⟨Z K1⟩, ⟨Z K2⟩, ⟨Z K3⟩, ⟨YA HB⟩⟩
  rw [if_neg c1] at H
  have d1 := dF c1
  clear c1
  obtain ⟨⟨t5, t6⟩, A2, H⟩ := bd H
  try dsimp only at H
  have C1 := am H
  clear H
  go_upto_if 39 with (first | ((with_reducible refine gate_callee (f := 48) rfl ?_); refine gL 38 Try.func48 (impl_rangeNone.calls _ _ _ A2.out) fun w5 hb => ?_; obtain ⟨K1, K2, K3, HB⟩ := bk3 K1 K2 K3 HB hb; (try clear hb)) | ((with_reducible refine gate_dst (N := 13) rfl ?_); refine bxn 13 #[.int .i64 0, .int .i64 0] 24 HB fun g4 w6 K4 G4 hg hb => ?_; obtain ⟨N7,N8⟩ := ne_ hg K1; obtain ⟨N9,N10⟩ := ne_ hg K2; obtain ⟨N11,N12⟩ := ne_ hg K3; obtain ⟨K1, K2, K3, HB⟩ := bk3 K1 K2 K3 HB hb; clear hb hg; have := ns3 N8 N10 N12; have := cB2 K4))
  (try simp only [Act.put, List.setIfInBounds_toArray, List.set_cons_zero, List.set_cons_succ])
  go_cut [] (fun wc => ∃ (kq : Nat) (x5 : Int) (x6 : Int), Aside0 (impl_rangeDiv.j1 kq a0_0 a0_1 a1_0 a1_1 x5 x6 = some (r1, r2, r3)) ∧ Aside0 (kq ≤ k1) ∧ Bx2 wc g1 a0_0 a0_1 24 ∧ Bx2 wc g2 a1_0 a1_1 24 ∧ Bx2 wc g3 0 0 24 ∧ Bx2 wc g4 x5 x6 24 ∧ Aside0 (Below w.heap.size w wc))
  case first =>
   have H := C1.out
   clear C1
   by_cases c2 : x3 = true
   rotate_left
   ·replace c2 := Bool.eq_false_iff.mpr c2
    subst c2
    rw [if_neg ff] at H
    have H' := am H
    clear H
    go_wp2
    go_meet
    case rel => exact ⟨_, (t5), (t6), H', le1 HK1, ⟨ft N7 K1⟩, ⟨ft N9 K2⟩, ⟨ft N11 K3⟩, ⟨by refine pf ?_; refine bp (ia2 t5 0) ?_ 1; refine pf ?_; refine bp (ia2 0 0) ?_ 0; exact Z K4⟩, ⟨YA HB⟩⟩
   subst c2
   rw [if_pos rfl] at H
   obtain ⟨⟨t7, t8⟩, A3, H⟩ := bd H
   try dsimp only at H
   have H' := am H
   clear H
   go_wp2_with (first | ((with_reducible refine gate_callee (f := 50) rfl ?_); refine gL 42 Try.func50 (impl_rangeFrom.calls _ _ _ _ _ A3.out) fun w7 hb => ?_; replace K1 := am (blk_below (g := g1) (o := b2 a0_0 a0_1 24) (ft N7 K1) hb); replace K2 := am (blk_below (g := g2) (o := b2 a1_0 a1_1 24) (ft N9 K2) hb); replace K3 := am (blk_below (g := g3) (o := b2 0 0 24) (ft N11 K3) hb); replace K4 := am (blk_below (g := g4) (o := b2 t5 t6 24) (by refine pf ?_; refine bp (ia2 t5 0) ?_ 1; refine pf ?_; refine bp (ia2 0 0) ?_ 0; exact Z K4) hb); replace HB := am (below_step (YA HB) hb); (try clear hb); have := ns3 N8 N10 N12; have := cB2 K4))
   go_meet
   case rel => exact ⟨_, (t7), (t8), H', le1 HK1, ⟨ft N7 K1⟩, ⟨ft N9 K2⟩, ⟨ft N11 K3⟩, ⟨by refine pf ?_; refine bp (ia2 t7 t6) ?_ 1; refine pf ?_; refine bp (ia2 t5 t6) ?_ 0; exact Z K4⟩, ⟨YA HB⟩⟩
  clear C1
  (try clear d1)
  obtain ⟨kq, x5, x6, HA, J1, K1, K2, K3, K4, HB⟩ := hcut
  cases kq with
  | zero => exact absurd HA.out (by simp [impl_rangeDiv.j1])
  | succ k2 => ?_
  have H := HA.out
  clear HA
  simp only [impl_rangeDiv.j1] at H
  have C2 := am H
  clear H
  go_upto_region 15 with (fail)
  go_cut [48] (fun v5 wc => ∃ (kq : Nat) (x7 : Bool), v5 = .bool x7 ∧ Aside0 (impl_rangeDiv.j2 kq ([] : List Int) x7 a1_0 a1_1 x5 x6 = some (r1, r2, r3)) ∧ Aside0 (kq ≤ k2) ∧ Aside0 (Kd.R (Kd.int .i64) 3 wc w.heap.size (fun _ => True) (.slice none 0 0) ([] : List Int)) ∧ Bx2 wc g1 a0_0 a0_1 24 ∧ Bx2 wc g2 a1_0 a1_1 24 ∧ Bx2 wc g3 0 0 24 ∧ Bx2 wc g4 x5 x6 24 ∧ Aside0 (Below w.heap.size w wc))
  case first =>
   have H := C2.out
   clear C2
   obtain ⟨t7, A3, H⟩ := bd H
   try dsimp only at H
   by_cases c2 : t7 = true
   rotate_left
   ·replace c2 := Bool.eq_false_iff.mpr c2
    subst c2
    rw [if_neg ff] at H
    have H' := am H
    clear H
    have := ns3 N1 N3 N7
    have := cB2 K1
    go_wp2_with (first | ((with_reducible refine gate_callee (f := 95) rfl ?_); refine gL 44 Try.func95 (impl_RangeHas.calls _ _ _ _ _ A3.out) fun w7 hb => ?_; obtain ⟨K1, K2, K3, K4, HB⟩ := bk4 K1 K2 K3 K4 HB hb; (try clear hb)))
    go_meet
    case rel => exact ⟨_, (false), ey, H', ⟨by have := HK1.out; have := J1.out; first | omega | exact Nat.le_refl _⟩, ⟨by first | exact Kd.R_nil _ _ _ _ _ | exact Kd.N_nil _ _ _ _ _ | exact Kd.V_nil _ _ _ _ _ | exact Kd.Q_nil _ _ _ _ _ | exact Kd.S_nil _ _ _ _ _⟩, ⟨Z K1⟩, ⟨Z K2⟩, ⟨Z K3⟩, ⟨Z K4⟩, ⟨YA HB⟩⟩
   subst c2
   rw [if_pos rfl] at H
   obtain ⟨t8, A4, H⟩ := bd H
   try dsimp only at H
   have H' := am H
   clear H
   have := ns3 N1 N3 N7
   have := cB2 K1
   go_wp2_with (first | ((with_reducible refine gate_callee (f := 95) rfl ?_); refine gL 44 Try.func95 (impl_RangeHas.calls _ _ _ _ _ A3.out) fun w7 hb => ?_; obtain ⟨K1, K2, K3, K4, HB⟩ := bk4 K1 K2 K3 K4 HB hb; (try clear hb); have := ns2 N5 N9; have := cB2 K2) | (go_at_call 95; (with_reducible refine (impl_RangeHas.calls _ _ _ _ _ A4.out).mono ?_); rintro e w8 ⟨rfl, hb⟩; obtain ⟨K1, K2, K3, K4, HB⟩ := bk4 K1 K2 K3 K4 HB hb; (try clear hb)))
   go_meet
   case rel => exact ⟨_, (t8), ey, H', ⟨by have := HK1.out; have := J1.out; first | omega | exact Nat.le_refl _⟩, ⟨by first | exact Kd.R_nil _ _ _ _ _ | exact Kd.N_nil _ _ _ _ _ | exact Kd.V_nil _ _ _ _ _ | exact Kd.Q_nil _ _ _ _ _ | exact Kd.S_nil _ _ _ _ _⟩, ⟨Z K1⟩, ⟨Z K2⟩, ⟨Z K3⟩, ⟨Z K4⟩, ⟨YA HB⟩⟩
  clear C2
  obtain ⟨kq, x7, rfl, HA, J2, O1, K1, K2, K3, K4, HB⟩ := hcut
  cases kq with
  | zero => exact absurd HA.out (by simp [impl_rangeDiv.j2])
  | succ k3 => ?_
  have H := HA.out
  clear HA
  simp only [impl_rangeDiv.j2] at H
  by_cases c2 : x7 = true
  rotate_left
  ·replace c2 := Bool.eq_false_iff.mpr c2
   subst c2
   rw [if_neg ff] at H
   obtain ⟨t7, A3, H⟩ := bd H
   try dsimp only at H
   by_cases c3 : t7 = true
   rotate_left
   ·replace c3 := Bool.eq_false_iff.mpr c3
    subst c3
    rw [if_neg ff] at H
    obtain ⟨rfl, rfl, rfl⟩ := sj3 H
    have := ns3 N2 N5 N9
    have := cB2 K2
    go_wp2_with (first | ((with_reducible refine gate_callee (f := 95) rfl ?_); refine gL 53 Try.func95 (impl_RangeHas.calls _ _ _ _ _ A3.out) fun w7 hb => ?_; replace O1 := am (Kd.R_below (RZ O1) hb); obtain ⟨K1, K2, K3, K4, HB⟩ := bk4 K1 K2 K3 K4 HB hb; (try clear hb); have := ns3 N8 N12 N4; have := cB2 K4; have := cB2 K3))
    refine bodyPost_ret (results_ct rfl _ _ g3 24 #[.int .i64 x5, .int .i64 x6] (0, 0) _ rfl (by refine pf ?_; refine bp (ia2 x5 0) ?_ 1; refine pf ?_; refine bp (ia2 0 0) ?_ 0; exact Z K3) Try.underlying24 rfl (by kernel_rfl)) rfl ?_
    exact ⟨_, ez, by (with_reducible repeat (first | apply Kd.R_alloc | apply Kd.R_drewN | apply Kd.R_drew)); exact Kd.R_mono (Kd.R_far (p := ⟨g3, 1, none⟩) (Kd.R_far (p := ⟨g3, 0, none⟩) (Kd.R_types O1.out K3.out (by decide)) (fun _ hk => hk.2) (.int .i64 x5)) (fun _ hk => hk.2) (.int .i64 x6)) (fun _ hk => trivial), YA HB⟩
   subst c3
   rw [if_pos rfl] at H
   by_cases c4 : ([] : List Int).length < 17592186044416
   rotate_left
   ·rw [if_neg c4] at H
    exact absurd H (by simp)
   rw [if_pos c4] at H
   have L1 := am c4
   clear c4
   obtain ⟨y1, y2⟩ : ∃ y_ : List Int, y_ = (([] : List Int) ++ [2]) := ⟨_, rfl⟩
   replace H : (some (x5, x6, y1)) = some (r1, r2, r3) := by first | (rw [y2]; with_reducible exact H) | (have H2_ := (Option.bind_some _ _).symm.trans H; rw [y2]; with_reducible exact H2_) | (have H2_ := (Option.bind_some _ _).symm.trans H; with_reducible exact H2_) | with_reducible exact H | (rw [y2]; exact H) | exact H
   have Y25 := am y2
   clear y2
   obtain ⟨rfl, rfl, rfl⟩ := sj3 H
   have := ns3 N2 N5 N9
   have := cB2 K2
   go_wp2_with (first | ((with_reducible refine gate_callee (f := 95) rfl ?_); refine gL 53 Try.func95 (impl_RangeHas.calls _ _ _ _ _ A3.out) fun w7 hb => ?_; replace O1 := am (Kd.R_below (RZ O1) hb); obtain ⟨K1, K2, K3, K4, HB⟩ := bk4 K1 K2 K3 K4 HB hb; (try clear hb)) | ((with_reducible refine gate_builtin (b := .append) (xs := #[.tmp 54, .tmp 55]) rfl ?_); at_builtin; refine Kd.R_append (Kd.int .i64) (w0 := w) w.heap.size rfl (.tmp 54) (.tmp 55) 25 3 (.int .i64 0) 8 rfl Try.underlying25 info3 rfl (by decide) (by omega) (.slice none 0 0) ([] : List Int) 2 [.int .i64 2] (fun _ => True) (fun _ => False) rfl rfl ?aP (fun _ hk => hk.elim) ?aF ?aO ?aB ?aS ?aL ?_; (case aP => exact rfl); (case aB => exact (YA HB)); (case aF => exact (fun _ _ => trivial)); (case aO => exact (RZ O1)); (case aS => exact (below_size (YA HB))); (case aL => have := L1.out; omega); intro v6 w8 ho hb hg hat; rw [← Y25.out] at ho; have O2 := am (ho); replace K1 := am (blk_grown (g := g1) (o := b2 a0_0 a0_1 24) (Z K1) hg (Kd.R_ne O1.out K1.out (by decide))); replace K2 := am (blk_grown (g := g2) (o := b2 a1_0 a1_1 24) (Z K2) hg (Kd.R_ne O1.out K2.out (by decide))); replace K3 := am (blk_grown (g := g3) (o := b2 0 0 24) (Z K3) hg (Kd.R_ne O1.out K3.out (by decide))); replace K4 := am (blk_grown (g := g4) (o := b2 x5 x6 24) (Z K4) hg (Kd.R_ne O1.out K4.out (by decide))); replace HB := am (hb); clear O1; clear ho hb hg hat; have := ns3 N8 N12 N4; have := cB2 K4; have := cB2 K3))
   refine bodyPost_ret (results_ct rfl _ _ g3 24 #[.int .i64 x5, .int .i64 x6] (0, 0) _ rfl (by refine pf ?_; refine bp (ia2 x5 0) ?_ 1; refine pf ?_; refine bp (ia2 0 0) ?_ 0; exact Z K3) Try.underlying24 rfl (by kernel_rfl)) rfl ?_
   exact ⟨_, ez, by (with_reducible repeat (first | apply Kd.R_alloc | apply Kd.R_drewN | apply Kd.R_drew)); exact Kd.R_mono (Kd.R_far (p := ⟨g3, 1, none⟩) (Kd.R_far (p := ⟨g3, 0, none⟩) (Kd.R_types O2.out K3.out (by decide)) (fun _ hk => hk.2) (.int .i64 x5)) (fun _ hk => hk.2) (.int .i64 x6)) (fun _ hk => trivial), YA HB⟩
  subst c2
  rw [if_pos rfl] at H
  by_cases c3 : ([] : List Int).length < 17592186044416
  rotate_left
  ·rw [if_neg c3] at H
   exact absurd H (by simp)
  rw [if_pos c3] at H
  have L1 := am c3
  clear c3
  obtain ⟨y1, y2⟩ : ∃ y_ : List Int, y_ = (([] : List Int) ++ [1]) := ⟨_, rfl⟩
  replace H : ((impl_RangeHas.f a1_0 a1_1 0).bind fun t7 => (if t7 = true then (if y1.length < 17592186044416 then (some (x5, x6, (y1 ++ [2]))) else (none)) else (some (x5, x6, y1)))) = some (r1, r2, r3) := by first | (rw [y2]; with_reducible exact H) | (have H2_ := (Option.bind_some _ _).symm.trans H; rw [y2]; with_reducible exact H2_) | (have H2_ := (Option.bind_some _ _).symm.trans H; with_reducible exact H2_) | with_reducible exact H | (rw [y2]; exact H) | exact H
  have Y25 := am y2
  clear y2
  obtain ⟨t7, A3, H⟩ := bd H
  try dsimp only at H
  by_cases c4 : t7 = true
  rotate_left
  ·replace c4 := Bool.eq_false_iff.mpr c4
   subst c4
   rw [if_neg ff] at H
   obtain ⟨rfl, rfl, rfl⟩ := sj3 H
   go_wp2_with (first | ((with_reducible refine gate_builtin (b := .append) (xs := #[.tmp 49, .tmp 50]) rfl ?_); at_builtin; refine Kd.R_append (Kd.int .i64) (w0 := w) w.heap.size rfl (.tmp 49) (.tmp 50) 25 3 (.int .i64 0) 8 rfl Try.underlying25 info3 rfl (by decide) (by omega) (.slice none 0 0) ([] : List Int) 1 [.int .i64 1] (fun _ => True) (fun _ => False) rfl rfl ?aP (fun _ hk => hk.elim) ?aF ?aO ?aB ?aS ?aL ?_; (case aP => exact rfl); (case aB => exact (YA HB)); (case aF => exact (fun _ _ => trivial)); (case aO => exact (RZ O1)); (case aS => exact (below_size (YA HB))); (case aL => have := L1.out; omega); intro v6 w7 ho hb hg hat; rw [← Y25.out] at ho; have O2 := am (ho); replace K1 := am (blk_grown (g := g1) (o := b2 a0_0 a0_1 24) (Z K1) hg (Kd.R_ne O1.out K1.out (by decide))); replace K2 := am (blk_grown (g := g2) (o := b2 a1_0 a1_1 24) (Z K2) hg (Kd.R_ne O1.out K2.out (by decide))); replace K3 := am (blk_grown (g := g3) (o := b2 0 0 24) (Z K3) hg (Kd.R_ne O1.out K3.out (by decide))); replace K4 := am (blk_grown (g := g4) (o := b2 x5 x6 24) (Z K4) hg (Kd.R_ne O1.out K4.out (by decide))); replace HB := am (hb); clear O1; clear ho hb hg hat; have := ns3 N2 N5 N9; have := cB2 K2) | ((with_reducible refine gate_callee (f := 95) rfl ?_); refine gL 53 Try.func95 (impl_RangeHas.calls _ _ _ _ _ A3.out) fun w8 hb => ?_; replace O2 := am (Kd.R_below (RZ O2) hb); obtain ⟨K1, K2, K3, K4, HB⟩ := bk4 K1 K2 K3 K4 HB hb; (try clear hb); have := ns3 N8 N12 N4; have := cB2 K4; have := cB2 K3))
   refine bodyPost_ret (results_ct rfl _ _ g3 24 #[.int .i64 x5, .int .i64 x6] (0, 0) _ rfl (by refine pf ?_; refine bp (ia2 x5 0) ?_ 1; refine pf ?_; refine bp (ia2 0 0) ?_ 0; exact Z K3) Try.underlying24 rfl (by kernel_rfl)) rfl ?_
   exact ⟨_, ez, by (with_reducible repeat (first | apply Kd.R_alloc | apply Kd.R_drewN | apply Kd.R_drew)); exact Kd.R_mono (Kd.R_far (p := ⟨g3, 1, none⟩) (Kd.R_far (p := ⟨g3, 0, none⟩) (Kd.R_types O2.out K3.out (by decide)) (fun _ hk => hk.2) (.int .i64 x5)) (fun _ hk => hk.2) (.int .i64 x6)) (fun _ hk => trivial), YA HB⟩
  subst c4
  rw [if_pos rfl] at H
  by_cases c5 : y1.length < 17592186044416
  rotate_left
  ·rw [if_neg c5] at H
   exact absurd H (by simp)
  rw [if_pos c5] at H
  have L2 := am c5
  clear c5
  obtain ⟨y3, y4⟩ : ∃ y_ : List Int, y_ = (y1 ++ [2]) := ⟨_, rfl⟩
  replace H : (some (x5, x6, y3)) = some (r1, r2, r3) := by first | (rw [y4]; with_reducible exact H) | (have H2_ := (Option.bind_some _ _).symm.trans H; rw [y4]; with_reducible exact H2_) | (have H2_ := (Option.bind_some _ _).symm.trans H; with_reducible exact H2_) | with_reducible exact H | (rw [y4]; exact H) | exact H
  have Y26 := am y4
  clear y4
  obtain ⟨rfl, rfl, rfl⟩ := sj3 H
  go_wp2_with (first | ((with_reducible refine gate_builtin (b := .append) (xs := #[.tmp 49, .tmp 50]) rfl ?_); at_builtin; refine Kd.R_append (Kd.int .i64) (w0 := w) w.heap.size rfl (.tmp 49) (.tmp 50) 25 3 (.int .i64 0) 8 rfl Try.underlying25 info3 rfl (by decide) (by omega) (.slice none 0 0) ([] : List Int) 1 [.int .i64 1] (fun _ => True) (fun _ => False) rfl rfl ?aP (fun _ hk => hk.elim) ?aF ?aO ?aB ?aS ?aL ?_; (case aP => exact rfl); (case aB => exact (YA HB)); (case aF => exact (fun _ _ => trivial)); (case aO => exact (RZ O1)); (case aS => exact (below_size (YA HB))); (case aL => have := L1.out; omega); intro v6 w7 ho hb hg hat; rw [← Y25.out] at ho; have O2 := am (ho); replace K1 := am (blk_grown (g := g1) (o := b2 a0_0 a0_1 24) (Z K1) hg (Kd.R_ne O1.out K1.out (by decide))); replace K2 := am (blk_grown (g := g2) (o := b2 a1_0 a1_1 24) (Z K2) hg (Kd.R_ne O1.out K2.out (by decide))); replace K3 := am (blk_grown (g := g3) (o := b2 0 0 24) (Z K3) hg (Kd.R_ne O1.out K3.out (by decide))); replace K4 := am (blk_grown (g := g4) (o := b2 x5 x6 24) (Z K4) hg (Kd.R_ne O1.out K4.out (by decide))); replace HB := am (hb); clear O1; clear ho hb hg hat; have := ns3 N2 N5 N9; have := cB2 K2) | ((with_reducible refine gate_callee (f := 95) rfl ?_); refine gL 53 Try.func95 (impl_RangeHas.calls _ _ _ _ _ A3.out) fun w8 hb => ?_; replace O2 := am (Kd.R_below (RZ O2) hb); obtain ⟨K1, K2, K3, K4, HB⟩ := bk4 K1 K2 K3 K4 HB hb; (try clear hb)) | ((with_reducible refine gate_builtin (b := .append) (xs := #[.tmp 54, .tmp 55]) rfl ?_); at_builtin; refine Kd.R_append (Kd.int .i64) (w0 := w) w.heap.size rfl (.tmp 54) (.tmp 55) 25 3 (.int .i64 0) 8 rfl Try.underlying25 info3 rfl (by decide) (by omega) v6 y1 2 [.int .i64 2] (fun _ => True) (fun _ => False) rfl rfl ?aP (fun _ hk => hk.elim) ?aF ?aO ?aB ?aS ?aL ?_; (case aP => exact rfl); (case aB => exact (YA HB)); (case aF => exact (fun _ _ => trivial)); (case aO => exact (RZ O2)); (case aS => exact (below_size (YA HB))); (case aL => have := L2.out; omega); intro v7 w9 ho hb hg hat; rw [← Y26.out] at ho; have O3 := am (ho); replace K1 := am (blk_grown (g := g1) (o := b2 a0_0 a0_1 24) (Z K1) hg (Kd.R_ne O2.out K1.out (by decide))); replace K2 := am (blk_grown (g := g2) (o := b2 a1_0 a1_1 24) (Z K2) hg (Kd.R_ne O2.out K2.out (by decide))); replace K3 := am (blk_grown (g := g3) (o := b2 0 0 24) (Z K3) hg (Kd.R_ne O2.out K3.out (by decide))); replace K4 := am (blk_grown (g := g4) (o := b2 x5 x6 24) (Z K4) hg (Kd.R_ne O2.out K4.out (by decide))); replace HB := am (hb); clear O2; clear ho hb hg hat; have := ns3 N8 N12 N4; have := cB2 K4; have := cB2 K3))
  refine bodyPost_ret (results_ct rfl _ _ g3 24 #[.int .i64 x5, .int .i64 x6] (0, 0) _ rfl (by refine pf ?_; refine bp (ia2 x5 0) ?_ 1; refine pf ?_; refine bp (ia2 0 0) ?_ 0; exact Z K3) Try.underlying24 rfl (by kernel_rfl)) rfl ?_
  exact ⟨_, ez, by (with_reducible repeat (first | apply Kd.R_alloc | apply Kd.R_drewN | apply Kd.R_drew)); exact Kd.R_mono (Kd.R_far (p := ⟨g3, 1, none⟩) (Kd.R_far (p := ⟨g3, 0, none⟩) (Kd.R_types O3.out K3.out (by decide)) (fun _ hk => hk.2) (.int .i64 x5)) (fun _ hk => hk.2) (.int .i64 x6)) (fun _ hk => trivial), YA HB⟩
end
section
attribute [local go_sem] max2_int min2_int max_two min_two max_three min_three max_four min_four
attribute [local go_sem] Go.Proofs.YthbkakcchgnhpaaSet.isSome_setCell
def impl_RangeJoin.j0 : Nat → Bool → Int → Int → Int → Int → Option (Int × Int)
 | 0, _, _, _, _, _ => none
 | k + 1, x1, x2, x3, x4, x5 => if x1 = true then ((impl_rangeNone.f).bind fun u1 => (some (u1.1, u1.2))) else ((impl_Range_empty.f x2 x3).bind fun t1 => (if t1 = true then (some (x4, x5)) else ((impl_Range_empty.f x4 x5).bind fun t2 => (if t2 = true then (some (x2, x3)) else (some (mn x2 x4, mx x3 x5))))))
def impl_RangeJoin.f (k : Nat) (a0_0 : Int) (a0_1 : Int) (a1_0 : Int) (a1_1 : Int) : Option (Int × Int) := (impl_RangeOk.f a0_0 a0_1).bind fun t1 => (if t1 = true then ((impl_RangeOk.f a1_0 a1_1).bind fun t2 => (impl_RangeJoin.j0 k (!t2) a0_0 a0_1 a1_0 a1_1)) else (impl_RangeJoin.j0 k true a0_0 a0_1 a1_0 a1_1))
theorem impl_RangeJoin.mono_l : ∀ k, (∀ y0 y1 y2 y3 y4, LeO (impl_RangeJoin.j0 k y0 y1 y2 y3 y4) (impl_RangeJoin.j0 (k + 1) y0 y1 y2 y3 y4))
 | 0 => fun _ _ _ _ _ r h => by simp [impl_RangeJoin.j0] at h
 | k + 1 => by
  have ih0 := impl_RangeJoin.mono_l k
  ·intro y0 y1 y2 y3 y4
   unfold impl_RangeJoin.j0
   repeat' first | (with_reducible first | apply ih0 | apply LeO.refl | apply LeO.none | refine LeO.ite ?_ ?_ | refine LeO.bind ?_ (fun _ => ?_)) | apply ih0 | apply LeO.none | refine LeO.ite ?_ ?_ | refine LeO.bind ?_ (fun _ => ?_)
theorem impl_RangeJoin.mono : ∀ a0 a1 a2 a3 k, LeO (impl_RangeJoin.f k a0 a1 a2 a3) (impl_RangeJoin.f (k + 1) a0 a1 a2 a3) := by
 intro a0 a1 a2 a3 k
 have ih0 := impl_RangeJoin.mono_l k
 unfold impl_RangeJoin.f
 repeat' first | (with_reducible first | apply ih0 | apply LeO.refl | apply LeO.none | refine LeO.ite ?_ ?_ | refine LeO.bind ?_ (fun _ => ?_)) | apply ih0 | apply LeO.none | refine LeO.ite ?_ ?_ | refine LeO.bind ?_ (fun _ => ?_)
set_option maxHeartbeats 8000000 in
set_option maxRecDepth 100000 in
theorem impl_RangeJoin.calls (k : Nat) (a0_0 : Int) (a0_1 : Int) (a1_0 : Int) (a1_1 : Int) (r1 : Int) (r2 : Int) (w : World) (h : impl_RangeJoin.f k a0_0 a0_1 a1_0 a1_1 = some (r1, r2)) :
  Calls Try.prog 84 #[.agg #[.int .i64 a0_0, .int .i64 a0_1], .agg #[.int .i64 a1_0, .int .i64 a1_1]] w fun e w' => e = .returned (.agg #[.int .i64 r1, .int .i64 r2]) ∧ Below w.heap.size w w' := by
 have hu24 := Try.underlying24
 have HB := am (Below.refl w.heap.size w)
 have H : ((impl_RangeOk.f a0_0 a0_1).bind fun t1 => (if t1 = true then ((impl_RangeOk.f a1_0 a1_1).bind fun t2 => (impl_RangeJoin.j0 k (!t2) a0_0 a0_1 a1_0 a1_1)) else (impl_RangeJoin.j0 k true a0_0 a0_1 a1_0 a1_1))) = some (r1, r2) := h
 clear h
 have C1 := am H
 clear H
 go_enter Try.func84, Try.ntmps84
 go_upto_region 1 with (first | ((with_reducible refine gate_dst (N := 2) rfl ?_); refine bxn 2 #[.int .i64 a0_0, .int .i64 a0_1] 24 HB fun g1 w1 K1 G1 hg hb => ?_; replace HB := am (below_step (YA HB) hb); clear hb hg) | ((with_reducible refine gate_dst (N := 3) rfl ?_); refine bxn 3 #[.int .i64 a1_0, .int .i64 a1_1] 24 HB fun g2 w2 K2 G2 hg hb => ?_; obtain ⟨N1,N2⟩ := ne_ hg K1; obtain ⟨K1, HB⟩ := bk1 K1 HB hb; clear hb hg) | ((with_reducible refine gate_dst (N := 4) rfl ?_); refine bxn 4 #[.int .i64 0, .int .i64 0] 24 HB fun g3 w3 K3 G3 hg hb => ?_; obtain ⟨N3,N4⟩ := ne_ hg K1; obtain ⟨N5,N6⟩ := ne_ hg K2; obtain ⟨K1, K2, HB⟩ := bk2 K1 K2 HB hb; clear hb hg))
 (try simp only [Act.put, List.setIfInBounds_toArray, List.set_cons_zero, List.set_cons_succ])
 go_cut [5] (fun v1 wc => ∃ (kq : Nat) (x1 : Bool), v1 = .bool x1 ∧ Aside0 (impl_RangeJoin.j0 kq x1 a0_0 a0_1 a1_0 a1_1 = some (r1, r2)) ∧ Aside0 (kq ≤ k) ∧ Bx2 wc g1 a0_0 a0_1 24 ∧ Bx2 wc g2 a1_0 a1_1 24 ∧ Bx2 wc g3 0 0 24 ∧ Aside0 (Below w.heap.size w wc))
 case first =>
  have H := C1.out
  clear C1
  obtain ⟨t1, A1, H⟩ := bd H
  try dsimp only at H
  by_cases c1 : t1 = true
  rotate_left
  ·replace c1 := Bool.eq_false_iff.mpr c1
   subst c1
   rw [if_neg ff] at H
   have H' := am H
   clear H
   have := ns2 N1 N3
   have := cB2 K1
   go_wp2_with (first | ((with_reducible refine gate_callee (f := 46) rfl ?_); refine gL 7 Try.func46 (impl_RangeOk.calls _ _ _ _ A1.out) fun w4 hb => ?_; obtain ⟨K1, K2, K3, HB⟩ := bk3 K1 K2 K3 HB hb; (try clear hb)))
   go_meet
   case rel => exact ⟨_, (true), ey, H', le0, ⟨Z K1⟩, ⟨Z K2⟩, ⟨Z K3⟩, ⟨YA HB⟩⟩
  subst c1
  rw [if_pos rfl] at H
  obtain ⟨t2, A2, H⟩ := bd H
  try dsimp only at H
  have H' := am H
  clear H
  have := ns2 N1 N3
  have := cB2 K1
  go_wp2_with (first | ((with_reducible refine gate_callee (f := 46) rfl ?_); refine gL 7 Try.func46 (impl_RangeOk.calls _ _ _ _ A1.out) fun w4 hb => ?_; obtain ⟨K1, K2, K3, HB⟩ := bk3 K1 K2 K3 HB hb; (try clear hb); have := ns1 N5; have := cB2 K2) | (go_at_call 46; (with_reducible refine (impl_RangeOk.calls _ _ _ _ A2.out).mono ?_); rintro e w5 ⟨rfl, hb⟩; obtain ⟨K1, K2, K3, HB⟩ := bk3 K1 K2 K3 HB hb; (try clear hb)))
  go_meet
  case rel => exact ⟨_, (!t2), ey, H', le0, ⟨Z K1⟩, ⟨Z K2⟩, ⟨Z K3⟩, ⟨YA HB⟩⟩
 clear C1
 obtain ⟨kq, x1, rfl, HA, J1, K1, K2, K3, HB⟩ := hcut
 cases kq with
 | zero => exact absurd HA.out (by simp [impl_RangeJoin.j0])
 | succ k1 => ?_
 have H := HA.out
 clear HA
 simp only [impl_RangeJoin.j0] at H
 by_cases c1 : x1 = true
 ·subst c1
  rw [if_pos rfl] at H
  obtain ⟨⟨t3, t4⟩, A1, H⟩ := bd H
  try dsimp only at H
  obtain ⟨rfl, rfl⟩ := sj2 H
  go_wp2_with (first | ((with_reducible refine gate_callee (f := 48) rfl ?_); refine gL 14 Try.func48 (impl_rangeNone.calls _ _ _ A1.out) fun w4 hb => ?_; obtain ⟨K1, K2, K3, HB⟩ := bk3 K1 K2 K3 HB hb; (try clear hb); have := ns2 N4 N6; have := cB2 K3))
  refine bodyPost_ret (results_cell_row rfl _ _ g3 24 #[.int .i64 t3, .int .i64 t4] (0, 0) _ rfl (by refine pf ?_; refine bp (ia2 t3 0) ?_ 1; refine pf ?_; refine bp (ia2 0 0) ?_ 0; exact Z K3) Try.underlying24 rfl (by kernel_rfl)) rfl ?_
  exact ⟨ez, YA HB⟩
 replace c1 := Bool.eq_false_iff.mpr c1
 subst c1
 rw [if_neg ff] at H
 obtain ⟨t3, A1, H⟩ := bd H
 try dsimp only at H
 by_cases c2 : t3 = true
 ·subst c2
  rw [if_pos rfl] at H
  obtain ⟨rfl, rfl⟩ := sj2 H
  have := ns2 N1 N3
  have := cB2 K1
  go_wp2_with (first | ((with_reducible refine gate_callee (f := 47) rfl ?_); refine gL 17 Try.func47 (impl_Range_empty.calls _ _ _ _ A1.out) fun w4 hb => ?_; obtain ⟨K1, K2, K3, HB⟩ := bk3 K1 K2 K3 HB hb; (try clear hb); have := ns1 N5; have := cB2 K2; have := cB2 K3))
  refine bodyPost_ret (results_cell_row rfl _ _ g3 24 #[.int .i64 a1_0, .int .i64 a1_1] (0, 0) _ rfl (by refine pf ?_; refine bp (ia2 a1_0 0) ?_ 1; refine pf ?_; refine bp (ia2 0 0) ?_ 0; exact Z K3) Try.underlying24 rfl (by kernel_rfl)) rfl ?_
  exact ⟨ez, YA HB⟩
 replace c2 := Bool.eq_false_iff.mpr c2
 subst c2
 rw [if_neg ff] at H
 obtain ⟨t4, A2, H⟩ := bd H
 try dsimp only at H
 by_cases c3 : t4 = true
 ·subst c3
  rw [if_pos rfl] at H
  obtain ⟨rfl, rfl⟩ := sj2 H
  have := ns2 N1 N3
  have := cB2 K1
  go_wp2_with (first | ((with_reducible refine gate_callee (f := 47) rfl ?_); refine gL 17 Try.func47 (impl_Range_empty.calls _ _ _ _ A1.out) fun w4 hb => ?_; obtain ⟨K1, K2, K3, HB⟩ := bk3 K1 K2 K3 HB hb; (try clear hb); have := ns1 N5; have := cB2 K2) | ((with_reducible refine gate_callee (f := 47) rfl ?_); refine gL 21 Try.func47 (impl_Range_empty.calls _ _ _ _ A2.out) fun w5 hb => ?_; obtain ⟨K1, K2, K3, HB⟩ := bk3 K1 K2 K3 HB hb; (try clear hb); have := cB2 K1; have := cB2 K3))
  refine bodyPost_ret (results_cell_row rfl _ _ g3 24 #[.int .i64 a0_0, .int .i64 a0_1] (0, 0) _ rfl (by refine pf ?_; refine bp (ia2 a0_0 0) ?_ 1; refine pf ?_; refine bp (ia2 0 0) ?_ 0; exact Z K3) Try.underlying24 rfl (by kernel_rfl)) rfl ?_
  exact ⟨ez, YA HB⟩
 replace c3 := Bool.eq_false_iff.mpr c3
 subst c3
 rw [if_neg ff] at H
 obtain ⟨i1, j7⟩ : ∃ j_ : Int, (mn a0_0 a1_0) = j_ := ⟨_, rfl⟩
 replace H : (some (i1, mx a0_1 a1_1)) = some (r1, r2) := by first | (rw [j7] at H; exact H) | (simp only [j7] at H ⊢; exact H)
 (try rw [j7] at A1)
 (try rw [j7] at A2)
 have hji47_ : (if a1_0 < a0_0 then a1_0 else a0_0) = i1 := j7
 obtain ⟨i2, j8⟩ : ∃ j_ : Int, (mx a0_1 a1_1) = j_ := ⟨_, rfl⟩
 replace H : (some (i1, i2)) = some (r1, r2) := by first | (rw [j8] at H; exact H) | (simp only [j8] at H ⊢; exact H)
 (try rw [j8] at A1)
 (try rw [j8] at A2)
 have hji48_ : (if a0_1 < a1_1 then a1_1 else a0_1) = i2 := j8
 obtain ⟨rfl, rfl⟩ := sj2 H
 have := ns2 N1 N3
 have := cB2 K1
 go_wp2_with (first | ((with_reducible refine gate_callee (f := 47) rfl ?_); refine gL 17 Try.func47 (impl_Range_empty.calls _ _ _ _ A1.out) fun w4 hb => ?_; obtain ⟨K1, K2, K3, HB⟩ := bk3 K1 K2 K3 HB hb; (try clear hb); have := ns1 N5; have := cB2 K2) | ((with_reducible refine gate_callee (f := 47) rfl ?_); refine gL 21 Try.func47 (impl_Range_empty.calls _ _ _ _ A2.out) fun w5 hb => ?_; obtain ⟨K1, K2, K3, HB⟩ := bk3 K1 K2 K3 HB hb; (try clear hb); have := cB2 K1; have := cB2 K2; have := cB2 K3))
 refine bodyPost_ret (results_cell_row rfl _ _ g3 24 #[.int .i64 i1, .int .i64 i2] (0, 0) _ rfl (by refine pf ?_; refine bp (ia2 i1 0) ?_ 1; refine pf ?_; refine bp (ia2 0 0) ?_ 0; exact Z K3) Try.underlying24 rfl (by kernel_rfl)) rfl ?_
 exact ⟨by first | rfl | (simp [errW_none, errW_some] <;> rfl) | (simp only [← j7, ← j8]; first | rfl | (simp [errW_none, errW_some] <;> rfl)) | (simp [*, errW_none, errW_some] <;> rfl), YA HB⟩

def impl_Range_single.f (a0_0 : Int) (a0_1 : Int) : Option (Bool) := some (a0_0 == a0_1)
set_option maxHeartbeats 8000000 in
set_option maxRecDepth 100000 in
theorem impl_Range_single.calls (a0_0 : Int) (a0_1 : Int) (r : Bool) (w : World) (h : impl_Range_single.f a0_0 a0_1 = some r) :
  Calls Try.prog 96 #[.agg #[.int .i64 a0_0, .int .i64 a0_1]] w fun e w' => e = .returned (.bool r) ∧ Below w.heap.size w w' := by
 have hu24 := Try.underlying24
 have HB := am (Below.refl w.heap.size w)
 have H : (some (a0_0 == a0_1)) = some r := h
 clear h
 obtain rfl := Option.some.inj H
 go_enter Try.func96, Try.ntmps96
 go_wp2_with (first | ((with_reducible refine gate_dst (N := 1) rfl ?_); refine bxn 1 #[.int .i64 a0_0, .int .i64 a0_1] 24 HB fun g1 w1 K1 G1 hg hb => ?_; replace HB := am (below_step (YA HB) hb); clear hb hg; have := cB2 K1))
 go_ret
 exact ⟨ez, YA HB⟩

def impl_rangeRemBy.j0 : Nat → Int → Bool → Int → Int → Option (Int × Int)
 | 0, _, _, _, _ => none
 | k + 1, x1, x2, x3, x4 => if x2 = true then (some (x3, x4)) else (if x3 < 0 then (if x4 > 0 then (some (mx x3 (wrap64 (1 - x1)), mn x4 (wrap64 (x1 - 1)))) else (some (mx x3 (wrap64 (1 - x1)), 0))) else (if x4 > 0 then (some (0, mn x4 (wrap64 (x1 - 1)))) else (some (0, 0))))
def impl_rangeRemBy.f (k : Nat) (a0_0 : Int) (a0_1 : Int) (a1 : Int) (a2 : Int) : Option (Int × Int) := if a0_0 > (wrap64 (-a1)) then (impl_rangeRemBy.j0 k a2 (decide (a0_1 < a1)) a0_0 a0_1) else (impl_rangeRemBy.j0 k a2 false a0_0 a0_1)
theorem impl_rangeRemBy.mono_l : ∀ k, (∀ y0 y1 y2 y3, LeO (impl_rangeRemBy.j0 k y0 y1 y2 y3) (impl_rangeRemBy.j0 (k + 1) y0 y1 y2 y3))
 | 0 => fun _ _ _ _ r h => by simp [impl_rangeRemBy.j0] at h
 | k + 1 => by
  have ih0 := impl_rangeRemBy.mono_l k
  ·intro y0 y1 y2 y3
   unfold impl_rangeRemBy.j0
   repeat' first | (with_reducible first | apply ih0 | apply LeO.refl | apply LeO.none | refine LeO.ite ?_ ?_ | refine LeO.bind ?_ (fun _ => ?_)) | apply ih0 | apply LeO.none | refine LeO.ite ?_ ?_ | refine LeO.bind ?_ (fun _ => ?_)
theorem impl_rangeRemBy.mono : ∀ a0 a1 a2 a3 k, LeO (impl_rangeRemBy.f k a0 a1 a2 a3) (impl_rangeRemBy.f (k + 1) a0 a1 a2 a3) := by
 intro a0 a1 a2 a3 k
 have ih0 := impl_rangeRemBy.mono_l k
 unfold impl_rangeRemBy.f
 repeat' first | (with_reducible first | apply ih0 | apply LeO.refl | apply LeO.none | refine LeO.ite ?_ ?_ | refine LeO.bind ?_ (fun _ => ?_)) | apply ih0 | apply LeO.none | refine LeO.ite ?_ ?_ | refine LeO.bind ?_ (fun _ => ?_)
set_option maxHeartbeats 8000000 in
set_option maxRecDepth 100000 in
theorem impl_rangeRemBy.calls (k : Nat) (a0_0 : Int) (a0_1 : Int) (a1 : Int) (a2 : Int) (r1 : Int) (r2 : Int) (w : World) (h : impl_rangeRemBy.f k a0_0 a0_1 a1 a2 = some (r1, r2)) :
  Calls Try.prog 97 #[.agg #[.int .i64 a0_0, .int .i64 a0_1], .int .i64 a1, .int .i64 a2] w fun e w' => e = .returned (.agg #[.int .i64 r1, .int .i64 r2]) ∧ Below w.heap.size w w' := by
 have hu24 := Try.underlying24
 have HB := am (Below.refl w.heap.size w)
 have H : (if a0_0 > (wrap64 (-a1)) then (impl_rangeRemBy.j0 k a2 (decide (a0_1 < a1)) a0_0 a0_1) else (impl_rangeRemBy.j0 k a2 false a0_0 a0_1)) = some (r1, r2) := h
 clear h
 have C1 := am H
 clear H
 go_enter Try.func97, Try.ntmps97
 go_upto_region 1 with (first | ((with_reducible refine gate_dst (N := 3) rfl ?_); refine bxn 3 #[.int .i64 a0_0, .int .i64 a0_1] 24 HB fun g1 w1 K1 G1 hg hb => ?_; replace HB := am (below_step (YA HB) hb); clear hb hg) | ((with_reducible refine gate_dst (N := 6) rfl ?_); refine bxn 6 #[.int .i64 0, .int .i64 0] 24 HB fun g2 w2 K2 G2 hg hb => ?_; obtain ⟨N1,N2⟩ := ne_ hg K1; obtain ⟨K1, HB⟩ := bk1 K1 HB hb; clear hb hg))
 (try simp only [Act.put, List.setIfInBounds_toArray, List.set_cons_zero, List.set_cons_succ])
 go_cut [18] (fun v1 wc => ∃ (kq : Nat) (x1 : Bool), v1 = .bool x1 ∧ Aside0 (impl_rangeRemBy.j0 kq a2 x1 a0_0 a0_1 = some (r1, r2)) ∧ Aside0 (kq ≤ k) ∧ Bx2 wc g1 a0_0 a0_1 24 ∧ Bx2 wc g2 0 0 24 ∧ Aside0 (Below w.heap.size w wc))
 case first =>
  have H := C1.out
  clear C1
  by_cases c1 : a0_0 > (wrap64 (-a1))
  rotate_left
  ·rw [if_neg c1] at H
   have d1 := dF c1
   clear c1
   (first | rw [d1] | (simp only [i64_w, i32_w]; rw [d1]) | skip)
   have H' := am H
   clear H
   have := ns1 N1
   have := cB2 K1
   go_wp2
   go_meet
   case rel => exact ⟨_, (false), ey, H', le0, ⟨Z K1⟩, ⟨Z K2⟩, ⟨YA HB⟩⟩
  rw [if_pos c1] at H
  have d1 := dT c1
  clear c1
  (first | rw [d1] | (simp only [i64_w, i32_w]; rw [d1]) | skip)
  have H' := am H
  clear H
  have := ns1 N1
  have := cB2 K1
  go_wp2
  go_meet
  case rel => exact ⟨_, (decide (a0_1 < a1)), ey, H', le0, ⟨Z K1⟩, ⟨Z K2⟩, ⟨YA HB⟩⟩
 clear C1
 obtain ⟨kq, x1, rfl, HA, J1, K1, K2, HB⟩ := hcut
 cases kq with
 | zero => exact absurd HA.out (by simp [impl_rangeRemBy.j0])
 | succ k1 => ?_
 have H := HA.out
 clear HA
 simp only [impl_rangeRemBy.j0] at H
 by_cases c1 : x1 = true
 ·subst c1
  rw [if_pos rfl] at H
  obtain ⟨rfl, rfl⟩ := sj2 H
  have := ns1 N1
  have := cB2 K1
  have := cB2 K2
  go_wp2
  refine bodyPost_ret (results_cell_row rfl _ _ g2 24 #[.int .i64 a0_0, .int .i64 a0_1] (0, 0) _ rfl (by refine pf ?_; refine bp (ia2 a0_0 0) ?_ 1; refine pf ?_; refine bp (ia2 0 0) ?_ 0; exact Z K2) Try.underlying24 rfl (by kernel_rfl)) rfl ?_
  exact ⟨ez, YA HB⟩
 replace c1 := Bool.eq_false_iff.mpr c1
 subst c1
 rw [if_neg ff] at H
 by_cases c2 : a0_0 < 0
 rotate_left
 ·rw [if_neg c2] at H
  have d1 := dF c2
  clear c2
  by_cases c3 : a0_1 > 0
  rotate_left
  ·rw [if_neg c3] at H
   have d2 := dF c3
   clear c3
   obtain ⟨rfl, rfl⟩ := sj2 H
   go_wp2_with (first | ((with_reducible refine gate_dst (N := 7) rfl ?_); refine bxn 7 #[.int .i64 0, .int .i64 0] 24 HB fun g3 w3 K3 G3 hg hb => ?_; obtain ⟨N3,N4⟩ := ne_ hg K1; obtain ⟨N5,N6⟩ := ne_ hg K2; obtain ⟨K1, K2, HB⟩ := bk2 K1 K2 HB hb; clear hb hg; have := ns3 N4 N6 N1; have := cB2 K3; have := cB2 K1; have := cB2 K2))
   refine bodyPost_ret (results_cell_row rfl _ _ g2 24 #[.int .i64 0, .int .i64 0] (0, 0) _ rfl (by refine pf ?_; refine bp (ia2 0 0) ?_ 1; refine pf ?_; refine bp (ia2 0 0) ?_ 0; refine fa N5 ?_; refine fa N5 ?_; exact Z K2) Try.underlying24 rfl (by kernel_rfl)) rfl ?_
   exact ⟨ez, YA HB⟩
  rw [if_pos c3] at H
  have d2 := dT c3
  clear c3
  obtain ⟨i1, j7⟩ : ∃ j_ : Int, (mn a0_1 (wrap64 (a2 - 1))) = j_ := ⟨_, rfl⟩
  replace H : (some (0, i1)) = some (r1, r2) := by first | (rw [j7] at H; exact H) | (simp only [j7] at H ⊢; exact H)
  have hji35_ : (if (wrap64 (a2 - 1)) < a0_1 then (wrap64 (a2 - 1)) else a0_1) = i1 := j7
  obtain ⟨rfl, rfl⟩ := sj2 H
  go_wp2_with (first | ((with_reducible refine gate_dst (N := 7) rfl ?_); refine bxn 7 #[.int .i64 0, .int .i64 0] 24 HB fun g3 w3 K3 G3 hg hb => ?_; obtain ⟨N3,N4⟩ := ne_ hg K1; obtain ⟨N5,N6⟩ := ne_ hg K2; obtain ⟨K1, K2, HB⟩ := bk2 K1 K2 HB hb; clear hb hg; have := ns3 N4 N6 N1; have := cB2 K3; have := cB2 K1; have := cB2 K2))
  refine bodyPost_ret (results_cell_row rfl _ _ g2 24 #[.int .i64 0, .int .i64 i1] (0, 0) _ rfl (by refine pf ?_; refine bp (ia2 0 0) ?_ 1; refine pf ?_; refine bp (ia2 0 0) ?_ 0; refine fa N5 ?_; refine fa N5 ?_; refine fa N5 ?_; exact Z K2) Try.underlying24 rfl (by kernel_rfl)) rfl ?_
  exact ⟨by first | rfl | (simp [errW_none, errW_some] <;> rfl) | (simp only [← j7]; first | rfl | (simp [errW_none, errW_some] <;> rfl)) | (simp [*, errW_none, errW_some] <;> rfl), YA HB⟩
 rw [if_pos c2] at H
 have d1 := dT c2
 clear c2
 obtain ⟨i1, j7⟩ : ∃ j_ : Int, (mx a0_0 (wrap64 (1 - a2))) = j_ := ⟨_, rfl⟩
 replace H : (if a0_1 > 0 then (some (i1, mn a0_1 (wrap64 (a2 - 1)))) else (some (i1, 0))) = some (r1, r2) := by first | (rw [j7] at H; exact H) | (simp only [j7] at H ⊢; exact H)
 have hji17_ : (if a0_0 < (wrap64 (1 - a2)) then (wrap64 (1 - a2)) else a0_0) = i1 := j7
 by_cases c3 : a0_1 > 0
 rotate_left
 ·rw [if_neg c3] at H
  have d2 := dF c3
  clear c3
  obtain ⟨rfl, rfl⟩ := sj2 H
  go_wp2_with (first | ((with_reducible refine gate_dst (N := 7) rfl ?_); refine bxn 7 #[.int .i64 0, .int .i64 0] 24 HB fun g3 w3 K3 G3 hg hb => ?_; obtain ⟨N3,N4⟩ := ne_ hg K1; obtain ⟨N5,N6⟩ := ne_ hg K2; obtain ⟨K1, K2, HB⟩ := bk2 K1 K2 HB hb; clear hb hg; have := ns3 N4 N6 N1; have := cB2 K3; have := cB2 K1; have := cB2 K2))
  refine bodyPost_ret (results_cell_row rfl _ _ g2 24 #[.int .i64 i1, .int .i64 0] (0, 0) _ rfl (by refine pf ?_; refine bp (ia2 i1 0) ?_ 1; refine pf ?_; refine bp (ia2 0 0) ?_ 0; refine fa N5 ?_; refine fa N5 ?_; refine fa N5 ?_; exact Z K2) Try.underlying24 rfl (by kernel_rfl)) rfl ?_
  exact ⟨by first | rfl | (simp [errW_none, errW_some] <;> rfl) | (simp only [← j7]; first | rfl | (simp [errW_none, errW_some] <;> rfl)) | (simp [*, errW_none, errW_some] <;> rfl), YA HB⟩
 rw [if_pos c3] at H
 have d2 := dT c3
 clear c3
 obtain ⟨i2, j8⟩ : ∃ j_ : Int, (mn a0_1 (wrap64 (a2 - 1))) = j_ := ⟨_, rfl⟩
 replace H : (some (i1, i2)) = some (r1, r2) := by first | (rw [j8] at H; exact H) | (simp only [j8] at H ⊢; exact H)
 have hji19_ : (if (wrap64 (a2 - 1)) < a0_1 then (wrap64 (a2 - 1)) else a0_1) = i2 := j8
 obtain ⟨rfl, rfl⟩ := sj2 H
 go_wp2_with (first | ((with_reducible refine gate_dst (N := 7) rfl ?_); refine bxn 7 #[.int .i64 0, .int .i64 0] 24 HB fun g3 w3 K3 G3 hg hb => ?_; obtain ⟨N3,N4⟩ := ne_ hg K1; obtain ⟨N5,N6⟩ := ne_ hg K2; obtain ⟨K1, K2, HB⟩ := bk2 K1 K2 HB hb; clear hb hg; have := ns3 N4 N6 N1; have := cB2 K3; have := cB2 K1; have := cB2 K2))
 refine bodyPost_ret (results_cell_row rfl _ _ g2 24 #[.int .i64 i1, .int .i64 i2] (0, 0) _ rfl (by refine pf ?_; refine bp (ia2 i1 0) ?_ 1; refine pf ?_; refine bp (ia2 0 0) ?_ 0; refine fa N5 ?_; refine fa N5 ?_; refine fa N5 ?_; refine fa N5 ?_; exact Z K2) Try.underlying24 rfl (by kernel_rfl)) rfl ?_
 exact ⟨by first | rfl | (simp [errW_none, errW_some] <;> rfl) | (simp only [← j7, ← j8]; first | rfl | (simp [errW_none, errW_some] <;> rfl)) | (simp [*, errW_none, errW_some] <;> rfl), YA HB⟩
end
section
attribute [local go_sem] max2_int min2_int max_two min_two max_three min_three max_four min_four
attribute [local go_sem] Go.Proofs.YthbkakcchgnhpaaSet.isSome_setCell
mutual
def impl_rangeRem.j0 : Nat → Bool → Int → Int → Int → Int → Option (Int × Int × List Int)
 | 0, _, _, _, _, _ => none
 | k + 1, x1, x2, x3, x4, x5 => if x1 = true then (if x4 = 0 then (none) else (some (Int.tmod x2 x4, Int.tmod x2 x4, ([] : List Int)))) else ((impl_rangeSides.f k x4 x5).bind fun u1 => ((impl_rangeNone.f).bind fun u2 => ((impl_Range_empty.f u1.1 u1.2.1).bind fun t1 => (if t1 = true then (impl_rangeRem.j1 k x2 x3 x4 x5 u1.1 u1.2.1 u1.2.2.1 u1.2.2.2 u2.1 u2.2) else ((impl_rangeRemBy.f k x2 x3 (wrap64 (-u1.2.1)) (wrap64 (-u1.1))).bind fun u3 => ((impl_RangeJoin.f k u2.1 u2.2 u3.1 u3.2).bind fun u4 => (impl_rangeRem.j1 k x2 x3 x4 x5 u1.1 u1.2.1 u1.2.2.1 u1.2.2.2 u4.1 u4.2)))))))
def impl_rangeRem.j1 : Nat → Int → Int → Int → Int → Int → Int → Int → Int → Int → Int → Option (Int × Int × List Int)
 | 0, _, _, _, _, _, _, _, _, _, _ => none
 | k + 1, x1, x2, x3, x4, x5, x6, x7, x8, x9, x10 => (impl_Range_empty.f x7 x8).bind fun t1 => (if t1 = true then ((impl_RangeHas.f x3 x4 0).bind fun t2 => (if t2 = true then (some (x9, x10, (([2] : List Int)))) else (some (x9, x10, ([] : List Int))))) else ((impl_rangeRemBy.f k x1 x2 x7 x8).bind fun u1 => ((impl_RangeJoin.f k x9 x10 u1.1 u1.2).bind fun u2 => ((impl_RangeHas.f x3 x4 0).bind fun t3 => (if t3 = true then (some (u2.1, u2.2, (([2] : List Int)))) else (some (u2.1, u2.2, ([] : List Int))))))))
end
def impl_rangeRem.f (k : Nat) (a0_0 : Int) (a0_1 : Int) (a1_0 : Int) (a1_1 : Int) : Option (Int × Int × List Int) := (impl_Range_single.f a0_0 a0_1).bind fun t1 => (if t1 = true then ((impl_Range_single.f a1_0 a1_1).bind fun t2 => (if t2 = true then (impl_rangeRem.j0 k (a1_0 != 0) a0_0 a0_1 a1_0 a1_1) else (impl_rangeRem.j0 k false a0_0 a0_1 a1_0 a1_1))) else (impl_rangeRem.j0 k false a0_0 a0_1 a1_0 a1_1))
theorem impl_rangeRem.mono_l : ∀ k, (∀ y0 y1 y2 y3 y4, LeO (impl_rangeRem.j0 k y0 y1 y2 y3 y4) (impl_rangeRem.j0 (k + 1) y0 y1 y2 y3 y4)) ∧ (∀ y0 y1 y2 y3 y4 y5 y6 y7 y8 y9, LeO (impl_rangeRem.j1 k y0 y1 y2 y3 y4 y5 y6 y7 y8 y9) (impl_rangeRem.j1 (k + 1) y0 y1 y2 y3 y4 y5 y6 y7 y8 y9))
 | 0 => ⟨fun _ _ _ _ _ r h => by simp [impl_rangeRem.j0] at h, fun _ _ _ _ _ _ _ _ _ _ r h => by simp [impl_rangeRem.j1] at h⟩
 | k + 1 => by
  obtain ⟨ih0, ih1⟩ := impl_rangeRem.mono_l k
  refine ⟨?_, ?_⟩ <;> (intros; (first | unfold impl_rangeRem.j0 | unfold impl_rangeRem.j1); repeat' first | (with_reducible first | apply ih0 | apply ih1 | apply impl_RangeJoin.mono | apply impl_rangeRemBy.mono | apply impl_rangeSides.mono | apply LeO.refl | apply LeO.none | refine LeO.ite ?_ ?_ | refine LeO.bind ?_ (fun _ => ?_)) | apply ih0 | apply ih1 | apply impl_RangeJoin.mono | apply impl_rangeRemBy.mono | apply impl_rangeSides.mono | apply LeO.none | refine LeO.ite ?_ ?_ | refine LeO.bind ?_ (fun _ => ?_))
theorem impl_rangeRem.mono : ∀ a0 a1 a2 a3 k, LeO (impl_rangeRem.f k a0 a1 a2 a3) (impl_rangeRem.f (k + 1) a0 a1 a2 a3) := by
 intro a0 a1 a2 a3 k
 obtain ⟨ih0, ih1⟩ := impl_rangeRem.mono_l k
 unfold impl_rangeRem.f
 repeat' first | (with_reducible first | apply ih0 | apply ih1 | apply impl_RangeJoin.mono | apply impl_rangeRemBy.mono | apply impl_rangeSides.mono | apply LeO.refl | apply LeO.none | refine LeO.ite ?_ ?_ | refine LeO.bind ?_ (fun _ => ?_)) | apply ih0 | apply ih1 | apply impl_RangeJoin.mono | apply impl_rangeRemBy.mono | apply impl_rangeSides.mono | apply LeO.none | refine LeO.ite ?_ ?_ | refine LeO.bind ?_ (fun _ => ?_)
def impl_rangeRem.T8 : Bool × List (List Nat × List Nat) := (true, [([], []), ([], []), ([], []), ([2], [2]), ([3], [3]), ([], []), ([5], [5]), ([6], [6]), ([1, 4, 7], [1, 4, 7]), ([0, 8, 8], [0, 8]), ([9, 9, 0, 1, 2, 3, 4, 5, 6, 7, 8, 9], [9])])
def impl_rangeRem.B8 : List Nat := [0, 0, 0, 4, 12, 0, 32, 96, 254, 511, 1023]
theorem impl_rangeRem.tab8 : rtab .any (opsOf Try.f54 8) = impl_rangeRem.T8 := by kernel_rfl
theorem impl_rangeRem.bits8 : waitsOk impl_rangeRem.T8.2 impl_rangeRem.B8 = true := by kernel_rfl
def impl_rangeRem.T11 : Bool × List (List Nat × List Nat) := (true, [([], []), ([], []), ([], []), ([2], [2]), ([], []), ([4], [4]), ([1, 3, 5], [1, 3, 5]), ([0, 6, 6], [0, 6]), ([7, 7, 0, 1, 2, 3, 4, 5, 6, 7], [7])])
def impl_rangeRem.B11 : List Nat := [0, 0, 0, 4, 0, 16, 62, 127, 255]
theorem impl_rangeRem.tab11 : rtab .any (opsOf Try.f54 11) = impl_rangeRem.T11 := by kernel_rfl
theorem impl_rangeRem.bits11 : waitsOk impl_rangeRem.T11.2 impl_rangeRem.B11 = true := by kernel_rfl
set_option maxHeartbeats 8000000 in
set_option maxRecDepth 100000 in
theorem impl_rangeRem.calls (k : Nat) (a0_0 : Int) (a0_1 : Int) (a1_0 : Int) (a1_1 : Int) (r1 : Int) (r2 : Int) (r3 : List Int) (w : World) (h : impl_rangeRem.f k a0_0 a0_1 a1_0 a1_1 = some (r1, r2, r3)) :
  Calls Try.prog 54 #[.agg #[.int .i64 a0_0, .int .i64 a0_1], .agg #[.int .i64 a1_0, .int .i64 a1_1]] w fun e w' => ∃ v2_ : Value, e = .returned (.tuple #[.agg #[.int .i64 r1, .int .i64 r2], v2_]) ∧ Kd.R (Kd.int .i64) 3 w' w.heap.size (fun _ => True) v2_ r3 ∧ Below w.heap.size w w' := by
 have hu24 := Try.underlying24
 have hu96 := Try.underlying96
 have HB := am (Below.refl w.heap.size w)
 have H : ((impl_Range_single.f a0_0 a0_1).bind fun t1 => (if t1 = true then ((impl_Range_single.f a1_0 a1_1).bind fun t2 => (if t2 = true then (impl_rangeRem.j0 k (a1_0 != 0) a0_0 a0_1 a1_0 a1_1) else (impl_rangeRem.j0 k false a0_0 a0_1 a1_0 a1_1))) else (impl_rangeRem.j0 k false a0_0 a0_1 a1_0 a1_1))) = some (r1, r2, r3) := h
 clear h
 have C1 := am H
 clear H
 go_enter Try.func54, Try.ntmps54
 go_upto_region 1 with (first | ((with_reducible refine gate_dst (N := 2) rfl ?_); refine bxn 2 #[.int .i64 a0_0, .int .i64 a0_1] 24 HB fun g1 w2 K1 G1 hg hb => ?_; replace HB := am (below_step (YA HB) hb); clear hb hg) | ((with_reducible refine gate_dst (N := 3) rfl ?_); refine bxn 3 #[.int .i64 a1_0, .int .i64 a1_1] 24 HB fun g2 w3 K2 G2 hg hb => ?_; obtain ⟨N1,N2⟩ := ne_ hg K1; obtain ⟨K1, HB⟩ := bk1 K1 HB hb; clear hb hg) | ((with_reducible refine gate_dst (N := 4) rfl ?_); refine bxn 4 #[.int .i64 0, .int .i64 0] 24 HB fun g3 w4 K3 G3 hg hb => ?_; obtain ⟨N3,N4⟩ := ne_ hg K1; obtain ⟨N5,N6⟩ := ne_ hg K2; obtain ⟨K1, K2, HB⟩ := bk2 K1 K2 HB hb; clear hb hg))
 (try simp only [Act.put, List.setIfInBounds_toArray, List.set_cons_zero, List.set_cons_succ])
 go_cut [21] (fun v1 wc => ∃ (kq : Nat) (x1 : Bool), v1 = .bool x1 ∧ Aside0 (impl_rangeRem.j0 kq x1 a0_0 a0_1 a1_0 a1_1 = some (r1, r2, r3)) ∧ Aside0 (kq ≤ k) ∧ Bx2 wc g1 a0_0 a0_1 24 ∧ Bx2 wc g2 a1_0 a1_1 24 ∧ Bx2 wc g3 0 0 24 ∧ Aside0 (Below w.heap.size w wc))
 case first =>
  have H := C1.out
  clear C1
  obtain ⟨t1, A1, H⟩ := bd H
  try dsimp only at H
  by_cases c1 : t1 = true
  rotate_left
  ·replace c1 := Bool.eq_false_iff.mpr c1
   subst c1
   rw [if_neg ff] at H
   have H' := am H
   clear H
   have := ns2 N1 N3
   have := cB2 K1
   go_wp2_with (first | ((with_reducible refine gate_callee (f := 96) rfl ?_); refine gL 12 Try.func96 (impl_Range_single.calls _ _ _ _ A1.out) fun w5 hb => ?_; obtain ⟨K1, K2, K3, HB⟩ := bk3 K1 K2 K3 HB hb; (try clear hb)))
   go_meet
   case rel => exact ⟨_, (false), ey, H', le0, ⟨Z K1⟩, ⟨Z K2⟩, ⟨Z K3⟩, ⟨YA HB⟩⟩
  subst c1
  rw [if_pos rfl] at H
  obtain ⟨t2, A2, H⟩ := bd H
  try dsimp only at H
  by_cases c2 : t2 = true
  rotate_left
  ·replace c2 := Bool.eq_false_iff.mpr c2
   subst c2
   rw [if_neg ff] at H
   have H' := am H
   clear H
   have := ns2 N1 N3
   have := cB2 K1
   go_wp2_with (first | ((with_reducible refine gate_callee (f := 96) rfl ?_); refine gL 12 Try.func96 (impl_Range_single.calls _ _ _ _ A1.out) fun w5 hb => ?_; obtain ⟨K1, K2, K3, HB⟩ := bk3 K1 K2 K3 HB hb; (try clear hb); have := ns1 N5; have := cB2 K2) | (go_at_call 96; (with_reducible refine (impl_Range_single.calls _ _ _ _ A2.out).mono ?_); rintro e w6 ⟨rfl, hb⟩; obtain ⟨K1, K2, K3, HB⟩ := bk3 K1 K2 K3 HB hb; (try clear hb)))
   go_meet
   case rel => exact ⟨_, (false), ey, H', le0, ⟨Z K1⟩, ⟨Z K2⟩, ⟨Z K3⟩, ⟨YA HB⟩⟩
  subst c2
  rw [if_pos rfl] at H
  have H' := am H
  clear H
  have := ns2 N1 N3
  have := cB2 K1
  go_wp2_with (first | ((with_reducible refine gate_callee (f := 96) rfl ?_); refine gL 12 Try.func96 (impl_Range_single.calls _ _ _ _ A1.out) fun w5 hb => ?_; obtain ⟨K1, K2, K3, HB⟩ := bk3 K1 K2 K3 HB hb; (try clear hb); have := ns1 N5; have := cB2 K2) | (go_at_call 96; (with_reducible refine (impl_Range_single.calls _ _ _ _ A2.out).mono ?_); rintro e w6 ⟨rfl, hb⟩; obtain ⟨K1, K2, K3, HB⟩ := bk3 K1 K2 K3 HB hb; (try clear hb); have := cB2 K2))
  go_meet
  case rel => exact ⟨_, ((a1_0 != 0)), ey, H', le0, ⟨Z K1⟩, ⟨Z K2⟩, ⟨Z K3⟩, ⟨YA HB⟩⟩
 clear C1
 obtain ⟨kq, x1, rfl, HA, J1, K1, K2, K3, HB⟩ := hcut
 cases kq with
 | zero => exact absurd HA.out (by simp [impl_rangeRem.j0])
 | succ k1 => ?_
 have H := HA.out
 clear HA
 simp only [impl_rangeRem.j0] at H
 by_cases c1 : x1 = true
 ·subst c1
  rw [if_pos rfl] at H
  by_cases c2 : a1_0 = 0
  ·rw [if_pos c2] at H
   exact absurd H (by simp)
  rw [if_neg c2] at H
  have d1 := eF c2
  have d2 := nT c2
  obtain ⟨rfl, rfl, rfl⟩ := sj3 H
  have := ns3 N1 N3 N5
  have := cB2 K1
  have := cB2 K2
  have := cB2 K3
  go_wp2
  refine bodyPost_ret (results_ct rfl _ _ g3 24 #[.int .i64 (Int.tmod a0_0 a1_0), .int .i64 (Int.tmod a0_0 a1_0)] (0, 0) _ rfl (by refine pf ?_; refine bp (ia2 (Int.tmod a0_0 a1_0) 0) ?_ 1; refine pf ?_; refine bp (ia2 0 0) ?_ 0; exact Z K3) Try.underlying24 rfl (by kernel_rfl)) rfl ?_
  exact ⟨_, ez, by first | exact Kd.R_nil _ _ _ _ _ | exact Kd.N_nil _ _ _ _ _ | exact Kd.V_nil _ _ _ _ _ | exact Kd.Q_nil _ _ _ _ _ | exact Kd.S_nil _ _ _ _ _, YA HB⟩
 replace c1 := Bool.eq_false_iff.mpr c1
 subst c1
 rw [if_neg ff] at H
 obtain ⟨⟨t3, t4, t5, t6⟩, A1, H⟩ := bd H
 try dsimp only at H
 obtain ⟨⟨t7, t8⟩, A2, H⟩ := bd H
 try dsimp only at H
 obtain ⟨t9, A3, H⟩ := bd H
 try dsimp only at H
 have C2 := am H
 clear H
 have := ns2 N2 N5
 have := cB2 K2
 go_upto_if 37 with (first | ((with_reducible refine gate_callee (f := 94) rfl ?_); refine gL 31 Try.func94 (impl_rangeSides.calls _ _ _ _ _ _ _ _ A1.out) fun w5 hb => ?_; obtain ⟨K1, K2, K3, HB⟩ := bk3 K1 K2 K3 HB hb; (try clear hb)) | ((with_reducible refine gate_dst (N := 7) rfl ?_); refine bxn 7 #[.int .i64 0, .int .i64 0, .int .i64 0, .int .i64 0] 96 HB fun g4 w6 K4 G4 hg hb => ?_; obtain ⟨N7,N8⟩ := ne_ hg K1; obtain ⟨N9,N10⟩ := ne_ hg K2; obtain ⟨N11,N12⟩ := ne_ hg K3; obtain ⟨K1, K2, K3, HB⟩ := bk3 K1 K2 K3 HB hb; clear hb hg; have := ns3 N8 N10 N12; have := cB4 K4) | ((with_reducible refine gate_callee (f := 48) rfl ?_); refine gL 32 Try.func48 (impl_rangeNone.calls _ _ _ A2.out) fun w7 hb => ?_; replace K1 := am (blk_below (g := g1) (o := b2 a0_0 a0_1 24) (ft N7 K1) hb); replace K2 := am (blk_below (g := g2) (o := b2 a1_0 a1_1 24) (ft N9 K2) hb); replace K3 := am (blk_below (g := g3) (o := b2 0 0 24) (ft N11 K3) hb); replace K4 := am (blk_below (g := g4) (o := b4 t3 t4 t5 t6 96) (by refine pf ?_; refine bp (ia4 t3 t4 t5 0) ?_ 3; refine pf ?_; refine bp (ia4 t3 t4 0 0) ?_ 2; refine pf ?_; refine bp (ia4 t3 0 0 0) ?_ 1; refine pf ?_; refine bp (ia4 0 0 0 0) ?_ 0; exact Z K4) hb); replace HB := am (below_step (YA HB) hb); (try clear hb)) | ((with_reducible refine gate_dst (N := 8) rfl ?_); refine bxn 8 #[.int .i64 0, .int .i64 0] 24 HB fun g5 w8 K5 G5 hg hb => ?_; obtain ⟨N13,N14⟩ := ne_ hg K1; obtain ⟨N15,N16⟩ := ne_ hg K2; obtain ⟨N17,N18⟩ := ne_ hg K3; obtain ⟨N19,N20⟩ := ne_ hg K4; obtain ⟨K1, K2, K3, K4, HB⟩ := bk4 K1 K2 K3 K4 HB hb; clear hb hg; have := ns4 N14 N16 N18 N20; have := cB2 K5; have := cB4 K4) | ((with_reducible refine gate_dst (N := 9) rfl ?_); refine bxn 9 #[.int .i64 0, .int .i64 0] 24 HB fun g6 w9 K6 G6 hg hb => ?_; have N21 := am ((by rw [hg]; exact Nat.ne_of_lt (blk_lt (g := g1) (o := b2 a0_0 a0_1 24) (ft N13 K1)) : g1 ≠ g6)); have N22 := am ((by rw [hg]; exact Nat.ne_of_gt (blk_lt (g := g1) (o := b2 a0_0 a0_1 24) (ft N13 K1)) : g6 ≠ g1)); have N23 := am ((by rw [hg]; exact Nat.ne_of_lt (blk_lt (g := g2) (o := b2 a1_0 a1_1 24) (ft N15 K2)) : g2 ≠ g6)); have N24 := am ((by rw [hg]; exact Nat.ne_of_gt (blk_lt (g := g2) (o := b2 a1_0 a1_1 24) (ft N15 K2)) : g6 ≠ g2)); have N25 := am ((by rw [hg]; exact Nat.ne_of_lt (blk_lt (g := g3) (o := b2 0 0 24) (ft N17 K3)) : g3 ≠ g6)); have N26 := am ((by rw [hg]; exact Nat.ne_of_gt (blk_lt (g := g3) (o := b2 0 0 24) (ft N17 K3)) : g6 ≠ g3)); have N27 := am ((by rw [hg]; exact Nat.ne_of_lt (blk_lt (g := g4) (o := b4 t3 t4 t5 t6 96) (ft N19 K4)) : g4 ≠ g6)); have N28 := am ((by rw [hg]; exact Nat.ne_of_gt (blk_lt (g := g4) (o := b4 t3 t4 t5 t6 96) (ft N19 K4)) : g6 ≠ g4)); have N29 := am ((by rw [hg]; exact Nat.ne_of_lt (blk_lt (g := g5) (o := b2 t7 t8 24) (by refine pf ?_; refine bp (ia2 t7 0) ?_ 1; refine pf ?_; refine bp (ia2 0 0) ?_ 0; exact Z K5)) : g5 ≠ g6)); have N30 := am ((by rw [hg]; exact Nat.ne_of_gt (blk_lt (g := g5) (o := b2 t7 t8 24) (by refine pf ?_; refine bp (ia2 t7 0) ?_ 1; refine pf ?_; refine bp (ia2 0 0) ?_ 0; exact Z K5)) : g6 ≠ g5)); replace K1 := am (blk_below (g := g1) (o := b2 a0_0 a0_1 24) (ft N13 K1) hb); replace K2 := am (blk_below (g := g2) (o := b2 a1_0 a1_1 24) (ft N15 K2) hb); replace K3 := am (blk_below (g := g3) (o := b2 0 0 24) (ft N17 K3) hb); replace K4 := am (blk_below (g := g4) (o := b4 t3 t4 t5 t6 96) (ft N19 K4) hb); replace K5 := am (blk_below (g := g5) (o := b2 t7 t8 24) (by refine pf ?_; refine bp (ia2 t7 0) ?_ 1; refine pf ?_; refine bp (ia2 0 0) ?_ 0; exact Z K5) hb); replace HB := am (below_step (YA HB) hb); clear hb hg; have := ns5 N22 N24 N26 N28 N30; have := cB2 K6) | ((with_reducible refine gate_callee (f := 47) rfl ?_); refine gL 36 Try.func47 (impl_Range_empty.calls _ _ _ _ A3.out) fun w10 hb => ?_; replace K1 := am (blk_below (g := g1) (o := b2 a0_0 a0_1 24) (ft N21 K1) hb); replace K2 := am (blk_below (g := g2) (o := b2 a1_0 a1_1 24) (ft N23 K2) hb); replace K3 := am (blk_below (g := g3) (o := b2 0 0 24) (ft N25 K3) hb); replace K4 := am (blk_below (g := g4) (o := b4 t3 t4 t5 t6 96) (ft N27 K4) hb); replace K5 := am (blk_below (g := g5) (o := b2 t7 t8 24) (ft N29 K5) hb); replace K6 := am (blk_below (g := g6) (o := b2 t3 t4 24) (by refine pf ?_; refine bp (ia2 t3 0) ?_ 1; refine pf ?_; refine bp (ia2 0 0) ?_ 0; exact Z K6) hb); replace HB := am (below_step (YA HB) hb); (try clear hb)))
 (try simp only [Act.put, List.setIfInBounds_toArray, List.set_cons_zero, List.set_cons_succ])
 go_cut [] (fun wc => ∃ (kq : Nat) (x2 : Int) (x3 : Int), Aside0 (impl_rangeRem.j1 kq a0_0 a0_1 a1_0 a1_1 t3 t4 t5 t6 x2 x3 = some (r1, r2, r3)) ∧ Aside0 (kq ≤ k1) ∧ Bx2 wc g1 a0_0 a0_1 24 ∧ Bx2 wc g2 a1_0 a1_1 24 ∧ Bx2 wc g3 0 0 24 ∧ Bx4 wc g4 t3 t4 t5 t6 96 ∧ Bx2 wc g5 x2 x3 24 ∧ Bx2 wc g6 t3 t4 24 ∧ Aside0 (Below w.heap.size w wc))
 case first =>
  have H := C2.out
  clear C2
  by_cases c2 : t9 = true
  ·subst c2
   rw [if_pos rfl] at H
   have H' := am H
   clear H
   go_wp2
   go_meet
   case rel => exact ⟨_, (t7), (t8), H', le1 J1, ⟨Z K1⟩, ⟨Z K2⟩, ⟨Z K3⟩, ⟨Z K4⟩, ⟨Z K5⟩, ⟨Z K6⟩, ⟨YA HB⟩⟩
  replace c2 := Bool.eq_false_iff.mpr c2
  subst c2
  rw [if_neg ff] at H
  obtain ⟨⟨t10, t11⟩, A4, H⟩ := bd H
  try dsimp only at H
  obtain ⟨⟨t12, t13⟩, A5, H⟩ := bd H
  try dsimp only at H
  have H' := am H
  clear H
  try go_wp2
  obtain ⟨K1, K2, K3, K4, K5, K6, HB⟩ := dk6 K1 K2 K3 K4 K5 K6 HB
  refine start_ (n := 11) (S := fun w' => ce2 w' g5 t7 t8 ∧ ce2 w' g1 a0_0 a0_1 ∧ ce2 w' g6 t3 t4) (ds := [10]) (lb 11 0) (by kernel_rfl) rfl rfl ⟨cc2 K5, cc2 K1, cc2 K6⟩ (fun hHeld => ?_); refine with_tabW impl_rangeRem.tab8 impl_rangeRem.bits8 (fun HT_ HW_ => ?_)
  generalize w10.drew = w11 at K1 K2 K3 K4 K5 K6 HB hHeld ⊢
  refine pk 2 40 4 ?_
  refine pk 5 43 36 ?_
  refine tk 0 38 37 hHeld ?_
  refine tk 1 39 39 hHeld ?_
  refine tk 3 41 47 hHeld ?_
  refine pk 4 42 63 ?_
  refine tk 6 44 127 hHeld ?_
  refine pk 7 45 255 ?_
  refine on 8 (some 46) 511 fun K hK => ?_
  refine ck hK Try.func97 (impl_rangeRemBy.calls _ _ _ _ _ _ _ _ A4.out) (fun _ b => bk6 K1 K2 K3 K4 K5 K6 HB b) fun w12 Q_ hHeld => ?_
  clear hK K
  obtain ⟨K1, K2, K3, K4, K5, K6, HB⟩ := Q_
  refine on 9 (some 47) 1023 fun K hK => ?_
  refine ck hK Try.func84 (impl_RangeJoin.calls _ _ _ _ _ _ _ _ A5.out) (fun _ b => bk6 K1 K2 K3 K4 K5 K6 HB b) fun w13 Q_ hHeld => ?_
  clear hK K
  obtain ⟨K1, K2, K3, K4, K5, K6, HB⟩ := Q_
  refine last_ (i := 10) (N := none) (lb 11 2047) rfl rfl ow (by decide) (fun K hK => ?_)
  have s1 : w13.cell? ⟨g5, 0, none⟩ = some (.int .i64 t7) := bc K5 0
  have hfs73 := blk_frozen K5.out 0
  have := ns10 N13 N15 N17 N19 N30 N14 N16 N18 N20 N29
  have s2 : w13.cell? ⟨g5, 1, none⟩ = some (.int .i64 t8) := bc K5 1
  have hfs74 := blk_frozen K5.out 1
  have := ns10 N13 N15 N17 N19 N30 N14 N16 N18 N20 N29
  refine skip_ (w1 := ?_) (by rfl) rfl ?_ ?_
  rotate_left
  ·go_simp
   rfl
  refine hK.out _ _ ?_
  clear hK K
  refine done_ (done_of HT_.out (by kernel_rfl)) ?_
  try go_wp2
  go_meet
  case rel => exact ⟨_, (t12), (t13), H', le1 J1, ⟨ft N13 K1⟩, ⟨ft N15 K2⟩, ⟨ft N17 K3⟩, ⟨ft N19 K4⟩, ⟨by refine pf ?_; refine bp (ia2 t12 t8) ?_ 1; refine pf ?_; refine bp (ia2 t7 t8) ?_ 0; exact Z K5⟩, ⟨ft N30 K6⟩, ⟨YA HB⟩⟩
 clear C2
 (try clear c1)
 obtain ⟨kq, x2, x3, HA, J2, K1, K2, K3, K4, K5, K6, HB⟩ := hcut
 cases kq with
 | zero => exact absurd HA.out (by simp [impl_rangeRem.j1])
 | succ k2 => ?_
 have H := HA.out
 clear HA
 simp only [impl_rangeRem.j1] at H
 obtain ⟨t10, A4, H⟩ := bd H
 try dsimp only at H
 by_cases c2 : t10 = true
 ·subst c2
  rw [if_pos rfl] at H
  obtain ⟨t11, A5, H⟩ := bd H
  try dsimp only at H
  by_cases c3 : t11 = true
  rotate_left
  ·replace c3 := Bool.eq_false_iff.mpr c3
   subst c3
   rw [if_neg ff] at H
   obtain ⟨rfl, rfl, rfl⟩ := sj3 H
   have := ns5 N8 N10 N12 N19 N27
   have := cB4 K4
   go_wp2_with (first | ((with_reducible refine gate_dst (N := 10) rfl ?_); refine bxn 10 #[.int .i64 0, .int .i64 0] 24 HB fun g7 w11 K7 G7 hg hb => ?_; obtain ⟨N31,N32⟩ := ne_ hg K1; obtain ⟨N33,N34⟩ := ne_ hg K2; obtain ⟨N35,N36⟩ := ne_ hg K3; obtain ⟨N37,N38⟩ := ne_ hg K4; obtain ⟨N39,N40⟩ := ne_ hg K5; obtain ⟨N41,N42⟩ := ne_ hg K6; obtain ⟨K1, K2, K3, K4, K5, K6, HB⟩ := bk6 K1 K2 K3 K4 K5 K6 HB hb; clear hb hg; have := ns6 N32 N34 N36 N38 N40 N42; have := cB2 K7) | ((with_reducible refine gate_callee (f := 47) rfl ?_); refine gL 51 Try.func47 (impl_Range_empty.calls _ _ _ _ A4.out) fun w12 hb => ?_; replace K1 := am (blk_below (g := g1) (o := b2 a0_0 a0_1 24) (ft N31 K1) hb); replace K2 := am (blk_below (g := g2) (o := b2 a1_0 a1_1 24) (ft N33 K2) hb); replace K3 := am (blk_below (g := g3) (o := b2 0 0 24) (ft N35 K3) hb); replace K4 := am (blk_below (g := g4) (o := b4 t3 t4 t5 t6 96) (ft N37 K4) hb); replace K5 := am (blk_below (g := g5) (o := b2 x2 x3 24) (ft N39 K5) hb); replace K6 := am (blk_below (g := g6) (o := b2 t3 t4 24) (ft N41 K6) hb); replace K7 := am (blk_below (g := g7) (o := b2 t5 t6 24) (by refine pf ?_; refine bp (ia2 t5 0) ?_ 1; refine pf ?_; refine bp (ia2 0 0) ?_ 0; exact Z K7) hb); replace HB := am (below_step (YA HB) hb); (try clear hb); have := ns4 N2 N5 N15 N23; have := cB2 K2) | ((with_reducible refine gate_callee (f := 95) rfl ?_); refine gL 62 Try.func95 (impl_RangeHas.calls _ _ _ _ _ A5.out) fun w13 hb => ?_; obtain ⟨K1, K2, K3, K4, K5, K6, K7, HB⟩ := bk7 K1 K2 K3 K4 K5 K6 K7 HB hb; (try clear hb); have := ns5 N14 N18 N29 N4 N25; have := cB2 K5; have := cB2 K3))
   refine bodyPost_ret (results_ct rfl _ _ g3 24 #[.int .i64 x2, .int .i64 x3] (0, 0) _ rfl (by refine pf ?_; refine bp (ia2 x2 0) ?_ 1; refine pf ?_; refine bp (ia2 0 0) ?_ 0; exact Z K3) Try.underlying24 rfl (by kernel_rfl)) rfl ?_
   exact ⟨_, ez, by first | exact Kd.R_nil _ _ _ _ _ | exact Kd.N_nil _ _ _ _ _ | exact Kd.V_nil _ _ _ _ _ | exact Kd.Q_nil _ _ _ _ _ | exact Kd.S_nil _ _ _ _ _, YA HB⟩
  subst c3
  rw [if_pos rfl] at H
  obtain ⟨y1, y2⟩ : ∃ y_ : List Int, y_ = (([2] : List Int)) := ⟨_, rfl⟩
  replace H : (some (x2, x3, y1)) = some (r1, r2, r3) := by first | (rw [y2]; with_reducible exact H) | (have H2_ := (Option.bind_some _ _).symm.trans H; rw [y2]; with_reducible exact H2_) | (have H2_ := (Option.bind_some _ _).symm.trans H; with_reducible exact H2_) | with_reducible exact H | (rw [y2]; exact H) | exact H
  have Y25 := am y2
  clear y2
  obtain ⟨rfl, rfl, rfl⟩ := sj3 H
  have := ns5 N8 N10 N12 N19 N27
  have := cB4 K4
  go_wp2_with (first | ((with_reducible refine gate_dst (N := 10) rfl ?_); refine bxn 10 #[.int .i64 0, .int .i64 0] 24 HB fun g7 w11 K7 G7 hg hb => ?_; obtain ⟨N31,N32⟩ := ne_ hg K1; obtain ⟨N33,N34⟩ := ne_ hg K2; obtain ⟨N35,N36⟩ := ne_ hg K3; obtain ⟨N37,N38⟩ := ne_ hg K4; obtain ⟨N39,N40⟩ := ne_ hg K5; obtain ⟨N41,N42⟩ := ne_ hg K6; obtain ⟨K1, K2, K3, K4, K5, K6, HB⟩ := bk6 K1 K2 K3 K4 K5 K6 HB hb; clear hb hg; have := ns6 N32 N34 N36 N38 N40 N42; have := cB2 K7) | ((with_reducible refine gate_callee (f := 47) rfl ?_); refine gL 51 Try.func47 (impl_Range_empty.calls _ _ _ _ A4.out) fun w12 hb => ?_; replace K1 := am (blk_below (g := g1) (o := b2 a0_0 a0_1 24) (ft N31 K1) hb); replace K2 := am (blk_below (g := g2) (o := b2 a1_0 a1_1 24) (ft N33 K2) hb); replace K3 := am (blk_below (g := g3) (o := b2 0 0 24) (ft N35 K3) hb); replace K4 := am (blk_below (g := g4) (o := b4 t3 t4 t5 t6 96) (ft N37 K4) hb); replace K5 := am (blk_below (g := g5) (o := b2 x2 x3 24) (ft N39 K5) hb); replace K6 := am (blk_below (g := g6) (o := b2 t3 t4 24) (ft N41 K6) hb); replace K7 := am (blk_below (g := g7) (o := b2 t5 t6 24) (by refine pf ?_; refine bp (ia2 t5 0) ?_ 1; refine pf ?_; refine bp (ia2 0 0) ?_ 0; exact Z K7) hb); replace HB := am (below_step (YA HB) hb); (try clear hb); have := ns4 N2 N5 N15 N23; have := cB2 K2) | ((with_reducible refine gate_callee (f := 95) rfl ?_); refine gL 62 Try.func95 (impl_RangeHas.calls _ _ _ _ _ A5.out) fun w13 hb => ?_; obtain ⟨K1, K2, K3, K4, K5, K6, K7, HB⟩ := bk7 K1 K2 K3 K4 K5 K6 K7 HB hb; (try clear hb); have := ns3 N14 N18 N29; have := cB2 K5) | ((with_reducible refine gate_dst (N := 64) rfl ?_); refine Kd.R_lit (Kd.int .i64) _ 3 ?hg (N := 64) ?hd (xs := ([2] : List Int)) (inner := [.int .i64 2]) (ok := fun _ => True) (okp := fun _ => True) ?hr ?hp (fun _ hk => hk) trivial (Below.refl _ _) (Nat.le_refl _) (by simp) ?_; (case hd => rfl); (case hg => rfl); (case hr => first | (go_simp; done) | (go_simp; rfl)); (case hp => exact (Reps.one (show Kd.M (Kd.int .i64) _ _ _ 2 [.int .i64 2] from rfl) (Reps.none _ _))); intro v2 w14 o1 hb hg_ hnew_; clear hg_ hnew_; (first | rw [← Y25.out] at o1 | (simp only [Int.reduceToNat] at o1; rw [← Y25.out] at o1)); have O1 := am (Kd.R_lower o1 (below_size (YA HB))); obtain ⟨K1, K2, K3, K4, K5, K6, K7, HB⟩ := bk7 K1 K2 K3 K4 K5 K6 K7 HB hb; clear hb o1; have := ns2 N4 N25; have := cB2 K3))
  refine bodyPost_ret (results_ct rfl _ _ g3 24 #[.int .i64 x2, .int .i64 x3] (0, 0) _ rfl (by refine pf ?_; refine bp (ia2 x2 0) ?_ 1; refine pf ?_; refine bp (ia2 0 0) ?_ 0; exact Z K3) Try.underlying24 rfl (by kernel_rfl)) rfl ?_
  exact ⟨_, ez, by (with_reducible repeat (first | apply Kd.R_alloc | apply Kd.R_drewN | apply Kd.R_drew)); exact Kd.R_mono (Kd.R_far (p := ⟨g3, 1, none⟩) (Kd.R_far (p := ⟨g3, 0, none⟩) (Kd.R_types O1.out K3.out (by decide)) (fun _ hk => hk.2) (.int .i64 x2)) (fun _ hk => hk.2) (.int .i64 x3)) (fun _ hk => trivial), YA HB⟩
 replace c2 := Bool.eq_false_iff.mpr c2
 subst c2
 rw [if_neg ff] at H
 obtain ⟨⟨t11, t12⟩, A5, H⟩ := bd H
 try dsimp only at H
 obtain ⟨⟨t13, t14⟩, A6, H⟩ := bd H
 try dsimp only at H
 obtain ⟨t15, A7, H⟩ := bd H
 try dsimp only at H
 by_cases c3 : t15 = true
 rotate_left
 ·replace c3 := Bool.eq_false_iff.mpr c3
  subst c3
  rw [if_neg ff] at H
  obtain ⟨rfl, rfl, rfl⟩ := sj3 H
  have := ns5 N8 N10 N12 N19 N27
  have := cB4 K4
  try go_wp2_with (first | ((with_reducible refine gate_dst (N := 10) rfl ?_); refine bxn 10 #[.int .i64 0, .int .i64 0] 24 HB fun g7 w11 K7 G7 hg hb => ?_; obtain ⟨N31,N32⟩ := ne_ hg K1; obtain ⟨N33,N34⟩ := ne_ hg K2; obtain ⟨N35,N36⟩ := ne_ hg K3; obtain ⟨N37,N38⟩ := ne_ hg K4; obtain ⟨N39,N40⟩ := ne_ hg K5; obtain ⟨N41,N42⟩ := ne_ hg K6; obtain ⟨K1, K2, K3, K4, K5, K6, HB⟩ := bk6 K1 K2 K3 K4 K5 K6 HB hb; clear hb hg; have := ns6 N32 N34 N36 N38 N40 N42; have := cB2 K7) | ((with_reducible refine gate_callee (f := 47) rfl ?_); refine gL 51 Try.func47 (impl_Range_empty.calls _ _ _ _ A4.out) fun w12 hb => ?_; replace K1 := am (blk_below (g := g1) (o := b2 a0_0 a0_1 24) (ft N31 K1) hb); replace K2 := am (blk_below (g := g2) (o := b2 a1_0 a1_1 24) (ft N33 K2) hb); replace K3 := am (blk_below (g := g3) (o := b2 0 0 24) (ft N35 K3) hb); replace K4 := am (blk_below (g := g4) (o := b4 t3 t4 t5 t6 96) (ft N37 K4) hb); replace K5 := am (blk_below (g := g5) (o := b2 x2 x3 24) (ft N39 K5) hb); replace K6 := am (blk_below (g := g6) (o := b2 t3 t4 24) (ft N41 K6) hb); replace K7 := am (blk_below (g := g7) (o := b2 t5 t6 24) (by refine pf ?_; refine bp (ia2 t5 0) ?_ 1; refine pf ?_; refine bp (ia2 0 0) ?_ 0; exact Z K7) hb); replace HB := am (below_step (YA HB) hb); (try clear hb)))
  obtain ⟨K1, K2, K3, K4, K5, K6, K7, HB⟩ := dk7 K1 K2 K3 K4 K5 K6 K7 HB
  refine start_ (n := 9) (S := fun w' => ce2 w' g5 x2 x3 ∧ ce2 w' g1 a0_0 a0_1 ∧ ce2 w' g7 t5 t6) (ds := [8]) (lb 9 0) (by kernel_rfl) rfl rfl ⟨cc2 K5, cc2 K1, cc2 K7⟩ (fun hHeld => ?_); refine with_tabW impl_rangeRem.tab11 impl_rangeRem.bits11 (fun HT_ HW_ => ?_)
  generalize w12.drew = w13 at K1 K2 K3 K4 K5 K6 K7 HB hHeld ⊢
  refine pk 2 55 4 ?_
  refine pk 4 57 20 ?_
  refine tk 0 53 21 hHeld ?_
  refine tk 1 54 23 hHeld ?_
  refine tk 3 56 31 hHeld ?_
  refine tk 5 58 63 hHeld ?_
  refine on 6 (some 59) 127 fun K hK => ?_
  refine ck hK Try.func97 (impl_rangeRemBy.calls _ _ _ _ _ _ _ _ A5.out) (fun _ b => bk7 K1 K2 K3 K4 K5 K6 K7 HB b) fun w14 Q_ hHeld => ?_
  clear hK K
  obtain ⟨K1, K2, K3, K4, K5, K6, K7, HB⟩ := Q_
  refine on 7 (some 60) 255 fun K hK => ?_
  refine ck hK Try.func84 (impl_RangeJoin.calls _ _ _ _ _ _ _ _ A6.out) (fun _ b => bk7 K1 K2 K3 K4 K5 K6 K7 HB b) fun w15 Q_ hHeld => ?_
  clear hK K
  obtain ⟨K1, K2, K3, K4, K5, K6, K7, HB⟩ := Q_
  refine last_ (i := 8) (N := none) (lb 9 511) rfl rfl ow (by decide) (fun K hK => ?_)
  have s1 : w15.cell? ⟨g5, 0, none⟩ = some (.int .i64 x2) := bc K5 0
  have hfs194 := blk_frozen K5.out 0
  have := ns10 N13 N15 N17 N19 N30 N40 N14 N16 N18 N20
  have := ns2 N29 N39
  have s2 : w15.cell? ⟨g5, 1, none⟩ = some (.int .i64 x3) := bc K5 1
  have hfs195 := blk_frozen K5.out 1
  have := ns10 N13 N15 N17 N19 N30 N40 N14 N16 N18 N20
  have := ns2 N29 N39
  refine skip_ (w1 := ?_) (by rfl) rfl ?_ ?_
  rotate_left
  ·go_simp
   rfl
  refine hK.out _ _ ?_
  clear hK K
  refine done_ (done_of HT_.out (by kernel_rfl)) ?_
  have := ns4 N2 N5 N15 N23
  have := cB2 K2
  try go_wp2_with (first | ((with_reducible refine gate_callee (f := 95) rfl ?_); refine gL 62 Try.func95 (impl_RangeHas.calls _ _ _ _ _ A7.out) fun w16 hb => ?_; replace K1 := am (blk_below (g := g1) (o := b2 a0_0 a0_1 24) (ft N13 K1) hb); replace K2 := am (blk_below (g := g2) (o := b2 a1_0 a1_1 24) (ft N15 K2) hb); replace K3 := am (blk_below (g := g3) (o := b2 0 0 24) (ft N17 K3) hb); replace K4 := am (blk_below (g := g4) (o := b4 t3 t4 t5 t6 96) (ft N19 K4) hb); replace K5 := am (blk_below (g := g5) (o := b2 t13 t14 24) (by refine pf ?_; refine bp (ia2 t13 x3) ?_ 1; refine pf ?_; refine bp (ia2 x2 x3) ?_ 0; exact Z K5) hb); replace K6 := am (blk_below (g := g6) (o := b2 t3 t4 24) (ft N30 K6) hb); replace K7 := am (blk_below (g := g7) (o := b2 t5 t6 24) (ft N40 K7) hb); replace HB := am (below_step (YA HB) hb); (try clear hb); have := ns5 N14 N18 N29 N4 N25; have := cB2 K5; have := cB2 K3))
  refine bodyPost_ret (results_ct rfl _ _ g3 24 #[.int .i64 t13, .int .i64 t14] (0, 0) _ rfl (by refine pf ?_; refine bp (ia2 t13 0) ?_ 1; refine pf ?_; refine bp (ia2 0 0) ?_ 0; exact Z K3) Try.underlying24 rfl (by kernel_rfl)) rfl ?_
  exact ⟨_, ez, by first | exact Kd.R_nil _ _ _ _ _ | exact Kd.N_nil _ _ _ _ _ | exact Kd.V_nil _ _ _ _ _ | exact Kd.Q_nil _ _ _ _ _ | exact Kd.S_nil _ _ _ _ _, YA HB⟩
 subst c3
 rw [if_pos rfl] at H
 obtain ⟨y1, y2⟩ : ∃ y_ : List Int, y_ = (([2] : List Int)) := ⟨_, rfl⟩
 replace H : (some (t13, t14, y1)) = some (r1, r2, r3) := by first | (rw [y2]; with_reducible exact H) | (have H2_ := (Option.bind_some _ _).symm.trans H; rw [y2]; with_reducible exact H2_) | (have H2_ := (Option.bind_some _ _).symm.trans H; with_reducible exact H2_) | with_reducible exact H | (rw [y2]; exact H) | exact H
 have Y25 := am y2
 clear y2
 obtain ⟨rfl, rfl, rfl⟩ := sj3 H
 have := ns5 N8 N10 N12 N19 N27
 have := cB4 K4
 try go_wp2_with (first | ((with_reducible refine gate_dst (N := 10) rfl ?_); refine bxn 10 #[.int .i64 0, .int .i64 0] 24 HB fun g7 w11 K7 G7 hg hb => ?_; obtain ⟨N31,N32⟩ := ne_ hg K1; obtain ⟨N33,N34⟩ := ne_ hg K2; obtain ⟨N35,N36⟩ := ne_ hg K3; obtain ⟨N37,N38⟩ := ne_ hg K4; obtain ⟨N39,N40⟩ := ne_ hg K5; obtain ⟨N41,N42⟩ := ne_ hg K6; obtain ⟨K1, K2, K3, K4, K5, K6, HB⟩ := bk6 K1 K2 K3 K4 K5 K6 HB hb; clear hb hg; have := ns6 N32 N34 N36 N38 N40 N42; have := cB2 K7) | ((with_reducible refine gate_callee (f := 47) rfl ?_); refine gL 51 Try.func47 (impl_Range_empty.calls _ _ _ _ A4.out) fun w12 hb => ?_; replace K1 := am (blk_below (g := g1) (o := b2 a0_0 a0_1 24) (ft N31 K1) hb); replace K2 := am (blk_below (g := g2) (o := b2 a1_0 a1_1 24) (ft N33 K2) hb); replace K3 := am (blk_below (g := g3) (o := b2 0 0 24) (ft N35 K3) hb); replace K4 := am (blk_below (g := g4) (o := b4 t3 t4 t5 t6 96) (ft N37 K4) hb); replace K5 := am (blk_below (g := g5) (o := b2 x2 x3 24) (ft N39 K5) hb); replace K6 := am (blk_below (g := g6) (o := b2 t3 t4 24) (ft N41 K6) hb); replace K7 := am (blk_below (g := g7) (o := b2 t5 t6 24) (by refine pf ?_; refine bp (ia2 t5 0) ?_ 1; refine pf ?_; refine bp (ia2 0 0) ?_ 0; exact Z K7) hb); replace HB := am (below_step (YA HB) hb); (try clear hb)))
 obtain ⟨K1, K2, K3, K4, K5, K6, K7, HB⟩ := dk7 K1 K2 K3 K4 K5 K6 K7 HB
 refine start_ (n := 9) (S := fun w' => ce2 w' g5 x2 x3 ∧ ce2 w' g1 a0_0 a0_1 ∧ ce2 w' g7 t5 t6) (ds := [8]) (lb 9 0) (by kernel_rfl) rfl rfl ⟨cc2 K5, cc2 K1, cc2 K7⟩ (fun hHeld => ?_); refine with_tabW impl_rangeRem.tab11 impl_rangeRem.bits11 (fun HT_ HW_ => ?_)
 generalize w12.drew = w13 at K1 K2 K3 K4 K5 K6 K7 HB hHeld ⊢
 refine pk 2 55 4 ?_
 refine pk 4 57 20 ?_
 refine tk 0 53 21 hHeld ?_
 refine tk 1 54 23 hHeld ?_
 refine tk 3 56 31 hHeld ?_
 refine tk 5 58 63 hHeld ?_
 refine on 6 (some 59) 127 fun K hK => ?_
 refine ck hK Try.func97 (impl_rangeRemBy.calls _ _ _ _ _ _ _ _ A5.out) (fun _ b => bk7 K1 K2 K3 K4 K5 K6 K7 HB b) fun w14 Q_ hHeld => ?_
 clear hK K
 obtain ⟨K1, K2, K3, K4, K5, K6, K7, HB⟩ := Q_
 refine on 7 (some 60) 255 fun K hK => ?_
 refine ck hK Try.func84 (impl_RangeJoin.calls _ _ _ _ _ _ _ _ A6.out) (fun _ b => bk7 K1 K2 K3 K4 K5 K6 K7 HB b) fun w15 Q_ hHeld => ?_
 clear hK K
 obtain ⟨K1, K2, K3, K4, K5, K6, K7, HB⟩ := Q_
 refine last_ (i := 8) (N := none) (lb 9 511) rfl rfl ow (by decide) (fun K hK => ?_)
 have s1 : w15.cell? ⟨g5, 0, none⟩ = some (.int .i64 x2) := bc K5 0
 have hfs159 := blk_frozen K5.out 0
 have := ns10 N13 N15 N17 N19 N30 N40 N14 N16 N18 N20
 have := ns2 N29 N39
 have s2 : w15.cell? ⟨g5, 1, none⟩ = some (.int .i64 x3) := bc K5 1
 have hfs160 := blk_frozen K5.out 1
 have := ns10 N13 N15 N17 N19 N30 N40 N14 N16 N18 N20
 have := ns2 N29 N39
 refine skip_ (w1 := ?_) (by rfl) rfl ?_ ?_
 rotate_left
 ·go_simp
  rfl
 refine hK.out _ _ ?_
 clear hK K
 refine done_ (done_of HT_.out (by kernel_rfl)) ?_
 have := ns4 N2 N5 N15 N23
 have := cB2 K2
 try go_wp2_with (first | ((with_reducible refine gate_callee (f := 95) rfl ?_); refine gL 62 Try.func95 (impl_RangeHas.calls _ _ _ _ _ A7.out) fun w16 hb => ?_; replace K1 := am (blk_below (g := g1) (o := b2 a0_0 a0_1 24) (ft N13 K1) hb); replace K2 := am (blk_below (g := g2) (o := b2 a1_0 a1_1 24) (ft N15 K2) hb); replace K3 := am (blk_below (g := g3) (o := b2 0 0 24) (ft N17 K3) hb); replace K4 := am (blk_below (g := g4) (o := b4 t3 t4 t5 t6 96) (ft N19 K4) hb); replace K5 := am (blk_below (g := g5) (o := b2 t13 t14 24) (by refine pf ?_; refine bp (ia2 t13 x3) ?_ 1; refine pf ?_; refine bp (ia2 x2 x3) ?_ 0; exact Z K5) hb); replace K6 := am (blk_below (g := g6) (o := b2 t3 t4 24) (ft N30 K6) hb); replace K7 := am (blk_below (g := g7) (o := b2 t5 t6 24) (ft N40 K7) hb); replace HB := am (below_step (YA HB) hb); (try clear hb); have := ns3 N14 N18 N29; have := cB2 K5) | ((with_reducible refine gate_dst (N := 64) rfl ?_); refine Kd.R_lit (Kd.int .i64) _ 3 ?hg (N := 64) ?hd (xs := ([2] : List Int)) (inner := [.int .i64 2]) (ok := fun _ => True) (okp := fun _ => True) ?hr ?hp (fun _ hk => hk) trivial (Below.refl _ _) (Nat.le_refl _) (by simp) ?_; (case hd => rfl); (case hg => rfl); (case hr => first | (go_simp; done) | (go_simp; rfl)); (case hp => exact (Reps.one (show Kd.M (Kd.int .i64) _ _ _ 2 [.int .i64 2] from rfl) (Reps.none _ _))); intro v2 w17 o1 hb hg_ hnew_; clear hg_ hnew_; (first | rw [← Y25.out] at o1 | (simp only [Int.reduceToNat] at o1; rw [← Y25.out] at o1)); have O1 := am (Kd.R_lower o1 (below_size (YA HB))); obtain ⟨K1, K2, K3, K4, K5, K6, K7, HB⟩ := bk7 K1 K2 K3 K4 K5 K6 K7 HB hb; clear hb o1; have := ns2 N4 N25; have := cB2 K3))
 refine bodyPost_ret (results_ct rfl _ _ g3 24 #[.int .i64 t13, .int .i64 t14] (0, 0) _ rfl (by refine pf ?_; refine bp (ia2 t13 0) ?_ 1; refine pf ?_; refine bp (ia2 0 0) ?_ 0; exact Z K3) Try.underlying24 rfl (by kernel_rfl)) rfl ?_
 exact ⟨_, ez, by (with_reducible repeat (first | apply Kd.R_alloc | apply Kd.R_drewN | apply Kd.R_drew)); exact Kd.R_mono (Kd.R_far (p := ⟨g3, 1, none⟩) (Kd.R_far (p := ⟨g3, 0, none⟩) (Kd.R_types O1.out K3.out (by decide)) (fun _ hk => hk.2) (.int .i64 t13)) (fun _ hk => hk.2) (.int .i64 t14)) (fun _ hk => trivial), YA HB⟩
end
section
attribute [local go_sem] max2_int min2_int max_two min_two max_three min_three max_four min_four
attribute [local go_sem] Go.Proofs.YthbkakcchgnhpaaSet.isSome_setCell
mutual
def impl_rangeBits.j0 : Nat → Int → Bool → Int → Int → Int → Int → Option (Int × Int)
 | 0, _, _, _, _, _, _ => none
 | k + 1, x1, x2, x3, x4, x5, x6 => if x2 = true then ((impl_numExact.f k x1 x3 x5).bind fun t1 => (some (t1, t1))) else (if x1 = 6 then (if x3 ≥ 0 then (impl_rangeBits.j1 k (decide (x5 ≥ 0)) x3 x4 x5 x6) else (impl_rangeBits.j1 k false x3 x4 x5 x6)) else (if x3 < 0 then (impl_rangeBits.j2 k x1 true x3 x4 x5 x6) else (impl_rangeBits.j2 k x1 (decide (x5 < 0)) x3 x4 x5 x6)))
def impl_rangeBits.j1 : Nat → Bool → Int → Int → Int → Int → Option (Int × Int)
 | 0, _, _, _, _, _ => none
 | k + 1, x1, x2, x3, x4, x5 => if x1 = true then (some (0, mn x3 x5)) else (if x2 ≥ 0 then (some (0, x3)) else (if x4 ≥ 0 then (some (0, x5)) else (some ((-2147483648), 2147483647))))
def impl_rangeBits.j2 : Nat → Int → Bool → Int → Int → Int → Int → Option (Int × Int)
 | 0, _, _, _, _, _, _ => none
 | k + 1, x1, x2, x3, x4, x5, x6 => if x2 = true then (some ((-2147483648), 2147483647)) else (if x1 = 7 then (impl_rangeBits.j3 k x3 x4 x5 x6 (mx x3 x5) 0) else (impl_rangeBits.j3 k x3 x4 x5 x6 0 0))
def impl_rangeBits.j3 : Nat → Int → Int → Int → Int → Int → Int → Option (Int × Int)
 | 0, _, _, _, _, _, _ => none
 | k + 1, x1, x2, x3, x4, x5, x6 => impl_rangeBits.l0 k x1 x2 x3 x4 x5 x6
def impl_rangeBits.l0 : Nat → Int → Int → Int → Int → Int → Int → Option (Int × Int)
 | 0, _, _, _, _, _, _ => none
 | k + 1, x1, x2, x3, x4, x5, x6 => if x6 < (mx x2 x4) then (impl_rangeBits.l0 k x1 x2 x3 x4 x5 (wrap64 ((wrap64 (2 * x6)) + 1))) else (some (x5, x6))
end
def impl_rangeBits.f (k : Nat) (a0 : Int) (a1_0 : Int) (a1_1 : Int) (a2_0 : Int) (a2_1 : Int) : Option (Int × Int) := (impl_Range_single.f a1_0 a1_1).bind fun t1 => (if t1 = true then ((impl_Range_single.f a2_0 a2_1).bind fun t2 => (impl_rangeBits.j0 k a0 t2 a1_0 a1_1 a2_0 a2_1)) else (impl_rangeBits.j0 k a0 false a1_0 a1_1 a2_0 a2_1))
theorem impl_rangeBits.mono_l : ∀ k, (∀ y0 y1 y2 y3 y4 y5, LeO (impl_rangeBits.j0 k y0 y1 y2 y3 y4 y5) (impl_rangeBits.j0 (k + 1) y0 y1 y2 y3 y4 y5)) ∧ (∀ y0 y1 y2 y3 y4, LeO (impl_rangeBits.j1 k y0 y1 y2 y3 y4) (impl_rangeBits.j1 (k + 1) y0 y1 y2 y3 y4)) ∧ (∀ y0 y1 y2 y3 y4 y5, LeO (impl_rangeBits.j2 k y0 y1 y2 y3 y4 y5) (impl_rangeBits.j2 (k + 1) y0 y1 y2 y3 y4 y5)) ∧ (∀ y0 y1 y2 y3 y4 y5, LeO (impl_rangeBits.j3 k y0 y1 y2 y3 y4 y5) (impl_rangeBits.j3 (k + 1) y0 y1 y2 y3 y4 y5)) ∧ (∀ y0 y1 y2 y3 y4 y5, LeO (impl_rangeBits.l0 k y0 y1 y2 y3 y4 y5) (impl_rangeBits.l0 (k + 1) y0 y1 y2 y3 y4 y5))
 | 0 => ⟨fun _ _ _ _ _ _ r h => by simp [impl_rangeBits.j0] at h, fun _ _ _ _ _ r h => by simp [impl_rangeBits.j1] at h, fun _ _ _ _ _ _ r h => by simp [impl_rangeBits.j2] at h, fun _ _ _ _ _ _ r h => by simp [impl_rangeBits.j3] at h, fun _ _ _ _ _ _ r h => by simp [impl_rangeBits.l0] at h⟩
 | k + 1 => by
  obtain ⟨ih0, ih1, ih2, ih3, ih4⟩ := impl_rangeBits.mono_l k
  refine ⟨?_, ?_, ?_, ?_, ?_⟩ <;> (intros; (first | unfold impl_rangeBits.j0 | unfold impl_rangeBits.j1 | unfold impl_rangeBits.j2 | unfold impl_rangeBits.j3 | unfold impl_rangeBits.l0); repeat' first | (with_reducible first | apply ih0 | apply ih1 | apply ih2 | apply ih3 | apply ih4 | apply impl_numExact.mono | apply LeO.refl | apply LeO.none | refine LeO.ite ?_ ?_ | refine LeO.bind ?_ (fun _ => ?_)) | apply ih0 | apply ih1 | apply ih2 | apply ih3 | apply ih4 | apply impl_numExact.mono | apply LeO.none | refine LeO.ite ?_ ?_ | refine LeO.bind ?_ (fun _ => ?_))
theorem impl_rangeBits.mono : ∀ a0 a1 a2 a3 a4 k, LeO (impl_rangeBits.f k a0 a1 a2 a3 a4) (impl_rangeBits.f (k + 1) a0 a1 a2 a3 a4) := by
 intro a0 a1 a2 a3 a4 k
 obtain ⟨ih0, ih1, ih2, ih3, ih4⟩ := impl_rangeBits.mono_l k
 unfold impl_rangeBits.f
 repeat' first | (with_reducible first | apply ih0 | apply ih1 | apply ih2 | apply ih3 | apply ih4 | apply impl_numExact.mono | apply LeO.refl | apply LeO.none | refine LeO.ite ?_ ?_ | refine LeO.bind ?_ (fun _ => ?_)) | apply ih0 | apply ih1 | apply ih2 | apply ih3 | apply ih4 | apply impl_numExact.mono | apply LeO.none | refine LeO.ite ?_ ?_ | refine LeO.bind ?_ (fun _ => ?_)
set_option maxHeartbeats 8000000 in
set_option maxRecDepth 100000 in
theorem impl_rangeBits.calls (k : Nat) (a0 : Int) (a1_0 : Int) (a1_1 : Int) (a2_0 : Int) (a2_1 : Int) (r1 : Int) (r2 : Int) (w : World) (h : impl_rangeBits.f k a0 a1_0 a1_1 a2_0 a2_1 = some (r1, r2)) :
  Calls Try.prog 55 #[.int .i64 a0, .agg #[.int .i64 a1_0, .int .i64 a1_1], .agg #[.int .i64 a2_0, .int .i64 a2_1]] w fun e w' => e = .returned (.agg #[.int .i64 r1, .int .i64 r2]) ∧ Below w.heap.size w w' := by
 have hu24 := Try.underlying24
 have HB := am (Below.refl w.heap.size w)
 have H : ((impl_Range_single.f a1_0 a1_1).bind fun t1 => (if t1 = true then ((impl_Range_single.f a2_0 a2_1).bind fun t2 => (impl_rangeBits.j0 k a0 t2 a1_0 a1_1 a2_0 a2_1)) else (impl_rangeBits.j0 k a0 false a1_0 a1_1 a2_0 a2_1))) = some (r1, r2) := h
 clear h
 have C1 := am H
 clear H
 go_enter Try.func55, Try.ntmps55
 go_upto_region 1 with (first | ((with_reducible refine gate_dst (N := 4) rfl ?_); refine bxn 4 #[.int .i64 a1_0, .int .i64 a1_1] 24 HB fun g1 w1 K1 G1 hg hb => ?_; replace HB := am (below_step (YA HB) hb); clear hb hg) | ((with_reducible refine gate_dst (N := 5) rfl ?_); refine bxn 5 #[.int .i64 a2_0, .int .i64 a2_1] 24 HB fun g2 w2 K2 G2 hg hb => ?_; obtain ⟨N1,N2⟩ := ne_ hg K1; obtain ⟨K1, HB⟩ := bk1 K1 HB hb; clear hb hg) | ((with_reducible refine gate_dst (N := 6) rfl ?_); refine bxn 6 #[.int .i64 0, .int .i64 0] 24 HB fun g3 w3 K3 G3 hg hb => ?_; obtain ⟨N3,N4⟩ := ne_ hg K1; obtain ⟨N5,N6⟩ := ne_ hg K2; obtain ⟨K1, K2, HB⟩ := bk2 K1 K2 HB hb; clear hb hg))
 (try simp only [Act.put, List.setIfInBounds_toArray, List.set_cons_zero, List.set_cons_succ])
 go_cut [14] (fun v1 wc => ∃ (kq : Nat) (x1 : Bool), v1 = .bool x1 ∧ Aside0 (impl_rangeBits.j0 kq a0 x1 a1_0 a1_1 a2_0 a2_1 = some (r1, r2)) ∧ Aside0 (kq ≤ k) ∧ Bx2 wc g1 a1_0 a1_1 24 ∧ Bx2 wc g2 a2_0 a2_1 24 ∧ Bx2 wc g3 0 0 24 ∧ Aside0 (Below w.heap.size w wc))
 case first =>
  have H := C1.out
  clear C1
  obtain ⟨t1, A1, H⟩ := bd H
  try dsimp only at H
  by_cases c1 : t1 = true
  rotate_left
  ·replace c1 := Bool.eq_false_iff.mpr c1
   subst c1
   rw [if_neg ff] at H
   have H' := am H
   clear H
   have := ns2 N1 N3
   have := cB2 K1
   go_wp2_with (first | ((with_reducible refine gate_callee (f := 96) rfl ?_); refine gL 10 Try.func96 (impl_Range_single.calls _ _ _ _ A1.out) fun w4 hb => ?_; obtain ⟨K1, K2, K3, HB⟩ := bk3 K1 K2 K3 HB hb; (try clear hb)))
   go_meet
   case rel => exact ⟨_, (false), ey, H', le0, ⟨Z K1⟩, ⟨Z K2⟩, ⟨Z K3⟩, ⟨YA HB⟩⟩
  subst c1
  rw [if_pos rfl] at H
  obtain ⟨t2, A2, H⟩ := bd H
  try dsimp only at H
  have H' := am H
  clear H
  have := ns2 N1 N3
  have := cB2 K1
  go_wp2_with (first | ((with_reducible refine gate_callee (f := 96) rfl ?_); refine gL 10 Try.func96 (impl_Range_single.calls _ _ _ _ A1.out) fun w4 hb => ?_; obtain ⟨K1, K2, K3, HB⟩ := bk3 K1 K2 K3 HB hb; (try clear hb); have := ns1 N5; have := cB2 K2) | (go_at_call 96; (with_reducible refine (impl_Range_single.calls _ _ _ _ A2.out).mono ?_); rintro e w5 ⟨rfl, hb⟩; obtain ⟨K1, K2, K3, HB⟩ := bk3 K1 K2 K3 HB hb; (try clear hb)))
  go_meet
  case rel => exact ⟨_, (t2), ey, H', le0, ⟨Z K1⟩, ⟨Z K2⟩, ⟨Z K3⟩, ⟨YA HB⟩⟩
 clear C1
 obtain ⟨kq, x1, rfl, HA, J1, K1, K2, K3, HB⟩ := hcut
 cases kq with
 | zero => exact absurd HA.out (by simp [impl_rangeBits.j0])
 | succ k1 => ?_
 have H := HA.out
 clear HA
 simp only [impl_rangeBits.j0] at H
 by_cases c1 : x1 = true
 ·subst c1
  rw [if_pos rfl] at H
  obtain ⟨t3, A1, H⟩ := bd H
  try dsimp only at H
  obtain ⟨rfl, rfl⟩ := sj2 H
  have := ns3 N1 N3 N5
  have := cB2 K1
  have := cB2 K2
  go_wp2_with (first | ((with_reducible refine gate_callee (f := 61) rfl ?_); refine goesL_ (some 20) rfl rfl Try.func61 (by kernel_rfl) rfl #[.int .i64 a0, .int .i64 a1_0, .int .i64 a2_0] rfl mz ?_; (with_reducible refine (impl_numExact.calls _ _ _ _ _ _ A1.out).mono ?_); rintro e w' ⟨rfl, ⟨nd, rfl⟩⟩; refine ⟨_, rfl, ?_⟩; (try (rw [drewN_self wc]; generalize hq_ : World.drewN wc _ = wc; replace K1 : Bx2 wc g1 a1_0 a1_1 24 := ⟨by rw [← hq_]; exact (Z K1)⟩; replace K2 : Bx2 wc g2 a2_0 a2_1 24 := ⟨by rw [← hq_]; exact (Z K2)⟩; replace K3 : Bx2 wc g3 0 0 24 := ⟨by rw [← hq_]; exact (Z K3)⟩; replace HB : Aside0 (Below w.heap.size w wc) := ⟨by rw [← hq_]; exact (YA HB)⟩; clear hq_)); have := cB2 K3))
  refine bodyPost_ret (results_cell_row rfl _ _ g3 24 #[.int .i64 t3, .int .i64 t3] (0, 0) _ rfl (by refine pf ?_; refine bp (ia2 t3 0) ?_ 1; refine pf ?_; refine bp (ia2 0 0) ?_ 0; exact Z K3) Try.underlying24 rfl (by kernel_rfl)) rfl ?_
  exact ⟨ez, YA HB⟩
 replace c1 := Bool.eq_false_iff.mpr c1
 subst c1
 rw [if_neg ff] at H
 by_cases c2 : a0 = 6
 ·rw [if_pos c2] at H
  have d1 := eT c2
  have d2 := nF c2
  clear c2
  have C2 := am H
  clear H
  go_upto_region 5 with (fail)
  go_cut [26] (fun v2 wc => ∃ (kq : Nat) (x2 : Bool), v2 = .bool x2 ∧ Aside0 (impl_rangeBits.j1 kq x2 a1_0 a1_1 a2_0 a2_1 = some (r1, r2)) ∧ Aside0 (kq ≤ k1) ∧ Bx2 wc g1 a1_0 a1_1 24 ∧ Bx2 wc g2 a2_0 a2_1 24 ∧ Bx2 wc g3 0 0 24 ∧ Aside0 (Below w.heap.size w wc))
  case first =>
   have H := C2.out
   clear C2
   by_cases c3 : a1_0 ≥ 0
   rotate_left
   ·rw [if_neg c3] at H
    have d3 := dF c3
    clear c3
    (first | rw [d3] | (simp only [i64_w, i32_w]; rw [d3]) | skip)
    have H' := am H
    clear H
    have := ns2 N1 N3
    have := cB2 K1
    go_wp2
    go_meet
    case rel => exact ⟨_, (false), ey, H', le1 J1, ⟨Z K1⟩, ⟨Z K2⟩, ⟨Z K3⟩, ⟨YA HB⟩⟩
   rw [if_pos c3] at H
   have d3 := dT c3
   clear c3
   (first | rw [d3] | (simp only [i64_w, i32_w]; rw [d3]) | skip)
   have H' := am H
   clear H
   have := ns3 N1 N3 N5
   have := cB2 K1
   have := cB2 K2
   go_wp2
   go_meet
   case rel => exact ⟨_, (decide (a2_0 ≥ 0)), ey, H', le1 J1, ⟨Z K1⟩, ⟨Z K2⟩, ⟨Z K3⟩, ⟨YA HB⟩⟩
  clear C2
  (try clear c1);(try clear d1);(try clear d2)
  obtain ⟨kq, x2, rfl, HA, J2, K1, K2, K3, HB⟩ := hcut
  cases kq with
  | zero => exact absurd HA.out (by simp [impl_rangeBits.j1])
  | succ k2 => ?_
  have H := HA.out
  clear HA
  simp only [impl_rangeBits.j1] at H
  by_cases c3 : x2 = true
  ·subst c3
   rw [if_pos rfl] at H
   obtain ⟨i1, j7⟩ : ∃ j_ : Int, (mn a1_1 a2_1) = j_ := ⟨_, rfl⟩
   replace H : (some (0, i1)) = some (r1, r2) := by first | (rw [j7] at H; exact H) | (simp only [j7] at H ⊢; exact H)
   have hji42_ : (if a2_1 < a1_1 then a2_1 else a1_1) = i1 := j7
   obtain ⟨rfl, rfl⟩ := sj2 H
   have := ns3 N1 N3 N5
   have := cB2 K1
   have := cB2 K2
   have := cB2 K3
   go_wp2
   refine bodyPost_ret (results_cell_row rfl _ _ g3 24 #[.int .i64 0, .int .i64 i1] (0, 0) _ rfl (by refine pf ?_; refine bp (ia2 0 0) ?_ 1; refine pf ?_; refine bp (ia2 0 0) ?_ 0; exact Z K3) Try.underlying24 rfl (by kernel_rfl)) rfl ?_
   exact ⟨by first | rfl | (simp [errW_none, errW_some] <;> rfl) | (simp only [← j7]; first | rfl | (simp [errW_none, errW_some] <;> rfl)) | (simp [*, errW_none, errW_some] <;> rfl), YA HB⟩
  replace c3 := Bool.eq_false_iff.mpr c3
  subst c3
  rw [if_neg ff] at H
  by_cases c4 : a1_0 ≥ 0
  ·rw [if_pos c4] at H
   have d3 := dT c4
   clear c4
   obtain ⟨rfl, rfl⟩ := sj2 H
   have := ns3 N1 N3 N6
   have := cB2 K1
   have := cB2 K3
   go_wp2
   refine bodyPost_ret (results_cell_row rfl _ _ g3 24 #[.int .i64 0, .int .i64 a1_1] (0, 0) _ rfl (by refine pf ?_; refine bp (ia2 0 0) ?_ 1; refine pf ?_; refine bp (ia2 0 0) ?_ 0; exact Z K3) Try.underlying24 rfl (by kernel_rfl)) rfl ?_
   exact ⟨ez, YA HB⟩
  rw [if_neg c4] at H
  have d3 := dF c4
  clear c4
  by_cases c5 : a2_0 ≥ 0
  ·rw [if_pos c5] at H
   have d4 := dT c5
   clear c5
   obtain ⟨rfl, rfl⟩ := sj2 H
   have := ns3 N1 N3 N5
   have := cB2 K1
   have := cB2 K2
   have := cB2 K3
   go_wp2
   refine bodyPost_ret (results_cell_row rfl _ _ g3 24 #[.int .i64 0, .int .i64 a2_1] (0, 0) _ rfl (by refine pf ?_; refine bp (ia2 0 0) ?_ 1; refine pf ?_; refine bp (ia2 0 0) ?_ 0; exact Z K3) Try.underlying24 rfl (by kernel_rfl)) rfl ?_
   exact ⟨ez, YA HB⟩
  rw [if_neg c5] at H
  have d4 := dF c5
  clear c5
  obtain ⟨rfl, rfl⟩ := sj2 H
  have := ns3 N1 N3 N5
  have := cB2 K1
  have := cB2 K2
  have := cB2 K3
  go_wp2
  refine bodyPost_ret (results_cell_row rfl _ _ g3 24 #[.int .i64 (-2147483648), .int .i64 2147483647] (0, 0) _ rfl (by refine pf ?_; refine bp (ia2 (-2147483648) 0) ?_ 1; refine pf ?_; refine bp (ia2 0 0) ?_ 0; exact Z K3) Try.underlying24 rfl (by kernel_rfl)) rfl ?_
  exact ⟨ez, YA HB⟩
 rw [if_neg c2] at H
 have d1 := eF c2
 have d2 := nT c2
 have C2 := am H
 clear H
 go_upto_region 12 with (fail)
 go_cut [63] (fun v2 wc => ∃ (kq : Nat) (x2 : Bool), v2 = .bool x2 ∧ Aside0 (impl_rangeBits.j2 kq a0 x2 a1_0 a1_1 a2_0 a2_1 = some (r1, r2)) ∧ Aside0 (kq ≤ k1) ∧ Bx2 wc g1 a1_0 a1_1 24 ∧ Bx2 wc g2 a2_0 a2_1 24 ∧ Bx2 wc g3 0 0 24 ∧ Aside0 (Below w.heap.size w wc))
 case first =>
  have H := C2.out
  clear C2
  by_cases c3 : a1_0 < 0
  ·rw [if_pos c3] at H
   have d3 := dT c3
   clear c3
   (first | rw [d3] | (simp only [i64_w, i32_w]; rw [d3]) | skip)
   have H' := am H
   clear H
   have := ns2 N1 N3
   have := cB2 K1
   go_wp2
   go_meet
   case rel => exact ⟨_, (true), ey, H', le1 J1, ⟨Z K1⟩, ⟨Z K2⟩, ⟨Z K3⟩, ⟨YA HB⟩⟩
  rw [if_neg c3] at H
  have d3 := dF c3
  clear c3
  (first | rw [d3] | (simp only [i64_w, i32_w]; rw [d3]) | skip)
  have H' := am H
  clear H
  have := ns3 N1 N3 N5
  have := cB2 K1
  have := cB2 K2
  go_wp2
  go_meet
  case rel => exact ⟨_, (decide (a2_0 < 0)), ey, H', le1 J1, ⟨Z K1⟩, ⟨Z K2⟩, ⟨Z K3⟩, ⟨YA HB⟩⟩
 clear C2
 (try clear c1);(try clear c2);(try clear d1);(try clear d2)
 obtain ⟨kq, x2, rfl, HA, J2, K1, K2, K3, HB⟩ := hcut
 cases kq with
 | zero => exact absurd HA.out (by simp [impl_rangeBits.j2])
 | succ k2 => ?_
 have H := HA.out
 clear HA
 simp only [impl_rangeBits.j2] at H
 by_cases c3 : x2 = true
 ·subst c3
  rw [if_pos rfl] at H
  obtain ⟨rfl, rfl⟩ := sj2 H
  have := ns2 N4 N6
  have := cB2 K3
  go_wp2
  refine bodyPost_ret (results_cell_row rfl _ _ g3 24 #[.int .i64 (-2147483648), .int .i64 2147483647] (0, 0) _ rfl (by refine pf ?_; refine bp (ia2 (-2147483648) 0) ?_ 1; refine pf ?_; refine bp (ia2 0 0) ?_ 0; exact Z K3) Try.underlying24 rfl (by kernel_rfl)) rfl ?_
  exact ⟨ez, YA HB⟩
 replace c3 := Bool.eq_false_iff.mpr c3
 subst c3
 rw [if_neg ff] at H
 have C3 := am H
 clear H
 go_upto_if 67 with (first | ((with_reducible refine gate_dst (N := 8) rfl ?_); refine bxn 8 #[.int .i64 0, .int .i64 0] 24 HB fun g4 w4 K4 G4 hg hb => ?_; obtain ⟨N7,N8⟩ := ne_ hg K1; obtain ⟨N9,N10⟩ := ne_ hg K2; obtain ⟨N11,N12⟩ := ne_ hg K3; obtain ⟨K1, K2, K3, HB⟩ := bk3 K1 K2 K3 HB hb; clear hb hg; have := ns3 N8 N10 N12; have := cB2 K4))
 (try simp only [Act.put, List.setIfInBounds_toArray, List.set_cons_zero, List.set_cons_succ])
 go_cut [] (fun wc => ∃ (kq : Nat) (x3 : Int), Aside0 (impl_rangeBits.j3 kq a1_0 a1_1 a2_0 a2_1 x3 0 = some (r1, r2)) ∧ Aside0 (kq ≤ k2) ∧ Bx2 wc g1 a1_0 a1_1 24 ∧ Bx2 wc g2 a2_0 a2_1 24 ∧ Bx2 wc g3 0 0 24 ∧ Bx2 wc g4 x3 0 24 ∧ Aside0 (Below w.heap.size w wc))
 case first =>
  have H := C3.out
  clear C3
  by_cases c4 : a0 = 7
  rotate_left
  ·rw [if_neg c4] at H
   have d3 := eF c4
   have d4 := nT c4
   (first | rw [d3] | (simp only [i64_w, i32_w]; rw [d3]) | skip)
   have H' := am H
   clear H
   go_wp2
   go_meet
   case rel => exact ⟨_, (0), H', ⟨by have := J1.out; have := J2.out; first | omega | exact Nat.le_refl _⟩, ⟨ft N7 K1⟩, ⟨ft N9 K2⟩, ⟨ft N11 K3⟩, ⟨by refine pf ?_; refine bp (ia2 0 0) ?_ 1; refine pf ?_; refine bp (ia2 0 0) ?_ 0; exact Z K4⟩, ⟨YA HB⟩⟩
  rw [if_pos c4] at H
  have d3 := eT c4
  have d4 := nF c4
  clear c4
  (first | rw [d3] | (simp only [i64_w, i32_w]; rw [d3]) | skip)
  obtain ⟨i1, j7⟩ : ∃ j_ : Int, (mx a1_0 a2_0) = j_ := ⟨_, rfl⟩
  replace H : (impl_rangeBits.j3 k2 a1_0 a1_1 a2_0 a2_1 i1 0) = some (r1, r2) := by first | (rw [j7] at H; exact H) | (simp only [j7] at H ⊢; exact H)
  have hji89_ : (if a1_0 < a2_0 then a2_0 else a1_0) = i1 := j7
  have H' := am H
  clear H
  have := ns6 N1 N3 N7 N5 N9 N12
  have := cB2 K1
  have := cB2 K2
  have := cB2 K4
  go_wp2
  go_meet
  case rel => exact ⟨_, (i1), H', ⟨by have := J1.out; have := J2.out; first | omega | exact Nat.le_refl _⟩, ⟨ft N7 K1⟩, ⟨ft N9 K2⟩, ⟨ft N11 K3⟩, ⟨by refine pf ?_; refine bp (ia2 0 0) ?_ 0; refine pf ?_; refine bp (ia2 0 0) ?_ 1; refine pf ?_; refine bp (ia2 0 0) ?_ 0; exact Z K4⟩, ⟨YA HB⟩⟩
 clear C3
 (try clear c3)
 obtain ⟨kq, x3, HA, J3, K1, K2, K3, K4, HB⟩ := hcut
 cases kq with
 | zero => exact absurd HA.out (by simp [impl_rangeBits.j3])
 | succ k3 => ?_
 have H := HA.out
 clear HA
 simp only [impl_rangeBits.j3] at H
 have H' := am H
 clear H
 go_wp2
 go_loopg [] k3 (fun kq w' => ∃ (x4 : Int), Aside0 (impl_rangeBits.l0 kq a1_0 a1_1 a2_0 a2_1 x3 x4 = some (r1, r2)) ∧ Aside0 (kq ≤ k3) ∧ Aside0 (w'.heap[g1]? = some (.cells #[.int .i64 a1_0, .int .i64 a1_1] 24 (0, 0))) ∧ Aside0 (w'.heap[g2]? = some (.cells #[.int .i64 a2_0, .int .i64 a2_1] 24 (0, 0))) ∧ Aside0 (w'.heap[g3]? = some (.cells #[.int .i64 0, .int .i64 0] 24 (0, 0))) ∧ Aside0 (w'.heap[g4]? = some (.cells #[.int .i64 x3, .int .i64 x4] 24 (0, 0))) ∧ Aside0 (Below w.heap.size w w'))
 case atStart => exact ⟨(0), H', ⟨Nat.le_refl _⟩, ⟨Z K1⟩, ⟨Z K2⟩, ⟨Z K3⟩, ⟨Z K4⟩, ⟨YA HB⟩⟩
 case round =>
  clear H'
  obtain ⟨x4, HA, HK4, K1, K2, K3, K4, HB⟩ := hrel
  cases gk with
  | zero => exact absurd HA.out (by simp [impl_rangeBits.l0])
  | succ k4 => ?_
  have H := HA.out
  clear HA
  simp only [impl_rangeBits.l0] at H
  obtain ⟨i1, j7⟩ : ∃ j_ : Int, (mx a1_1 a2_1) = j_ := ⟨_, rfl⟩
  replace H : (if x4 < (i1) then (impl_rangeBits.l0 k4 a1_0 a1_1 a2_0 a2_1 x3 (wrap64 ((wrap64 (2 * x4)) + 1))) else (some (x3, x4))) = some (r1, r2) := by first | (rw [j7] at H; exact H) | (simp only [j7] at H ⊢; exact H)
  have hji99_ : (if a1_1 < a2_1 then a2_1 else a1_1) = i1 := j7
  by_cases c4 : x4 < (i1)
  ·rw [if_pos c4] at H
   have d3 := dT c4
   clear c4
   have H' := am H
   clear H
   have := ns6 N8 N10 N12 N1 N3 N5
   have := cB2 K4
   have := cB2 K1
   have := cB2 K2
   go_wp2
   go_roundg k4
   case measure => have := J1.out; have := J2.out; have := J3.out; have := HK4.out; omega
   case rel => exact ⟨(wrap64 ((wrap64 (2 * x4)) + 1)), H', ⟨by have := J1.out; have := J2.out; have := J3.out; have := HK4.out; omega⟩, ⟨ft N7 K1⟩, ⟨ft N9 K2⟩, ⟨ft N11 K3⟩, ⟨by refine pf ?_; refine bp (ia2 x3 x4) ?_ 1; exact Z K4⟩, ⟨YA HB⟩⟩
  rw [if_neg c4] at H
  have d3 := dF c4
  clear c4
  obtain ⟨rfl, rfl⟩ := sj2 H
  have := ns6 N8 N10 N12 N1 N3 N5
  have := cB2 K4
  have := cB2 K1
  have := cB2 K2
  have := cB2 K3
  go_wp2
  refine bodyPost_ret (results_cell_row rfl _ _ g3 24 #[.int .i64 x3, .int .i64 x4] (0, 0) _ rfl (by refine pf ?_; refine bp (ia2 x3 0) ?_ 1; refine pf ?_; refine bp (ia2 0 0) ?_ 0; exact Z K3) Try.underlying24 rfl (by kernel_rfl)) rfl ?_
  exact ⟨by first | rfl | (simp [errW_none, errW_some] <;> rfl) | (simp only [← j7]; first | rfl | (simp [errW_none, errW_some] <;> rfl)) | (simp [*, errW_none, errW_some] <;> rfl), YA HB⟩
end
section
attribute [local go_sem] max2_int min2_int max_two min_two max_three min_three max_four min_four
attribute [local go_sem] Go.Proofs.YthbkakcchgnhpaaSet.isSome_setCell
mutual
def impl_RangeDo.j0 : Nat → Int → Bool → Int → Int → Int → Int → Option (Int × Int × List Int)
 | 0, _, _, _, _, _, _ => none
 | k + 1, x1, x2, x3, x4, x5, x6 => if x2 = true then ((impl_rangeNone.f).bind fun u1 => (some (u1.1, u1.2, ([] : List Int)))) else (if x1 = 1 then (impl_RangeDo.j1 k x1 x1 (x1 == 1) x3 x4 x5 x6) else (if x1 = 2 then (impl_RangeDo.j1 k x1 x1 (x1 == 2) x3 x4 x5 x6) else (impl_RangeDo.j1 k x1 x1 (x1 == 3) x3 x4 x5 x6)))
def impl_RangeDo.j1 : Nat → Int → Int → Bool → Int → Int → Int → Int → Option (Int × Int × List Int)
 | 0, _, _, _, _, _, _, _ => none
 | k + 1, x1, x2, x3, x4, x5, x6, x7 => if x3 = true then ((impl_rangeCorners.f k x1 x4 x5 x6 x7).bind fun u1 => (if u1.1 < (-2147483648) then (impl_RangeDo.j2 k u1.1 u1.2 true) else (impl_RangeDo.j2 k u1.1 u1.2 (decide (u1.2 > 2147483647))))) else (if x2 = 11 then (impl_RangeDo.j3 k x1 x2 (x2 == 11) x4 x5 x6 x7) else (if x2 = 12 then (impl_RangeDo.j3 k x1 x2 (x2 == 12) x4 x5 x6 x7) else (impl_RangeDo.j3 k x1 x2 (x2 == 13) x4 x5 x6 x7)))
def impl_RangeDo.j2 : Nat → Int → Int → Bool → Option (Int × Int × List Int)
 | 0, _, _, _ => none
 | k + 1, x1, x2, x3 => if x3 = true then ((impl_rangeFrom.f x1 x2).bind fun u1 => (some (u1.1, u1.2, (([1] : List Int))))) else ((impl_rangeFrom.f x1 x2).bind fun u2 => (some (u2.1, u2.2, ([] : List Int))))
def impl_RangeDo.j3 : Nat → Int → Int → Bool → Int → Int → Int → Int → Option (Int × Int × List Int)
 | 0, _, _, _, _, _, _, _ => none
 | k + 1, x1, x2, x3, x4, x5, x6, x7 => if x3 = true then ((impl_rangeWrap.f k x1 x4 x5 x6 x7).bind fun u1 => (some (u1.1, u1.2, ([] : List Int)))) else (if x2 = 9 then (impl_RangeDo.j4 k x1 x2 (x2 == 9) x4 x5 x6 x7) else (impl_RangeDo.j4 k x1 x2 (x2 == 10) x4 x5 x6 x7))
def impl_RangeDo.j4 : Nat → Int → Int → Bool → Int → Int → Int → Int → Option (Int × Int × List Int)
 | 0, _, _, _, _, _, _, _ => none
 | k + 1, x1, x2, x3, x4, x5, x6, x7 => if x3 = true then ((impl_rangeShift.f k x1 x4 x5 x6 x7).bind fun u1 => (some (u1.1, u1.2.1, u1.2.2))) else (if x2 = 4 then ((impl_rangeDiv.f k x4 x5 x6 x7).bind fun u2 => (some (u2.1, u2.2.1, u2.2.2))) else (if x2 = 5 then ((impl_rangeRem.f k x4 x5 x6 x7).bind fun u3 => (some (u3.1, u3.2.1, u3.2.2))) else ((impl_rangeBits.f k x1 x4 x5 x6 x7).bind fun u4 => (some (u4.1, u4.2, ([] : List Int))))))
end
def impl_RangeDo.f (k : Nat) (a0 : Int) (a1_0 : Int) (a1_1 : Int) (a2_0 : Int) (a2_1 : Int) : Option (Int × Int × List Int) := (impl_numOp.f a0).bind fun t1 => (if t1 = true then ((impl_RangeOk.f a1_0 a1_1).bind fun t2 => (if t2 = true then ((impl_RangeOk.f a2_0 a2_1).bind fun t3 => (if t3 = true then ((impl_Range_empty.f a1_0 a1_1).bind fun t4 => (if t4 = true then (impl_RangeDo.j0 k a0 true a1_0 a1_1 a2_0 a2_1) else ((impl_Range_empty.f a2_0 a2_1).bind fun t5 => (impl_RangeDo.j0 k a0 t5 a1_0 a1_1 a2_0 a2_1)))) else (impl_RangeDo.j0 k a0 true a1_0 a1_1 a2_0 a2_1))) else (impl_RangeDo.j0 k a0 true a1_0 a1_1 a2_0 a2_1))) else (impl_RangeDo.j0 k a0 true a1_0 a1_1 a2_0 a2_1))
theorem impl_RangeDo.mono_l : ∀ k, (∀ y0 y1 y2 y3 y4 y5, LeO (impl_RangeDo.j0 k y0 y1 y2 y3 y4 y5) (impl_RangeDo.j0 (k + 1) y0 y1 y2 y3 y4 y5)) ∧ (∀ y0 y1 y2 y3 y4 y5 y6, LeO (impl_RangeDo.j1 k y0 y1 y2 y3 y4 y5 y6) (impl_RangeDo.j1 (k + 1) y0 y1 y2 y3 y4 y5 y6)) ∧ (∀ y0 y1 y2, LeO (impl_RangeDo.j2 k y0 y1 y2) (impl_RangeDo.j2 (k + 1) y0 y1 y2)) ∧ (∀ y0 y1 y2 y3 y4 y5 y6, LeO (impl_RangeDo.j3 k y0 y1 y2 y3 y4 y5 y6) (impl_RangeDo.j3 (k + 1) y0 y1 y2 y3 y4 y5 y6)) ∧ (∀ y0 y1 y2 y3 y4 y5 y6, LeO (impl_RangeDo.j4 k y0 y1 y2 y3 y4 y5 y6) (impl_RangeDo.j4 (k + 1) y0 y1 y2 y3 y4 y5 y6))
 | 0 => ⟨fun _ _ _ _ _ _ r h => by simp [impl_RangeDo.j0] at h, fun _ _ _ _ _ _ _ r h => by simp [impl_RangeDo.j1] at h, fun _ _ _ r h => by simp [impl_RangeDo.j2] at h, fun _ _ _ _ _ _ _ r h => by simp [impl_RangeDo.j3] at h, fun _ _ _ _ _ _ _ r h => by simp [impl_RangeDo.j4] at h⟩
 | k + 1 => by
  obtain ⟨ih0, ih1, ih2, ih3, ih4⟩ := impl_RangeDo.mono_l k
  refine ⟨?_, ?_, ?_, ?_, ?_⟩ <;> (intros; (first | unfold impl_RangeDo.j0 | unfold impl_RangeDo.j1 | unfold impl_RangeDo.j2 | unfold impl_RangeDo.j3 | unfold impl_RangeDo.j4); repeat' first | (with_reducible first | apply ih0 | apply ih1 | apply ih2 | apply ih3 | apply ih4 | apply impl_rangeBits.mono | apply impl_rangeCorners.mono | apply impl_rangeDiv.mono | apply impl_rangeRem.mono | apply impl_rangeShift.mono | apply impl_rangeWrap.mono | apply LeO.refl | apply LeO.none | refine LeO.ite ?_ ?_ | refine LeO.bind ?_ (fun _ => ?_)) | apply ih0 | apply ih1 | apply ih2 | apply ih3 | apply ih4 | apply impl_rangeBits.mono | apply impl_rangeCorners.mono | apply impl_rangeDiv.mono | apply impl_rangeRem.mono | apply impl_rangeShift.mono | apply impl_rangeWrap.mono | apply LeO.none | refine LeO.ite ?_ ?_ | refine LeO.bind ?_ (fun _ => ?_))
theorem impl_RangeDo.mono : ∀ a0 a1 a2 a3 a4 k, LeO (impl_RangeDo.f k a0 a1 a2 a3 a4) (impl_RangeDo.f (k + 1) a0 a1 a2 a3 a4) := by
 intro a0 a1 a2 a3 a4 k
 obtain ⟨ih0, ih1, ih2, ih3, ih4⟩ := impl_RangeDo.mono_l k
 unfold impl_RangeDo.f
 repeat' first | (with_reducible first | apply ih0 | apply ih1 | apply ih2 | apply ih3 | apply ih4 | apply impl_rangeBits.mono | apply impl_rangeCorners.mono | apply impl_rangeDiv.mono | apply impl_rangeRem.mono | apply impl_rangeShift.mono | apply impl_rangeWrap.mono | apply LeO.refl | apply LeO.none | refine LeO.ite ?_ ?_ | refine LeO.bind ?_ (fun _ => ?_)) | apply ih0 | apply ih1 | apply ih2 | apply ih3 | apply ih4 | apply impl_rangeBits.mono | apply impl_rangeCorners.mono | apply impl_rangeDiv.mono | apply impl_rangeRem.mono | apply impl_rangeShift.mono | apply impl_rangeWrap.mono | apply LeO.none | refine LeO.ite ?_ ?_ | refine LeO.bind ?_ (fun _ => ?_)
set_option maxHeartbeats 8000000 in
set_option maxRecDepth 100000 in
theorem impl_RangeDo.calls (k : Nat) (a0 : Int) (a1_0 : Int) (a1_1 : Int) (a2_0 : Int) (a2_1 : Int) (r1 : Int) (r2 : Int) (r3 : List Int) (w : World) (h : impl_RangeDo.f k a0 a1_0 a1_1 a2_0 a2_1 = some (r1, r2, r3)) :
  Calls Try.prog 11 #[.int .i64 a0, .agg #[.int .i64 a1_0, .int .i64 a1_1], .agg #[.int .i64 a2_0, .int .i64 a2_1]] w fun e w' => ∃ v2_ : Value, e = .returned (.tuple #[.agg #[.int .i64 r1, .int .i64 r2], v2_]) ∧ Kd.R (Kd.int .i64) 3 w' w.heap.size (fun _ => True) v2_ r3 ∧ Below w.heap.size w w' := by
 have hu24 := Try.underlying24
 have HB := am (Below.refl w.heap.size w)
 have H : ((impl_numOp.f a0).bind fun t1 => (if t1 = true then ((impl_RangeOk.f a1_0 a1_1).bind fun t2 => (if t2 = true then ((impl_RangeOk.f a2_0 a2_1).bind fun t3 => (if t3 = true then ((impl_Range_empty.f a1_0 a1_1).bind fun t4 => (if t4 = true then (impl_RangeDo.j0 k a0 true a1_0 a1_1 a2_0 a2_1) else ((impl_Range_empty.f a2_0 a2_1).bind fun t5 => (impl_RangeDo.j0 k a0 t5 a1_0 a1_1 a2_0 a2_1)))) else (impl_RangeDo.j0 k a0 true a1_0 a1_1 a2_0 a2_1))) else (impl_RangeDo.j0 k a0 true a1_0 a1_1 a2_0 a2_1))) else (impl_RangeDo.j0 k a0 true a1_0 a1_1 a2_0 a2_1))) = some (r1, r2, r3) := h
 clear h
 have C1 := am H
 clear H
 go_enter Try.func11, Try.ntmps11
 go_upto_region 1 with (first | ((with_reducible refine gate_dst (N := 4) rfl ?_); refine bxn 4 #[.int .i64 a1_0, .int .i64 a1_1] 24 HB fun g1 w1 K1 G1 hg hb => ?_; replace HB := am (below_step (YA HB) hb); clear hb hg) | ((with_reducible refine gate_dst (N := 5) rfl ?_); refine bxn 5 #[.int .i64 a2_0, .int .i64 a2_1] 24 HB fun g2 w2 K2 G2 hg hb => ?_; obtain ⟨N1,N2⟩ := ne_ hg K1; obtain ⟨K1, HB⟩ := bk1 K1 HB hb; clear hb hg) | ((with_reducible refine gate_dst (N := 6) rfl ?_); refine bxn 6 #[.int .i64 0, .int .i64 0] 24 HB fun g3 w3 K3 G3 hg hb => ?_; obtain ⟨N3,N4⟩ := ne_ hg K1; obtain ⟨N5,N6⟩ := ne_ hg K2; obtain ⟨K1, K2, HB⟩ := bk2 K1 K2 HB hb; clear hb hg))
 (try simp only [Act.put, List.setIfInBounds_toArray, List.set_cons_zero, List.set_cons_succ])
 go_cut [30] (fun v1 wc => ∃ (kq : Nat) (x1 : Bool), v1 = .bool x1 ∧ Aside0 (impl_RangeDo.j0 kq a0 x1 a1_0 a1_1 a2_0 a2_1 = some (r1, r2, r3)) ∧ Aside0 (kq ≤ k) ∧ Bx2 wc g1 a1_0 a1_1 24 ∧ Bx2 wc g2 a2_0 a2_1 24 ∧ Bx2 wc g3 0 0 24 ∧ Aside0 (Below w.heap.size w wc))
 case first =>
  have H := C1.out
  clear C1
  obtain ⟨t1, A1, H⟩ := bd H
  try dsimp only at H
  by_cases c1 : t1 = true
  rotate_left
  ·replace c1 := Bool.eq_false_iff.mpr c1
   subst c1
   rw [if_neg ff] at H
   have H' := am H
   clear H
   go_wp2_with (first | ((with_reducible refine gate_callee (f := 45) rfl ?_); refine goesL_ (some 11) rfl rfl Try.func45 (by kernel_rfl) rfl #[.int .i64 a0] rfl mz ?_; (with_reducible refine (impl_numOp.calls _ _ _ A1.out).mono ?_); rintro e w' ⟨rfl, ⟨nd, rfl⟩⟩; refine ⟨_, rfl, ?_⟩))
   go_meet
   case rel => exact ⟨_, (true), ey, H', le0, ⟨Z K1⟩, ⟨Z K2⟩, ⟨Z K3⟩, ⟨YA HB⟩⟩
  subst c1
  rw [if_pos rfl] at H
  obtain ⟨t2, A2, H⟩ := bd H
  try dsimp only at H
  by_cases c2 : t2 = true
  rotate_left
  ·replace c2 := Bool.eq_false_iff.mpr c2
   subst c2
   rw [if_neg ff] at H
   have H' := am H
   clear H
   go_wp2_with (first | ((with_reducible refine gate_callee (f := 45) rfl ?_); refine goesL_ (some 11) rfl rfl Try.func45 (by kernel_rfl) rfl #[.int .i64 a0] rfl mz ?_; (with_reducible refine (impl_numOp.calls _ _ _ A1.out).mono ?_); rintro e w' ⟨rfl, ⟨nd, rfl⟩⟩; refine ⟨_, rfl, ?_⟩; have := ns2 N1 N3; have := cB2 K1) | (go_at_call 46; (with_reducible refine (impl_RangeOk.calls _ _ _ _ A2.out).mono ?_); rintro e w4 ⟨rfl, hb⟩; obtain ⟨K1, K2, K3, HB⟩ := bk3 K1 K2 K3 HB hb; (try clear hb)))
   go_meet
   case rel => exact ⟨_, (true), ey, H', le0, ⟨Z K1⟩, ⟨Z K2⟩, ⟨Z K3⟩, ⟨YA HB⟩⟩
  subst c2
  rw [if_pos rfl] at H
  obtain ⟨t3, A3, H⟩ := bd H
  try dsimp only at H
  by_cases c3 : t3 = true
  rotate_left
  ·replace c3 := Bool.eq_false_iff.mpr c3
   subst c3
   rw [if_neg ff] at H
   have H' := am H
   clear H
   go_wp2_with (first | ((with_reducible refine gate_callee (f := 45) rfl ?_); refine goesL_ (some 11) rfl rfl Try.func45 (by kernel_rfl) rfl #[.int .i64 a0] rfl mz ?_; (with_reducible refine (impl_numOp.calls _ _ _ A1.out).mono ?_); rintro e w' ⟨rfl, ⟨nd, rfl⟩⟩; refine ⟨_, rfl, ?_⟩; have := ns2 N1 N3; have := cB2 K1) | (go_at_call 46; (with_reducible refine (impl_RangeOk.calls _ _ _ _ A2.out).mono ?_); rintro e w4 ⟨rfl, hb⟩; obtain ⟨K1, K2, K3, HB⟩ := bk3 K1 K2 K3 HB hb; (try clear hb); have := ns1 N5; have := cB2 K2) | (go_at_call 46; (with_reducible refine (impl_RangeOk.calls _ _ _ _ A3.out).mono ?_); rintro e w5 ⟨rfl, hb⟩; obtain ⟨K1, K2, K3, HB⟩ := bk3 K1 K2 K3 HB hb; (try clear hb)))
   go_meet
   case rel => exact ⟨_, (true), ey, H', le0, ⟨Z K1⟩, ⟨Z K2⟩, ⟨Z K3⟩, ⟨YA HB⟩⟩
  subst c3
  rw [if_pos rfl] at H
  obtain ⟨t4, A4, H⟩ := bd H
  try dsimp only at H
  by_cases c4 : t4 = true
  ·subst c4
   rw [if_pos rfl] at H
   have H' := am H
   clear H
   go_wp2_with (first | ((with_reducible refine gate_callee (f := 45) rfl ?_); refine goesL_ (some 11) rfl rfl Try.func45 (by kernel_rfl) rfl #[.int .i64 a0] rfl mz ?_; (with_reducible refine (impl_numOp.calls _ _ _ A1.out).mono ?_); rintro e w' ⟨rfl, ⟨nd, rfl⟩⟩; refine ⟨_, rfl, ?_⟩; have := ns2 N1 N3; have := cB2 K1) | (go_at_call 46; (with_reducible refine (impl_RangeOk.calls _ _ _ _ A2.out).mono ?_); rintro e w4 ⟨rfl, hb⟩; obtain ⟨K1, K2, K3, HB⟩ := bk3 K1 K2 K3 HB hb; (try clear hb); have := ns1 N5; have := cB2 K2) | (go_at_call 46; (with_reducible refine (impl_RangeOk.calls _ _ _ _ A3.out).mono ?_); rintro e w5 ⟨rfl, hb⟩; obtain ⟨K1, K2, K3, HB⟩ := bk3 K1 K2 K3 HB hb; (try clear hb); have := cB2 K1) | (go_at_call 47; (with_reducible refine (impl_Range_empty.calls _ _ _ _ A4.out).mono ?_); rintro e w6 ⟨rfl, hb⟩; obtain ⟨K1, K2, K3, HB⟩ := bk3 K1 K2 K3 HB hb; (try clear hb)))
   go_meet
   case rel => exact ⟨_, (true), ey, H', le0, ⟨Z K1⟩, ⟨Z K2⟩, ⟨Z K3⟩, ⟨YA HB⟩⟩
  replace c4 := Bool.eq_false_iff.mpr c4
  subst c4
  rw [if_neg ff] at H
  obtain ⟨t5, A5, H⟩ := bd H
  try dsimp only at H
  have H' := am H
  clear H
  go_wp2_with (first | ((with_reducible refine gate_callee (f := 45) rfl ?_); refine goesL_ (some 11) rfl rfl Try.func45 (by kernel_rfl) rfl #[.int .i64 a0] rfl mz ?_; (with_reducible refine (impl_numOp.calls _ _ _ A1.out).mono ?_); rintro e w' ⟨rfl, ⟨nd, rfl⟩⟩; refine ⟨_, rfl, ?_⟩; have := ns2 N1 N3; have := cB2 K1) | (go_at_call 46; (with_reducible refine (impl_RangeOk.calls _ _ _ _ A2.out).mono ?_); rintro e w4 ⟨rfl, hb⟩; obtain ⟨K1, K2, K3, HB⟩ := bk3 K1 K2 K3 HB hb; (try clear hb); have := ns1 N5; have := cB2 K2) | (go_at_call 46; (with_reducible refine (impl_RangeOk.calls _ _ _ _ A3.out).mono ?_); rintro e w5 ⟨rfl, hb⟩; obtain ⟨K1, K2, K3, HB⟩ := bk3 K1 K2 K3 HB hb; (try clear hb); have := cB2 K1) | (go_at_call 47; (with_reducible refine (impl_Range_empty.calls _ _ _ _ A4.out).mono ?_); rintro e w6 ⟨rfl, hb⟩; obtain ⟨K1, K2, K3, HB⟩ := bk3 K1 K2 K3 HB hb; (try clear hb); have := cB2 K2) | (go_at_call 47; (with_reducible refine (impl_Range_empty.calls _ _ _ _ A5.out).mono ?_); rintro e w7 ⟨rfl, hb⟩; obtain ⟨K1, K2, K3, HB⟩ := bk3 K1 K2 K3 HB hb; (try clear hb)))
  go_meet
  case rel => exact ⟨_, (t5), ey, H', le0, ⟨Z K1⟩, ⟨Z K2⟩, ⟨Z K3⟩, ⟨YA HB⟩⟩
 clear C1
 obtain ⟨kq, x1, rfl, HA, J1, K1, K2, K3, HB⟩ := hcut
 cases kq with
 | zero => exact absurd HA.out (by simp [impl_RangeDo.j0])
 | succ k1 => ?_
 have H := HA.out
 clear HA
 simp only [impl_RangeDo.j0] at H
 by_cases c1 : x1 = true
 ·subst c1
  rw [if_pos rfl] at H
  obtain ⟨⟨t6, t7⟩, A1, H⟩ := bd H
  try dsimp only at H
  obtain ⟨rfl, rfl, rfl⟩ := sj3 H
  go_wp2_with (first | ((with_reducible refine gate_callee (f := 48) rfl ?_); refine gL 31 Try.func48 (impl_rangeNone.calls _ _ _ A1.out) fun w4 hb => ?_; obtain ⟨K1, K2, K3, HB⟩ := bk3 K1 K2 K3 HB hb; (try clear hb); have := ns2 N4 N6; have := cB2 K3))
  refine bodyPost_ret (results_ct rfl _ _ g3 24 #[.int .i64 t6, .int .i64 t7] (0, 0) _ rfl (by refine pf ?_; refine bp (ia2 t6 0) ?_ 1; refine pf ?_; refine bp (ia2 0 0) ?_ 0; exact Z K3) Try.underlying24 rfl (by kernel_rfl)) rfl ?_
  exact ⟨_, ez, by first | exact Kd.R_nil _ _ _ _ _ | exact Kd.N_nil _ _ _ _ _ | exact Kd.V_nil _ _ _ _ _ | exact Kd.Q_nil _ _ _ _ _ | exact Kd.S_nil _ _ _ _ _, YA HB⟩
 replace c1 := Bool.eq_false_iff.mpr c1
 subst c1
 rw [if_neg ff] at H
 have C2 := am H
 clear H
 go_upto_if 33 with (fail)
 go_cut [33] (fun v2 wc => ∃ (kq : Nat) (x2 : Bool), v2 = .bool x2 ∧ Aside0 (impl_RangeDo.j1 kq a0 a0 x2 a1_0 a1_1 a2_0 a2_1 = some (r1, r2, r3)) ∧ Aside0 (kq ≤ k1) ∧ Bx2 wc g1 a1_0 a1_1 24 ∧ Bx2 wc g2 a2_0 a2_1 24 ∧ Bx2 wc g3 0 0 24 ∧ Aside0 (Below w.heap.size w wc))
 case first =>
  have H := C2.out
  clear C2
  by_cases c2 : a0 = 1
  ·rw [if_pos c2] at H
   have d1 := eT c2
   have d2 := nF c2
   clear c2
   (first | rw [d1] | (simp only [i64_w, i32_w]; rw [d1]) | skip)
   have H' := am H
   clear H
   go_wp2
   go_meet
   case rel => exact ⟨_, ((a0 == 1)), ey, H', le1 J1, ⟨Z K1⟩, ⟨Z K2⟩, ⟨Z K3⟩, ⟨YA HB⟩⟩
  rw [if_neg c2] at H
  have d1 := eF c2
  have d2 := nT c2
  (first | rw [d1] | (simp only [i64_w, i32_w]; rw [d1]) | skip)
  by_cases c3 : a0 = 2
  rotate_left
  ·rw [if_neg c3] at H
   have d3 := eF c3
   have d4 := nT c3
   have H' := am H
   clear H
   go_wp2
   go_meet
   case rel => exact ⟨_, ((a0 == 3)), ey, H', le1 J1, ⟨Z K1⟩, ⟨Z K2⟩, ⟨Z K3⟩, ⟨YA HB⟩⟩
  rw [if_pos c3] at H
  have d3 := eT c3
  have d4 := nF c3
  clear c3
  have H' := am H
  clear H
  go_wp2
  go_meet
  case rel => exact ⟨_, ((a0 == 2)), ey, H', le1 J1, ⟨Z K1⟩, ⟨Z K2⟩, ⟨Z K3⟩, ⟨YA HB⟩⟩
 clear C2
 try clear c1
 obtain ⟨kq, x2, rfl, HA, J2, K1, K2, K3, HB⟩ := hcut
 cases kq with
 | zero => exact absurd HA.out (by simp [impl_RangeDo.j1])
 | succ k2 => ?_
 have H := HA.out
 clear HA
 simp only [impl_RangeDo.j1] at H
 by_cases c2 : x2 = true
 ·subst c2
  rw [if_pos rfl] at H
  obtain ⟨⟨t6, t7⟩, A1, H⟩ := bd H
  try dsimp only at H
  have C3 := am H
  clear H
  have := ns3 N1 N3 N5
  have := cB2 K1
  have := cB2 K2
  go_upto_region 8 with (first | ((with_reducible refine gate_callee (f := 49) rfl ?_); refine gL 41 Try.func49 (impl_rangeCorners.calls _ _ _ _ _ _ _ _ _ A1.out) fun w4 hb => ?_; obtain ⟨K1, K2, K3, HB⟩ := bk3 K1 K2 K3 HB hb; (try clear hb)))
  (try simp only [Act.put, List.setIfInBounds_toArray, List.set_cons_zero, List.set_cons_succ])
  go_cut [49] (fun v3 wc => ∃ (kq : Nat) (x3 : Bool), v3 = .bool x3 ∧ Aside0 (impl_RangeDo.j2 kq t6 t7 x3 = some (r1, r2, r3)) ∧ Aside0 (kq ≤ k2) ∧ Bx2 wc g1 a1_0 a1_1 24 ∧ Bx2 wc g2 a2_0 a2_1 24 ∧ Bx2 wc g3 0 0 24 ∧ Aside0 (Below w.heap.size w wc))
  case first =>
   have H := C3.out
   clear C3
   by_cases c3 : t6 < (-2147483648)
   ·rw [if_pos c3] at H
    have d1 := dT c3
    clear c3
    (first | rw [d1] | (simp only [i64_w, i32_w]; rw [d1]) | skip)
    have H' := am H
    clear H
    go_wp2
    go_meet
    case rel => exact ⟨_, (true), ey, H', ⟨by have := J1.out; have := J2.out; first | omega | exact Nat.le_refl _⟩, ⟨Z K1⟩, ⟨Z K2⟩, ⟨Z K3⟩, ⟨YA HB⟩⟩
   rw [if_neg c3] at H
   have d1 := dF c3
   clear c3
   (first | rw [d1] | (simp only [i64_w, i32_w]; rw [d1]) | skip)
   have H' := am H
   clear H
   go_wp2
   go_meet
   case rel => exact ⟨_, (decide (t7 > 2147483647)), ey, H', ⟨by have := J1.out; have := J2.out; first | omega | exact Nat.le_refl _⟩, ⟨Z K1⟩, ⟨Z K2⟩, ⟨Z K3⟩, ⟨YA HB⟩⟩
  clear C3
  (try clear c2)
  obtain ⟨kq, x3, rfl, HA, J3, K1, K2, K3, HB⟩ := hcut
  cases kq with
  | zero => exact absurd HA.out (by simp [impl_RangeDo.j2])
  | succ k3 => ?_
  have H := HA.out
  clear HA
  simp only [impl_RangeDo.j2] at H
  by_cases c3 : x3 = true
  rotate_left
  ·replace c3 := Bool.eq_false_iff.mpr c3
   subst c3
   rw [if_neg ff] at H
   obtain ⟨⟨t8, t9⟩, A2, H⟩ := bd H
   try dsimp only at H
   obtain ⟨rfl, rfl, rfl⟩ := sj3 H
   go_wp2_with (first | ((with_reducible refine gate_callee (f := 50) rfl ?_); refine gL 56 Try.func50 (impl_rangeFrom.calls _ _ _ _ _ A2.out) fun w5 hb => ?_; obtain ⟨K1, K2, K3, HB⟩ := bk3 K1 K2 K3 HB hb; (try clear hb); have := ns2 N4 N6; have := cB2 K3))
   refine bodyPost_ret (results_ct rfl _ _ g3 24 #[.int .i64 t8, .int .i64 t9] (0, 0) _ rfl (by refine pf ?_; refine bp (ia2 t8 0) ?_ 1; refine pf ?_; refine bp (ia2 0 0) ?_ 0; exact Z K3) Try.underlying24 rfl (by kernel_rfl)) rfl ?_
   exact ⟨_, ez, by first | exact Kd.R_nil _ _ _ _ _ | exact Kd.N_nil _ _ _ _ _ | exact Kd.V_nil _ _ _ _ _ | exact Kd.Q_nil _ _ _ _ _ | exact Kd.S_nil _ _ _ _ _, YA HB⟩
  subst c3
  rw [if_pos rfl] at H
  obtain ⟨⟨t8, t9⟩, A2, H⟩ := bd H
  try dsimp only at H
  obtain ⟨y1, y2⟩ : ∃ y_ : List Int, y_ = (([1] : List Int)) := ⟨_, rfl⟩
  replace H : (some (t8, t9, y1)) = some (r1, r2, r3) := by first | (rw [y2]; with_reducible exact H) | (have H2_ := (Option.bind_some _ _).symm.trans H; rw [y2]; with_reducible exact H2_) | (have H2_ := (Option.bind_some _ _).symm.trans H; with_reducible exact H2_) | with_reducible exact H | (rw [y2]; exact H) | exact H
  have Y25 := am y2
  clear y2
  obtain ⟨rfl, rfl, rfl⟩ := sj3 H
  go_wp2_with (first | ((with_reducible refine gate_callee (f := 50) rfl ?_); refine gL 52 Try.func50 (impl_rangeFrom.calls _ _ _ _ _ A2.out) fun w5 hb => ?_; obtain ⟨K1, K2, K3, HB⟩ := bk3 K1 K2 K3 HB hb; (try clear hb)) | ((with_reducible refine gate_dst (N := 53) rfl ?_); refine Kd.R_lit (Kd.int .i64) _ 3 ?hg (N := 53) ?hd (xs := ([1] : List Int)) (inner := [.int .i64 1]) (ok := fun _ => True) (okp := fun _ => True) ?hr ?hp (fun _ hk => hk) trivial (Below.refl _ _) (Nat.le_refl _) (by simp) ?_; (case hd => rfl); (case hg => rfl); (case hr => first | (go_simp; done) | (go_simp; rfl)); (case hp => exact (Reps.one (show Kd.M (Kd.int .i64) _ _ _ 1 [.int .i64 1] from rfl) (Reps.none _ _))); intro v4 w6 o1 hb hg_ hnew_; clear hg_ hnew_; (first | rw [← Y25.out] at o1 | (simp only [Int.reduceToNat] at o1; rw [← Y25.out] at o1)); have O1 := am (Kd.R_lower o1 (below_size (YA HB))); obtain ⟨K1, K2, K3, HB⟩ := bk3 K1 K2 K3 HB hb; clear hb o1; have := ns2 N4 N6; have := cB2 K3))
  refine bodyPost_ret (results_ct rfl _ _ g3 24 #[.int .i64 t8, .int .i64 t9] (0, 0) _ rfl (by refine pf ?_; refine bp (ia2 t8 0) ?_ 1; refine pf ?_; refine bp (ia2 0 0) ?_ 0; exact Z K3) Try.underlying24 rfl (by kernel_rfl)) rfl ?_
  exact ⟨_, ez, by (with_reducible repeat (first | apply Kd.R_alloc | apply Kd.R_drewN | apply Kd.R_drew)); exact Kd.R_mono (Kd.R_far (p := ⟨g3, 1, none⟩) (Kd.R_far (p := ⟨g3, 0, none⟩) (Kd.R_types O1.out K3.out (by decide)) (fun _ hk => hk.2) (.int .i64 t8)) (fun _ hk => hk.2) (.int .i64 t9)) (fun _ hk => trivial), YA HB⟩
 replace c2 := Bool.eq_false_iff.mpr c2
 subst c2
 rw [if_neg ff] at H
 have C3 := am H
 clear H
 go_upto_if 57 with (fail)
 go_cut [57] (fun v3 wc => ∃ (kq : Nat) (x3 : Bool), v3 = .bool x3 ∧ Aside0 (impl_RangeDo.j3 kq a0 a0 x3 a1_0 a1_1 a2_0 a2_1 = some (r1, r2, r3)) ∧ Aside0 (kq ≤ k2) ∧ Bx2 wc g1 a1_0 a1_1 24 ∧ Bx2 wc g2 a2_0 a2_1 24 ∧ Bx2 wc g3 0 0 24 ∧ Aside0 (Below w.heap.size w wc))
 case first =>
  have H := C3.out
  clear C3
  by_cases c3 : a0 = 11
  ·rw [if_pos c3] at H
   have d1 := eT c3
   have d2 := nF c3
   clear c3
   (first | rw [d1] | (simp only [i64_w, i32_w]; rw [d1]) | skip)
   have H' := am H
   clear H
   go_wp2
   go_meet
   case rel => exact ⟨_, ((a0 == 11)), ey, H', ⟨by have := J1.out; have := J2.out; first | omega | exact Nat.le_refl _⟩, ⟨Z K1⟩, ⟨Z K2⟩, ⟨Z K3⟩, ⟨YA HB⟩⟩
  rw [if_neg c3] at H
  have d1 := eF c3
  have d2 := nT c3
  (first | rw [d1] | (simp only [i64_w, i32_w]; rw [d1]) | skip)
  by_cases c4 : a0 = 12
  rotate_left
  ·rw [if_neg c4] at H
   have d3 := eF c4
   have d4 := nT c4
   have H' := am H
   clear H
   go_wp2
   go_meet
   case rel => exact ⟨_, ((a0 == 13)), ey, H', ⟨by have := J1.out; have := J2.out; first | omega | exact Nat.le_refl _⟩, ⟨Z K1⟩, ⟨Z K2⟩, ⟨Z K3⟩, ⟨YA HB⟩⟩
  rw [if_pos c4] at H
  have d3 := eT c4
  have d4 := nF c4
  clear c4
  have H' := am H
  clear H
  go_wp2
  go_meet
  case rel => exact ⟨_, ((a0 == 12)), ey, H', ⟨by have := J1.out; have := J2.out; first | omega | exact Nat.le_refl _⟩, ⟨Z K1⟩, ⟨Z K2⟩, ⟨Z K3⟩, ⟨YA HB⟩⟩
 clear C3
 try clear c2
 obtain ⟨kq, x3, rfl, HA, J3, K1, K2, K3, HB⟩ := hcut
 cases kq with
 | zero => exact absurd HA.out (by simp [impl_RangeDo.j3])
 | succ k3 => ?_
 have H := HA.out
 clear HA
 simp only [impl_RangeDo.j3] at H
 by_cases c3 : x3 = true
 ·subst c3
  rw [if_pos rfl] at H
  obtain ⟨⟨t6, t7⟩, A1, H⟩ := bd H
  try dsimp only at H
  obtain ⟨rfl, rfl, rfl⟩ := sj3 H
  have := ns3 N1 N3 N5
  have := cB2 K1
  have := cB2 K2
  go_wp2_with (first | ((with_reducible refine gate_callee (f := 51) rfl ?_); refine gL 64 Try.func51 (impl_rangeWrap.calls _ _ _ _ _ _ _ _ _ A1.out) fun w4 hb => ?_; obtain ⟨K1, K2, K3, HB⟩ := bk3 K1 K2 K3 HB hb; (try clear hb); have := cB2 K3))
  refine bodyPost_ret (results_ct rfl _ _ g3 24 #[.int .i64 t6, .int .i64 t7] (0, 0) _ rfl (by refine pf ?_; refine bp (ia2 t6 0) ?_ 1; refine pf ?_; refine bp (ia2 0 0) ?_ 0; exact Z K3) Try.underlying24 rfl (by kernel_rfl)) rfl ?_
  exact ⟨_, ez, by first | exact Kd.R_nil _ _ _ _ _ | exact Kd.N_nil _ _ _ _ _ | exact Kd.V_nil _ _ _ _ _ | exact Kd.Q_nil _ _ _ _ _ | exact Kd.S_nil _ _ _ _ _, YA HB⟩
 replace c3 := Bool.eq_false_iff.mpr c3
 subst c3
 rw [if_neg ff] at H
 have C4 := am H
 clear H
 go_upto_if 65 with (fail)
 go_cut [65] (fun v4 wc => ∃ (kq : Nat) (x4 : Bool), v4 = .bool x4 ∧ Aside0 (impl_RangeDo.j4 kq a0 a0 x4 a1_0 a1_1 a2_0 a2_1 = some (r1, r2, r3)) ∧ Aside0 (kq ≤ k3) ∧ Bx2 wc g1 a1_0 a1_1 24 ∧ Bx2 wc g2 a2_0 a2_1 24 ∧ Bx2 wc g3 0 0 24 ∧ Aside0 (Below w.heap.size w wc))
 case first =>
  have H := C4.out
  clear C4
  by_cases c4 : a0 = 9
  rotate_left
  ·rw [if_neg c4] at H
   have d1 := eF c4
   have d2 := nT c4
   (first | rw [d1] | (simp only [i64_w, i32_w]; rw [d1]) | skip)
   have H' := am H
   clear H
   go_wp2
   go_meet
   case rel => exact ⟨_, ((a0 == 10)), ey, H', ⟨by have := J1.out; have := J2.out; have := J3.out; first | omega | exact Nat.le_refl _⟩, ⟨Z K1⟩, ⟨Z K2⟩, ⟨Z K3⟩, ⟨YA HB⟩⟩
  rw [if_pos c4] at H
  have d1 := eT c4
  have d2 := nF c4
  clear c4
  (first | rw [d1] | (simp only [i64_w, i32_w]; rw [d1]) | skip)
  have H' := am H
  clear H
  go_wp2
  go_meet
  case rel => exact ⟨_, ((a0 == 9)), ey, H', ⟨by have := J1.out; have := J2.out; have := J3.out; first | omega | exact Nat.le_refl _⟩, ⟨Z K1⟩, ⟨Z K2⟩, ⟨Z K3⟩, ⟨YA HB⟩⟩
 clear C4
 try clear c3
 obtain ⟨kq, x4, rfl, HA, J4, K1, K2, K3, HB⟩ := hcut
 cases kq with
 | zero => exact absurd HA.out (by simp [impl_RangeDo.j4])
 | succ k4 => ?_
 have H := HA.out
 clear HA
 simp only [impl_RangeDo.j4] at H
 by_cases c4 : x4 = true
 ·subst c4
  rw [if_pos rfl] at H
  obtain ⟨⟨t6, t7, t8⟩, A1, H⟩ := bd H
  try dsimp only at H
  obtain ⟨rfl, rfl, rfl⟩ := sj3 H
  have := ns3 N1 N3 N5
  have := cB2 K1
  have := cB2 K2
  go_wp2_with (first | ((with_reducible refine gate_callee (f := 52) rfl ?_); refine goesL_ (some 71) rfl rfl Try.func52 (by kernel_rfl) rfl #[.int .i64 a0, .agg #[.int .i64 a1_0, .int .i64 a1_1], .agg #[.int .i64 a2_0, .int .i64 a2_1]] rfl mz ?_; (with_reducible refine (impl_rangeShift.calls _ _ _ _ _ _ _ _ _ _ A1.out).mono ?_); rintro e w4 ⟨v5, rfl, o1, hb⟩; refine ⟨_, rfl, ?_⟩; have O1 := am (Kd.R_lower o1 (below_size (YA HB))); obtain ⟨K1, K2, K3, HB⟩ := bk3 K1 K2 K3 HB hb; (try clear hb); (try clear o1); have := cB2 K3))
  refine bodyPost_ret (results_ct rfl _ _ g3 24 #[.int .i64 t6, .int .i64 t7] (0, 0) _ rfl (by refine pf ?_; refine bp (ia2 t6 0) ?_ 1; refine pf ?_; refine bp (ia2 0 0) ?_ 0; exact Z K3) Try.underlying24 rfl (by kernel_rfl)) rfl ?_
  exact ⟨_, ez, by (with_reducible repeat (first | apply Kd.R_alloc | apply Kd.R_drewN | apply Kd.R_drew)); exact Kd.R_mono (Kd.R_far (p := ⟨g3, 1, none⟩) (Kd.R_far (p := ⟨g3, 0, none⟩) (Kd.R_types O1.out K3.out (by decide)) (fun _ hk => hk.2) (.int .i64 t6)) (fun _ hk => hk.2) (.int .i64 t7)) (fun _ hk => trivial), YA HB⟩
 replace c4 := Bool.eq_false_iff.mpr c4
 subst c4
 rw [if_neg ff] at H
 by_cases c5 : a0 = 4
 ·rw [if_pos c5] at H
  have d1 := eT c5
  have d2 := nF c5
  clear c5
  obtain ⟨⟨t6, t7, t8⟩, A1, H⟩ := bd H
  try dsimp only at H
  obtain ⟨rfl, rfl, rfl⟩ := sj3 H
  have := ns3 N1 N3 N5
  have := cB2 K1
  have := cB2 K2
  go_wp2_with (first | ((with_reducible refine gate_callee (f := 53) rfl ?_); refine goesL_ (some 78) rfl rfl Try.func53 (by kernel_rfl) rfl #[.agg #[.int .i64 a1_0, .int .i64 a1_1], .agg #[.int .i64 a2_0, .int .i64 a2_1]] rfl mz ?_; (with_reducible refine (impl_rangeDiv.calls _ _ _ _ _ _ _ _ _ A1.out).mono ?_); rintro e w4 ⟨v5, rfl, o1, hb⟩; refine ⟨_, rfl, ?_⟩; have O1 := am (Kd.R_lower o1 (below_size (YA HB))); obtain ⟨K1, K2, K3, HB⟩ := bk3 K1 K2 K3 HB hb; (try clear hb); (try clear o1); have := cB2 K3))
  refine bodyPost_ret (results_ct rfl _ _ g3 24 #[.int .i64 t6, .int .i64 t7] (0, 0) _ rfl (by refine pf ?_; refine bp (ia2 t6 0) ?_ 1; refine pf ?_; refine bp (ia2 0 0) ?_ 0; exact Z K3) Try.underlying24 rfl (by kernel_rfl)) rfl ?_
  exact ⟨_, ez, by (with_reducible repeat (first | apply Kd.R_alloc | apply Kd.R_drewN | apply Kd.R_drew)); exact Kd.R_mono (Kd.R_far (p := ⟨g3, 1, none⟩) (Kd.R_far (p := ⟨g3, 0, none⟩) (Kd.R_types O1.out K3.out (by decide)) (fun _ hk => hk.2) (.int .i64 t6)) (fun _ hk => hk.2) (.int .i64 t7)) (fun _ hk => trivial), YA HB⟩
 rw [if_neg c5] at H
 have d1 := eF c5
 have d2 := nT c5
 by_cases c6 : a0 = 5
 rotate_left
 ·rw [if_neg c6] at H
  have d3 := eF c6
  have d4 := nT c6
  obtain ⟨⟨t6, t7⟩, A1, H⟩ := bd H
  try dsimp only at H
  obtain ⟨rfl, rfl, rfl⟩ := sj3 H
  have := ns3 N1 N3 N5
  have := cB2 K1
  have := cB2 K2
  go_wp2_with (first | ((with_reducible refine gate_callee (f := 55) rfl ?_); refine gL 91 Try.func55 (impl_rangeBits.calls _ _ _ _ _ _ _ _ _ A1.out) fun w4 hb => ?_; obtain ⟨K1, K2, K3, HB⟩ := bk3 K1 K2 K3 HB hb; (try clear hb); have := cB2 K3))
  refine bodyPost_ret (results_ct rfl _ _ g3 24 #[.int .i64 t6, .int .i64 t7] (0, 0) _ rfl (by refine pf ?_; refine bp (ia2 t6 0) ?_ 1; refine pf ?_; refine bp (ia2 0 0) ?_ 0; exact Z K3) Try.underlying24 rfl (by kernel_rfl)) rfl ?_
  exact ⟨_, ez, by first | exact Kd.R_nil _ _ _ _ _ | exact Kd.N_nil _ _ _ _ _ | exact Kd.V_nil _ _ _ _ _ | exact Kd.Q_nil _ _ _ _ _ | exact Kd.S_nil _ _ _ _ _, YA HB⟩
 rw [if_pos c6] at H
 have d3 := eT c6
 have d4 := nF c6
 clear c6
 obtain ⟨⟨t6, t7, t8⟩, A1, H⟩ := bd H
 try dsimp only at H
 obtain ⟨rfl, rfl, rfl⟩ := sj3 H
 have := ns3 N1 N3 N5
 have := cB2 K1
 have := cB2 K2
 go_wp2_with (first | ((with_reducible refine gate_callee (f := 54) rfl ?_); refine goesL_ (some 85) rfl rfl Try.func54 (by kernel_rfl) rfl #[.agg #[.int .i64 a1_0, .int .i64 a1_1], .agg #[.int .i64 a2_0, .int .i64 a2_1]] rfl mz ?_; (with_reducible refine (impl_rangeRem.calls _ _ _ _ _ _ _ _ _ A1.out).mono ?_); rintro e w4 ⟨v5, rfl, o1, hb⟩; refine ⟨_, rfl, ?_⟩; have O1 := am (Kd.R_lower o1 (below_size (YA HB))); obtain ⟨K1, K2, K3, HB⟩ := bk3 K1 K2 K3 HB hb; (try clear hb); (try clear o1); have := cB2 K3))
 refine bodyPost_ret (results_ct rfl _ _ g3 24 #[.int .i64 t6, .int .i64 t7] (0, 0) _ rfl (by refine pf ?_; refine bp (ia2 t6 0) ?_ 1; refine pf ?_; refine bp (ia2 0 0) ?_ 0; exact Z K3) Try.underlying24 rfl (by kernel_rfl)) rfl ?_
 exact ⟨_, ez, by (with_reducible repeat (first | apply Kd.R_alloc | apply Kd.R_drewN | apply Kd.R_drew)); exact Kd.R_mono (Kd.R_far (p := ⟨g3, 1, none⟩) (Kd.R_far (p := ⟨g3, 0, none⟩) (Kd.R_types O1.out K3.out (by decide)) (fun _ hk => hk.2) (.int .i64 t6)) (fun _ hk => hk.2) (.int .i64 t7)) (fun _ hk => trivial), YA HB⟩
end
end Go.Proofs.Ythbkakcchgnhpaa.PFnValTurn
