/- Written by this session's own driver (wip/dprint.py): the functions that the law FnRangeFaults reaches, as Lean functions, each with its contract. -/
import Derived.Test.YthbkakcchgnhpaaPFnRangeFaultsx0
import Derived.Test.YthbkakcchgnhpaaPFnRangeFaultsx12
import Derived.Test.YthbkakcchgnhpaaPFnRangeFaultsx14
import Derived.Test.YthbkakcchgnhpaaPFnRangeFaultsx15
import Derived.Test.YthbkakcchgnhpaaPFnRangeFaultsx16
import Derived.Test.YthbkakcchgnhpaaSv
namespace Go.Proofs.Ythbkakcchgnhpaa.PFnRangeFaults
open Go.RowKit Go.Proofs.YthbkakcchgnhpaaV.PrintWords Go.Proofs.YthbkakcchgnhpaaV.PrintLast Go.Proofs.YthbkakcchgnhpaaV.PrintMore Go.Proofs.YthbkakcchgnhpaaSv
attribute [local go_sem] max2_int min2_int max_two min_two max_three min_three max_four min_four   -- for this text's walks alone
set_option linter.unusedVariables false
set_option linter.unusedSimpArgs false

/-! ### impl_rangeDiv: function 53 -/
attribute [local go_sem] Go.Proofs.YthbkakcchgnhpaaSet.isSome_setCell
mutual
def impl_rangeDiv.l0 : Nat → Int → Int → Bool → Int → Int → Int → Int → Int → Int → Int → Int → Int → Option (Int × Int × List Int)
 | 0, _, _, _, _, _, _, _, _, _, _, _, _ => none
 | k + 1, x6, x7, x8, x17, x365000, x365001, x366000, x366001, x900016000, x900016001, x900016002, x900016003 => if x17 < 2 then (if x17 = 0 then ((impl_Range_empty.f x900016000 x900016001).bind fun t372 => (if t372 = true then (impl_rangeDiv.l0 k x6 x7 x8 (wrap64 (x17 + 1)) x365000 x365001 x366000 x366001 x900016000 x900016001 x900016002 x900016003) else ((impl_rangeCorners.f k 4 x365000 x365001 x900016000 x900016001).bind fun bt373 => (if x8 = true then (impl_rangeDiv.l0 k (mn bt373.1 x6) (mx bt373.2 x7) true (wrap64 (x17 + 1)) x365000 x365001 x366000 x366001 x900016000 x900016001 x900016002 x900016003) else (impl_rangeDiv.l0 k bt373.1 bt373.2 true (wrap64 (x17 + 1)) x365000 x365001 x366000 x366001 x900016000 x900016001 x900016002 x900016003))))) else (if x17 = 1 then ((impl_Range_empty.f x900016002 x900016003).bind fun t376 => (if t376 = true then (impl_rangeDiv.l0 k x6 x7 x8 (wrap64 (x17 + 1)) x365000 x365001 x366000 x366001 x900016000 x900016001 x900016002 x900016003) else ((impl_rangeCorners.f k 4 x365000 x365001 x900016002 x900016003).bind fun bt377 => (if x8 = true then (impl_rangeDiv.l0 k (mn bt377.1 x6) (mx bt377.2 x7) true (wrap64 (x17 + 1)) x365000 x365001 x366000 x366001 x900016000 x900016001 x900016002 x900016003) else (impl_rangeDiv.l0 k bt377.1 bt377.2 true (wrap64 (x17 + 1)) x365000 x365001 x366000 x366001 x900016000 x900016001 x900016002 x900016003))))) else (none))) else ((impl_rangeNone.f).bind fun bt379 => (if x8 = true then ((impl_rangeFrom.f x6 x7).bind fun bt382 => (impl_rangeDiv.j1 k x365000 x365001 x366000 x366001 bt382.1 bt382.2)) else (impl_rangeDiv.j1 k x365000 x365001 x366000 x366001 bt379.1 bt379.2)))
def impl_rangeDiv.j1 : Nat → Int → Int → Int → Int → Int → Int → Option (Int × Int × List Int)
 | 0, _, _, _, _, _, _ => none
 | k + 1, x365000, x365001, x366000, x366001, x382000, x382001 => (impl_RangeHas.f x365000 x365001 (-2147483648)).bind fun t384 => (if t384 = true then ((impl_RangeHas.f x366000 x366001 (-1)).bind fun t385 => (impl_rangeDiv.j2 k ([] : List Int) t385 x366000 x366001 x382000 x382001)) else (impl_rangeDiv.j2 k ([] : List Int) false x366000 x366001 x382000 x382001))
def impl_rangeDiv.j2 : Nat → List Int → Bool → Int → Int → Int → Int → Option (Int × Int × List Int)
 | 0, _, _, _, _, _, _ => none
 | k + 1, x14, x48, x366000, x366001, x382000, x382001 => if x48 = true then (if x14.length < 17592186044416 then ((some (x14 ++ [1] : List Int)).bind fun y386 => ((impl_RangeHas.f x366000 x366001 0).bind fun t389 => (if t389 = true then (if y386.length < 17592186044416 then (some (x382000, x382001, (y386 ++ [2]))) else (none)) else (some (x382000, x382001, y386))))) else (none)) else ((impl_RangeHas.f x366000 x366001 0).bind fun t393 => (if t393 = true then (if x14.length < 17592186044416 then (some (x382000, x382001, (x14 ++ [2]))) else (none)) else (some (x382000, x382001, x14))))
end
def impl_rangeDiv.f (k : Nat) (a0_0 : Int) (a0_1 : Int) (a1_0 : Int) (a1_1 : Int) : Option (Int × Int × List Int) := (impl_rangeSides.f k a1_0 a1_1).bind fun bt367 => (impl_rangeDiv.l0 k 0 0 false 0 a0_0 a0_1 a1_0 a1_1 bt367.1 bt367.2.1 bt367.2.2.1 bt367.2.2.2)
theorem impl_rangeDiv.mono_l : ∀ k, (∀ y0 y1 y2 y3 y4 y5 y6 y7 y8 y9 y10 y11, LeO (impl_rangeDiv.l0 k y0 y1 y2 y3 y4 y5 y6 y7 y8 y9 y10 y11) (impl_rangeDiv.l0 (k + 1) y0 y1 y2 y3 y4 y5 y6 y7 y8 y9 y10 y11)) ∧ (∀ y0 y1 y2 y3 y4 y5, LeO (impl_rangeDiv.j1 k y0 y1 y2 y3 y4 y5) (impl_rangeDiv.j1 (k + 1) y0 y1 y2 y3 y4 y5)) ∧ (∀ y0 y1 y2 y3 y4 y5, LeO (impl_rangeDiv.j2 k y0 y1 y2 y3 y4 y5) (impl_rangeDiv.j2 (k + 1) y0 y1 y2 y3 y4 y5))
 | 0 => ⟨fun _ _ _ _ _ _ _ _ _ _ _ _ r h => by simp [impl_rangeDiv.l0] at h, fun _ _ _ _ _ _ r h => by simp [impl_rangeDiv.j1] at h, fun _ _ _ _ _ _ r h => by simp [impl_rangeDiv.j2] at h⟩
 | k + 1 => by
  obtain ⟨ih0, ih1, ih2⟩ := impl_rangeDiv.mono_l k
  refine ⟨?_, ?_, ?_⟩ <;> (intros; (first | unfold impl_rangeDiv.l0 | unfold impl_rangeDiv.j1 | unfold impl_rangeDiv.j2); repeat' first | (with_reducible first | apply ih0 | apply ih1 | apply ih2 | apply impl_rangeCorners.mono | apply impl_rangeSides.mono | apply LeO.refl | apply LeO.none | refine LeO.ite ?_ ?_ | refine LeO.bind ?_ (fun _ => ?_)) | apply ih0 | apply ih1 | apply ih2 | apply impl_rangeCorners.mono | apply impl_rangeSides.mono | apply LeO.none | refine LeO.ite ?_ ?_ | refine LeO.bind ?_ (fun _ => ?_))
theorem impl_rangeDiv.mono : ∀ a0 a1 a2 a3 k, LeO (impl_rangeDiv.f k a0 a1 a2 a3) (impl_rangeDiv.f (k + 1) a0 a1 a2 a3) := by
 intro a0 a1 a2 a3 k
 obtain ⟨ih0, ih1, ih2⟩ := impl_rangeDiv.mono_l k
 unfold impl_rangeDiv.f
 repeat' first | (with_reducible first | apply ih0 | apply ih1 | apply ih2 | apply impl_rangeCorners.mono | apply impl_rangeSides.mono | apply LeO.refl | apply LeO.none | refine LeO.ite ?_ ?_ | refine LeO.bind ?_ (fun _ => ?_)) | apply ih0 | apply ih1 | apply ih2 | apply impl_rangeCorners.mono | apply impl_rangeSides.mono | apply LeO.none | refine LeO.ite ?_ ?_ | refine LeO.bind ?_ (fun _ => ?_)
set_option maxHeartbeats 8000000 in
set_option maxRecDepth 100000 in
theorem impl_rangeDiv.calls (k : Nat) (a0_0 : Int) (a0_1 : Int) (a1_0 : Int) (a1_1 : Int) (r1 : Int) (r2 : Int) (r3 : List Int) (w : World) (h : impl_rangeDiv.f k a0_0 a0_1 a1_0 a1_1 = some (r1, r2, r3)) :
  Calls Try.prog 53 #[.agg #[.int .i64 a0_0, .int .i64 a0_1], .agg #[.int .i64 a1_0, .int .i64 a1_1]] w fun e w' => ∃ v2_ : Value, e = .returned (.tuple #[.agg #[.int .i64 r1, .int .i64 r2], v2_]) ∧ Kd.R (Kd.int .i64) 3 w' w.heap.size (fun _ => True) v2_ r3 ∧ Below w.heap.size w w' := by
 have hu24 := Try.underlying24
 have HB := am (Below.refl w.heap.size w)
 have H : ((impl_rangeSides.f k a1_0 a1_1).bind fun bt367 => (impl_rangeDiv.l0 k 0 0 false 0 a0_0 a0_1 a1_0 a1_1 bt367.1 bt367.2.1 bt367.2.2.1 bt367.2.2.2)) = some (r1, r2, r3) := h
 clear h
 obtain ⟨⟨t367, t368, t369, t370⟩, A3, H⟩ := bd H
 try dsimp only at H
 have H' := am H
 clear H
 go_enter Try.func53, Try.ntmps53
 go_wp2_with (first | ((with_reducible refine gate_dst (N := 2) rfl ?_); refine bx 2 #[.int .i64 a0_0, .int .i64 a0_1] 24 ?_; intro gb364 hg w4 hbox hb; have BK364 := am (hbox); have GW364 := am (bs hg (YA HB)); have GE364 := GW364; replace HB := am (below_step (YA HB) hb); clear hb hbox hg) | ((with_reducible refine gate_dst (N := 3) rfl ?_); refine bx 3 #[.int .i64 a1_0, .int .i64 a1_1] 24 ?_; intro gb365 hg w5 hbox hb; have BK365 := am (hbox); have GW365 := am (bs hg (YA HB)); have GE365 := GW365; obtain ⟨NB364_365,NB365_364⟩ := ne_ hg BK364; obtain ⟨BK364, HB⟩ := bk1 BK364 HB hb; clear hb hbox hg) | ((with_reducible refine gate_dst (N := 4) rfl ?_); refine bx 4 #[.int .i64 0, .int .i64 0] 24 ?_; intro gb366 hg w6 hbox hb; have BK366 := am (hbox); have GW366 := am (bs hg (YA HB)); have GE366 := GW366; obtain ⟨NB364_366,NB366_364⟩ := ne_ hg BK364; obtain ⟨NB365_366,NB366_365⟩ := ne_ hg BK365; obtain ⟨BK364, BK365, HB⟩ := bk2 BK364 BK365 HB hb; clear hb hbox hg; obtain ⟨hnb7,hnc7⟩ := nn NB365_364; obtain ⟨hnb8,hnc8⟩ := nn NB365_366; obtain ⟨hcz9_0,hcz9_1,hfz9_0,hfz9_1⟩ := cB2 BK365) | ((with_reducible refine gate_callee (f := 94) rfl ?_); refine gL 16 Try.func94 (impl_rangeSides.calls _ _ _ _ _ _ _ _ A3.out) fun w10 hb => ?_; obtain ⟨BK364, BK365, BK366, HB⟩ := bk3 BK364 BK365 BK366 HB hb; (try clear hb)))
 go_loopg [6, 7, 8, 17] k (fun kq v6 v7 v8 v17 w' => ∃ (x6_1 : Int) (x7_1 : Int) (x8_1 : Bool) (x17_1 : Int), v6 = .int .i64 x6_1 ∧ v7 = .int .i64 x7_1 ∧ v8 = .bool x8_1 ∧ v17 = .int .i64 x17_1 ∧ Aside0 (impl_rangeDiv.l0 kq x6_1 x7_1 x8_1 x17_1 a0_0 a0_1 a1_0 a1_1 t367 t368 t369 t370 = some (r1, r2, r3)) ∧ Aside0 (kq ≤ k) ∧ Aside0 (w'.heap[gb364]? = some (.cells #[.int .i64 a0_0, .int .i64 a0_1] 24 (0, 0))) ∧ Aside0 (w'.heap[gb365]? = some (.cells #[.int .i64 a1_0, .int .i64 a1_1] 24 (0, 0))) ∧ Aside0 (w'.heap[gb366]? = some (.cells #[.int .i64 0, .int .i64 0] 24 (0, 0))) ∧ Aside0 (Below w.heap.size w w'))
 case atStart => exact ⟨(0), (0), (false), (0), ey, ey, ey, ey, H', ⟨Nat.le_refl _⟩, ⟨Z BK364⟩, ⟨Z BK365⟩, ⟨Z BK366⟩, ⟨YA HB⟩⟩
 case round =>
  clear H'
  (try clear hcz9_0);(try clear hcz9_1);(try clear hfz9_0);(try clear hfz9_1)
  obtain ⟨x6_1, x7_1, x8_1, x17_1, rfl, rfl, rfl, rfl, HA, HK1, BK364, BK365, BK366, HB⟩ := hrel
  cases gk with
  | zero => exact absurd HA.out (by simp [impl_rangeDiv.l0])
  | succ k1 =>
   have H := HA.out
   clear HA
   simp only [impl_rangeDiv.l0] at H
   by_cases c11 : x17_1 < 2
   ·rw [if_pos c11] at H
    have c11b0 := dT c11
    clear c11
    by_cases c12 : x17_1 = 0
    ·rw [if_pos c12] at H
     have hix12 : ∀ w', (Instr.index 96 (.agg #[.int .i64 t367, .int .i64 t368, .int .i64 t369, .int .i64 t370]) (.int .i64 x17_1)).run Try.prog w' = .ok (.agg #[.int .i64 t367, .int .i64 t368]) w' := by intro w'; rw [c12]; first | (go_simp; done) | (go_simp; rfl) | rfl
     have c12b0 := eT c12
     have c12b1 := nF c12
     clear c12
     obtain ⟨t372, A13, H⟩ := bd H
     try dsimp only at H
     by_cases c14 : t372 = true
     ·subst c14
      rw [if_pos rfl] at H
      have H' := am H
      clear H
      go_wp2_with (first | ((with_reducible refine gate_dst (N := 10) rfl ?_); refine bx 10 #[.int .i64 0, .int .i64 0] 24 ?_; intro gb371 hg w15 hbox hb; have BK371 := am (hbox); have GW371 := am (bs hg (YA HB)); have GE371 := GW371; obtain ⟨NB364_371,NB371_364⟩ := ne_ hg BK364; obtain ⟨NB365_371,NB371_365⟩ := ne_ hg BK365; obtain ⟨NB366_371,NB371_366⟩ := ne_ hg BK366; obtain ⟨BK364, BK365, BK366, HB⟩ := bk3 BK364 BK365 BK366 HB hb; clear hb hbox hg; obtain ⟨hnb16,hnc16⟩ := nn NB371_364; obtain ⟨hnb17,hnc17⟩ := nn NB371_365; obtain ⟨hnb18,hnc18⟩ := nn NB371_366; obtain ⟨hcz19_0,hcz19_1,hfz19_0,hfz19_1⟩ := cB2 BK371) | ((with_reducible refine gate_callee (f := 47) rfl ?_); refine gL 21 Try.func47 (impl_Range_empty.calls _ _ _ _ A13.out) fun w20 hb => ?_; replace BK364 := am (blk_below (g := gb364) (o := b2 a0_0 a0_1 24) (by refine fa NB364_371 ?_; refine fa NB364_371 ?_; exact Z BK364) hb); replace BK365 := am (blk_below (g := gb365) (o := b2 a1_0 a1_1 24) (by refine fa NB365_371 ?_; refine fa NB365_371 ?_; exact Z BK365) hb); replace BK366 := am (blk_below (g := gb366) (o := b2 0 0 24) (by refine fa NB366_371 ?_; refine fa NB366_371 ?_; exact Z BK366) hb); replace BK371 := am (blk_below (g := gb371) (o := b2 t367 t368 24) (by refine pf ?_; refine blk_put (cs := #[.int .i64 t367, .int .i64 0]) ?_ 1 _ rfl; refine pf ?_; refine blk_put (cs := #[.int .i64 0, .int .i64 0]) ?_ 0 _ rfl; exact Z BK371) hb); replace HB := am (below_step (YA HB) hb); (try clear hb)))
      go_roundg k1
      case measure => have := HK1.out; omega
      case rel => exact ⟨(x6_1), (x7_1), (x8_1), (wrap64 (x17_1 + 1)), ey, ey, ey, ey, H', ⟨by have := HK1.out; omega⟩, ⟨Z BK364⟩, ⟨Z BK365⟩, ⟨Z BK366⟩, ⟨YA HB⟩⟩
     replace c14 := Bool.eq_false_iff.mpr c14
     subst c14
     rw [if_neg ff] at H
     obtain ⟨⟨t373, t374⟩, A21, H⟩ := bd H
     try dsimp only at H
     by_cases c22 : x8_1 = true
     rotate_left
     ·replace c22 := Bool.eq_false_iff.mpr c22
      subst c22
      rw [if_neg ff] at H
      have H' := am H
      clear H
      go_wp2_with (first | ((with_reducible refine gate_dst (N := 10) rfl ?_); refine bx 10 #[.int .i64 0, .int .i64 0] 24 ?_; intro gb371 hg w36 hbox hb; have BK371 := am (hbox); have GW371 := am (bs hg (YA HB)); have GE371 := GW371; obtain ⟨NB364_371,NB371_364⟩ := ne_ hg BK364; obtain ⟨NB365_371,NB371_365⟩ := ne_ hg BK365; obtain ⟨NB366_371,NB371_366⟩ := ne_ hg BK366; obtain ⟨BK364, BK365, BK366, HB⟩ := bk3 BK364 BK365 BK366 HB hb; clear hb hbox hg; obtain ⟨hnb37,hnc37⟩ := nn NB371_364; obtain ⟨hnb38,hnc38⟩ := nn NB371_365; obtain ⟨hnb39,hnc39⟩ := nn NB371_366; obtain ⟨hcz40_0,hcz40_1,hfz40_0,hfz40_1⟩ := cB2 BK371) | ((with_reducible refine gate_callee (f := 47) rfl ?_); refine gL 21 Try.func47 (impl_Range_empty.calls _ _ _ _ A13.out) fun w41 hb => ?_; replace BK364 := am (blk_below (g := gb364) (o := b2 a0_0 a0_1 24) (by refine fa NB364_371 ?_; refine fa NB364_371 ?_; exact Z BK364) hb); replace BK365 := am (blk_below (g := gb365) (o := b2 a1_0 a1_1 24) (by refine fa NB365_371 ?_; refine fa NB365_371 ?_; exact Z BK365) hb); replace BK366 := am (blk_below (g := gb366) (o := b2 0 0 24) (by refine fa NB366_371 ?_; refine fa NB366_371 ?_; exact Z BK366) hb); replace BK371 := am (blk_below (g := gb371) (o := b2 t367 t368 24) (by refine pf ?_; refine blk_put (cs := #[.int .i64 t367, .int .i64 0]) ?_ 1 _ rfl; refine pf ?_; refine blk_put (cs := #[.int .i64 0, .int .i64 0]) ?_ 0 _ rfl; exact Z BK371) hb); replace HB := am (below_step (YA HB) hb); (try clear hb); obtain ⟨hnb42,hnc42⟩ := nn NB364_365; obtain ⟨hnb43,hnc43⟩ := nn NB364_366; obtain ⟨hcz44_0,hcz44_1,hfz44_0,hfz44_1⟩ := cB2 BK364; obtain ⟨hcz45_0,hcz45_1,hfz45_0,hfz45_1⟩ := cB2 BK371) | ((with_reducible refine gate_callee (f := 49) rfl ?_); refine gL 25 Try.func49 (impl_rangeCorners.calls _ _ _ _ _ _ _ _ _ A21.out) fun w46 hb => ?_; obtain ⟨BK364, BK365, BK366, BK371, HB⟩ := bk4 BK364 BK365 BK366 BK371 HB hb; (try clear hb)))
      go_roundg k1
      case measure => have := HK1.out; omega
      case rel => exact ⟨(t373), (t374), (true), (wrap64 (x17_1 + 1)), ey, ey, ey, ey, H', ⟨by have := HK1.out; omega⟩, ⟨Z BK364⟩, ⟨Z BK365⟩, ⟨Z BK366⟩, ⟨YA HB⟩⟩
     subst c22
     rw [if_pos rfl] at H
     obtain ⟨ji23, hji23⟩ : ∃ j_ : Int, (mn t373 x6_1) = j_ := ⟨_, rfl⟩
     replace H : (impl_rangeDiv.l0 k1 ji23 (mx t374 x7_1) true (wrap64 (x17_1 + 1)) a0_0 a0_1 a1_0 a1_1 t367 t368 t369 t370) = some (r1, r2, r3) := by first | (rw [hji23] at H; exact H) | (simp only [hji23] at H ⊢; exact H)
     (try rw [hji23] at A13)
     (try rw [hji23] at A21)
     have hji23_ : (if x6_1 < t373 then x6_1 else t373) = ji23 := hji23
     obtain ⟨ji24, hji24⟩ : ∃ j_ : Int, (mx t374 x7_1) = j_ := ⟨_, rfl⟩
     replace H : (impl_rangeDiv.l0 k1 ji23 ji24 true (wrap64 (x17_1 + 1)) a0_0 a0_1 a1_0 a1_1 t367 t368 t369 t370) = some (r1, r2, r3) := by first | (rw [hji24] at H; exact H) | (simp only [hji24] at H ⊢; exact H)
     (try rw [hji24] at A13)
     (try rw [hji24] at A21)
     have hji24_ : (if t374 < x7_1 then x7_1 else t374) = ji24 := hji24
     have H' := am H
     clear H
     go_wp2_with (first | ((with_reducible refine gate_dst (N := 10) rfl ?_); refine bx 10 #[.int .i64 0, .int .i64 0] 24 ?_; intro gb371 hg w25 hbox hb; have BK371 := am (hbox); have GW371 := am (bs hg (YA HB)); have GE371 := GW371; obtain ⟨NB364_371,NB371_364⟩ := ne_ hg BK364; obtain ⟨NB365_371,NB371_365⟩ := ne_ hg BK365; obtain ⟨NB366_371,NB371_366⟩ := ne_ hg BK366; obtain ⟨BK364, BK365, BK366, HB⟩ := bk3 BK364 BK365 BK366 HB hb; clear hb hbox hg; obtain ⟨hnb26,hnc26⟩ := nn NB371_364; obtain ⟨hnb27,hnc27⟩ := nn NB371_365; obtain ⟨hnb28,hnc28⟩ := nn NB371_366; obtain ⟨hcz29_0,hcz29_1,hfz29_0,hfz29_1⟩ := cB2 BK371) | ((with_reducible refine gate_callee (f := 47) rfl ?_); refine gL 21 Try.func47 (impl_Range_empty.calls _ _ _ _ A13.out) fun w30 hb => ?_; replace BK364 := am (blk_below (g := gb364) (o := b2 a0_0 a0_1 24) (by refine fa NB364_371 ?_; refine fa NB364_371 ?_; exact Z BK364) hb); replace BK365 := am (blk_below (g := gb365) (o := b2 a1_0 a1_1 24) (by refine fa NB365_371 ?_; refine fa NB365_371 ?_; exact Z BK365) hb); replace BK366 := am (blk_below (g := gb366) (o := b2 0 0 24) (by refine fa NB366_371 ?_; refine fa NB366_371 ?_; exact Z BK366) hb); replace BK371 := am (blk_below (g := gb371) (o := b2 t367 t368 24) (by refine pf ?_; refine blk_put (cs := #[.int .i64 t367, .int .i64 0]) ?_ 1 _ rfl; refine pf ?_; refine blk_put (cs := #[.int .i64 0, .int .i64 0]) ?_ 0 _ rfl; exact Z BK371) hb); replace HB := am (below_step (YA HB) hb); (try clear hb); obtain ⟨hnb31,hnc31⟩ := nn NB364_365; obtain ⟨hnb32,hnc32⟩ := nn NB364_366; obtain ⟨hcz33_0,hcz33_1,hfz33_0,hfz33_1⟩ := cB2 BK364; obtain ⟨hcz34_0,hcz34_1,hfz34_0,hfz34_1⟩ := cB2 BK371) | ((with_reducible refine gate_callee (f := 49) rfl ?_); refine gL 25 Try.func49 (impl_rangeCorners.calls _ _ _ _ _ _ _ _ _ A21.out) fun w35 hb => ?_; obtain ⟨BK364, BK365, BK366, BK371, HB⟩ := bk4 BK364 BK365 BK366 BK371 HB hb; (try clear hb)))
     go_roundg k1
     case measure => have := HK1.out; omega
     case rel => exact ⟨(ji23), (ji24), (true), (wrap64 (x17_1 + 1)), (by first | rfl | (simp; done) | (simp only [← hji23] <;> (first | rfl | simp)) | (simp [*]; done)), (by first | rfl | (simp; done) | (simp only [← hji24] <;> (first | rfl | simp)) | (simp [*]; done)), ey, ey, H', ⟨by have := HK1.out; omega⟩, ⟨Z BK364⟩, ⟨Z BK365⟩, ⟨Z BK366⟩, ⟨YA HB⟩⟩
    rw [if_neg c12] at H
    have c12b0 := eF c12
    have c12b1 := nT c12
    by_cases c47 : x17_1 = 1
    rotate_left
    ·rw [if_neg c47] at H
     exact absurd H (by simp)
    rw [if_pos c47] at H
    have hix47 : ∀ w', (Instr.index 96 (.agg #[.int .i64 t367, .int .i64 t368, .int .i64 t369, .int .i64 t370]) (.int .i64 x17_1)).run Try.prog w' = .ok (.agg #[.int .i64 t369, .int .i64 t370]) w' := by intro w'; rw [c47]; first | (go_simp; done) | (go_simp; rfl) | rfl
    have c47b0 := eT c47
    have c47b1 := nF c47
    clear c47
    obtain ⟨t376, A48, H⟩ := bd H
    try dsimp only at H
    by_cases c49 : t376 = true
    ·subst c49
     rw [if_pos rfl] at H
     have H' := am H
     clear H
     go_wp2_with (first | ((with_reducible refine gate_dst (N := 10) rfl ?_); refine bx 10 #[.int .i64 0, .int .i64 0] 24 ?_; intro gb375 hg w50 hbox hb; have BK375 := am (hbox); have GW375 := am (bs hg (YA HB)); have GE375 := GW375; obtain ⟨NB364_375,NB375_364⟩ := ne_ hg BK364; obtain ⟨NB365_375,NB375_365⟩ := ne_ hg BK365; obtain ⟨NB366_375,NB375_366⟩ := ne_ hg BK366; obtain ⟨BK364, BK365, BK366, HB⟩ := bk3 BK364 BK365 BK366 HB hb; clear hb hbox hg; obtain ⟨hnb51,hnc51⟩ := nn NB375_364; obtain ⟨hnb52,hnc52⟩ := nn NB375_365; obtain ⟨hnb53,hnc53⟩ := nn NB375_366; obtain ⟨hcz54_0,hcz54_1,hfz54_0,hfz54_1⟩ := cB2 BK375) | ((with_reducible refine gate_callee (f := 47) rfl ?_); refine gL 21 Try.func47 (impl_Range_empty.calls _ _ _ _ A48.out) fun w55 hb => ?_; replace BK364 := am (blk_below (g := gb364) (o := b2 a0_0 a0_1 24) (by refine fa NB364_375 ?_; refine fa NB364_375 ?_; exact Z BK364) hb); replace BK365 := am (blk_below (g := gb365) (o := b2 a1_0 a1_1 24) (by refine fa NB365_375 ?_; refine fa NB365_375 ?_; exact Z BK365) hb); replace BK366 := am (blk_below (g := gb366) (o := b2 0 0 24) (by refine fa NB366_375 ?_; refine fa NB366_375 ?_; exact Z BK366) hb); replace BK375 := am (blk_below (g := gb375) (o := b2 t369 t370 24) (by refine pf ?_; refine blk_put (cs := #[.int .i64 t369, .int .i64 0]) ?_ 1 _ rfl; refine pf ?_; refine blk_put (cs := #[.int .i64 0, .int .i64 0]) ?_ 0 _ rfl; exact Z BK375) hb); replace HB := am (below_step (YA HB) hb); (try clear hb)))
     go_roundg k1
     case measure => have := HK1.out; omega
     case rel => exact ⟨(x6_1), (x7_1), (x8_1), (wrap64 (x17_1 + 1)), ey, ey, ey, ey, H', ⟨by have := HK1.out; omega⟩, ⟨Z BK364⟩, ⟨Z BK365⟩, ⟨Z BK366⟩, ⟨YA HB⟩⟩
    replace c49 := Bool.eq_false_iff.mpr c49
    subst c49
    rw [if_neg ff] at H
    obtain ⟨⟨t377, t378⟩, A56, H⟩ := bd H
    try dsimp only at H
    by_cases c57 : x8_1 = true
    rotate_left
    ·replace c57 := Bool.eq_false_iff.mpr c57
     subst c57
     rw [if_neg ff] at H
     have H' := am H
     clear H
     go_wp2_with (first | ((with_reducible refine gate_dst (N := 10) rfl ?_); refine bx 10 #[.int .i64 0, .int .i64 0] 24 ?_; intro gb375 hg w71 hbox hb; have BK375 := am (hbox); have GW375 := am (bs hg (YA HB)); have GE375 := GW375; obtain ⟨NB364_375,NB375_364⟩ := ne_ hg BK364; obtain ⟨NB365_375,NB375_365⟩ := ne_ hg BK365; obtain ⟨NB366_375,NB375_366⟩ := ne_ hg BK366; obtain ⟨BK364, BK365, BK366, HB⟩ := bk3 BK364 BK365 BK366 HB hb; clear hb hbox hg; obtain ⟨hnb72,hnc72⟩ := nn NB375_364; obtain ⟨hnb73,hnc73⟩ := nn NB375_365; obtain ⟨hnb74,hnc74⟩ := nn NB375_366; obtain ⟨hcz75_0,hcz75_1,hfz75_0,hfz75_1⟩ := cB2 BK375) | ((with_reducible refine gate_callee (f := 47) rfl ?_); refine gL 21 Try.func47 (impl_Range_empty.calls _ _ _ _ A48.out) fun w76 hb => ?_; replace BK364 := am (blk_below (g := gb364) (o := b2 a0_0 a0_1 24) (by refine fa NB364_375 ?_; refine fa NB364_375 ?_; exact Z BK364) hb); replace BK365 := am (blk_below (g := gb365) (o := b2 a1_0 a1_1 24) (by refine fa NB365_375 ?_; refine fa NB365_375 ?_; exact Z BK365) hb); replace BK366 := am (blk_below (g := gb366) (o := b2 0 0 24) (by refine fa NB366_375 ?_; refine fa NB366_375 ?_; exact Z BK366) hb); replace BK375 := am (blk_below (g := gb375) (o := b2 t369 t370 24) (by refine pf ?_; refine blk_put (cs := #[.int .i64 t369, .int .i64 0]) ?_ 1 _ rfl; refine pf ?_; refine blk_put (cs := #[.int .i64 0, .int .i64 0]) ?_ 0 _ rfl; exact Z BK375) hb); replace HB := am (below_step (YA HB) hb); (try clear hb); obtain ⟨hnb77,hnc77⟩ := nn NB364_365; obtain ⟨hnb78,hnc78⟩ := nn NB364_366; obtain ⟨hcz79_0,hcz79_1,hfz79_0,hfz79_1⟩ := cB2 BK364; obtain ⟨hcz80_0,hcz80_1,hfz80_0,hfz80_1⟩ := cB2 BK375) | ((with_reducible refine gate_callee (f := 49) rfl ?_); refine gL 25 Try.func49 (impl_rangeCorners.calls _ _ _ _ _ _ _ _ _ A56.out) fun w81 hb => ?_; obtain ⟨BK364, BK365, BK366, BK375, HB⟩ := bk4 BK364 BK365 BK366 BK375 HB hb; (try clear hb)))
     go_roundg k1
     case measure => have := HK1.out; omega
     case rel => exact ⟨(t377), (t378), (true), (wrap64 (x17_1 + 1)), ey, ey, ey, ey, H', ⟨by have := HK1.out; omega⟩, ⟨Z BK364⟩, ⟨Z BK365⟩, ⟨Z BK366⟩, ⟨YA HB⟩⟩
    subst c57
    rw [if_pos rfl] at H
    obtain ⟨ji58, hji58⟩ : ∃ j_ : Int, (mn t377 x6_1) = j_ := ⟨_, rfl⟩
    replace H : (impl_rangeDiv.l0 k1 ji58 (mx t378 x7_1) true (wrap64 (x17_1 + 1)) a0_0 a0_1 a1_0 a1_1 t367 t368 t369 t370) = some (r1, r2, r3) := by first | (rw [hji58] at H; exact H) | (simp only [hji58] at H ⊢; exact H)
    (try rw [hji58] at A48)
    (try rw [hji58] at A56)
    have hji58_ : (if x6_1 < t377 then x6_1 else t377) = ji58 := hji58
    obtain ⟨ji59, hji59⟩ : ∃ j_ : Int, (mx t378 x7_1) = j_ := ⟨_, rfl⟩
    replace H : (impl_rangeDiv.l0 k1 ji58 ji59 true (wrap64 (x17_1 + 1)) a0_0 a0_1 a1_0 a1_1 t367 t368 t369 t370) = some (r1, r2, r3) := by first | (rw [hji59] at H; exact H) | (simp only [hji59] at H ⊢; exact H)
    (try rw [hji59] at A48)
    (try rw [hji59] at A56)
    have hji59_ : (if t378 < x7_1 then x7_1 else t378) = ji59 := hji59
    have H' := am H
    clear H
    go_wp2_with (first | ((with_reducible refine gate_dst (N := 10) rfl ?_); refine bx 10 #[.int .i64 0, .int .i64 0] 24 ?_; intro gb375 hg w60 hbox hb; have BK375 := am (hbox); have GW375 := am (bs hg (YA HB)); have GE375 := GW375; obtain ⟨NB364_375,NB375_364⟩ := ne_ hg BK364; obtain ⟨NB365_375,NB375_365⟩ := ne_ hg BK365; obtain ⟨NB366_375,NB375_366⟩ := ne_ hg BK366; obtain ⟨BK364, BK365, BK366, HB⟩ := bk3 BK364 BK365 BK366 HB hb; clear hb hbox hg; obtain ⟨hnb61,hnc61⟩ := nn NB375_364; obtain ⟨hnb62,hnc62⟩ := nn NB375_365; obtain ⟨hnb63,hnc63⟩ := nn NB375_366; obtain ⟨hcz64_0,hcz64_1,hfz64_0,hfz64_1⟩ := cB2 BK375) | ((with_reducible refine gate_callee (f := 47) rfl ?_); refine gL 21 Try.func47 (impl_Range_empty.calls _ _ _ _ A48.out) fun w65 hb => ?_; replace BK364 := am (blk_below (g := gb364) (o := b2 a0_0 a0_1 24) (by refine fa NB364_375 ?_; refine fa NB364_375 ?_; exact Z BK364) hb); replace BK365 := am (blk_below (g := gb365) (o := b2 a1_0 a1_1 24) (by refine fa NB365_375 ?_; refine fa NB365_375 ?_; exact Z BK365) hb); replace BK366 := am (blk_below (g := gb366) (o := b2 0 0 24) (by refine fa NB366_375 ?_; refine fa NB366_375 ?_; exact Z BK366) hb); replace BK375 := am (blk_below (g := gb375) (o := b2 t369 t370 24) (by refine pf ?_; refine blk_put (cs := #[.int .i64 t369, .int .i64 0]) ?_ 1 _ rfl; refine pf ?_; refine blk_put (cs := #[.int .i64 0, .int .i64 0]) ?_ 0 _ rfl; exact Z BK375) hb); replace HB := am (below_step (YA HB) hb); (try clear hb); obtain ⟨hnb66,hnc66⟩ := nn NB364_365; obtain ⟨hnb67,hnc67⟩ := nn NB364_366; obtain ⟨hcz68_0,hcz68_1,hfz68_0,hfz68_1⟩ := cB2 BK364; obtain ⟨hcz69_0,hcz69_1,hfz69_0,hfz69_1⟩ := cB2 BK375) | ((with_reducible refine gate_callee (f := 49) rfl ?_); refine gL 25 Try.func49 (impl_rangeCorners.calls _ _ _ _ _ _ _ _ _ A56.out) fun w70 hb => ?_; obtain ⟨BK364, BK365, BK366, BK375, HB⟩ := bk4 BK364 BK365 BK366 BK375 HB hb; (try clear hb)))
    go_roundg k1
    case measure => have := HK1.out; omega
    case rel => exact ⟨(ji58), (ji59), (true), (wrap64 (x17_1 + 1)), (by first | rfl | (simp; done) | (simp only [← hji58] <;> (first | rfl | simp)) | (simp [*]; done)), (by first | rfl | (simp; done) | (simp only [← hji59] <;> (first | rfl | simp)) | (simp [*]; done)), ey, ey, H', ⟨by have := HK1.out; omega⟩, ⟨Z BK364⟩, ⟨Z BK365⟩, ⟨Z BK366⟩, ⟨YA HB⟩⟩
   rw [if_neg c11] at H
   have c11b0 := dF c11
   clear c11
   obtain ⟨⟨t379, t380⟩, A82, H⟩ := bd H
   try dsimp only at H
   have HC83 := am H
   clear H
   go_upto_if 39 with (first | ((with_reducible refine gate_callee (f := 48) rfl ?_); refine gL 38 Try.func48 (impl_rangeNone.calls _ _ _ A82.out) fun w84 hb => ?_; obtain ⟨BK364, BK365, BK366, HB⟩ := bk3 BK364 BK365 BK366 HB hb; (try clear hb)) | ((with_reducible refine gate_dst (N := 13) rfl ?_); refine bx 13 #[.int .i64 0, .int .i64 0] 24 ?_; intro gb381 hg w85 hbox hb; have BK381 := am (hbox); have GW381 := am (bs hg (YA HB)); have GE381 := GW381; obtain ⟨NB364_381,NB381_364⟩ := ne_ hg BK364; obtain ⟨NB365_381,NB381_365⟩ := ne_ hg BK365; obtain ⟨NB366_381,NB381_366⟩ := ne_ hg BK366; obtain ⟨BK364, BK365, BK366, HB⟩ := bk3 BK364 BK365 BK366 HB hb; clear hb hbox hg; obtain ⟨hnb86,hnc86⟩ := nn NB381_364; obtain ⟨hnb87,hnc87⟩ := nn NB381_365; obtain ⟨hnb88,hnc88⟩ := nn NB381_366; obtain ⟨hcz89_0,hcz89_1,hfz89_0,hfz89_1⟩ := cB2 BK381))
   (try simp only [Act.put, List.setIfInBounds_toArray, List.set_cons_zero, List.set_cons_succ])
   go_cut [] (fun wc => ∃ (kq : Nat) (x382000_82 : Int) (x382001_82 : Int), Aside0 (impl_rangeDiv.j1 kq a0_0 a0_1 a1_0 a1_1 x382000_82 x382001_82 = some (r1, r2, r3)) ∧ Aside0 (kq ≤ k1) ∧ Bx2 wc gb364 a0_0 a0_1 24 ∧ Bx2 wc gb365 a1_0 a1_1 24 ∧ Bx2 wc gb366 0 0 24 ∧ Bx2 wc gb381 x382000_82 x382001_82 24 ∧ Aside0 (Below w.heap.size w wc))
   case first =>
    have H := HC83.out
    clear HC83
    by_cases c90 : x8_1 = true
    rotate_left
    ·replace c90 := Bool.eq_false_iff.mpr c90
     subst c90
     rw [if_neg ff] at H
     have H' := am H
     clear H
     go_wp2
     go_meet
     case rel => exact ⟨_, (t379), (t380), H', le1 HK1, ⟨by refine fa NB364_381 ?_; refine fa NB364_381 ?_; exact Z BK364⟩, ⟨by refine fa NB365_381 ?_; refine fa NB365_381 ?_; exact Z BK365⟩, ⟨by refine fa NB366_381 ?_; refine fa NB366_381 ?_; exact Z BK366⟩, ⟨by refine pf ?_; refine blk_put (cs := #[.int .i64 t379, .int .i64 0]) ?_ 1 _ rfl; refine pf ?_; refine blk_put (cs := #[.int .i64 0, .int .i64 0]) ?_ 0 _ rfl; exact Z BK381⟩, ⟨YA HB⟩⟩
    subst c90
    rw [if_pos rfl] at H
    obtain ⟨⟨t382, t383⟩, A91, H⟩ := bd H
    try dsimp only at H
    have H' := am H
    clear H
    go_wp2_with (first | ((with_reducible refine gate_callee (f := 50) rfl ?_); refine gL 42 Try.func50 (impl_rangeFrom.calls _ _ _ _ _ A91.out) fun w92 hb => ?_; replace BK364 := am (blk_below (g := gb364) (o := b2 a0_0 a0_1 24) (by refine fa NB364_381 ?_; refine fa NB364_381 ?_; exact Z BK364) hb); replace BK365 := am (blk_below (g := gb365) (o := b2 a1_0 a1_1 24) (by refine fa NB365_381 ?_; refine fa NB365_381 ?_; exact Z BK365) hb); replace BK366 := am (blk_below (g := gb366) (o := b2 0 0 24) (by refine fa NB366_381 ?_; refine fa NB366_381 ?_; exact Z BK366) hb); replace BK381 := am (blk_below (g := gb381) (o := b2 t379 t380 24) (by refine pf ?_; refine blk_put (cs := #[.int .i64 t379, .int .i64 0]) ?_ 1 _ rfl; refine pf ?_; refine blk_put (cs := #[.int .i64 0, .int .i64 0]) ?_ 0 _ rfl; exact Z BK381) hb); replace HB := am (below_step (YA HB) hb); (try clear hb); obtain ⟨hnb93,hnc93⟩ := nn NB381_364; obtain ⟨hnb94,hnc94⟩ := nn NB381_365; obtain ⟨hnb95,hnc95⟩ := nn NB381_366; obtain ⟨hcz96_0,hcz96_1,hfz96_0,hfz96_1⟩ := cB2 BK381))
    go_meet
    case rel => exact ⟨_, (t382), (t383), H', le1 HK1, ⟨by refine fa NB364_381 ?_; refine fa NB364_381 ?_; exact Z BK364⟩, ⟨by refine fa NB365_381 ?_; refine fa NB365_381 ?_; exact Z BK365⟩, ⟨by refine fa NB366_381 ?_; refine fa NB366_381 ?_; exact Z BK366⟩, ⟨by refine pf ?_; refine blk_put (cs := #[.int .i64 t382, .int .i64 t380]) ?_ 1 _ rfl; refine pf ?_; refine blk_put (cs := #[.int .i64 t379, .int .i64 t380]) ?_ 0 _ rfl; exact Z BK381⟩, ⟨YA HB⟩⟩
   case rest =>
    clear HC83
    (try clear c11b0);(try clear hcz89_0);(try clear hcz89_1);(try clear hfz89_0);(try clear hfz89_1)
    obtain ⟨kq, x382000_82, x382001_82, HA, HJ82, BK364, BK365, BK366, BK381, HB⟩ := hcut
    cases kq with
    | zero => exact absurd HA.out (by simp [impl_rangeDiv.j1])
    | succ kj82 =>
     have H := HA.out
     clear HA
     simp only [impl_rangeDiv.j1] at H
     have HC97 := am H
     clear H
     go_upto_region 15 with (fail)
     go_cut [48] (fun v48 wc => ∃ (kq : Nat) (x48_96 : Bool), v48 = .bool x48_96 ∧ Aside0 (impl_rangeDiv.j2 kq ([] : List Int) x48_96 a1_0 a1_1 x382000_82 x382001_82 = some (r1, r2, r3)) ∧ Aside0 (kq ≤ kj82) ∧ Aside0 (Kd.R (Kd.int .i64) 3 wc w.heap.size (fun _ => True) (.slice none 0 0) ([] : List Int)) ∧ Bx2 wc gb364 a0_0 a0_1 24 ∧ Bx2 wc gb365 a1_0 a1_1 24 ∧ Bx2 wc gb366 0 0 24 ∧ Bx2 wc gb381 x382000_82 x382001_82 24 ∧ Aside0 (Below w.heap.size w wc))
     case first =>
      have H := HC97.out
      clear HC97
      obtain ⟨t384, A98, H⟩ := bd H
      try dsimp only at H
      by_cases c99 : t384 = true
      rotate_left
      ·replace c99 := Bool.eq_false_iff.mpr c99
       subst c99
       rw [if_neg ff] at H
       have H' := am H
       clear H
       obtain ⟨hnb110,hnc110⟩ := nn NB364_365
       obtain ⟨hnb111,hnc111⟩ := nn NB364_366
       obtain ⟨hnb112,hnc112⟩ := nn NB364_381
       obtain ⟨hcz113_0,hcz113_1,hfz113_0,hfz113_1⟩ := cB2 BK364
       go_wp2_with (first | ((with_reducible refine gate_callee (f := 95) rfl ?_); refine gL 44 Try.func95 (impl_RangeHas.calls _ _ _ _ _ A98.out) fun w114 hb => ?_; obtain ⟨BK364, BK365, BK366, BK381, HB⟩ := bk4 BK364 BK365 BK366 BK381 HB hb; (try clear hb)))
       go_meet
       case rel => exact ⟨_, (false), ey, H', ⟨by have := HK1.out; have := HJ82.out; first | omega | exact Nat.le_refl _⟩, ⟨by first | exact Kd.R_nil _ _ _ _ _ | exact Kd.N_nil _ _ _ _ _ | exact Kd.V_nil _ _ _ _ _ | exact Kd.Q_nil _ _ _ _ _ | exact Kd.S_nil _ _ _ _ _⟩, ⟨Z BK364⟩, ⟨Z BK365⟩, ⟨Z BK366⟩, ⟨Z BK381⟩, ⟨YA HB⟩⟩
      subst c99
      rw [if_pos rfl] at H
      obtain ⟨t385, A100, H⟩ := bd H
      try dsimp only at H
      have H' := am H
      clear H
      obtain ⟨hnb101,hnc101⟩ := nn NB364_365
      obtain ⟨hnb102,hnc102⟩ := nn NB364_366
      obtain ⟨hnb103,hnc103⟩ := nn NB364_381
      obtain ⟨hcz104_0,hcz104_1,hfz104_0,hfz104_1⟩ := cB2 BK364
      go_wp2_with (first | ((with_reducible refine gate_callee (f := 95) rfl ?_); refine gL 44 Try.func95 (impl_RangeHas.calls _ _ _ _ _ A98.out) fun w105 hb => ?_; obtain ⟨BK364, BK365, BK366, BK381, HB⟩ := bk4 BK364 BK365 BK366 BK381 HB hb; (try clear hb); obtain ⟨hnb106,hnc106⟩ := nn NB365_366; obtain ⟨hnb107,hnc107⟩ := nn NB365_381; obtain ⟨hcz108_0,hcz108_1,hfz108_0,hfz108_1⟩ := cB2 BK365) | (go_at_call 95; (with_reducible refine (impl_RangeHas.calls _ _ _ _ _ A100.out).mono ?_); rintro e w109 ⟨rfl, hb⟩; obtain ⟨BK364, BK365, BK366, BK381, HB⟩ := bk4 BK364 BK365 BK366 BK381 HB hb; (try clear hb)))
      go_meet
      case rel => exact ⟨_, (t385), ey, H', ⟨by have := HK1.out; have := HJ82.out; first | omega | exact Nat.le_refl _⟩, ⟨by first | exact Kd.R_nil _ _ _ _ _ | exact Kd.N_nil _ _ _ _ _ | exact Kd.V_nil _ _ _ _ _ | exact Kd.Q_nil _ _ _ _ _ | exact Kd.S_nil _ _ _ _ _⟩, ⟨Z BK364⟩, ⟨Z BK365⟩, ⟨Z BK366⟩, ⟨Z BK381⟩, ⟨YA HB⟩⟩
     case rest =>
      clear HC97
      obtain ⟨kq, x48_96, rfl, HA, HJ96, HO_14, BK364, BK365, BK366, BK381, HB⟩ := hcut
      cases kq with
      | zero => exact absurd HA.out (by simp [impl_rangeDiv.j2])
      | succ kj96 =>
       have H := HA.out
       clear HA
       simp only [impl_rangeDiv.j2] at H
       by_cases c115 : x48_96 = true
       rotate_left
       ·replace c115 := Bool.eq_false_iff.mpr c115
        subst c115
        rw [if_neg ff] at H
        obtain ⟨t393, A143, H⟩ := bd H
        try dsimp only at H
        by_cases c144 : t393 = true
        rotate_left
        ·replace c144 := Bool.eq_false_iff.mpr c144
         subst c144
         rw [if_neg ff] at H
         simp only [Option.some.injEq, Prod.mk.injEq] at H
         obtain ⟨rfl, rfl, rfl⟩ := H
         obtain ⟨hnb157,hnc157⟩ := nn NB365_364
         obtain ⟨hnb158,hnc158⟩ := nn NB365_366
         obtain ⟨hnb159,hnc159⟩ := nn NB365_381
         obtain ⟨hcz160_0,hcz160_1,hfz160_0,hfz160_1⟩ := cB2 BK365
         go_wp2_with (first | ((with_reducible refine gate_callee (f := 95) rfl ?_); refine gL 53 Try.func95 (impl_RangeHas.calls _ _ _ _ _ A143.out) fun w161 hb => ?_; replace HO_14 := am (Kd.R_below (RZ HO_14) hb); obtain ⟨BK364, BK365, BK366, BK381, HB⟩ := bk4 BK364 BK365 BK366 BK381 HB hb; (try clear hb); obtain ⟨hnb162,hnc162⟩ := nn NB381_364; obtain ⟨hnb163,hnc163⟩ := nn NB381_366; obtain ⟨hcz164_0,hcz164_1,hfz164_0,hfz164_1⟩ := cB2 BK381; obtain ⟨hnb165,hnc165⟩ := nn NB366_364; obtain ⟨hcz166_0,hcz166_1,hfz166_0,hfz166_1⟩ := cB2 BK366))
         refine bodyPost_ret (results_ct rfl _ _ gb366 24 #[.int .i64 x382000_82, .int .i64 x382001_82] (0, 0) _ rfl (by refine pf ?_; refine blk_put (cs := #[.int .i64 x382000_82, .int .i64 0]) ?_ 1 _ rfl; refine pf ?_; refine blk_put (cs := #[.int .i64 0, .int .i64 0]) ?_ 0 _ rfl; exact Z BK366) Try.underlying24 rfl (by kernel_rfl)) rfl ?_
         exact ⟨_, ez, by (with_reducible repeat (first | apply Kd.R_alloc | apply Kd.R_drewN | apply Kd.R_drew)); exact Kd.R_mono (Kd.R_far (p := ⟨gb366, 1, none⟩) (Kd.R_far (p := ⟨gb366, 0, none⟩) (Kd.R_types HO_14.out BK366.out (by decide)) (fun _ hk => hk.2) (.int .i64 x382000_82)) (fun _ hk => hk.2) (.int .i64 x382001_82)) (fun _ hk => trivial), YA HB⟩
        subst c144
        rw [if_pos rfl] at H
        by_cases c145 : ([] : List Int).length < 17592186044416
        rotate_left
        ·rw [if_neg c145] at H
         exact absurd H (by simp)
        rw [if_pos c145] at H
        have LMc145 := am c145
        clear c145
        obtain ⟨y394, hy394⟩ : ∃ y_ : List Int, y_ = (([] : List Int) ++ [2]) := ⟨_, rfl⟩
        replace H : (some (x382000_82, x382001_82, y394)) = some (r1, r2, r3) := by first | (rw [hy394]; with_reducible exact H) | (have H2_ := (Option.bind_some _ _).symm.trans H; rw [hy394]; with_reducible exact H2_) | (have H2_ := (Option.bind_some _ _).symm.trans H; with_reducible exact H2_) | with_reducible exact H | (rw [hy394]; exact H) | exact H
        have Ny394 := am hy394
        clear hy394
        simp only [Option.some.injEq, Prod.mk.injEq] at H
        obtain ⟨rfl, rfl, rfl⟩ := H
        obtain ⟨hnb146,hnc146⟩ := nn NB365_364
        obtain ⟨hnb147,hnc147⟩ := nn NB365_366
        obtain ⟨hnb148,hnc148⟩ := nn NB365_381
        obtain ⟨hcz149_0,hcz149_1,hfz149_0,hfz149_1⟩ := cB2 BK365
        go_wp2_with (first | ((with_reducible refine gate_callee (f := 95) rfl ?_); refine gL 53 Try.func95 (impl_RangeHas.calls _ _ _ _ _ A143.out) fun w150 hb => ?_; replace HO_14 := am (Kd.R_below (RZ HO_14) hb); obtain ⟨BK364, BK365, BK366, BK381, HB⟩ := bk4 BK364 BK365 BK366 BK381 HB hb; (try clear hb)) | ((with_reducible refine gate_builtin (b := .append) (xs := #[.tmp 54, .tmp 55]) rfl ?_); at_builtin; refine Kd.R_append (Kd.int .i64) (w0 := w) w.heap.size rfl (.tmp 54) (.tmp 55) 25 3 (.int .i64 0) 8 rfl Try.underlying25 info3 rfl (by decide) (by omega) (.slice none 0 0) ([] : List Int) 2 [.int .i64 2] (fun _ => True) (fun _ => False) rfl rfl ?aP (fun _ hk => hk.elim) ?aF ?aO ?aB ?aS ?aL ?_; (case aP => exact rfl); (case aB => exact (YA HB)); (case aF => exact (fun _ _ => trivial)); (case aO => exact (RZ HO_14)); (case aS => exact (below_size (YA HB))); (case aL => have := LMc145.out; omega); intro v395 w151 ho hb hg hat; rw [← Ny394.out] at ho; have HO396 := am (ho); replace BK364 := am (blk_grown (g := gb364) (o := b2 a0_0 a0_1 24) (Z BK364) hg (Kd.R_ne HO_14.out BK364.out (by decide))); replace BK365 := am (blk_grown (g := gb365) (o := b2 a1_0 a1_1 24) (Z BK365) hg (Kd.R_ne HO_14.out BK365.out (by decide))); replace BK366 := am (blk_grown (g := gb366) (o := b2 0 0 24) (Z BK366) hg (Kd.R_ne HO_14.out BK366.out (by decide))); replace BK381 := am (blk_grown (g := gb381) (o := b2 x382000_82 x382001_82 24) (Z BK381) hg (Kd.R_ne HO_14.out BK381.out (by decide))); replace HB := am (hb); clear HO_14; clear ho hb hg hat; obtain ⟨hnb152,hnc152⟩ := nn NB381_364; obtain ⟨hnb153,hnc153⟩ := nn NB381_366; obtain ⟨hcz154_0,hcz154_1,hfz154_0,hfz154_1⟩ := cB2 BK381; obtain ⟨hnb155,hnc155⟩ := nn NB366_364; obtain ⟨hcz156_0,hcz156_1,hfz156_0,hfz156_1⟩ := cB2 BK366))
        refine bodyPost_ret (results_ct rfl _ _ gb366 24 #[.int .i64 x382000_82, .int .i64 x382001_82] (0, 0) _ rfl (by refine pf ?_; refine blk_put (cs := #[.int .i64 x382000_82, .int .i64 0]) ?_ 1 _ rfl; refine pf ?_; refine blk_put (cs := #[.int .i64 0, .int .i64 0]) ?_ 0 _ rfl; exact Z BK366) Try.underlying24 rfl (by kernel_rfl)) rfl ?_
        exact ⟨_, ez, by (with_reducible repeat (first | apply Kd.R_alloc | apply Kd.R_drewN | apply Kd.R_drew)); exact Kd.R_mono (Kd.R_far (p := ⟨gb366, 1, none⟩) (Kd.R_far (p := ⟨gb366, 0, none⟩) (Kd.R_types HO396.out BK366.out (by decide)) (fun _ hk => hk.2) (.int .i64 x382000_82)) (fun _ hk => hk.2) (.int .i64 x382001_82)) (fun _ hk => trivial), YA HB⟩
       subst c115
       rw [if_pos rfl] at H
       by_cases c116 : ([] : List Int).length < 17592186044416
       rotate_left
       ·rw [if_neg c116] at H
        exact absurd H (by simp)
       rw [if_pos c116] at H
       have LMc116 := am c116
       clear c116
       obtain ⟨y386, hy386⟩ : ∃ y_ : List Int, y_ = (([] : List Int) ++ [1]) := ⟨_, rfl⟩
       replace H : ((impl_RangeHas.f a1_0 a1_1 0).bind fun t389 => (if t389 = true then (if y386.length < 17592186044416 then (some (x382000_82, x382001_82, (y386 ++ [2]))) else (none)) else (some (x382000_82, x382001_82, y386)))) = some (r1, r2, r3) := by first | (rw [hy386]; with_reducible exact H) | (have H2_ := (Option.bind_some _ _).symm.trans H; rw [hy386]; with_reducible exact H2_) | (have H2_ := (Option.bind_some _ _).symm.trans H; with_reducible exact H2_) | with_reducible exact H | (rw [hy386]; exact H) | exact H
       have Ny386 := am hy386
       clear hy386
       obtain ⟨t389, A117, H⟩ := bd H
       try dsimp only at H
       by_cases c118 : t389 = true
       rotate_left
       ·replace c118 := Bool.eq_false_iff.mpr c118
        subst c118
        rw [if_neg ff] at H
        simp only [Option.some.injEq, Prod.mk.injEq] at H
        obtain ⟨rfl, rfl, rfl⟩ := H
        go_wp2_with (first | ((with_reducible refine gate_builtin (b := .append) (xs := #[.tmp 49, .tmp 50]) rfl ?_); at_builtin; refine Kd.R_append (Kd.int .i64) (w0 := w) w.heap.size rfl (.tmp 49) (.tmp 50) 25 3 (.int .i64 0) 8 rfl Try.underlying25 info3 rfl (by decide) (by omega) (.slice none 0 0) ([] : List Int) 1 [.int .i64 1] (fun _ => True) (fun _ => False) rfl rfl ?aP (fun _ hk => hk.elim) ?aF ?aO ?aB ?aS ?aL ?_; (case aP => exact rfl); (case aB => exact (YA HB)); (case aF => exact (fun _ _ => trivial)); (case aO => exact (RZ HO_14)); (case aS => exact (below_size (YA HB))); (case aL => have := LMc116.out; omega); intro v387 w132 ho hb hg hat; rw [← Ny386.out] at ho; have HO388 := am (ho); replace BK364 := am (blk_grown (g := gb364) (o := b2 a0_0 a0_1 24) (Z BK364) hg (Kd.R_ne HO_14.out BK364.out (by decide))); replace BK365 := am (blk_grown (g := gb365) (o := b2 a1_0 a1_1 24) (Z BK365) hg (Kd.R_ne HO_14.out BK365.out (by decide))); replace BK366 := am (blk_grown (g := gb366) (o := b2 0 0 24) (Z BK366) hg (Kd.R_ne HO_14.out BK366.out (by decide))); replace BK381 := am (blk_grown (g := gb381) (o := b2 x382000_82 x382001_82 24) (Z BK381) hg (Kd.R_ne HO_14.out BK381.out (by decide))); replace HB := am (hb); clear HO_14; clear ho hb hg hat; obtain ⟨hnb133,hnc133⟩ := nn NB365_364; obtain ⟨hnb134,hnc134⟩ := nn NB365_366; obtain ⟨hnb135,hnc135⟩ := nn NB365_381; obtain ⟨hcz136_0,hcz136_1,hfz136_0,hfz136_1⟩ := cB2 BK365) | ((with_reducible refine gate_callee (f := 95) rfl ?_); refine gL 53 Try.func95 (impl_RangeHas.calls _ _ _ _ _ A117.out) fun w137 hb => ?_; replace HO388 := am (Kd.R_below (RZ HO388) hb); obtain ⟨BK364, BK365, BK366, BK381, HB⟩ := bk4 BK364 BK365 BK366 BK381 HB hb; (try clear hb); obtain ⟨hnb138,hnc138⟩ := nn NB381_364; obtain ⟨hnb139,hnc139⟩ := nn NB381_366; obtain ⟨hcz140_0,hcz140_1,hfz140_0,hfz140_1⟩ := cB2 BK381; obtain ⟨hnb141,hnc141⟩ := nn NB366_364; obtain ⟨hcz142_0,hcz142_1,hfz142_0,hfz142_1⟩ := cB2 BK366))
        refine bodyPost_ret (results_ct rfl _ _ gb366 24 #[.int .i64 x382000_82, .int .i64 x382001_82] (0, 0) _ rfl (by refine pf ?_; refine blk_put (cs := #[.int .i64 x382000_82, .int .i64 0]) ?_ 1 _ rfl; refine pf ?_; refine blk_put (cs := #[.int .i64 0, .int .i64 0]) ?_ 0 _ rfl; exact Z BK366) Try.underlying24 rfl (by kernel_rfl)) rfl ?_
        exact ⟨_, ez, by (with_reducible repeat (first | apply Kd.R_alloc | apply Kd.R_drewN | apply Kd.R_drew)); exact Kd.R_mono (Kd.R_far (p := ⟨gb366, 1, none⟩) (Kd.R_far (p := ⟨gb366, 0, none⟩) (Kd.R_types HO388.out BK366.out (by decide)) (fun _ hk => hk.2) (.int .i64 x382000_82)) (fun _ hk => hk.2) (.int .i64 x382001_82)) (fun _ hk => trivial), YA HB⟩
       subst c118
       rw [if_pos rfl] at H
       by_cases c119 : y386.length < 17592186044416
       rotate_left
       ·rw [if_neg c119] at H
        exact absurd H (by simp)
       rw [if_pos c119] at H
       have LMc119 := am c119
       clear c119
       obtain ⟨y390, hy390⟩ : ∃ y_ : List Int, y_ = (y386 ++ [2]) := ⟨_, rfl⟩
       replace H : (some (x382000_82, x382001_82, y390)) = some (r1, r2, r3) := by first | (rw [hy390]; with_reducible exact H) | (have H2_ := (Option.bind_some _ _).symm.trans H; rw [hy390]; with_reducible exact H2_) | (have H2_ := (Option.bind_some _ _).symm.trans H; with_reducible exact H2_) | with_reducible exact H | (rw [hy390]; exact H) | exact H
       have Ny390 := am hy390
       clear hy390
       simp only [Option.some.injEq, Prod.mk.injEq] at H
       obtain ⟨rfl, rfl, rfl⟩ := H
       go_wp2_with (first | ((with_reducible refine gate_builtin (b := .append) (xs := #[.tmp 49, .tmp 50]) rfl ?_); at_builtin; refine Kd.R_append (Kd.int .i64) (w0 := w) w.heap.size rfl (.tmp 49) (.tmp 50) 25 3 (.int .i64 0) 8 rfl Try.underlying25 info3 rfl (by decide) (by omega) (.slice none 0 0) ([] : List Int) 1 [.int .i64 1] (fun _ => True) (fun _ => False) rfl rfl ?aP (fun _ hk => hk.elim) ?aF ?aO ?aB ?aS ?aL ?_; (case aP => exact rfl); (case aB => exact (YA HB)); (case aF => exact (fun _ _ => trivial)); (case aO => exact (RZ HO_14)); (case aS => exact (below_size (YA HB))); (case aL => have := LMc116.out; omega); intro v387 w120 ho hb hg hat; rw [← Ny386.out] at ho; have HO388 := am (ho); replace BK364 := am (blk_grown (g := gb364) (o := b2 a0_0 a0_1 24) (Z BK364) hg (Kd.R_ne HO_14.out BK364.out (by decide))); replace BK365 := am (blk_grown (g := gb365) (o := b2 a1_0 a1_1 24) (Z BK365) hg (Kd.R_ne HO_14.out BK365.out (by decide))); replace BK366 := am (blk_grown (g := gb366) (o := b2 0 0 24) (Z BK366) hg (Kd.R_ne HO_14.out BK366.out (by decide))); replace BK381 := am (blk_grown (g := gb381) (o := b2 x382000_82 x382001_82 24) (Z BK381) hg (Kd.R_ne HO_14.out BK381.out (by decide))); replace HB := am (hb); clear HO_14; clear ho hb hg hat; obtain ⟨hnb121,hnc121⟩ := nn NB365_364; obtain ⟨hnb122,hnc122⟩ := nn NB365_366; obtain ⟨hnb123,hnc123⟩ := nn NB365_381; obtain ⟨hcz124_0,hcz124_1,hfz124_0,hfz124_1⟩ := cB2 BK365) | ((with_reducible refine gate_callee (f := 95) rfl ?_); refine gL 53 Try.func95 (impl_RangeHas.calls _ _ _ _ _ A117.out) fun w125 hb => ?_; replace HO388 := am (Kd.R_below (RZ HO388) hb); obtain ⟨BK364, BK365, BK366, BK381, HB⟩ := bk4 BK364 BK365 BK366 BK381 HB hb; (try clear hb)) | ((with_reducible refine gate_builtin (b := .append) (xs := #[.tmp 54, .tmp 55]) rfl ?_); at_builtin; refine Kd.R_append (Kd.int .i64) (w0 := w) w.heap.size rfl (.tmp 54) (.tmp 55) 25 3 (.int .i64 0) 8 rfl Try.underlying25 info3 rfl (by decide) (by omega) v387 y386 2 [.int .i64 2] (fun _ => True) (fun _ => False) rfl rfl ?aP (fun _ hk => hk.elim) ?aF ?aO ?aB ?aS ?aL ?_; (case aP => exact rfl); (case aB => exact (YA HB)); (case aF => exact (fun _ _ => trivial)); (case aO => exact (RZ HO388)); (case aS => exact (below_size (YA HB))); (case aL => have := LMc119.out; omega); intro v391 w126 ho hb hg hat; rw [← Ny390.out] at ho; have HO392 := am (ho); replace BK364 := am (blk_grown (g := gb364) (o := b2 a0_0 a0_1 24) (Z BK364) hg (Kd.R_ne HO388.out BK364.out (by decide))); replace BK365 := am (blk_grown (g := gb365) (o := b2 a1_0 a1_1 24) (Z BK365) hg (Kd.R_ne HO388.out BK365.out (by decide))); replace BK366 := am (blk_grown (g := gb366) (o := b2 0 0 24) (Z BK366) hg (Kd.R_ne HO388.out BK366.out (by decide))); replace BK381 := am (blk_grown (g := gb381) (o := b2 x382000_82 x382001_82 24) (Z BK381) hg (Kd.R_ne HO388.out BK381.out (by decide))); replace HB := am (hb); clear HO388; clear ho hb hg hat; obtain ⟨hnb127,hnc127⟩ := nn NB381_364; obtain ⟨hnb128,hnc128⟩ := nn NB381_366; obtain ⟨hcz129_0,hcz129_1,hfz129_0,hfz129_1⟩ := cB2 BK381; obtain ⟨hnb130,hnc130⟩ := nn NB366_364; obtain ⟨hcz131_0,hcz131_1,hfz131_0,hfz131_1⟩ := cB2 BK366))
       refine bodyPost_ret (results_ct rfl _ _ gb366 24 #[.int .i64 x382000_82, .int .i64 x382001_82] (0, 0) _ rfl (by refine pf ?_; refine blk_put (cs := #[.int .i64 x382000_82, .int .i64 0]) ?_ 1 _ rfl; refine pf ?_; refine blk_put (cs := #[.int .i64 0, .int .i64 0]) ?_ 0 _ rfl; exact Z BK366) Try.underlying24 rfl (by kernel_rfl)) rfl ?_
       exact ⟨_, ez, by (with_reducible repeat (first | apply Kd.R_alloc | apply Kd.R_drewN | apply Kd.R_drew)); exact Kd.R_mono (Kd.R_far (p := ⟨gb366, 1, none⟩) (Kd.R_far (p := ⟨gb366, 0, none⟩) (Kd.R_types HO392.out BK366.out (by decide)) (fun _ hk => hk.2) (.int .i64 x382000_82)) (fun _ hk => hk.2) (.int .i64 x382001_82)) (fun _ hk => trivial), YA HB⟩

end Go.Proofs.Ythbkakcchgnhpaa.PFnRangeFaults
