/- Written by this session's own driver (wip/dprint.py): the functions that the law FnRangeFaults reaches, as Lean functions, each with its contract. -/
import Derived.Test.YthbkakcchgnhpaaPFnRangeFaultsx0
import Derived.Test.YthbkakcchgnhpaaPFnRangeFaultsx5
import Derived.Test.YthbkakcchgnhpaaSv
namespace Go.Proofs.Ythbkakcchgnhpaa.PFnRangeFaults
open Go.RowKit Go.Proofs.YthbkakcchgnhpaaV.PrintWords Go.Proofs.YthbkakcchgnhpaaV.PrintLast Go.Proofs.YthbkakcchgnhpaaV.PrintMore Go.Proofs.YthbkakcchgnhpaaSv
attribute [local go_sem] max2_int min2_int max_two min_two max_three min_three max_four min_four   -- for this text's walks alone
set_option linter.unusedVariables false
set_option linter.unusedSimpArgs false

/-! ### spec_l8Wrapped: function 43 -/
attribute [local go_sem] Go.Proofs.YthbkakcchgnhpaaSet.isSome_setCell
def spec_l8Wrapped.j0 : Nat → Int → Int → Bool → Option (Int × Int)
 | 0, _, _, _ => none
 | k + 1, x0, x1, x15 => if x15 = true then (some ((-2147483648), 2147483647)) else ((spec_NumWrap.f x0).bind fun t242 => ((spec_NumWrap.f x1).bind fun t243 => (some (t242, t243))))
def spec_l8Wrapped.f (k : Nat) (a0 : Int) (a1 : Int) : Option (Int × Int) := if (wrap64 (a1 - a0)) > 4294967295 then (spec_l8Wrapped.j0 k a0 a1 true) else ((spec_NumWrap.f a0).bind fun t240 => ((spec_NumWrap.f a1).bind fun t241 => (spec_l8Wrapped.j0 k a0 a1 (decide (t240 > t241)))))
theorem spec_l8Wrapped.mono_l : ∀ k, (∀ y0 y1 y2, LeO (spec_l8Wrapped.j0 k y0 y1 y2) (spec_l8Wrapped.j0 (k + 1) y0 y1 y2))
 | 0 => fun _ _ _ r h => by simp [spec_l8Wrapped.j0] at h
 | k + 1 => by
  have ih0 := spec_l8Wrapped.mono_l k
  ·intro y0 y1 y2
   unfold spec_l8Wrapped.j0
   repeat' first | (with_reducible first | apply ih0 | apply LeO.refl | apply LeO.none | refine LeO.ite ?_ ?_ | refine LeO.bind ?_ (fun _ => ?_)) | apply ih0 | apply LeO.none | refine LeO.ite ?_ ?_ | refine LeO.bind ?_ (fun _ => ?_)
theorem spec_l8Wrapped.mono : ∀ a0 a1 k, LeO (spec_l8Wrapped.f k a0 a1) (spec_l8Wrapped.f (k + 1) a0 a1) := by
 intro a0 a1 k
 have ih0 := spec_l8Wrapped.mono_l k
 unfold spec_l8Wrapped.f
 repeat' first | (with_reducible first | apply ih0 | apply LeO.refl | apply LeO.none | refine LeO.ite ?_ ?_ | refine LeO.bind ?_ (fun _ => ?_)) | apply ih0 | apply LeO.none | refine LeO.ite ?_ ?_ | refine LeO.bind ?_ (fun _ => ?_)
set_option maxHeartbeats 8000000 in
set_option maxRecDepth 100000 in
theorem spec_l8Wrapped.calls (k : Nat) (a0 : Int) (a1 : Int) (r1 : Int) (r2 : Int) (w : World) (h : spec_l8Wrapped.f k a0 a1 = some (r1, r2)) :
  Calls Try.prog 43 #[.int .i64 a0, .int .i64 a1] w fun e w' => e = .returned (.agg #[.int .i64 r1, .int .i64 r2]) ∧ Below w.heap.size w w' := by
 have hu24 := Try.underlying24
 have HB := am (Below.refl w.heap.size w)
 have H : (if (wrap64 (a1 - a0)) > 4294967295 then (spec_l8Wrapped.j0 k a0 a1 true) else ((spec_NumWrap.f a0).bind fun t240 => ((spec_NumWrap.f a1).bind fun t241 => (spec_l8Wrapped.j0 k a0 a1 (decide (t240 > t241)))))) = some (r1, r2) := h
 clear h
 have HC3 := am H
 clear H
 go_enter Try.func43, Try.ntmps43
 go_upto_region 1 with (first | ((with_reducible refine gate_dst (N := 4) rfl ?_); refine bx 4 #[.int .i64 0, .int .i64 0] 24 ?_; intro gb239 hg w4 hbox hb; have BK239 := am (hbox); have GW239 := am (bs hg (YA HB)); have GE239 := GW239; replace HB := am (below_step (YA HB) hb); clear hb hbox hg))
 (try simp only [Act.put, List.setIfInBounds_toArray, List.set_cons_zero, List.set_cons_succ])
 go_cut [15] (fun v15 wc => ∃ (kq : Nat) (x15_2 : Bool), v15 = .bool x15_2 ∧ Aside0 (spec_l8Wrapped.j0 kq a0 a1 x15_2 = some (r1, r2)) ∧ Aside0 (kq ≤ k) ∧ Bx2 wc gb239 0 0 24 ∧ Aside0 (Below w.heap.size w wc))
 case first =>
  have H := HC3.out
  clear HC3
  by_cases c5 : (wrap64 (a1 - a0)) > 4294967295
  ·rw [if_pos c5] at H
   have c5b0 := dT c5
   clear c5
   (first | rw [c5b0] | (simp only [i64_w, i32_w]; rw [c5b0]) | skip)
   have H' := am H
   clear H
   go_wp2
   go_meet
   case rel => exact ⟨_, (true), ey, H', le0, ⟨Z BK239⟩, ⟨YA HB⟩⟩
  rw [if_neg c5] at H
  have c5b0 := dF c5
  clear c5
  (first | rw [c5b0] | (simp only [i64_w, i32_w]; rw [c5b0]) | skip)
  obtain ⟨t240, A6, H⟩ := bd H
  try dsimp only at H
  obtain ⟨t241, A7, H⟩ := bd H
  try dsimp only at H
  have H' := am H
  clear H
  go_wp2_with (first | (go_at_call 64; (with_reducible refine (spec_NumWrap.calls _ _ _ A6.out).mono ?_); rintro e w' ⟨rfl, ⟨nd, rfl⟩⟩) | (go_at_call 64; (with_reducible refine (spec_NumWrap.calls _ _ _ A7.out).mono ?_); rintro e w' ⟨rfl, ⟨nd, rfl⟩⟩))
  go_meet
  case rel => exact ⟨_, (decide (t240 > t241)), ey, H', le0, ⟨Z BK239⟩, ⟨YA HB⟩⟩
 case rest =>
  clear HC3
  obtain ⟨kq, x15_2, rfl, HA, HJ2, BK239, HB⟩ := hcut
  cases kq with
  | zero => exact absurd HA.out (by simp [spec_l8Wrapped.j0])
  | succ kj2 =>
   have H := HA.out
   clear HA
   simp only [spec_l8Wrapped.j0] at H
   by_cases c8 : x15_2 = true
   ·subst c8
    rw [if_pos rfl] at H
    simp only [Option.some.injEq, Prod.mk.injEq] at H
    obtain ⟨rfl, rfl⟩ := H
    obtain ⟨hcz9_0,hcz9_1,hfz9_0,hfz9_1⟩ := cB2 BK239
    go_wp2
    refine bodyPost_ret (results_cell_row rfl _ _ gb239 24 #[.int .i64 (-2147483648), .int .i64 2147483647] (0, 0) _ rfl (by refine pf ?_; refine blk_put (cs := #[.int .i64 (-2147483648), .int .i64 0]) ?_ 1 _ rfl; refine pf ?_; refine blk_put (cs := #[.int .i64 0, .int .i64 0]) ?_ 0 _ rfl; exact Z BK239) Try.underlying24 rfl (by kernel_rfl)) rfl ?_
    exact ⟨ez, YA HB⟩
   replace c8 := Bool.eq_false_iff.mpr c8
   subst c8
   rw [if_neg ff] at H
   obtain ⟨t242, A10, H⟩ := bd H
   try dsimp only at H
   obtain ⟨t243, A11, H⟩ := bd H
   try dsimp only at H
   simp only [Option.some.injEq, Prod.mk.injEq] at H
   obtain ⟨rfl, rfl⟩ := H
   go_wp2_with (first | ((with_reducible refine gate_callee (f := 64) rfl ?_); refine goesL_ (some 18) rfl rfl Try.func64 (by kernel_rfl) rfl #[.int .i64 a0] rfl mz ?_; (with_reducible refine (spec_NumWrap.calls _ _ _ A10.out).mono ?_); rintro e w' ⟨rfl, ⟨nd, rfl⟩⟩; refine ⟨_, rfl, ?_⟩; (try (rw [drewN_self wc]; generalize hq_ : World.drewN wc _ = wc; replace BK239 : Bx2 wc gb239 0 0 24 := ⟨by rw [← hq_]; exact (Z BK239)⟩; replace HB : Aside0 (Below w.heap.size w wc) := ⟨by rw [← hq_]; exact (YA HB)⟩; clear hq_))) | ((with_reducible refine gate_callee (f := 64) rfl ?_); refine goesL_ (some 20) rfl rfl Try.func64 (by kernel_rfl) rfl #[.int .i64 a1] rfl mz ?_; (with_reducible refine (spec_NumWrap.calls _ _ _ A11.out).mono ?_); rintro e w' ⟨rfl, ⟨nd, rfl⟩⟩; refine ⟨_, rfl, ?_⟩; (try (rw [drewN_self wc]; generalize hq_ : World.drewN wc _ = wc; replace BK239 : Bx2 wc gb239 0 0 24 := ⟨by rw [← hq_]; exact (Z BK239)⟩; replace HB : Aside0 (Below w.heap.size w wc) := ⟨by rw [← hq_]; exact (YA HB)⟩; clear hq_)); obtain ⟨hcz12_0,hcz12_1,hfz12_0,hfz12_1⟩ := cB2 BK239))
   refine bodyPost_ret (results_cell_row rfl _ _ gb239 24 #[.int .i64 t242, .int .i64 t243] (0, 0) _ rfl (by refine pf ?_; refine blk_put (cs := #[.int .i64 t242, .int .i64 0]) ?_ 1 _ rfl; refine pf ?_; refine blk_put (cs := #[.int .i64 0, .int .i64 0]) ?_ 0 _ rfl; exact Z BK239) Try.underlying24 rfl (by kernel_rfl)) rfl ?_
   exact ⟨ez, YA HB⟩

end Go.Proofs.Ythbkakcchgnhpaa.PFnRangeFaults
