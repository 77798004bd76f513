/- Written by this session's own driver (wip/dprint.py): the functions that the law FnExactValIn reaches, as Lean functions, each with its contract. -/
import Derived.Test.YtnmccgjdnceheaaPFnExactValInx0
import Derived.Test.YtnmccgjdnceheaaPFnExactValInx4
import Derived.Test.YtnmccgjdnceheaaPFnExactValInx9
import Derived.Test.YtnmccgjdnceheaaPFnExactValInx13
import Derived.Test.YtnmccgjdnceheaaSq
namespace Go.Proofs.Ytnmccgjdnceheaa.PFnExactValIn
open Go.RowKit Go.Proofs.YtnmccgjdnceheaaW.PrintWords Go.Proofs.YtnmccgjdnceheaaW.PrintLast Go.Proofs.YtnmccgjdnceheaaW.PrintMore Go.Proofs.YtnmccgjdnceheaaSq
attribute [local go_sem] max2_int min2_int max_two min_two max_three min_three max_four min_four   -- for this text's walks alone
set_option linter.unusedVariables false
set_option linter.unusedSimpArgs false

/-! ### laws_FnExactValIn: function 4 -/
def laws_FnExactValIn.f (k : Nat) (a0_0 : Int) (a0_1 : Int) (a0_2 : Int) (a0_3 : Int) (a1_0 : Int) (a1_1 : Int) (a1_2 : Int) (a1_3 : Int) : Option (Bool) := (laws_toVal.f a0_0 a0_1 a0_2 a0_3).bind fun bt294 => ((laws_toVal.f a1_0 a1_1 a1_2 a1_3).bind fun bt298 => ((spec_ValIn.f k bt294.1 bt294.2.1 bt294.2.2.1 bt294.2.2.2 bt298.1 bt298.2.1 bt298.2.2.1 bt298.2.2.2).bind fun t302 => ((laws_toVal.f a0_0 a0_1 a0_2 a0_3).bind fun bt303 => ((laws_toVal.f a1_0 a1_1 a1_2 a1_3).bind fun bt307 => ((impl_ValIn.f k bt303.1 bt303.2.1 bt303.2.2.1 bt303.2.2.2 bt307.1 bt307.2.1 bt307.2.2.1 bt307.2.2.2).bind fun t311 => (if (t311 != t302) = true then (none) else (some true)))))))
theorem laws_FnExactValIn.mono : ∀ a0 a1 a2 a3 a4 a5 a6 a7 k, LeO (laws_FnExactValIn.f k a0 a1 a2 a3 a4 a5 a6 a7) (laws_FnExactValIn.f (k + 1) a0 a1 a2 a3 a4 a5 a6 a7) := by
 intro a0 a1 a2 a3 a4 a5 a6 a7 k
 unfold laws_FnExactValIn.f
 repeat' first
   | (with_reducible exact impl_ValIn.mono _ _ _ _ _ _ _ _ _)
   | (with_reducible exact spec_ValIn.mono _ _ _ _ _ _ _ _ _)
   | (with_reducible exact LeO.refl _)
   | (with_reducible exact LeO.none _)
   | (with_reducible refine LeO.ite ?_ ?_)
   | (with_reducible refine LeO.bind ?_ (fun _ => ?_))
   | exact impl_ValIn.mono _ _ _ _ _ _ _ _ _
   | exact spec_ValIn.mono _ _ _ _ _ _ _ _ _
   | exact LeO.none _
   | refine LeO.ite ?_ ?_
   | refine LeO.bind ?_ (fun _ => ?_)
set_option maxHeartbeats 8000000 in
set_option maxRecDepth 100000 in
theorem laws_FnExactValIn.calls (k : Nat) (a0_0 : Int) (a0_1 : Int) (a0_2 : Int) (a0_3 : Int) (a1_0 : Int) (a1_1 : Int) (a1_2 : Int) (a1_3 : Int) (r : Bool) (w : World) (h : laws_FnExactValIn.f k a0_0 a0_1 a0_2 a0_3 a1_0 a1_1 a1_2 a1_3 = some r) :
  Calls Try.prog 4 #[.agg #[.int .i64 a0_0, .int .i64 a0_1, .int .i64 a0_2, .int .i64 a0_3], .agg #[.int .i64 a1_0, .int .i64 a1_1, .int .i64 a1_2, .int .i64 a1_3]] w fun e w' => e = .returned (.bool r) ∧ Below w.heap.size w w' := by
 have hu23 := Try.underlying23
 have HB := Aside0.mk (Below.refl w.heap.size w)
 have H : ((laws_toVal.f a0_0 a0_1 a0_2 a0_3).bind fun bt294 => ((laws_toVal.f a1_0 a1_1 a1_2 a1_3).bind fun bt298 => ((spec_ValIn.f k bt294.1 bt294.2.1 bt294.2.2.1 bt294.2.2.2 bt298.1 bt298.2.1 bt298.2.2.1 bt298.2.2.2).bind fun t302 => ((laws_toVal.f a0_0 a0_1 a0_2 a0_3).bind fun bt303 => ((laws_toVal.f a1_0 a1_1 a1_2 a1_3).bind fun bt307 => ((impl_ValIn.f k bt303.1 bt303.2.1 bt303.2.2.1 bt303.2.2.2 bt307.1 bt307.2.1 bt307.2.2.1 bt307.2.2.2).bind fun t311 => (if (t311 != t302) = true then (none) else (some true)))))))) = some r := h
 clear h
 replace H := Option.bind_eq_some_iff.mp H
 obtain ⟨⟨t294, t295, t296, t297⟩, A30, H⟩ := H
 replace H : ((laws_toVal.f a1_0 a1_1 a1_2 a1_3).bind fun bt298 => ((spec_ValIn.f k t294 t295 t296 t297 bt298.1 bt298.2.1 bt298.2.2.1 bt298.2.2.2).bind fun t302 => ((laws_toVal.f a0_0 a0_1 a0_2 a0_3).bind fun bt303 => ((laws_toVal.f a1_0 a1_1 a1_2 a1_3).bind fun bt307 => ((impl_ValIn.f k bt303.1 bt303.2.1 bt303.2.2.1 bt303.2.2.2 bt307.1 bt307.2.1 bt307.2.2.1 bt307.2.2.2).bind fun t311 => (if (t311 != t302) = true then (none) else (some true))))))) = some r := H
 have A3 := Aside0.mk A30
 clear A30
 replace H := Option.bind_eq_some_iff.mp H
 obtain ⟨⟨t298, t299, t300, t301⟩, A40, H⟩ := H
 replace H : ((spec_ValIn.f k t294 t295 t296 t297 t298 t299 t300 t301).bind fun t302 => ((laws_toVal.f a0_0 a0_1 a0_2 a0_3).bind fun bt303 => ((laws_toVal.f a1_0 a1_1 a1_2 a1_3).bind fun bt307 => ((impl_ValIn.f k bt303.1 bt303.2.1 bt303.2.2.1 bt303.2.2.2 bt307.1 bt307.2.1 bt307.2.2.1 bt307.2.2.2).bind fun t311 => (if (t311 != t302) = true then (none) else (some true)))))) = some r := H
 have A4 := Aside0.mk A40
 clear A40
 replace H := Option.bind_eq_some_iff.mp H
 obtain ⟨t302, A50, H⟩ := H
 replace H : ((laws_toVal.f a0_0 a0_1 a0_2 a0_3).bind fun bt303 => ((laws_toVal.f a1_0 a1_1 a1_2 a1_3).bind fun bt307 => ((impl_ValIn.f k bt303.1 bt303.2.1 bt303.2.2.1 bt303.2.2.2 bt307.1 bt307.2.1 bt307.2.2.1 bt307.2.2.2).bind fun t311 => (if (t311 != t302) = true then (none) else (some true))))) = some r := H
 have A5 := Aside0.mk A50
 clear A50
 replace H := Option.bind_eq_some_iff.mp H
 obtain ⟨⟨t303, t304, t305, t306⟩, A60, H⟩ := H
 replace H : ((laws_toVal.f a1_0 a1_1 a1_2 a1_3).bind fun bt307 => ((impl_ValIn.f k t303 t304 t305 t306 bt307.1 bt307.2.1 bt307.2.2.1 bt307.2.2.2).bind fun t311 => (if (t311 != t302) = true then (none) else (some true)))) = some r := H
 have A6 := Aside0.mk A60
 clear A60
 replace H := Option.bind_eq_some_iff.mp H
 obtain ⟨⟨t307, t308, t309, t310⟩, A70, H⟩ := H
 replace H : ((impl_ValIn.f k t303 t304 t305 t306 t307 t308 t309 t310).bind fun t311 => (if (t311 != t302) = true then (none) else (some true))) = some r := H
 have A7 := Aside0.mk A70
 clear A70
 replace H := Option.bind_eq_some_iff.mp H
 obtain ⟨t311, A80, H⟩ := H
 replace H : (if (t311 != t302) = true then (none) else (some true)) = some r := H
 have A8 := Aside0.mk A80
 clear A80
 by_cases c9 : (t311 != t302) = true
 ·rw [if_pos c9] at H
  exact absurd H (by simp)
 ·rw [if_neg c9] at H
  have c9b0 : (t311 != t302) = false := by simpa using c9
  (try (have c9b1 : decide (t311 = t302) = true := by simpa using c9))
  (try (have c9b2 : (t311 == t302) = true := by simpa using c9))
  clear c9
  obtain rfl := Option.some.inj H
  go_enter Try.func4, Try.ntmps4
  try go_wp2_with (first | ((with_reducible refine gate_dst (N := 2) rfl ?_); refine box_event ?hg (N := 2) ?hd (cs := #[.int .i64 a0_0, .int .i64 a0_1, .int .i64 a0_2, .int .i64 a0_3]) (t := 23) ?hr ?_; (case hd => rfl); (case hg => rfl); (case hr => first | (go_simp; done) | (go_simp; rfl)); intro gb292 hg w10 hbox hb; have n0_ := Aside0.mk (below_step (hz HB.out) hb); have n1_ := Aside0.mk (hbox); have n2_ := Aside0.mk ((by rw [hg]; exact (below_size (hz HB.out)) : w.heap.size ≤ gb292)); have n3_ := Aside0.mk ((by rw [hg]; exact (below_size (hz HB.out)) : w.heap.size ≤ gb292)); clear HB; have HB := n0_; have BK292 := n1_; have GW292 := n2_; have GE292 := n3_; clear n0_ n1_ n2_ n3_; clear hb hbox hg) | ((with_reducible refine gate_dst (N := 3) rfl ?_); refine box_event ?hg (N := 3) ?hd (cs := #[.int .i64 a1_0, .int .i64 a1_1, .int .i64 a1_2, .int .i64 a1_3]) (t := 23) ?hr ?_; (case hd => rfl); (case hg => rfl); (case hr => first | (go_simp; done) | (go_simp; rfl)); intro gb293 hg w11 hbox hb; have n0_ := Aside0.mk (blk_below (g := gb292) (o := .cells #[.int .i64 a0_0, .int .i64 a0_1, .int .i64 a0_2, .int .i64 a0_3] 23 (0, 0)) (bz BK292.out) hb); have n1_ := Aside0.mk (below_step (hz1 HB.out GE292.out) hb); have n2_ := Aside0.mk (hbox); have n3_ := Aside0.mk ((by rw [hg]; exact (below_size (hz1 HB.out GE292.out)) : w.heap.size ≤ gb293)); have n4_ := Aside0.mk ((by rw [hg]; exact (below_size (hz1 HB.out GE292.out)) : w.heap.size ≤ gb293)); have n5_ := Aside0.mk ((by rw [hg]; exact Nat.ne_of_lt (blk_lt (g := gb292) (o := .cells #[.int .i64 a0_0, .int .i64 a0_1, .int .i64 a0_2, .int .i64 a0_3] 23 (0, 0)) (bz BK292.out)) : gb292 ≠ gb293)); have n6_ := Aside0.mk ((by rw [hg]; exact Nat.ne_of_gt (blk_lt (g := gb292) (o := .cells #[.int .i64 a0_0, .int .i64 a0_1, .int .i64 a0_2, .int .i64 a0_3] 23 (0, 0)) (bz BK292.out)) : gb293 ≠ gb292)); clear BK292; clear HB; have BK292 := n0_; have HB := n1_; have BK293 := n2_; have GW293 := n3_; have GE293 := n4_; have NB292_293 := n5_; have NB293_292 := n6_; clear n0_ n1_ n2_ n3_ n4_ n5_ n6_; clear hb hbox hg))
  have n0_ := Aside0.mk (blk_drew BK292.out)
  have n1_ := Aside0.mk (blk_drew BK293.out)
  have n2_ := Aside0.mk (below_drew1 HB.out)
  clear BK292
  clear BK293
  clear HB
  have BK292 := n0_
  have BK293 := n1_
  have HB := n2_
  clear n0_ n1_ n2_
  refine start_ (n := 6) (S := fun w' => w'.cell? ⟨gb292, 0, none⟩ = some (.int .i64 a0_0) ∧ w'.cell? ⟨gb292, 1, none⟩ = some (.int .i64 a0_1) ∧ w'.cell? ⟨gb292, 2, none⟩ = some (.int .i64 a0_2) ∧ w'.cell? ⟨gb292, 3, none⟩ = some (.int .i64 a0_3) ∧ w'.cell? ⟨gb293, 0, none⟩ = some (.int .i64 a1_0) ∧ w'.cell? ⟨gb293, 1, none⟩ = some (.int .i64 a1_1) ∧ w'.cell? ⟨gb293, 2, none⟩ = some (.int .i64 a1_2) ∧ w'.cell? ⟨gb293, 3, none⟩ = some (.int .i64 a1_3)) (ds := []) #[false, false, false, false, false, false] (by kernel_rfl) rfl rfl ⟨(blk_cell BK292.out 0).trans rfl, (blk_cell BK292.out 1).trans rfl, (blk_cell BK292.out 2).trans rfl, (blk_cell BK292.out 3).trans rfl, (blk_cell BK293.out 0).trans rfl, (blk_cell BK293.out 1).trans rfl, (blk_cell BK293.out 2).trans rfl, (blk_cell BK293.out 3).trans rfl⟩ (fun hHeld => ?_)
  generalize w11.drew = w12 at BK292 BK293 HB hHeld ⊢
  refine take_ (i := 0) (N := some 7) (v := ?_) (a' := ?_) #[true, false, false, false, false, false] rfl rfl (by kernel_rfl) (fun _ _ _ h => h) (Or.inl ⟨by rfl, ?_⟩) hHeld ?_ ?_
  rotate_left
  ·rintro w' ⟨s0, s1, s2, s3, s4, s5, s6, s7⟩
   go_simp
   with_reducible rfl
  rotate_left
  ·exact pz
  refine take_ (i := 2) (N := some 9) (v := ?_) (a' := ?_) #[true, false, true, false, false, false] rfl rfl (by kernel_rfl) (fun _ _ _ h => h) (Or.inl ⟨by rfl, ?_⟩) hHeld ?_ ?_
  rotate_left
  ·rintro w' ⟨s0, s1, s2, s3, s4, s5, s6, s7⟩
   go_simp
   with_reducible rfl
  rotate_left
  ·exact pz
  refine one_ (i := 1) (N := some 8) #[true, true, true, false, false, false] rfl rfl (by kernel_rfl) (by decide) (fun K hK => ?_)
  refine goes_ Try.func16 (by kernel_rfl) rfl #[.agg #[.int .i64 a0_0, .int .i64 a0_1, .int .i64 a0_2, .int .i64 a0_3]] (by rfl) rfl rfl mz ?_
  with_reducible refine (laws_toVal.calls a0_0 a0_1 a0_2 a0_3 t294 t295 t296 t297 _ A3.out).mono ?_
  rintro e w13 ⟨rfl, hb⟩
  refine ⟨_, rfl, ?_⟩
  have n0_ := Aside0.mk (blk_below (g := gb292) (o := .cells #[.int .i64 a0_0, .int .i64 a0_1, .int .i64 a0_2, .int .i64 a0_3] 23 (0, 0)) (bz BK292.out) hb)
  have n1_ := Aside0.mk (blk_below (g := gb293) (o := .cells #[.int .i64 a1_0, .int .i64 a1_1, .int .i64 a1_2, .int .i64 a1_3] 23 (0, 0)) (bz BK293.out) hb)
  have n2_ := Aside0.mk (below_step (hz2 HB.out GE292.out GE293.out) hb)
  clear BK292
  clear BK293
  clear HB
  have BK292 := n0_
  have BK293 := n1_
  have HB := n2_
  clear n0_ n1_ n2_
  (try clear hb)
  (try clear hb2)
  (try clear hk)
  (try clear hi)
  refine hK.out _ _ ⟨(blk_cell BK292.out 0).trans rfl, (blk_cell BK292.out 1).trans rfl, (blk_cell BK292.out 2).trans rfl, (blk_cell BK292.out 3).trans rfl, (blk_cell BK293.out 0).trans rfl, (blk_cell BK293.out 1).trans rfl, (blk_cell BK293.out 2).trans rfl, (blk_cell BK293.out 3).trans rfl⟩ (fun hHeld => ?_)
  clear hK K
  refine norm_ (a' := ?_) ?_ ?_
  rotate_left
  ·show Act.put _ (some 8) _ = _
   simp only [Act.put, List.setIfInBounds_toArray, List.set_cons_zero, List.set_cons_succ, i64_w, i32_w]
   rfl
  refine one_ (i := 3) (N := some 10) #[true, true, true, true, false, false] rfl rfl (by kernel_rfl) (by decide) (fun K hK => ?_)
  refine goes_ Try.func16 (by kernel_rfl) rfl #[.agg #[.int .i64 a1_0, .int .i64 a1_1, .int .i64 a1_2, .int .i64 a1_3]] (by rfl) rfl rfl mz ?_
  with_reducible refine (laws_toVal.calls a1_0 a1_1 a1_2 a1_3 t298 t299 t300 t301 _ A4.out).mono ?_
  rintro e w14 ⟨rfl, hb⟩
  refine ⟨_, rfl, ?_⟩
  have n0_ := Aside0.mk (blk_below (g := gb292) (o := .cells #[.int .i64 a0_0, .int .i64 a0_1, .int .i64 a0_2, .int .i64 a0_3] 23 (0, 0)) (bz BK292.out) hb)
  have n1_ := Aside0.mk (blk_below (g := gb293) (o := .cells #[.int .i64 a1_0, .int .i64 a1_1, .int .i64 a1_2, .int .i64 a1_3] 23 (0, 0)) (bz BK293.out) hb)
  have n2_ := Aside0.mk (below_step (hz2 HB.out GE292.out GE293.out) hb)
  clear BK292
  clear BK293
  clear HB
  have BK292 := n0_
  have BK293 := n1_
  have HB := n2_
  clear n0_ n1_ n2_
  (try clear hb)
  (try clear hb2)
  (try clear hk)
  (try clear hi)
  refine hK.out _ _ ⟨(blk_cell BK292.out 0).trans rfl, (blk_cell BK292.out 1).trans rfl, (blk_cell BK292.out 2).trans rfl, (blk_cell BK292.out 3).trans rfl, (blk_cell BK293.out 0).trans rfl, (blk_cell BK293.out 1).trans rfl, (blk_cell BK293.out 2).trans rfl, (blk_cell BK293.out 3).trans rfl⟩ (fun hHeld => ?_)
  clear hK K
  refine norm_ (a' := ?_) ?_ ?_
  rotate_left
  ·show Act.put _ (some 10) _ = _
   simp only [Act.put, List.setIfInBounds_toArray, List.set_cons_zero, List.set_cons_succ, i64_w, i32_w]
   rfl
  refine one_ (i := 4) (N := some 11) #[true, true, true, true, true, false] rfl rfl (by kernel_rfl) (by decide) (fun K hK => ?_)
  refine goes_ Try.func18 (by kernel_rfl) rfl #[.agg #[.int .i64 t294, .int .i64 t295, .int .i64 t296, .int .i64 t297], .agg #[.int .i64 t298, .int .i64 t299, .int .i64 t300, .int .i64 t301]] (by rfl) rfl rfl mz ?_
  with_reducible refine (spec_ValIn.calls k t294 t295 t296 t297 t298 t299 t300 t301 t302 _ A5.out).mono ?_
  rintro e w15 ⟨rfl, hb⟩
  refine ⟨_, rfl, ?_⟩
  have n0_ := Aside0.mk (blk_below (g := gb292) (o := .cells #[.int .i64 a0_0, .int .i64 a0_1, .int .i64 a0_2, .int .i64 a0_3] 23 (0, 0)) (bz BK292.out) hb)
  have n1_ := Aside0.mk (blk_below (g := gb293) (o := .cells #[.int .i64 a1_0, .int .i64 a1_1, .int .i64 a1_2, .int .i64 a1_3] 23 (0, 0)) (bz BK293.out) hb)
  have n2_ := Aside0.mk (below_step (hz2 HB.out GE292.out GE293.out) hb)
  clear BK292
  clear BK293
  clear HB
  have BK292 := n0_
  have BK293 := n1_
  have HB := n2_
  clear n0_ n1_ n2_
  (try clear hb)
  (try clear hb2)
  (try clear hk)
  (try clear hi)
  refine hK.out _ _ ⟨(blk_cell BK292.out 0).trans rfl, (blk_cell BK292.out 1).trans rfl, (blk_cell BK292.out 2).trans rfl, (blk_cell BK292.out 3).trans rfl, (blk_cell BK293.out 0).trans rfl, (blk_cell BK293.out 1).trans rfl, (blk_cell BK293.out 2).trans rfl, (blk_cell BK293.out 3).trans rfl⟩ (fun hHeld => ?_)
  clear hK K
  refine norm_ (a' := ?_) ?_ ?_
  rotate_left
  ·show Act.put _ (some 11) _ = _
   simp only [Act.put, List.setIfInBounds_toArray, List.set_cons_zero, List.set_cons_succ, i64_w, i32_w]
   rfl
  refine pure_ (i := 5) (N := some 5) (v := ?_) (a' := ?_) #[true, true, true, true, true, true] rfl rfl (by kernel_rfl) (fun _ _ _ h => h) (Or.inl ⟨by rfl, ?_⟩) ?_ ?_
  rotate_left
  ·intro w'
   go_simp
   with_reducible rfl
  rotate_left
  ·exact pz
  refine done_ (by kernel_rfl) ?_
  try go_wp2
  have n0_ := Aside0.mk (blk_drew BK292.out)
  have n1_ := Aside0.mk (blk_drew BK293.out)
  have n2_ := Aside0.mk (below_drew1 HB.out)
  clear BK292
  clear BK293
  clear HB
  have BK292 := n0_
  have BK293 := n1_
  have HB := n2_
  clear n0_ n1_ n2_
  refine start_ (n := 6) (S := fun w' => w'.cell? ⟨gb292, 0, none⟩ = some (.int .i64 a0_0) ∧ w'.cell? ⟨gb292, 1, none⟩ = some (.int .i64 a0_1) ∧ w'.cell? ⟨gb292, 2, none⟩ = some (.int .i64 a0_2) ∧ w'.cell? ⟨gb292, 3, none⟩ = some (.int .i64 a0_3) ∧ w'.cell? ⟨gb293, 0, none⟩ = some (.int .i64 a1_0) ∧ w'.cell? ⟨gb293, 1, none⟩ = some (.int .i64 a1_1) ∧ w'.cell? ⟨gb293, 2, none⟩ = some (.int .i64 a1_2) ∧ w'.cell? ⟨gb293, 3, none⟩ = some (.int .i64 a1_3)) (ds := []) #[false, false, false, false, false, false] (by kernel_rfl) rfl rfl ⟨(blk_cell BK292.out 0).trans rfl, (blk_cell BK292.out 1).trans rfl, (blk_cell BK292.out 2).trans rfl, (blk_cell BK292.out 3).trans rfl, (blk_cell BK293.out 0).trans rfl, (blk_cell BK293.out 1).trans rfl, (blk_cell BK293.out 2).trans rfl, (blk_cell BK293.out 3).trans rfl⟩ (fun hHeld => ?_)
  generalize w15.drew = w16 at BK292 BK293 HB hHeld ⊢
  refine take_ (i := 0) (N := some 12) (v := ?_) (a' := ?_) #[true, false, false, false, false, false] rfl rfl (by kernel_rfl) (fun _ _ _ h => h) (Or.inl ⟨by rfl, ?_⟩) hHeld ?_ ?_
  rotate_left
  ·rintro w' ⟨s0, s1, s2, s3, s4, s5, s6, s7⟩
   go_simp
   with_reducible rfl
  rotate_left
  ·exact pz
  refine take_ (i := 2) (N := some 14) (v := ?_) (a' := ?_) #[true, false, true, false, false, false] rfl rfl (by kernel_rfl) (fun _ _ _ h => h) (Or.inl ⟨by rfl, ?_⟩) hHeld ?_ ?_
  rotate_left
  ·rintro w' ⟨s0, s1, s2, s3, s4, s5, s6, s7⟩
   go_simp
   with_reducible rfl
  rotate_left
  ·exact pz
  refine one_ (i := 1) (N := some 13) #[true, true, true, false, false, false] rfl rfl (by kernel_rfl) (by decide) (fun K hK => ?_)
  refine goes_ Try.func16 (by kernel_rfl) rfl #[.agg #[.int .i64 a0_0, .int .i64 a0_1, .int .i64 a0_2, .int .i64 a0_3]] (by rfl) rfl rfl mz ?_
  with_reducible refine (laws_toVal.calls a0_0 a0_1 a0_2 a0_3 t303 t304 t305 t306 _ A6.out).mono ?_
  rintro e w17 ⟨rfl, hb⟩
  refine ⟨_, rfl, ?_⟩
  have n0_ := Aside0.mk (blk_below (g := gb292) (o := .cells #[.int .i64 a0_0, .int .i64 a0_1, .int .i64 a0_2, .int .i64 a0_3] 23 (0, 0)) (bz BK292.out) hb)
  have n1_ := Aside0.mk (blk_below (g := gb293) (o := .cells #[.int .i64 a1_0, .int .i64 a1_1, .int .i64 a1_2, .int .i64 a1_3] 23 (0, 0)) (bz BK293.out) hb)
  have n2_ := Aside0.mk (below_step (hz2 HB.out GE292.out GE293.out) hb)
  clear BK292
  clear BK293
  clear HB
  have BK292 := n0_
  have BK293 := n1_
  have HB := n2_
  clear n0_ n1_ n2_
  (try clear hb)
  (try clear hb2)
  (try clear hk)
  (try clear hi)
  refine hK.out _ _ ⟨(blk_cell BK292.out 0).trans rfl, (blk_cell BK292.out 1).trans rfl, (blk_cell BK292.out 2).trans rfl, (blk_cell BK292.out 3).trans rfl, (blk_cell BK293.out 0).trans rfl, (blk_cell BK293.out 1).trans rfl, (blk_cell BK293.out 2).trans rfl, (blk_cell BK293.out 3).trans rfl⟩ (fun hHeld => ?_)
  clear hK K
  refine norm_ (a' := ?_) ?_ ?_
  rotate_left
  ·show Act.put _ (some 13) _ = _
   simp only [Act.put, List.setIfInBounds_toArray, List.set_cons_zero, List.set_cons_succ, i64_w, i32_w]
   rfl
  refine one_ (i := 3) (N := some 15) #[true, true, true, true, false, false] rfl rfl (by kernel_rfl) (by decide) (fun K hK => ?_)
  refine goes_ Try.func16 (by kernel_rfl) rfl #[.agg #[.int .i64 a1_0, .int .i64 a1_1, .int .i64 a1_2, .int .i64 a1_3]] (by rfl) rfl rfl mz ?_
  with_reducible refine (laws_toVal.calls a1_0 a1_1 a1_2 a1_3 t307 t308 t309 t310 _ A7.out).mono ?_
  rintro e w18 ⟨rfl, hb⟩
  refine ⟨_, rfl, ?_⟩
  have n0_ := Aside0.mk (blk_below (g := gb292) (o := .cells #[.int .i64 a0_0, .int .i64 a0_1, .int .i64 a0_2, .int .i64 a0_3] 23 (0, 0)) (bz BK292.out) hb)
  have n1_ := Aside0.mk (blk_below (g := gb293) (o := .cells #[.int .i64 a1_0, .int .i64 a1_1, .int .i64 a1_2, .int .i64 a1_3] 23 (0, 0)) (bz BK293.out) hb)
  have n2_ := Aside0.mk (below_step (hz2 HB.out GE292.out GE293.out) hb)
  clear BK292
  clear BK293
  clear HB
  have BK292 := n0_
  have BK293 := n1_
  have HB := n2_
  clear n0_ n1_ n2_
  (try clear hb)
  (try clear hb2)
  (try clear hk)
  (try clear hi)
  refine hK.out _ _ ⟨(blk_cell BK292.out 0).trans rfl, (blk_cell BK292.out 1).trans rfl, (blk_cell BK292.out 2).trans rfl, (blk_cell BK292.out 3).trans rfl, (blk_cell BK293.out 0).trans rfl, (blk_cell BK293.out 1).trans rfl, (blk_cell BK293.out 2).trans rfl, (blk_cell BK293.out 3).trans rfl⟩ (fun hHeld => ?_)
  clear hK K
  refine norm_ (a' := ?_) ?_ ?_
  rotate_left
  ·show Act.put _ (some 15) _ = _
   simp only [Act.put, List.setIfInBounds_toArray, List.set_cons_zero, List.set_cons_succ, i64_w, i32_w]
   rfl
  refine one_ (i := 4) (N := some 16) #[true, true, true, true, true, false] rfl rfl (by kernel_rfl) (by decide) (fun K hK => ?_)
  refine goes_ Try.func19 (by kernel_rfl) rfl #[.agg #[.int .i64 t303, .int .i64 t304, .int .i64 t305, .int .i64 t306], .agg #[.int .i64 t307, .int .i64 t308, .int .i64 t309, .int .i64 t310]] (by rfl) rfl rfl mz ?_
  with_reducible refine (impl_ValIn.calls k t303 t304 t305 t306 t307 t308 t309 t310 t311 _ A8.out).mono ?_
  rintro e w19 ⟨rfl, hb⟩
  refine ⟨_, rfl, ?_⟩
  have n0_ := Aside0.mk (blk_below (g := gb292) (o := .cells #[.int .i64 a0_0, .int .i64 a0_1, .int .i64 a0_2, .int .i64 a0_3] 23 (0, 0)) (bz BK292.out) hb)
  have n1_ := Aside0.mk (blk_below (g := gb293) (o := .cells #[.int .i64 a1_0, .int .i64 a1_1, .int .i64 a1_2, .int .i64 a1_3] 23 (0, 0)) (bz BK293.out) hb)
  have n2_ := Aside0.mk (below_step (hz2 HB.out GE292.out GE293.out) hb)
  clear BK292
  clear BK293
  clear HB
  have BK292 := n0_
  have BK293 := n1_
  have HB := n2_
  clear n0_ n1_ n2_
  (try clear hb)
  (try clear hb2)
  (try clear hk)
  (try clear hi)
  refine hK.out _ _ ⟨(blk_cell BK292.out 0).trans rfl, (blk_cell BK292.out 1).trans rfl, (blk_cell BK292.out 2).trans rfl, (blk_cell BK292.out 3).trans rfl, (blk_cell BK293.out 0).trans rfl, (blk_cell BK293.out 1).trans rfl, (blk_cell BK293.out 2).trans rfl, (blk_cell BK293.out 3).trans rfl⟩ (fun hHeld => ?_)
  clear hK K
  refine norm_ (a' := ?_) ?_ ?_
  rotate_left
  ·show Act.put _ (some 16) _ = _
   simp only [Act.put, List.setIfInBounds_toArray, List.set_cons_zero, List.set_cons_succ, i64_w, i32_w]
   rfl
  refine pure_ (i := 5) (N := some 6) (v := ?_) (a' := ?_) #[true, true, true, true, true, true] rfl rfl (by kernel_rfl) (fun _ _ _ h => h) (Or.inl ⟨by rfl, ?_⟩) ?_ ?_
  rotate_left
  ·intro w'
   go_simp
   with_reducible rfl
  rotate_left
  ·exact pz
  refine done_ (by kernel_rfl) ?_
  try go_wp2
  go_ret
  exact ⟨by first | rfl | (simp [errW_none, errW_some] <;> rfl) | (simp [*, errW_none, errW_some] <;> rfl), hz2 HB.out GE292.out GE293.out⟩

end Go.Proofs.Ytnmccgjdnceheaa.PFnExactValIn
