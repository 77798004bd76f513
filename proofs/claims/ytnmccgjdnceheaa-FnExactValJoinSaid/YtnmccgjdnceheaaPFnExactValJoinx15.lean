/- Written by this session's own driver (wip/dprint.py): the functions that the law FnExactValJoin reaches, as Lean functions, each with its contract. -/
import Derived.Test.YtnmccgjdnceheaaPFnExactValJoinx0
import Derived.Test.YtnmccgjdnceheaaPFnExactValJoinx3
import Derived.Test.YtnmccgjdnceheaaPFnExactValJoinx9
import Derived.Test.YtnmccgjdnceheaaPFnExactValJoinx14
import Derived.Test.YtnmccgjdnceheaaSv
namespace Go.Proofs.Ytnmccgjdnceheaa.PFnExactValJoin
open Go.RowKit Go.Proofs.YtnmccgjdnceheaaV.PrintWords Go.Proofs.YtnmccgjdnceheaaV.PrintLast Go.Proofs.YtnmccgjdnceheaaV.PrintMore Go.Proofs.YtnmccgjdnceheaaSv
attribute [local go_sem] max2_int min2_int max_two min_two max_three min_three max_four min_four   -- for this text's walks alone
set_option linter.unusedVariables false
set_option linter.unusedSimpArgs false

/-! ### laws_FnExactValJoin: function 5 -/
def laws_FnExactValJoin.f (k : Nat) (a0_0 : Int) (a0_1 : Int) (a0_2 : Int) (a0_3 : Int) (a1_0 : Int) (a1_1 : Int) (a1_2 : Int) (a1_3 : Int) : Option (Bool) := (laws_toVal.f a0_0 a0_1 a0_2 a0_3).bind fun bt357 => ((laws_toVal.f a1_0 a1_1 a1_2 a1_3).bind fun bt361 => ((spec_ValJoin.f k bt357.1 bt357.2.1 bt357.2.2.1 bt357.2.2.2 bt361.1 bt361.2.1 bt361.2.2.1 bt361.2.2.2).bind fun bt365 => ((laws_toVal.f a0_0 a0_1 a0_2 a0_3).bind fun bt370 => ((laws_toVal.f a1_0 a1_1 a1_2 a1_3).bind fun bt374 => ((impl_ValJoin.f k bt370.1 bt370.2.1 bt370.2.2.1 bt370.2.2.2 bt374.1 bt374.2.1 bt374.2.2.1 bt374.2.2.2).bind fun bt378 => ((laws_eqVal.f bt378.1 bt378.2.1 bt378.2.2.1 bt378.2.2.2 bt365.1 bt365.2.1 bt365.2.2.1 bt365.2.2.2).bind fun t383 => (if t383 = true then (some true) else (none))))))))
theorem laws_FnExactValJoin.mono : ∀ a0 a1 a2 a3 a4 a5 a6 a7 k, LeO (laws_FnExactValJoin.f k a0 a1 a2 a3 a4 a5 a6 a7) (laws_FnExactValJoin.f (k + 1) a0 a1 a2 a3 a4 a5 a6 a7) := by
 intro a0 a1 a2 a3 a4 a5 a6 a7 k
 unfold laws_FnExactValJoin.f
 repeat' first
   | (with_reducible exact impl_ValJoin.mono _ _ _ _ _ _ _ _ _)
   | (with_reducible exact spec_ValJoin.mono _ _ _ _ _ _ _ _ _)
   | (with_reducible exact LeO.refl _)
   | (with_reducible exact LeO.none _)
   | (with_reducible refine LeO.ite ?_ ?_)
   | (with_reducible refine LeO.bind ?_ (fun _ => ?_))
   | exact impl_ValJoin.mono _ _ _ _ _ _ _ _ _
   | exact spec_ValJoin.mono _ _ _ _ _ _ _ _ _
   | exact LeO.none _
   | refine LeO.ite ?_ ?_
   | refine LeO.bind ?_ (fun _ => ?_)
set_option maxHeartbeats 8000000 in
set_option maxRecDepth 100000 in
theorem laws_FnExactValJoin.calls (k : Nat) (a0_0 : Int) (a0_1 : Int) (a0_2 : Int) (a0_3 : Int) (a1_0 : Int) (a1_1 : Int) (a1_2 : Int) (a1_3 : Int) (r : Bool) (w : World) (h : laws_FnExactValJoin.f k a0_0 a0_1 a0_2 a0_3 a1_0 a1_1 a1_2 a1_3 = some r) :
  Calls Try.prog 5 #[.agg #[.int .i64 a0_0, .int .i64 a0_1, .int .i64 a0_2, .int .i64 a0_3], .agg #[.int .i64 a1_0, .int .i64 a1_1, .int .i64 a1_2, .int .i64 a1_3]] w fun e w' => e = .returned (.bool r) ∧ Below w.heap.size w w' := by
 have hu23 := Try.underlying23
 have hu25 := Try.underlying25
 have HB := Aside0.mk (Below.refl w.heap.size w)
 have H : ((laws_toVal.f a0_0 a0_1 a0_2 a0_3).bind fun bt357 => ((laws_toVal.f a1_0 a1_1 a1_2 a1_3).bind fun bt361 => ((spec_ValJoin.f k bt357.1 bt357.2.1 bt357.2.2.1 bt357.2.2.2 bt361.1 bt361.2.1 bt361.2.2.1 bt361.2.2.2).bind fun bt365 => ((laws_toVal.f a0_0 a0_1 a0_2 a0_3).bind fun bt370 => ((laws_toVal.f a1_0 a1_1 a1_2 a1_3).bind fun bt374 => ((impl_ValJoin.f k bt370.1 bt370.2.1 bt370.2.2.1 bt370.2.2.2 bt374.1 bt374.2.1 bt374.2.2.1 bt374.2.2.2).bind fun bt378 => ((laws_eqVal.f bt378.1 bt378.2.1 bt378.2.2.1 bt378.2.2.2 bt365.1 bt365.2.1 bt365.2.2.1 bt365.2.2.2).bind fun t383 => (if t383 = true then (some true) else (none))))))))) = some r := h
 clear h
 replace H := Option.bind_eq_some_iff.mp H
 obtain ⟨⟨t357, t358, t359, t360⟩, A30, H⟩ := H
 replace H : ((laws_toVal.f a1_0 a1_1 a1_2 a1_3).bind fun bt361 => ((spec_ValJoin.f k t357 t358 t359 t360 bt361.1 bt361.2.1 bt361.2.2.1 bt361.2.2.2).bind fun bt365 => ((laws_toVal.f a0_0 a0_1 a0_2 a0_3).bind fun bt370 => ((laws_toVal.f a1_0 a1_1 a1_2 a1_3).bind fun bt374 => ((impl_ValJoin.f k bt370.1 bt370.2.1 bt370.2.2.1 bt370.2.2.2 bt374.1 bt374.2.1 bt374.2.2.1 bt374.2.2.2).bind fun bt378 => ((laws_eqVal.f bt378.1 bt378.2.1 bt378.2.2.1 bt378.2.2.2 bt365.1 bt365.2.1 bt365.2.2.1 bt365.2.2.2).bind fun t383 => (if t383 = true then (some true) else (none)))))))) = some r := H
 have A3 := Aside0.mk A30
 clear A30
 replace H := Option.bind_eq_some_iff.mp H
 obtain ⟨⟨t361, t362, t363, t364⟩, A40, H⟩ := H
 replace H : ((spec_ValJoin.f k t357 t358 t359 t360 t361 t362 t363 t364).bind fun bt365 => ((laws_toVal.f a0_0 a0_1 a0_2 a0_3).bind fun bt370 => ((laws_toVal.f a1_0 a1_1 a1_2 a1_3).bind fun bt374 => ((impl_ValJoin.f k bt370.1 bt370.2.1 bt370.2.2.1 bt370.2.2.2 bt374.1 bt374.2.1 bt374.2.2.1 bt374.2.2.2).bind fun bt378 => ((laws_eqVal.f bt378.1 bt378.2.1 bt378.2.2.1 bt378.2.2.2 bt365.1 bt365.2.1 bt365.2.2.1 bt365.2.2.2).bind fun t383 => (if t383 = true then (some true) else (none))))))) = some r := H
 have A4 := Aside0.mk A40
 clear A40
 replace H := Option.bind_eq_some_iff.mp H
 obtain ⟨⟨t365, t366, t367, t368⟩, A50, H⟩ := H
 replace H : ((laws_toVal.f a0_0 a0_1 a0_2 a0_3).bind fun bt370 => ((laws_toVal.f a1_0 a1_1 a1_2 a1_3).bind fun bt374 => ((impl_ValJoin.f k bt370.1 bt370.2.1 bt370.2.2.1 bt370.2.2.2 bt374.1 bt374.2.1 bt374.2.2.1 bt374.2.2.2).bind fun bt378 => ((laws_eqVal.f bt378.1 bt378.2.1 bt378.2.2.1 bt378.2.2.2 t365 t366 t367 t368).bind fun t383 => (if t383 = true then (some true) else (none)))))) = some r := H
 have A5 := Aside0.mk A50
 clear A50
 replace H := Option.bind_eq_some_iff.mp H
 obtain ⟨⟨t370, t371, t372, t373⟩, A60, H⟩ := H
 replace H : ((laws_toVal.f a1_0 a1_1 a1_2 a1_3).bind fun bt374 => ((impl_ValJoin.f k t370 t371 t372 t373 bt374.1 bt374.2.1 bt374.2.2.1 bt374.2.2.2).bind fun bt378 => ((laws_eqVal.f bt378.1 bt378.2.1 bt378.2.2.1 bt378.2.2.2 t365 t366 t367 t368).bind fun t383 => (if t383 = true then (some true) else (none))))) = some r := H
 have A6 := Aside0.mk A60
 clear A60
 replace H := Option.bind_eq_some_iff.mp H
 obtain ⟨⟨t374, t375, t376, t377⟩, A70, H⟩ := H
 replace H : ((impl_ValJoin.f k t370 t371 t372 t373 t374 t375 t376 t377).bind fun bt378 => ((laws_eqVal.f bt378.1 bt378.2.1 bt378.2.2.1 bt378.2.2.2 t365 t366 t367 t368).bind fun t383 => (if t383 = true then (some true) else (none)))) = some r := H
 have A7 := Aside0.mk A70
 clear A70
 replace H := Option.bind_eq_some_iff.mp H
 obtain ⟨⟨t378, t379, t380, t381⟩, A80, H⟩ := H
 replace H : ((laws_eqVal.f t378 t379 t380 t381 t365 t366 t367 t368).bind fun t383 => (if t383 = true then (some true) else (none))) = some r := H
 have A8 := Aside0.mk A80
 clear A80
 replace H := Option.bind_eq_some_iff.mp H
 obtain ⟨t383, A90, H⟩ := H
 replace H : (if t383 = true then (some true) else (none)) = some r := H
 have A9 := Aside0.mk A90
 clear A90
 by_cases c10 : t383 = true
 ·subst c10
  have H1 : (some true) = some r := by rw [if_pos rfl] at H; exact H
  clear H
  have H := H1
  clear H1
  obtain rfl := Option.some.inj H
  go_enter Try.func5, Try.ntmps5
  try go_wp2_with (first | ((with_reducible refine gate_dst (N := 2) rfl ?_); refine box_event ?hg (N := 2) ?hd (cs := #[.int .i64 a0_0, .int .i64 a0_1, .int .i64 a0_2, .int .i64 a0_3]) (t := 23) ?hr ?_; (case hd => rfl); (case hg => rfl); (case hr => first | (go_simp; done) | (go_simp; rfl)); intro gb355 hg w11 hbox hb; have n0_ := Aside0.mk (below_step (hz HB.out) hb); have n1_ := Aside0.mk (hbox); have n2_ := Aside0.mk ((by rw [hg]; exact (below_size (hz HB.out)) : w.heap.size ≤ gb355)); have n3_ := Aside0.mk ((by rw [hg]; exact (below_size (hz HB.out)) : w.heap.size ≤ gb355)); clear HB; have HB := n0_; have BK355 := n1_; have GW355 := n2_; have GE355 := n3_; clear n0_ n1_ n2_ n3_; clear hb hbox hg) | ((with_reducible refine gate_dst (N := 3) rfl ?_); refine box_event ?hg (N := 3) ?hd (cs := #[.int .i64 a1_0, .int .i64 a1_1, .int .i64 a1_2, .int .i64 a1_3]) (t := 23) ?hr ?_; (case hd => rfl); (case hg => rfl); (case hr => first | (go_simp; done) | (go_simp; rfl)); intro gb356 hg w12 hbox hb; have n0_ := Aside0.mk (blk_below (g := gb355) (o := b4 a0_0 a0_1 a0_2 a0_3 23) (bz BK355.out) hb); have n1_ := Aside0.mk (below_step (hz1 HB.out GE355.out) hb); have n2_ := Aside0.mk (hbox); have n3_ := Aside0.mk ((by rw [hg]; exact (below_size (hz1 HB.out GE355.out)) : w.heap.size ≤ gb356)); have n4_ := Aside0.mk ((by rw [hg]; exact (below_size (hz1 HB.out GE355.out)) : w.heap.size ≤ gb356)); have n5_ := Aside0.mk ((by rw [hg]; exact Nat.ne_of_lt (blk_lt (g := gb355) (o := b4 a0_0 a0_1 a0_2 a0_3 23) (bz BK355.out)) : gb355 ≠ gb356)); have n6_ := Aside0.mk ((by rw [hg]; exact Nat.ne_of_gt (blk_lt (g := gb355) (o := b4 a0_0 a0_1 a0_2 a0_3 23) (bz BK355.out)) : gb356 ≠ gb355)); clear BK355; clear HB; have BK355 := n0_; have HB := n1_; have BK356 := n2_; have GW356 := n3_; have GE356 := n4_; have NB355_356 := n5_; have NB356_355 := n6_; clear n0_ n1_ n2_ n3_ n4_ n5_ n6_; clear hb hbox hg))
  have n0_ := Aside0.mk (blk_drew BK355.out)
  have n1_ := Aside0.mk (blk_drew BK356.out)
  have n2_ := Aside0.mk (below_drew1 HB.out)
  clear BK355
  clear BK356
  clear HB
  have BK355 := n0_
  have BK356 := n1_
  have HB := n2_
  clear n0_ n1_ n2_
  refine start_ (n := 7) (S := fun w' => w'.cell? ⟨gb355, 0, none⟩ = some (.int .i64 a0_0) ∧ w'.cell? ⟨gb355, 1, none⟩ = some (.int .i64 a0_1) ∧ w'.cell? ⟨gb355, 2, none⟩ = some (.int .i64 a0_2) ∧ w'.cell? ⟨gb355, 3, none⟩ = some (.int .i64 a0_3) ∧ w'.cell? ⟨gb356, 0, none⟩ = some (.int .i64 a1_0) ∧ w'.cell? ⟨gb356, 1, none⟩ = some (.int .i64 a1_1) ∧ w'.cell? ⟨gb356, 2, none⟩ = some (.int .i64 a1_2) ∧ w'.cell? ⟨gb356, 3, none⟩ = some (.int .i64 a1_3)) (ds := []) #[F, F, F, F, F, F, F] (by kernel_rfl) rfl rfl ⟨bc BK355 0, bc BK355 1, bc BK355 2, bc BK355 3, bc BK356 0, bc BK356 1, bc BK356 2, bc BK356 3⟩ (fun hHeld => ?_)
  generalize w12.drew = w13 at BK355 BK356 HB hHeld ⊢
  refine take_ (i := 0) (N := some 7) (v := ?_) (a' := ?_) #[T, F, F, F, F, F, F] rfl rfl (by kernel_rfl) (fun _ _ _ h => h) (Or.inl ⟨by rfl, ?_⟩) hHeld ?_ ?_
  rotate_left
  ·rintro w' ⟨s0, s1, s2, s3, s4, s5, s6, s7⟩
   go_simp
   with_reducible rfl
  rotate_left
  ·exact pz
  refine take_ (i := 2) (N := some 9) (v := ?_) (a' := ?_) #[T, F, T, F, F, F, F] rfl rfl (by kernel_rfl) (fun _ _ _ h => h) (Or.inl ⟨by rfl, ?_⟩) hHeld ?_ ?_
  rotate_left
  ·rintro w' ⟨s0, s1, s2, s3, s4, s5, s6, s7⟩
   go_simp
   with_reducible rfl
  rotate_left
  ·exact pz
  refine join_ (σ := Nat) 1 #[T, T, T, T, T, T, F] (fun s_ => [(8, .agg #[.int .i64 t357, .int .i64 t358, .int .i64 t359, .int .i64 t360]), (10, .agg #[.int .i64 t361, .int .i64 t362, .int .i64 t363, .int .i64 t364]), (11, .agg #[.int .i64 t365, .int .i64 t366, .int .i64 t367, .int .i64 t368]), (5, .pointer (some ⟨s_, 0, none⟩))]) (fun s_ w' => (w'.cell? ⟨gb355, 0, none⟩ = some (.int .i64 a0_0) ∧ w'.cell? ⟨gb355, 1, none⟩ = some (.int .i64 a0_1) ∧ w'.cell? ⟨gb355, 2, none⟩ = some (.int .i64 a0_2) ∧ w'.cell? ⟨gb355, 3, none⟩ = some (.int .i64 a0_3) ∧ w'.cell? ⟨gb356, 0, none⟩ = some (.int .i64 a1_0) ∧ w'.cell? ⟨gb356, 1, none⟩ = some (.int .i64 a1_1) ∧ w'.cell? ⟨gb356, 2, none⟩ = some (.int .i64 a1_2) ∧ w'.cell? ⟨gb356, 3, none⟩ = some (.int .i64 a1_3)) ∧ (w'.heap[gb355]? = some (.cells #[.int .i64 a0_0, .int .i64 a0_1, .int .i64 a0_2, .int .i64 a0_3] 23 (0, 0))) ∧ (w'.heap[gb356]? = some (.cells #[.int .i64 a1_0, .int .i64 a1_1, .int .i64 a1_2, .int .i64 a1_3] 23 (0, 0))) ∧ (w'.heap[s_]? = some (.cells #[.int .i64 0, .int .i64 0, .int .i64 0, .int .i64 0] 25 (0, 0))) ∧ (w.heap.size ≤ s_) ∧ (w.heap.size ≤ s_) ∧ (gb355 ≠ s_) ∧ (s_ ≠ gb355) ∧ (gb356 ≠ s_) ∧ (s_ ≠ gb356) ∧ (Below w.heap.size w w')) ?_ ?_
  rotate_left
  ·intro hCont
   refine two_ (i := 1) (j := 5) (Ni := some 8) (Nj := some 5) #[T, T, T, F, F, F, F] #[T, F, T, F, F, T, F] rfl rfl rfl rfl (by kernel_rfl) (by decide) (by decide) (fun K hK => ?_) (fun K hK => ?_)
   ·skip
    refine goes_ Try.func16 (by kernel_rfl) rfl #[.agg #[.int .i64 a0_0, .int .i64 a0_1, .int .i64 a0_2, .int .i64 a0_3]] (by rfl) rfl rfl mz ?_
    with_reducible refine (laws_toVal.calls a0_0 a0_1 a0_2 a0_3 t357 t358 t359 t360 _ A3.out).mono ?_
    rintro e w14 ⟨rfl, hb⟩
    refine ⟨_, rfl, ?_⟩
    have n0_ := Aside0.mk (blk_below (g := gb355) (o := b4 a0_0 a0_1 a0_2 a0_3 23) (bz BK355.out) hb)
    have n1_ := Aside0.mk (blk_below (g := gb356) (o := b4 a1_0 a1_1 a1_2 a1_3 23) (bz BK356.out) hb)
    have n2_ := Aside0.mk (below_step (hz2 HB.out GE355.out GE356.out) hb)
    clear BK355
    clear BK356
    clear HB
    have BK355 := n0_
    have BK356 := n1_
    have HB := n2_
    clear n0_ n1_ n2_
    (try clear hb)
    (try clear hb2)
    (try clear hk)
    (try clear hi)
    refine hK.out _ _ ⟨bc BK355 0, bc BK355 1, bc BK355 2, bc BK355 3, bc BK356 0, bc BK356 1, bc BK356 2, bc BK356 3⟩ (fun hHeld => ?_)
    clear hK K
    refine norm_ (a' := ?_) ?_ ?_
    rotate_left
    ·show Act.put _ (some 8) _ = _
     simp only [Act.put, List.setIfInBounds_toArray, List.set_cons_zero, List.set_cons_succ, i64_w, i32_w]
     rfl
    refine two_ (i := 3) (j := 5) (Ni := some 10) (Nj := some 5) #[T, T, T, T, F, F, F] #[T, T, T, F, F, T, F] rfl rfl rfl rfl (by kernel_rfl) (by decide) (by decide) (fun K hK => ?_) (fun K hK => ?_)
    ·skip
     refine goes_ Try.func16 (by kernel_rfl) rfl #[.agg #[.int .i64 a1_0, .int .i64 a1_1, .int .i64 a1_2, .int .i64 a1_3]] (by rfl) rfl rfl mz ?_
     with_reducible refine (laws_toVal.calls a1_0 a1_1 a1_2 a1_3 t361 t362 t363 t364 _ A4.out).mono ?_
     rintro e w15 ⟨rfl, hb⟩
     refine ⟨_, rfl, ?_⟩
     have n0_ := Aside0.mk (blk_below (g := gb355) (o := b4 a0_0 a0_1 a0_2 a0_3 23) (bz BK355.out) hb)
     have n1_ := Aside0.mk (blk_below (g := gb356) (o := b4 a1_0 a1_1 a1_2 a1_3 23) (bz BK356.out) hb)
     have n2_ := Aside0.mk (below_step (hz2 HB.out GE355.out GE356.out) hb)
     clear BK355
     clear BK356
     clear HB
     have BK355 := n0_
     have BK356 := n1_
     have HB := n2_
     clear n0_ n1_ n2_
     (try clear hb)
     (try clear hb2)
     (try clear hk)
     (try clear hi)
     refine hK.out _ _ ⟨bc BK355 0, bc BK355 1, bc BK355 2, bc BK355 3, bc BK356 0, bc BK356 1, bc BK356 2, bc BK356 3⟩ (fun hHeld => ?_)
     clear hK K
     refine norm_ (a' := ?_) ?_ ?_
     rotate_left
     ·show Act.put _ (some 10) _ = _
      simp only [Act.put, List.setIfInBounds_toArray, List.set_cons_zero, List.set_cons_succ, i64_w, i32_w]
      rfl
     refine two_ (i := 4) (j := 5) (Ni := some 11) (Nj := some 5) #[T, T, T, T, T, F, F] #[T, T, T, T, F, T, F] rfl rfl rfl rfl (by kernel_rfl) (by decide) (by decide) (fun K hK => ?_) (fun K hK => ?_)
     ·skip
      refine goes_ Try.func20 (by kernel_rfl) rfl #[.agg #[.int .i64 t357, .int .i64 t358, .int .i64 t359, .int .i64 t360], .agg #[.int .i64 t361, .int .i64 t362, .int .i64 t363, .int .i64 t364]] (by rfl) rfl rfl mz ?_
      with_reducible refine (spec_ValJoin.calls k t357 t358 t359 t360 t361 t362 t363 t364 t365 t366 t367 t368 _ A5.out).mono ?_
      rintro e w16 ⟨rfl, hb⟩
      refine ⟨_, rfl, ?_⟩
      have n0_ := Aside0.mk (blk_below (g := gb355) (o := b4 a0_0 a0_1 a0_2 a0_3 23) (bz BK355.out) hb)
      have n1_ := Aside0.mk (blk_below (g := gb356) (o := b4 a1_0 a1_1 a1_2 a1_3 23) (bz BK356.out) hb)
      have n2_ := Aside0.mk (below_step (hz2 HB.out GE355.out GE356.out) hb)
      clear BK355
      clear BK356
      clear HB
      have BK355 := n0_
      have BK356 := n1_
      have HB := n2_
      clear n0_ n1_ n2_
      (try clear hb)
      (try clear hb2)
      (try clear hk)
      (try clear hi)
      refine hK.out _ _ ⟨bc BK355 0, bc BK355 1, bc BK355 2, bc BK355 3, bc BK356 0, bc BK356 1, bc BK356 2, bc BK356 3⟩ (fun hHeld => ?_)
      clear hK K
      refine norm_ (a' := ?_) ?_ ?_
      rotate_left
      ·show Act.put _ (some 11) _ = _
       simp only [Act.put, List.setIfInBounds_toArray, List.set_cons_zero, List.set_cons_succ, i64_w, i32_w]
       rfl
      refine one_ (i := 5) (N := some 5) #[T, T, T, T, T, T, F] rfl rfl (by kernel_rfl) (by decide) (fun K hK => ?_)
      refine box_step ?hg (N := 5) ?hd (cs := #[.int .i64 0, .int .i64 0, .int .i64 0, .int .i64 0]) (t := 25) ?hr ?_; (case hd => rfl); (case hg => rfl); (case hr => first | (go_simp; done) | (go_simp; rfl))
      intro gb369 hg w17 hbox hb
      have n0_ := Aside0.mk (blk_below (g := gb355) (o := b4 a0_0 a0_1 a0_2 a0_3 23) (bz BK355.out) hb)
      have n1_ := Aside0.mk (blk_below (g := gb356) (o := b4 a1_0 a1_1 a1_2 a1_3 23) (bz BK356.out) hb)
      have n2_ := Aside0.mk (below_step (hz2 HB.out GE355.out GE356.out) hb)
      have n3_ := Aside0.mk (hbox)
      have n4_ := Aside0.mk ((by rw [hg]; exact (below_size (hz2 HB.out GE355.out GE356.out)) : w.heap.size ≤ gb369))
      have n5_ := Aside0.mk ((by rw [hg]; exact (below_size (hz2 HB.out GE355.out GE356.out)) : w.heap.size ≤ gb369))
      have n6_ := Aside0.mk ((by rw [hg]; exact Nat.ne_of_lt (blk_lt (g := gb355) (o := b4 a0_0 a0_1 a0_2 a0_3 23) (bz BK355.out)) : gb355 ≠ gb369))
      have n7_ := Aside0.mk ((by rw [hg]; exact Nat.ne_of_gt (blk_lt (g := gb355) (o := b4 a0_0 a0_1 a0_2 a0_3 23) (bz BK355.out)) : gb369 ≠ gb355))
      have n8_ := Aside0.mk ((by rw [hg]; exact Nat.ne_of_lt (blk_lt (g := gb356) (o := b4 a1_0 a1_1 a1_2 a1_3 23) (bz BK356.out)) : gb356 ≠ gb369))
      have n9_ := Aside0.mk ((by rw [hg]; exact Nat.ne_of_gt (blk_lt (g := gb356) (o := b4 a1_0 a1_1 a1_2 a1_3 23) (bz BK356.out)) : gb369 ≠ gb356))
      clear BK355
      clear BK356
      clear HB
      have BK355 := n0_
      have BK356 := n1_
      have HB := n2_
      have BK369 := n3_
      have GW369 := n4_
      have GE369 := n5_
      have NB355_369 := n6_
      have NB369_355 := n7_
      have NB356_369 := n8_
      have NB369_356 := n9_
      clear n0_ n1_ n2_ n3_ n4_ n5_ n6_ n7_ n8_ n9_
      clear hb hbox hg
      refine hK.out _ _ ⟨bc BK355 0, bc BK355 1, bc BK355 2, bc BK355 3, bc BK356 0, bc BK356 1, bc BK356 2, bc BK356 3⟩ (fun hHeld => ?_)
      clear hK K
      refine norm_ (a' := ?_) ?_ ?_
      rotate_left
      ·show Act.put _ (some 5) _ = _
       simp only [Act.put, List.setIfInBounds_toArray, List.set_cons_zero, List.set_cons_succ, i64_w, i32_w]
       rfl
      exact norm_ (by simp only [putAll, Act.put, List.setIfInBounds_toArray, List.set_cons_zero, List.set_cons_succ]) (hCont (gb369) _ ⟨hHeld, (bz BK355.out), (bz BK356.out), (bz BK369.out), GW369.out, GE369.out, NB355_369.out, NB369_355.out, NB356_369.out, NB369_356.out, (hz3 HB.out GE355.out GE356.out GE369.out)⟩)
     ·skip
      refine box_step ?hg (N := 5) ?hd (cs := #[.int .i64 0, .int .i64 0, .int .i64 0, .int .i64 0]) (t := 25) ?hr ?_; (case hd => rfl); (case hg => rfl); (case hr => first | (go_simp; done) | (go_simp; rfl))
      intro gb369 hg w16 hbox hb
      have n0_ := Aside0.mk (blk_below (g := gb355) (o := b4 a0_0 a0_1 a0_2 a0_3 23) (bz BK355.out) hb)
      have n1_ := Aside0.mk (blk_below (g := gb356) (o := b4 a1_0 a1_1 a1_2 a1_3 23) (bz BK356.out) hb)
      have n2_ := Aside0.mk (below_step (hz2 HB.out GE355.out GE356.out) hb)
      have n3_ := Aside0.mk (hbox)
      have n4_ := Aside0.mk ((by rw [hg]; exact (below_size (hz2 HB.out GE355.out GE356.out)) : w.heap.size ≤ gb369))
      have n5_ := Aside0.mk ((by rw [hg]; exact (below_size (hz2 HB.out GE355.out GE356.out)) : w.heap.size ≤ gb369))
      have n6_ := Aside0.mk ((by rw [hg]; exact Nat.ne_of_lt (blk_lt (g := gb355) (o := b4 a0_0 a0_1 a0_2 a0_3 23) (bz BK355.out)) : gb355 ≠ gb369))
      have n7_ := Aside0.mk ((by rw [hg]; exact Nat.ne_of_gt (blk_lt (g := gb355) (o := b4 a0_0 a0_1 a0_2 a0_3 23) (bz BK355.out)) : gb369 ≠ gb355))
      have n8_ := Aside0.mk ((by rw [hg]; exact Nat.ne_of_lt (blk_lt (g := gb356) (o := b4 a1_0 a1_1 a1_2 a1_3 23) (bz BK356.out)) : gb356 ≠ gb369))
      have n9_ := Aside0.mk ((by rw [hg]; exact Nat.ne_of_gt (blk_lt (g := gb356) (o := b4 a1_0 a1_1 a1_2 a1_3 23) (bz BK356.out)) : gb369 ≠ gb356))
      clear BK355
      clear BK356
      clear HB
      have BK355 := n0_
      have BK356 := n1_
      have HB := n2_
      have BK369 := n3_
      have GW369 := n4_
      have GE369 := n5_
      have NB355_369 := n6_
      have NB369_355 := n7_
      have NB356_369 := n8_
      have NB369_356 := n9_
      clear n0_ n1_ n2_ n3_ n4_ n5_ n6_ n7_ n8_ n9_
      clear hb hbox hg
      refine hK.out _ _ ⟨bc BK355 0, bc BK355 1, bc BK355 2, bc BK355 3, bc BK356 0, bc BK356 1, bc BK356 2, bc BK356 3⟩ (fun hHeld => ?_)
      clear hK K
      refine norm_ (a' := ?_) ?_ ?_
      rotate_left
      ·show Act.put _ (some 5) _ = _
       simp only [Act.put, List.setIfInBounds_toArray, List.set_cons_zero, List.set_cons_succ, i64_w, i32_w]
       rfl
      refine one_ (i := 4) (N := some 11) #[T, T, T, T, T, T, F] rfl rfl (by kernel_rfl) (by decide) (fun K hK => ?_)
      refine goes_ Try.func20 (by kernel_rfl) rfl #[.agg #[.int .i64 t357, .int .i64 t358, .int .i64 t359, .int .i64 t360], .agg #[.int .i64 t361, .int .i64 t362, .int .i64 t363, .int .i64 t364]] (by rfl) rfl rfl mz ?_
      with_reducible refine (spec_ValJoin.calls k t357 t358 t359 t360 t361 t362 t363 t364 t365 t366 t367 t368 _ A5.out).mono ?_
      rintro e w17 ⟨rfl, hb⟩
      refine ⟨_, rfl, ?_⟩
      have n0_ := Aside0.mk (blk_below (g := gb355) (o := b4 a0_0 a0_1 a0_2 a0_3 23) (bz BK355.out) hb)
      have n1_ := Aside0.mk (blk_below (g := gb356) (o := b4 a1_0 a1_1 a1_2 a1_3 23) (bz BK356.out) hb)
      have n2_ := Aside0.mk (blk_below (g := gb369) (o := b4 0 0 0 0 25) (bz BK369.out) hb)
      have n3_ := Aside0.mk (below_step (hz3 HB.out GE355.out GE356.out GE369.out) hb)
      clear BK355
      clear BK356
      clear BK369
      clear HB
      have BK355 := n0_
      have BK356 := n1_
      have BK369 := n2_
      have HB := n3_
      clear n0_ n1_ n2_ n3_
      (try clear hb)
      (try clear hb2)
      (try clear hk)
      (try clear hi)
      refine hK.out _ _ ⟨bc BK355 0, bc BK355 1, bc BK355 2, bc BK355 3, bc BK356 0, bc BK356 1, bc BK356 2, bc BK356 3⟩ (fun hHeld => ?_)
      clear hK K
      refine norm_ (a' := ?_) ?_ ?_
      rotate_left
      ·show Act.put _ (some 11) _ = _
       simp only [Act.put, List.setIfInBounds_toArray, List.set_cons_zero, List.set_cons_succ, i64_w, i32_w]
       rfl
      exact norm_ (by simp only [putAll, Act.put, List.setIfInBounds_toArray, List.set_cons_zero, List.set_cons_succ]) (hCont (gb369) _ ⟨hHeld, (bz BK355.out), (bz BK356.out), (bz BK369.out), GW369.out, GE369.out, NB355_369.out, NB369_355.out, NB356_369.out, NB369_356.out, (hz3 HB.out GE355.out GE356.out GE369.out)⟩)
    ·skip
     refine box_step ?hg (N := 5) ?hd (cs := #[.int .i64 0, .int .i64 0, .int .i64 0, .int .i64 0]) (t := 25) ?hr ?_; (case hd => rfl); (case hg => rfl); (case hr => first | (go_simp; done) | (go_simp; rfl))
     intro gb369 hg w15 hbox hb
     have n0_ := Aside0.mk (blk_below (g := gb355) (o := b4 a0_0 a0_1 a0_2 a0_3 23) (bz BK355.out) hb)
     have n1_ := Aside0.mk (blk_below (g := gb356) (o := b4 a1_0 a1_1 a1_2 a1_3 23) (bz BK356.out) hb)
     have n2_ := Aside0.mk (below_step (hz2 HB.out GE355.out GE356.out) hb)
     have n3_ := Aside0.mk (hbox)
     have n4_ := Aside0.mk ((by rw [hg]; exact (below_size (hz2 HB.out GE355.out GE356.out)) : w.heap.size ≤ gb369))
     have n5_ := Aside0.mk ((by rw [hg]; exact (below_size (hz2 HB.out GE355.out GE356.out)) : w.heap.size ≤ gb369))
     have n6_ := Aside0.mk ((by rw [hg]; exact Nat.ne_of_lt (blk_lt (g := gb355) (o := b4 a0_0 a0_1 a0_2 a0_3 23) (bz BK355.out)) : gb355 ≠ gb369))
     have n7_ := Aside0.mk ((by rw [hg]; exact Nat.ne_of_gt (blk_lt (g := gb355) (o := b4 a0_0 a0_1 a0_2 a0_3 23) (bz BK355.out)) : gb369 ≠ gb355))
     have n8_ := Aside0.mk ((by rw [hg]; exact Nat.ne_of_lt (blk_lt (g := gb356) (o := b4 a1_0 a1_1 a1_2 a1_3 23) (bz BK356.out)) : gb356 ≠ gb369))
     have n9_ := Aside0.mk ((by rw [hg]; exact Nat.ne_of_gt (blk_lt (g := gb356) (o := b4 a1_0 a1_1 a1_2 a1_3 23) (bz BK356.out)) : gb369 ≠ gb356))
     clear BK355
     clear BK356
     clear HB
     have BK355 := n0_
     have BK356 := n1_
     have HB := n2_
     have BK369 := n3_
     have GW369 := n4_
     have GE369 := n5_
     have NB355_369 := n6_
     have NB369_355 := n7_
     have NB356_369 := n8_
     have NB369_356 := n9_
     clear n0_ n1_ n2_ n3_ n4_ n5_ n6_ n7_ n8_ n9_
     clear hb hbox hg
     refine hK.out _ _ ⟨bc BK355 0, bc BK355 1, bc BK355 2, bc BK355 3, bc BK356 0, bc BK356 1, bc BK356 2, bc BK356 3⟩ (fun hHeld => ?_)
     clear hK K
     refine norm_ (a' := ?_) ?_ ?_
     rotate_left
     ·show Act.put _ (some 5) _ = _
      simp only [Act.put, List.setIfInBounds_toArray, List.set_cons_zero, List.set_cons_succ, i64_w, i32_w]
      rfl
     refine one_ (i := 3) (N := some 10) #[T, T, T, T, F, T, F] rfl rfl (by kernel_rfl) (by decide) (fun K hK => ?_)
     refine goes_ Try.func16 (by kernel_rfl) rfl #[.agg #[.int .i64 a1_0, .int .i64 a1_1, .int .i64 a1_2, .int .i64 a1_3]] (by rfl) rfl rfl mz ?_
     with_reducible refine (laws_toVal.calls a1_0 a1_1 a1_2 a1_3 t361 t362 t363 t364 _ A4.out).mono ?_
     rintro e w16 ⟨rfl, hb⟩
     refine ⟨_, rfl, ?_⟩
     have n0_ := Aside0.mk (blk_below (g := gb355) (o := b4 a0_0 a0_1 a0_2 a0_3 23) (bz BK355.out) hb)
     have n1_ := Aside0.mk (blk_below (g := gb356) (o := b4 a1_0 a1_1 a1_2 a1_3 23) (bz BK356.out) hb)
     have n2_ := Aside0.mk (blk_below (g := gb369) (o := b4 0 0 0 0 25) (bz BK369.out) hb)
     have n3_ := Aside0.mk (below_step (hz3 HB.out GE355.out GE356.out GE369.out) hb)
     clear BK355
     clear BK356
     clear BK369
     clear HB
     have BK355 := n0_
     have BK356 := n1_
     have BK369 := n2_
     have HB := n3_
     clear n0_ n1_ n2_ n3_
     (try clear hb)
     (try clear hb2)
     (try clear hk)
     (try clear hi)
     refine hK.out _ _ ⟨bc BK355 0, bc BK355 1, bc BK355 2, bc BK355 3, bc BK356 0, bc BK356 1, bc BK356 2, bc BK356 3⟩ (fun hHeld => ?_)
     clear hK K
     refine norm_ (a' := ?_) ?_ ?_
     rotate_left
     ·show Act.put _ (some 10) _ = _
      simp only [Act.put, List.setIfInBounds_toArray, List.set_cons_zero, List.set_cons_succ, i64_w, i32_w]
      rfl
     refine one_ (i := 4) (N := some 11) #[T, T, T, T, T, T, F] rfl rfl (by kernel_rfl) (by decide) (fun K hK => ?_)
     refine goes_ Try.func20 (by kernel_rfl) rfl #[.agg #[.int .i64 t357, .int .i64 t358, .int .i64 t359, .int .i64 t360], .agg #[.int .i64 t361, .int .i64 t362, .int .i64 t363, .int .i64 t364]] (by rfl) rfl rfl mz ?_
     with_reducible refine (spec_ValJoin.calls k t357 t358 t359 t360 t361 t362 t363 t364 t365 t366 t367 t368 _ A5.out).mono ?_
     rintro e w17 ⟨rfl, hb⟩
     refine ⟨_, rfl, ?_⟩
     have n0_ := Aside0.mk (blk_below (g := gb355) (o := b4 a0_0 a0_1 a0_2 a0_3 23) (bz BK355.out) hb)
     have n1_ := Aside0.mk (blk_below (g := gb356) (o := b4 a1_0 a1_1 a1_2 a1_3 23) (bz BK356.out) hb)
     have n2_ := Aside0.mk (blk_below (g := gb369) (o := b4 0 0 0 0 25) (bz BK369.out) hb)
     have n3_ := Aside0.mk (below_step (hz3 HB.out GE355.out GE356.out GE369.out) hb)
     clear BK355
     clear BK356
     clear BK369
     clear HB
     have BK355 := n0_
     have BK356 := n1_
     have BK369 := n2_
     have HB := n3_
     clear n0_ n1_ n2_ n3_
     (try clear hb)
     (try clear hb2)
     (try clear hk)
     (try clear hi)
     refine hK.out _ _ ⟨bc BK355 0, bc BK355 1, bc BK355 2, bc BK355 3, bc BK356 0, bc BK356 1, bc BK356 2, bc BK356 3⟩ (fun hHeld => ?_)
     clear hK K
     refine norm_ (a' := ?_) ?_ ?_
     rotate_left
     ·show Act.put _ (some 11) _ = _
      simp only [Act.put, List.setIfInBounds_toArray, List.set_cons_zero, List.set_cons_succ, i64_w, i32_w]
      rfl
     exact norm_ (by simp only [putAll, Act.put, List.setIfInBounds_toArray, List.set_cons_zero, List.set_cons_succ]) (hCont (gb369) _ ⟨hHeld, (bz BK355.out), (bz BK356.out), (bz BK369.out), GW369.out, GE369.out, NB355_369.out, NB369_355.out, NB356_369.out, NB369_356.out, (hz3 HB.out GE355.out GE356.out GE369.out)⟩)
   ·skip
    refine box_step ?hg (N := 5) ?hd (cs := #[.int .i64 0, .int .i64 0, .int .i64 0, .int .i64 0]) (t := 25) ?hr ?_; (case hd => rfl); (case hg => rfl); (case hr => first | (go_simp; done) | (go_simp; rfl))
    intro gb369 hg w14 hbox hb
    have n0_ := Aside0.mk (blk_below (g := gb355) (o := b4 a0_0 a0_1 a0_2 a0_3 23) (bz BK355.out) hb)
    have n1_ := Aside0.mk (blk_below (g := gb356) (o := b4 a1_0 a1_1 a1_2 a1_3 23) (bz BK356.out) hb)
    have n2_ := Aside0.mk (below_step (hz2 HB.out GE355.out GE356.out) hb)
    have n3_ := Aside0.mk (hbox)
    have n4_ := Aside0.mk ((by rw [hg]; exact (below_size (hz2 HB.out GE355.out GE356.out)) : w.heap.size ≤ gb369))
    have n5_ := Aside0.mk ((by rw [hg]; exact (below_size (hz2 HB.out GE355.out GE356.out)) : w.heap.size ≤ gb369))
    have n6_ := Aside0.mk ((by rw [hg]; exact Nat.ne_of_lt (blk_lt (g := gb355) (o := b4 a0_0 a0_1 a0_2 a0_3 23) (bz BK355.out)) : gb355 ≠ gb369))
    have n7_ := Aside0.mk ((by rw [hg]; exact Nat.ne_of_gt (blk_lt (g := gb355) (o := b4 a0_0 a0_1 a0_2 a0_3 23) (bz BK355.out)) : gb369 ≠ gb355))
    have n8_ := Aside0.mk ((by rw [hg]; exact Nat.ne_of_lt (blk_lt (g := gb356) (o := b4 a1_0 a1_1 a1_2 a1_3 23) (bz BK356.out)) : gb356 ≠ gb369))
    have n9_ := Aside0.mk ((by rw [hg]; exact Nat.ne_of_gt (blk_lt (g := gb356) (o := b4 a1_0 a1_1 a1_2 a1_3 23) (bz BK356.out)) : gb369 ≠ gb356))
    clear BK355
    clear BK356
    clear HB
    have BK355 := n0_
    have BK356 := n1_
    have HB := n2_
    have BK369 := n3_
    have GW369 := n4_
    have GE369 := n5_
    have NB355_369 := n6_
    have NB369_355 := n7_
    have NB356_369 := n8_
    have NB369_356 := n9_
    clear n0_ n1_ n2_ n3_ n4_ n5_ n6_ n7_ n8_ n9_
    clear hb hbox hg
    refine hK.out _ _ ⟨bc BK355 0, bc BK355 1, bc BK355 2, bc BK355 3, bc BK356 0, bc BK356 1, bc BK356 2, bc BK356 3⟩ (fun hHeld => ?_)
    clear hK K
    refine norm_ (a' := ?_) ?_ ?_
    rotate_left
    ·show Act.put _ (some 5) _ = _
     simp only [Act.put, List.setIfInBounds_toArray, List.set_cons_zero, List.set_cons_succ, i64_w, i32_w]
     rfl
    refine one_ (i := 1) (N := some 8) #[T, T, T, F, F, T, F] rfl rfl (by kernel_rfl) (by decide) (fun K hK => ?_)
    refine goes_ Try.func16 (by kernel_rfl) rfl #[.agg #[.int .i64 a0_0, .int .i64 a0_1, .int .i64 a0_2, .int .i64 a0_3]] (by rfl) rfl rfl mz ?_
    with_reducible refine (laws_toVal.calls a0_0 a0_1 a0_2 a0_3 t357 t358 t359 t360 _ A3.out).mono ?_
    rintro e w15 ⟨rfl, hb⟩
    refine ⟨_, rfl, ?_⟩
    have n0_ := Aside0.mk (blk_below (g := gb355) (o := b4 a0_0 a0_1 a0_2 a0_3 23) (bz BK355.out) hb)
    have n1_ := Aside0.mk (blk_below (g := gb356) (o := b4 a1_0 a1_1 a1_2 a1_3 23) (bz BK356.out) hb)
    have n2_ := Aside0.mk (blk_below (g := gb369) (o := b4 0 0 0 0 25) (bz BK369.out) hb)
    have n3_ := Aside0.mk (below_step (hz3 HB.out GE355.out GE356.out GE369.out) hb)
    clear BK355
    clear BK356
    clear BK369
    clear HB
    have BK355 := n0_
    have BK356 := n1_
    have BK369 := n2_
    have HB := n3_
    clear n0_ n1_ n2_ n3_
    (try clear hb)
    (try clear hb2)
    (try clear hk)
    (try clear hi)
    refine hK.out _ _ ⟨bc BK355 0, bc BK355 1, bc BK355 2, bc BK355 3, bc BK356 0, bc BK356 1, bc BK356 2, bc BK356 3⟩ (fun hHeld => ?_)
    clear hK K
    refine norm_ (a' := ?_) ?_ ?_
    rotate_left
    ·show Act.put _ (some 8) _ = _
     simp only [Act.put, List.setIfInBounds_toArray, List.set_cons_zero, List.set_cons_succ, i64_w, i32_w]
     rfl
    refine one_ (i := 3) (N := some 10) #[T, T, T, T, F, T, F] rfl rfl (by kernel_rfl) (by decide) (fun K hK => ?_)
    refine goes_ Try.func16 (by kernel_rfl) rfl #[.agg #[.int .i64 a1_0, .int .i64 a1_1, .int .i64 a1_2, .int .i64 a1_3]] (by rfl) rfl rfl mz ?_
    with_reducible refine (laws_toVal.calls a1_0 a1_1 a1_2 a1_3 t361 t362 t363 t364 _ A4.out).mono ?_
    rintro e w16 ⟨rfl, hb⟩
    refine ⟨_, rfl, ?_⟩
    have n0_ := Aside0.mk (blk_below (g := gb355) (o := b4 a0_0 a0_1 a0_2 a0_3 23) (bz BK355.out) hb)
    have n1_ := Aside0.mk (blk_below (g := gb356) (o := b4 a1_0 a1_1 a1_2 a1_3 23) (bz BK356.out) hb)
    have n2_ := Aside0.mk (blk_below (g := gb369) (o := b4 0 0 0 0 25) (bz BK369.out) hb)
    have n3_ := Aside0.mk (below_step (hz3 HB.out GE355.out GE356.out GE369.out) hb)
    clear BK355
    clear BK356
    clear BK369
    clear HB
    have BK355 := n0_
    have BK356 := n1_
    have BK369 := n2_
    have HB := n3_
    clear n0_ n1_ n2_ n3_
    (try clear hb)
    (try clear hb2)
    (try clear hk)
    (try clear hi)
    refine hK.out _ _ ⟨bc BK355 0, bc BK355 1, bc BK355 2, bc BK355 3, bc BK356 0, bc BK356 1, bc BK356 2, bc BK356 3⟩ (fun hHeld => ?_)
    clear hK K
    refine norm_ (a' := ?_) ?_ ?_
    rotate_left
    ·show Act.put _ (some 10) _ = _
     simp only [Act.put, List.setIfInBounds_toArray, List.set_cons_zero, List.set_cons_succ, i64_w, i32_w]
     rfl
    refine one_ (i := 4) (N := some 11) #[T, T, T, T, T, T, F] rfl rfl (by kernel_rfl) (by decide) (fun K hK => ?_)
    refine goes_ Try.func20 (by kernel_rfl) rfl #[.agg #[.int .i64 t357, .int .i64 t358, .int .i64 t359, .int .i64 t360], .agg #[.int .i64 t361, .int .i64 t362, .int .i64 t363, .int .i64 t364]] (by rfl) rfl rfl mz ?_
    with_reducible refine (spec_ValJoin.calls k t357 t358 t359 t360 t361 t362 t363 t364 t365 t366 t367 t368 _ A5.out).mono ?_
    rintro e w17 ⟨rfl, hb⟩
    refine ⟨_, rfl, ?_⟩
    have n0_ := Aside0.mk (blk_below (g := gb355) (o := b4 a0_0 a0_1 a0_2 a0_3 23) (bz BK355.out) hb)
    have n1_ := Aside0.mk (blk_below (g := gb356) (o := b4 a1_0 a1_1 a1_2 a1_3 23) (bz BK356.out) hb)
    have n2_ := Aside0.mk (blk_below (g := gb369) (o := b4 0 0 0 0 25) (bz BK369.out) hb)
    have n3_ := Aside0.mk (below_step (hz3 HB.out GE355.out GE356.out GE369.out) hb)
    clear BK355
    clear BK356
    clear BK369
    clear HB
    have BK355 := n0_
    have BK356 := n1_
    have BK369 := n2_
    have HB := n3_
    clear n0_ n1_ n2_ n3_
    (try clear hb)
    (try clear hb2)
    (try clear hk)
    (try clear hi)
    refine hK.out _ _ ⟨bc BK355 0, bc BK355 1, bc BK355 2, bc BK355 3, bc BK356 0, bc BK356 1, bc BK356 2, bc BK356 3⟩ (fun hHeld => ?_)
    clear hK K
    refine norm_ (a' := ?_) ?_ ?_
    rotate_left
    ·show Act.put _ (some 11) _ = _
     simp only [Act.put, List.setIfInBounds_toArray, List.set_cons_zero, List.set_cons_succ, i64_w, i32_w]
     rfl
    exact norm_ (by simp only [putAll, Act.put, List.setIfInBounds_toArray, List.set_cons_zero, List.set_cons_succ]) (hCont (gb369) _ ⟨hHeld, (bz BK355.out), (bz BK356.out), (bz BK369.out), GW369.out, GE369.out, NB355_369.out, NB369_355.out, NB356_369.out, NB369_356.out, (hz3 HB.out GE355.out GE356.out GE369.out)⟩)
  rintro gb369 w18 ⟨hS_, h0_, h1_, h2_, h3_, h4_, h5_, h6_, h7_, h8_, h9_⟩
  have n0_ : Aside0 (w18.heap[gb355]? = some (.cells #[.int .i64 a0_0, .int .i64 a0_1, .int .i64 a0_2, .int .i64 a0_3] 23 (0, 0))) := ⟨h0_⟩
  have n1_ : Aside0 (w18.heap[gb356]? = some (.cells #[.int .i64 a1_0, .int .i64 a1_1, .int .i64 a1_2, .int .i64 a1_3] 23 (0, 0))) := ⟨h1_⟩
  have n2_ : Aside0 (w18.heap[gb369]? = some (.cells #[.int .i64 0, .int .i64 0, .int .i64 0, .int .i64 0] 25 (0, 0))) := ⟨h2_⟩
  have n3_ : Aside0 (w.heap.size ≤ gb369) := ⟨h3_⟩
  have n4_ : Aside0 (w.heap.size ≤ gb369) := ⟨h4_⟩
  have n5_ : Aside0 (gb355 ≠ gb369) := ⟨h5_⟩
  have n6_ : Aside0 (gb369 ≠ gb355) := ⟨h6_⟩
  have n7_ : Aside0 (gb356 ≠ gb369) := ⟨h7_⟩
  have n8_ : Aside0 (gb369 ≠ gb356) := ⟨h8_⟩
  have n9_ : Aside0 (Below w.heap.size w w18) := ⟨h9_⟩
  clear BK355
  clear BK356
  clear HB
  clear h0_ h1_ h2_ h3_ h4_ h5_ h6_ h7_ h8_ h9_
  have BK355 := n0_
  have BK356 := n1_
  have BK369 := n2_
  have GW369 := n3_
  have GE369 := n4_
  have NB355_369 := n5_
  have NB369_355 := n6_
  have NB356_369 := n7_
  have NB369_356 := n8_
  have HB := n9_
  clear n0_ n1_ n2_ n3_ n4_ n5_ n6_ n7_ n8_ n9_
  have hHeld : w18.cell? ⟨gb355, 0, none⟩ = some (.int .i64 a0_0) ∧ w18.cell? ⟨gb355, 1, none⟩ = some (.int .i64 a0_1) ∧ w18.cell? ⟨gb355, 2, none⟩ = some (.int .i64 a0_2) ∧ w18.cell? ⟨gb355, 3, none⟩ = some (.int .i64 a0_3) ∧ w18.cell? ⟨gb356, 0, none⟩ = some (.int .i64 a1_0) ∧ w18.cell? ⟨gb356, 1, none⟩ = some (.int .i64 a1_1) ∧ w18.cell? ⟨gb356, 2, none⟩ = some (.int .i64 a1_2) ∧ w18.cell? ⟨gb356, 3, none⟩ = some (.int .i64 a1_3) := hS_
  refine norm_ (a' := ?_) ?_ ?_
  rotate_left
  ·simp only [putAll, Act.put, List.setIfInBounds_toArray, List.set_cons_zero, List.set_cons_succ]
   rfl
  refine one_ (i := 6) (N := none) #[T, T, T, T, T, T, T] rfl rfl (by kernel_rfl) (by decide) (fun K hK => ?_)
  have hs19 : w18.cell? ⟨gb369, 0, none⟩ = some (.int .i64 0) := bc BK369 0
  have hfs19 := blk_frozen BK369.out 0
  have hns19_0 := NB355_369.out
  have hns19_1 := NB356_369.out
  have hms19_0 := NB369_355.out
  have hms19_1 := NB369_356.out
  have hs20 : w18.cell? ⟨gb369, 1, none⟩ = some (.int .i64 0) := bc BK369 1
  have hfs20 := blk_frozen BK369.out 1
  have hns20_0 := NB355_369.out
  have hns20_1 := NB356_369.out
  have hms20_0 := NB369_355.out
  have hms20_1 := NB369_356.out
  have hs21 : w18.cell? ⟨gb369, 2, none⟩ = some (.int .i64 0) := bc BK369 2
  have hfs21 := blk_frozen BK369.out 2
  have hns21_0 := NB355_369.out
  have hns21_1 := NB356_369.out
  have hms21_0 := NB369_355.out
  have hms21_1 := NB369_356.out
  have hs22 : w18.cell? ⟨gb369, 3, none⟩ = some (.int .i64 0) := bc BK369 3
  have hfs22 := blk_frozen BK369.out 3
  have hns22_0 := NB355_369.out
  have hns22_1 := NB356_369.out
  have hms22_0 := NB369_355.out
  have hms22_1 := NB369_356.out
  refine skip_ (w1 := ?_) (by rfl) rfl ?_ ?_
  rotate_left
  ·go_simp
   rfl
  refine hK.out _ _ ⟨((cell_far (p := ⟨gb369, _, none⟩) NB355_369.out _).trans (((cell_far (p := ⟨gb369, _, none⟩) NB355_369.out _).trans (((cell_far (p := ⟨gb369, _, none⟩) NB355_369.out _).trans (((cell_far (p := ⟨gb369, _, none⟩) NB355_369.out _).trans (hHeld.1)))))))), ((cell_far (p := ⟨gb369, _, none⟩) NB355_369.out _).trans (((cell_far (p := ⟨gb369, _, none⟩) NB355_369.out _).trans (((cell_far (p := ⟨gb369, _, none⟩) NB355_369.out _).trans (((cell_far (p := ⟨gb369, _, none⟩) NB355_369.out _).trans (hHeld.2.1)))))))), ((cell_far (p := ⟨gb369, _, none⟩) NB355_369.out _).trans (((cell_far (p := ⟨gb369, _, none⟩) NB355_369.out _).trans (((cell_far (p := ⟨gb369, _, none⟩) NB355_369.out _).trans (((cell_far (p := ⟨gb369, _, none⟩) NB355_369.out _).trans (hHeld.2.2.1)))))))), ((cell_far (p := ⟨gb369, _, none⟩) NB355_369.out _).trans (((cell_far (p := ⟨gb369, _, none⟩) NB355_369.out _).trans (((cell_far (p := ⟨gb369, _, none⟩) NB355_369.out _).trans (((cell_far (p := ⟨gb369, _, none⟩) NB355_369.out _).trans (hHeld.2.2.2.1)))))))), ((cell_far (p := ⟨gb369, _, none⟩) NB356_369.out _).trans (((cell_far (p := ⟨gb369, _, none⟩) NB356_369.out _).trans (((cell_far (p := ⟨gb369, _, none⟩) NB356_369.out _).trans (((cell_far (p := ⟨gb369, _, none⟩) NB356_369.out _).trans (hHeld.2.2.2.2.1)))))))), ((cell_far (p := ⟨gb369, _, none⟩) NB356_369.out _).trans (((cell_far (p := ⟨gb369, _, none⟩) NB356_369.out _).trans (((cell_far (p := ⟨gb369, _, none⟩) NB356_369.out _).trans (((cell_far (p := ⟨gb369, _, none⟩) NB356_369.out _).trans (hHeld.2.2.2.2.2.1)))))))), ((cell_far (p := ⟨gb369, _, none⟩) NB356_369.out _).trans (((cell_far (p := ⟨gb369, _, none⟩) NB356_369.out _).trans (((cell_far (p := ⟨gb369, _, none⟩) NB356_369.out _).trans (((cell_far (p := ⟨gb369, _, none⟩) NB356_369.out _).trans (hHeld.2.2.2.2.2.2.1)))))))), ((cell_far (p := ⟨gb369, _, none⟩) NB356_369.out _).trans (((cell_far (p := ⟨gb369, _, none⟩) NB356_369.out _).trans (((cell_far (p := ⟨gb369, _, none⟩) NB356_369.out _).trans (((cell_far (p := ⟨gb369, _, none⟩) NB356_369.out _).trans (hHeld.2.2.2.2.2.2.2))))))))⟩ (fun hHeld => ?_)
  clear hK K
  refine done_ (by kernel_rfl) ?_
  try go_wp2
  have n0_ : Aside0 (((((w18.setCell ⟨gb369, 0, none⟩ (.int .i64 t365)).setCell ⟨gb369, 1, none⟩ (.int .i64 t366)).setCell ⟨gb369, 2, none⟩ (.int .i64 t367)).setCell ⟨gb369, 3, none⟩ (.int .i64 t368)).heap[gb355]? = some (.cells #[.int .i64 a0_0, .int .i64 a0_1, .int .i64 a0_2, .int .i64 a0_3] 23 (0, 0))) := ⟨by (with_reducible repeat (first | refine blk_drewN ?_ _ | refine blk_drew ?_ | refine blk_alloc ?_ _)); refine blk_far ?_ NB355_369.out _; (with_reducible repeat (first | refine blk_drewN ?_ _ | refine blk_drew ?_ | refine blk_alloc ?_ _)); refine blk_far ?_ NB355_369.out _; (with_reducible repeat (first | refine blk_drewN ?_ _ | refine blk_drew ?_ | refine blk_alloc ?_ _)); refine blk_far ?_ NB355_369.out _; (with_reducible repeat (first | refine blk_drewN ?_ _ | refine blk_drew ?_ | refine blk_alloc ?_ _)); refine blk_far ?_ NB355_369.out _; (with_reducible repeat (first | refine blk_drewN ?_ _ | refine blk_drew ?_ | refine blk_alloc ?_ _)); exact BK355.out⟩
  have n1_ : Aside0 (((((w18.setCell ⟨gb369, 0, none⟩ (.int .i64 t365)).setCell ⟨gb369, 1, none⟩ (.int .i64 t366)).setCell ⟨gb369, 2, none⟩ (.int .i64 t367)).setCell ⟨gb369, 3, none⟩ (.int .i64 t368)).heap[gb356]? = some (.cells #[.int .i64 a1_0, .int .i64 a1_1, .int .i64 a1_2, .int .i64 a1_3] 23 (0, 0))) := ⟨by (with_reducible repeat (first | refine blk_drewN ?_ _ | refine blk_drew ?_ | refine blk_alloc ?_ _)); refine blk_far ?_ NB356_369.out _; (with_reducible repeat (first | refine blk_drewN ?_ _ | refine blk_drew ?_ | refine blk_alloc ?_ _)); refine blk_far ?_ NB356_369.out _; (with_reducible repeat (first | refine blk_drewN ?_ _ | refine blk_drew ?_ | refine blk_alloc ?_ _)); refine blk_far ?_ NB356_369.out _; (with_reducible repeat (first | refine blk_drewN ?_ _ | refine blk_drew ?_ | refine blk_alloc ?_ _)); refine blk_far ?_ NB356_369.out _; (with_reducible repeat (first | refine blk_drewN ?_ _ | refine blk_drew ?_ | refine blk_alloc ?_ _)); exact BK356.out⟩
  have n2_ : Aside0 (((((w18.setCell ⟨gb369, 0, none⟩ (.int .i64 t365)).setCell ⟨gb369, 1, none⟩ (.int .i64 t366)).setCell ⟨gb369, 2, none⟩ (.int .i64 t367)).setCell ⟨gb369, 3, none⟩ (.int .i64 t368)).heap[gb369]? = some (.cells #[.int .i64 t365, .int .i64 t366, .int .i64 t367, .int .i64 t368] 25 (0, 0))) := ⟨by (with_reducible repeat (first | refine blk_drewN ?_ _ | refine blk_drew ?_ | refine blk_alloc ?_ _)); refine blk_put (cs := #[.int .i64 t365, .int .i64 t366, .int .i64 t367, .int .i64 0]) ?_ 3 _ rfl; (with_reducible repeat (first | refine blk_drewN ?_ _ | refine blk_drew ?_ | refine blk_alloc ?_ _)); refine blk_put (cs := #[.int .i64 t365, .int .i64 t366, .int .i64 0, .int .i64 0]) ?_ 2 _ rfl; (with_reducible repeat (first | refine blk_drewN ?_ _ | refine blk_drew ?_ | refine blk_alloc ?_ _)); refine blk_put (cs := #[.int .i64 t365, .int .i64 0, .int .i64 0, .int .i64 0]) ?_ 1 _ rfl; (with_reducible repeat (first | refine blk_drewN ?_ _ | refine blk_drew ?_ | refine blk_alloc ?_ _)); refine blk_put (cs := #[.int .i64 0, .int .i64 0, .int .i64 0, .int .i64 0]) ?_ 0 _ rfl; (with_reducible repeat (first | refine blk_drewN ?_ _ | refine blk_drew ?_ | refine blk_alloc ?_ _)); exact BK369.out⟩
  have n3_ : Aside0 (Below w.heap.size w ((((w18.setCell ⟨gb369, 0, none⟩ (.int .i64 t365)).setCell ⟨gb369, 1, none⟩ (.int .i64 t366)).setCell ⟨gb369, 2, none⟩ (.int .i64 t367)).setCell ⟨gb369, 3, none⟩ (.int .i64 t368))) := ⟨hz3 HB.out GE355.out GE356.out GE369.out⟩
  (try clear BK355)
  (try clear BK356)
  (try clear BK369)
  (try clear HB)
  generalize ((((w18.setCell ⟨gb369, 0, none⟩ (.int .i64 t365)).setCell ⟨gb369, 1, none⟩ (.int .i64 t366)).setCell ⟨gb369, 2, none⟩ (.int .i64 t367)).setCell ⟨gb369, 3, none⟩ (.int .i64 t368)) = w23 at n0_ n1_ n2_ n3_ ⊢
  have BK355 := n0_
  have BK356 := n1_
  have BK369 := n2_
  have HB := n3_
  clear n0_ n1_ n2_ n3_
  have n0_ := Aside0.mk (blk_drew BK355.out)
  have n1_ := Aside0.mk (blk_drew BK356.out)
  have n2_ := Aside0.mk (blk_drew BK369.out)
  have n3_ := Aside0.mk (below_drew1 HB.out)
  clear BK355
  clear BK356
  clear BK369
  clear HB
  have BK355 := n0_
  have BK356 := n1_
  have BK369 := n2_
  have HB := n3_
  clear n0_ n1_ n2_ n3_
  refine start_ (n := 7) (S := fun w' => w'.cell? ⟨gb355, 0, none⟩ = some (.int .i64 a0_0) ∧ w'.cell? ⟨gb355, 1, none⟩ = some (.int .i64 a0_1) ∧ w'.cell? ⟨gb355, 2, none⟩ = some (.int .i64 a0_2) ∧ w'.cell? ⟨gb355, 3, none⟩ = some (.int .i64 a0_3) ∧ w'.cell? ⟨gb356, 0, none⟩ = some (.int .i64 a1_0) ∧ w'.cell? ⟨gb356, 1, none⟩ = some (.int .i64 a1_1) ∧ w'.cell? ⟨gb356, 2, none⟩ = some (.int .i64 a1_2) ∧ w'.cell? ⟨gb356, 3, none⟩ = some (.int .i64 a1_3)) (ds := []) #[F, F, F, F, F, F, F] (by kernel_rfl) rfl rfl ⟨bc BK355 0, bc BK355 1, bc BK355 2, bc BK355 3, bc BK356 0, bc BK356 1, bc BK356 2, bc BK356 3⟩ (fun hHeld => ?_)
  generalize w23.drew = w24 at BK355 BK356 BK369 HB hHeld ⊢
  refine take_ (i := 0) (N := some 12) (v := ?_) (a' := ?_) #[T, F, F, F, F, F, F] rfl rfl (by kernel_rfl) (fun _ _ _ h => h) (Or.inl ⟨by rfl, ?_⟩) hHeld ?_ ?_
  rotate_left
  ·rintro w' ⟨s0, s1, s2, s3, s4, s5, s6, s7⟩
   go_simp
   with_reducible rfl
  rotate_left
  ·exact pz
  refine take_ (i := 2) (N := some 14) (v := ?_) (a' := ?_) #[T, F, T, F, F, F, F] rfl rfl (by kernel_rfl) (fun _ _ _ h => h) (Or.inl ⟨by rfl, ?_⟩) hHeld ?_ ?_
  rotate_left
  ·rintro w' ⟨s0, s1, s2, s3, s4, s5, s6, s7⟩
   go_simp
   with_reducible rfl
  rotate_left
  ·exact pz
  refine join_ (σ := Nat) 1 #[T, T, T, T, T, T, F] (fun s_ => [(13, .agg #[.int .i64 t370, .int .i64 t371, .int .i64 t372, .int .i64 t373]), (15, .agg #[.int .i64 t374, .int .i64 t375, .int .i64 t376, .int .i64 t377]), (16, .agg #[.int .i64 t378, .int .i64 t379, .int .i64 t380, .int .i64 t381]), (6, .pointer (some ⟨s_, 0, none⟩))]) (fun s_ w' => (w'.cell? ⟨gb355, 0, none⟩ = some (.int .i64 a0_0) ∧ w'.cell? ⟨gb355, 1, none⟩ = some (.int .i64 a0_1) ∧ w'.cell? ⟨gb355, 2, none⟩ = some (.int .i64 a0_2) ∧ w'.cell? ⟨gb355, 3, none⟩ = some (.int .i64 a0_3) ∧ w'.cell? ⟨gb356, 0, none⟩ = some (.int .i64 a1_0) ∧ w'.cell? ⟨gb356, 1, none⟩ = some (.int .i64 a1_1) ∧ w'.cell? ⟨gb356, 2, none⟩ = some (.int .i64 a1_2) ∧ w'.cell? ⟨gb356, 3, none⟩ = some (.int .i64 a1_3)) ∧ (w'.heap[gb355]? = some (.cells #[.int .i64 a0_0, .int .i64 a0_1, .int .i64 a0_2, .int .i64 a0_3] 23 (0, 0))) ∧ (w'.heap[gb356]? = some (.cells #[.int .i64 a1_0, .int .i64 a1_1, .int .i64 a1_2, .int .i64 a1_3] 23 (0, 0))) ∧ (w'.heap[gb369]? = some (.cells #[.int .i64 t365, .int .i64 t366, .int .i64 t367, .int .i64 t368] 25 (0, 0))) ∧ (w'.heap[s_]? = some (.cells #[.int .i64 0, .int .i64 0, .int .i64 0, .int .i64 0] 25 (0, 0))) ∧ (w.heap.size ≤ s_) ∧ (w.heap.size ≤ s_) ∧ (gb355 ≠ s_) ∧ (s_ ≠ gb355) ∧ (gb356 ≠ s_) ∧ (s_ ≠ gb356) ∧ (gb369 ≠ s_) ∧ (s_ ≠ gb369) ∧ (Below w.heap.size w w')) ?_ ?_
  rotate_left
  ·intro hCont
   refine two_ (i := 1) (j := 5) (Ni := some 13) (Nj := some 6) #[T, T, T, F, F, F, F] #[T, F, T, F, F, T, F] rfl rfl rfl rfl (by kernel_rfl) (by decide) (by decide) (fun K hK => ?_) (fun K hK => ?_)
   ·skip
    refine goes_ Try.func16 (by kernel_rfl) rfl #[.agg #[.int .i64 a0_0, .int .i64 a0_1, .int .i64 a0_2, .int .i64 a0_3]] (by rfl) rfl rfl mz ?_
    with_reducible refine (laws_toVal.calls a0_0 a0_1 a0_2 a0_3 t370 t371 t372 t373 _ A6.out).mono ?_
    rintro e w25 ⟨rfl, hb⟩
    refine ⟨_, rfl, ?_⟩
    have n0_ := Aside0.mk (blk_below (g := gb355) (o := b4 a0_0 a0_1 a0_2 a0_3 23) (bz BK355.out) hb)
    have n1_ := Aside0.mk (blk_below (g := gb356) (o := b4 a1_0 a1_1 a1_2 a1_3 23) (bz BK356.out) hb)
    have n2_ := Aside0.mk (blk_below (g := gb369) (o := b4 t365 t366 t367 t368 25) (bz BK369.out) hb)
    have n3_ := Aside0.mk (below_step (hz3 HB.out GE355.out GE356.out GE369.out) hb)
    clear BK355
    clear BK356
    clear BK369
    clear HB
    have BK355 := n0_
    have BK356 := n1_
    have BK369 := n2_
    have HB := n3_
    clear n0_ n1_ n2_ n3_
    (try clear hb)
    (try clear hb2)
    (try clear hk)
    (try clear hi)
    refine hK.out _ _ ⟨bc BK355 0, bc BK355 1, bc BK355 2, bc BK355 3, bc BK356 0, bc BK356 1, bc BK356 2, bc BK356 3⟩ (fun hHeld => ?_)
    clear hK K
    refine norm_ (a' := ?_) ?_ ?_
    rotate_left
    ·show Act.put _ (some 13) _ = _
     simp only [Act.put, List.setIfInBounds_toArray, List.set_cons_zero, List.set_cons_succ, i64_w, i32_w]
     rfl
    refine two_ (i := 3) (j := 5) (Ni := some 15) (Nj := some 6) #[T, T, T, T, F, F, F] #[T, T, T, F, F, T, F] rfl rfl rfl rfl (by kernel_rfl) (by decide) (by decide) (fun K hK => ?_) (fun K hK => ?_)
    ·skip
     refine goes_ Try.func16 (by kernel_rfl) rfl #[.agg #[.int .i64 a1_0, .int .i64 a1_1, .int .i64 a1_2, .int .i64 a1_3]] (by rfl) rfl rfl mz ?_
     with_reducible refine (laws_toVal.calls a1_0 a1_1 a1_2 a1_3 t374 t375 t376 t377 _ A7.out).mono ?_
     rintro e w26 ⟨rfl, hb⟩
     refine ⟨_, rfl, ?_⟩
     have n0_ := Aside0.mk (blk_below (g := gb355) (o := b4 a0_0 a0_1 a0_2 a0_3 23) (bz BK355.out) hb)
     have n1_ := Aside0.mk (blk_below (g := gb356) (o := b4 a1_0 a1_1 a1_2 a1_3 23) (bz BK356.out) hb)
     have n2_ := Aside0.mk (blk_below (g := gb369) (o := b4 t365 t366 t367 t368 25) (bz BK369.out) hb)
     have n3_ := Aside0.mk (below_step (hz3 HB.out GE355.out GE356.out GE369.out) hb)
     clear BK355
     clear BK356
     clear BK369
     clear HB
     have BK355 := n0_
     have BK356 := n1_
     have BK369 := n2_
     have HB := n3_
     clear n0_ n1_ n2_ n3_
     (try clear hb)
     (try clear hb2)
     (try clear hk)
     (try clear hi)
     refine hK.out _ _ ⟨bc BK355 0, bc BK355 1, bc BK355 2, bc BK355 3, bc BK356 0, bc BK356 1, bc BK356 2, bc BK356 3⟩ (fun hHeld => ?_)
     clear hK K
     refine norm_ (a' := ?_) ?_ ?_
     rotate_left
     ·show Act.put _ (some 15) _ = _
      simp only [Act.put, List.setIfInBounds_toArray, List.set_cons_zero, List.set_cons_succ, i64_w, i32_w]
      rfl
     refine two_ (i := 4) (j := 5) (Ni := some 16) (Nj := some 6) #[T, T, T, T, T, F, F] #[T, T, T, T, F, T, F] rfl rfl rfl rfl (by kernel_rfl) (by decide) (by decide) (fun K hK => ?_) (fun K hK => ?_)
     ·skip
      refine goes_ Try.func21 (by kernel_rfl) rfl #[.agg #[.int .i64 t370, .int .i64 t371, .int .i64 t372, .int .i64 t373], .agg #[.int .i64 t374, .int .i64 t375, .int .i64 t376, .int .i64 t377]] (by rfl) rfl rfl mz ?_
      with_reducible refine (impl_ValJoin.calls k t370 t371 t372 t373 t374 t375 t376 t377 t378 t379 t380 t381 _ A8.out).mono ?_
      rintro e w27 ⟨rfl, hb⟩
      refine ⟨_, rfl, ?_⟩
      have n0_ := Aside0.mk (blk_below (g := gb355) (o := b4 a0_0 a0_1 a0_2 a0_3 23) (bz BK355.out) hb)
      have n1_ := Aside0.mk (blk_below (g := gb356) (o := b4 a1_0 a1_1 a1_2 a1_3 23) (bz BK356.out) hb)
      have n2_ := Aside0.mk (blk_below (g := gb369) (o := b4 t365 t366 t367 t368 25) (bz BK369.out) hb)
      have n3_ := Aside0.mk (below_step (hz3 HB.out GE355.out GE356.out GE369.out) hb)
      clear BK355
      clear BK356
      clear BK369
      clear HB
      have BK355 := n0_
      have BK356 := n1_
      have BK369 := n2_
      have HB := n3_
      clear n0_ n1_ n2_ n3_
      (try clear hb)
      (try clear hb2)
      (try clear hk)
      (try clear hi)
      refine hK.out _ _ ⟨bc BK355 0, bc BK355 1, bc BK355 2, bc BK355 3, bc BK356 0, bc BK356 1, bc BK356 2, bc BK356 3⟩ (fun hHeld => ?_)
      clear hK K
      refine norm_ (a' := ?_) ?_ ?_
      rotate_left
      ·show Act.put _ (some 16) _ = _
       simp only [Act.put, List.setIfInBounds_toArray, List.set_cons_zero, List.set_cons_succ, i64_w, i32_w]
       rfl
      refine one_ (i := 5) (N := some 6) #[T, T, T, T, T, T, F] rfl rfl (by kernel_rfl) (by decide) (fun K hK => ?_)
      refine box_step ?hg (N := 6) ?hd (cs := #[.int .i64 0, .int .i64 0, .int .i64 0, .int .i64 0]) (t := 25) ?hr ?_; (case hd => rfl); (case hg => rfl); (case hr => first | (go_simp; done) | (go_simp; rfl))
      intro gb382 hg w28 hbox hb
      have n0_ := Aside0.mk (blk_below (g := gb355) (o := b4 a0_0 a0_1 a0_2 a0_3 23) (bz BK355.out) hb)
      have n1_ := Aside0.mk (blk_below (g := gb356) (o := b4 a1_0 a1_1 a1_2 a1_3 23) (bz BK356.out) hb)
      have n2_ := Aside0.mk (blk_below (g := gb369) (o := b4 t365 t366 t367 t368 25) (bz BK369.out) hb)
      have n3_ := Aside0.mk (below_step (hz3 HB.out GE355.out GE356.out GE369.out) hb)
      have n4_ := Aside0.mk (hbox)
      have n5_ := Aside0.mk ((by rw [hg]; exact (below_size (hz3 HB.out GE355.out GE356.out GE369.out)) : w.heap.size ≤ gb382))
      have n6_ := Aside0.mk ((by rw [hg]; exact (below_size (hz3 HB.out GE355.out GE356.out GE369.out)) : w.heap.size ≤ gb382))
      have n7_ := Aside0.mk ((by rw [hg]; exact Nat.ne_of_lt (blk_lt (g := gb355) (o := b4 a0_0 a0_1 a0_2 a0_3 23) (bz BK355.out)) : gb355 ≠ gb382))
      have n8_ := Aside0.mk ((by rw [hg]; exact Nat.ne_of_gt (blk_lt (g := gb355) (o := b4 a0_0 a0_1 a0_2 a0_3 23) (bz BK355.out)) : gb382 ≠ gb355))
      have n9_ := Aside0.mk ((by rw [hg]; exact Nat.ne_of_lt (blk_lt (g := gb356) (o := b4 a1_0 a1_1 a1_2 a1_3 23) (bz BK356.out)) : gb356 ≠ gb382))
      have n10_ := Aside0.mk ((by rw [hg]; exact Nat.ne_of_gt (blk_lt (g := gb356) (o := b4 a1_0 a1_1 a1_2 a1_3 23) (bz BK356.out)) : gb382 ≠ gb356))
      have n11_ := Aside0.mk ((by rw [hg]; exact Nat.ne_of_lt (blk_lt (g := gb369) (o := b4 t365 t366 t367 t368 25) (bz BK369.out)) : gb369 ≠ gb382))
      have n12_ := Aside0.mk ((by rw [hg]; exact Nat.ne_of_gt (blk_lt (g := gb369) (o := b4 t365 t366 t367 t368 25) (bz BK369.out)) : gb382 ≠ gb369))
      clear BK355
      clear BK356
      clear BK369
      clear HB
      have BK355 := n0_
      have BK356 := n1_
      have BK369 := n2_
      have HB := n3_
      have BK382 := n4_
      have GW382 := n5_
      have GE382 := n6_
      have NB355_382 := n7_
      have NB382_355 := n8_
      have NB356_382 := n9_
      have NB382_356 := n10_
      have NB369_382 := n11_
      have NB382_369 := n12_
      clear n0_ n1_ n2_ n3_ n4_ n5_ n6_ n7_ n8_ n9_ n10_ n11_ n12_
      clear hb hbox hg
      refine hK.out _ _ ⟨bc BK355 0, bc BK355 1, bc BK355 2, bc BK355 3, bc BK356 0, bc BK356 1, bc BK356 2, bc BK356 3⟩ (fun hHeld => ?_)
      clear hK K
      refine norm_ (a' := ?_) ?_ ?_
      rotate_left
      ·show Act.put _ (some 6) _ = _
       simp only [Act.put, List.setIfInBounds_toArray, List.set_cons_zero, List.set_cons_succ, i64_w, i32_w]
       rfl
      exact norm_ (by simp only [putAll, Act.put, List.setIfInBounds_toArray, List.set_cons_zero, List.set_cons_succ]) (hCont (gb382) _ ⟨hHeld, (bz BK355.out), (bz BK356.out), (bz BK369.out), (bz BK382.out), GW382.out, GE382.out, NB355_382.out, NB382_355.out, NB356_382.out, NB382_356.out, NB369_382.out, NB382_369.out, (hz4 HB.out GE355.out GE356.out GE369.out GE382.out)⟩)
     ·skip
      refine box_step ?hg (N := 6) ?hd (cs := #[.int .i64 0, .int .i64 0, .int .i64 0, .int .i64 0]) (t := 25) ?hr ?_; (case hd => rfl); (case hg => rfl); (case hr => first | (go_simp; done) | (go_simp; rfl))
      intro gb382 hg w27 hbox hb
      have n0_ := Aside0.mk (blk_below (g := gb355) (o := b4 a0_0 a0_1 a0_2 a0_3 23) (bz BK355.out) hb)
      have n1_ := Aside0.mk (blk_below (g := gb356) (o := b4 a1_0 a1_1 a1_2 a1_3 23) (bz BK356.out) hb)
      have n2_ := Aside0.mk (blk_below (g := gb369) (o := b4 t365 t366 t367 t368 25) (bz BK369.out) hb)
      have n3_ := Aside0.mk (below_step (hz3 HB.out GE355.out GE356.out GE369.out) hb)
      have n4_ := Aside0.mk (hbox)
      have n5_ := Aside0.mk ((by rw [hg]; exact (below_size (hz3 HB.out GE355.out GE356.out GE369.out)) : w.heap.size ≤ gb382))
      have n6_ := Aside0.mk ((by rw [hg]; exact (below_size (hz3 HB.out GE355.out GE356.out GE369.out)) : w.heap.size ≤ gb382))
      have n7_ := Aside0.mk ((by rw [hg]; exact Nat.ne_of_lt (blk_lt (g := gb355) (o := b4 a0_0 a0_1 a0_2 a0_3 23) (bz BK355.out)) : gb355 ≠ gb382))
      have n8_ := Aside0.mk ((by rw [hg]; exact Nat.ne_of_gt (blk_lt (g := gb355) (o := b4 a0_0 a0_1 a0_2 a0_3 23) (bz BK355.out)) : gb382 ≠ gb355))
      have n9_ := Aside0.mk ((by rw [hg]; exact Nat.ne_of_lt (blk_lt (g := gb356) (o := b4 a1_0 a1_1 a1_2 a1_3 23) (bz BK356.out)) : gb356 ≠ gb382))
      have n10_ := Aside0.mk ((by rw [hg]; exact Nat.ne_of_gt (blk_lt (g := gb356) (o := b4 a1_0 a1_1 a1_2 a1_3 23) (bz BK356.out)) : gb382 ≠ gb356))
      have n11_ := Aside0.mk ((by rw [hg]; exact Nat.ne_of_lt (blk_lt (g := gb369) (o := b4 t365 t366 t367 t368 25) (bz BK369.out)) : gb369 ≠ gb382))
      have n12_ := Aside0.mk ((by rw [hg]; exact Nat.ne_of_gt (blk_lt (g := gb369) (o := b4 t365 t366 t367 t368 25) (bz BK369.out)) : gb382 ≠ gb369))
      clear BK355
      clear BK356
      clear BK369
      clear HB
      have BK355 := n0_
      have BK356 := n1_
      have BK369 := n2_
      have HB := n3_
      have BK382 := n4_
      have GW382 := n5_
      have GE382 := n6_
      have NB355_382 := n7_
      have NB382_355 := n8_
      have NB356_382 := n9_
      have NB382_356 := n10_
      have NB369_382 := n11_
      have NB382_369 := n12_
      clear n0_ n1_ n2_ n3_ n4_ n5_ n6_ n7_ n8_ n9_ n10_ n11_ n12_
      clear hb hbox hg
      refine hK.out _ _ ⟨bc BK355 0, bc BK355 1, bc BK355 2, bc BK355 3, bc BK356 0, bc BK356 1, bc BK356 2, bc BK356 3⟩ (fun hHeld => ?_)
      clear hK K
      refine norm_ (a' := ?_) ?_ ?_
      rotate_left
      ·show Act.put _ (some 6) _ = _
       simp only [Act.put, List.setIfInBounds_toArray, List.set_cons_zero, List.set_cons_succ, i64_w, i32_w]
       rfl
      refine one_ (i := 4) (N := some 16) #[T, T, T, T, T, T, F] rfl rfl (by kernel_rfl) (by decide) (fun K hK => ?_)
      refine goes_ Try.func21 (by kernel_rfl) rfl #[.agg #[.int .i64 t370, .int .i64 t371, .int .i64 t372, .int .i64 t373], .agg #[.int .i64 t374, .int .i64 t375, .int .i64 t376, .int .i64 t377]] (by rfl) rfl rfl mz ?_
      with_reducible refine (impl_ValJoin.calls k t370 t371 t372 t373 t374 t375 t376 t377 t378 t379 t380 t381 _ A8.out).mono ?_
      rintro e w28 ⟨rfl, hb⟩
      refine ⟨_, rfl, ?_⟩
      have n0_ := Aside0.mk (blk_below (g := gb355) (o := b4 a0_0 a0_1 a0_2 a0_3 23) (bz BK355.out) hb)
      have n1_ := Aside0.mk (blk_below (g := gb356) (o := b4 a1_0 a1_1 a1_2 a1_3 23) (bz BK356.out) hb)
      have n2_ := Aside0.mk (blk_below (g := gb369) (o := b4 t365 t366 t367 t368 25) (bz BK369.out) hb)
      have n3_ := Aside0.mk (blk_below (g := gb382) (o := b4 0 0 0 0 25) (bz BK382.out) hb)
      have n4_ := Aside0.mk (below_step (hz4 HB.out GE355.out GE356.out GE369.out GE382.out) hb)
      clear BK355
      clear BK356
      clear BK369
      clear BK382
      clear HB
      have BK355 := n0_
      have BK356 := n1_
      have BK369 := n2_
      have BK382 := n3_
      have HB := n4_
      clear n0_ n1_ n2_ n3_ n4_
      (try clear hb)
      (try clear hb2)
      (try clear hk)
      (try clear hi)
      refine hK.out _ _ ⟨bc BK355 0, bc BK355 1, bc BK355 2, bc BK355 3, bc BK356 0, bc BK356 1, bc BK356 2, bc BK356 3⟩ (fun hHeld => ?_)
      clear hK K
      refine norm_ (a' := ?_) ?_ ?_
      rotate_left
      ·show Act.put _ (some 16) _ = _
       simp only [Act.put, List.setIfInBounds_toArray, List.set_cons_zero, List.set_cons_succ, i64_w, i32_w]
       rfl
      exact norm_ (by simp only [putAll, Act.put, List.setIfInBounds_toArray, List.set_cons_zero, List.set_cons_succ]) (hCont (gb382) _ ⟨hHeld, (bz BK355.out), (bz BK356.out), (bz BK369.out), (bz BK382.out), GW382.out, GE382.out, NB355_382.out, NB382_355.out, NB356_382.out, NB382_356.out, NB369_382.out, NB382_369.out, (hz4 HB.out GE355.out GE356.out GE369.out GE382.out)⟩)
    ·skip
     refine box_step ?hg (N := 6) ?hd (cs := #[.int .i64 0, .int .i64 0, .int .i64 0, .int .i64 0]) (t := 25) ?hr ?_; (case hd => rfl); (case hg => rfl); (case hr => first | (go_simp; done) | (go_simp; rfl))
     intro gb382 hg w26 hbox hb
     have n0_ := Aside0.mk (blk_below (g := gb355) (o := b4 a0_0 a0_1 a0_2 a0_3 23) (bz BK355.out) hb)
     have n1_ := Aside0.mk (blk_below (g := gb356) (o := b4 a1_0 a1_1 a1_2 a1_3 23) (bz BK356.out) hb)
     have n2_ := Aside0.mk (blk_below (g := gb369) (o := b4 t365 t366 t367 t368 25) (bz BK369.out) hb)
     have n3_ := Aside0.mk (below_step (hz3 HB.out GE355.out GE356.out GE369.out) hb)
     have n4_ := Aside0.mk (hbox)
     have n5_ := Aside0.mk ((by rw [hg]; exact (below_size (hz3 HB.out GE355.out GE356.out GE369.out)) : w.heap.size ≤ gb382))
     have n6_ := Aside0.mk ((by rw [hg]; exact (below_size (hz3 HB.out GE355.out GE356.out GE369.out)) : w.heap.size ≤ gb382))
     have n7_ := Aside0.mk ((by rw [hg]; exact Nat.ne_of_lt (blk_lt (g := gb355) (o := b4 a0_0 a0_1 a0_2 a0_3 23) (bz BK355.out)) : gb355 ≠ gb382))
     have n8_ := Aside0.mk ((by rw [hg]; exact Nat.ne_of_gt (blk_lt (g := gb355) (o := b4 a0_0 a0_1 a0_2 a0_3 23) (bz BK355.out)) : gb382 ≠ gb355))
     have n9_ := Aside0.mk ((by rw [hg]; exact Nat.ne_of_lt (blk_lt (g := gb356) (o := b4 a1_0 a1_1 a1_2 a1_3 23) (bz BK356.out)) : gb356 ≠ gb382))
     have n10_ := Aside0.mk ((by rw [hg]; exact Nat.ne_of_gt (blk_lt (g := gb356) (o := b4 a1_0 a1_1 a1_2 a1_3 23) (bz BK356.out)) : gb382 ≠ gb356))
     have n11_ := Aside0.mk ((by rw [hg]; exact Nat.ne_of_lt (blk_lt (g := gb369) (o := b4 t365 t366 t367 t368 25) (bz BK369.out)) : gb369 ≠ gb382))
     have n12_ := Aside0.mk ((by rw [hg]; exact Nat.ne_of_gt (blk_lt (g := gb369) (o := b4 t365 t366 t367 t368 25) (bz BK369.out)) : gb382 ≠ gb369))
     clear BK355
     clear BK356
     clear BK369
     clear HB
     have BK355 := n0_
     have BK356 := n1_
     have BK369 := n2_
     have HB := n3_
     have BK382 := n4_
     have GW382 := n5_
     have GE382 := n6_
     have NB355_382 := n7_
     have NB382_355 := n8_
     have NB356_382 := n9_
     have NB382_356 := n10_
     have NB369_382 := n11_
     have NB382_369 := n12_
     clear n0_ n1_ n2_ n3_ n4_ n5_ n6_ n7_ n8_ n9_ n10_ n11_ n12_
     clear hb hbox hg
     refine hK.out _ _ ⟨bc BK355 0, bc BK355 1, bc BK355 2, bc BK355 3, bc BK356 0, bc BK356 1, bc BK356 2, bc BK356 3⟩ (fun hHeld => ?_)
     clear hK K
     refine norm_ (a' := ?_) ?_ ?_
     rotate_left
     ·show Act.put _ (some 6) _ = _
      simp only [Act.put, List.setIfInBounds_toArray, List.set_cons_zero, List.set_cons_succ, i64_w, i32_w]
      rfl
     refine one_ (i := 3) (N := some 15) #[T, T, T, T, F, T, F] rfl rfl (by kernel_rfl) (by decide) (fun K hK => ?_)
     refine goes_ Try.func16 (by kernel_rfl) rfl #[.agg #[.int .i64 a1_0, .int .i64 a1_1, .int .i64 a1_2, .int .i64 a1_3]] (by rfl) rfl rfl mz ?_
     with_reducible refine (laws_toVal.calls a1_0 a1_1 a1_2 a1_3 t374 t375 t376 t377 _ A7.out).mono ?_
     rintro e w27 ⟨rfl, hb⟩
     refine ⟨_, rfl, ?_⟩
     have n0_ := Aside0.mk (blk_below (g := gb355) (o := b4 a0_0 a0_1 a0_2 a0_3 23) (bz BK355.out) hb)
     have n1_ := Aside0.mk (blk_below (g := gb356) (o := b4 a1_0 a1_1 a1_2 a1_3 23) (bz BK356.out) hb)
     have n2_ := Aside0.mk (blk_below (g := gb369) (o := b4 t365 t366 t367 t368 25) (bz BK369.out) hb)
     have n3_ := Aside0.mk (blk_below (g := gb382) (o := b4 0 0 0 0 25) (bz BK382.out) hb)
     have n4_ := Aside0.mk (below_step (hz4 HB.out GE355.out GE356.out GE369.out GE382.out) hb)
     clear BK355
     clear BK356
     clear BK369
     clear BK382
     clear HB
     have BK355 := n0_
     have BK356 := n1_
     have BK369 := n2_
     have BK382 := n3_
     have HB := n4_
     clear n0_ n1_ n2_ n3_ n4_
     (try clear hb)
     (try clear hb2)
     (try clear hk)
     (try clear hi)
     refine hK.out _ _ ⟨bc BK355 0, bc BK355 1, bc BK355 2, bc BK355 3, bc BK356 0, bc BK356 1, bc BK356 2, bc BK356 3⟩ (fun hHeld => ?_)
     clear hK K
     refine norm_ (a' := ?_) ?_ ?_
     rotate_left
     ·show Act.put _ (some 15) _ = _
      simp only [Act.put, List.setIfInBounds_toArray, List.set_cons_zero, List.set_cons_succ, i64_w, i32_w]
      rfl
     refine one_ (i := 4) (N := some 16) #[T, T, T, T, T, T, F] rfl rfl (by kernel_rfl) (by decide) (fun K hK => ?_)
     refine goes_ Try.func21 (by kernel_rfl) rfl #[.agg #[.int .i64 t370, .int .i64 t371, .int .i64 t372, .int .i64 t373], .agg #[.int .i64 t374, .int .i64 t375, .int .i64 t376, .int .i64 t377]] (by rfl) rfl rfl mz ?_
     with_reducible refine (impl_ValJoin.calls k t370 t371 t372 t373 t374 t375 t376 t377 t378 t379 t380 t381 _ A8.out).mono ?_
     rintro e w28 ⟨rfl, hb⟩
     refine ⟨_, rfl, ?_⟩
     have n0_ := Aside0.mk (blk_below (g := gb355) (o := b4 a0_0 a0_1 a0_2 a0_3 23) (bz BK355.out) hb)
     have n1_ := Aside0.mk (blk_below (g := gb356) (o := b4 a1_0 a1_1 a1_2 a1_3 23) (bz BK356.out) hb)
     have n2_ := Aside0.mk (blk_below (g := gb369) (o := b4 t365 t366 t367 t368 25) (bz BK369.out) hb)
     have n3_ := Aside0.mk (blk_below (g := gb382) (o := b4 0 0 0 0 25) (bz BK382.out) hb)
     have n4_ := Aside0.mk (below_step (hz4 HB.out GE355.out GE356.out GE369.out GE382.out) hb)
     clear BK355
     clear BK356
     clear BK369
     clear BK382
     clear HB
     have BK355 := n0_
     have BK356 := n1_
     have BK369 := n2_
     have BK382 := n3_
     have HB := n4_
     clear n0_ n1_ n2_ n3_ n4_
     (try clear hb)
     (try clear hb2)
     (try clear hk)
     (try clear hi)
     refine hK.out _ _ ⟨bc BK355 0, bc BK355 1, bc BK355 2, bc BK355 3, bc BK356 0, bc BK356 1, bc BK356 2, bc BK356 3⟩ (fun hHeld => ?_)
     clear hK K
     refine norm_ (a' := ?_) ?_ ?_
     rotate_left
     ·show Act.put _ (some 16) _ = _
      simp only [Act.put, List.setIfInBounds_toArray, List.set_cons_zero, List.set_cons_succ, i64_w, i32_w]
      rfl
     exact norm_ (by simp only [putAll, Act.put, List.setIfInBounds_toArray, List.set_cons_zero, List.set_cons_succ]) (hCont (gb382) _ ⟨hHeld, (bz BK355.out), (bz BK356.out), (bz BK369.out), (bz BK382.out), GW382.out, GE382.out, NB355_382.out, NB382_355.out, NB356_382.out, NB382_356.out, NB369_382.out, NB382_369.out, (hz4 HB.out GE355.out GE356.out GE369.out GE382.out)⟩)
   ·skip
    refine box_step ?hg (N := 6) ?hd (cs := #[.int .i64 0, .int .i64 0, .int .i64 0, .int .i64 0]) (t := 25) ?hr ?_; (case hd => rfl); (case hg => rfl); (case hr => first | (go_simp; done) | (go_simp; rfl))
    intro gb382 hg w25 hbox hb
    have n0_ := Aside0.mk (blk_below (g := gb355) (o := b4 a0_0 a0_1 a0_2 a0_3 23) (bz BK355.out) hb)
    have n1_ := Aside0.mk (blk_below (g := gb356) (o := b4 a1_0 a1_1 a1_2 a1_3 23) (bz BK356.out) hb)
    have n2_ := Aside0.mk (blk_below (g := gb369) (o := b4 t365 t366 t367 t368 25) (bz BK369.out) hb)
    have n3_ := Aside0.mk (below_step (hz3 HB.out GE355.out GE356.out GE369.out) hb)
    have n4_ := Aside0.mk (hbox)
    have n5_ := Aside0.mk ((by rw [hg]; exact (below_size (hz3 HB.out GE355.out GE356.out GE369.out)) : w.heap.size ≤ gb382))
    have n6_ := Aside0.mk ((by rw [hg]; exact (below_size (hz3 HB.out GE355.out GE356.out GE369.out)) : w.heap.size ≤ gb382))
    have n7_ := Aside0.mk ((by rw [hg]; exact Nat.ne_of_lt (blk_lt (g := gb355) (o := b4 a0_0 a0_1 a0_2 a0_3 23) (bz BK355.out)) : gb355 ≠ gb382))
    have n8_ := Aside0.mk ((by rw [hg]; exact Nat.ne_of_gt (blk_lt (g := gb355) (o := b4 a0_0 a0_1 a0_2 a0_3 23) (bz BK355.out)) : gb382 ≠ gb355))
    have n9_ := Aside0.mk ((by rw [hg]; exact Nat.ne_of_lt (blk_lt (g := gb356) (o := b4 a1_0 a1_1 a1_2 a1_3 23) (bz BK356.out)) : gb356 ≠ gb382))
    have n10_ := Aside0.mk ((by rw [hg]; exact Nat.ne_of_gt (blk_lt (g := gb356) (o := b4 a1_0 a1_1 a1_2 a1_3 23) (bz BK356.out)) : gb382 ≠ gb356))
    have n11_ := Aside0.mk ((by rw [hg]; exact Nat.ne_of_lt (blk_lt (g := gb369) (o := b4 t365 t366 t367 t368 25) (bz BK369.out)) : gb369 ≠ gb382))
    have n12_ := Aside0.mk ((by rw [hg]; exact Nat.ne_of_gt (blk_lt (g := gb369) (o := b4 t365 t366 t367 t368 25) (bz BK369.out)) : gb382 ≠ gb369))
    clear BK355
    clear BK356
    clear BK369
    clear HB
    have BK355 := n0_
    have BK356 := n1_
    have BK369 := n2_
    have HB := n3_
    have BK382 := n4_
    have GW382 := n5_
    have GE382 := n6_
    have NB355_382 := n7_
    have NB382_355 := n8_
    have NB356_382 := n9_
    have NB382_356 := n10_
    have NB369_382 := n11_
    have NB382_369 := n12_
    clear n0_ n1_ n2_ n3_ n4_ n5_ n6_ n7_ n8_ n9_ n10_ n11_ n12_
    clear hb hbox hg
    refine hK.out _ _ ⟨bc BK355 0, bc BK355 1, bc BK355 2, bc BK355 3, bc BK356 0, bc BK356 1, bc BK356 2, bc BK356 3⟩ (fun hHeld => ?_)
    clear hK K
    refine norm_ (a' := ?_) ?_ ?_
    rotate_left
    ·show Act.put _ (some 6) _ = _
     simp only [Act.put, List.setIfInBounds_toArray, List.set_cons_zero, List.set_cons_succ, i64_w, i32_w]
     rfl
    refine one_ (i := 1) (N := some 13) #[T, T, T, F, F, T, F] rfl rfl (by kernel_rfl) (by decide) (fun K hK => ?_)
    refine goes_ Try.func16 (by kernel_rfl) rfl #[.agg #[.int .i64 a0_0, .int .i64 a0_1, .int .i64 a0_2, .int .i64 a0_3]] (by rfl) rfl rfl mz ?_
    with_reducible refine (laws_toVal.calls a0_0 a0_1 a0_2 a0_3 t370 t371 t372 t373 _ A6.out).mono ?_
    rintro e w26 ⟨rfl, hb⟩
    refine ⟨_, rfl, ?_⟩
    have n0_ := Aside0.mk (blk_below (g := gb355) (o := b4 a0_0 a0_1 a0_2 a0_3 23) (bz BK355.out) hb)
    have n1_ := Aside0.mk (blk_below (g := gb356) (o := b4 a1_0 a1_1 a1_2 a1_3 23) (bz BK356.out) hb)
    have n2_ := Aside0.mk (blk_below (g := gb369) (o := b4 t365 t366 t367 t368 25) (bz BK369.out) hb)
    have n3_ := Aside0.mk (blk_below (g := gb382) (o := b4 0 0 0 0 25) (bz BK382.out) hb)
    have n4_ := Aside0.mk (below_step (hz4 HB.out GE355.out GE356.out GE369.out GE382.out) hb)
    clear BK355
    clear BK356
    clear BK369
    clear BK382
    clear HB
    have BK355 := n0_
    have BK356 := n1_
    have BK369 := n2_
    have BK382 := n3_
    have HB := n4_
    clear n0_ n1_ n2_ n3_ n4_
    (try clear hb)
    (try clear hb2)
    (try clear hk)
    (try clear hi)
    refine hK.out _ _ ⟨bc BK355 0, bc BK355 1, bc BK355 2, bc BK355 3, bc BK356 0, bc BK356 1, bc BK356 2, bc BK356 3⟩ (fun hHeld => ?_)
    clear hK K
    refine norm_ (a' := ?_) ?_ ?_
    rotate_left
    ·show Act.put _ (some 13) _ = _
     simp only [Act.put, List.setIfInBounds_toArray, List.set_cons_zero, List.set_cons_succ, i64_w, i32_w]
     rfl
    refine one_ (i := 3) (N := some 15) #[T, T, T, T, F, T, F] rfl rfl (by kernel_rfl) (by decide) (fun K hK => ?_)
    refine goes_ Try.func16 (by kernel_rfl) rfl #[.agg #[.int .i64 a1_0, .int .i64 a1_1, .int .i64 a1_2, .int .i64 a1_3]] (by rfl) rfl rfl mz ?_
    with_reducible refine (laws_toVal.calls a1_0 a1_1 a1_2 a1_3 t374 t375 t376 t377 _ A7.out).mono ?_
    rintro e w27 ⟨rfl, hb⟩
    refine ⟨_, rfl, ?_⟩
    have n0_ := Aside0.mk (blk_below (g := gb355) (o := b4 a0_0 a0_1 a0_2 a0_3 23) (bz BK355.out) hb)
    have n1_ := Aside0.mk (blk_below (g := gb356) (o := b4 a1_0 a1_1 a1_2 a1_3 23) (bz BK356.out) hb)
    have n2_ := Aside0.mk (blk_below (g := gb369) (o := b4 t365 t366 t367 t368 25) (bz BK369.out) hb)
    have n3_ := Aside0.mk (blk_below (g := gb382) (o := b4 0 0 0 0 25) (bz BK382.out) hb)
    have n4_ := Aside0.mk (below_step (hz4 HB.out GE355.out GE356.out GE369.out GE382.out) hb)
    clear BK355
    clear BK356
    clear BK369
    clear BK382
    clear HB
    have BK355 := n0_
    have BK356 := n1_
    have BK369 := n2_
    have BK382 := n3_
    have HB := n4_
    clear n0_ n1_ n2_ n3_ n4_
    (try clear hb)
    (try clear hb2)
    (try clear hk)
    (try clear hi)
    refine hK.out _ _ ⟨bc BK355 0, bc BK355 1, bc BK355 2, bc BK355 3, bc BK356 0, bc BK356 1, bc BK356 2, bc BK356 3⟩ (fun hHeld => ?_)
    clear hK K
    refine norm_ (a' := ?_) ?_ ?_
    rotate_left
    ·show Act.put _ (some 15) _ = _
     simp only [Act.put, List.setIfInBounds_toArray, List.set_cons_zero, List.set_cons_succ, i64_w, i32_w]
     rfl
    refine one_ (i := 4) (N := some 16) #[T, T, T, T, T, T, F] rfl rfl (by kernel_rfl) (by decide) (fun K hK => ?_)
    refine goes_ Try.func21 (by kernel_rfl) rfl #[.agg #[.int .i64 t370, .int .i64 t371, .int .i64 t372, .int .i64 t373], .agg #[.int .i64 t374, .int .i64 t375, .int .i64 t376, .int .i64 t377]] (by rfl) rfl rfl mz ?_
    with_reducible refine (impl_ValJoin.calls k t370 t371 t372 t373 t374 t375 t376 t377 t378 t379 t380 t381 _ A8.out).mono ?_
    rintro e w28 ⟨rfl, hb⟩
    refine ⟨_, rfl, ?_⟩
    have n0_ := Aside0.mk (blk_below (g := gb355) (o := b4 a0_0 a0_1 a0_2 a0_3 23) (bz BK355.out) hb)
    have n1_ := Aside0.mk (blk_below (g := gb356) (o := b4 a1_0 a1_1 a1_2 a1_3 23) (bz BK356.out) hb)
    have n2_ := Aside0.mk (blk_below (g := gb369) (o := b4 t365 t366 t367 t368 25) (bz BK369.out) hb)
    have n3_ := Aside0.mk (blk_below (g := gb382) (o := b4 0 0 0 0 25) (bz BK382.out) hb)
    have n4_ := Aside0.mk (below_step (hz4 HB.out GE355.out GE356.out GE369.out GE382.out) hb)
    clear BK355
    clear BK356
    clear BK369
    clear BK382
    clear HB
    have BK355 := n0_
    have BK356 := n1_
    have BK369 := n2_
    have BK382 := n3_
    have HB := n4_
    clear n0_ n1_ n2_ n3_ n4_
    (try clear hb)
    (try clear hb2)
    (try clear hk)
    (try clear hi)
    refine hK.out _ _ ⟨bc BK355 0, bc BK355 1, bc BK355 2, bc BK355 3, bc BK356 0, bc BK356 1, bc BK356 2, bc BK356 3⟩ (fun hHeld => ?_)
    clear hK K
    refine norm_ (a' := ?_) ?_ ?_
    rotate_left
    ·show Act.put _ (some 16) _ = _
     simp only [Act.put, List.setIfInBounds_toArray, List.set_cons_zero, List.set_cons_succ, i64_w, i32_w]
     rfl
    exact norm_ (by simp only [putAll, Act.put, List.setIfInBounds_toArray, List.set_cons_zero, List.set_cons_succ]) (hCont (gb382) _ ⟨hHeld, (bz BK355.out), (bz BK356.out), (bz BK369.out), (bz BK382.out), GW382.out, GE382.out, NB355_382.out, NB382_355.out, NB356_382.out, NB382_356.out, NB369_382.out, NB382_369.out, (hz4 HB.out GE355.out GE356.out GE369.out GE382.out)⟩)
  rintro gb382 w29 ⟨hS_, h0_, h1_, h2_, h3_, h4_, h5_, h6_, h7_, h8_, h9_, h10_, h11_, h12_⟩
  have n0_ : Aside0 (w29.heap[gb355]? = some (.cells #[.int .i64 a0_0, .int .i64 a0_1, .int .i64 a0_2, .int .i64 a0_3] 23 (0, 0))) := ⟨h0_⟩
  have n1_ : Aside0 (w29.heap[gb356]? = some (.cells #[.int .i64 a1_0, .int .i64 a1_1, .int .i64 a1_2, .int .i64 a1_3] 23 (0, 0))) := ⟨h1_⟩
  have n2_ : Aside0 (w29.heap[gb369]? = some (.cells #[.int .i64 t365, .int .i64 t366, .int .i64 t367, .int .i64 t368] 25 (0, 0))) := ⟨h2_⟩
  have n3_ : Aside0 (w29.heap[gb382]? = some (.cells #[.int .i64 0, .int .i64 0, .int .i64 0, .int .i64 0] 25 (0, 0))) := ⟨h3_⟩
  have n4_ : Aside0 (w.heap.size ≤ gb382) := ⟨h4_⟩
  have n5_ : Aside0 (w.heap.size ≤ gb382) := ⟨h5_⟩
  have n6_ : Aside0 (gb355 ≠ gb382) := ⟨h6_⟩
  have n7_ : Aside0 (gb382 ≠ gb355) := ⟨h7_⟩
  have n8_ : Aside0 (gb356 ≠ gb382) := ⟨h8_⟩
  have n9_ : Aside0 (gb382 ≠ gb356) := ⟨h9_⟩
  have n10_ : Aside0 (gb369 ≠ gb382) := ⟨h10_⟩
  have n11_ : Aside0 (gb382 ≠ gb369) := ⟨h11_⟩
  have n12_ : Aside0 (Below w.heap.size w w29) := ⟨h12_⟩
  clear BK355
  clear BK356
  clear BK369
  clear HB
  clear h0_ h1_ h2_ h3_ h4_ h5_ h6_ h7_ h8_ h9_ h10_ h11_ h12_
  have BK355 := n0_
  have BK356 := n1_
  have BK369 := n2_
  have BK382 := n3_
  have GW382 := n4_
  have GE382 := n5_
  have NB355_382 := n6_
  have NB382_355 := n7_
  have NB356_382 := n8_
  have NB382_356 := n9_
  have NB369_382 := n10_
  have NB382_369 := n11_
  have HB := n12_
  clear n0_ n1_ n2_ n3_ n4_ n5_ n6_ n7_ n8_ n9_ n10_ n11_ n12_
  have hHeld : w29.cell? ⟨gb355, 0, none⟩ = some (.int .i64 a0_0) ∧ w29.cell? ⟨gb355, 1, none⟩ = some (.int .i64 a0_1) ∧ w29.cell? ⟨gb355, 2, none⟩ = some (.int .i64 a0_2) ∧ w29.cell? ⟨gb355, 3, none⟩ = some (.int .i64 a0_3) ∧ w29.cell? ⟨gb356, 0, none⟩ = some (.int .i64 a1_0) ∧ w29.cell? ⟨gb356, 1, none⟩ = some (.int .i64 a1_1) ∧ w29.cell? ⟨gb356, 2, none⟩ = some (.int .i64 a1_2) ∧ w29.cell? ⟨gb356, 3, none⟩ = some (.int .i64 a1_3) := hS_
  refine norm_ (a' := ?_) ?_ ?_
  rotate_left
  ·simp only [putAll, Act.put, List.setIfInBounds_toArray, List.set_cons_zero, List.set_cons_succ]
   rfl
  refine one_ (i := 6) (N := none) #[T, T, T, T, T, T, T] rfl rfl (by kernel_rfl) (by decide) (fun K hK => ?_)
  have hs30 : w29.cell? ⟨gb382, 0, none⟩ = some (.int .i64 0) := bc BK382 0
  have hfs30 := blk_frozen BK382.out 0
  have hns30_0 := NB355_382.out
  have hns30_1 := NB356_382.out
  have hns30_2 := NB369_382.out
  have hms30_0 := NB382_355.out
  have hms30_1 := NB382_356.out
  have hms30_2 := NB382_369.out
  have hs31 : w29.cell? ⟨gb382, 1, none⟩ = some (.int .i64 0) := bc BK382 1
  have hfs31 := blk_frozen BK382.out 1
  have hns31_0 := NB355_382.out
  have hns31_1 := NB356_382.out
  have hns31_2 := NB369_382.out
  have hms31_0 := NB382_355.out
  have hms31_1 := NB382_356.out
  have hms31_2 := NB382_369.out
  have hs32 : w29.cell? ⟨gb382, 2, none⟩ = some (.int .i64 0) := bc BK382 2
  have hfs32 := blk_frozen BK382.out 2
  have hns32_0 := NB355_382.out
  have hns32_1 := NB356_382.out
  have hns32_2 := NB369_382.out
  have hms32_0 := NB382_355.out
  have hms32_1 := NB382_356.out
  have hms32_2 := NB382_369.out
  have hs33 : w29.cell? ⟨gb382, 3, none⟩ = some (.int .i64 0) := bc BK382 3
  have hfs33 := blk_frozen BK382.out 3
  have hns33_0 := NB355_382.out
  have hns33_1 := NB356_382.out
  have hns33_2 := NB369_382.out
  have hms33_0 := NB382_355.out
  have hms33_1 := NB382_356.out
  have hms33_2 := NB382_369.out
  refine skip_ (w1 := ?_) (by rfl) rfl ?_ ?_
  rotate_left
  ·go_simp
   rfl
  refine hK.out _ _ ⟨((cell_far (p := ⟨gb382, _, none⟩) NB355_382.out _).trans (((cell_far (p := ⟨gb382, _, none⟩) NB355_382.out _).trans (((cell_far (p := ⟨gb382, _, none⟩) NB355_382.out _).trans (((cell_far (p := ⟨gb382, _, none⟩) NB355_382.out _).trans (hHeld.1)))))))), ((cell_far (p := ⟨gb382, _, none⟩) NB355_382.out _).trans (((cell_far (p := ⟨gb382, _, none⟩) NB355_382.out _).trans (((cell_far (p := ⟨gb382, _, none⟩) NB355_382.out _).trans (((cell_far (p := ⟨gb382, _, none⟩) NB355_382.out _).trans (hHeld.2.1)))))))), ((cell_far (p := ⟨gb382, _, none⟩) NB355_382.out _).trans (((cell_far (p := ⟨gb382, _, none⟩) NB355_382.out _).trans (((cell_far (p := ⟨gb382, _, none⟩) NB355_382.out _).trans (((cell_far (p := ⟨gb382, _, none⟩) NB355_382.out _).trans (hHeld.2.2.1)))))))), ((cell_far (p := ⟨gb382, _, none⟩) NB355_382.out _).trans (((cell_far (p := ⟨gb382, _, none⟩) NB355_382.out _).trans (((cell_far (p := ⟨gb382, _, none⟩) NB355_382.out _).trans (((cell_far (p := ⟨gb382, _, none⟩) NB355_382.out _).trans (hHeld.2.2.2.1)))))))), ((cell_far (p := ⟨gb382, _, none⟩) NB356_382.out _).trans (((cell_far (p := ⟨gb382, _, none⟩) NB356_382.out _).trans (((cell_far (p := ⟨gb382, _, none⟩) NB356_382.out _).trans (((cell_far (p := ⟨gb382, _, none⟩) NB356_382.out _).trans (hHeld.2.2.2.2.1)))))))), ((cell_far (p := ⟨gb382, _, none⟩) NB356_382.out _).trans (((cell_far (p := ⟨gb382, _, none⟩) NB356_382.out _).trans (((cell_far (p := ⟨gb382, _, none⟩) NB356_382.out _).trans (((cell_far (p := ⟨gb382, _, none⟩) NB356_382.out _).trans (hHeld.2.2.2.2.2.1)))))))), ((cell_far (p := ⟨gb382, _, none⟩) NB356_382.out _).trans (((cell_far (p := ⟨gb382, _, none⟩) NB356_382.out _).trans (((cell_far (p := ⟨gb382, _, none⟩) NB356_382.out _).trans (((cell_far (p := ⟨gb382, _, none⟩) NB356_382.out _).trans (hHeld.2.2.2.2.2.2.1)))))))), ((cell_far (p := ⟨gb382, _, none⟩) NB356_382.out _).trans (((cell_far (p := ⟨gb382, _, none⟩) NB356_382.out _).trans (((cell_far (p := ⟨gb382, _, none⟩) NB356_382.out _).trans (((cell_far (p := ⟨gb382, _, none⟩) NB356_382.out _).trans (hHeld.2.2.2.2.2.2.2))))))))⟩ (fun hHeld => ?_)
  clear hK K
  refine done_ (by kernel_rfl) ?_
  have hnb34 := NB382_355.out
  have hnc34 := NB355_382.out
  have hnb35 := NB382_356.out
  have hnc35 := NB356_382.out
  have hnb36 := NB382_369.out
  have hnc36 := NB369_382.out
  have hcz37_0 : w29.cell? ⟨gb382, 0, none⟩ = some (.int .i64 0) := bc BK382 0
  have hcz37_1 : w29.cell? ⟨gb382, 1, none⟩ = some (.int .i64 0) := bc BK382 1
  have hcz37_2 : w29.cell? ⟨gb382, 2, none⟩ = some (.int .i64 0) := bc BK382 2
  have hcz37_3 : w29.cell? ⟨gb382, 3, none⟩ = some (.int .i64 0) := bc BK382 3
  have hfz37_0 := blk_frozen BK382.out 0
  have hfz37_1 := blk_frozen BK382.out 1
  have hfz37_2 := blk_frozen BK382.out 2
  have hfz37_3 := blk_frozen BK382.out 3
  have hnb38 := NB369_355.out
  have hnc38 := NB355_369.out
  have hnb39 := NB369_356.out
  have hnc39 := NB356_369.out
  have hcz40_0 : w29.cell? ⟨gb369, 0, none⟩ = some (.int .i64 t365) := bc BK369 0
  have hcz40_1 : w29.cell? ⟨gb369, 1, none⟩ = some (.int .i64 t366) := bc BK369 1
  have hcz40_2 : w29.cell? ⟨gb369, 2, none⟩ = some (.int .i64 t367) := bc BK369 2
  have hcz40_3 : w29.cell? ⟨gb369, 3, none⟩ = some (.int .i64 t368) := bc BK369 3
  have hfz40_0 := blk_frozen BK369.out 0
  have hfz40_1 := blk_frozen BK369.out 1
  have hfz40_2 := blk_frozen BK369.out 2
  have hfz40_3 := blk_frozen BK369.out 3
  try go_wp2_with (first | ((with_reducible refine gate_callee (f := 22) rfl ?_); refine goesL_ (some 19) rfl rfl Try.func22 (by kernel_rfl) rfl #[.agg #[.int .i64 t378, .int .i64 t379, .int .i64 t380, .int .i64 t381], .agg #[.int .i64 t365, .int .i64 t366, .int .i64 t367, .int .i64 t368]] rfl mz ?_; (with_reducible refine (laws_eqVal.calls t378 t379 t380 t381 t365 t366 t367 t368 true _ A9.out).mono ?_); rintro e w41 ⟨rfl, hb⟩; refine ⟨_, rfl, ?_⟩; have n0_ := Aside0.mk (blk_below (g := gb355) (o := b4 a0_0 a0_1 a0_2 a0_3 23) (by (with_reducible repeat (first | refine blk_drewN ?_ _ | refine blk_drew ?_ | refine blk_alloc ?_ _)); refine blk_far ?_ NB355_382.out _; (with_reducible repeat (first | refine blk_drewN ?_ _ | refine blk_drew ?_ | refine blk_alloc ?_ _)); refine blk_far ?_ NB355_382.out _; (with_reducible repeat (first | refine blk_drewN ?_ _ | refine blk_drew ?_ | refine blk_alloc ?_ _)); refine blk_far ?_ NB355_382.out _; (with_reducible repeat (first | refine blk_drewN ?_ _ | refine blk_drew ?_ | refine blk_alloc ?_ _)); refine blk_far ?_ NB355_382.out _; (with_reducible repeat (first | refine blk_drewN ?_ _ | refine blk_drew ?_ | refine blk_alloc ?_ _)); exact BK355.out) hb); have n1_ := Aside0.mk (blk_below (g := gb356) (o := b4 a1_0 a1_1 a1_2 a1_3 23) (by (with_reducible repeat (first | refine blk_drewN ?_ _ | refine blk_drew ?_ | refine blk_alloc ?_ _)); refine blk_far ?_ NB356_382.out _; (with_reducible repeat (first | refine blk_drewN ?_ _ | refine blk_drew ?_ | refine blk_alloc ?_ _)); refine blk_far ?_ NB356_382.out _; (with_reducible repeat (first | refine blk_drewN ?_ _ | refine blk_drew ?_ | refine blk_alloc ?_ _)); refine blk_far ?_ NB356_382.out _; (with_reducible repeat (first | refine blk_drewN ?_ _ | refine blk_drew ?_ | refine blk_alloc ?_ _)); refine blk_far ?_ NB356_382.out _; (with_reducible repeat (first | refine blk_drewN ?_ _ | refine blk_drew ?_ | refine blk_alloc ?_ _)); exact BK356.out) hb); have n2_ := Aside0.mk (blk_below (g := gb369) (o := b4 t365 t366 t367 t368 25) (by (with_reducible repeat (first | refine blk_drewN ?_ _ | refine blk_drew ?_ | refine blk_alloc ?_ _)); refine blk_far ?_ NB369_382.out _; (with_reducible repeat (first | refine blk_drewN ?_ _ | refine blk_drew ?_ | refine blk_alloc ?_ _)); refine blk_far ?_ NB369_382.out _; (with_reducible repeat (first | refine blk_drewN ?_ _ | refine blk_drew ?_ | refine blk_alloc ?_ _)); refine blk_far ?_ NB369_382.out _; (with_reducible repeat (first | refine blk_drewN ?_ _ | refine blk_drew ?_ | refine blk_alloc ?_ _)); refine blk_far ?_ NB369_382.out _; (with_reducible repeat (first | refine blk_drewN ?_ _ | refine blk_drew ?_ | refine blk_alloc ?_ _)); exact BK369.out) hb); have n3_ := Aside0.mk (blk_below (g := gb382) (o := b4 t378 t379 t380 t381 25) (by (with_reducible repeat (first | refine blk_drewN ?_ _ | refine blk_drew ?_ | refine blk_alloc ?_ _)); refine blk_put (cs := #[.int .i64 t378, .int .i64 t379, .int .i64 t380, .int .i64 0]) ?_ 3 _ rfl; (with_reducible repeat (first | refine blk_drewN ?_ _ | refine blk_drew ?_ | refine blk_alloc ?_ _)); refine blk_put (cs := #[.int .i64 t378, .int .i64 t379, .int .i64 0, .int .i64 0]) ?_ 2 _ rfl; (with_reducible repeat (first | refine blk_drewN ?_ _ | refine blk_drew ?_ | refine blk_alloc ?_ _)); refine blk_put (cs := #[.int .i64 t378, .int .i64 0, .int .i64 0, .int .i64 0]) ?_ 1 _ rfl; (with_reducible repeat (first | refine blk_drewN ?_ _ | refine blk_drew ?_ | refine blk_alloc ?_ _)); refine blk_put (cs := #[.int .i64 0, .int .i64 0, .int .i64 0, .int .i64 0]) ?_ 0 _ rfl; (with_reducible repeat (first | refine blk_drewN ?_ _ | refine blk_drew ?_ | refine blk_alloc ?_ _)); exact BK382.out) hb); have n4_ := Aside0.mk (below_step (hz4 HB.out GE355.out GE356.out GE369.out GE382.out) hb); clear BK355; clear BK356; clear BK369; clear BK382; clear HB; have BK355 := n0_; have BK356 := n1_; have BK369 := n2_; have BK382 := n3_; have HB := n4_; clear n0_ n1_ n2_ n3_ n4_; (try clear hb); (try clear hb2); (try clear hk); (try clear hi)))
  go_ret
  exact ⟨by first | rfl | (simp [errW_none, errW_some] <;> rfl) | (simp [*, errW_none, errW_some] <;> rfl), hz4 HB.out GE355.out GE356.out GE369.out GE382.out⟩
 ·replace c10 := Bool.eq_false_iff.mpr c10
  subst c10
  have H1 : (none) = some r := by rw [if_neg (show ¬ (false = true) by decide)] at H; exact H
  clear H
  have H := H1
  clear H1
  exact absurd H (by simp)

end Go.Proofs.Ytnmccgjdnceheaa.PFnExactValJoin
