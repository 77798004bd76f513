/- Written by this session's own driver (wip/dprint.py): the functions that the law FnExactValMeet reaches, as Lean functions, each with its contract. -/
import Derived.Test.YtnmccgjdnceheaaPFnExactValMeetx0
import Derived.Test.YtnmccgjdnceheaaPFnExactValMeetx3
import Derived.Test.YtnmccgjdnceheaaPFnExactValMeetx11
import Derived.Test.YtnmccgjdnceheaaPFnExactValMeetx17
import Derived.Test.YtnmccgjdnceheaaSv
namespace Go.Proofs.Ytnmccgjdnceheaa.PFnExactValMeet
open Go.RowKit Go.Proofs.YtnmccgjdnceheaaV.PrintWords Go.Proofs.YtnmccgjdnceheaaV.PrintLast Go.Proofs.YtnmccgjdnceheaaV.PrintMore Go.Proofs.YtnmccgjdnceheaaSv
attribute [local go_sem] max2_int min2_int max_two min_two max_three min_three max_four min_four   -- for this text's walks alone
set_option linter.unusedVariables false
set_option linter.unusedSimpArgs false

/-! ### laws_FnExactValMeet: function 6 -/
def laws_FnExactValMeet.f (k : Nat) (a0_0 : Int) (a0_1 : Int) (a0_2 : Int) (a0_3 : Int) (a1_0 : Int) (a1_1 : Int) (a1_2 : Int) (a1_3 : Int) : Option (Bool) := (laws_toVal.f a0_0 a0_1 a0_2 a0_3).bind fun bt377 => ((laws_toVal.f a1_0 a1_1 a1_2 a1_3).bind fun bt381 => ((spec_ValMeet.f k bt377.1 bt377.2.1 bt377.2.2.1 bt377.2.2.2 bt381.1 bt381.2.1 bt381.2.2.1 bt381.2.2.2).bind fun bt385 => ((laws_toVal.f a0_0 a0_1 a0_2 a0_3).bind fun bt390 => ((laws_toVal.f a1_0 a1_1 a1_2 a1_3).bind fun bt394 => ((impl_ValMeet.f k bt390.1 bt390.2.1 bt390.2.2.1 bt390.2.2.2 bt394.1 bt394.2.1 bt394.2.2.1 bt394.2.2.2).bind fun bt398 => ((laws_eqVal.f bt398.1 bt398.2.1 bt398.2.2.1 bt398.2.2.2 bt385.1 bt385.2.1 bt385.2.2.1 bt385.2.2.2).bind fun t403 => (if t403 = true then (some true) else (none))))))))
theorem laws_FnExactValMeet.mono : ∀ a0 a1 a2 a3 a4 a5 a6 a7 k, LeO (laws_FnExactValMeet.f k a0 a1 a2 a3 a4 a5 a6 a7) (laws_FnExactValMeet.f (k + 1) a0 a1 a2 a3 a4 a5 a6 a7) := by
 intro a0 a1 a2 a3 a4 a5 a6 a7 k
 unfold laws_FnExactValMeet.f
 repeat' first
   | (with_reducible exact impl_ValMeet.mono _ _ _ _ _ _ _ _ _)
   | (with_reducible exact spec_ValMeet.mono _ _ _ _ _ _ _ _ _)
   | (with_reducible exact LeO.refl _)
   | (with_reducible exact LeO.none _)
   | (with_reducible refine LeO.ite ?_ ?_)
   | (with_reducible refine LeO.bind ?_ (fun _ => ?_))
   | exact impl_ValMeet.mono _ _ _ _ _ _ _ _ _
   | exact spec_ValMeet.mono _ _ _ _ _ _ _ _ _
   | exact LeO.none _
   | refine LeO.ite ?_ ?_
   | refine LeO.bind ?_ (fun _ => ?_)
set_option maxHeartbeats 8000000 in
set_option maxRecDepth 100000 in
theorem laws_FnExactValMeet.calls (k : Nat) (a0_0 : Int) (a0_1 : Int) (a0_2 : Int) (a0_3 : Int) (a1_0 : Int) (a1_1 : Int) (a1_2 : Int) (a1_3 : Int) (r : Bool) (w : World) (h : laws_FnExactValMeet.f k a0_0 a0_1 a0_2 a0_3 a1_0 a1_1 a1_2 a1_3 = some r) :
  Calls Try.prog 6 #[.agg #[.int .i64 a0_0, .int .i64 a0_1, .int .i64 a0_2, .int .i64 a0_3], .agg #[.int .i64 a1_0, .int .i64 a1_1, .int .i64 a1_2, .int .i64 a1_3]] w fun e w' => e = .returned (.bool r) ∧ Below w.heap.size w w' := by
 have hu23 := Try.underlying23
 have hu25 := Try.underlying25
 have HB := Aside0.mk (Below.refl w.heap.size w)
 have H : ((laws_toVal.f a0_0 a0_1 a0_2 a0_3).bind fun bt377 => ((laws_toVal.f a1_0 a1_1 a1_2 a1_3).bind fun bt381 => ((spec_ValMeet.f k bt377.1 bt377.2.1 bt377.2.2.1 bt377.2.2.2 bt381.1 bt381.2.1 bt381.2.2.1 bt381.2.2.2).bind fun bt385 => ((laws_toVal.f a0_0 a0_1 a0_2 a0_3).bind fun bt390 => ((laws_toVal.f a1_0 a1_1 a1_2 a1_3).bind fun bt394 => ((impl_ValMeet.f k bt390.1 bt390.2.1 bt390.2.2.1 bt390.2.2.2 bt394.1 bt394.2.1 bt394.2.2.1 bt394.2.2.2).bind fun bt398 => ((laws_eqVal.f bt398.1 bt398.2.1 bt398.2.2.1 bt398.2.2.2 bt385.1 bt385.2.1 bt385.2.2.1 bt385.2.2.2).bind fun t403 => (if t403 = true then (some true) else (none))))))))) = some r := h
 clear h
 replace H := Option.bind_eq_some_iff.mp H
 obtain ⟨⟨t377, t378, t379, t380⟩, A30, H⟩ := H
 replace H : ((laws_toVal.f a1_0 a1_1 a1_2 a1_3).bind fun bt381 => ((spec_ValMeet.f k t377 t378 t379 t380 bt381.1 bt381.2.1 bt381.2.2.1 bt381.2.2.2).bind fun bt385 => ((laws_toVal.f a0_0 a0_1 a0_2 a0_3).bind fun bt390 => ((laws_toVal.f a1_0 a1_1 a1_2 a1_3).bind fun bt394 => ((impl_ValMeet.f k bt390.1 bt390.2.1 bt390.2.2.1 bt390.2.2.2 bt394.1 bt394.2.1 bt394.2.2.1 bt394.2.2.2).bind fun bt398 => ((laws_eqVal.f bt398.1 bt398.2.1 bt398.2.2.1 bt398.2.2.2 bt385.1 bt385.2.1 bt385.2.2.1 bt385.2.2.2).bind fun t403 => (if t403 = true then (some true) else (none)))))))) = some r := H
 have A3 := Aside0.mk A30
 clear A30
 replace H := Option.bind_eq_some_iff.mp H
 obtain ⟨⟨t381, t382, t383, t384⟩, A40, H⟩ := H
 replace H : ((spec_ValMeet.f k t377 t378 t379 t380 t381 t382 t383 t384).bind fun bt385 => ((laws_toVal.f a0_0 a0_1 a0_2 a0_3).bind fun bt390 => ((laws_toVal.f a1_0 a1_1 a1_2 a1_3).bind fun bt394 => ((impl_ValMeet.f k bt390.1 bt390.2.1 bt390.2.2.1 bt390.2.2.2 bt394.1 bt394.2.1 bt394.2.2.1 bt394.2.2.2).bind fun bt398 => ((laws_eqVal.f bt398.1 bt398.2.1 bt398.2.2.1 bt398.2.2.2 bt385.1 bt385.2.1 bt385.2.2.1 bt385.2.2.2).bind fun t403 => (if t403 = true then (some true) else (none))))))) = some r := H
 have A4 := Aside0.mk A40
 clear A40
 replace H := Option.bind_eq_some_iff.mp H
 obtain ⟨⟨t385, t386, t387, t388⟩, A50, H⟩ := H
 replace H : ((laws_toVal.f a0_0 a0_1 a0_2 a0_3).bind fun bt390 => ((laws_toVal.f a1_0 a1_1 a1_2 a1_3).bind fun bt394 => ((impl_ValMeet.f k bt390.1 bt390.2.1 bt390.2.2.1 bt390.2.2.2 bt394.1 bt394.2.1 bt394.2.2.1 bt394.2.2.2).bind fun bt398 => ((laws_eqVal.f bt398.1 bt398.2.1 bt398.2.2.1 bt398.2.2.2 t385 t386 t387 t388).bind fun t403 => (if t403 = true then (some true) else (none)))))) = some r := H
 have A5 := Aside0.mk A50
 clear A50
 replace H := Option.bind_eq_some_iff.mp H
 obtain ⟨⟨t390, t391, t392, t393⟩, A60, H⟩ := H
 replace H : ((laws_toVal.f a1_0 a1_1 a1_2 a1_3).bind fun bt394 => ((impl_ValMeet.f k t390 t391 t392 t393 bt394.1 bt394.2.1 bt394.2.2.1 bt394.2.2.2).bind fun bt398 => ((laws_eqVal.f bt398.1 bt398.2.1 bt398.2.2.1 bt398.2.2.2 t385 t386 t387 t388).bind fun t403 => (if t403 = true then (some true) else (none))))) = some r := H
 have A6 := Aside0.mk A60
 clear A60
 replace H := Option.bind_eq_some_iff.mp H
 obtain ⟨⟨t394, t395, t396, t397⟩, A70, H⟩ := H
 replace H : ((impl_ValMeet.f k t390 t391 t392 t393 t394 t395 t396 t397).bind fun bt398 => ((laws_eqVal.f bt398.1 bt398.2.1 bt398.2.2.1 bt398.2.2.2 t385 t386 t387 t388).bind fun t403 => (if t403 = true then (some true) else (none)))) = some r := H
 have A7 := Aside0.mk A70
 clear A70
 replace H := Option.bind_eq_some_iff.mp H
 obtain ⟨⟨t398, t399, t400, t401⟩, A80, H⟩ := H
 replace H : ((laws_eqVal.f t398 t399 t400 t401 t385 t386 t387 t388).bind fun t403 => (if t403 = true then (some true) else (none))) = some r := H
 have A8 := Aside0.mk A80
 clear A80
 replace H := Option.bind_eq_some_iff.mp H
 obtain ⟨t403, A90, H⟩ := H
 replace H : (if t403 = true then (some true) else (none)) = some r := H
 have A9 := Aside0.mk A90
 clear A90
 by_cases c10 : t403 = true
 ·subst c10
  have H1 : (some true) = some r := by rw [if_pos rfl] at H; exact H
  clear H
  have H := H1
  clear H1
  obtain rfl := Option.some.inj H
  go_enter Try.func6, Try.ntmps6
  try go_wp2_with (first | ((with_reducible refine gate_dst (N := 2) rfl ?_); refine box_event ?hg (N := 2) ?hd (cs := #[.int .i64 a0_0, .int .i64 a0_1, .int .i64 a0_2, .int .i64 a0_3]) (t := 23) ?hr ?_; (case hd => rfl); (case hg => rfl); (case hr => first | (go_simp; done) | (go_simp; rfl)); intro gb375 hg w11 hbox hb; have n0_ := Aside0.mk (below_step (hz HB.out) hb); have n1_ := Aside0.mk (hbox); have n2_ := Aside0.mk ((by rw [hg]; exact (below_size (hz HB.out)) : w.heap.size ≤ gb375)); have n3_ := Aside0.mk ((by rw [hg]; exact (below_size (hz HB.out)) : w.heap.size ≤ gb375)); clear HB; have HB := n0_; have BK375 := n1_; have GW375 := n2_; have GE375 := n3_; clear n0_ n1_ n2_ n3_; clear hb hbox hg) | ((with_reducible refine gate_dst (N := 3) rfl ?_); refine box_event ?hg (N := 3) ?hd (cs := #[.int .i64 a1_0, .int .i64 a1_1, .int .i64 a1_2, .int .i64 a1_3]) (t := 23) ?hr ?_; (case hd => rfl); (case hg => rfl); (case hr => first | (go_simp; done) | (go_simp; rfl)); intro gb376 hg w12 hbox hb; have n0_ := Aside0.mk (blk_below (g := gb375) (o := b4 a0_0 a0_1 a0_2 a0_3 23) (bz BK375.out) hb); have n1_ := Aside0.mk (below_step (hz1 HB.out GE375.out) hb); have n2_ := Aside0.mk (hbox); have n3_ := Aside0.mk ((by rw [hg]; exact (below_size (hz1 HB.out GE375.out)) : w.heap.size ≤ gb376)); have n4_ := Aside0.mk ((by rw [hg]; exact (below_size (hz1 HB.out GE375.out)) : w.heap.size ≤ gb376)); have n5_ := Aside0.mk ((by rw [hg]; exact Nat.ne_of_lt (blk_lt (g := gb375) (o := b4 a0_0 a0_1 a0_2 a0_3 23) (bz BK375.out)) : gb375 ≠ gb376)); have n6_ := Aside0.mk ((by rw [hg]; exact Nat.ne_of_gt (blk_lt (g := gb375) (o := b4 a0_0 a0_1 a0_2 a0_3 23) (bz BK375.out)) : gb376 ≠ gb375)); clear BK375; clear HB; have BK375 := n0_; have HB := n1_; have BK376 := n2_; have GW376 := n3_; have GE376 := n4_; have NB375_376 := n5_; have NB376_375 := n6_; clear n0_ n1_ n2_ n3_ n4_ n5_ n6_; clear hb hbox hg))
  have n0_ := Aside0.mk (blk_drew BK375.out)
  have n1_ := Aside0.mk (blk_drew BK376.out)
  have n2_ := Aside0.mk (below_drew1 HB.out)
  clear BK375
  clear BK376
  clear HB
  have BK375 := n0_
  have BK376 := n1_
  have HB := n2_
  clear n0_ n1_ n2_
  refine start_ (n := 7) (S := fun w' => w'.cell? ⟨gb375, 0, none⟩ = some (.int .i64 a0_0) ∧ w'.cell? ⟨gb375, 1, none⟩ = some (.int .i64 a0_1) ∧ w'.cell? ⟨gb375, 2, none⟩ = some (.int .i64 a0_2) ∧ w'.cell? ⟨gb375, 3, none⟩ = some (.int .i64 a0_3) ∧ w'.cell? ⟨gb376, 0, none⟩ = some (.int .i64 a1_0) ∧ w'.cell? ⟨gb376, 1, none⟩ = some (.int .i64 a1_1) ∧ w'.cell? ⟨gb376, 2, none⟩ = some (.int .i64 a1_2) ∧ w'.cell? ⟨gb376, 3, none⟩ = some (.int .i64 a1_3)) (ds := []) #[F, F, F, F, F, F, F] (by kernel_rfl) rfl rfl ⟨bc BK375 0, bc BK375 1, bc BK375 2, bc BK375 3, bc BK376 0, bc BK376 1, bc BK376 2, bc BK376 3⟩ (fun hHeld => ?_)
  generalize w12.drew = w13 at BK375 BK376 HB hHeld ⊢
  refine take_ (i := 0) (N := some 7) (v := ?_) (a' := ?_) #[T, F, F, F, F, F, F] rfl rfl (by kernel_rfl) (fun _ _ _ h => h) (Or.inl ⟨by rfl, ?_⟩) hHeld ?_ ?_
  rotate_left
  ·rintro w' ⟨s0, s1, s2, s3, s4, s5, s6, s7⟩
   go_simp
   with_reducible rfl
  rotate_left
  ·exact pz
  refine take_ (i := 2) (N := some 9) (v := ?_) (a' := ?_) #[T, F, T, F, F, F, F] rfl rfl (by kernel_rfl) (fun _ _ _ h => h) (Or.inl ⟨by rfl, ?_⟩) hHeld ?_ ?_
  rotate_left
  ·rintro w' ⟨s0, s1, s2, s3, s4, s5, s6, s7⟩
   go_simp
   with_reducible rfl
  rotate_left
  ·exact pz
  refine join_ (σ := Nat) 1 #[T, T, T, T, T, T, F] (fun s_ => [(8, .agg #[.int .i64 t377, .int .i64 t378, .int .i64 t379, .int .i64 t380]), (10, .agg #[.int .i64 t381, .int .i64 t382, .int .i64 t383, .int .i64 t384]), (11, .agg #[.int .i64 t385, .int .i64 t386, .int .i64 t387, .int .i64 t388]), (5, .pointer (some ⟨s_, 0, none⟩))]) (fun s_ w' => (w'.cell? ⟨gb375, 0, none⟩ = some (.int .i64 a0_0) ∧ w'.cell? ⟨gb375, 1, none⟩ = some (.int .i64 a0_1) ∧ w'.cell? ⟨gb375, 2, none⟩ = some (.int .i64 a0_2) ∧ w'.cell? ⟨gb375, 3, none⟩ = some (.int .i64 a0_3) ∧ w'.cell? ⟨gb376, 0, none⟩ = some (.int .i64 a1_0) ∧ w'.cell? ⟨gb376, 1, none⟩ = some (.int .i64 a1_1) ∧ w'.cell? ⟨gb376, 2, none⟩ = some (.int .i64 a1_2) ∧ w'.cell? ⟨gb376, 3, none⟩ = some (.int .i64 a1_3)) ∧ (w'.heap[gb375]? = some (.cells #[.int .i64 a0_0, .int .i64 a0_1, .int .i64 a0_2, .int .i64 a0_3] 23 (0, 0))) ∧ (w'.heap[gb376]? = some (.cells #[.int .i64 a1_0, .int .i64 a1_1, .int .i64 a1_2, .int .i64 a1_3] 23 (0, 0))) ∧ (w'.heap[s_]? = some (.cells #[.int .i64 0, .int .i64 0, .int .i64 0, .int .i64 0] 25 (0, 0))) ∧ (w.heap.size ≤ s_) ∧ (w.heap.size ≤ s_) ∧ (gb375 ≠ s_) ∧ (s_ ≠ gb375) ∧ (gb376 ≠ s_) ∧ (s_ ≠ gb376) ∧ (Below w.heap.size w w')) ?_ ?_
  rotate_left
  ·intro hCont
   refine two_ (i := 1) (j := 5) (Ni := some 8) (Nj := some 5) #[T, T, T, F, F, F, F] #[T, F, T, F, F, T, F] rfl rfl rfl rfl (by kernel_rfl) (by decide) (by decide) (fun K hK => ?_) (fun K hK => ?_)
   ·skip
    refine goes_ Try.func16 (by kernel_rfl) rfl #[.agg #[.int .i64 a0_0, .int .i64 a0_1, .int .i64 a0_2, .int .i64 a0_3]] (by rfl) rfl rfl mz ?_
    with_reducible refine (laws_toVal.calls a0_0 a0_1 a0_2 a0_3 t377 t378 t379 t380 _ A3.out).mono ?_
    rintro e w14 ⟨rfl, hb⟩
    refine ⟨_, rfl, ?_⟩
    have n0_ := Aside0.mk (blk_below (g := gb375) (o := b4 a0_0 a0_1 a0_2 a0_3 23) (bz BK375.out) hb)
    have n1_ := Aside0.mk (blk_below (g := gb376) (o := b4 a1_0 a1_1 a1_2 a1_3 23) (bz BK376.out) hb)
    have n2_ := Aside0.mk (below_step (hz2 HB.out GE375.out GE376.out) hb)
    clear BK375
    clear BK376
    clear HB
    have BK375 := n0_
    have BK376 := n1_
    have HB := n2_
    clear n0_ n1_ n2_
    (try clear hb)
    (try clear hb2)
    (try clear hk)
    (try clear hi)
    refine hK.out _ _ ⟨bc BK375 0, bc BK375 1, bc BK375 2, bc BK375 3, bc BK376 0, bc BK376 1, bc BK376 2, bc BK376 3⟩ (fun hHeld => ?_)
    clear hK K
    refine norm_ (a' := ?_) ?_ ?_
    rotate_left
    ·show Act.put _ (some 8) _ = _
     simp only [Act.put, List.setIfInBounds_toArray, List.set_cons_zero, List.set_cons_succ, i64_w, i32_w]
     rfl
    refine two_ (i := 3) (j := 5) (Ni := some 10) (Nj := some 5) #[T, T, T, T, F, F, F] #[T, T, T, F, F, T, F] rfl rfl rfl rfl (by kernel_rfl) (by decide) (by decide) (fun K hK => ?_) (fun K hK => ?_)
    ·skip
     refine goes_ Try.func16 (by kernel_rfl) rfl #[.agg #[.int .i64 a1_0, .int .i64 a1_1, .int .i64 a1_2, .int .i64 a1_3]] (by rfl) rfl rfl mz ?_
     with_reducible refine (laws_toVal.calls a1_0 a1_1 a1_2 a1_3 t381 t382 t383 t384 _ A4.out).mono ?_
     rintro e w15 ⟨rfl, hb⟩
     refine ⟨_, rfl, ?_⟩
     have n0_ := Aside0.mk (blk_below (g := gb375) (o := b4 a0_0 a0_1 a0_2 a0_3 23) (bz BK375.out) hb)
     have n1_ := Aside0.mk (blk_below (g := gb376) (o := b4 a1_0 a1_1 a1_2 a1_3 23) (bz BK376.out) hb)
     have n2_ := Aside0.mk (below_step (hz2 HB.out GE375.out GE376.out) hb)
     clear BK375
     clear BK376
     clear HB
     have BK375 := n0_
     have BK376 := n1_
     have HB := n2_
     clear n0_ n1_ n2_
     (try clear hb)
     (try clear hb2)
     (try clear hk)
     (try clear hi)
     refine hK.out _ _ ⟨bc BK375 0, bc BK375 1, bc BK375 2, bc BK375 3, bc BK376 0, bc BK376 1, bc BK376 2, bc BK376 3⟩ (fun hHeld => ?_)
     clear hK K
     refine norm_ (a' := ?_) ?_ ?_
     rotate_left
     ·show Act.put _ (some 10) _ = _
      simp only [Act.put, List.setIfInBounds_toArray, List.set_cons_zero, List.set_cons_succ, i64_w, i32_w]
      rfl
     refine two_ (i := 4) (j := 5) (Ni := some 11) (Nj := some 5) #[T, T, T, T, T, F, F] #[T, T, T, T, F, T, F] rfl rfl rfl rfl (by kernel_rfl) (by decide) (by decide) (fun K hK => ?_) (fun K hK => ?_)
     ·skip
      refine goes_ Try.func23 (by kernel_rfl) rfl #[.agg #[.int .i64 t377, .int .i64 t378, .int .i64 t379, .int .i64 t380], .agg #[.int .i64 t381, .int .i64 t382, .int .i64 t383, .int .i64 t384]] (by rfl) rfl rfl mz ?_
      with_reducible refine (spec_ValMeet.calls k t377 t378 t379 t380 t381 t382 t383 t384 t385 t386 t387 t388 _ A5.out).mono ?_
      rintro e w16 ⟨rfl, hb⟩
      refine ⟨_, rfl, ?_⟩
      have n0_ := Aside0.mk (blk_below (g := gb375) (o := b4 a0_0 a0_1 a0_2 a0_3 23) (bz BK375.out) hb)
      have n1_ := Aside0.mk (blk_below (g := gb376) (o := b4 a1_0 a1_1 a1_2 a1_3 23) (bz BK376.out) hb)
      have n2_ := Aside0.mk (below_step (hz2 HB.out GE375.out GE376.out) hb)
      clear BK375
      clear BK376
      clear HB
      have BK375 := n0_
      have BK376 := n1_
      have HB := n2_
      clear n0_ n1_ n2_
      (try clear hb)
      (try clear hb2)
      (try clear hk)
      (try clear hi)
      refine hK.out _ _ ⟨bc BK375 0, bc BK375 1, bc BK375 2, bc BK375 3, bc BK376 0, bc BK376 1, bc BK376 2, bc BK376 3⟩ (fun hHeld => ?_)
      clear hK K
      refine norm_ (a' := ?_) ?_ ?_
      rotate_left
      ·show Act.put _ (some 11) _ = _
       simp only [Act.put, List.setIfInBounds_toArray, List.set_cons_zero, List.set_cons_succ, i64_w, i32_w]
       rfl
      refine one_ (i := 5) (N := some 5) #[T, T, T, T, T, T, F] rfl rfl (by kernel_rfl) (by decide) (fun K hK => ?_)
      refine box_step ?hg (N := 5) ?hd (cs := #[.int .i64 0, .int .i64 0, .int .i64 0, .int .i64 0]) (t := 25) ?hr ?_; (case hd => rfl); (case hg => rfl); (case hr => first | (go_simp; done) | (go_simp; rfl))
      intro gb389 hg w17 hbox hb
      have n0_ := Aside0.mk (blk_below (g := gb375) (o := b4 a0_0 a0_1 a0_2 a0_3 23) (bz BK375.out) hb)
      have n1_ := Aside0.mk (blk_below (g := gb376) (o := b4 a1_0 a1_1 a1_2 a1_3 23) (bz BK376.out) hb)
      have n2_ := Aside0.mk (below_step (hz2 HB.out GE375.out GE376.out) hb)
      have n3_ := Aside0.mk (hbox)
      have n4_ := Aside0.mk ((by rw [hg]; exact (below_size (hz2 HB.out GE375.out GE376.out)) : w.heap.size ≤ gb389))
      have n5_ := Aside0.mk ((by rw [hg]; exact (below_size (hz2 HB.out GE375.out GE376.out)) : w.heap.size ≤ gb389))
      have n6_ := Aside0.mk ((by rw [hg]; exact Nat.ne_of_lt (blk_lt (g := gb375) (o := b4 a0_0 a0_1 a0_2 a0_3 23) (bz BK375.out)) : gb375 ≠ gb389))
      have n7_ := Aside0.mk ((by rw [hg]; exact Nat.ne_of_gt (blk_lt (g := gb375) (o := b4 a0_0 a0_1 a0_2 a0_3 23) (bz BK375.out)) : gb389 ≠ gb375))
      have n8_ := Aside0.mk ((by rw [hg]; exact Nat.ne_of_lt (blk_lt (g := gb376) (o := b4 a1_0 a1_1 a1_2 a1_3 23) (bz BK376.out)) : gb376 ≠ gb389))
      have n9_ := Aside0.mk ((by rw [hg]; exact Nat.ne_of_gt (blk_lt (g := gb376) (o := b4 a1_0 a1_1 a1_2 a1_3 23) (bz BK376.out)) : gb389 ≠ gb376))
      clear BK375
      clear BK376
      clear HB
      have BK375 := n0_
      have BK376 := n1_
      have HB := n2_
      have BK389 := n3_
      have GW389 := n4_
      have GE389 := n5_
      have NB375_389 := n6_
      have NB389_375 := n7_
      have NB376_389 := n8_
      have NB389_376 := n9_
      clear n0_ n1_ n2_ n3_ n4_ n5_ n6_ n7_ n8_ n9_
      clear hb hbox hg
      refine hK.out _ _ ⟨bc BK375 0, bc BK375 1, bc BK375 2, bc BK375 3, bc BK376 0, bc BK376 1, bc BK376 2, bc BK376 3⟩ (fun hHeld => ?_)
      clear hK K
      refine norm_ (a' := ?_) ?_ ?_
      rotate_left
      ·show Act.put _ (some 5) _ = _
       simp only [Act.put, List.setIfInBounds_toArray, List.set_cons_zero, List.set_cons_succ, i64_w, i32_w]
       rfl
      exact norm_ (by simp only [putAll, Act.put, List.setIfInBounds_toArray, List.set_cons_zero, List.set_cons_succ]) (hCont (gb389) _ ⟨hHeld, (bz BK375.out), (bz BK376.out), (bz BK389.out), GW389.out, GE389.out, NB375_389.out, NB389_375.out, NB376_389.out, NB389_376.out, (hz3 HB.out GE375.out GE376.out GE389.out)⟩)
     ·skip
      refine box_step ?hg (N := 5) ?hd (cs := #[.int .i64 0, .int .i64 0, .int .i64 0, .int .i64 0]) (t := 25) ?hr ?_; (case hd => rfl); (case hg => rfl); (case hr => first | (go_simp; done) | (go_simp; rfl))
      intro gb389 hg w16 hbox hb
      have n0_ := Aside0.mk (blk_below (g := gb375) (o := b4 a0_0 a0_1 a0_2 a0_3 23) (bz BK375.out) hb)
      have n1_ := Aside0.mk (blk_below (g := gb376) (o := b4 a1_0 a1_1 a1_2 a1_3 23) (bz BK376.out) hb)
      have n2_ := Aside0.mk (below_step (hz2 HB.out GE375.out GE376.out) hb)
      have n3_ := Aside0.mk (hbox)
      have n4_ := Aside0.mk ((by rw [hg]; exact (below_size (hz2 HB.out GE375.out GE376.out)) : w.heap.size ≤ gb389))
      have n5_ := Aside0.mk ((by rw [hg]; exact (below_size (hz2 HB.out GE375.out GE376.out)) : w.heap.size ≤ gb389))
      have n6_ := Aside0.mk ((by rw [hg]; exact Nat.ne_of_lt (blk_lt (g := gb375) (o := b4 a0_0 a0_1 a0_2 a0_3 23) (bz BK375.out)) : gb375 ≠ gb389))
      have n7_ := Aside0.mk ((by rw [hg]; exact Nat.ne_of_gt (blk_lt (g := gb375) (o := b4 a0_0 a0_1 a0_2 a0_3 23) (bz BK375.out)) : gb389 ≠ gb375))
      have n8_ := Aside0.mk ((by rw [hg]; exact Nat.ne_of_lt (blk_lt (g := gb376) (o := b4 a1_0 a1_1 a1_2 a1_3 23) (bz BK376.out)) : gb376 ≠ gb389))
      have n9_ := Aside0.mk ((by rw [hg]; exact Nat.ne_of_gt (blk_lt (g := gb376) (o := b4 a1_0 a1_1 a1_2 a1_3 23) (bz BK376.out)) : gb389 ≠ gb376))
      clear BK375
      clear BK376
      clear HB
      have BK375 := n0_
      have BK376 := n1_
      have HB := n2_
      have BK389 := n3_
      have GW389 := n4_
      have GE389 := n5_
      have NB375_389 := n6_
      have NB389_375 := n7_
      have NB376_389 := n8_
      have NB389_376 := n9_
      clear n0_ n1_ n2_ n3_ n4_ n5_ n6_ n7_ n8_ n9_
      clear hb hbox hg
      refine hK.out _ _ ⟨bc BK375 0, bc BK375 1, bc BK375 2, bc BK375 3, bc BK376 0, bc BK376 1, bc BK376 2, bc BK376 3⟩ (fun hHeld => ?_)
      clear hK K
      refine norm_ (a' := ?_) ?_ ?_
      rotate_left
      ·show Act.put _ (some 5) _ = _
       simp only [Act.put, List.setIfInBounds_toArray, List.set_cons_zero, List.set_cons_succ, i64_w, i32_w]
       rfl
      refine one_ (i := 4) (N := some 11) #[T, T, T, T, T, T, F] rfl rfl (by kernel_rfl) (by decide) (fun K hK => ?_)
      refine goes_ Try.func23 (by kernel_rfl) rfl #[.agg #[.int .i64 t377, .int .i64 t378, .int .i64 t379, .int .i64 t380], .agg #[.int .i64 t381, .int .i64 t382, .int .i64 t383, .int .i64 t384]] (by rfl) rfl rfl mz ?_
      with_reducible refine (spec_ValMeet.calls k t377 t378 t379 t380 t381 t382 t383 t384 t385 t386 t387 t388 _ A5.out).mono ?_
      rintro e w17 ⟨rfl, hb⟩
      refine ⟨_, rfl, ?_⟩
      have n0_ := Aside0.mk (blk_below (g := gb375) (o := b4 a0_0 a0_1 a0_2 a0_3 23) (bz BK375.out) hb)
      have n1_ := Aside0.mk (blk_below (g := gb376) (o := b4 a1_0 a1_1 a1_2 a1_3 23) (bz BK376.out) hb)
      have n2_ := Aside0.mk (blk_below (g := gb389) (o := b4 0 0 0 0 25) (bz BK389.out) hb)
      have n3_ := Aside0.mk (below_step (hz3 HB.out GE375.out GE376.out GE389.out) hb)
      clear BK375
      clear BK376
      clear BK389
      clear HB
      have BK375 := n0_
      have BK376 := n1_
      have BK389 := n2_
      have HB := n3_
      clear n0_ n1_ n2_ n3_
      (try clear hb)
      (try clear hb2)
      (try clear hk)
      (try clear hi)
      refine hK.out _ _ ⟨bc BK375 0, bc BK375 1, bc BK375 2, bc BK375 3, bc BK376 0, bc BK376 1, bc BK376 2, bc BK376 3⟩ (fun hHeld => ?_)
      clear hK K
      refine norm_ (a' := ?_) ?_ ?_
      rotate_left
      ·show Act.put _ (some 11) _ = _
       simp only [Act.put, List.setIfInBounds_toArray, List.set_cons_zero, List.set_cons_succ, i64_w, i32_w]
       rfl
      exact norm_ (by simp only [putAll, Act.put, List.setIfInBounds_toArray, List.set_cons_zero, List.set_cons_succ]) (hCont (gb389) _ ⟨hHeld, (bz BK375.out), (bz BK376.out), (bz BK389.out), GW389.out, GE389.out, NB375_389.out, NB389_375.out, NB376_389.out, NB389_376.out, (hz3 HB.out GE375.out GE376.out GE389.out)⟩)
    ·skip
     refine box_step ?hg (N := 5) ?hd (cs := #[.int .i64 0, .int .i64 0, .int .i64 0, .int .i64 0]) (t := 25) ?hr ?_; (case hd => rfl); (case hg => rfl); (case hr => first | (go_simp; done) | (go_simp; rfl))
     intro gb389 hg w15 hbox hb
     have n0_ := Aside0.mk (blk_below (g := gb375) (o := b4 a0_0 a0_1 a0_2 a0_3 23) (bz BK375.out) hb)
     have n1_ := Aside0.mk (blk_below (g := gb376) (o := b4 a1_0 a1_1 a1_2 a1_3 23) (bz BK376.out) hb)
     have n2_ := Aside0.mk (below_step (hz2 HB.out GE375.out GE376.out) hb)
     have n3_ := Aside0.mk (hbox)
     have n4_ := Aside0.mk ((by rw [hg]; exact (below_size (hz2 HB.out GE375.out GE376.out)) : w.heap.size ≤ gb389))
     have n5_ := Aside0.mk ((by rw [hg]; exact (below_size (hz2 HB.out GE375.out GE376.out)) : w.heap.size ≤ gb389))
     have n6_ := Aside0.mk ((by rw [hg]; exact Nat.ne_of_lt (blk_lt (g := gb375) (o := b4 a0_0 a0_1 a0_2 a0_3 23) (bz BK375.out)) : gb375 ≠ gb389))
     have n7_ := Aside0.mk ((by rw [hg]; exact Nat.ne_of_gt (blk_lt (g := gb375) (o := b4 a0_0 a0_1 a0_2 a0_3 23) (bz BK375.out)) : gb389 ≠ gb375))
     have n8_ := Aside0.mk ((by rw [hg]; exact Nat.ne_of_lt (blk_lt (g := gb376) (o := b4 a1_0 a1_1 a1_2 a1_3 23) (bz BK376.out)) : gb376 ≠ gb389))
     have n9_ := Aside0.mk ((by rw [hg]; exact Nat.ne_of_gt (blk_lt (g := gb376) (o := b4 a1_0 a1_1 a1_2 a1_3 23) (bz BK376.out)) : gb389 ≠ gb376))
     clear BK375
     clear BK376
     clear HB
     have BK375 := n0_
     have BK376 := n1_
     have HB := n2_
     have BK389 := n3_
     have GW389 := n4_
     have GE389 := n5_
     have NB375_389 := n6_
     have NB389_375 := n7_
     have NB376_389 := n8_
     have NB389_376 := n9_
     clear n0_ n1_ n2_ n3_ n4_ n5_ n6_ n7_ n8_ n9_
     clear hb hbox hg
     refine hK.out _ _ ⟨bc BK375 0, bc BK375 1, bc BK375 2, bc BK375 3, bc BK376 0, bc BK376 1, bc BK376 2, bc BK376 3⟩ (fun hHeld => ?_)
     clear hK K
     refine norm_ (a' := ?_) ?_ ?_
     rotate_left
     ·show Act.put _ (some 5) _ = _
      simp only [Act.put, List.setIfInBounds_toArray, List.set_cons_zero, List.set_cons_succ, i64_w, i32_w]
      rfl
     refine one_ (i := 3) (N := some 10) #[T, T, T, T, F, T, F] rfl rfl (by kernel_rfl) (by decide) (fun K hK => ?_)
     refine goes_ Try.func16 (by kernel_rfl) rfl #[.agg #[.int .i64 a1_0, .int .i64 a1_1, .int .i64 a1_2, .int .i64 a1_3]] (by rfl) rfl rfl mz ?_
     with_reducible refine (laws_toVal.calls a1_0 a1_1 a1_2 a1_3 t381 t382 t383 t384 _ A4.out).mono ?_
     rintro e w16 ⟨rfl, hb⟩
     refine ⟨_, rfl, ?_⟩
     have n0_ := Aside0.mk (blk_below (g := gb375) (o := b4 a0_0 a0_1 a0_2 a0_3 23) (bz BK375.out) hb)
     have n1_ := Aside0.mk (blk_below (g := gb376) (o := b4 a1_0 a1_1 a1_2 a1_3 23) (bz BK376.out) hb)
     have n2_ := Aside0.mk (blk_below (g := gb389) (o := b4 0 0 0 0 25) (bz BK389.out) hb)
     have n3_ := Aside0.mk (below_step (hz3 HB.out GE375.out GE376.out GE389.out) hb)
     clear BK375
     clear BK376
     clear BK389
     clear HB
     have BK375 := n0_
     have BK376 := n1_
     have BK389 := n2_
     have HB := n3_
     clear n0_ n1_ n2_ n3_
     (try clear hb)
     (try clear hb2)
     (try clear hk)
     (try clear hi)
     refine hK.out _ _ ⟨bc BK375 0, bc BK375 1, bc BK375 2, bc BK375 3, bc BK376 0, bc BK376 1, bc BK376 2, bc BK376 3⟩ (fun hHeld => ?_)
     clear hK K
     refine norm_ (a' := ?_) ?_ ?_
     rotate_left
     ·show Act.put _ (some 10) _ = _
      simp only [Act.put, List.setIfInBounds_toArray, List.set_cons_zero, List.set_cons_succ, i64_w, i32_w]
      rfl
     refine one_ (i := 4) (N := some 11) #[T, T, T, T, T, T, F] rfl rfl (by kernel_rfl) (by decide) (fun K hK => ?_)
     refine goes_ Try.func23 (by kernel_rfl) rfl #[.agg #[.int .i64 t377, .int .i64 t378, .int .i64 t379, .int .i64 t380], .agg #[.int .i64 t381, .int .i64 t382, .int .i64 t383, .int .i64 t384]] (by rfl) rfl rfl mz ?_
     with_reducible refine (spec_ValMeet.calls k t377 t378 t379 t380 t381 t382 t383 t384 t385 t386 t387 t388 _ A5.out).mono ?_
     rintro e w17 ⟨rfl, hb⟩
     refine ⟨_, rfl, ?_⟩
     have n0_ := Aside0.mk (blk_below (g := gb375) (o := b4 a0_0 a0_1 a0_2 a0_3 23) (bz BK375.out) hb)
     have n1_ := Aside0.mk (blk_below (g := gb376) (o := b4 a1_0 a1_1 a1_2 a1_3 23) (bz BK376.out) hb)
     have n2_ := Aside0.mk (blk_below (g := gb389) (o := b4 0 0 0 0 25) (bz BK389.out) hb)
     have n3_ := Aside0.mk (below_step (hz3 HB.out GE375.out GE376.out GE389.out) hb)
     clear BK375
     clear BK376
     clear BK389
     clear HB
     have BK375 := n0_
     have BK376 := n1_
     have BK389 := n2_
     have HB := n3_
     clear n0_ n1_ n2_ n3_
     (try clear hb)
     (try clear hb2)
     (try clear hk)
     (try clear hi)
     refine hK.out _ _ ⟨bc BK375 0, bc BK375 1, bc BK375 2, bc BK375 3, bc BK376 0, bc BK376 1, bc BK376 2, bc BK376 3⟩ (fun hHeld => ?_)
     clear hK K
     refine norm_ (a' := ?_) ?_ ?_
     rotate_left
     ·show Act.put _ (some 11) _ = _
      simp only [Act.put, List.setIfInBounds_toArray, List.set_cons_zero, List.set_cons_succ, i64_w, i32_w]
      rfl
     exact norm_ (by simp only [putAll, Act.put, List.setIfInBounds_toArray, List.set_cons_zero, List.set_cons_succ]) (hCont (gb389) _ ⟨hHeld, (bz BK375.out), (bz BK376.out), (bz BK389.out), GW389.out, GE389.out, NB375_389.out, NB389_375.out, NB376_389.out, NB389_376.out, (hz3 HB.out GE375.out GE376.out GE389.out)⟩)
   ·skip
    refine box_step ?hg (N := 5) ?hd (cs := #[.int .i64 0, .int .i64 0, .int .i64 0, .int .i64 0]) (t := 25) ?hr ?_; (case hd => rfl); (case hg => rfl); (case hr => first | (go_simp; done) | (go_simp; rfl))
    intro gb389 hg w14 hbox hb
    have n0_ := Aside0.mk (blk_below (g := gb375) (o := b4 a0_0 a0_1 a0_2 a0_3 23) (bz BK375.out) hb)
    have n1_ := Aside0.mk (blk_below (g := gb376) (o := b4 a1_0 a1_1 a1_2 a1_3 23) (bz BK376.out) hb)
    have n2_ := Aside0.mk (below_step (hz2 HB.out GE375.out GE376.out) hb)
    have n3_ := Aside0.mk (hbox)
    have n4_ := Aside0.mk ((by rw [hg]; exact (below_size (hz2 HB.out GE375.out GE376.out)) : w.heap.size ≤ gb389))
    have n5_ := Aside0.mk ((by rw [hg]; exact (below_size (hz2 HB.out GE375.out GE376.out)) : w.heap.size ≤ gb389))
    have n6_ := Aside0.mk ((by rw [hg]; exact Nat.ne_of_lt (blk_lt (g := gb375) (o := b4 a0_0 a0_1 a0_2 a0_3 23) (bz BK375.out)) : gb375 ≠ gb389))
    have n7_ := Aside0.mk ((by rw [hg]; exact Nat.ne_of_gt (blk_lt (g := gb375) (o := b4 a0_0 a0_1 a0_2 a0_3 23) (bz BK375.out)) : gb389 ≠ gb375))
    have n8_ := Aside0.mk ((by rw [hg]; exact Nat.ne_of_lt (blk_lt (g := gb376) (o := b4 a1_0 a1_1 a1_2 a1_3 23) (bz BK376.out)) : gb376 ≠ gb389))
    have n9_ := Aside0.mk ((by rw [hg]; exact Nat.ne_of_gt (blk_lt (g := gb376) (o := b4 a1_0 a1_1 a1_2 a1_3 23) (bz BK376.out)) : gb389 ≠ gb376))
    clear BK375
    clear BK376
    clear HB
    have BK375 := n0_
    have BK376 := n1_
    have HB := n2_
    have BK389 := n3_
    have GW389 := n4_
    have GE389 := n5_
    have NB375_389 := n6_
    have NB389_375 := n7_
    have NB376_389 := n8_
    have NB389_376 := n9_
    clear n0_ n1_ n2_ n3_ n4_ n5_ n6_ n7_ n8_ n9_
    clear hb hbox hg
    refine hK.out _ _ ⟨bc BK375 0, bc BK375 1, bc BK375 2, bc BK375 3, bc BK376 0, bc BK376 1, bc BK376 2, bc BK376 3⟩ (fun hHeld => ?_)
    clear hK K
    refine norm_ (a' := ?_) ?_ ?_
    rotate_left
    ·show Act.put _ (some 5) _ = _
     simp only [Act.put, List.setIfInBounds_toArray, List.set_cons_zero, List.set_cons_succ, i64_w, i32_w]
     rfl
    refine one_ (i := 1) (N := some 8) #[T, T, T, F, F, T, F] rfl rfl (by kernel_rfl) (by decide) (fun K hK => ?_)
    refine goes_ Try.func16 (by kernel_rfl) rfl #[.agg #[.int .i64 a0_0, .int .i64 a0_1, .int .i64 a0_2, .int .i64 a0_3]] (by rfl) rfl rfl mz ?_
    with_reducible refine (laws_toVal.calls a0_0 a0_1 a0_2 a0_3 t377 t378 t379 t380 _ A3.out).mono ?_
    rintro e w15 ⟨rfl, hb⟩
    refine ⟨_, rfl, ?_⟩
    have n0_ := Aside0.mk (blk_below (g := gb375) (o := b4 a0_0 a0_1 a0_2 a0_3 23) (bz BK375.out) hb)
    have n1_ := Aside0.mk (blk_below (g := gb376) (o := b4 a1_0 a1_1 a1_2 a1_3 23) (bz BK376.out) hb)
    have n2_ := Aside0.mk (blk_below (g := gb389) (o := b4 0 0 0 0 25) (bz BK389.out) hb)
    have n3_ := Aside0.mk (below_step (hz3 HB.out GE375.out GE376.out GE389.out) hb)
    clear BK375
    clear BK376
    clear BK389
    clear HB
    have BK375 := n0_
    have BK376 := n1_
    have BK389 := n2_
    have HB := n3_
    clear n0_ n1_ n2_ n3_
    (try clear hb)
    (try clear hb2)
    (try clear hk)
    (try clear hi)
    refine hK.out _ _ ⟨bc BK375 0, bc BK375 1, bc BK375 2, bc BK375 3, bc BK376 0, bc BK376 1, bc BK376 2, bc BK376 3⟩ (fun hHeld => ?_)
    clear hK K
    refine norm_ (a' := ?_) ?_ ?_
    rotate_left
    ·show Act.put _ (some 8) _ = _
     simp only [Act.put, List.setIfInBounds_toArray, List.set_cons_zero, List.set_cons_succ, i64_w, i32_w]
     rfl
    refine one_ (i := 3) (N := some 10) #[T, T, T, T, F, T, F] rfl rfl (by kernel_rfl) (by decide) (fun K hK => ?_)
    refine goes_ Try.func16 (by kernel_rfl) rfl #[.agg #[.int .i64 a1_0, .int .i64 a1_1, .int .i64 a1_2, .int .i64 a1_3]] (by rfl) rfl rfl mz ?_
    with_reducible refine (laws_toVal.calls a1_0 a1_1 a1_2 a1_3 t381 t382 t383 t384 _ A4.out).mono ?_
    rintro e w16 ⟨rfl, hb⟩
    refine ⟨_, rfl, ?_⟩
    have n0_ := Aside0.mk (blk_below (g := gb375) (o := b4 a0_0 a0_1 a0_2 a0_3 23) (bz BK375.out) hb)
    have n1_ := Aside0.mk (blk_below (g := gb376) (o := b4 a1_0 a1_1 a1_2 a1_3 23) (bz BK376.out) hb)
    have n2_ := Aside0.mk (blk_below (g := gb389) (o := b4 0 0 0 0 25) (bz BK389.out) hb)
    have n3_ := Aside0.mk (below_step (hz3 HB.out GE375.out GE376.out GE389.out) hb)
    clear BK375
    clear BK376
    clear BK389
    clear HB
    have BK375 := n0_
    have BK376 := n1_
    have BK389 := n2_
    have HB := n3_
    clear n0_ n1_ n2_ n3_
    (try clear hb)
    (try clear hb2)
    (try clear hk)
    (try clear hi)
    refine hK.out _ _ ⟨bc BK375 0, bc BK375 1, bc BK375 2, bc BK375 3, bc BK376 0, bc BK376 1, bc BK376 2, bc BK376 3⟩ (fun hHeld => ?_)
    clear hK K
    refine norm_ (a' := ?_) ?_ ?_
    rotate_left
    ·show Act.put _ (some 10) _ = _
     simp only [Act.put, List.setIfInBounds_toArray, List.set_cons_zero, List.set_cons_succ, i64_w, i32_w]
     rfl
    refine one_ (i := 4) (N := some 11) #[T, T, T, T, T, T, F] rfl rfl (by kernel_rfl) (by decide) (fun K hK => ?_)
    refine goes_ Try.func23 (by kernel_rfl) rfl #[.agg #[.int .i64 t377, .int .i64 t378, .int .i64 t379, .int .i64 t380], .agg #[.int .i64 t381, .int .i64 t382, .int .i64 t383, .int .i64 t384]] (by rfl) rfl rfl mz ?_
    with_reducible refine (spec_ValMeet.calls k t377 t378 t379 t380 t381 t382 t383 t384 t385 t386 t387 t388 _ A5.out).mono ?_
    rintro e w17 ⟨rfl, hb⟩
    refine ⟨_, rfl, ?_⟩
    have n0_ := Aside0.mk (blk_below (g := gb375) (o := b4 a0_0 a0_1 a0_2 a0_3 23) (bz BK375.out) hb)
    have n1_ := Aside0.mk (blk_below (g := gb376) (o := b4 a1_0 a1_1 a1_2 a1_3 23) (bz BK376.out) hb)
    have n2_ := Aside0.mk (blk_below (g := gb389) (o := b4 0 0 0 0 25) (bz BK389.out) hb)
    have n3_ := Aside0.mk (below_step (hz3 HB.out GE375.out GE376.out GE389.out) hb)
    clear BK375
    clear BK376
    clear BK389
    clear HB
    have BK375 := n0_
    have BK376 := n1_
    have BK389 := n2_
    have HB := n3_
    clear n0_ n1_ n2_ n3_
    (try clear hb)
    (try clear hb2)
    (try clear hk)
    (try clear hi)
    refine hK.out _ _ ⟨bc BK375 0, bc BK375 1, bc BK375 2, bc BK375 3, bc BK376 0, bc BK376 1, bc BK376 2, bc BK376 3⟩ (fun hHeld => ?_)
    clear hK K
    refine norm_ (a' := ?_) ?_ ?_
    rotate_left
    ·show Act.put _ (some 11) _ = _
     simp only [Act.put, List.setIfInBounds_toArray, List.set_cons_zero, List.set_cons_succ, i64_w, i32_w]
     rfl
    exact norm_ (by simp only [putAll, Act.put, List.setIfInBounds_toArray, List.set_cons_zero, List.set_cons_succ]) (hCont (gb389) _ ⟨hHeld, (bz BK375.out), (bz BK376.out), (bz BK389.out), GW389.out, GE389.out, NB375_389.out, NB389_375.out, NB376_389.out, NB389_376.out, (hz3 HB.out GE375.out GE376.out GE389.out)⟩)
  rintro gb389 w18 ⟨hS_, h0_, h1_, h2_, h3_, h4_, h5_, h6_, h7_, h8_, h9_⟩
  have n0_ : Aside0 (w18.heap[gb375]? = some (.cells #[.int .i64 a0_0, .int .i64 a0_1, .int .i64 a0_2, .int .i64 a0_3] 23 (0, 0))) := ⟨h0_⟩
  have n1_ : Aside0 (w18.heap[gb376]? = some (.cells #[.int .i64 a1_0, .int .i64 a1_1, .int .i64 a1_2, .int .i64 a1_3] 23 (0, 0))) := ⟨h1_⟩
  have n2_ : Aside0 (w18.heap[gb389]? = some (.cells #[.int .i64 0, .int .i64 0, .int .i64 0, .int .i64 0] 25 (0, 0))) := ⟨h2_⟩
  have n3_ : Aside0 (w.heap.size ≤ gb389) := ⟨h3_⟩
  have n4_ : Aside0 (w.heap.size ≤ gb389) := ⟨h4_⟩
  have n5_ : Aside0 (gb375 ≠ gb389) := ⟨h5_⟩
  have n6_ : Aside0 (gb389 ≠ gb375) := ⟨h6_⟩
  have n7_ : Aside0 (gb376 ≠ gb389) := ⟨h7_⟩
  have n8_ : Aside0 (gb389 ≠ gb376) := ⟨h8_⟩
  have n9_ : Aside0 (Below w.heap.size w w18) := ⟨h9_⟩
  clear BK375
  clear BK376
  clear HB
  clear h0_ h1_ h2_ h3_ h4_ h5_ h6_ h7_ h8_ h9_
  have BK375 := n0_
  have BK376 := n1_
  have BK389 := n2_
  have GW389 := n3_
  have GE389 := n4_
  have NB375_389 := n5_
  have NB389_375 := n6_
  have NB376_389 := n7_
  have NB389_376 := n8_
  have HB := n9_
  clear n0_ n1_ n2_ n3_ n4_ n5_ n6_ n7_ n8_ n9_
  have hHeld : w18.cell? ⟨gb375, 0, none⟩ = some (.int .i64 a0_0) ∧ w18.cell? ⟨gb375, 1, none⟩ = some (.int .i64 a0_1) ∧ w18.cell? ⟨gb375, 2, none⟩ = some (.int .i64 a0_2) ∧ w18.cell? ⟨gb375, 3, none⟩ = some (.int .i64 a0_3) ∧ w18.cell? ⟨gb376, 0, none⟩ = some (.int .i64 a1_0) ∧ w18.cell? ⟨gb376, 1, none⟩ = some (.int .i64 a1_1) ∧ w18.cell? ⟨gb376, 2, none⟩ = some (.int .i64 a1_2) ∧ w18.cell? ⟨gb376, 3, none⟩ = some (.int .i64 a1_3) := hS_
  refine norm_ (a' := ?_) ?_ ?_
  rotate_left
  ·simp only [putAll, Act.put, List.setIfInBounds_toArray, List.set_cons_zero, List.set_cons_succ]
   rfl
  refine one_ (i := 6) (N := none) #[T, T, T, T, T, T, T] rfl rfl (by kernel_rfl) (by decide) (fun K hK => ?_)
  have hs19 : w18.cell? ⟨gb389, 0, none⟩ = some (.int .i64 0) := bc BK389 0
  have hfs19 := blk_frozen BK389.out 0
  have hns19_0 := NB375_389.out
  have hns19_1 := NB376_389.out
  have hms19_0 := NB389_375.out
  have hms19_1 := NB389_376.out
  have hs20 : w18.cell? ⟨gb389, 1, none⟩ = some (.int .i64 0) := bc BK389 1
  have hfs20 := blk_frozen BK389.out 1
  have hns20_0 := NB375_389.out
  have hns20_1 := NB376_389.out
  have hms20_0 := NB389_375.out
  have hms20_1 := NB389_376.out
  have hs21 : w18.cell? ⟨gb389, 2, none⟩ = some (.int .i64 0) := bc BK389 2
  have hfs21 := blk_frozen BK389.out 2
  have hns21_0 := NB375_389.out
  have hns21_1 := NB376_389.out
  have hms21_0 := NB389_375.out
  have hms21_1 := NB389_376.out
  have hs22 : w18.cell? ⟨gb389, 3, none⟩ = some (.int .i64 0) := bc BK389 3
  have hfs22 := blk_frozen BK389.out 3
  have hns22_0 := NB375_389.out
  have hns22_1 := NB376_389.out
  have hms22_0 := NB389_375.out
  have hms22_1 := NB389_376.out
  refine skip_ (w1 := ?_) (by rfl) rfl ?_ ?_
  rotate_left
  ·go_simp
   rfl
  refine hK.out _ _ ⟨((cell_far (p := ⟨gb389, _, none⟩) NB375_389.out _).trans (((cell_far (p := ⟨gb389, _, none⟩) NB375_389.out _).trans (((cell_far (p := ⟨gb389, _, none⟩) NB375_389.out _).trans (((cell_far (p := ⟨gb389, _, none⟩) NB375_389.out _).trans (hHeld.1)))))))), ((cell_far (p := ⟨gb389, _, none⟩) NB375_389.out _).trans (((cell_far (p := ⟨gb389, _, none⟩) NB375_389.out _).trans (((cell_far (p := ⟨gb389, _, none⟩) NB375_389.out _).trans (((cell_far (p := ⟨gb389, _, none⟩) NB375_389.out _).trans (hHeld.2.1)))))))), ((cell_far (p := ⟨gb389, _, none⟩) NB375_389.out _).trans (((cell_far (p := ⟨gb389, _, none⟩) NB375_389.out _).trans (((cell_far (p := ⟨gb389, _, none⟩) NB375_389.out _).trans (((cell_far (p := ⟨gb389, _, none⟩) NB375_389.out _).trans (hHeld.2.2.1)))))))), ((cell_far (p := ⟨gb389, _, none⟩) NB375_389.out _).trans (((cell_far (p := ⟨gb389, _, none⟩) NB375_389.out _).trans (((cell_far (p := ⟨gb389, _, none⟩) NB375_389.out _).trans (((cell_far (p := ⟨gb389, _, none⟩) NB375_389.out _).trans (hHeld.2.2.2.1)))))))), ((cell_far (p := ⟨gb389, _, none⟩) NB376_389.out _).trans (((cell_far (p := ⟨gb389, _, none⟩) NB376_389.out _).trans (((cell_far (p := ⟨gb389, _, none⟩) NB376_389.out _).trans (((cell_far (p := ⟨gb389, _, none⟩) NB376_389.out _).trans (hHeld.2.2.2.2.1)))))))), ((cell_far (p := ⟨gb389, _, none⟩) NB376_389.out _).trans (((cell_far (p := ⟨gb389, _, none⟩) NB376_389.out _).trans (((cell_far (p := ⟨gb389, _, none⟩) NB376_389.out _).trans (((cell_far (p := ⟨gb389, _, none⟩) NB376_389.out _).trans (hHeld.2.2.2.2.2.1)))))))), ((cell_far (p := ⟨gb389, _, none⟩) NB376_389.out _).trans (((cell_far (p := ⟨gb389, _, none⟩) NB376_389.out _).trans (((cell_far (p := ⟨gb389, _, none⟩) NB376_389.out _).trans (((cell_far (p := ⟨gb389, _, none⟩) NB376_389.out _).trans (hHeld.2.2.2.2.2.2.1)))))))), ((cell_far (p := ⟨gb389, _, none⟩) NB376_389.out _).trans (((cell_far (p := ⟨gb389, _, none⟩) NB376_389.out _).trans (((cell_far (p := ⟨gb389, _, none⟩) NB376_389.out _).trans (((cell_far (p := ⟨gb389, _, none⟩) NB376_389.out _).trans (hHeld.2.2.2.2.2.2.2))))))))⟩ (fun hHeld => ?_)
  clear hK K
  refine done_ (by kernel_rfl) ?_
  try go_wp2
  have n0_ : Aside0 (((((w18.setCell ⟨gb389, 0, none⟩ (.int .i64 t385)).setCell ⟨gb389, 1, none⟩ (.int .i64 t386)).setCell ⟨gb389, 2, none⟩ (.int .i64 t387)).setCell ⟨gb389, 3, none⟩ (.int .i64 t388)).heap[gb375]? = some (.cells #[.int .i64 a0_0, .int .i64 a0_1, .int .i64 a0_2, .int .i64 a0_3] 23 (0, 0))) := ⟨by (with_reducible repeat (first | refine blk_drewN ?_ _ | refine blk_drew ?_ | refine blk_alloc ?_ _)); refine blk_far ?_ NB375_389.out _; (with_reducible repeat (first | refine blk_drewN ?_ _ | refine blk_drew ?_ | refine blk_alloc ?_ _)); refine blk_far ?_ NB375_389.out _; (with_reducible repeat (first | refine blk_drewN ?_ _ | refine blk_drew ?_ | refine blk_alloc ?_ _)); refine blk_far ?_ NB375_389.out _; (with_reducible repeat (first | refine blk_drewN ?_ _ | refine blk_drew ?_ | refine blk_alloc ?_ _)); refine blk_far ?_ NB375_389.out _; (with_reducible repeat (first | refine blk_drewN ?_ _ | refine blk_drew ?_ | refine blk_alloc ?_ _)); exact BK375.out⟩
  have n1_ : Aside0 (((((w18.setCell ⟨gb389, 0, none⟩ (.int .i64 t385)).setCell ⟨gb389, 1, none⟩ (.int .i64 t386)).setCell ⟨gb389, 2, none⟩ (.int .i64 t387)).setCell ⟨gb389, 3, none⟩ (.int .i64 t388)).heap[gb376]? = some (.cells #[.int .i64 a1_0, .int .i64 a1_1, .int .i64 a1_2, .int .i64 a1_3] 23 (0, 0))) := ⟨by (with_reducible repeat (first | refine blk_drewN ?_ _ | refine blk_drew ?_ | refine blk_alloc ?_ _)); refine blk_far ?_ NB376_389.out _; (with_reducible repeat (first | refine blk_drewN ?_ _ | refine blk_drew ?_ | refine blk_alloc ?_ _)); refine blk_far ?_ NB376_389.out _; (with_reducible repeat (first | refine blk_drewN ?_ _ | refine blk_drew ?_ | refine blk_alloc ?_ _)); refine blk_far ?_ NB376_389.out _; (with_reducible repeat (first | refine blk_drewN ?_ _ | refine blk_drew ?_ | refine blk_alloc ?_ _)); refine blk_far ?_ NB376_389.out _; (with_reducible repeat (first | refine blk_drewN ?_ _ | refine blk_drew ?_ | refine blk_alloc ?_ _)); exact BK376.out⟩
  have n2_ : Aside0 (((((w18.setCell ⟨gb389, 0, none⟩ (.int .i64 t385)).setCell ⟨gb389, 1, none⟩ (.int .i64 t386)).setCell ⟨gb389, 2, none⟩ (.int .i64 t387)).setCell ⟨gb389, 3, none⟩ (.int .i64 t388)).heap[gb389]? = some (.cells #[.int .i64 t385, .int .i64 t386, .int .i64 t387, .int .i64 t388] 25 (0, 0))) := ⟨by (with_reducible repeat (first | refine blk_drewN ?_ _ | refine blk_drew ?_ | refine blk_alloc ?_ _)); refine blk_put (cs := #[.int .i64 t385, .int .i64 t386, .int .i64 t387, .int .i64 0]) ?_ 3 _ rfl; (with_reducible repeat (first | refine blk_drewN ?_ _ | refine blk_drew ?_ | refine blk_alloc ?_ _)); refine blk_put (cs := #[.int .i64 t385, .int .i64 t386, .int .i64 0, .int .i64 0]) ?_ 2 _ rfl; (with_reducible repeat (first | refine blk_drewN ?_ _ | refine blk_drew ?_ | refine blk_alloc ?_ _)); refine blk_put (cs := #[.int .i64 t385, .int .i64 0, .int .i64 0, .int .i64 0]) ?_ 1 _ rfl; (with_reducible repeat (first | refine blk_drewN ?_ _ | refine blk_drew ?_ | refine blk_alloc ?_ _)); refine blk_put (cs := #[.int .i64 0, .int .i64 0, .int .i64 0, .int .i64 0]) ?_ 0 _ rfl; (with_reducible repeat (first | refine blk_drewN ?_ _ | refine blk_drew ?_ | refine blk_alloc ?_ _)); exact BK389.out⟩
  have n3_ : Aside0 (Below w.heap.size w ((((w18.setCell ⟨gb389, 0, none⟩ (.int .i64 t385)).setCell ⟨gb389, 1, none⟩ (.int .i64 t386)).setCell ⟨gb389, 2, none⟩ (.int .i64 t387)).setCell ⟨gb389, 3, none⟩ (.int .i64 t388))) := ⟨hz3 HB.out GE375.out GE376.out GE389.out⟩
  (try clear BK375)
  (try clear BK376)
  (try clear BK389)
  (try clear HB)
  generalize ((((w18.setCell ⟨gb389, 0, none⟩ (.int .i64 t385)).setCell ⟨gb389, 1, none⟩ (.int .i64 t386)).setCell ⟨gb389, 2, none⟩ (.int .i64 t387)).setCell ⟨gb389, 3, none⟩ (.int .i64 t388)) = w23 at n0_ n1_ n2_ n3_ ⊢
  have BK375 := n0_
  have BK376 := n1_
  have BK389 := n2_
  have HB := n3_
  clear n0_ n1_ n2_ n3_
  have n0_ := Aside0.mk (blk_drew BK375.out)
  have n1_ := Aside0.mk (blk_drew BK376.out)
  have n2_ := Aside0.mk (blk_drew BK389.out)
  have n3_ := Aside0.mk (below_drew1 HB.out)
  clear BK375
  clear BK376
  clear BK389
  clear HB
  have BK375 := n0_
  have BK376 := n1_
  have BK389 := n2_
  have HB := n3_
  clear n0_ n1_ n2_ n3_
  refine start_ (n := 7) (S := fun w' => w'.cell? ⟨gb375, 0, none⟩ = some (.int .i64 a0_0) ∧ w'.cell? ⟨gb375, 1, none⟩ = some (.int .i64 a0_1) ∧ w'.cell? ⟨gb375, 2, none⟩ = some (.int .i64 a0_2) ∧ w'.cell? ⟨gb375, 3, none⟩ = some (.int .i64 a0_3) ∧ w'.cell? ⟨gb376, 0, none⟩ = some (.int .i64 a1_0) ∧ w'.cell? ⟨gb376, 1, none⟩ = some (.int .i64 a1_1) ∧ w'.cell? ⟨gb376, 2, none⟩ = some (.int .i64 a1_2) ∧ w'.cell? ⟨gb376, 3, none⟩ = some (.int .i64 a1_3)) (ds := []) #[F, F, F, F, F, F, F] (by kernel_rfl) rfl rfl ⟨bc BK375 0, bc BK375 1, bc BK375 2, bc BK375 3, bc BK376 0, bc BK376 1, bc BK376 2, bc BK376 3⟩ (fun hHeld => ?_)
  generalize w23.drew = w24 at BK375 BK376 BK389 HB hHeld ⊢
  refine take_ (i := 0) (N := some 12) (v := ?_) (a' := ?_) #[T, F, F, F, F, F, F] rfl rfl (by kernel_rfl) (fun _ _ _ h => h) (Or.inl ⟨by rfl, ?_⟩) hHeld ?_ ?_
  rotate_left
  ·rintro w' ⟨s0, s1, s2, s3, s4, s5, s6, s7⟩
   go_simp
   with_reducible rfl
  rotate_left
  ·exact pz
  refine take_ (i := 2) (N := some 14) (v := ?_) (a' := ?_) #[T, F, T, F, F, F, F] rfl rfl (by kernel_rfl) (fun _ _ _ h => h) (Or.inl ⟨by rfl, ?_⟩) hHeld ?_ ?_
  rotate_left
  ·rintro w' ⟨s0, s1, s2, s3, s4, s5, s6, s7⟩
   go_simp
   with_reducible rfl
  rotate_left
  ·exact pz
  refine join_ (σ := Nat) 1 #[T, T, T, T, T, T, F] (fun s_ => [(13, .agg #[.int .i64 t390, .int .i64 t391, .int .i64 t392, .int .i64 t393]), (15, .agg #[.int .i64 t394, .int .i64 t395, .int .i64 t396, .int .i64 t397]), (16, .agg #[.int .i64 t398, .int .i64 t399, .int .i64 t400, .int .i64 t401]), (6, .pointer (some ⟨s_, 0, none⟩))]) (fun s_ w' => (w'.cell? ⟨gb375, 0, none⟩ = some (.int .i64 a0_0) ∧ w'.cell? ⟨gb375, 1, none⟩ = some (.int .i64 a0_1) ∧ w'.cell? ⟨gb375, 2, none⟩ = some (.int .i64 a0_2) ∧ w'.cell? ⟨gb375, 3, none⟩ = some (.int .i64 a0_3) ∧ w'.cell? ⟨gb376, 0, none⟩ = some (.int .i64 a1_0) ∧ w'.cell? ⟨gb376, 1, none⟩ = some (.int .i64 a1_1) ∧ w'.cell? ⟨gb376, 2, none⟩ = some (.int .i64 a1_2) ∧ w'.cell? ⟨gb376, 3, none⟩ = some (.int .i64 a1_3)) ∧ (w'.heap[gb375]? = some (.cells #[.int .i64 a0_0, .int .i64 a0_1, .int .i64 a0_2, .int .i64 a0_3] 23 (0, 0))) ∧ (w'.heap[gb376]? = some (.cells #[.int .i64 a1_0, .int .i64 a1_1, .int .i64 a1_2, .int .i64 a1_3] 23 (0, 0))) ∧ (w'.heap[gb389]? = some (.cells #[.int .i64 t385, .int .i64 t386, .int .i64 t387, .int .i64 t388] 25 (0, 0))) ∧ (w'.heap[s_]? = some (.cells #[.int .i64 0, .int .i64 0, .int .i64 0, .int .i64 0] 25 (0, 0))) ∧ (w.heap.size ≤ s_) ∧ (w.heap.size ≤ s_) ∧ (gb375 ≠ s_) ∧ (s_ ≠ gb375) ∧ (gb376 ≠ s_) ∧ (s_ ≠ gb376) ∧ (gb389 ≠ s_) ∧ (s_ ≠ gb389) ∧ (Below w.heap.size w w')) ?_ ?_
  rotate_left
  ·intro hCont
   refine two_ (i := 1) (j := 5) (Ni := some 13) (Nj := some 6) #[T, T, T, F, F, F, F] #[T, F, T, F, F, T, F] rfl rfl rfl rfl (by kernel_rfl) (by decide) (by decide) (fun K hK => ?_) (fun K hK => ?_)
   ·skip
    refine goes_ Try.func16 (by kernel_rfl) rfl #[.agg #[.int .i64 a0_0, .int .i64 a0_1, .int .i64 a0_2, .int .i64 a0_3]] (by rfl) rfl rfl mz ?_
    with_reducible refine (laws_toVal.calls a0_0 a0_1 a0_2 a0_3 t390 t391 t392 t393 _ A6.out).mono ?_
    rintro e w25 ⟨rfl, hb⟩
    refine ⟨_, rfl, ?_⟩
    have n0_ := Aside0.mk (blk_below (g := gb375) (o := b4 a0_0 a0_1 a0_2 a0_3 23) (bz BK375.out) hb)
    have n1_ := Aside0.mk (blk_below (g := gb376) (o := b4 a1_0 a1_1 a1_2 a1_3 23) (bz BK376.out) hb)
    have n2_ := Aside0.mk (blk_below (g := gb389) (o := b4 t385 t386 t387 t388 25) (bz BK389.out) hb)
    have n3_ := Aside0.mk (below_step (hz3 HB.out GE375.out GE376.out GE389.out) hb)
    clear BK375
    clear BK376
    clear BK389
    clear HB
    have BK375 := n0_
    have BK376 := n1_
    have BK389 := n2_
    have HB := n3_
    clear n0_ n1_ n2_ n3_
    (try clear hb)
    (try clear hb2)
    (try clear hk)
    (try clear hi)
    refine hK.out _ _ ⟨bc BK375 0, bc BK375 1, bc BK375 2, bc BK375 3, bc BK376 0, bc BK376 1, bc BK376 2, bc BK376 3⟩ (fun hHeld => ?_)
    clear hK K
    refine norm_ (a' := ?_) ?_ ?_
    rotate_left
    ·show Act.put _ (some 13) _ = _
     simp only [Act.put, List.setIfInBounds_toArray, List.set_cons_zero, List.set_cons_succ, i64_w, i32_w]
     rfl
    refine two_ (i := 3) (j := 5) (Ni := some 15) (Nj := some 6) #[T, T, T, T, F, F, F] #[T, T, T, F, F, T, F] rfl rfl rfl rfl (by kernel_rfl) (by decide) (by decide) (fun K hK => ?_) (fun K hK => ?_)
    ·skip
     refine goes_ Try.func16 (by kernel_rfl) rfl #[.agg #[.int .i64 a1_0, .int .i64 a1_1, .int .i64 a1_2, .int .i64 a1_3]] (by rfl) rfl rfl mz ?_
     with_reducible refine (laws_toVal.calls a1_0 a1_1 a1_2 a1_3 t394 t395 t396 t397 _ A7.out).mono ?_
     rintro e w26 ⟨rfl, hb⟩
     refine ⟨_, rfl, ?_⟩
     have n0_ := Aside0.mk (blk_below (g := gb375) (o := b4 a0_0 a0_1 a0_2 a0_3 23) (bz BK375.out) hb)
     have n1_ := Aside0.mk (blk_below (g := gb376) (o := b4 a1_0 a1_1 a1_2 a1_3 23) (bz BK376.out) hb)
     have n2_ := Aside0.mk (blk_below (g := gb389) (o := b4 t385 t386 t387 t388 25) (bz BK389.out) hb)
     have n3_ := Aside0.mk (below_step (hz3 HB.out GE375.out GE376.out GE389.out) hb)
     clear BK375
     clear BK376
     clear BK389
     clear HB
     have BK375 := n0_
     have BK376 := n1_
     have BK389 := n2_
     have HB := n3_
     clear n0_ n1_ n2_ n3_
     (try clear hb)
     (try clear hb2)
     (try clear hk)
     (try clear hi)
     refine hK.out _ _ ⟨bc BK375 0, bc BK375 1, bc BK375 2, bc BK375 3, bc BK376 0, bc BK376 1, bc BK376 2, bc BK376 3⟩ (fun hHeld => ?_)
     clear hK K
     refine norm_ (a' := ?_) ?_ ?_
     rotate_left
     ·show Act.put _ (some 15) _ = _
      simp only [Act.put, List.setIfInBounds_toArray, List.set_cons_zero, List.set_cons_succ, i64_w, i32_w]
      rfl
     refine two_ (i := 4) (j := 5) (Ni := some 16) (Nj := some 6) #[T, T, T, T, T, F, F] #[T, T, T, T, F, T, F] rfl rfl rfl rfl (by kernel_rfl) (by decide) (by decide) (fun K hK => ?_) (fun K hK => ?_)
     ·skip
      refine goes_ Try.func24 (by kernel_rfl) rfl #[.agg #[.int .i64 t390, .int .i64 t391, .int .i64 t392, .int .i64 t393], .agg #[.int .i64 t394, .int .i64 t395, .int .i64 t396, .int .i64 t397]] (by rfl) rfl rfl mz ?_
      with_reducible refine (impl_ValMeet.calls k t390 t391 t392 t393 t394 t395 t396 t397 t398 t399 t400 t401 _ A8.out).mono ?_
      rintro e w27 ⟨rfl, hb⟩
      refine ⟨_, rfl, ?_⟩
      have n0_ := Aside0.mk (blk_below (g := gb375) (o := b4 a0_0 a0_1 a0_2 a0_3 23) (bz BK375.out) hb)
      have n1_ := Aside0.mk (blk_below (g := gb376) (o := b4 a1_0 a1_1 a1_2 a1_3 23) (bz BK376.out) hb)
      have n2_ := Aside0.mk (blk_below (g := gb389) (o := b4 t385 t386 t387 t388 25) (bz BK389.out) hb)
      have n3_ := Aside0.mk (below_step (hz3 HB.out GE375.out GE376.out GE389.out) hb)
      clear BK375
      clear BK376
      clear BK389
      clear HB
      have BK375 := n0_
      have BK376 := n1_
      have BK389 := n2_
      have HB := n3_
      clear n0_ n1_ n2_ n3_
      (try clear hb)
      (try clear hb2)
      (try clear hk)
      (try clear hi)
      refine hK.out _ _ ⟨bc BK375 0, bc BK375 1, bc BK375 2, bc BK375 3, bc BK376 0, bc BK376 1, bc BK376 2, bc BK376 3⟩ (fun hHeld => ?_)
      clear hK K
      refine norm_ (a' := ?_) ?_ ?_
      rotate_left
      ·show Act.put _ (some 16) _ = _
       simp only [Act.put, List.setIfInBounds_toArray, List.set_cons_zero, List.set_cons_succ, i64_w, i32_w]
       rfl
      refine one_ (i := 5) (N := some 6) #[T, T, T, T, T, T, F] rfl rfl (by kernel_rfl) (by decide) (fun K hK => ?_)
      refine box_step ?hg (N := 6) ?hd (cs := #[.int .i64 0, .int .i64 0, .int .i64 0, .int .i64 0]) (t := 25) ?hr ?_; (case hd => rfl); (case hg => rfl); (case hr => first | (go_simp; done) | (go_simp; rfl))
      intro gb402 hg w28 hbox hb
      have n0_ := Aside0.mk (blk_below (g := gb375) (o := b4 a0_0 a0_1 a0_2 a0_3 23) (bz BK375.out) hb)
      have n1_ := Aside0.mk (blk_below (g := gb376) (o := b4 a1_0 a1_1 a1_2 a1_3 23) (bz BK376.out) hb)
      have n2_ := Aside0.mk (blk_below (g := gb389) (o := b4 t385 t386 t387 t388 25) (bz BK389.out) hb)
      have n3_ := Aside0.mk (below_step (hz3 HB.out GE375.out GE376.out GE389.out) hb)
      have n4_ := Aside0.mk (hbox)
      have n5_ := Aside0.mk ((by rw [hg]; exact (below_size (hz3 HB.out GE375.out GE376.out GE389.out)) : w.heap.size ≤ gb402))
      have n6_ := Aside0.mk ((by rw [hg]; exact (below_size (hz3 HB.out GE375.out GE376.out GE389.out)) : w.heap.size ≤ gb402))
      have n7_ := Aside0.mk ((by rw [hg]; exact Nat.ne_of_lt (blk_lt (g := gb375) (o := b4 a0_0 a0_1 a0_2 a0_3 23) (bz BK375.out)) : gb375 ≠ gb402))
      have n8_ := Aside0.mk ((by rw [hg]; exact Nat.ne_of_gt (blk_lt (g := gb375) (o := b4 a0_0 a0_1 a0_2 a0_3 23) (bz BK375.out)) : gb402 ≠ gb375))
      have n9_ := Aside0.mk ((by rw [hg]; exact Nat.ne_of_lt (blk_lt (g := gb376) (o := b4 a1_0 a1_1 a1_2 a1_3 23) (bz BK376.out)) : gb376 ≠ gb402))
      have n10_ := Aside0.mk ((by rw [hg]; exact Nat.ne_of_gt (blk_lt (g := gb376) (o := b4 a1_0 a1_1 a1_2 a1_3 23) (bz BK376.out)) : gb402 ≠ gb376))
      have n11_ := Aside0.mk ((by rw [hg]; exact Nat.ne_of_lt (blk_lt (g := gb389) (o := b4 t385 t386 t387 t388 25) (bz BK389.out)) : gb389 ≠ gb402))
      have n12_ := Aside0.mk ((by rw [hg]; exact Nat.ne_of_gt (blk_lt (g := gb389) (o := b4 t385 t386 t387 t388 25) (bz BK389.out)) : gb402 ≠ gb389))
      clear BK375
      clear BK376
      clear BK389
      clear HB
      have BK375 := n0_
      have BK376 := n1_
      have BK389 := n2_
      have HB := n3_
      have BK402 := n4_
      have GW402 := n5_
      have GE402 := n6_
      have NB375_402 := n7_
      have NB402_375 := n8_
      have NB376_402 := n9_
      have NB402_376 := n10_
      have NB389_402 := n11_
      have NB402_389 := n12_
      clear n0_ n1_ n2_ n3_ n4_ n5_ n6_ n7_ n8_ n9_ n10_ n11_ n12_
      clear hb hbox hg
      refine hK.out _ _ ⟨bc BK375 0, bc BK375 1, bc BK375 2, bc BK375 3, bc BK376 0, bc BK376 1, bc BK376 2, bc BK376 3⟩ (fun hHeld => ?_)
      clear hK K
      refine norm_ (a' := ?_) ?_ ?_
      rotate_left
      ·show Act.put _ (some 6) _ = _
       simp only [Act.put, List.setIfInBounds_toArray, List.set_cons_zero, List.set_cons_succ, i64_w, i32_w]
       rfl
      exact norm_ (by simp only [putAll, Act.put, List.setIfInBounds_toArray, List.set_cons_zero, List.set_cons_succ]) (hCont (gb402) _ ⟨hHeld, (bz BK375.out), (bz BK376.out), (bz BK389.out), (bz BK402.out), GW402.out, GE402.out, NB375_402.out, NB402_375.out, NB376_402.out, NB402_376.out, NB389_402.out, NB402_389.out, (hz4 HB.out GE375.out GE376.out GE389.out GE402.out)⟩)
     ·skip
      refine box_step ?hg (N := 6) ?hd (cs := #[.int .i64 0, .int .i64 0, .int .i64 0, .int .i64 0]) (t := 25) ?hr ?_; (case hd => rfl); (case hg => rfl); (case hr => first | (go_simp; done) | (go_simp; rfl))
      intro gb402 hg w27 hbox hb
      have n0_ := Aside0.mk (blk_below (g := gb375) (o := b4 a0_0 a0_1 a0_2 a0_3 23) (bz BK375.out) hb)
      have n1_ := Aside0.mk (blk_below (g := gb376) (o := b4 a1_0 a1_1 a1_2 a1_3 23) (bz BK376.out) hb)
      have n2_ := Aside0.mk (blk_below (g := gb389) (o := b4 t385 t386 t387 t388 25) (bz BK389.out) hb)
      have n3_ := Aside0.mk (below_step (hz3 HB.out GE375.out GE376.out GE389.out) hb)
      have n4_ := Aside0.mk (hbox)
      have n5_ := Aside0.mk ((by rw [hg]; exact (below_size (hz3 HB.out GE375.out GE376.out GE389.out)) : w.heap.size ≤ gb402))
      have n6_ := Aside0.mk ((by rw [hg]; exact (below_size (hz3 HB.out GE375.out GE376.out GE389.out)) : w.heap.size ≤ gb402))
      have n7_ := Aside0.mk ((by rw [hg]; exact Nat.ne_of_lt (blk_lt (g := gb375) (o := b4 a0_0 a0_1 a0_2 a0_3 23) (bz BK375.out)) : gb375 ≠ gb402))
      have n8_ := Aside0.mk ((by rw [hg]; exact Nat.ne_of_gt (blk_lt (g := gb375) (o := b4 a0_0 a0_1 a0_2 a0_3 23) (bz BK375.out)) : gb402 ≠ gb375))
      have n9_ := Aside0.mk ((by rw [hg]; exact Nat.ne_of_lt (blk_lt (g := gb376) (o := b4 a1_0 a1_1 a1_2 a1_3 23) (bz BK376.out)) : gb376 ≠ gb402))
      have n10_ := Aside0.mk ((by rw [hg]; exact Nat.ne_of_gt (blk_lt (g := gb376) (o := b4 a1_0 a1_1 a1_2 a1_3 23) (bz BK376.out)) : gb402 ≠ gb376))
      have n11_ := Aside0.mk ((by rw [hg]; exact Nat.ne_of_lt (blk_lt (g := gb389) (o := b4 t385 t386 t387 t388 25) (bz BK389.out)) : gb389 ≠ gb402))
      have n12_ := Aside0.mk ((by rw [hg]; exact Nat.ne_of_gt (blk_lt (g := gb389) (o := b4 t385 t386 t387 t388 25) (bz BK389.out)) : gb402 ≠ gb389))
      clear BK375
      clear BK376
      clear BK389
      clear HB
      have BK375 := n0_
      have BK376 := n1_
      have BK389 := n2_
      have HB := n3_
      have BK402 := n4_
      have GW402 := n5_
      have GE402 := n6_
      have NB375_402 := n7_
      have NB402_375 := n8_
      have NB376_402 := n9_
      have NB402_376 := n10_
      have NB389_402 := n11_
      have NB402_389 := n12_
      clear n0_ n1_ n2_ n3_ n4_ n5_ n6_ n7_ n8_ n9_ n10_ n11_ n12_
      clear hb hbox hg
      refine hK.out _ _ ⟨bc BK375 0, bc BK375 1, bc BK375 2, bc BK375 3, bc BK376 0, bc BK376 1, bc BK376 2, bc BK376 3⟩ (fun hHeld => ?_)
      clear hK K
      refine norm_ (a' := ?_) ?_ ?_
      rotate_left
      ·show Act.put _ (some 6) _ = _
       simp only [Act.put, List.setIfInBounds_toArray, List.set_cons_zero, List.set_cons_succ, i64_w, i32_w]
       rfl
      refine one_ (i := 4) (N := some 16) #[T, T, T, T, T, T, F] rfl rfl (by kernel_rfl) (by decide) (fun K hK => ?_)
      refine goes_ Try.func24 (by kernel_rfl) rfl #[.agg #[.int .i64 t390, .int .i64 t391, .int .i64 t392, .int .i64 t393], .agg #[.int .i64 t394, .int .i64 t395, .int .i64 t396, .int .i64 t397]] (by rfl) rfl rfl mz ?_
      with_reducible refine (impl_ValMeet.calls k t390 t391 t392 t393 t394 t395 t396 t397 t398 t399 t400 t401 _ A8.out).mono ?_
      rintro e w28 ⟨rfl, hb⟩
      refine ⟨_, rfl, ?_⟩
      have n0_ := Aside0.mk (blk_below (g := gb375) (o := b4 a0_0 a0_1 a0_2 a0_3 23) (bz BK375.out) hb)
      have n1_ := Aside0.mk (blk_below (g := gb376) (o := b4 a1_0 a1_1 a1_2 a1_3 23) (bz BK376.out) hb)
      have n2_ := Aside0.mk (blk_below (g := gb389) (o := b4 t385 t386 t387 t388 25) (bz BK389.out) hb)
      have n3_ := Aside0.mk (blk_below (g := gb402) (o := b4 0 0 0 0 25) (bz BK402.out) hb)
      have n4_ := Aside0.mk (below_step (hz4 HB.out GE375.out GE376.out GE389.out GE402.out) hb)
      clear BK375
      clear BK376
      clear BK389
      clear BK402
      clear HB
      have BK375 := n0_
      have BK376 := n1_
      have BK389 := n2_
      have BK402 := n3_
      have HB := n4_
      clear n0_ n1_ n2_ n3_ n4_
      (try clear hb)
      (try clear hb2)
      (try clear hk)
      (try clear hi)
      refine hK.out _ _ ⟨bc BK375 0, bc BK375 1, bc BK375 2, bc BK375 3, bc BK376 0, bc BK376 1, bc BK376 2, bc BK376 3⟩ (fun hHeld => ?_)
      clear hK K
      refine norm_ (a' := ?_) ?_ ?_
      rotate_left
      ·show Act.put _ (some 16) _ = _
       simp only [Act.put, List.setIfInBounds_toArray, List.set_cons_zero, List.set_cons_succ, i64_w, i32_w]
       rfl
      exact norm_ (by simp only [putAll, Act.put, List.setIfInBounds_toArray, List.set_cons_zero, List.set_cons_succ]) (hCont (gb402) _ ⟨hHeld, (bz BK375.out), (bz BK376.out), (bz BK389.out), (bz BK402.out), GW402.out, GE402.out, NB375_402.out, NB402_375.out, NB376_402.out, NB402_376.out, NB389_402.out, NB402_389.out, (hz4 HB.out GE375.out GE376.out GE389.out GE402.out)⟩)
    ·skip
     refine box_step ?hg (N := 6) ?hd (cs := #[.int .i64 0, .int .i64 0, .int .i64 0, .int .i64 0]) (t := 25) ?hr ?_; (case hd => rfl); (case hg => rfl); (case hr => first | (go_simp; done) | (go_simp; rfl))
     intro gb402 hg w26 hbox hb
     have n0_ := Aside0.mk (blk_below (g := gb375) (o := b4 a0_0 a0_1 a0_2 a0_3 23) (bz BK375.out) hb)
     have n1_ := Aside0.mk (blk_below (g := gb376) (o := b4 a1_0 a1_1 a1_2 a1_3 23) (bz BK376.out) hb)
     have n2_ := Aside0.mk (blk_below (g := gb389) (o := b4 t385 t386 t387 t388 25) (bz BK389.out) hb)
     have n3_ := Aside0.mk (below_step (hz3 HB.out GE375.out GE376.out GE389.out) hb)
     have n4_ := Aside0.mk (hbox)
     have n5_ := Aside0.mk ((by rw [hg]; exact (below_size (hz3 HB.out GE375.out GE376.out GE389.out)) : w.heap.size ≤ gb402))
     have n6_ := Aside0.mk ((by rw [hg]; exact (below_size (hz3 HB.out GE375.out GE376.out GE389.out)) : w.heap.size ≤ gb402))
     have n7_ := Aside0.mk ((by rw [hg]; exact Nat.ne_of_lt (blk_lt (g := gb375) (o := b4 a0_0 a0_1 a0_2 a0_3 23) (bz BK375.out)) : gb375 ≠ gb402))
     have n8_ := Aside0.mk ((by rw [hg]; exact Nat.ne_of_gt (blk_lt (g := gb375) (o := b4 a0_0 a0_1 a0_2 a0_3 23) (bz BK375.out)) : gb402 ≠ gb375))
     have n9_ := Aside0.mk ((by rw [hg]; exact Nat.ne_of_lt (blk_lt (g := gb376) (o := b4 a1_0 a1_1 a1_2 a1_3 23) (bz BK376.out)) : gb376 ≠ gb402))
     have n10_ := Aside0.mk ((by rw [hg]; exact Nat.ne_of_gt (blk_lt (g := gb376) (o := b4 a1_0 a1_1 a1_2 a1_3 23) (bz BK376.out)) : gb402 ≠ gb376))
     have n11_ := Aside0.mk ((by rw [hg]; exact Nat.ne_of_lt (blk_lt (g := gb389) (o := b4 t385 t386 t387 t388 25) (bz BK389.out)) : gb389 ≠ gb402))
     have n12_ := Aside0.mk ((by rw [hg]; exact Nat.ne_of_gt (blk_lt (g := gb389) (o := b4 t385 t386 t387 t388 25) (bz BK389.out)) : gb402 ≠ gb389))
     clear BK375
     clear BK376
     clear BK389
     clear HB
     have BK375 := n0_
     have BK376 := n1_
     have BK389 := n2_
     have HB := n3_
     have BK402 := n4_
     have GW402 := n5_
     have GE402 := n6_
     have NB375_402 := n7_
     have NB402_375 := n8_
     have NB376_402 := n9_
     have NB402_376 := n10_
     have NB389_402 := n11_
     have NB402_389 := n12_
     clear n0_ n1_ n2_ n3_ n4_ n5_ n6_ n7_ n8_ n9_ n10_ n11_ n12_
     clear hb hbox hg
     refine hK.out _ _ ⟨bc BK375 0, bc BK375 1, bc BK375 2, bc BK375 3, bc BK376 0, bc BK376 1, bc BK376 2, bc BK376 3⟩ (fun hHeld => ?_)
     clear hK K
     refine norm_ (a' := ?_) ?_ ?_
     rotate_left
     ·show Act.put _ (some 6) _ = _
      simp only [Act.put, List.setIfInBounds_toArray, List.set_cons_zero, List.set_cons_succ, i64_w, i32_w]
      rfl
     refine one_ (i := 3) (N := some 15) #[T, T, T, T, F, T, F] rfl rfl (by kernel_rfl) (by decide) (fun K hK => ?_)
     refine goes_ Try.func16 (by kernel_rfl) rfl #[.agg #[.int .i64 a1_0, .int .i64 a1_1, .int .i64 a1_2, .int .i64 a1_3]] (by rfl) rfl rfl mz ?_
     with_reducible refine (laws_toVal.calls a1_0 a1_1 a1_2 a1_3 t394 t395 t396 t397 _ A7.out).mono ?_
     rintro e w27 ⟨rfl, hb⟩
     refine ⟨_, rfl, ?_⟩
     have n0_ := Aside0.mk (blk_below (g := gb375) (o := b4 a0_0 a0_1 a0_2 a0_3 23) (bz BK375.out) hb)
     have n1_ := Aside0.mk (blk_below (g := gb376) (o := b4 a1_0 a1_1 a1_2 a1_3 23) (bz BK376.out) hb)
     have n2_ := Aside0.mk (blk_below (g := gb389) (o := b4 t385 t386 t387 t388 25) (bz BK389.out) hb)
     have n3_ := Aside0.mk (blk_below (g := gb402) (o := b4 0 0 0 0 25) (bz BK402.out) hb)
     have n4_ := Aside0.mk (below_step (hz4 HB.out GE375.out GE376.out GE389.out GE402.out) hb)
     clear BK375
     clear BK376
     clear BK389
     clear BK402
     clear HB
     have BK375 := n0_
     have BK376 := n1_
     have BK389 := n2_
     have BK402 := n3_
     have HB := n4_
     clear n0_ n1_ n2_ n3_ n4_
     (try clear hb)
     (try clear hb2)
     (try clear hk)
     (try clear hi)
     refine hK.out _ _ ⟨bc BK375 0, bc BK375 1, bc BK375 2, bc BK375 3, bc BK376 0, bc BK376 1, bc BK376 2, bc BK376 3⟩ (fun hHeld => ?_)
     clear hK K
     refine norm_ (a' := ?_) ?_ ?_
     rotate_left
     ·show Act.put _ (some 15) _ = _
      simp only [Act.put, List.setIfInBounds_toArray, List.set_cons_zero, List.set_cons_succ, i64_w, i32_w]
      rfl
     refine one_ (i := 4) (N := some 16) #[T, T, T, T, T, T, F] rfl rfl (by kernel_rfl) (by decide) (fun K hK => ?_)
     refine goes_ Try.func24 (by kernel_rfl) rfl #[.agg #[.int .i64 t390, .int .i64 t391, .int .i64 t392, .int .i64 t393], .agg #[.int .i64 t394, .int .i64 t395, .int .i64 t396, .int .i64 t397]] (by rfl) rfl rfl mz ?_
     with_reducible refine (impl_ValMeet.calls k t390 t391 t392 t393 t394 t395 t396 t397 t398 t399 t400 t401 _ A8.out).mono ?_
     rintro e w28 ⟨rfl, hb⟩
     refine ⟨_, rfl, ?_⟩
     have n0_ := Aside0.mk (blk_below (g := gb375) (o := b4 a0_0 a0_1 a0_2 a0_3 23) (bz BK375.out) hb)
     have n1_ := Aside0.mk (blk_below (g := gb376) (o := b4 a1_0 a1_1 a1_2 a1_3 23) (bz BK376.out) hb)
     have n2_ := Aside0.mk (blk_below (g := gb389) (o := b4 t385 t386 t387 t388 25) (bz BK389.out) hb)
     have n3_ := Aside0.mk (blk_below (g := gb402) (o := b4 0 0 0 0 25) (bz BK402.out) hb)
     have n4_ := Aside0.mk (below_step (hz4 HB.out GE375.out GE376.out GE389.out GE402.out) hb)
     clear BK375
     clear BK376
     clear BK389
     clear BK402
     clear HB
     have BK375 := n0_
     have BK376 := n1_
     have BK389 := n2_
     have BK402 := n3_
     have HB := n4_
     clear n0_ n1_ n2_ n3_ n4_
     (try clear hb)
     (try clear hb2)
     (try clear hk)
     (try clear hi)
     refine hK.out _ _ ⟨bc BK375 0, bc BK375 1, bc BK375 2, bc BK375 3, bc BK376 0, bc BK376 1, bc BK376 2, bc BK376 3⟩ (fun hHeld => ?_)
     clear hK K
     refine norm_ (a' := ?_) ?_ ?_
     rotate_left
     ·show Act.put _ (some 16) _ = _
      simp only [Act.put, List.setIfInBounds_toArray, List.set_cons_zero, List.set_cons_succ, i64_w, i32_w]
      rfl
     exact norm_ (by simp only [putAll, Act.put, List.setIfInBounds_toArray, List.set_cons_zero, List.set_cons_succ]) (hCont (gb402) _ ⟨hHeld, (bz BK375.out), (bz BK376.out), (bz BK389.out), (bz BK402.out), GW402.out, GE402.out, NB375_402.out, NB402_375.out, NB376_402.out, NB402_376.out, NB389_402.out, NB402_389.out, (hz4 HB.out GE375.out GE376.out GE389.out GE402.out)⟩)
   ·skip
    refine box_step ?hg (N := 6) ?hd (cs := #[.int .i64 0, .int .i64 0, .int .i64 0, .int .i64 0]) (t := 25) ?hr ?_; (case hd => rfl); (case hg => rfl); (case hr => first | (go_simp; done) | (go_simp; rfl))
    intro gb402 hg w25 hbox hb
    have n0_ := Aside0.mk (blk_below (g := gb375) (o := b4 a0_0 a0_1 a0_2 a0_3 23) (bz BK375.out) hb)
    have n1_ := Aside0.mk (blk_below (g := gb376) (o := b4 a1_0 a1_1 a1_2 a1_3 23) (bz BK376.out) hb)
    have n2_ := Aside0.mk (blk_below (g := gb389) (o := b4 t385 t386 t387 t388 25) (bz BK389.out) hb)
    have n3_ := Aside0.mk (below_step (hz3 HB.out GE375.out GE376.out GE389.out) hb)
    have n4_ := Aside0.mk (hbox)
    have n5_ := Aside0.mk ((by rw [hg]; exact (below_size (hz3 HB.out GE375.out GE376.out GE389.out)) : w.heap.size ≤ gb402))
    have n6_ := Aside0.mk ((by rw [hg]; exact (below_size (hz3 HB.out GE375.out GE376.out GE389.out)) : w.heap.size ≤ gb402))
    have n7_ := Aside0.mk ((by rw [hg]; exact Nat.ne_of_lt (blk_lt (g := gb375) (o := b4 a0_0 a0_1 a0_2 a0_3 23) (bz BK375.out)) : gb375 ≠ gb402))
    have n8_ := Aside0.mk ((by rw [hg]; exact Nat.ne_of_gt (blk_lt (g := gb375) (o := b4 a0_0 a0_1 a0_2 a0_3 23) (bz BK375.out)) : gb402 ≠ gb375))
    have n9_ := Aside0.mk ((by rw [hg]; exact Nat.ne_of_lt (blk_lt (g := gb376) (o := b4 a1_0 a1_1 a1_2 a1_3 23) (bz BK376.out)) : gb376 ≠ gb402))
    have n10_ := Aside0.mk ((by rw [hg]; exact Nat.ne_of_gt (blk_lt (g := gb376) (o := b4 a1_0 a1_1 a1_2 a1_3 23) (bz BK376.out)) : gb402 ≠ gb376))
    have n11_ := Aside0.mk ((by rw [hg]; exact Nat.ne_of_lt (blk_lt (g := gb389) (o := b4 t385 t386 t387 t388 25) (bz BK389.out)) : gb389 ≠ gb402))
    have n12_ := Aside0.mk ((by rw [hg]; exact Nat.ne_of_gt (blk_lt (g := gb389) (o := b4 t385 t386 t387 t388 25) (bz BK389.out)) : gb402 ≠ gb389))
    clear BK375
    clear BK376
    clear BK389
    clear HB
    have BK375 := n0_
    have BK376 := n1_
    have BK389 := n2_
    have HB := n3_
    have BK402 := n4_
    have GW402 := n5_
    have GE402 := n6_
    have NB375_402 := n7_
    have NB402_375 := n8_
    have NB376_402 := n9_
    have NB402_376 := n10_
    have NB389_402 := n11_
    have NB402_389 := n12_
    clear n0_ n1_ n2_ n3_ n4_ n5_ n6_ n7_ n8_ n9_ n10_ n11_ n12_
    clear hb hbox hg
    refine hK.out _ _ ⟨bc BK375 0, bc BK375 1, bc BK375 2, bc BK375 3, bc BK376 0, bc BK376 1, bc BK376 2, bc BK376 3⟩ (fun hHeld => ?_)
    clear hK K
    refine norm_ (a' := ?_) ?_ ?_
    rotate_left
    ·show Act.put _ (some 6) _ = _
     simp only [Act.put, List.setIfInBounds_toArray, List.set_cons_zero, List.set_cons_succ, i64_w, i32_w]
     rfl
    refine one_ (i := 1) (N := some 13) #[T, T, T, F, F, T, F] rfl rfl (by kernel_rfl) (by decide) (fun K hK => ?_)
    refine goes_ Try.func16 (by kernel_rfl) rfl #[.agg #[.int .i64 a0_0, .int .i64 a0_1, .int .i64 a0_2, .int .i64 a0_3]] (by rfl) rfl rfl mz ?_
    with_reducible refine (laws_toVal.calls a0_0 a0_1 a0_2 a0_3 t390 t391 t392 t393 _ A6.out).mono ?_
    rintro e w26 ⟨rfl, hb⟩
    refine ⟨_, rfl, ?_⟩
    have n0_ := Aside0.mk (blk_below (g := gb375) (o := b4 a0_0 a0_1 a0_2 a0_3 23) (bz BK375.out) hb)
    have n1_ := Aside0.mk (blk_below (g := gb376) (o := b4 a1_0 a1_1 a1_2 a1_3 23) (bz BK376.out) hb)
    have n2_ := Aside0.mk (blk_below (g := gb389) (o := b4 t385 t386 t387 t388 25) (bz BK389.out) hb)
    have n3_ := Aside0.mk (blk_below (g := gb402) (o := b4 0 0 0 0 25) (bz BK402.out) hb)
    have n4_ := Aside0.mk (below_step (hz4 HB.out GE375.out GE376.out GE389.out GE402.out) hb)
    clear BK375
    clear BK376
    clear BK389
    clear BK402
    clear HB
    have BK375 := n0_
    have BK376 := n1_
    have BK389 := n2_
    have BK402 := n3_
    have HB := n4_
    clear n0_ n1_ n2_ n3_ n4_
    (try clear hb)
    (try clear hb2)
    (try clear hk)
    (try clear hi)
    refine hK.out _ _ ⟨bc BK375 0, bc BK375 1, bc BK375 2, bc BK375 3, bc BK376 0, bc BK376 1, bc BK376 2, bc BK376 3⟩ (fun hHeld => ?_)
    clear hK K
    refine norm_ (a' := ?_) ?_ ?_
    rotate_left
    ·show Act.put _ (some 13) _ = _
     simp only [Act.put, List.setIfInBounds_toArray, List.set_cons_zero, List.set_cons_succ, i64_w, i32_w]
     rfl
    refine one_ (i := 3) (N := some 15) #[T, T, T, T, F, T, F] rfl rfl (by kernel_rfl) (by decide) (fun K hK => ?_)
    refine goes_ Try.func16 (by kernel_rfl) rfl #[.agg #[.int .i64 a1_0, .int .i64 a1_1, .int .i64 a1_2, .int .i64 a1_3]] (by rfl) rfl rfl mz ?_
    with_reducible refine (laws_toVal.calls a1_0 a1_1 a1_2 a1_3 t394 t395 t396 t397 _ A7.out).mono ?_
    rintro e w27 ⟨rfl, hb⟩
    refine ⟨_, rfl, ?_⟩
    have n0_ := Aside0.mk (blk_below (g := gb375) (o := b4 a0_0 a0_1 a0_2 a0_3 23) (bz BK375.out) hb)
    have n1_ := Aside0.mk (blk_below (g := gb376) (o := b4 a1_0 a1_1 a1_2 a1_3 23) (bz BK376.out) hb)
    have n2_ := Aside0.mk (blk_below (g := gb389) (o := b4 t385 t386 t387 t388 25) (bz BK389.out) hb)
    have n3_ := Aside0.mk (blk_below (g := gb402) (o := b4 0 0 0 0 25) (bz BK402.out) hb)
    have n4_ := Aside0.mk (below_step (hz4 HB.out GE375.out GE376.out GE389.out GE402.out) hb)
    clear BK375
    clear BK376
    clear BK389
    clear BK402
    clear HB
    have BK375 := n0_
    have BK376 := n1_
    have BK389 := n2_
    have BK402 := n3_
    have HB := n4_
    clear n0_ n1_ n2_ n3_ n4_
    (try clear hb)
    (try clear hb2)
    (try clear hk)
    (try clear hi)
    refine hK.out _ _ ⟨bc BK375 0, bc BK375 1, bc BK375 2, bc BK375 3, bc BK376 0, bc BK376 1, bc BK376 2, bc BK376 3⟩ (fun hHeld => ?_)
    clear hK K
    refine norm_ (a' := ?_) ?_ ?_
    rotate_left
    ·show Act.put _ (some 15) _ = _
     simp only [Act.put, List.setIfInBounds_toArray, List.set_cons_zero, List.set_cons_succ, i64_w, i32_w]
     rfl
    refine one_ (i := 4) (N := some 16) #[T, T, T, T, T, T, F] rfl rfl (by kernel_rfl) (by decide) (fun K hK => ?_)
    refine goes_ Try.func24 (by kernel_rfl) rfl #[.agg #[.int .i64 t390, .int .i64 t391, .int .i64 t392, .int .i64 t393], .agg #[.int .i64 t394, .int .i64 t395, .int .i64 t396, .int .i64 t397]] (by rfl) rfl rfl mz ?_
    with_reducible refine (impl_ValMeet.calls k t390 t391 t392 t393 t394 t395 t396 t397 t398 t399 t400 t401 _ A8.out).mono ?_
    rintro e w28 ⟨rfl, hb⟩
    refine ⟨_, rfl, ?_⟩
    have n0_ := Aside0.mk (blk_below (g := gb375) (o := b4 a0_0 a0_1 a0_2 a0_3 23) (bz BK375.out) hb)
    have n1_ := Aside0.mk (blk_below (g := gb376) (o := b4 a1_0 a1_1 a1_2 a1_3 23) (bz BK376.out) hb)
    have n2_ := Aside0.mk (blk_below (g := gb389) (o := b4 t385 t386 t387 t388 25) (bz BK389.out) hb)
    have n3_ := Aside0.mk (blk_below (g := gb402) (o := b4 0 0 0 0 25) (bz BK402.out) hb)
    have n4_ := Aside0.mk (below_step (hz4 HB.out GE375.out GE376.out GE389.out GE402.out) hb)
    clear BK375
    clear BK376
    clear BK389
    clear BK402
    clear HB
    have BK375 := n0_
    have BK376 := n1_
    have BK389 := n2_
    have BK402 := n3_
    have HB := n4_
    clear n0_ n1_ n2_ n3_ n4_
    (try clear hb)
    (try clear hb2)
    (try clear hk)
    (try clear hi)
    refine hK.out _ _ ⟨bc BK375 0, bc BK375 1, bc BK375 2, bc BK375 3, bc BK376 0, bc BK376 1, bc BK376 2, bc BK376 3⟩ (fun hHeld => ?_)
    clear hK K
    refine norm_ (a' := ?_) ?_ ?_
    rotate_left
    ·show Act.put _ (some 16) _ = _
     simp only [Act.put, List.setIfInBounds_toArray, List.set_cons_zero, List.set_cons_succ, i64_w, i32_w]
     rfl
    exact norm_ (by simp only [putAll, Act.put, List.setIfInBounds_toArray, List.set_cons_zero, List.set_cons_succ]) (hCont (gb402) _ ⟨hHeld, (bz BK375.out), (bz BK376.out), (bz BK389.out), (bz BK402.out), GW402.out, GE402.out, NB375_402.out, NB402_375.out, NB376_402.out, NB402_376.out, NB389_402.out, NB402_389.out, (hz4 HB.out GE375.out GE376.out GE389.out GE402.out)⟩)
  rintro gb402 w29 ⟨hS_, h0_, h1_, h2_, h3_, h4_, h5_, h6_, h7_, h8_, h9_, h10_, h11_, h12_⟩
  have n0_ : Aside0 (w29.heap[gb375]? = some (.cells #[.int .i64 a0_0, .int .i64 a0_1, .int .i64 a0_2, .int .i64 a0_3] 23 (0, 0))) := ⟨h0_⟩
  have n1_ : Aside0 (w29.heap[gb376]? = some (.cells #[.int .i64 a1_0, .int .i64 a1_1, .int .i64 a1_2, .int .i64 a1_3] 23 (0, 0))) := ⟨h1_⟩
  have n2_ : Aside0 (w29.heap[gb389]? = some (.cells #[.int .i64 t385, .int .i64 t386, .int .i64 t387, .int .i64 t388] 25 (0, 0))) := ⟨h2_⟩
  have n3_ : Aside0 (w29.heap[gb402]? = some (.cells #[.int .i64 0, .int .i64 0, .int .i64 0, .int .i64 0] 25 (0, 0))) := ⟨h3_⟩
  have n4_ : Aside0 (w.heap.size ≤ gb402) := ⟨h4_⟩
  have n5_ : Aside0 (w.heap.size ≤ gb402) := ⟨h5_⟩
  have n6_ : Aside0 (gb375 ≠ gb402) := ⟨h6_⟩
  have n7_ : Aside0 (gb402 ≠ gb375) := ⟨h7_⟩
  have n8_ : Aside0 (gb376 ≠ gb402) := ⟨h8_⟩
  have n9_ : Aside0 (gb402 ≠ gb376) := ⟨h9_⟩
  have n10_ : Aside0 (gb389 ≠ gb402) := ⟨h10_⟩
  have n11_ : Aside0 (gb402 ≠ gb389) := ⟨h11_⟩
  have n12_ : Aside0 (Below w.heap.size w w29) := ⟨h12_⟩
  clear BK375
  clear BK376
  clear BK389
  clear HB
  clear h0_ h1_ h2_ h3_ h4_ h5_ h6_ h7_ h8_ h9_ h10_ h11_ h12_
  have BK375 := n0_
  have BK376 := n1_
  have BK389 := n2_
  have BK402 := n3_
  have GW402 := n4_
  have GE402 := n5_
  have NB375_402 := n6_
  have NB402_375 := n7_
  have NB376_402 := n8_
  have NB402_376 := n9_
  have NB389_402 := n10_
  have NB402_389 := n11_
  have HB := n12_
  clear n0_ n1_ n2_ n3_ n4_ n5_ n6_ n7_ n8_ n9_ n10_ n11_ n12_
  have hHeld : w29.cell? ⟨gb375, 0, none⟩ = some (.int .i64 a0_0) ∧ w29.cell? ⟨gb375, 1, none⟩ = some (.int .i64 a0_1) ∧ w29.cell? ⟨gb375, 2, none⟩ = some (.int .i64 a0_2) ∧ w29.cell? ⟨gb375, 3, none⟩ = some (.int .i64 a0_3) ∧ w29.cell? ⟨gb376, 0, none⟩ = some (.int .i64 a1_0) ∧ w29.cell? ⟨gb376, 1, none⟩ = some (.int .i64 a1_1) ∧ w29.cell? ⟨gb376, 2, none⟩ = some (.int .i64 a1_2) ∧ w29.cell? ⟨gb376, 3, none⟩ = some (.int .i64 a1_3) := hS_
  refine norm_ (a' := ?_) ?_ ?_
  rotate_left
  ·simp only [putAll, Act.put, List.setIfInBounds_toArray, List.set_cons_zero, List.set_cons_succ]
   rfl
  refine one_ (i := 6) (N := none) #[T, T, T, T, T, T, T] rfl rfl (by kernel_rfl) (by decide) (fun K hK => ?_)
  have hs30 : w29.cell? ⟨gb402, 0, none⟩ = some (.int .i64 0) := bc BK402 0
  have hfs30 := blk_frozen BK402.out 0
  have hns30_0 := NB375_402.out
  have hns30_1 := NB376_402.out
  have hns30_2 := NB389_402.out
  have hms30_0 := NB402_375.out
  have hms30_1 := NB402_376.out
  have hms30_2 := NB402_389.out
  have hs31 : w29.cell? ⟨gb402, 1, none⟩ = some (.int .i64 0) := bc BK402 1
  have hfs31 := blk_frozen BK402.out 1
  have hns31_0 := NB375_402.out
  have hns31_1 := NB376_402.out
  have hns31_2 := NB389_402.out
  have hms31_0 := NB402_375.out
  have hms31_1 := NB402_376.out
  have hms31_2 := NB402_389.out
  have hs32 : w29.cell? ⟨gb402, 2, none⟩ = some (.int .i64 0) := bc BK402 2
  have hfs32 := blk_frozen BK402.out 2
  have hns32_0 := NB375_402.out
  have hns32_1 := NB376_402.out
  have hns32_2 := NB389_402.out
  have hms32_0 := NB402_375.out
  have hms32_1 := NB402_376.out
  have hms32_2 := NB402_389.out
  have hs33 : w29.cell? ⟨gb402, 3, none⟩ = some (.int .i64 0) := bc BK402 3
  have hfs33 := blk_frozen BK402.out 3
  have hns33_0 := NB375_402.out
  have hns33_1 := NB376_402.out
  have hns33_2 := NB389_402.out
  have hms33_0 := NB402_375.out
  have hms33_1 := NB402_376.out
  have hms33_2 := NB402_389.out
  refine skip_ (w1 := ?_) (by rfl) rfl ?_ ?_
  rotate_left
  ·go_simp
   rfl
  refine hK.out _ _ ⟨((cell_far (p := ⟨gb402, _, none⟩) NB375_402.out _).trans (((cell_far (p := ⟨gb402, _, none⟩) NB375_402.out _).trans (((cell_far (p := ⟨gb402, _, none⟩) NB375_402.out _).trans (((cell_far (p := ⟨gb402, _, none⟩) NB375_402.out _).trans (hHeld.1)))))))), ((cell_far (p := ⟨gb402, _, none⟩) NB375_402.out _).trans (((cell_far (p := ⟨gb402, _, none⟩) NB375_402.out _).trans (((cell_far (p := ⟨gb402, _, none⟩) NB375_402.out _).trans (((cell_far (p := ⟨gb402, _, none⟩) NB375_402.out _).trans (hHeld.2.1)))))))), ((cell_far (p := ⟨gb402, _, none⟩) NB375_402.out _).trans (((cell_far (p := ⟨gb402, _, none⟩) NB375_402.out _).trans (((cell_far (p := ⟨gb402, _, none⟩) NB375_402.out _).trans (((cell_far (p := ⟨gb402, _, none⟩) NB375_402.out _).trans (hHeld.2.2.1)))))))), ((cell_far (p := ⟨gb402, _, none⟩) NB375_402.out _).trans (((cell_far (p := ⟨gb402, _, none⟩) NB375_402.out _).trans (((cell_far (p := ⟨gb402, _, none⟩) NB375_402.out _).trans (((cell_far (p := ⟨gb402, _, none⟩) NB375_402.out _).trans (hHeld.2.2.2.1)))))))), ((cell_far (p := ⟨gb402, _, none⟩) NB376_402.out _).trans (((cell_far (p := ⟨gb402, _, none⟩) NB376_402.out _).trans (((cell_far (p := ⟨gb402, _, none⟩) NB376_402.out _).trans (((cell_far (p := ⟨gb402, _, none⟩) NB376_402.out _).trans (hHeld.2.2.2.2.1)))))))), ((cell_far (p := ⟨gb402, _, none⟩) NB376_402.out _).trans (((cell_far (p := ⟨gb402, _, none⟩) NB376_402.out _).trans (((cell_far (p := ⟨gb402, _, none⟩) NB376_402.out _).trans (((cell_far (p := ⟨gb402, _, none⟩) NB376_402.out _).trans (hHeld.2.2.2.2.2.1)))))))), ((cell_far (p := ⟨gb402, _, none⟩) NB376_402.out _).trans (((cell_far (p := ⟨gb402, _, none⟩) NB376_402.out _).trans (((cell_far (p := ⟨gb402, _, none⟩) NB376_402.out _).trans (((cell_far (p := ⟨gb402, _, none⟩) NB376_402.out _).trans (hHeld.2.2.2.2.2.2.1)))))))), ((cell_far (p := ⟨gb402, _, none⟩) NB376_402.out _).trans (((cell_far (p := ⟨gb402, _, none⟩) NB376_402.out _).trans (((cell_far (p := ⟨gb402, _, none⟩) NB376_402.out _).trans (((cell_far (p := ⟨gb402, _, none⟩) NB376_402.out _).trans (hHeld.2.2.2.2.2.2.2))))))))⟩ (fun hHeld => ?_)
  clear hK K
  refine done_ (by kernel_rfl) ?_
  have hnb34 := NB402_375.out
  have hnc34 := NB375_402.out
  have hnb35 := NB402_376.out
  have hnc35 := NB376_402.out
  have hnb36 := NB402_389.out
  have hnc36 := NB389_402.out
  have hcz37_0 : w29.cell? ⟨gb402, 0, none⟩ = some (.int .i64 0) := bc BK402 0
  have hcz37_1 : w29.cell? ⟨gb402, 1, none⟩ = some (.int .i64 0) := bc BK402 1
  have hcz37_2 : w29.cell? ⟨gb402, 2, none⟩ = some (.int .i64 0) := bc BK402 2
  have hcz37_3 : w29.cell? ⟨gb402, 3, none⟩ = some (.int .i64 0) := bc BK402 3
  have hfz37_0 := blk_frozen BK402.out 0
  have hfz37_1 := blk_frozen BK402.out 1
  have hfz37_2 := blk_frozen BK402.out 2
  have hfz37_3 := blk_frozen BK402.out 3
  have hnb38 := NB389_375.out
  have hnc38 := NB375_389.out
  have hnb39 := NB389_376.out
  have hnc39 := NB376_389.out
  have hcz40_0 : w29.cell? ⟨gb389, 0, none⟩ = some (.int .i64 t385) := bc BK389 0
  have hcz40_1 : w29.cell? ⟨gb389, 1, none⟩ = some (.int .i64 t386) := bc BK389 1
  have hcz40_2 : w29.cell? ⟨gb389, 2, none⟩ = some (.int .i64 t387) := bc BK389 2
  have hcz40_3 : w29.cell? ⟨gb389, 3, none⟩ = some (.int .i64 t388) := bc BK389 3
  have hfz40_0 := blk_frozen BK389.out 0
  have hfz40_1 := blk_frozen BK389.out 1
  have hfz40_2 := blk_frozen BK389.out 2
  have hfz40_3 := blk_frozen BK389.out 3
  try go_wp2_with (first | ((with_reducible refine gate_callee (f := 22) rfl ?_); refine goesL_ (some 19) rfl rfl Try.func22 (by kernel_rfl) rfl #[.agg #[.int .i64 t398, .int .i64 t399, .int .i64 t400, .int .i64 t401], .agg #[.int .i64 t385, .int .i64 t386, .int .i64 t387, .int .i64 t388]] rfl mz ?_; (with_reducible refine (laws_eqVal.calls t398 t399 t400 t401 t385 t386 t387 t388 true _ A9.out).mono ?_); rintro e w41 ⟨rfl, hb⟩; refine ⟨_, rfl, ?_⟩; have n0_ := Aside0.mk (blk_below (g := gb375) (o := b4 a0_0 a0_1 a0_2 a0_3 23) (by (with_reducible repeat (first | refine blk_drewN ?_ _ | refine blk_drew ?_ | refine blk_alloc ?_ _)); refine blk_far ?_ NB375_402.out _; (with_reducible repeat (first | refine blk_drewN ?_ _ | refine blk_drew ?_ | refine blk_alloc ?_ _)); refine blk_far ?_ NB375_402.out _; (with_reducible repeat (first | refine blk_drewN ?_ _ | refine blk_drew ?_ | refine blk_alloc ?_ _)); refine blk_far ?_ NB375_402.out _; (with_reducible repeat (first | refine blk_drewN ?_ _ | refine blk_drew ?_ | refine blk_alloc ?_ _)); refine blk_far ?_ NB375_402.out _; (with_reducible repeat (first | refine blk_drewN ?_ _ | refine blk_drew ?_ | refine blk_alloc ?_ _)); exact BK375.out) hb); have n1_ := Aside0.mk (blk_below (g := gb376) (o := b4 a1_0 a1_1 a1_2 a1_3 23) (by (with_reducible repeat (first | refine blk_drewN ?_ _ | refine blk_drew ?_ | refine blk_alloc ?_ _)); refine blk_far ?_ NB376_402.out _; (with_reducible repeat (first | refine blk_drewN ?_ _ | refine blk_drew ?_ | refine blk_alloc ?_ _)); refine blk_far ?_ NB376_402.out _; (with_reducible repeat (first | refine blk_drewN ?_ _ | refine blk_drew ?_ | refine blk_alloc ?_ _)); refine blk_far ?_ NB376_402.out _; (with_reducible repeat (first | refine blk_drewN ?_ _ | refine blk_drew ?_ | refine blk_alloc ?_ _)); refine blk_far ?_ NB376_402.out _; (with_reducible repeat (first | refine blk_drewN ?_ _ | refine blk_drew ?_ | refine blk_alloc ?_ _)); exact BK376.out) hb); have n2_ := Aside0.mk (blk_below (g := gb389) (o := b4 t385 t386 t387 t388 25) (by (with_reducible repeat (first | refine blk_drewN ?_ _ | refine blk_drew ?_ | refine blk_alloc ?_ _)); refine blk_far ?_ NB389_402.out _; (with_reducible repeat (first | refine blk_drewN ?_ _ | refine blk_drew ?_ | refine blk_alloc ?_ _)); refine blk_far ?_ NB389_402.out _; (with_reducible repeat (first | refine blk_drewN ?_ _ | refine blk_drew ?_ | refine blk_alloc ?_ _)); refine blk_far ?_ NB389_402.out _; (with_reducible repeat (first | refine blk_drewN ?_ _ | refine blk_drew ?_ | refine blk_alloc ?_ _)); refine blk_far ?_ NB389_402.out _; (with_reducible repeat (first | refine blk_drewN ?_ _ | refine blk_drew ?_ | refine blk_alloc ?_ _)); exact BK389.out) hb); have n3_ := Aside0.mk (blk_below (g := gb402) (o := b4 t398 t399 t400 t401 25) (by (with_reducible repeat (first | refine blk_drewN ?_ _ | refine blk_drew ?_ | refine blk_alloc ?_ _)); refine blk_put (cs := #[.int .i64 t398, .int .i64 t399, .int .i64 t400, .int .i64 0]) ?_ 3 _ rfl; (with_reducible repeat (first | refine blk_drewN ?_ _ | refine blk_drew ?_ | refine blk_alloc ?_ _)); refine blk_put (cs := #[.int .i64 t398, .int .i64 t399, .int .i64 0, .int .i64 0]) ?_ 2 _ rfl; (with_reducible repeat (first | refine blk_drewN ?_ _ | refine blk_drew ?_ | refine blk_alloc ?_ _)); refine blk_put (cs := #[.int .i64 t398, .int .i64 0, .int .i64 0, .int .i64 0]) ?_ 1 _ rfl; (with_reducible repeat (first | refine blk_drewN ?_ _ | refine blk_drew ?_ | refine blk_alloc ?_ _)); refine blk_put (cs := #[.int .i64 0, .int .i64 0, .int .i64 0, .int .i64 0]) ?_ 0 _ rfl; (with_reducible repeat (first | refine blk_drewN ?_ _ | refine blk_drew ?_ | refine blk_alloc ?_ _)); exact BK402.out) hb); have n4_ := Aside0.mk (below_step (hz4 HB.out GE375.out GE376.out GE389.out GE402.out) hb); clear BK375; clear BK376; clear BK389; clear BK402; clear HB; have BK375 := n0_; have BK376 := n1_; have BK389 := n2_; have BK402 := n3_; have HB := n4_; clear n0_ n1_ n2_ n3_ n4_; (try clear hb); (try clear hb2); (try clear hk); (try clear hi)))
  go_ret
  exact ⟨by first | rfl | (simp [errW_none, errW_some] <;> rfl) | (simp [*, errW_none, errW_some] <;> rfl), hz4 HB.out GE375.out GE376.out GE389.out GE402.out⟩
 ·replace c10 := Bool.eq_false_iff.mpr c10
  subst c10
  have H1 : (none) = some r := by rw [if_neg (show ¬ (false = true) by decide)] at H; exact H
  clear H
  have H := H1
  clear H1
  exact absurd H (by simp)

end Go.Proofs.Ytnmccgjdnceheaa.PFnExactValMeet
