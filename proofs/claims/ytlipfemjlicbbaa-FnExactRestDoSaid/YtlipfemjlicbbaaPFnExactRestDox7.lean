/- Written by this session's own driver (wip/dprint.py): the functions that the law FnExactRestDo reaches, as Lean functions, each with its contract. -/
import Derived.Test.YtlipfemjlicbbaaPFnExactRestDox0
import Derived.Test.YtlipfemjlicbbaaPFnExactRestDox1
import Derived.Test.YtlipfemjlicbbaaPFnExactRestDox3
import Derived.Test.YtlipfemjlicbbaaPFnExactRestDox6
import Derived.Test.YtlipfemjlicbbaaSq
namespace Go.Proofs.Ytlipfemjlicbbaa.PFnExactRestDo
open Go.RowKit Go.Proofs.YtlipfemjlicbbaaW.PrintWords Go.Proofs.YtlipfemjlicbbaaW.PrintLast Go.Proofs.YtlipfemjlicbbaaW.PrintMore Go.Proofs.YtlipfemjlicbbaaSq
attribute [local go_sem] max2_int min2_int max_two min_two max_three min_three max_four min_four   -- for this text's walks alone
set_option linter.unusedVariables false
set_option linter.unusedSimpArgs false

/-! ### laws_FnExactRestDo: function 12 -/
def laws_FnExactRestDo.f (k : Nat) (a0 : Int) (a1_0 : Int) (a1_1 : Int) (a2_0 : Int) (a2_1 : Int) : Option (Bool) := (laws_toRest.f a1_0 a1_1).bind fun bt239 => ((laws_toRest.f a2_0 a2_1).bind fun bt241 => ((spec_RestDo.f k a0 bt239.1 bt239.2 bt241.1 bt241.2).bind fun bt243 => ((laws_toRest.f a1_0 a1_1).bind fun bt246 => ((laws_toRest.f a2_0 a2_1).bind fun bt248 => ((impl_RestDo.f k a0 bt246.1 bt246.2 bt248.1 bt248.2).bind fun bt250 => ((laws_eqRest.f bt250.1 bt250.2 bt243.1 bt243.2).bind fun t253 => (if t253 = true then (some true) else (some false))))))))
theorem laws_FnExactRestDo.mono : ∀ a0 a1 a2 a3 a4 k, LeO (laws_FnExactRestDo.f k a0 a1 a2 a3 a4) (laws_FnExactRestDo.f (k + 1) a0 a1 a2 a3 a4) := by
 intro a0 a1 a2 a3 a4 k
 unfold laws_FnExactRestDo.f
 repeat' first
   | (with_reducible exact impl_RestDo.mono _ _ _ _ _ _)
   | (with_reducible exact spec_RestDo.mono _ _ _ _ _ _)
   | (with_reducible exact LeO.refl _)
   | (with_reducible exact LeO.none _)
   | (with_reducible refine LeO.ite ?_ ?_)
   | (with_reducible refine LeO.bind ?_ (fun _ => ?_))
   | exact impl_RestDo.mono _ _ _ _ _ _
   | exact spec_RestDo.mono _ _ _ _ _ _
   | exact LeO.none _
   | refine LeO.ite ?_ ?_
   | refine LeO.bind ?_ (fun _ => ?_)
def laws_FnExactRestDo.T1 : Bool × List (List Nat × List Nat) := (true, [([], []), ([], []), ([1], [1]), ([], []), ([3, 2], [3]), ([0, 2, 4, 4], [0, 2, 4]), ([], []), ([6, 5, 5, 0, 1, 2, 3, 4, 5, 6], [5, 6])])
def laws_FnExactRestDo.B1 : List Nat := [0, 0, 2, 0, 14, 31, 0, 127]
theorem laws_FnExactRestDo.tab1 : rtab .any (opsOf Try.f12 1) = laws_FnExactRestDo.T1 := by kernel_rfl
theorem laws_FnExactRestDo.bits1 : waitsOk laws_FnExactRestDo.T1.2 laws_FnExactRestDo.B1 = true := by kernel_rfl
def laws_FnExactRestDo.T2 : Bool × List (List Nat × List Nat) := (true, [([], []), ([], []), ([1], [1]), ([], []), ([3, 2], [3]), ([0, 2, 4, 4], [0, 2, 4]), ([], []), ([6, 5, 5, 0, 1, 2, 3, 4, 5, 6], [5, 6])])
def laws_FnExactRestDo.B2 : List Nat := [0, 0, 2, 0, 14, 31, 0, 127]
theorem laws_FnExactRestDo.tab2 : rtab .any (opsOf Try.f12 2) = laws_FnExactRestDo.T2 := by kernel_rfl
theorem laws_FnExactRestDo.bits2 : waitsOk laws_FnExactRestDo.T2.2 laws_FnExactRestDo.B2 = true := by kernel_rfl
set_option maxHeartbeats 8000000 in
set_option maxRecDepth 100000 in
theorem laws_FnExactRestDo.calls (k : Nat) (a0 : Int) (a1_0 : Int) (a1_1 : Int) (a2_0 : Int) (a2_1 : Int) (r : Bool) (w : World) (h : laws_FnExactRestDo.f k a0 a1_0 a1_1 a2_0 a2_1 = some r) :
  Calls Try.prog 12 #[.int .i64 a0, .agg #[.int .i64 a1_0, .int .i64 a1_1], .agg #[.int .i64 a2_0, .int .i64 a2_1]] w fun e w' => e = .returned (.bool r) ∧ Below w.heap.size w w' := by
 have hu38 := Try.underlying38
 have hu40 := Try.underlying40
 have HB := Aside0.mk (Below.refl w.heap.size w)
 have H : ((laws_toRest.f a1_0 a1_1).bind fun bt239 => ((laws_toRest.f a2_0 a2_1).bind fun bt241 => ((spec_RestDo.f k a0 bt239.1 bt239.2 bt241.1 bt241.2).bind fun bt243 => ((laws_toRest.f a1_0 a1_1).bind fun bt246 => ((laws_toRest.f a2_0 a2_1).bind fun bt248 => ((impl_RestDo.f k a0 bt246.1 bt246.2 bt248.1 bt248.2).bind fun bt250 => ((laws_eqRest.f bt250.1 bt250.2 bt243.1 bt243.2).bind fun t253 => (if t253 = true then (some true) else (some false))))))))) = some r := h
 clear h
 replace H := Option.bind_eq_some_iff.mp H
 obtain ⟨⟨t239, t240⟩, A40, H⟩ := H
 replace H : ((laws_toRest.f a2_0 a2_1).bind fun bt241 => ((spec_RestDo.f k a0 t239 t240 bt241.1 bt241.2).bind fun bt243 => ((laws_toRest.f a1_0 a1_1).bind fun bt246 => ((laws_toRest.f a2_0 a2_1).bind fun bt248 => ((impl_RestDo.f k a0 bt246.1 bt246.2 bt248.1 bt248.2).bind fun bt250 => ((laws_eqRest.f bt250.1 bt250.2 bt243.1 bt243.2).bind fun t253 => (if t253 = true then (some true) else (some false)))))))) = some r := H
 have A4 := Aside0.mk A40
 clear A40
 replace H := Option.bind_eq_some_iff.mp H
 obtain ⟨⟨t241, t242⟩, A50, H⟩ := H
 replace H : ((spec_RestDo.f k a0 t239 t240 t241 t242).bind fun bt243 => ((laws_toRest.f a1_0 a1_1).bind fun bt246 => ((laws_toRest.f a2_0 a2_1).bind fun bt248 => ((impl_RestDo.f k a0 bt246.1 bt246.2 bt248.1 bt248.2).bind fun bt250 => ((laws_eqRest.f bt250.1 bt250.2 bt243.1 bt243.2).bind fun t253 => (if t253 = true then (some true) else (some false))))))) = some r := H
 have A5 := Aside0.mk A50
 clear A50
 replace H := Option.bind_eq_some_iff.mp H
 obtain ⟨⟨t243, t244⟩, A60, H⟩ := H
 replace H : ((laws_toRest.f a1_0 a1_1).bind fun bt246 => ((laws_toRest.f a2_0 a2_1).bind fun bt248 => ((impl_RestDo.f k a0 bt246.1 bt246.2 bt248.1 bt248.2).bind fun bt250 => ((laws_eqRest.f bt250.1 bt250.2 t243 t244).bind fun t253 => (if t253 = true then (some true) else (some false)))))) = some r := H
 have A6 := Aside0.mk A60
 clear A60
 replace H := Option.bind_eq_some_iff.mp H
 obtain ⟨⟨t246, t247⟩, A70, H⟩ := H
 replace H : ((laws_toRest.f a2_0 a2_1).bind fun bt248 => ((impl_RestDo.f k a0 t246 t247 bt248.1 bt248.2).bind fun bt250 => ((laws_eqRest.f bt250.1 bt250.2 t243 t244).bind fun t253 => (if t253 = true then (some true) else (some false))))) = some r := H
 have A7 := Aside0.mk A70
 clear A70
 replace H := Option.bind_eq_some_iff.mp H
 obtain ⟨⟨t248, t249⟩, A80, H⟩ := H
 replace H : ((impl_RestDo.f k a0 t246 t247 t248 t249).bind fun bt250 => ((laws_eqRest.f bt250.1 bt250.2 t243 t244).bind fun t253 => (if t253 = true then (some true) else (some false)))) = some r := H
 have A8 := Aside0.mk A80
 clear A80
 replace H := Option.bind_eq_some_iff.mp H
 obtain ⟨⟨t250, t251⟩, A90, H⟩ := H
 replace H : ((laws_eqRest.f t250 t251 t243 t244).bind fun t253 => (if t253 = true then (some true) else (some false))) = some r := H
 have A9 := Aside0.mk A90
 clear A90
 replace H := Option.bind_eq_some_iff.mp H
 obtain ⟨t253, A100, H⟩ := H
 replace H : (if t253 = true then (some true) else (some false)) = some r := H
 have A10 := Aside0.mk A100
 clear A100
 by_cases c11 : t253 = true
 ·subst c11
  have H1 : (some true) = some r := by rw [if_pos rfl] at H; exact H
  clear H
  have H := H1
  clear H1
  obtain rfl := Option.some.inj H
  go_enter Try.func12, Try.ntmps12
  try go_wp2_with (first | ((with_reducible refine gate_dst (N := 4) rfl ?_); refine box_event ?hg (N := 4) ?hd (cs := #[.int .i64 a1_0, .int .i64 a1_1]) (t := 38) ?hr ?_; (case hd => rfl); (case hg => rfl); (case hr => first | (go_simp; done) | (go_simp; rfl)); intro gb237 hg w12 hbox hb; have n0_ := Aside0.mk (below_step (hz HB.out) hb); have n1_ := Aside0.mk (hbox); have n2_ := Aside0.mk ((by rw [hg]; exact (below_size (hz HB.out)) : w.heap.size ≤ gb237)); have n3_ := Aside0.mk ((by rw [hg]; exact (below_size (hz HB.out)) : w.heap.size ≤ gb237)); clear HB; have HB := n0_; have BK237 := n1_; have GW237 := n2_; have GE237 := n3_; clear n0_ n1_ n2_ n3_; clear hb hbox hg) | ((with_reducible refine gate_dst (N := 5) rfl ?_); refine box_event ?hg (N := 5) ?hd (cs := #[.int .i64 a2_0, .int .i64 a2_1]) (t := 38) ?hr ?_; (case hd => rfl); (case hg => rfl); (case hr => first | (go_simp; done) | (go_simp; rfl)); intro gb238 hg w13 hbox hb; have n0_ := Aside0.mk (blk_below (g := gb237) (o := .cells #[.int .i64 a1_0, .int .i64 a1_1] 38 (0, 0)) (bz BK237.out) hb); have n1_ := Aside0.mk (below_step (hz1 HB.out GE237.out) hb); have n2_ := Aside0.mk (hbox); have n3_ := Aside0.mk ((by rw [hg]; exact (below_size (hz1 HB.out GE237.out)) : w.heap.size ≤ gb238)); have n4_ := Aside0.mk ((by rw [hg]; exact (below_size (hz1 HB.out GE237.out)) : w.heap.size ≤ gb238)); have n5_ := Aside0.mk ((by rw [hg]; exact Nat.ne_of_lt (blk_lt (g := gb237) (o := .cells #[.int .i64 a1_0, .int .i64 a1_1] 38 (0, 0)) (bz BK237.out)) : gb237 ≠ gb238)); have n6_ := Aside0.mk ((by rw [hg]; exact Nat.ne_of_gt (blk_lt (g := gb237) (o := .cells #[.int .i64 a1_0, .int .i64 a1_1] 38 (0, 0)) (bz BK237.out)) : gb238 ≠ gb237)); clear BK237; clear HB; have BK237 := n0_; have HB := n1_; have BK238 := n2_; have GW238 := n3_; have GE238 := n4_; have NB237_238 := n5_; have NB238_237 := n6_; clear n0_ n1_ n2_ n3_ n4_ n5_ n6_; clear hb hbox hg))
  have n0_ := Aside0.mk (blk_drew BK237.out)
  have n1_ := Aside0.mk (blk_drew BK238.out)
  have n2_ := Aside0.mk (below_drew1 HB.out)
  clear BK237
  clear BK238
  clear HB
  have BK237 := n0_
  have BK238 := n1_
  have HB := n2_
  clear n0_ n1_ n2_
  refine start_ (n := 8) (S := fun w' => w'.cell? ⟨gb237, 0, none⟩ = some (.int .i64 a1_0) ∧ w'.cell? ⟨gb237, 1, none⟩ = some (.int .i64 a1_1) ∧ w'.cell? ⟨gb238, 0, none⟩ = some (.int .i64 a2_0) ∧ w'.cell? ⟨gb238, 1, none⟩ = some (.int .i64 a2_1)) (ds := []) #[false, false, false, false, false, false, false, false] (by kernel_rfl) rfl rfl ⟨(blk_cell BK237.out 0).trans rfl, (blk_cell BK237.out 1).trans rfl, (blk_cell BK238.out 0).trans rfl, (blk_cell BK238.out 1).trans rfl⟩ (fun hHeld => ?_); refine with_tabW laws_FnExactRestDo.tab1 laws_FnExactRestDo.bits1 (fun HT_ HW_ => ?_)
  generalize w13.drew = w14 at BK237 BK238 HB hHeld ⊢
  refine pure_ (i := 0) (N := some 9) (v := ?_) (a' := ?_) #[true, false, false, false, false, false, false, false] rfl rfl (any_of HT_.out (by kernel_rfl)) (fun _ _ _ h => h) (Or.inl ⟨by rfl, ?_⟩) ?_ ?_
  rotate_left
  ·intro w'
   go_simp
   with_reducible rfl
  rotate_left
  ·exact pz
  refine take_ (i := 1) (N := some 10) (v := ?_) (a' := ?_) #[true, true, false, false, false, false, false, false] rfl rfl (take_ofW HT_.out HW_.out (by kernel_rfl)) (fun _ _ _ h => h) (Or.inl ⟨by rfl, ?_⟩) hHeld ?_ ?_
  rotate_left
  ·rintro w' ⟨s0, s1, s2, s3⟩
   go_simp
   with_reducible rfl
  rotate_left
  ·exact pz
  refine take_ (i := 3) (N := some 12) (v := ?_) (a' := ?_) #[true, true, false, true, false, false, false, false] rfl rfl (take_ofW HT_.out HW_.out (by kernel_rfl)) (fun _ _ _ h => h) (Or.inl ⟨by rfl, ?_⟩) hHeld ?_ ?_
  rotate_left
  ·rintro w' ⟨s0, s1, s2, s3⟩
   go_simp
   with_reducible rfl
  rotate_left
  ·exact pz
  refine join_ (σ := Nat) 1 #[true, true, true, true, true, true, true, false] (fun s_ => [(11, .agg #[.int .i64 t239, .int .i64 t240]), (13, .agg #[.int .i64 t241, .int .i64 t242]), (14, .agg #[.int .i64 t243, .int .i64 t244]), (7, .pointer (some ⟨s_, 0, none⟩))]) (fun s_ w' => (w'.cell? ⟨gb237, 0, none⟩ = some (.int .i64 a1_0) ∧ w'.cell? ⟨gb237, 1, none⟩ = some (.int .i64 a1_1) ∧ w'.cell? ⟨gb238, 0, none⟩ = some (.int .i64 a2_0) ∧ w'.cell? ⟨gb238, 1, none⟩ = some (.int .i64 a2_1)) ∧ (w'.heap[gb237]? = some (.cells #[.int .i64 a1_0, .int .i64 a1_1] 38 (0, 0))) ∧ (w'.heap[gb238]? = some (.cells #[.int .i64 a2_0, .int .i64 a2_1] 38 (0, 0))) ∧ (w'.heap[s_]? = some (.cells #[.int .i64 0, .int .i64 0] 40 (0, 0))) ∧ (w.heap.size ≤ s_) ∧ (w.heap.size ≤ s_) ∧ (gb237 ≠ s_) ∧ (s_ ≠ gb237) ∧ (gb238 ≠ s_) ∧ (s_ ≠ gb238) ∧ (Below w.heap.size w w')) ?_ ?_
  rotate_left
  ·intro hCont
   refine two_ (i := 2) (j := 6) (Ni := some 11) (Nj := some 7) #[true, true, true, true, false, false, false, false] #[true, true, false, true, false, false, true, false] rfl rfl rfl rfl (two_of HT_.out (by kernel_rfl)) (by decide) (by decide) (fun K hK => ?_) (fun K hK => ?_)
   ·skip
    refine goes_ Try.func28 (by kernel_rfl) rfl #[.agg #[.int .i64 a1_0, .int .i64 a1_1]] (by rfl) rfl rfl mz ?_
    with_reducible refine (laws_toRest.calls a1_0 a1_1 t239 t240 _ A4.out).mono ?_
    rintro e w15 ⟨rfl, hb⟩
    refine ⟨_, rfl, ?_⟩
    have n0_ := Aside0.mk (blk_below (g := gb237) (o := .cells #[.int .i64 a1_0, .int .i64 a1_1] 38 (0, 0)) (bz BK237.out) hb)
    have n1_ := Aside0.mk (blk_below (g := gb238) (o := .cells #[.int .i64 a2_0, .int .i64 a2_1] 38 (0, 0)) (bz BK238.out) hb)
    have n2_ := Aside0.mk (below_step (hz2 HB.out GE237.out GE238.out) hb)
    clear BK237
    clear BK238
    clear HB
    have BK237 := n0_
    have BK238 := n1_
    have HB := n2_
    clear n0_ n1_ n2_
    (try clear hb)
    (try clear hb2)
    (try clear hk)
    (try clear hi)
    refine hK.out _ _ ⟨(blk_cell BK237.out 0).trans rfl, (blk_cell BK237.out 1).trans rfl, (blk_cell BK238.out 0).trans rfl, (blk_cell BK238.out 1).trans rfl⟩ (fun hHeld => ?_)
    clear hK K
    refine norm_ (a' := ?_) ?_ ?_
    rotate_left
    ·show Act.put _ (some 11) _ = _
     simp only [Act.put, List.setIfInBounds_toArray, List.set_cons_zero, List.set_cons_succ, i64_w, i32_w]
     rfl
    refine two_ (i := 4) (j := 6) (Ni := some 13) (Nj := some 7) #[true, true, true, true, true, false, false, false] #[true, true, true, true, false, false, true, false] rfl rfl rfl rfl (two_of HT_.out (by kernel_rfl)) (by decide) (by decide) (fun K hK => ?_) (fun K hK => ?_)
    ·skip
     refine goes_ Try.func28 (by kernel_rfl) rfl #[.agg #[.int .i64 a2_0, .int .i64 a2_1]] (by rfl) rfl rfl mz ?_
     with_reducible refine (laws_toRest.calls a2_0 a2_1 t241 t242 _ A5.out).mono ?_
     rintro e w16 ⟨rfl, hb⟩
     refine ⟨_, rfl, ?_⟩
     have n0_ := Aside0.mk (blk_below (g := gb237) (o := .cells #[.int .i64 a1_0, .int .i64 a1_1] 38 (0, 0)) (bz BK237.out) hb)
     have n1_ := Aside0.mk (blk_below (g := gb238) (o := .cells #[.int .i64 a2_0, .int .i64 a2_1] 38 (0, 0)) (bz BK238.out) hb)
     have n2_ := Aside0.mk (below_step (hz2 HB.out GE237.out GE238.out) hb)
     clear BK237
     clear BK238
     clear HB
     have BK237 := n0_
     have BK238 := n1_
     have HB := n2_
     clear n0_ n1_ n2_
     (try clear hb)
     (try clear hb2)
     (try clear hk)
     (try clear hi)
     refine hK.out _ _ ⟨(blk_cell BK237.out 0).trans rfl, (blk_cell BK237.out 1).trans rfl, (blk_cell BK238.out 0).trans rfl, (blk_cell BK238.out 1).trans rfl⟩ (fun hHeld => ?_)
     clear hK K
     refine norm_ (a' := ?_) ?_ ?_
     rotate_left
     ·show Act.put _ (some 13) _ = _
      simp only [Act.put, List.setIfInBounds_toArray, List.set_cons_zero, List.set_cons_succ, i64_w, i32_w]
      rfl
     refine two_ (i := 5) (j := 6) (Ni := some 14) (Nj := some 7) #[true, true, true, true, true, true, false, false] #[true, true, true, true, true, false, true, false] rfl rfl rfl rfl (two_of HT_.out (by kernel_rfl)) (by decide) (by decide) (fun K hK => ?_) (fun K hK => ?_)
     ·skip
      refine goes_ Try.func39 (by kernel_rfl) rfl #[.int .i64 a0, .agg #[.int .i64 t239, .int .i64 t240], .agg #[.int .i64 t241, .int .i64 t242]] (by rfl) rfl rfl mz ?_
      with_reducible refine (spec_RestDo.calls k a0 t239 t240 t241 t242 t243 t244 _ A6.out).mono ?_
      rintro e w17 ⟨rfl, hb⟩
      refine ⟨_, rfl, ?_⟩
      have n0_ := Aside0.mk (blk_below (g := gb237) (o := .cells #[.int .i64 a1_0, .int .i64 a1_1] 38 (0, 0)) (bz BK237.out) hb)
      have n1_ := Aside0.mk (blk_below (g := gb238) (o := .cells #[.int .i64 a2_0, .int .i64 a2_1] 38 (0, 0)) (bz BK238.out) hb)
      have n2_ := Aside0.mk (below_step (hz2 HB.out GE237.out GE238.out) hb)
      clear BK237
      clear BK238
      clear HB
      have BK237 := n0_
      have BK238 := n1_
      have HB := n2_
      clear n0_ n1_ n2_
      (try clear hb)
      (try clear hb2)
      (try clear hk)
      (try clear hi)
      refine hK.out _ _ ⟨(blk_cell BK237.out 0).trans rfl, (blk_cell BK237.out 1).trans rfl, (blk_cell BK238.out 0).trans rfl, (blk_cell BK238.out 1).trans rfl⟩ (fun hHeld => ?_)
      clear hK K
      refine norm_ (a' := ?_) ?_ ?_
      rotate_left
      ·show Act.put _ (some 14) _ = _
       simp only [Act.put, List.setIfInBounds_toArray, List.set_cons_zero, List.set_cons_succ, i64_w, i32_w]
       rfl
      refine one_ (i := 6) (N := some 7) #[true, true, true, true, true, true, true, false] rfl rfl (one_of HT_.out (by kernel_rfl)) (by decide) (fun K hK => ?_)
      refine box_step ?hg (N := 7) ?hd (cs := #[.int .i64 0, .int .i64 0]) (t := 40) ?hr ?_; (case hd => rfl); (case hg => rfl); (case hr => first | (go_simp; done) | (go_simp; rfl))
      intro gb245 hg w18 hbox hb
      have n0_ := Aside0.mk (blk_below (g := gb237) (o := .cells #[.int .i64 a1_0, .int .i64 a1_1] 38 (0, 0)) (bz BK237.out) hb)
      have n1_ := Aside0.mk (blk_below (g := gb238) (o := .cells #[.int .i64 a2_0, .int .i64 a2_1] 38 (0, 0)) (bz BK238.out) hb)
      have n2_ := Aside0.mk (below_step (hz2 HB.out GE237.out GE238.out) hb)
      have n3_ := Aside0.mk (hbox)
      have n4_ := Aside0.mk ((by rw [hg]; exact (below_size (hz2 HB.out GE237.out GE238.out)) : w.heap.size ≤ gb245))
      have n5_ := Aside0.mk ((by rw [hg]; exact (below_size (hz2 HB.out GE237.out GE238.out)) : w.heap.size ≤ gb245))
      have n6_ := Aside0.mk ((by rw [hg]; exact Nat.ne_of_lt (blk_lt (g := gb237) (o := .cells #[.int .i64 a1_0, .int .i64 a1_1] 38 (0, 0)) (bz BK237.out)) : gb237 ≠ gb245))
      have n7_ := Aside0.mk ((by rw [hg]; exact Nat.ne_of_gt (blk_lt (g := gb237) (o := .cells #[.int .i64 a1_0, .int .i64 a1_1] 38 (0, 0)) (bz BK237.out)) : gb245 ≠ gb237))
      have n8_ := Aside0.mk ((by rw [hg]; exact Nat.ne_of_lt (blk_lt (g := gb238) (o := .cells #[.int .i64 a2_0, .int .i64 a2_1] 38 (0, 0)) (bz BK238.out)) : gb238 ≠ gb245))
      have n9_ := Aside0.mk ((by rw [hg]; exact Nat.ne_of_gt (blk_lt (g := gb238) (o := .cells #[.int .i64 a2_0, .int .i64 a2_1] 38 (0, 0)) (bz BK238.out)) : gb245 ≠ gb238))
      clear BK237
      clear BK238
      clear HB
      have BK237 := n0_
      have BK238 := n1_
      have HB := n2_
      have BK245 := n3_
      have GW245 := n4_
      have GE245 := n5_
      have NB237_245 := n6_
      have NB245_237 := n7_
      have NB238_245 := n8_
      have NB245_238 := n9_
      clear n0_ n1_ n2_ n3_ n4_ n5_ n6_ n7_ n8_ n9_
      clear hb hbox hg
      refine hK.out _ _ ⟨(blk_cell BK237.out 0).trans rfl, (blk_cell BK237.out 1).trans rfl, (blk_cell BK238.out 0).trans rfl, (blk_cell BK238.out 1).trans rfl⟩ (fun hHeld => ?_)
      clear hK K
      refine norm_ (a' := ?_) ?_ ?_
      rotate_left
      ·show Act.put _ (some 7) _ = _
       simp only [Act.put, List.setIfInBounds_toArray, List.set_cons_zero, List.set_cons_succ, i64_w, i32_w]
       rfl
      exact norm_ (by simp only [putAll, Act.put, List.setIfInBounds_toArray, List.set_cons_zero, List.set_cons_succ]) (hCont (gb245) _ ⟨hHeld, (bz BK237.out), (bz BK238.out), (bz BK245.out), GW245.out, GE245.out, NB237_245.out, NB245_237.out, NB238_245.out, NB245_238.out, (hz3 HB.out GE237.out GE238.out GE245.out)⟩)
     ·skip
      refine box_step ?hg (N := 7) ?hd (cs := #[.int .i64 0, .int .i64 0]) (t := 40) ?hr ?_; (case hd => rfl); (case hg => rfl); (case hr => first | (go_simp; done) | (go_simp; rfl))
      intro gb245 hg w17 hbox hb
      have n0_ := Aside0.mk (blk_below (g := gb237) (o := .cells #[.int .i64 a1_0, .int .i64 a1_1] 38 (0, 0)) (bz BK237.out) hb)
      have n1_ := Aside0.mk (blk_below (g := gb238) (o := .cells #[.int .i64 a2_0, .int .i64 a2_1] 38 (0, 0)) (bz BK238.out) hb)
      have n2_ := Aside0.mk (below_step (hz2 HB.out GE237.out GE238.out) hb)
      have n3_ := Aside0.mk (hbox)
      have n4_ := Aside0.mk ((by rw [hg]; exact (below_size (hz2 HB.out GE237.out GE238.out)) : w.heap.size ≤ gb245))
      have n5_ := Aside0.mk ((by rw [hg]; exact (below_size (hz2 HB.out GE237.out GE238.out)) : w.heap.size ≤ gb245))
      have n6_ := Aside0.mk ((by rw [hg]; exact Nat.ne_of_lt (blk_lt (g := gb237) (o := .cells #[.int .i64 a1_0, .int .i64 a1_1] 38 (0, 0)) (bz BK237.out)) : gb237 ≠ gb245))
      have n7_ := Aside0.mk ((by rw [hg]; exact Nat.ne_of_gt (blk_lt (g := gb237) (o := .cells #[.int .i64 a1_0, .int .i64 a1_1] 38 (0, 0)) (bz BK237.out)) : gb245 ≠ gb237))
      have n8_ := Aside0.mk ((by rw [hg]; exact Nat.ne_of_lt (blk_lt (g := gb238) (o := .cells #[.int .i64 a2_0, .int .i64 a2_1] 38 (0, 0)) (bz BK238.out)) : gb238 ≠ gb245))
      have n9_ := Aside0.mk ((by rw [hg]; exact Nat.ne_of_gt (blk_lt (g := gb238) (o := .cells #[.int .i64 a2_0, .int .i64 a2_1] 38 (0, 0)) (bz BK238.out)) : gb245 ≠ gb238))
      clear BK237
      clear BK238
      clear HB
      have BK237 := n0_
      have BK238 := n1_
      have HB := n2_
      have BK245 := n3_
      have GW245 := n4_
      have GE245 := n5_
      have NB237_245 := n6_
      have NB245_237 := n7_
      have NB238_245 := n8_
      have NB245_238 := n9_
      clear n0_ n1_ n2_ n3_ n4_ n5_ n6_ n7_ n8_ n9_
      clear hb hbox hg
      refine hK.out _ _ ⟨(blk_cell BK237.out 0).trans rfl, (blk_cell BK237.out 1).trans rfl, (blk_cell BK238.out 0).trans rfl, (blk_cell BK238.out 1).trans rfl⟩ (fun hHeld => ?_)
      clear hK K
      refine norm_ (a' := ?_) ?_ ?_
      rotate_left
      ·show Act.put _ (some 7) _ = _
       simp only [Act.put, List.setIfInBounds_toArray, List.set_cons_zero, List.set_cons_succ, i64_w, i32_w]
       rfl
      refine one_ (i := 5) (N := some 14) #[true, true, true, true, true, true, true, false] rfl rfl (one_of HT_.out (by kernel_rfl)) (by decide) (fun K hK => ?_)
      refine goes_ Try.func39 (by kernel_rfl) rfl #[.int .i64 a0, .agg #[.int .i64 t239, .int .i64 t240], .agg #[.int .i64 t241, .int .i64 t242]] (by rfl) rfl rfl mz ?_
      with_reducible refine (spec_RestDo.calls k a0 t239 t240 t241 t242 t243 t244 _ A6.out).mono ?_
      rintro e w18 ⟨rfl, hb⟩
      refine ⟨_, rfl, ?_⟩
      have n0_ := Aside0.mk (blk_below (g := gb237) (o := .cells #[.int .i64 a1_0, .int .i64 a1_1] 38 (0, 0)) (bz BK237.out) hb)
      have n1_ := Aside0.mk (blk_below (g := gb238) (o := .cells #[.int .i64 a2_0, .int .i64 a2_1] 38 (0, 0)) (bz BK238.out) hb)
      have n2_ := Aside0.mk (blk_below (g := gb245) (o := .cells #[.int .i64 0, .int .i64 0] 40 (0, 0)) (bz BK245.out) hb)
      have n3_ := Aside0.mk (below_step (hz3 HB.out GE237.out GE238.out GE245.out) hb)
      clear BK237
      clear BK238
      clear BK245
      clear HB
      have BK237 := n0_
      have BK238 := n1_
      have BK245 := n2_
      have HB := n3_
      clear n0_ n1_ n2_ n3_
      (try clear hb)
      (try clear hb2)
      (try clear hk)
      (try clear hi)
      refine hK.out _ _ ⟨(blk_cell BK237.out 0).trans rfl, (blk_cell BK237.out 1).trans rfl, (blk_cell BK238.out 0).trans rfl, (blk_cell BK238.out 1).trans rfl⟩ (fun hHeld => ?_)
      clear hK K
      refine norm_ (a' := ?_) ?_ ?_
      rotate_left
      ·show Act.put _ (some 14) _ = _
       simp only [Act.put, List.setIfInBounds_toArray, List.set_cons_zero, List.set_cons_succ, i64_w, i32_w]
       rfl
      exact norm_ (by simp only [putAll, Act.put, List.setIfInBounds_toArray, List.set_cons_zero, List.set_cons_succ]) (hCont (gb245) _ ⟨hHeld, (bz BK237.out), (bz BK238.out), (bz BK245.out), GW245.out, GE245.out, NB237_245.out, NB245_237.out, NB238_245.out, NB245_238.out, (hz3 HB.out GE237.out GE238.out GE245.out)⟩)
    ·skip
     refine box_step ?hg (N := 7) ?hd (cs := #[.int .i64 0, .int .i64 0]) (t := 40) ?hr ?_; (case hd => rfl); (case hg => rfl); (case hr => first | (go_simp; done) | (go_simp; rfl))
     intro gb245 hg w16 hbox hb
     have n0_ := Aside0.mk (blk_below (g := gb237) (o := .cells #[.int .i64 a1_0, .int .i64 a1_1] 38 (0, 0)) (bz BK237.out) hb)
     have n1_ := Aside0.mk (blk_below (g := gb238) (o := .cells #[.int .i64 a2_0, .int .i64 a2_1] 38 (0, 0)) (bz BK238.out) hb)
     have n2_ := Aside0.mk (below_step (hz2 HB.out GE237.out GE238.out) hb)
     have n3_ := Aside0.mk (hbox)
     have n4_ := Aside0.mk ((by rw [hg]; exact (below_size (hz2 HB.out GE237.out GE238.out)) : w.heap.size ≤ gb245))
     have n5_ := Aside0.mk ((by rw [hg]; exact (below_size (hz2 HB.out GE237.out GE238.out)) : w.heap.size ≤ gb245))
     have n6_ := Aside0.mk ((by rw [hg]; exact Nat.ne_of_lt (blk_lt (g := gb237) (o := .cells #[.int .i64 a1_0, .int .i64 a1_1] 38 (0, 0)) (bz BK237.out)) : gb237 ≠ gb245))
     have n7_ := Aside0.mk ((by rw [hg]; exact Nat.ne_of_gt (blk_lt (g := gb237) (o := .cells #[.int .i64 a1_0, .int .i64 a1_1] 38 (0, 0)) (bz BK237.out)) : gb245 ≠ gb237))
     have n8_ := Aside0.mk ((by rw [hg]; exact Nat.ne_of_lt (blk_lt (g := gb238) (o := .cells #[.int .i64 a2_0, .int .i64 a2_1] 38 (0, 0)) (bz BK238.out)) : gb238 ≠ gb245))
     have n9_ := Aside0.mk ((by rw [hg]; exact Nat.ne_of_gt (blk_lt (g := gb238) (o := .cells #[.int .i64 a2_0, .int .i64 a2_1] 38 (0, 0)) (bz BK238.out)) : gb245 ≠ gb238))
     clear BK237
     clear BK238
     clear HB
     have BK237 := n0_
     have BK238 := n1_
     have HB := n2_
     have BK245 := n3_
     have GW245 := n4_
     have GE245 := n5_
     have NB237_245 := n6_
     have NB245_237 := n7_
     have NB238_245 := n8_
     have NB245_238 := n9_
     clear n0_ n1_ n2_ n3_ n4_ n5_ n6_ n7_ n8_ n9_
     clear hb hbox hg
     refine hK.out _ _ ⟨(blk_cell BK237.out 0).trans rfl, (blk_cell BK237.out 1).trans rfl, (blk_cell BK238.out 0).trans rfl, (blk_cell BK238.out 1).trans rfl⟩ (fun hHeld => ?_)
     clear hK K
     refine norm_ (a' := ?_) ?_ ?_
     rotate_left
     ·show Act.put _ (some 7) _ = _
      simp only [Act.put, List.setIfInBounds_toArray, List.set_cons_zero, List.set_cons_succ, i64_w, i32_w]
      rfl
     refine one_ (i := 4) (N := some 13) #[true, true, true, true, true, false, true, false] rfl rfl (one_of HT_.out (by kernel_rfl)) (by decide) (fun K hK => ?_)
     refine goes_ Try.func28 (by kernel_rfl) rfl #[.agg #[.int .i64 a2_0, .int .i64 a2_1]] (by rfl) rfl rfl mz ?_
     with_reducible refine (laws_toRest.calls a2_0 a2_1 t241 t242 _ A5.out).mono ?_
     rintro e w17 ⟨rfl, hb⟩
     refine ⟨_, rfl, ?_⟩
     have n0_ := Aside0.mk (blk_below (g := gb237) (o := .cells #[.int .i64 a1_0, .int .i64 a1_1] 38 (0, 0)) (bz BK237.out) hb)
     have n1_ := Aside0.mk (blk_below (g := gb238) (o := .cells #[.int .i64 a2_0, .int .i64 a2_1] 38 (0, 0)) (bz BK238.out) hb)
     have n2_ := Aside0.mk (blk_below (g := gb245) (o := .cells #[.int .i64 0, .int .i64 0] 40 (0, 0)) (bz BK245.out) hb)
     have n3_ := Aside0.mk (below_step (hz3 HB.out GE237.out GE238.out GE245.out) hb)
     clear BK237
     clear BK238
     clear BK245
     clear HB
     have BK237 := n0_
     have BK238 := n1_
     have BK245 := n2_
     have HB := n3_
     clear n0_ n1_ n2_ n3_
     (try clear hb)
     (try clear hb2)
     (try clear hk)
     (try clear hi)
     refine hK.out _ _ ⟨(blk_cell BK237.out 0).trans rfl, (blk_cell BK237.out 1).trans rfl, (blk_cell BK238.out 0).trans rfl, (blk_cell BK238.out 1).trans rfl⟩ (fun hHeld => ?_)
     clear hK K
     refine norm_ (a' := ?_) ?_ ?_
     rotate_left
     ·show Act.put _ (some 13) _ = _
      simp only [Act.put, List.setIfInBounds_toArray, List.set_cons_zero, List.set_cons_succ, i64_w, i32_w]
      rfl
     refine one_ (i := 5) (N := some 14) #[true, true, true, true, true, true, true, false] rfl rfl (one_of HT_.out (by kernel_rfl)) (by decide) (fun K hK => ?_)
     refine goes_ Try.func39 (by kernel_rfl) rfl #[.int .i64 a0, .agg #[.int .i64 t239, .int .i64 t240], .agg #[.int .i64 t241, .int .i64 t242]] (by rfl) rfl rfl mz ?_
     with_reducible refine (spec_RestDo.calls k a0 t239 t240 t241 t242 t243 t244 _ A6.out).mono ?_
     rintro e w18 ⟨rfl, hb⟩
     refine ⟨_, rfl, ?_⟩
     have n0_ := Aside0.mk (blk_below (g := gb237) (o := .cells #[.int .i64 a1_0, .int .i64 a1_1] 38 (0, 0)) (bz BK237.out) hb)
     have n1_ := Aside0.mk (blk_below (g := gb238) (o := .cells #[.int .i64 a2_0, .int .i64 a2_1] 38 (0, 0)) (bz BK238.out) hb)
     have n2_ := Aside0.mk (blk_below (g := gb245) (o := .cells #[.int .i64 0, .int .i64 0] 40 (0, 0)) (bz BK245.out) hb)
     have n3_ := Aside0.mk (below_step (hz3 HB.out GE237.out GE238.out GE245.out) hb)
     clear BK237
     clear BK238
     clear BK245
     clear HB
     have BK237 := n0_
     have BK238 := n1_
     have BK245 := n2_
     have HB := n3_
     clear n0_ n1_ n2_ n3_
     (try clear hb)
     (try clear hb2)
     (try clear hk)
     (try clear hi)
     refine hK.out _ _ ⟨(blk_cell BK237.out 0).trans rfl, (blk_cell BK237.out 1).trans rfl, (blk_cell BK238.out 0).trans rfl, (blk_cell BK238.out 1).trans rfl⟩ (fun hHeld => ?_)
     clear hK K
     refine norm_ (a' := ?_) ?_ ?_
     rotate_left
     ·show Act.put _ (some 14) _ = _
      simp only [Act.put, List.setIfInBounds_toArray, List.set_cons_zero, List.set_cons_succ, i64_w, i32_w]
      rfl
     exact norm_ (by simp only [putAll, Act.put, List.setIfInBounds_toArray, List.set_cons_zero, List.set_cons_succ]) (hCont (gb245) _ ⟨hHeld, (bz BK237.out), (bz BK238.out), (bz BK245.out), GW245.out, GE245.out, NB237_245.out, NB245_237.out, NB238_245.out, NB245_238.out, (hz3 HB.out GE237.out GE238.out GE245.out)⟩)
   ·skip
    refine box_step ?hg (N := 7) ?hd (cs := #[.int .i64 0, .int .i64 0]) (t := 40) ?hr ?_; (case hd => rfl); (case hg => rfl); (case hr => first | (go_simp; done) | (go_simp; rfl))
    intro gb245 hg w15 hbox hb
    have n0_ := Aside0.mk (blk_below (g := gb237) (o := .cells #[.int .i64 a1_0, .int .i64 a1_1] 38 (0, 0)) (bz BK237.out) hb)
    have n1_ := Aside0.mk (blk_below (g := gb238) (o := .cells #[.int .i64 a2_0, .int .i64 a2_1] 38 (0, 0)) (bz BK238.out) hb)
    have n2_ := Aside0.mk (below_step (hz2 HB.out GE237.out GE238.out) hb)
    have n3_ := Aside0.mk (hbox)
    have n4_ := Aside0.mk ((by rw [hg]; exact (below_size (hz2 HB.out GE237.out GE238.out)) : w.heap.size ≤ gb245))
    have n5_ := Aside0.mk ((by rw [hg]; exact (below_size (hz2 HB.out GE237.out GE238.out)) : w.heap.size ≤ gb245))
    have n6_ := Aside0.mk ((by rw [hg]; exact Nat.ne_of_lt (blk_lt (g := gb237) (o := .cells #[.int .i64 a1_0, .int .i64 a1_1] 38 (0, 0)) (bz BK237.out)) : gb237 ≠ gb245))
    have n7_ := Aside0.mk ((by rw [hg]; exact Nat.ne_of_gt (blk_lt (g := gb237) (o := .cells #[.int .i64 a1_0, .int .i64 a1_1] 38 (0, 0)) (bz BK237.out)) : gb245 ≠ gb237))
    have n8_ := Aside0.mk ((by rw [hg]; exact Nat.ne_of_lt (blk_lt (g := gb238) (o := .cells #[.int .i64 a2_0, .int .i64 a2_1] 38 (0, 0)) (bz BK238.out)) : gb238 ≠ gb245))
    have n9_ := Aside0.mk ((by rw [hg]; exact Nat.ne_of_gt (blk_lt (g := gb238) (o := .cells #[.int .i64 a2_0, .int .i64 a2_1] 38 (0, 0)) (bz BK238.out)) : gb245 ≠ gb238))
    clear BK237
    clear BK238
    clear HB
    have BK237 := n0_
    have BK238 := n1_
    have HB := n2_
    have BK245 := n3_
    have GW245 := n4_
    have GE245 := n5_
    have NB237_245 := n6_
    have NB245_237 := n7_
    have NB238_245 := n8_
    have NB245_238 := n9_
    clear n0_ n1_ n2_ n3_ n4_ n5_ n6_ n7_ n8_ n9_
    clear hb hbox hg
    refine hK.out _ _ ⟨(blk_cell BK237.out 0).trans rfl, (blk_cell BK237.out 1).trans rfl, (blk_cell BK238.out 0).trans rfl, (blk_cell BK238.out 1).trans rfl⟩ (fun hHeld => ?_)
    clear hK K
    refine norm_ (a' := ?_) ?_ ?_
    rotate_left
    ·show Act.put _ (some 7) _ = _
     simp only [Act.put, List.setIfInBounds_toArray, List.set_cons_zero, List.set_cons_succ, i64_w, i32_w]
     rfl
    refine one_ (i := 2) (N := some 11) #[true, true, true, true, false, false, true, false] rfl rfl (one_of HT_.out (by kernel_rfl)) (by decide) (fun K hK => ?_)
    refine goes_ Try.func28 (by kernel_rfl) rfl #[.agg #[.int .i64 a1_0, .int .i64 a1_1]] (by rfl) rfl rfl mz ?_
    with_reducible refine (laws_toRest.calls a1_0 a1_1 t239 t240 _ A4.out).mono ?_
    rintro e w16 ⟨rfl, hb⟩
    refine ⟨_, rfl, ?_⟩
    have n0_ := Aside0.mk (blk_below (g := gb237) (o := .cells #[.int .i64 a1_0, .int .i64 a1_1] 38 (0, 0)) (bz BK237.out) hb)
    have n1_ := Aside0.mk (blk_below (g := gb238) (o := .cells #[.int .i64 a2_0, .int .i64 a2_1] 38 (0, 0)) (bz BK238.out) hb)
    have n2_ := Aside0.mk (blk_below (g := gb245) (o := .cells #[.int .i64 0, .int .i64 0] 40 (0, 0)) (bz BK245.out) hb)
    have n3_ := Aside0.mk (below_step (hz3 HB.out GE237.out GE238.out GE245.out) hb)
    clear BK237
    clear BK238
    clear BK245
    clear HB
    have BK237 := n0_
    have BK238 := n1_
    have BK245 := n2_
    have HB := n3_
    clear n0_ n1_ n2_ n3_
    (try clear hb)
    (try clear hb2)
    (try clear hk)
    (try clear hi)
    refine hK.out _ _ ⟨(blk_cell BK237.out 0).trans rfl, (blk_cell BK237.out 1).trans rfl, (blk_cell BK238.out 0).trans rfl, (blk_cell BK238.out 1).trans rfl⟩ (fun hHeld => ?_)
    clear hK K
    refine norm_ (a' := ?_) ?_ ?_
    rotate_left
    ·show Act.put _ (some 11) _ = _
     simp only [Act.put, List.setIfInBounds_toArray, List.set_cons_zero, List.set_cons_succ, i64_w, i32_w]
     rfl
    refine one_ (i := 4) (N := some 13) #[true, true, true, true, true, false, true, false] rfl rfl (one_of HT_.out (by kernel_rfl)) (by decide) (fun K hK => ?_)
    refine goes_ Try.func28 (by kernel_rfl) rfl #[.agg #[.int .i64 a2_0, .int .i64 a2_1]] (by rfl) rfl rfl mz ?_
    with_reducible refine (laws_toRest.calls a2_0 a2_1 t241 t242 _ A5.out).mono ?_
    rintro e w17 ⟨rfl, hb⟩
    refine ⟨_, rfl, ?_⟩
    have n0_ := Aside0.mk (blk_below (g := gb237) (o := .cells #[.int .i64 a1_0, .int .i64 a1_1] 38 (0, 0)) (bz BK237.out) hb)
    have n1_ := Aside0.mk (blk_below (g := gb238) (o := .cells #[.int .i64 a2_0, .int .i64 a2_1] 38 (0, 0)) (bz BK238.out) hb)
    have n2_ := Aside0.mk (blk_below (g := gb245) (o := .cells #[.int .i64 0, .int .i64 0] 40 (0, 0)) (bz BK245.out) hb)
    have n3_ := Aside0.mk (below_step (hz3 HB.out GE237.out GE238.out GE245.out) hb)
    clear BK237
    clear BK238
    clear BK245
    clear HB
    have BK237 := n0_
    have BK238 := n1_
    have BK245 := n2_
    have HB := n3_
    clear n0_ n1_ n2_ n3_
    (try clear hb)
    (try clear hb2)
    (try clear hk)
    (try clear hi)
    refine hK.out _ _ ⟨(blk_cell BK237.out 0).trans rfl, (blk_cell BK237.out 1).trans rfl, (blk_cell BK238.out 0).trans rfl, (blk_cell BK238.out 1).trans rfl⟩ (fun hHeld => ?_)
    clear hK K
    refine norm_ (a' := ?_) ?_ ?_
    rotate_left
    ·show Act.put _ (some 13) _ = _
     simp only [Act.put, List.setIfInBounds_toArray, List.set_cons_zero, List.set_cons_succ, i64_w, i32_w]
     rfl
    refine one_ (i := 5) (N := some 14) #[true, true, true, true, true, true, true, false] rfl rfl (one_of HT_.out (by kernel_rfl)) (by decide) (fun K hK => ?_)
    refine goes_ Try.func39 (by kernel_rfl) rfl #[.int .i64 a0, .agg #[.int .i64 t239, .int .i64 t240], .agg #[.int .i64 t241, .int .i64 t242]] (by rfl) rfl rfl mz ?_
    with_reducible refine (spec_RestDo.calls k a0 t239 t240 t241 t242 t243 t244 _ A6.out).mono ?_
    rintro e w18 ⟨rfl, hb⟩
    refine ⟨_, rfl, ?_⟩
    have n0_ := Aside0.mk (blk_below (g := gb237) (o := .cells #[.int .i64 a1_0, .int .i64 a1_1] 38 (0, 0)) (bz BK237.out) hb)
    have n1_ := Aside0.mk (blk_below (g := gb238) (o := .cells #[.int .i64 a2_0, .int .i64 a2_1] 38 (0, 0)) (bz BK238.out) hb)
    have n2_ := Aside0.mk (blk_below (g := gb245) (o := .cells #[.int .i64 0, .int .i64 0] 40 (0, 0)) (bz BK245.out) hb)
    have n3_ := Aside0.mk (below_step (hz3 HB.out GE237.out GE238.out GE245.out) hb)
    clear BK237
    clear BK238
    clear BK245
    clear HB
    have BK237 := n0_
    have BK238 := n1_
    have BK245 := n2_
    have HB := n3_
    clear n0_ n1_ n2_ n3_
    (try clear hb)
    (try clear hb2)
    (try clear hk)
    (try clear hi)
    refine hK.out _ _ ⟨(blk_cell BK237.out 0).trans rfl, (blk_cell BK237.out 1).trans rfl, (blk_cell BK238.out 0).trans rfl, (blk_cell BK238.out 1).trans rfl⟩ (fun hHeld => ?_)
    clear hK K
    refine norm_ (a' := ?_) ?_ ?_
    rotate_left
    ·show Act.put _ (some 14) _ = _
     simp only [Act.put, List.setIfInBounds_toArray, List.set_cons_zero, List.set_cons_succ, i64_w, i32_w]
     rfl
    exact norm_ (by simp only [putAll, Act.put, List.setIfInBounds_toArray, List.set_cons_zero, List.set_cons_succ]) (hCont (gb245) _ ⟨hHeld, (bz BK237.out), (bz BK238.out), (bz BK245.out), GW245.out, GE245.out, NB237_245.out, NB245_237.out, NB238_245.out, NB245_238.out, (hz3 HB.out GE237.out GE238.out GE245.out)⟩)
  rintro gb245 w19 ⟨hS_, h0_, h1_, h2_, h3_, h4_, h5_, h6_, h7_, h8_, h9_⟩
  have n0_ : Aside0 (w19.heap[gb237]? = some (.cells #[.int .i64 a1_0, .int .i64 a1_1] 38 (0, 0))) := ⟨h0_⟩
  have n1_ : Aside0 (w19.heap[gb238]? = some (.cells #[.int .i64 a2_0, .int .i64 a2_1] 38 (0, 0))) := ⟨h1_⟩
  have n2_ : Aside0 (w19.heap[gb245]? = some (.cells #[.int .i64 0, .int .i64 0] 40 (0, 0))) := ⟨h2_⟩
  have n3_ : Aside0 (w.heap.size ≤ gb245) := ⟨h3_⟩
  have n4_ : Aside0 (w.heap.size ≤ gb245) := ⟨h4_⟩
  have n5_ : Aside0 (gb237 ≠ gb245) := ⟨h5_⟩
  have n6_ : Aside0 (gb245 ≠ gb237) := ⟨h6_⟩
  have n7_ : Aside0 (gb238 ≠ gb245) := ⟨h7_⟩
  have n8_ : Aside0 (gb245 ≠ gb238) := ⟨h8_⟩
  have n9_ : Aside0 (Below w.heap.size w w19) := ⟨h9_⟩
  clear BK237
  clear BK238
  clear HB
  clear h0_ h1_ h2_ h3_ h4_ h5_ h6_ h7_ h8_ h9_
  have BK237 := n0_
  have BK238 := n1_
  have BK245 := n2_
  have GW245 := n3_
  have GE245 := n4_
  have NB237_245 := n5_
  have NB245_237 := n6_
  have NB238_245 := n7_
  have NB245_238 := n8_
  have HB := n9_
  clear n0_ n1_ n2_ n3_ n4_ n5_ n6_ n7_ n8_ n9_
  have hHeld : w19.cell? ⟨gb237, 0, none⟩ = some (.int .i64 a1_0) ∧ w19.cell? ⟨gb237, 1, none⟩ = some (.int .i64 a1_1) ∧ w19.cell? ⟨gb238, 0, none⟩ = some (.int .i64 a2_0) ∧ w19.cell? ⟨gb238, 1, none⟩ = some (.int .i64 a2_1) := hS_
  refine norm_ (a' := ?_) ?_ ?_
  rotate_left
  ·simp only [putAll, Act.put, List.setIfInBounds_toArray, List.set_cons_zero, List.set_cons_succ]
   rfl
  refine one_ (i := 7) (N := none) #[true, true, true, true, true, true, true, true] rfl rfl (one_of HT_.out (by kernel_rfl)) (by decide) (fun K hK => ?_)
  have hs20 : w19.cell? ⟨gb245, 0, none⟩ = some (.int .i64 0) := (blk_cell BK245.out 0).trans rfl
  have hfs20 := blk_frozen BK245.out 0
  have hns20_0 := NB237_245.out
  have hns20_1 := NB238_245.out
  have hms20_0 := NB245_237.out
  have hms20_1 := NB245_238.out
  have hs21 : w19.cell? ⟨gb245, 1, none⟩ = some (.int .i64 0) := (blk_cell BK245.out 1).trans rfl
  have hfs21 := blk_frozen BK245.out 1
  have hns21_0 := NB237_245.out
  have hns21_1 := NB238_245.out
  have hms21_0 := NB245_237.out
  have hms21_1 := NB245_238.out
  refine skip_ (w1 := ?_) (by rfl) rfl ?_ ?_
  rotate_left
  ·go_simp
   rfl
  refine hK.out _ _ ⟨((cell_far (p := ⟨gb245, _, none⟩) NB237_245.out _).trans (((cell_far (p := ⟨gb245, _, none⟩) NB237_245.out _).trans (hHeld.1)))), ((cell_far (p := ⟨gb245, _, none⟩) NB237_245.out _).trans (((cell_far (p := ⟨gb245, _, none⟩) NB237_245.out _).trans (hHeld.2.1)))), ((cell_far (p := ⟨gb245, _, none⟩) NB238_245.out _).trans (((cell_far (p := ⟨gb245, _, none⟩) NB238_245.out _).trans (hHeld.2.2.1)))), ((cell_far (p := ⟨gb245, _, none⟩) NB238_245.out _).trans (((cell_far (p := ⟨gb245, _, none⟩) NB238_245.out _).trans (hHeld.2.2.2))))⟩ (fun hHeld => ?_)
  clear hK K
  refine done_ (done_of HT_.out (by kernel_rfl)) ?_
  try go_wp2
  have n0_ : Aside0 (((w19.setCell ⟨gb245, 0, none⟩ (.int .i64 t243)).setCell ⟨gb245, 1, none⟩ (.int .i64 t244)).heap[gb237]? = some (.cells #[.int .i64 a1_0, .int .i64 a1_1] 38 (0, 0))) := ⟨by (with_reducible repeat (first | refine blk_drewN ?_ _ | refine blk_drew ?_ | refine blk_alloc ?_ _)); refine blk_far ?_ NB237_245.out _; (with_reducible repeat (first | refine blk_drewN ?_ _ | refine blk_drew ?_ | refine blk_alloc ?_ _)); refine blk_far ?_ NB237_245.out _; (with_reducible repeat (first | refine blk_drewN ?_ _ | refine blk_drew ?_ | refine blk_alloc ?_ _)); exact BK237.out⟩
  have n1_ : Aside0 (((w19.setCell ⟨gb245, 0, none⟩ (.int .i64 t243)).setCell ⟨gb245, 1, none⟩ (.int .i64 t244)).heap[gb238]? = some (.cells #[.int .i64 a2_0, .int .i64 a2_1] 38 (0, 0))) := ⟨by (with_reducible repeat (first | refine blk_drewN ?_ _ | refine blk_drew ?_ | refine blk_alloc ?_ _)); refine blk_far ?_ NB238_245.out _; (with_reducible repeat (first | refine blk_drewN ?_ _ | refine blk_drew ?_ | refine blk_alloc ?_ _)); refine blk_far ?_ NB238_245.out _; (with_reducible repeat (first | refine blk_drewN ?_ _ | refine blk_drew ?_ | refine blk_alloc ?_ _)); exact BK238.out⟩
  have n2_ : Aside0 (((w19.setCell ⟨gb245, 0, none⟩ (.int .i64 t243)).setCell ⟨gb245, 1, none⟩ (.int .i64 t244)).heap[gb245]? = some (.cells #[.int .i64 t243, .int .i64 t244] 40 (0, 0))) := ⟨by (with_reducible repeat (first | refine blk_drewN ?_ _ | refine blk_drew ?_ | refine blk_alloc ?_ _)); refine blk_put (cs := #[.int .i64 t243, .int .i64 0]) ?_ 1 _ rfl; (with_reducible repeat (first | refine blk_drewN ?_ _ | refine blk_drew ?_ | refine blk_alloc ?_ _)); refine blk_put (cs := #[.int .i64 0, .int .i64 0]) ?_ 0 _ rfl; (with_reducible repeat (first | refine blk_drewN ?_ _ | refine blk_drew ?_ | refine blk_alloc ?_ _)); exact BK245.out⟩
  have n3_ : Aside0 (Below w.heap.size w ((w19.setCell ⟨gb245, 0, none⟩ (.int .i64 t243)).setCell ⟨gb245, 1, none⟩ (.int .i64 t244))) := ⟨hz3 HB.out GE237.out GE238.out GE245.out⟩
  (try clear BK237)
  (try clear BK238)
  (try clear BK245)
  (try clear HB)
  generalize ((w19.setCell ⟨gb245, 0, none⟩ (.int .i64 t243)).setCell ⟨gb245, 1, none⟩ (.int .i64 t244)) = w22 at n0_ n1_ n2_ n3_ ⊢
  have BK237 := n0_
  have BK238 := n1_
  have BK245 := n2_
  have HB := n3_
  clear n0_ n1_ n2_ n3_
  have n0_ := Aside0.mk (blk_drew BK237.out)
  have n1_ := Aside0.mk (blk_drew BK238.out)
  have n2_ := Aside0.mk (blk_drew BK245.out)
  have n3_ := Aside0.mk (below_drew1 HB.out)
  clear BK237
  clear BK238
  clear BK245
  clear HB
  have BK237 := n0_
  have BK238 := n1_
  have BK245 := n2_
  have HB := n3_
  clear n0_ n1_ n2_ n3_
  refine start_ (n := 8) (S := fun w' => w'.cell? ⟨gb237, 0, none⟩ = some (.int .i64 a1_0) ∧ w'.cell? ⟨gb237, 1, none⟩ = some (.int .i64 a1_1) ∧ w'.cell? ⟨gb238, 0, none⟩ = some (.int .i64 a2_0) ∧ w'.cell? ⟨gb238, 1, none⟩ = some (.int .i64 a2_1)) (ds := []) #[false, false, false, false, false, false, false, false] (by kernel_rfl) rfl rfl ⟨(blk_cell BK237.out 0).trans rfl, (blk_cell BK237.out 1).trans rfl, (blk_cell BK238.out 0).trans rfl, (blk_cell BK238.out 1).trans rfl⟩ (fun hHeld => ?_); refine with_tabW laws_FnExactRestDo.tab2 laws_FnExactRestDo.bits2 (fun HT_ HW_ => ?_)
  generalize w22.drew = w23 at BK237 BK238 BK245 HB hHeld ⊢
  refine pure_ (i := 0) (N := some 15) (v := ?_) (a' := ?_) #[true, false, false, false, false, false, false, false] rfl rfl (any_of HT_.out (by kernel_rfl)) (fun _ _ _ h => h) (Or.inl ⟨by rfl, ?_⟩) ?_ ?_
  rotate_left
  ·intro w'
   go_simp
   with_reducible rfl
  rotate_left
  ·exact pz
  refine take_ (i := 1) (N := some 16) (v := ?_) (a' := ?_) #[true, true, false, false, false, false, false, false] rfl rfl (take_ofW HT_.out HW_.out (by kernel_rfl)) (fun _ _ _ h => h) (Or.inl ⟨by rfl, ?_⟩) hHeld ?_ ?_
  rotate_left
  ·rintro w' ⟨s0, s1, s2, s3⟩
   go_simp
   with_reducible rfl
  rotate_left
  ·exact pz
  refine take_ (i := 3) (N := some 18) (v := ?_) (a' := ?_) #[true, true, false, true, false, false, false, false] rfl rfl (take_ofW HT_.out HW_.out (by kernel_rfl)) (fun _ _ _ h => h) (Or.inl ⟨by rfl, ?_⟩) hHeld ?_ ?_
  rotate_left
  ·rintro w' ⟨s0, s1, s2, s3⟩
   go_simp
   with_reducible rfl
  rotate_left
  ·exact pz
  refine join_ (σ := Nat) 1 #[true, true, true, true, true, true, true, false] (fun s_ => [(17, .agg #[.int .i64 t246, .int .i64 t247]), (19, .agg #[.int .i64 t248, .int .i64 t249]), (20, .agg #[.int .i64 t250, .int .i64 t251]), (8, .pointer (some ⟨s_, 0, none⟩))]) (fun s_ w' => (w'.cell? ⟨gb237, 0, none⟩ = some (.int .i64 a1_0) ∧ w'.cell? ⟨gb237, 1, none⟩ = some (.int .i64 a1_1) ∧ w'.cell? ⟨gb238, 0, none⟩ = some (.int .i64 a2_0) ∧ w'.cell? ⟨gb238, 1, none⟩ = some (.int .i64 a2_1)) ∧ (w'.heap[gb237]? = some (.cells #[.int .i64 a1_0, .int .i64 a1_1] 38 (0, 0))) ∧ (w'.heap[gb238]? = some (.cells #[.int .i64 a2_0, .int .i64 a2_1] 38 (0, 0))) ∧ (w'.heap[gb245]? = some (.cells #[.int .i64 t243, .int .i64 t244] 40 (0, 0))) ∧ (w'.heap[s_]? = some (.cells #[.int .i64 0, .int .i64 0] 40 (0, 0))) ∧ (w.heap.size ≤ s_) ∧ (w.heap.size ≤ s_) ∧ (gb237 ≠ s_) ∧ (s_ ≠ gb237) ∧ (gb238 ≠ s_) ∧ (s_ ≠ gb238) ∧ (gb245 ≠ s_) ∧ (s_ ≠ gb245) ∧ (Below w.heap.size w w')) ?_ ?_
  rotate_left
  ·intro hCont
   refine two_ (i := 2) (j := 6) (Ni := some 17) (Nj := some 8) #[true, true, true, true, false, false, false, false] #[true, true, false, true, false, false, true, false] rfl rfl rfl rfl (two_of HT_.out (by kernel_rfl)) (by decide) (by decide) (fun K hK => ?_) (fun K hK => ?_)
   ·skip
    refine goes_ Try.func28 (by kernel_rfl) rfl #[.agg #[.int .i64 a1_0, .int .i64 a1_1]] (by rfl) rfl rfl mz ?_
    with_reducible refine (laws_toRest.calls a1_0 a1_1 t246 t247 _ A7.out).mono ?_
    rintro e w24 ⟨rfl, hb⟩
    refine ⟨_, rfl, ?_⟩
    have n0_ := Aside0.mk (blk_below (g := gb237) (o := .cells #[.int .i64 a1_0, .int .i64 a1_1] 38 (0, 0)) (bz BK237.out) hb)
    have n1_ := Aside0.mk (blk_below (g := gb238) (o := .cells #[.int .i64 a2_0, .int .i64 a2_1] 38 (0, 0)) (bz BK238.out) hb)
    have n2_ := Aside0.mk (blk_below (g := gb245) (o := .cells #[.int .i64 t243, .int .i64 t244] 40 (0, 0)) (bz BK245.out) hb)
    have n3_ := Aside0.mk (below_step (hz3 HB.out GE237.out GE238.out GE245.out) hb)
    clear BK237
    clear BK238
    clear BK245
    clear HB
    have BK237 := n0_
    have BK238 := n1_
    have BK245 := n2_
    have HB := n3_
    clear n0_ n1_ n2_ n3_
    (try clear hb)
    (try clear hb2)
    (try clear hk)
    (try clear hi)
    refine hK.out _ _ ⟨(blk_cell BK237.out 0).trans rfl, (blk_cell BK237.out 1).trans rfl, (blk_cell BK238.out 0).trans rfl, (blk_cell BK238.out 1).trans rfl⟩ (fun hHeld => ?_)
    clear hK K
    refine norm_ (a' := ?_) ?_ ?_
    rotate_left
    ·show Act.put _ (some 17) _ = _
     simp only [Act.put, List.setIfInBounds_toArray, List.set_cons_zero, List.set_cons_succ, i64_w, i32_w]
     rfl
    refine two_ (i := 4) (j := 6) (Ni := some 19) (Nj := some 8) #[true, true, true, true, true, false, false, false] #[true, true, true, true, false, false, true, false] rfl rfl rfl rfl (two_of HT_.out (by kernel_rfl)) (by decide) (by decide) (fun K hK => ?_) (fun K hK => ?_)
    ·skip
     refine goes_ Try.func28 (by kernel_rfl) rfl #[.agg #[.int .i64 a2_0, .int .i64 a2_1]] (by rfl) rfl rfl mz ?_
     with_reducible refine (laws_toRest.calls a2_0 a2_1 t248 t249 _ A8.out).mono ?_
     rintro e w25 ⟨rfl, hb⟩
     refine ⟨_, rfl, ?_⟩
     have n0_ := Aside0.mk (blk_below (g := gb237) (o := .cells #[.int .i64 a1_0, .int .i64 a1_1] 38 (0, 0)) (bz BK237.out) hb)
     have n1_ := Aside0.mk (blk_below (g := gb238) (o := .cells #[.int .i64 a2_0, .int .i64 a2_1] 38 (0, 0)) (bz BK238.out) hb)
     have n2_ := Aside0.mk (blk_below (g := gb245) (o := .cells #[.int .i64 t243, .int .i64 t244] 40 (0, 0)) (bz BK245.out) hb)
     have n3_ := Aside0.mk (below_step (hz3 HB.out GE237.out GE238.out GE245.out) hb)
     clear BK237
     clear BK238
     clear BK245
     clear HB
     have BK237 := n0_
     have BK238 := n1_
     have BK245 := n2_
     have HB := n3_
     clear n0_ n1_ n2_ n3_
     (try clear hb)
     (try clear hb2)
     (try clear hk)
     (try clear hi)
     refine hK.out _ _ ⟨(blk_cell BK237.out 0).trans rfl, (blk_cell BK237.out 1).trans rfl, (blk_cell BK238.out 0).trans rfl, (blk_cell BK238.out 1).trans rfl⟩ (fun hHeld => ?_)
     clear hK K
     refine norm_ (a' := ?_) ?_ ?_
     rotate_left
     ·show Act.put _ (some 19) _ = _
      simp only [Act.put, List.setIfInBounds_toArray, List.set_cons_zero, List.set_cons_succ, i64_w, i32_w]
      rfl
     refine two_ (i := 5) (j := 6) (Ni := some 20) (Nj := some 8) #[true, true, true, true, true, true, false, false] #[true, true, true, true, true, false, true, false] rfl rfl rfl rfl (two_of HT_.out (by kernel_rfl)) (by decide) (by decide) (fun K hK => ?_) (fun K hK => ?_)
     ·skip
      refine goes_ Try.func40 (by kernel_rfl) rfl #[.int .i64 a0, .agg #[.int .i64 t246, .int .i64 t247], .agg #[.int .i64 t248, .int .i64 t249]] (by rfl) rfl rfl mz ?_
      with_reducible refine (impl_RestDo.calls k a0 t246 t247 t248 t249 t250 t251 _ A9.out).mono ?_
      rintro e w26 ⟨rfl, hb⟩
      refine ⟨_, rfl, ?_⟩
      have n0_ := Aside0.mk (blk_below (g := gb237) (o := .cells #[.int .i64 a1_0, .int .i64 a1_1] 38 (0, 0)) (bz BK237.out) hb)
      have n1_ := Aside0.mk (blk_below (g := gb238) (o := .cells #[.int .i64 a2_0, .int .i64 a2_1] 38 (0, 0)) (bz BK238.out) hb)
      have n2_ := Aside0.mk (blk_below (g := gb245) (o := .cells #[.int .i64 t243, .int .i64 t244] 40 (0, 0)) (bz BK245.out) hb)
      have n3_ := Aside0.mk (below_step (hz3 HB.out GE237.out GE238.out GE245.out) hb)
      clear BK237
      clear BK238
      clear BK245
      clear HB
      have BK237 := n0_
      have BK238 := n1_
      have BK245 := n2_
      have HB := n3_
      clear n0_ n1_ n2_ n3_
      (try clear hb)
      (try clear hb2)
      (try clear hk)
      (try clear hi)
      refine hK.out _ _ ⟨(blk_cell BK237.out 0).trans rfl, (blk_cell BK237.out 1).trans rfl, (blk_cell BK238.out 0).trans rfl, (blk_cell BK238.out 1).trans rfl⟩ (fun hHeld => ?_)
      clear hK K
      refine norm_ (a' := ?_) ?_ ?_
      rotate_left
      ·show Act.put _ (some 20) _ = _
       simp only [Act.put, List.setIfInBounds_toArray, List.set_cons_zero, List.set_cons_succ, i64_w, i32_w]
       rfl
      refine one_ (i := 6) (N := some 8) #[true, true, true, true, true, true, true, false] rfl rfl (one_of HT_.out (by kernel_rfl)) (by decide) (fun K hK => ?_)
      refine box_step ?hg (N := 8) ?hd (cs := #[.int .i64 0, .int .i64 0]) (t := 40) ?hr ?_; (case hd => rfl); (case hg => rfl); (case hr => first | (go_simp; done) | (go_simp; rfl))
      intro gb252 hg w27 hbox hb
      have n0_ := Aside0.mk (blk_below (g := gb237) (o := .cells #[.int .i64 a1_0, .int .i64 a1_1] 38 (0, 0)) (bz BK237.out) hb)
      have n1_ := Aside0.mk (blk_below (g := gb238) (o := .cells #[.int .i64 a2_0, .int .i64 a2_1] 38 (0, 0)) (bz BK238.out) hb)
      have n2_ := Aside0.mk (blk_below (g := gb245) (o := .cells #[.int .i64 t243, .int .i64 t244] 40 (0, 0)) (bz BK245.out) hb)
      have n3_ := Aside0.mk (below_step (hz3 HB.out GE237.out GE238.out GE245.out) hb)
      have n4_ := Aside0.mk (hbox)
      have n5_ := Aside0.mk ((by rw [hg]; exact (below_size (hz3 HB.out GE237.out GE238.out GE245.out)) : w.heap.size ≤ gb252))
      have n6_ := Aside0.mk ((by rw [hg]; exact (below_size (hz3 HB.out GE237.out GE238.out GE245.out)) : w.heap.size ≤ gb252))
      have n7_ := Aside0.mk ((by rw [hg]; exact Nat.ne_of_lt (blk_lt (g := gb237) (o := .cells #[.int .i64 a1_0, .int .i64 a1_1] 38 (0, 0)) (bz BK237.out)) : gb237 ≠ gb252))
      have n8_ := Aside0.mk ((by rw [hg]; exact Nat.ne_of_gt (blk_lt (g := gb237) (o := .cells #[.int .i64 a1_0, .int .i64 a1_1] 38 (0, 0)) (bz BK237.out)) : gb252 ≠ gb237))
      have n9_ := Aside0.mk ((by rw [hg]; exact Nat.ne_of_lt (blk_lt (g := gb238) (o := .cells #[.int .i64 a2_0, .int .i64 a2_1] 38 (0, 0)) (bz BK238.out)) : gb238 ≠ gb252))
      have n10_ := Aside0.mk ((by rw [hg]; exact Nat.ne_of_gt (blk_lt (g := gb238) (o := .cells #[.int .i64 a2_0, .int .i64 a2_1] 38 (0, 0)) (bz BK238.out)) : gb252 ≠ gb238))
      have n11_ := Aside0.mk ((by rw [hg]; exact Nat.ne_of_lt (blk_lt (g := gb245) (o := .cells #[.int .i64 t243, .int .i64 t244] 40 (0, 0)) (bz BK245.out)) : gb245 ≠ gb252))
      have n12_ := Aside0.mk ((by rw [hg]; exact Nat.ne_of_gt (blk_lt (g := gb245) (o := .cells #[.int .i64 t243, .int .i64 t244] 40 (0, 0)) (bz BK245.out)) : gb252 ≠ gb245))
      clear BK237
      clear BK238
      clear BK245
      clear HB
      have BK237 := n0_
      have BK238 := n1_
      have BK245 := n2_
      have HB := n3_
      have BK252 := n4_
      have GW252 := n5_
      have GE252 := n6_
      have NB237_252 := n7_
      have NB252_237 := n8_
      have NB238_252 := n9_
      have NB252_238 := n10_
      have NB245_252 := n11_
      have NB252_245 := n12_
      clear n0_ n1_ n2_ n3_ n4_ n5_ n6_ n7_ n8_ n9_ n10_ n11_ n12_
      clear hb hbox hg
      refine hK.out _ _ ⟨(blk_cell BK237.out 0).trans rfl, (blk_cell BK237.out 1).trans rfl, (blk_cell BK238.out 0).trans rfl, (blk_cell BK238.out 1).trans rfl⟩ (fun hHeld => ?_)
      clear hK K
      refine norm_ (a' := ?_) ?_ ?_
      rotate_left
      ·show Act.put _ (some 8) _ = _
       simp only [Act.put, List.setIfInBounds_toArray, List.set_cons_zero, List.set_cons_succ, i64_w, i32_w]
       rfl
      exact norm_ (by simp only [putAll, Act.put, List.setIfInBounds_toArray, List.set_cons_zero, List.set_cons_succ]) (hCont (gb252) _ ⟨hHeld, (bz BK237.out), (bz BK238.out), (bz BK245.out), (bz BK252.out), GW252.out, GE252.out, NB237_252.out, NB252_237.out, NB238_252.out, NB252_238.out, NB245_252.out, NB252_245.out, (hz4 HB.out GE237.out GE238.out GE245.out GE252.out)⟩)
     ·skip
      refine box_step ?hg (N := 8) ?hd (cs := #[.int .i64 0, .int .i64 0]) (t := 40) ?hr ?_; (case hd => rfl); (case hg => rfl); (case hr => first | (go_simp; done) | (go_simp; rfl))
      intro gb252 hg w26 hbox hb
      have n0_ := Aside0.mk (blk_below (g := gb237) (o := .cells #[.int .i64 a1_0, .int .i64 a1_1] 38 (0, 0)) (bz BK237.out) hb)
      have n1_ := Aside0.mk (blk_below (g := gb238) (o := .cells #[.int .i64 a2_0, .int .i64 a2_1] 38 (0, 0)) (bz BK238.out) hb)
      have n2_ := Aside0.mk (blk_below (g := gb245) (o := .cells #[.int .i64 t243, .int .i64 t244] 40 (0, 0)) (bz BK245.out) hb)
      have n3_ := Aside0.mk (below_step (hz3 HB.out GE237.out GE238.out GE245.out) hb)
      have n4_ := Aside0.mk (hbox)
      have n5_ := Aside0.mk ((by rw [hg]; exact (below_size (hz3 HB.out GE237.out GE238.out GE245.out)) : w.heap.size ≤ gb252))
      have n6_ := Aside0.mk ((by rw [hg]; exact (below_size (hz3 HB.out GE237.out GE238.out GE245.out)) : w.heap.size ≤ gb252))
      have n7_ := Aside0.mk ((by rw [hg]; exact Nat.ne_of_lt (blk_lt (g := gb237) (o := .cells #[.int .i64 a1_0, .int .i64 a1_1] 38 (0, 0)) (bz BK237.out)) : gb237 ≠ gb252))
      have n8_ := Aside0.mk ((by rw [hg]; exact Nat.ne_of_gt (blk_lt (g := gb237) (o := .cells #[.int .i64 a1_0, .int .i64 a1_1] 38 (0, 0)) (bz BK237.out)) : gb252 ≠ gb237))
      have n9_ := Aside0.mk ((by rw [hg]; exact Nat.ne_of_lt (blk_lt (g := gb238) (o := .cells #[.int .i64 a2_0, .int .i64 a2_1] 38 (0, 0)) (bz BK238.out)) : gb238 ≠ gb252))
      have n10_ := Aside0.mk ((by rw [hg]; exact Nat.ne_of_gt (blk_lt (g := gb238) (o := .cells #[.int .i64 a2_0, .int .i64 a2_1] 38 (0, 0)) (bz BK238.out)) : gb252 ≠ gb238))
      have n11_ := Aside0.mk ((by rw [hg]; exact Nat.ne_of_lt (blk_lt (g := gb245) (o := .cells #[.int .i64 t243, .int .i64 t244] 40 (0, 0)) (bz BK245.out)) : gb245 ≠ gb252))
      have n12_ := Aside0.mk ((by rw [hg]; exact Nat.ne_of_gt (blk_lt (g := gb245) (o := .cells #[.int .i64 t243, .int .i64 t244] 40 (0, 0)) (bz BK245.out)) : gb252 ≠ gb245))
      clear BK237
      clear BK238
      clear BK245
      clear HB
      have BK237 := n0_
      have BK238 := n1_
      have BK245 := n2_
      have HB := n3_
      have BK252 := n4_
      have GW252 := n5_
      have GE252 := n6_
      have NB237_252 := n7_
      have NB252_237 := n8_
      have NB238_252 := n9_
      have NB252_238 := n10_
      have NB245_252 := n11_
      have NB252_245 := n12_
      clear n0_ n1_ n2_ n3_ n4_ n5_ n6_ n7_ n8_ n9_ n10_ n11_ n12_
      clear hb hbox hg
      refine hK.out _ _ ⟨(blk_cell BK237.out 0).trans rfl, (blk_cell BK237.out 1).trans rfl, (blk_cell BK238.out 0).trans rfl, (blk_cell BK238.out 1).trans rfl⟩ (fun hHeld => ?_)
      clear hK K
      refine norm_ (a' := ?_) ?_ ?_
      rotate_left
      ·show Act.put _ (some 8) _ = _
       simp only [Act.put, List.setIfInBounds_toArray, List.set_cons_zero, List.set_cons_succ, i64_w, i32_w]
       rfl
      refine one_ (i := 5) (N := some 20) #[true, true, true, true, true, true, true, false] rfl rfl (one_of HT_.out (by kernel_rfl)) (by decide) (fun K hK => ?_)
      refine goes_ Try.func40 (by kernel_rfl) rfl #[.int .i64 a0, .agg #[.int .i64 t246, .int .i64 t247], .agg #[.int .i64 t248, .int .i64 t249]] (by rfl) rfl rfl mz ?_
      with_reducible refine (impl_RestDo.calls k a0 t246 t247 t248 t249 t250 t251 _ A9.out).mono ?_
      rintro e w27 ⟨rfl, hb⟩
      refine ⟨_, rfl, ?_⟩
      have n0_ := Aside0.mk (blk_below (g := gb237) (o := .cells #[.int .i64 a1_0, .int .i64 a1_1] 38 (0, 0)) (bz BK237.out) hb)
      have n1_ := Aside0.mk (blk_below (g := gb238) (o := .cells #[.int .i64 a2_0, .int .i64 a2_1] 38 (0, 0)) (bz BK238.out) hb)
      have n2_ := Aside0.mk (blk_below (g := gb245) (o := .cells #[.int .i64 t243, .int .i64 t244] 40 (0, 0)) (bz BK245.out) hb)
      have n3_ := Aside0.mk (blk_below (g := gb252) (o := .cells #[.int .i64 0, .int .i64 0] 40 (0, 0)) (bz BK252.out) hb)
      have n4_ := Aside0.mk (below_step (hz4 HB.out GE237.out GE238.out GE245.out GE252.out) hb)
      clear BK237
      clear BK238
      clear BK245
      clear BK252
      clear HB
      have BK237 := n0_
      have BK238 := n1_
      have BK245 := n2_
      have BK252 := n3_
      have HB := n4_
      clear n0_ n1_ n2_ n3_ n4_
      (try clear hb)
      (try clear hb2)
      (try clear hk)
      (try clear hi)
      refine hK.out _ _ ⟨(blk_cell BK237.out 0).trans rfl, (blk_cell BK237.out 1).trans rfl, (blk_cell BK238.out 0).trans rfl, (blk_cell BK238.out 1).trans rfl⟩ (fun hHeld => ?_)
      clear hK K
      refine norm_ (a' := ?_) ?_ ?_
      rotate_left
      ·show Act.put _ (some 20) _ = _
       simp only [Act.put, List.setIfInBounds_toArray, List.set_cons_zero, List.set_cons_succ, i64_w, i32_w]
       rfl
      exact norm_ (by simp only [putAll, Act.put, List.setIfInBounds_toArray, List.set_cons_zero, List.set_cons_succ]) (hCont (gb252) _ ⟨hHeld, (bz BK237.out), (bz BK238.out), (bz BK245.out), (bz BK252.out), GW252.out, GE252.out, NB237_252.out, NB252_237.out, NB238_252.out, NB252_238.out, NB245_252.out, NB252_245.out, (hz4 HB.out GE237.out GE238.out GE245.out GE252.out)⟩)
    ·skip
     refine box_step ?hg (N := 8) ?hd (cs := #[.int .i64 0, .int .i64 0]) (t := 40) ?hr ?_; (case hd => rfl); (case hg => rfl); (case hr => first | (go_simp; done) | (go_simp; rfl))
     intro gb252 hg w25 hbox hb
     have n0_ := Aside0.mk (blk_below (g := gb237) (o := .cells #[.int .i64 a1_0, .int .i64 a1_1] 38 (0, 0)) (bz BK237.out) hb)
     have n1_ := Aside0.mk (blk_below (g := gb238) (o := .cells #[.int .i64 a2_0, .int .i64 a2_1] 38 (0, 0)) (bz BK238.out) hb)
     have n2_ := Aside0.mk (blk_below (g := gb245) (o := .cells #[.int .i64 t243, .int .i64 t244] 40 (0, 0)) (bz BK245.out) hb)
     have n3_ := Aside0.mk (below_step (hz3 HB.out GE237.out GE238.out GE245.out) hb)
     have n4_ := Aside0.mk (hbox)
     have n5_ := Aside0.mk ((by rw [hg]; exact (below_size (hz3 HB.out GE237.out GE238.out GE245.out)) : w.heap.size ≤ gb252))
     have n6_ := Aside0.mk ((by rw [hg]; exact (below_size (hz3 HB.out GE237.out GE238.out GE245.out)) : w.heap.size ≤ gb252))
     have n7_ := Aside0.mk ((by rw [hg]; exact Nat.ne_of_lt (blk_lt (g := gb237) (o := .cells #[.int .i64 a1_0, .int .i64 a1_1] 38 (0, 0)) (bz BK237.out)) : gb237 ≠ gb252))
     have n8_ := Aside0.mk ((by rw [hg]; exact Nat.ne_of_gt (blk_lt (g := gb237) (o := .cells #[.int .i64 a1_0, .int .i64 a1_1] 38 (0, 0)) (bz BK237.out)) : gb252 ≠ gb237))
     have n9_ := Aside0.mk ((by rw [hg]; exact Nat.ne_of_lt (blk_lt (g := gb238) (o := .cells #[.int .i64 a2_0, .int .i64 a2_1] 38 (0, 0)) (bz BK238.out)) : gb238 ≠ gb252))
     have n10_ := Aside0.mk ((by rw [hg]; exact Nat.ne_of_gt (blk_lt (g := gb238) (o := .cells #[.int .i64 a2_0, .int .i64 a2_1] 38 (0, 0)) (bz BK238.out)) : gb252 ≠ gb238))
     have n11_ := Aside0.mk ((by rw [hg]; exact Nat.ne_of_lt (blk_lt (g := gb245) (o := .cells #[.int .i64 t243, .int .i64 t244] 40 (0, 0)) (bz BK245.out)) : gb245 ≠ gb252))
     have n12_ := Aside0.mk ((by rw [hg]; exact Nat.ne_of_gt (blk_lt (g := gb245) (o := .cells #[.int .i64 t243, .int .i64 t244] 40 (0, 0)) (bz BK245.out)) : gb252 ≠ gb245))
     clear BK237
     clear BK238
     clear BK245
     clear HB
     have BK237 := n0_
     have BK238 := n1_
     have BK245 := n2_
     have HB := n3_
     have BK252 := n4_
     have GW252 := n5_
     have GE252 := n6_
     have NB237_252 := n7_
     have NB252_237 := n8_
     have NB238_252 := n9_
     have NB252_238 := n10_
     have NB245_252 := n11_
     have NB252_245 := n12_
     clear n0_ n1_ n2_ n3_ n4_ n5_ n6_ n7_ n8_ n9_ n10_ n11_ n12_
     clear hb hbox hg
     refine hK.out _ _ ⟨(blk_cell BK237.out 0).trans rfl, (blk_cell BK237.out 1).trans rfl, (blk_cell BK238.out 0).trans rfl, (blk_cell BK238.out 1).trans rfl⟩ (fun hHeld => ?_)
     clear hK K
     refine norm_ (a' := ?_) ?_ ?_
     rotate_left
     ·show Act.put _ (some 8) _ = _
      simp only [Act.put, List.setIfInBounds_toArray, List.set_cons_zero, List.set_cons_succ, i64_w, i32_w]
      rfl
     refine one_ (i := 4) (N := some 19) #[true, true, true, true, true, false, true, false] rfl rfl (one_of HT_.out (by kernel_rfl)) (by decide) (fun K hK => ?_)
     refine goes_ Try.func28 (by kernel_rfl) rfl #[.agg #[.int .i64 a2_0, .int .i64 a2_1]] (by rfl) rfl rfl mz ?_
     with_reducible refine (laws_toRest.calls a2_0 a2_1 t248 t249 _ A8.out).mono ?_
     rintro e w26 ⟨rfl, hb⟩
     refine ⟨_, rfl, ?_⟩
     have n0_ := Aside0.mk (blk_below (g := gb237) (o := .cells #[.int .i64 a1_0, .int .i64 a1_1] 38 (0, 0)) (bz BK237.out) hb)
     have n1_ := Aside0.mk (blk_below (g := gb238) (o := .cells #[.int .i64 a2_0, .int .i64 a2_1] 38 (0, 0)) (bz BK238.out) hb)
     have n2_ := Aside0.mk (blk_below (g := gb245) (o := .cells #[.int .i64 t243, .int .i64 t244] 40 (0, 0)) (bz BK245.out) hb)
     have n3_ := Aside0.mk (blk_below (g := gb252) (o := .cells #[.int .i64 0, .int .i64 0] 40 (0, 0)) (bz BK252.out) hb)
     have n4_ := Aside0.mk (below_step (hz4 HB.out GE237.out GE238.out GE245.out GE252.out) hb)
     clear BK237
     clear BK238
     clear BK245
     clear BK252
     clear HB
     have BK237 := n0_
     have BK238 := n1_
     have BK245 := n2_
     have BK252 := n3_
     have HB := n4_
     clear n0_ n1_ n2_ n3_ n4_
     (try clear hb)
     (try clear hb2)
     (try clear hk)
     (try clear hi)
     refine hK.out _ _ ⟨(blk_cell BK237.out 0).trans rfl, (blk_cell BK237.out 1).trans rfl, (blk_cell BK238.out 0).trans rfl, (blk_cell BK238.out 1).trans rfl⟩ (fun hHeld => ?_)
     clear hK K
     refine norm_ (a' := ?_) ?_ ?_
     rotate_left
     ·show Act.put _ (some 19) _ = _
      simp only [Act.put, List.setIfInBounds_toArray, List.set_cons_zero, List.set_cons_succ, i64_w, i32_w]
      rfl
     refine one_ (i := 5) (N := some 20) #[true, true, true, true, true, true, true, false] rfl rfl (one_of HT_.out (by kernel_rfl)) (by decide) (fun K hK => ?_)
     refine goes_ Try.func40 (by kernel_rfl) rfl #[.int .i64 a0, .agg #[.int .i64 t246, .int .i64 t247], .agg #[.int .i64 t248, .int .i64 t249]] (by rfl) rfl rfl mz ?_
     with_reducible refine (impl_RestDo.calls k a0 t246 t247 t248 t249 t250 t251 _ A9.out).mono ?_
     rintro e w27 ⟨rfl, hb⟩
     refine ⟨_, rfl, ?_⟩
     have n0_ := Aside0.mk (blk_below (g := gb237) (o := .cells #[.int .i64 a1_0, .int .i64 a1_1] 38 (0, 0)) (bz BK237.out) hb)
     have n1_ := Aside0.mk (blk_below (g := gb238) (o := .cells #[.int .i64 a2_0, .int .i64 a2_1] 38 (0, 0)) (bz BK238.out) hb)
     have n2_ := Aside0.mk (blk_below (g := gb245) (o := .cells #[.int .i64 t243, .int .i64 t244] 40 (0, 0)) (bz BK245.out) hb)
     have n3_ := Aside0.mk (blk_below (g := gb252) (o := .cells #[.int .i64 0, .int .i64 0] 40 (0, 0)) (bz BK252.out) hb)
     have n4_ := Aside0.mk (below_step (hz4 HB.out GE237.out GE238.out GE245.out GE252.out) hb)
     clear BK237
     clear BK238
     clear BK245
     clear BK252
     clear HB
     have BK237 := n0_
     have BK238 := n1_
     have BK245 := n2_
     have BK252 := n3_
     have HB := n4_
     clear n0_ n1_ n2_ n3_ n4_
     (try clear hb)
     (try clear hb2)
     (try clear hk)
     (try clear hi)
     refine hK.out _ _ ⟨(blk_cell BK237.out 0).trans rfl, (blk_cell BK237.out 1).trans rfl, (blk_cell BK238.out 0).trans rfl, (blk_cell BK238.out 1).trans rfl⟩ (fun hHeld => ?_)
     clear hK K
     refine norm_ (a' := ?_) ?_ ?_
     rotate_left
     ·show Act.put _ (some 20) _ = _
      simp only [Act.put, List.setIfInBounds_toArray, List.set_cons_zero, List.set_cons_succ, i64_w, i32_w]
      rfl
     exact norm_ (by simp only [putAll, Act.put, List.setIfInBounds_toArray, List.set_cons_zero, List.set_cons_succ]) (hCont (gb252) _ ⟨hHeld, (bz BK237.out), (bz BK238.out), (bz BK245.out), (bz BK252.out), GW252.out, GE252.out, NB237_252.out, NB252_237.out, NB238_252.out, NB252_238.out, NB245_252.out, NB252_245.out, (hz4 HB.out GE237.out GE238.out GE245.out GE252.out)⟩)
   ·skip
    refine box_step ?hg (N := 8) ?hd (cs := #[.int .i64 0, .int .i64 0]) (t := 40) ?hr ?_; (case hd => rfl); (case hg => rfl); (case hr => first | (go_simp; done) | (go_simp; rfl))
    intro gb252 hg w24 hbox hb
    have n0_ := Aside0.mk (blk_below (g := gb237) (o := .cells #[.int .i64 a1_0, .int .i64 a1_1] 38 (0, 0)) (bz BK237.out) hb)
    have n1_ := Aside0.mk (blk_below (g := gb238) (o := .cells #[.int .i64 a2_0, .int .i64 a2_1] 38 (0, 0)) (bz BK238.out) hb)
    have n2_ := Aside0.mk (blk_below (g := gb245) (o := .cells #[.int .i64 t243, .int .i64 t244] 40 (0, 0)) (bz BK245.out) hb)
    have n3_ := Aside0.mk (below_step (hz3 HB.out GE237.out GE238.out GE245.out) hb)
    have n4_ := Aside0.mk (hbox)
    have n5_ := Aside0.mk ((by rw [hg]; exact (below_size (hz3 HB.out GE237.out GE238.out GE245.out)) : w.heap.size ≤ gb252))
    have n6_ := Aside0.mk ((by rw [hg]; exact (below_size (hz3 HB.out GE237.out GE238.out GE245.out)) : w.heap.size ≤ gb252))
    have n7_ := Aside0.mk ((by rw [hg]; exact Nat.ne_of_lt (blk_lt (g := gb237) (o := .cells #[.int .i64 a1_0, .int .i64 a1_1] 38 (0, 0)) (bz BK237.out)) : gb237 ≠ gb252))
    have n8_ := Aside0.mk ((by rw [hg]; exact Nat.ne_of_gt (blk_lt (g := gb237) (o := .cells #[.int .i64 a1_0, .int .i64 a1_1] 38 (0, 0)) (bz BK237.out)) : gb252 ≠ gb237))
    have n9_ := Aside0.mk ((by rw [hg]; exact Nat.ne_of_lt (blk_lt (g := gb238) (o := .cells #[.int .i64 a2_0, .int .i64 a2_1] 38 (0, 0)) (bz BK238.out)) : gb238 ≠ gb252))
    have n10_ := Aside0.mk ((by rw [hg]; exact Nat.ne_of_gt (blk_lt (g := gb238) (o := .cells #[.int .i64 a2_0, .int .i64 a2_1] 38 (0, 0)) (bz BK238.out)) : gb252 ≠ gb238))
    have n11_ := Aside0.mk ((by rw [hg]; exact Nat.ne_of_lt (blk_lt (g := gb245) (o := .cells #[.int .i64 t243, .int .i64 t244] 40 (0, 0)) (bz BK245.out)) : gb245 ≠ gb252))
    have n12_ := Aside0.mk ((by rw [hg]; exact Nat.ne_of_gt (blk_lt (g := gb245) (o := .cells #[.int .i64 t243, .int .i64 t244] 40 (0, 0)) (bz BK245.out)) : gb252 ≠ gb245))
    clear BK237
    clear BK238
    clear BK245
    clear HB
    have BK237 := n0_
    have BK238 := n1_
    have BK245 := n2_
    have HB := n3_
    have BK252 := n4_
    have GW252 := n5_
    have GE252 := n6_
    have NB237_252 := n7_
    have NB252_237 := n8_
    have NB238_252 := n9_
    have NB252_238 := n10_
    have NB245_252 := n11_
    have NB252_245 := n12_
    clear n0_ n1_ n2_ n3_ n4_ n5_ n6_ n7_ n8_ n9_ n10_ n11_ n12_
    clear hb hbox hg
    refine hK.out _ _ ⟨(blk_cell BK237.out 0).trans rfl, (blk_cell BK237.out 1).trans rfl, (blk_cell BK238.out 0).trans rfl, (blk_cell BK238.out 1).trans rfl⟩ (fun hHeld => ?_)
    clear hK K
    refine norm_ (a' := ?_) ?_ ?_
    rotate_left
    ·show Act.put _ (some 8) _ = _
     simp only [Act.put, List.setIfInBounds_toArray, List.set_cons_zero, List.set_cons_succ, i64_w, i32_w]
     rfl
    refine one_ (i := 2) (N := some 17) #[true, true, true, true, false, false, true, false] rfl rfl (one_of HT_.out (by kernel_rfl)) (by decide) (fun K hK => ?_)
    refine goes_ Try.func28 (by kernel_rfl) rfl #[.agg #[.int .i64 a1_0, .int .i64 a1_1]] (by rfl) rfl rfl mz ?_
    with_reducible refine (laws_toRest.calls a1_0 a1_1 t246 t247 _ A7.out).mono ?_
    rintro e w25 ⟨rfl, hb⟩
    refine ⟨_, rfl, ?_⟩
    have n0_ := Aside0.mk (blk_below (g := gb237) (o := .cells #[.int .i64 a1_0, .int .i64 a1_1] 38 (0, 0)) (bz BK237.out) hb)
    have n1_ := Aside0.mk (blk_below (g := gb238) (o := .cells #[.int .i64 a2_0, .int .i64 a2_1] 38 (0, 0)) (bz BK238.out) hb)
    have n2_ := Aside0.mk (blk_below (g := gb245) (o := .cells #[.int .i64 t243, .int .i64 t244] 40 (0, 0)) (bz BK245.out) hb)
    have n3_ := Aside0.mk (blk_below (g := gb252) (o := .cells #[.int .i64 0, .int .i64 0] 40 (0, 0)) (bz BK252.out) hb)
    have n4_ := Aside0.mk (below_step (hz4 HB.out GE237.out GE238.out GE245.out GE252.out) hb)
    clear BK237
    clear BK238
    clear BK245
    clear BK252
    clear HB
    have BK237 := n0_
    have BK238 := n1_
    have BK245 := n2_
    have BK252 := n3_
    have HB := n4_
    clear n0_ n1_ n2_ n3_ n4_
    (try clear hb)
    (try clear hb2)
    (try clear hk)
    (try clear hi)
    refine hK.out _ _ ⟨(blk_cell BK237.out 0).trans rfl, (blk_cell BK237.out 1).trans rfl, (blk_cell BK238.out 0).trans rfl, (blk_cell BK238.out 1).trans rfl⟩ (fun hHeld => ?_)
    clear hK K
    refine norm_ (a' := ?_) ?_ ?_
    rotate_left
    ·show Act.put _ (some 17) _ = _
     simp only [Act.put, List.setIfInBounds_toArray, List.set_cons_zero, List.set_cons_succ, i64_w, i32_w]
     rfl
    refine one_ (i := 4) (N := some 19) #[true, true, true, true, true, false, true, false] rfl rfl (one_of HT_.out (by kernel_rfl)) (by decide) (fun K hK => ?_)
    refine goes_ Try.func28 (by kernel_rfl) rfl #[.agg #[.int .i64 a2_0, .int .i64 a2_1]] (by rfl) rfl rfl mz ?_
    with_reducible refine (laws_toRest.calls a2_0 a2_1 t248 t249 _ A8.out).mono ?_
    rintro e w26 ⟨rfl, hb⟩
    refine ⟨_, rfl, ?_⟩
    have n0_ := Aside0.mk (blk_below (g := gb237) (o := .cells #[.int .i64 a1_0, .int .i64 a1_1] 38 (0, 0)) (bz BK237.out) hb)
    have n1_ := Aside0.mk (blk_below (g := gb238) (o := .cells #[.int .i64 a2_0, .int .i64 a2_1] 38 (0, 0)) (bz BK238.out) hb)
    have n2_ := Aside0.mk (blk_below (g := gb245) (o := .cells #[.int .i64 t243, .int .i64 t244] 40 (0, 0)) (bz BK245.out) hb)
    have n3_ := Aside0.mk (blk_below (g := gb252) (o := .cells #[.int .i64 0, .int .i64 0] 40 (0, 0)) (bz BK252.out) hb)
    have n4_ := Aside0.mk (below_step (hz4 HB.out GE237.out GE238.out GE245.out GE252.out) hb)
    clear BK237
    clear BK238
    clear BK245
    clear BK252
    clear HB
    have BK237 := n0_
    have BK238 := n1_
    have BK245 := n2_
    have BK252 := n3_
    have HB := n4_
    clear n0_ n1_ n2_ n3_ n4_
    (try clear hb)
    (try clear hb2)
    (try clear hk)
    (try clear hi)
    refine hK.out _ _ ⟨(blk_cell BK237.out 0).trans rfl, (blk_cell BK237.out 1).trans rfl, (blk_cell BK238.out 0).trans rfl, (blk_cell BK238.out 1).trans rfl⟩ (fun hHeld => ?_)
    clear hK K
    refine norm_ (a' := ?_) ?_ ?_
    rotate_left
    ·show Act.put _ (some 19) _ = _
     simp only [Act.put, List.setIfInBounds_toArray, List.set_cons_zero, List.set_cons_succ, i64_w, i32_w]
     rfl
    refine one_ (i := 5) (N := some 20) #[true, true, true, true, true, true, true, false] rfl rfl (one_of HT_.out (by kernel_rfl)) (by decide) (fun K hK => ?_)
    refine goes_ Try.func40 (by kernel_rfl) rfl #[.int .i64 a0, .agg #[.int .i64 t246, .int .i64 t247], .agg #[.int .i64 t248, .int .i64 t249]] (by rfl) rfl rfl mz ?_
    with_reducible refine (impl_RestDo.calls k a0 t246 t247 t248 t249 t250 t251 _ A9.out).mono ?_
    rintro e w27 ⟨rfl, hb⟩
    refine ⟨_, rfl, ?_⟩
    have n0_ := Aside0.mk (blk_below (g := gb237) (o := .cells #[.int .i64 a1_0, .int .i64 a1_1] 38 (0, 0)) (bz BK237.out) hb)
    have n1_ := Aside0.mk (blk_below (g := gb238) (o := .cells #[.int .i64 a2_0, .int .i64 a2_1] 38 (0, 0)) (bz BK238.out) hb)
    have n2_ := Aside0.mk (blk_below (g := gb245) (o := .cells #[.int .i64 t243, .int .i64 t244] 40 (0, 0)) (bz BK245.out) hb)
    have n3_ := Aside0.mk (blk_below (g := gb252) (o := .cells #[.int .i64 0, .int .i64 0] 40 (0, 0)) (bz BK252.out) hb)
    have n4_ := Aside0.mk (below_step (hz4 HB.out GE237.out GE238.out GE245.out GE252.out) hb)
    clear BK237
    clear BK238
    clear BK245
    clear BK252
    clear HB
    have BK237 := n0_
    have BK238 := n1_
    have BK245 := n2_
    have BK252 := n3_
    have HB := n4_
    clear n0_ n1_ n2_ n3_ n4_
    (try clear hb)
    (try clear hb2)
    (try clear hk)
    (try clear hi)
    refine hK.out _ _ ⟨(blk_cell BK237.out 0).trans rfl, (blk_cell BK237.out 1).trans rfl, (blk_cell BK238.out 0).trans rfl, (blk_cell BK238.out 1).trans rfl⟩ (fun hHeld => ?_)
    clear hK K
    refine norm_ (a' := ?_) ?_ ?_
    rotate_left
    ·show Act.put _ (some 20) _ = _
     simp only [Act.put, List.setIfInBounds_toArray, List.set_cons_zero, List.set_cons_succ, i64_w, i32_w]
     rfl
    exact norm_ (by simp only [putAll, Act.put, List.setIfInBounds_toArray, List.set_cons_zero, List.set_cons_succ]) (hCont (gb252) _ ⟨hHeld, (bz BK237.out), (bz BK238.out), (bz BK245.out), (bz BK252.out), GW252.out, GE252.out, NB237_252.out, NB252_237.out, NB238_252.out, NB252_238.out, NB245_252.out, NB252_245.out, (hz4 HB.out GE237.out GE238.out GE245.out GE252.out)⟩)
  rintro gb252 w28 ⟨hS_, h0_, h1_, h2_, h3_, h4_, h5_, h6_, h7_, h8_, h9_, h10_, h11_, h12_⟩
  have n0_ : Aside0 (w28.heap[gb237]? = some (.cells #[.int .i64 a1_0, .int .i64 a1_1] 38 (0, 0))) := ⟨h0_⟩
  have n1_ : Aside0 (w28.heap[gb238]? = some (.cells #[.int .i64 a2_0, .int .i64 a2_1] 38 (0, 0))) := ⟨h1_⟩
  have n2_ : Aside0 (w28.heap[gb245]? = some (.cells #[.int .i64 t243, .int .i64 t244] 40 (0, 0))) := ⟨h2_⟩
  have n3_ : Aside0 (w28.heap[gb252]? = some (.cells #[.int .i64 0, .int .i64 0] 40 (0, 0))) := ⟨h3_⟩
  have n4_ : Aside0 (w.heap.size ≤ gb252) := ⟨h4_⟩
  have n5_ : Aside0 (w.heap.size ≤ gb252) := ⟨h5_⟩
  have n6_ : Aside0 (gb237 ≠ gb252) := ⟨h6_⟩
  have n7_ : Aside0 (gb252 ≠ gb237) := ⟨h7_⟩
  have n8_ : Aside0 (gb238 ≠ gb252) := ⟨h8_⟩
  have n9_ : Aside0 (gb252 ≠ gb238) := ⟨h9_⟩
  have n10_ : Aside0 (gb245 ≠ gb252) := ⟨h10_⟩
  have n11_ : Aside0 (gb252 ≠ gb245) := ⟨h11_⟩
  have n12_ : Aside0 (Below w.heap.size w w28) := ⟨h12_⟩
  clear BK237
  clear BK238
  clear BK245
  clear HB
  clear h0_ h1_ h2_ h3_ h4_ h5_ h6_ h7_ h8_ h9_ h10_ h11_ h12_
  have BK237 := n0_
  have BK238 := n1_
  have BK245 := n2_
  have BK252 := n3_
  have GW252 := n4_
  have GE252 := n5_
  have NB237_252 := n6_
  have NB252_237 := n7_
  have NB238_252 := n8_
  have NB252_238 := n9_
  have NB245_252 := n10_
  have NB252_245 := n11_
  have HB := n12_
  clear n0_ n1_ n2_ n3_ n4_ n5_ n6_ n7_ n8_ n9_ n10_ n11_ n12_
  have hHeld : w28.cell? ⟨gb237, 0, none⟩ = some (.int .i64 a1_0) ∧ w28.cell? ⟨gb237, 1, none⟩ = some (.int .i64 a1_1) ∧ w28.cell? ⟨gb238, 0, none⟩ = some (.int .i64 a2_0) ∧ w28.cell? ⟨gb238, 1, none⟩ = some (.int .i64 a2_1) := hS_
  refine norm_ (a' := ?_) ?_ ?_
  rotate_left
  ·simp only [putAll, Act.put, List.setIfInBounds_toArray, List.set_cons_zero, List.set_cons_succ]
   rfl
  refine one_ (i := 7) (N := none) #[true, true, true, true, true, true, true, true] rfl rfl (one_of HT_.out (by kernel_rfl)) (by decide) (fun K hK => ?_)
  have hs29 : w28.cell? ⟨gb252, 0, none⟩ = some (.int .i64 0) := (blk_cell BK252.out 0).trans rfl
  have hfs29 := blk_frozen BK252.out 0
  have hns29_0 := NB237_252.out
  have hns29_1 := NB238_252.out
  have hns29_2 := NB245_252.out
  have hms29_0 := NB252_237.out
  have hms29_1 := NB252_238.out
  have hms29_2 := NB252_245.out
  have hs30 : w28.cell? ⟨gb252, 1, none⟩ = some (.int .i64 0) := (blk_cell BK252.out 1).trans rfl
  have hfs30 := blk_frozen BK252.out 1
  have hns30_0 := NB237_252.out
  have hns30_1 := NB238_252.out
  have hns30_2 := NB245_252.out
  have hms30_0 := NB252_237.out
  have hms30_1 := NB252_238.out
  have hms30_2 := NB252_245.out
  refine skip_ (w1 := ?_) (by rfl) rfl ?_ ?_
  rotate_left
  ·go_simp
   rfl
  refine hK.out _ _ ⟨((cell_far (p := ⟨gb252, _, none⟩) NB237_252.out _).trans (((cell_far (p := ⟨gb252, _, none⟩) NB237_252.out _).trans (hHeld.1)))), ((cell_far (p := ⟨gb252, _, none⟩) NB237_252.out _).trans (((cell_far (p := ⟨gb252, _, none⟩) NB237_252.out _).trans (hHeld.2.1)))), ((cell_far (p := ⟨gb252, _, none⟩) NB238_252.out _).trans (((cell_far (p := ⟨gb252, _, none⟩) NB238_252.out _).trans (hHeld.2.2.1)))), ((cell_far (p := ⟨gb252, _, none⟩) NB238_252.out _).trans (((cell_far (p := ⟨gb252, _, none⟩) NB238_252.out _).trans (hHeld.2.2.2))))⟩ (fun hHeld => ?_)
  clear hK K
  refine done_ (done_of HT_.out (by kernel_rfl)) ?_
  have hnb31 := NB252_237.out
  have hnc31 := NB237_252.out
  have hnb32 := NB252_238.out
  have hnc32 := NB238_252.out
  have hnb33 := NB252_245.out
  have hnc33 := NB245_252.out
  have hcz34_0 : w28.cell? ⟨gb252, 0, none⟩ = some (.int .i64 0) := (blk_cell BK252.out 0).trans rfl
  have hcz34_1 : w28.cell? ⟨gb252, 1, none⟩ = some (.int .i64 0) := (blk_cell BK252.out 1).trans rfl
  have hfz34_0 := blk_frozen BK252.out 0
  have hfz34_1 := blk_frozen BK252.out 1
  have hnb35 := NB245_237.out
  have hnc35 := NB237_245.out
  have hnb36 := NB245_238.out
  have hnc36 := NB238_245.out
  have hcz37_0 : w28.cell? ⟨gb245, 0, none⟩ = some (.int .i64 t243) := (blk_cell BK245.out 0).trans rfl
  have hcz37_1 : w28.cell? ⟨gb245, 1, none⟩ = some (.int .i64 t244) := (blk_cell BK245.out 1).trans rfl
  have hfz37_0 := blk_frozen BK245.out 0
  have hfz37_1 := blk_frozen BK245.out 1
  try go_wp2_with (first | ((with_reducible refine gate_callee (f := 36) rfl ?_); refine goesL_ (some 23) rfl rfl Try.func36 (by kernel_rfl) rfl #[.agg #[.int .i64 t250, .int .i64 t251], .agg #[.int .i64 t243, .int .i64 t244]] rfl mz ?_; (with_reducible refine (laws_eqRest.calls t250 t251 t243 t244 true _ A10.out).mono ?_); rintro e w38 ⟨rfl, hb⟩; refine ⟨_, rfl, ?_⟩; have n0_ := Aside0.mk (blk_below (g := gb237) (o := .cells #[.int .i64 a1_0, .int .i64 a1_1] 38 (0, 0)) (by (with_reducible repeat (first | refine blk_drewN ?_ _ | refine blk_drew ?_ | refine blk_alloc ?_ _)); refine blk_far ?_ NB237_252.out _; (with_reducible repeat (first | refine blk_drewN ?_ _ | refine blk_drew ?_ | refine blk_alloc ?_ _)); refine blk_far ?_ NB237_252.out _; (with_reducible repeat (first | refine blk_drewN ?_ _ | refine blk_drew ?_ | refine blk_alloc ?_ _)); exact BK237.out) hb); have n1_ := Aside0.mk (blk_below (g := gb238) (o := .cells #[.int .i64 a2_0, .int .i64 a2_1] 38 (0, 0)) (by (with_reducible repeat (first | refine blk_drewN ?_ _ | refine blk_drew ?_ | refine blk_alloc ?_ _)); refine blk_far ?_ NB238_252.out _; (with_reducible repeat (first | refine blk_drewN ?_ _ | refine blk_drew ?_ | refine blk_alloc ?_ _)); refine blk_far ?_ NB238_252.out _; (with_reducible repeat (first | refine blk_drewN ?_ _ | refine blk_drew ?_ | refine blk_alloc ?_ _)); exact BK238.out) hb); have n2_ := Aside0.mk (blk_below (g := gb245) (o := .cells #[.int .i64 t243, .int .i64 t244] 40 (0, 0)) (by (with_reducible repeat (first | refine blk_drewN ?_ _ | refine blk_drew ?_ | refine blk_alloc ?_ _)); refine blk_far ?_ NB245_252.out _; (with_reducible repeat (first | refine blk_drewN ?_ _ | refine blk_drew ?_ | refine blk_alloc ?_ _)); refine blk_far ?_ NB245_252.out _; (with_reducible repeat (first | refine blk_drewN ?_ _ | refine blk_drew ?_ | refine blk_alloc ?_ _)); exact BK245.out) hb); have n3_ := Aside0.mk (blk_below (g := gb252) (o := .cells #[.int .i64 t250, .int .i64 t251] 40 (0, 0)) (by (with_reducible repeat (first | refine blk_drewN ?_ _ | refine blk_drew ?_ | refine blk_alloc ?_ _)); refine blk_put (cs := #[.int .i64 t250, .int .i64 0]) ?_ 1 _ rfl; (with_reducible repeat (first | refine blk_drewN ?_ _ | refine blk_drew ?_ | refine blk_alloc ?_ _)); refine blk_put (cs := #[.int .i64 0, .int .i64 0]) ?_ 0 _ rfl; (with_reducible repeat (first | refine blk_drewN ?_ _ | refine blk_drew ?_ | refine blk_alloc ?_ _)); exact BK252.out) hb); have n4_ := Aside0.mk (below_step (hz4 HB.out GE237.out GE238.out GE245.out GE252.out) hb); clear BK237; clear BK238; clear BK245; clear BK252; clear HB; have BK237 := n0_; have BK238 := n1_; have BK245 := n2_; have BK252 := n3_; have HB := n4_; clear n0_ n1_ n2_ n3_ n4_; (try clear hb); (try clear hb2); (try clear hk); (try clear hi)))
  go_ret
  exact ⟨by first | rfl | (simp [errW_none, errW_some] <;> rfl) | (simp [*, errW_none, errW_some] <;> rfl), hz4 HB.out GE237.out GE238.out GE245.out GE252.out⟩
 ·replace c11 := Bool.eq_false_iff.mpr c11
  subst c11
  have H1 : (some false) = some r := by rw [if_neg (show ¬ (false = true) by decide)] at H; exact H
  clear H
  have H := H1
  clear H1
  obtain rfl := Option.some.inj H
  go_enter Try.func12, Try.ntmps12
  try go_wp2_with (first | ((with_reducible refine gate_dst (N := 4) rfl ?_); refine box_event ?hg (N := 4) ?hd (cs := #[.int .i64 a1_0, .int .i64 a1_1]) (t := 38) ?hr ?_; (case hd => rfl); (case hg => rfl); (case hr => first | (go_simp; done) | (go_simp; rfl)); intro gb237 hg w39 hbox hb; have n0_ := Aside0.mk (below_step (hz HB.out) hb); have n1_ := Aside0.mk (hbox); have n2_ := Aside0.mk ((by rw [hg]; exact (below_size (hz HB.out)) : w.heap.size ≤ gb237)); have n3_ := Aside0.mk ((by rw [hg]; exact (below_size (hz HB.out)) : w.heap.size ≤ gb237)); clear HB; have HB := n0_; have BK237 := n1_; have GW237 := n2_; have GE237 := n3_; clear n0_ n1_ n2_ n3_; clear hb hbox hg) | ((with_reducible refine gate_dst (N := 5) rfl ?_); refine box_event ?hg (N := 5) ?hd (cs := #[.int .i64 a2_0, .int .i64 a2_1]) (t := 38) ?hr ?_; (case hd => rfl); (case hg => rfl); (case hr => first | (go_simp; done) | (go_simp; rfl)); intro gb238 hg w40 hbox hb; have n0_ := Aside0.mk (blk_below (g := gb237) (o := .cells #[.int .i64 a1_0, .int .i64 a1_1] 38 (0, 0)) (bz BK237.out) hb); have n1_ := Aside0.mk (below_step (hz1 HB.out GE237.out) hb); have n2_ := Aside0.mk (hbox); have n3_ := Aside0.mk ((by rw [hg]; exact (below_size (hz1 HB.out GE237.out)) : w.heap.size ≤ gb238)); have n4_ := Aside0.mk ((by rw [hg]; exact (below_size (hz1 HB.out GE237.out)) : w.heap.size ≤ gb238)); have n5_ := Aside0.mk ((by rw [hg]; exact Nat.ne_of_lt (blk_lt (g := gb237) (o := .cells #[.int .i64 a1_0, .int .i64 a1_1] 38 (0, 0)) (bz BK237.out)) : gb237 ≠ gb238)); have n6_ := Aside0.mk ((by rw [hg]; exact Nat.ne_of_gt (blk_lt (g := gb237) (o := .cells #[.int .i64 a1_0, .int .i64 a1_1] 38 (0, 0)) (bz BK237.out)) : gb238 ≠ gb237)); clear BK237; clear HB; have BK237 := n0_; have HB := n1_; have BK238 := n2_; have GW238 := n3_; have GE238 := n4_; have NB237_238 := n5_; have NB238_237 := n6_; clear n0_ n1_ n2_ n3_ n4_ n5_ n6_; clear hb hbox hg))
  have n0_ := Aside0.mk (blk_drew BK237.out)
  have n1_ := Aside0.mk (blk_drew BK238.out)
  have n2_ := Aside0.mk (below_drew1 HB.out)
  clear BK237
  clear BK238
  clear HB
  have BK237 := n0_
  have BK238 := n1_
  have HB := n2_
  clear n0_ n1_ n2_
  refine start_ (n := 8) (S := fun w' => w'.cell? ⟨gb237, 0, none⟩ = some (.int .i64 a1_0) ∧ w'.cell? ⟨gb237, 1, none⟩ = some (.int .i64 a1_1) ∧ w'.cell? ⟨gb238, 0, none⟩ = some (.int .i64 a2_0) ∧ w'.cell? ⟨gb238, 1, none⟩ = some (.int .i64 a2_1)) (ds := []) #[false, false, false, false, false, false, false, false] (by kernel_rfl) rfl rfl ⟨(blk_cell BK237.out 0).trans rfl, (blk_cell BK237.out 1).trans rfl, (blk_cell BK238.out 0).trans rfl, (blk_cell BK238.out 1).trans rfl⟩ (fun hHeld => ?_); refine with_tabW laws_FnExactRestDo.tab1 laws_FnExactRestDo.bits1 (fun HT_ HW_ => ?_)
  generalize w40.drew = w41 at BK237 BK238 HB hHeld ⊢
  refine pure_ (i := 0) (N := some 9) (v := ?_) (a' := ?_) #[true, false, false, false, false, false, false, false] rfl rfl (any_of HT_.out (by kernel_rfl)) (fun _ _ _ h => h) (Or.inl ⟨by rfl, ?_⟩) ?_ ?_
  rotate_left
  ·intro w'
   go_simp
   with_reducible rfl
  rotate_left
  ·exact pz
  refine take_ (i := 1) (N := some 10) (v := ?_) (a' := ?_) #[true, true, false, false, false, false, false, false] rfl rfl (take_ofW HT_.out HW_.out (by kernel_rfl)) (fun _ _ _ h => h) (Or.inl ⟨by rfl, ?_⟩) hHeld ?_ ?_
  rotate_left
  ·rintro w' ⟨s0, s1, s2, s3⟩
   go_simp
   with_reducible rfl
  rotate_left
  ·exact pz
  refine take_ (i := 3) (N := some 12) (v := ?_) (a' := ?_) #[true, true, false, true, false, false, false, false] rfl rfl (take_ofW HT_.out HW_.out (by kernel_rfl)) (fun _ _ _ h => h) (Or.inl ⟨by rfl, ?_⟩) hHeld ?_ ?_
  rotate_left
  ·rintro w' ⟨s0, s1, s2, s3⟩
   go_simp
   with_reducible rfl
  rotate_left
  ·exact pz
  refine join_ (σ := Nat) 1 #[true, true, true, true, true, true, true, false] (fun s_ => [(11, .agg #[.int .i64 t239, .int .i64 t240]), (13, .agg #[.int .i64 t241, .int .i64 t242]), (14, .agg #[.int .i64 t243, .int .i64 t244]), (7, .pointer (some ⟨s_, 0, none⟩))]) (fun s_ w' => (w'.cell? ⟨gb237, 0, none⟩ = some (.int .i64 a1_0) ∧ w'.cell? ⟨gb237, 1, none⟩ = some (.int .i64 a1_1) ∧ w'.cell? ⟨gb238, 0, none⟩ = some (.int .i64 a2_0) ∧ w'.cell? ⟨gb238, 1, none⟩ = some (.int .i64 a2_1)) ∧ (w'.heap[gb237]? = some (.cells #[.int .i64 a1_0, .int .i64 a1_1] 38 (0, 0))) ∧ (w'.heap[gb238]? = some (.cells #[.int .i64 a2_0, .int .i64 a2_1] 38 (0, 0))) ∧ (w'.heap[s_]? = some (.cells #[.int .i64 0, .int .i64 0] 40 (0, 0))) ∧ (w.heap.size ≤ s_) ∧ (w.heap.size ≤ s_) ∧ (gb237 ≠ s_) ∧ (s_ ≠ gb237) ∧ (gb238 ≠ s_) ∧ (s_ ≠ gb238) ∧ (Below w.heap.size w w')) ?_ ?_
  rotate_left
  ·intro hCont
   refine two_ (i := 2) (j := 6) (Ni := some 11) (Nj := some 7) #[true, true, true, true, false, false, false, false] #[true, true, false, true, false, false, true, false] rfl rfl rfl rfl (two_of HT_.out (by kernel_rfl)) (by decide) (by decide) (fun K hK => ?_) (fun K hK => ?_)
   ·skip
    refine goes_ Try.func28 (by kernel_rfl) rfl #[.agg #[.int .i64 a1_0, .int .i64 a1_1]] (by rfl) rfl rfl mz ?_
    with_reducible refine (laws_toRest.calls a1_0 a1_1 t239 t240 _ A4.out).mono ?_
    rintro e w42 ⟨rfl, hb⟩
    refine ⟨_, rfl, ?_⟩
    have n0_ := Aside0.mk (blk_below (g := gb237) (o := .cells #[.int .i64 a1_0, .int .i64 a1_1] 38 (0, 0)) (bz BK237.out) hb)
    have n1_ := Aside0.mk (blk_below (g := gb238) (o := .cells #[.int .i64 a2_0, .int .i64 a2_1] 38 (0, 0)) (bz BK238.out) hb)
    have n2_ := Aside0.mk (below_step (hz2 HB.out GE237.out GE238.out) hb)
    clear BK237
    clear BK238
    clear HB
    have BK237 := n0_
    have BK238 := n1_
    have HB := n2_
    clear n0_ n1_ n2_
    (try clear hb)
    (try clear hb2)
    (try clear hk)
    (try clear hi)
    refine hK.out _ _ ⟨(blk_cell BK237.out 0).trans rfl, (blk_cell BK237.out 1).trans rfl, (blk_cell BK238.out 0).trans rfl, (blk_cell BK238.out 1).trans rfl⟩ (fun hHeld => ?_)
    clear hK K
    refine norm_ (a' := ?_) ?_ ?_
    rotate_left
    ·show Act.put _ (some 11) _ = _
     simp only [Act.put, List.setIfInBounds_toArray, List.set_cons_zero, List.set_cons_succ, i64_w, i32_w]
     rfl
    refine two_ (i := 4) (j := 6) (Ni := some 13) (Nj := some 7) #[true, true, true, true, true, false, false, false] #[true, true, true, true, false, false, true, false] rfl rfl rfl rfl (two_of HT_.out (by kernel_rfl)) (by decide) (by decide) (fun K hK => ?_) (fun K hK => ?_)
    ·skip
     refine goes_ Try.func28 (by kernel_rfl) rfl #[.agg #[.int .i64 a2_0, .int .i64 a2_1]] (by rfl) rfl rfl mz ?_
     with_reducible refine (laws_toRest.calls a2_0 a2_1 t241 t242 _ A5.out).mono ?_
     rintro e w43 ⟨rfl, hb⟩
     refine ⟨_, rfl, ?_⟩
     have n0_ := Aside0.mk (blk_below (g := gb237) (o := .cells #[.int .i64 a1_0, .int .i64 a1_1] 38 (0, 0)) (bz BK237.out) hb)
     have n1_ := Aside0.mk (blk_below (g := gb238) (o := .cells #[.int .i64 a2_0, .int .i64 a2_1] 38 (0, 0)) (bz BK238.out) hb)
     have n2_ := Aside0.mk (below_step (hz2 HB.out GE237.out GE238.out) hb)
     clear BK237
     clear BK238
     clear HB
     have BK237 := n0_
     have BK238 := n1_
     have HB := n2_
     clear n0_ n1_ n2_
     (try clear hb)
     (try clear hb2)
     (try clear hk)
     (try clear hi)
     refine hK.out _ _ ⟨(blk_cell BK237.out 0).trans rfl, (blk_cell BK237.out 1).trans rfl, (blk_cell BK238.out 0).trans rfl, (blk_cell BK238.out 1).trans rfl⟩ (fun hHeld => ?_)
     clear hK K
     refine norm_ (a' := ?_) ?_ ?_
     rotate_left
     ·show Act.put _ (some 13) _ = _
      simp only [Act.put, List.setIfInBounds_toArray, List.set_cons_zero, List.set_cons_succ, i64_w, i32_w]
      rfl
     refine two_ (i := 5) (j := 6) (Ni := some 14) (Nj := some 7) #[true, true, true, true, true, true, false, false] #[true, true, true, true, true, false, true, false] rfl rfl rfl rfl (two_of HT_.out (by kernel_rfl)) (by decide) (by decide) (fun K hK => ?_) (fun K hK => ?_)
     ·skip
      refine goes_ Try.func39 (by kernel_rfl) rfl #[.int .i64 a0, .agg #[.int .i64 t239, .int .i64 t240], .agg #[.int .i64 t241, .int .i64 t242]] (by rfl) rfl rfl mz ?_
      with_reducible refine (spec_RestDo.calls k a0 t239 t240 t241 t242 t243 t244 _ A6.out).mono ?_
      rintro e w44 ⟨rfl, hb⟩
      refine ⟨_, rfl, ?_⟩
      have n0_ := Aside0.mk (blk_below (g := gb237) (o := .cells #[.int .i64 a1_0, .int .i64 a1_1] 38 (0, 0)) (bz BK237.out) hb)
      have n1_ := Aside0.mk (blk_below (g := gb238) (o := .cells #[.int .i64 a2_0, .int .i64 a2_1] 38 (0, 0)) (bz BK238.out) hb)
      have n2_ := Aside0.mk (below_step (hz2 HB.out GE237.out GE238.out) hb)
      clear BK237
      clear BK238
      clear HB
      have BK237 := n0_
      have BK238 := n1_
      have HB := n2_
      clear n0_ n1_ n2_
      (try clear hb)
      (try clear hb2)
      (try clear hk)
      (try clear hi)
      refine hK.out _ _ ⟨(blk_cell BK237.out 0).trans rfl, (blk_cell BK237.out 1).trans rfl, (blk_cell BK238.out 0).trans rfl, (blk_cell BK238.out 1).trans rfl⟩ (fun hHeld => ?_)
      clear hK K
      refine norm_ (a' := ?_) ?_ ?_
      rotate_left
      ·show Act.put _ (some 14) _ = _
       simp only [Act.put, List.setIfInBounds_toArray, List.set_cons_zero, List.set_cons_succ, i64_w, i32_w]
       rfl
      refine one_ (i := 6) (N := some 7) #[true, true, true, true, true, true, true, false] rfl rfl (one_of HT_.out (by kernel_rfl)) (by decide) (fun K hK => ?_)
      refine box_step ?hg (N := 7) ?hd (cs := #[.int .i64 0, .int .i64 0]) (t := 40) ?hr ?_; (case hd => rfl); (case hg => rfl); (case hr => first | (go_simp; done) | (go_simp; rfl))
      intro gb245 hg w45 hbox hb
      have n0_ := Aside0.mk (blk_below (g := gb237) (o := .cells #[.int .i64 a1_0, .int .i64 a1_1] 38 (0, 0)) (bz BK237.out) hb)
      have n1_ := Aside0.mk (blk_below (g := gb238) (o := .cells #[.int .i64 a2_0, .int .i64 a2_1] 38 (0, 0)) (bz BK238.out) hb)
      have n2_ := Aside0.mk (below_step (hz2 HB.out GE237.out GE238.out) hb)
      have n3_ := Aside0.mk (hbox)
      have n4_ := Aside0.mk ((by rw [hg]; exact (below_size (hz2 HB.out GE237.out GE238.out)) : w.heap.size ≤ gb245))
      have n5_ := Aside0.mk ((by rw [hg]; exact (below_size (hz2 HB.out GE237.out GE238.out)) : w.heap.size ≤ gb245))
      have n6_ := Aside0.mk ((by rw [hg]; exact Nat.ne_of_lt (blk_lt (g := gb237) (o := .cells #[.int .i64 a1_0, .int .i64 a1_1] 38 (0, 0)) (bz BK237.out)) : gb237 ≠ gb245))
      have n7_ := Aside0.mk ((by rw [hg]; exact Nat.ne_of_gt (blk_lt (g := gb237) (o := .cells #[.int .i64 a1_0, .int .i64 a1_1] 38 (0, 0)) (bz BK237.out)) : gb245 ≠ gb237))
      have n8_ := Aside0.mk ((by rw [hg]; exact Nat.ne_of_lt (blk_lt (g := gb238) (o := .cells #[.int .i64 a2_0, .int .i64 a2_1] 38 (0, 0)) (bz BK238.out)) : gb238 ≠ gb245))
      have n9_ := Aside0.mk ((by rw [hg]; exact Nat.ne_of_gt (blk_lt (g := gb238) (o := .cells #[.int .i64 a2_0, .int .i64 a2_1] 38 (0, 0)) (bz BK238.out)) : gb245 ≠ gb238))
      clear BK237
      clear BK238
      clear HB
      have BK237 := n0_
      have BK238 := n1_
      have HB := n2_
      have BK245 := n3_
      have GW245 := n4_
      have GE245 := n5_
      have NB237_245 := n6_
      have NB245_237 := n7_
      have NB238_245 := n8_
      have NB245_238 := n9_
      clear n0_ n1_ n2_ n3_ n4_ n5_ n6_ n7_ n8_ n9_
      clear hb hbox hg
      refine hK.out _ _ ⟨(blk_cell BK237.out 0).trans rfl, (blk_cell BK237.out 1).trans rfl, (blk_cell BK238.out 0).trans rfl, (blk_cell BK238.out 1).trans rfl⟩ (fun hHeld => ?_)
      clear hK K
      refine norm_ (a' := ?_) ?_ ?_
      rotate_left
      ·show Act.put _ (some 7) _ = _
       simp only [Act.put, List.setIfInBounds_toArray, List.set_cons_zero, List.set_cons_succ, i64_w, i32_w]
       rfl
      exact norm_ (by simp only [putAll, Act.put, List.setIfInBounds_toArray, List.set_cons_zero, List.set_cons_succ]) (hCont (gb245) _ ⟨hHeld, (bz BK237.out), (bz BK238.out), (bz BK245.out), GW245.out, GE245.out, NB237_245.out, NB245_237.out, NB238_245.out, NB245_238.out, (hz3 HB.out GE237.out GE238.out GE245.out)⟩)
     ·skip
      refine box_step ?hg (N := 7) ?hd (cs := #[.int .i64 0, .int .i64 0]) (t := 40) ?hr ?_; (case hd => rfl); (case hg => rfl); (case hr => first | (go_simp; done) | (go_simp; rfl))
      intro gb245 hg w44 hbox hb
      have n0_ := Aside0.mk (blk_below (g := gb237) (o := .cells #[.int .i64 a1_0, .int .i64 a1_1] 38 (0, 0)) (bz BK237.out) hb)
      have n1_ := Aside0.mk (blk_below (g := gb238) (o := .cells #[.int .i64 a2_0, .int .i64 a2_1] 38 (0, 0)) (bz BK238.out) hb)
      have n2_ := Aside0.mk (below_step (hz2 HB.out GE237.out GE238.out) hb)
      have n3_ := Aside0.mk (hbox)
      have n4_ := Aside0.mk ((by rw [hg]; exact (below_size (hz2 HB.out GE237.out GE238.out)) : w.heap.size ≤ gb245))
      have n5_ := Aside0.mk ((by rw [hg]; exact (below_size (hz2 HB.out GE237.out GE238.out)) : w.heap.size ≤ gb245))
      have n6_ := Aside0.mk ((by rw [hg]; exact Nat.ne_of_lt (blk_lt (g := gb237) (o := .cells #[.int .i64 a1_0, .int .i64 a1_1] 38 (0, 0)) (bz BK237.out)) : gb237 ≠ gb245))
      have n7_ := Aside0.mk ((by rw [hg]; exact Nat.ne_of_gt (blk_lt (g := gb237) (o := .cells #[.int .i64 a1_0, .int .i64 a1_1] 38 (0, 0)) (bz BK237.out)) : gb245 ≠ gb237))
      have n8_ := Aside0.mk ((by rw [hg]; exact Nat.ne_of_lt (blk_lt (g := gb238) (o := .cells #[.int .i64 a2_0, .int .i64 a2_1] 38 (0, 0)) (bz BK238.out)) : gb238 ≠ gb245))
      have n9_ := Aside0.mk ((by rw [hg]; exact Nat.ne_of_gt (blk_lt (g := gb238) (o := .cells #[.int .i64 a2_0, .int .i64 a2_1] 38 (0, 0)) (bz BK238.out)) : gb245 ≠ gb238))
      clear BK237
      clear BK238
      clear HB
      have BK237 := n0_
      have BK238 := n1_
      have HB := n2_
      have BK245 := n3_
      have GW245 := n4_
      have GE245 := n5_
      have NB237_245 := n6_
      have NB245_237 := n7_
      have NB238_245 := n8_
      have NB245_238 := n9_
      clear n0_ n1_ n2_ n3_ n4_ n5_ n6_ n7_ n8_ n9_
      clear hb hbox hg
      refine hK.out _ _ ⟨(blk_cell BK237.out 0).trans rfl, (blk_cell BK237.out 1).trans rfl, (blk_cell BK238.out 0).trans rfl, (blk_cell BK238.out 1).trans rfl⟩ (fun hHeld => ?_)
      clear hK K
      refine norm_ (a' := ?_) ?_ ?_
      rotate_left
      ·show Act.put _ (some 7) _ = _
       simp only [Act.put, List.setIfInBounds_toArray, List.set_cons_zero, List.set_cons_succ, i64_w, i32_w]
       rfl
      refine one_ (i := 5) (N := some 14) #[true, true, true, true, true, true, true, false] rfl rfl (one_of HT_.out (by kernel_rfl)) (by decide) (fun K hK => ?_)
      refine goes_ Try.func39 (by kernel_rfl) rfl #[.int .i64 a0, .agg #[.int .i64 t239, .int .i64 t240], .agg #[.int .i64 t241, .int .i64 t242]] (by rfl) rfl rfl mz ?_
      with_reducible refine (spec_RestDo.calls k a0 t239 t240 t241 t242 t243 t244 _ A6.out).mono ?_
      rintro e w45 ⟨rfl, hb⟩
      refine ⟨_, rfl, ?_⟩
      have n0_ := Aside0.mk (blk_below (g := gb237) (o := .cells #[.int .i64 a1_0, .int .i64 a1_1] 38 (0, 0)) (bz BK237.out) hb)
      have n1_ := Aside0.mk (blk_below (g := gb238) (o := .cells #[.int .i64 a2_0, .int .i64 a2_1] 38 (0, 0)) (bz BK238.out) hb)
      have n2_ := Aside0.mk (blk_below (g := gb245) (o := .cells #[.int .i64 0, .int .i64 0] 40 (0, 0)) (bz BK245.out) hb)
      have n3_ := Aside0.mk (below_step (hz3 HB.out GE237.out GE238.out GE245.out) hb)
      clear BK237
      clear BK238
      clear BK245
      clear HB
      have BK237 := n0_
      have BK238 := n1_
      have BK245 := n2_
      have HB := n3_
      clear n0_ n1_ n2_ n3_
      (try clear hb)
      (try clear hb2)
      (try clear hk)
      (try clear hi)
      refine hK.out _ _ ⟨(blk_cell BK237.out 0).trans rfl, (blk_cell BK237.out 1).trans rfl, (blk_cell BK238.out 0).trans rfl, (blk_cell BK238.out 1).trans rfl⟩ (fun hHeld => ?_)
      clear hK K
      refine norm_ (a' := ?_) ?_ ?_
      rotate_left
      ·show Act.put _ (some 14) _ = _
       simp only [Act.put, List.setIfInBounds_toArray, List.set_cons_zero, List.set_cons_succ, i64_w, i32_w]
       rfl
      exact norm_ (by simp only [putAll, Act.put, List.setIfInBounds_toArray, List.set_cons_zero, List.set_cons_succ]) (hCont (gb245) _ ⟨hHeld, (bz BK237.out), (bz BK238.out), (bz BK245.out), GW245.out, GE245.out, NB237_245.out, NB245_237.out, NB238_245.out, NB245_238.out, (hz3 HB.out GE237.out GE238.out GE245.out)⟩)
    ·skip
     refine box_step ?hg (N := 7) ?hd (cs := #[.int .i64 0, .int .i64 0]) (t := 40) ?hr ?_; (case hd => rfl); (case hg => rfl); (case hr => first | (go_simp; done) | (go_simp; rfl))
     intro gb245 hg w43 hbox hb
     have n0_ := Aside0.mk (blk_below (g := gb237) (o := .cells #[.int .i64 a1_0, .int .i64 a1_1] 38 (0, 0)) (bz BK237.out) hb)
     have n1_ := Aside0.mk (blk_below (g := gb238) (o := .cells #[.int .i64 a2_0, .int .i64 a2_1] 38 (0, 0)) (bz BK238.out) hb)
     have n2_ := Aside0.mk (below_step (hz2 HB.out GE237.out GE238.out) hb)
     have n3_ := Aside0.mk (hbox)
     have n4_ := Aside0.mk ((by rw [hg]; exact (below_size (hz2 HB.out GE237.out GE238.out)) : w.heap.size ≤ gb245))
     have n5_ := Aside0.mk ((by rw [hg]; exact (below_size (hz2 HB.out GE237.out GE238.out)) : w.heap.size ≤ gb245))
     have n6_ := Aside0.mk ((by rw [hg]; exact Nat.ne_of_lt (blk_lt (g := gb237) (o := .cells #[.int .i64 a1_0, .int .i64 a1_1] 38 (0, 0)) (bz BK237.out)) : gb237 ≠ gb245))
     have n7_ := Aside0.mk ((by rw [hg]; exact Nat.ne_of_gt (blk_lt (g := gb237) (o := .cells #[.int .i64 a1_0, .int .i64 a1_1] 38 (0, 0)) (bz BK237.out)) : gb245 ≠ gb237))
     have n8_ := Aside0.mk ((by rw [hg]; exact Nat.ne_of_lt (blk_lt (g := gb238) (o := .cells #[.int .i64 a2_0, .int .i64 a2_1] 38 (0, 0)) (bz BK238.out)) : gb238 ≠ gb245))
     have n9_ := Aside0.mk ((by rw [hg]; exact Nat.ne_of_gt (blk_lt (g := gb238) (o := .cells #[.int .i64 a2_0, .int .i64 a2_1] 38 (0, 0)) (bz BK238.out)) : gb245 ≠ gb238))
     clear BK237
     clear BK238
     clear HB
     have BK237 := n0_
     have BK238 := n1_
     have HB := n2_
     have BK245 := n3_
     have GW245 := n4_
     have GE245 := n5_
     have NB237_245 := n6_
     have NB245_237 := n7_
     have NB238_245 := n8_
     have NB245_238 := n9_
     clear n0_ n1_ n2_ n3_ n4_ n5_ n6_ n7_ n8_ n9_
     clear hb hbox hg
     refine hK.out _ _ ⟨(blk_cell BK237.out 0).trans rfl, (blk_cell BK237.out 1).trans rfl, (blk_cell BK238.out 0).trans rfl, (blk_cell BK238.out 1).trans rfl⟩ (fun hHeld => ?_)
     clear hK K
     refine norm_ (a' := ?_) ?_ ?_
     rotate_left
     ·show Act.put _ (some 7) _ = _
      simp only [Act.put, List.setIfInBounds_toArray, List.set_cons_zero, List.set_cons_succ, i64_w, i32_w]
      rfl
     refine one_ (i := 4) (N := some 13) #[true, true, true, true, true, false, true, false] rfl rfl (one_of HT_.out (by kernel_rfl)) (by decide) (fun K hK => ?_)
     refine goes_ Try.func28 (by kernel_rfl) rfl #[.agg #[.int .i64 a2_0, .int .i64 a2_1]] (by rfl) rfl rfl mz ?_
     with_reducible refine (laws_toRest.calls a2_0 a2_1 t241 t242 _ A5.out).mono ?_
     rintro e w44 ⟨rfl, hb⟩
     refine ⟨_, rfl, ?_⟩
     have n0_ := Aside0.mk (blk_below (g := gb237) (o := .cells #[.int .i64 a1_0, .int .i64 a1_1] 38 (0, 0)) (bz BK237.out) hb)
     have n1_ := Aside0.mk (blk_below (g := gb238) (o := .cells #[.int .i64 a2_0, .int .i64 a2_1] 38 (0, 0)) (bz BK238.out) hb)
     have n2_ := Aside0.mk (blk_below (g := gb245) (o := .cells #[.int .i64 0, .int .i64 0] 40 (0, 0)) (bz BK245.out) hb)
     have n3_ := Aside0.mk (below_step (hz3 HB.out GE237.out GE238.out GE245.out) hb)
     clear BK237
     clear BK238
     clear BK245
     clear HB
     have BK237 := n0_
     have BK238 := n1_
     have BK245 := n2_
     have HB := n3_
     clear n0_ n1_ n2_ n3_
     (try clear hb)
     (try clear hb2)
     (try clear hk)
     (try clear hi)
     refine hK.out _ _ ⟨(blk_cell BK237.out 0).trans rfl, (blk_cell BK237.out 1).trans rfl, (blk_cell BK238.out 0).trans rfl, (blk_cell BK238.out 1).trans rfl⟩ (fun hHeld => ?_)
     clear hK K
     refine norm_ (a' := ?_) ?_ ?_
     rotate_left
     ·show Act.put _ (some 13) _ = _
      simp only [Act.put, List.setIfInBounds_toArray, List.set_cons_zero, List.set_cons_succ, i64_w, i32_w]
      rfl
     refine one_ (i := 5) (N := some 14) #[true, true, true, true, true, true, true, false] rfl rfl (one_of HT_.out (by kernel_rfl)) (by decide) (fun K hK => ?_)
     refine goes_ Try.func39 (by kernel_rfl) rfl #[.int .i64 a0, .agg #[.int .i64 t239, .int .i64 t240], .agg #[.int .i64 t241, .int .i64 t242]] (by rfl) rfl rfl mz ?_
     with_reducible refine (spec_RestDo.calls k a0 t239 t240 t241 t242 t243 t244 _ A6.out).mono ?_
     rintro e w45 ⟨rfl, hb⟩
     refine ⟨_, rfl, ?_⟩
     have n0_ := Aside0.mk (blk_below (g := gb237) (o := .cells #[.int .i64 a1_0, .int .i64 a1_1] 38 (0, 0)) (bz BK237.out) hb)
     have n1_ := Aside0.mk (blk_below (g := gb238) (o := .cells #[.int .i64 a2_0, .int .i64 a2_1] 38 (0, 0)) (bz BK238.out) hb)
     have n2_ := Aside0.mk (blk_below (g := gb245) (o := .cells #[.int .i64 0, .int .i64 0] 40 (0, 0)) (bz BK245.out) hb)
     have n3_ := Aside0.mk (below_step (hz3 HB.out GE237.out GE238.out GE245.out) hb)
     clear BK237
     clear BK238
     clear BK245
     clear HB
     have BK237 := n0_
     have BK238 := n1_
     have BK245 := n2_
     have HB := n3_
     clear n0_ n1_ n2_ n3_
     (try clear hb)
     (try clear hb2)
     (try clear hk)
     (try clear hi)
     refine hK.out _ _ ⟨(blk_cell BK237.out 0).trans rfl, (blk_cell BK237.out 1).trans rfl, (blk_cell BK238.out 0).trans rfl, (blk_cell BK238.out 1).trans rfl⟩ (fun hHeld => ?_)
     clear hK K
     refine norm_ (a' := ?_) ?_ ?_
     rotate_left
     ·show Act.put _ (some 14) _ = _
      simp only [Act.put, List.setIfInBounds_toArray, List.set_cons_zero, List.set_cons_succ, i64_w, i32_w]
      rfl
     exact norm_ (by simp only [putAll, Act.put, List.setIfInBounds_toArray, List.set_cons_zero, List.set_cons_succ]) (hCont (gb245) _ ⟨hHeld, (bz BK237.out), (bz BK238.out), (bz BK245.out), GW245.out, GE245.out, NB237_245.out, NB245_237.out, NB238_245.out, NB245_238.out, (hz3 HB.out GE237.out GE238.out GE245.out)⟩)
   ·skip
    refine box_step ?hg (N := 7) ?hd (cs := #[.int .i64 0, .int .i64 0]) (t := 40) ?hr ?_; (case hd => rfl); (case hg => rfl); (case hr => first | (go_simp; done) | (go_simp; rfl))
    intro gb245 hg w42 hbox hb
    have n0_ := Aside0.mk (blk_below (g := gb237) (o := .cells #[.int .i64 a1_0, .int .i64 a1_1] 38 (0, 0)) (bz BK237.out) hb)
    have n1_ := Aside0.mk (blk_below (g := gb238) (o := .cells #[.int .i64 a2_0, .int .i64 a2_1] 38 (0, 0)) (bz BK238.out) hb)
    have n2_ := Aside0.mk (below_step (hz2 HB.out GE237.out GE238.out) hb)
    have n3_ := Aside0.mk (hbox)
    have n4_ := Aside0.mk ((by rw [hg]; exact (below_size (hz2 HB.out GE237.out GE238.out)) : w.heap.size ≤ gb245))
    have n5_ := Aside0.mk ((by rw [hg]; exact (below_size (hz2 HB.out GE237.out GE238.out)) : w.heap.size ≤ gb245))
    have n6_ := Aside0.mk ((by rw [hg]; exact Nat.ne_of_lt (blk_lt (g := gb237) (o := .cells #[.int .i64 a1_0, .int .i64 a1_1] 38 (0, 0)) (bz BK237.out)) : gb237 ≠ gb245))
    have n7_ := Aside0.mk ((by rw [hg]; exact Nat.ne_of_gt (blk_lt (g := gb237) (o := .cells #[.int .i64 a1_0, .int .i64 a1_1] 38 (0, 0)) (bz BK237.out)) : gb245 ≠ gb237))
    have n8_ := Aside0.mk ((by rw [hg]; exact Nat.ne_of_lt (blk_lt (g := gb238) (o := .cells #[.int .i64 a2_0, .int .i64 a2_1] 38 (0, 0)) (bz BK238.out)) : gb238 ≠ gb245))
    have n9_ := Aside0.mk ((by rw [hg]; exact Nat.ne_of_gt (blk_lt (g := gb238) (o := .cells #[.int .i64 a2_0, .int .i64 a2_1] 38 (0, 0)) (bz BK238.out)) : gb245 ≠ gb238))
    clear BK237
    clear BK238
    clear HB
    have BK237 := n0_
    have BK238 := n1_
    have HB := n2_
    have BK245 := n3_
    have GW245 := n4_
    have GE245 := n5_
    have NB237_245 := n6_
    have NB245_237 := n7_
    have NB238_245 := n8_
    have NB245_238 := n9_
    clear n0_ n1_ n2_ n3_ n4_ n5_ n6_ n7_ n8_ n9_
    clear hb hbox hg
    refine hK.out _ _ ⟨(blk_cell BK237.out 0).trans rfl, (blk_cell BK237.out 1).trans rfl, (blk_cell BK238.out 0).trans rfl, (blk_cell BK238.out 1).trans rfl⟩ (fun hHeld => ?_)
    clear hK K
    refine norm_ (a' := ?_) ?_ ?_
    rotate_left
    ·show Act.put _ (some 7) _ = _
     simp only [Act.put, List.setIfInBounds_toArray, List.set_cons_zero, List.set_cons_succ, i64_w, i32_w]
     rfl
    refine one_ (i := 2) (N := some 11) #[true, true, true, true, false, false, true, false] rfl rfl (one_of HT_.out (by kernel_rfl)) (by decide) (fun K hK => ?_)
    refine goes_ Try.func28 (by kernel_rfl) rfl #[.agg #[.int .i64 a1_0, .int .i64 a1_1]] (by rfl) rfl rfl mz ?_
    with_reducible refine (laws_toRest.calls a1_0 a1_1 t239 t240 _ A4.out).mono ?_
    rintro e w43 ⟨rfl, hb⟩
    refine ⟨_, rfl, ?_⟩
    have n0_ := Aside0.mk (blk_below (g := gb237) (o := .cells #[.int .i64 a1_0, .int .i64 a1_1] 38 (0, 0)) (bz BK237.out) hb)
    have n1_ := Aside0.mk (blk_below (g := gb238) (o := .cells #[.int .i64 a2_0, .int .i64 a2_1] 38 (0, 0)) (bz BK238.out) hb)
    have n2_ := Aside0.mk (blk_below (g := gb245) (o := .cells #[.int .i64 0, .int .i64 0] 40 (0, 0)) (bz BK245.out) hb)
    have n3_ := Aside0.mk (below_step (hz3 HB.out GE237.out GE238.out GE245.out) hb)
    clear BK237
    clear BK238
    clear BK245
    clear HB
    have BK237 := n0_
    have BK238 := n1_
    have BK245 := n2_
    have HB := n3_
    clear n0_ n1_ n2_ n3_
    (try clear hb)
    (try clear hb2)
    (try clear hk)
    (try clear hi)
    refine hK.out _ _ ⟨(blk_cell BK237.out 0).trans rfl, (blk_cell BK237.out 1).trans rfl, (blk_cell BK238.out 0).trans rfl, (blk_cell BK238.out 1).trans rfl⟩ (fun hHeld => ?_)
    clear hK K
    refine norm_ (a' := ?_) ?_ ?_
    rotate_left
    ·show Act.put _ (some 11) _ = _
     simp only [Act.put, List.setIfInBounds_toArray, List.set_cons_zero, List.set_cons_succ, i64_w, i32_w]
     rfl
    refine one_ (i := 4) (N := some 13) #[true, true, true, true, true, false, true, false] rfl rfl (one_of HT_.out (by kernel_rfl)) (by decide) (fun K hK => ?_)
    refine goes_ Try.func28 (by kernel_rfl) rfl #[.agg #[.int .i64 a2_0, .int .i64 a2_1]] (by rfl) rfl rfl mz ?_
    with_reducible refine (laws_toRest.calls a2_0 a2_1 t241 t242 _ A5.out).mono ?_
    rintro e w44 ⟨rfl, hb⟩
    refine ⟨_, rfl, ?_⟩
    have n0_ := Aside0.mk (blk_below (g := gb237) (o := .cells #[.int .i64 a1_0, .int .i64 a1_1] 38 (0, 0)) (bz BK237.out) hb)
    have n1_ := Aside0.mk (blk_below (g := gb238) (o := .cells #[.int .i64 a2_0, .int .i64 a2_1] 38 (0, 0)) (bz BK238.out) hb)
    have n2_ := Aside0.mk (blk_below (g := gb245) (o := .cells #[.int .i64 0, .int .i64 0] 40 (0, 0)) (bz BK245.out) hb)
    have n3_ := Aside0.mk (below_step (hz3 HB.out GE237.out GE238.out GE245.out) hb)
    clear BK237
    clear BK238
    clear BK245
    clear HB
    have BK237 := n0_
    have BK238 := n1_
    have BK245 := n2_
    have HB := n3_
    clear n0_ n1_ n2_ n3_
    (try clear hb)
    (try clear hb2)
    (try clear hk)
    (try clear hi)
    refine hK.out _ _ ⟨(blk_cell BK237.out 0).trans rfl, (blk_cell BK237.out 1).trans rfl, (blk_cell BK238.out 0).trans rfl, (blk_cell BK238.out 1).trans rfl⟩ (fun hHeld => ?_)
    clear hK K
    refine norm_ (a' := ?_) ?_ ?_
    rotate_left
    ·show Act.put _ (some 13) _ = _
     simp only [Act.put, List.setIfInBounds_toArray, List.set_cons_zero, List.set_cons_succ, i64_w, i32_w]
     rfl
    refine one_ (i := 5) (N := some 14) #[true, true, true, true, true, true, true, false] rfl rfl (one_of HT_.out (by kernel_rfl)) (by decide) (fun K hK => ?_)
    refine goes_ Try.func39 (by kernel_rfl) rfl #[.int .i64 a0, .agg #[.int .i64 t239, .int .i64 t240], .agg #[.int .i64 t241, .int .i64 t242]] (by rfl) rfl rfl mz ?_
    with_reducible refine (spec_RestDo.calls k a0 t239 t240 t241 t242 t243 t244 _ A6.out).mono ?_
    rintro e w45 ⟨rfl, hb⟩
    refine ⟨_, rfl, ?_⟩
    have n0_ := Aside0.mk (blk_below (g := gb237) (o := .cells #[.int .i64 a1_0, .int .i64 a1_1] 38 (0, 0)) (bz BK237.out) hb)
    have n1_ := Aside0.mk (blk_below (g := gb238) (o := .cells #[.int .i64 a2_0, .int .i64 a2_1] 38 (0, 0)) (bz BK238.out) hb)
    have n2_ := Aside0.mk (blk_below (g := gb245) (o := .cells #[.int .i64 0, .int .i64 0] 40 (0, 0)) (bz BK245.out) hb)
    have n3_ := Aside0.mk (below_step (hz3 HB.out GE237.out GE238.out GE245.out) hb)
    clear BK237
    clear BK238
    clear BK245
    clear HB
    have BK237 := n0_
    have BK238 := n1_
    have BK245 := n2_
    have HB := n3_
    clear n0_ n1_ n2_ n3_
    (try clear hb)
    (try clear hb2)
    (try clear hk)
    (try clear hi)
    refine hK.out _ _ ⟨(blk_cell BK237.out 0).trans rfl, (blk_cell BK237.out 1).trans rfl, (blk_cell BK238.out 0).trans rfl, (blk_cell BK238.out 1).trans rfl⟩ (fun hHeld => ?_)
    clear hK K
    refine norm_ (a' := ?_) ?_ ?_
    rotate_left
    ·show Act.put _ (some 14) _ = _
     simp only [Act.put, List.setIfInBounds_toArray, List.set_cons_zero, List.set_cons_succ, i64_w, i32_w]
     rfl
    exact norm_ (by simp only [putAll, Act.put, List.setIfInBounds_toArray, List.set_cons_zero, List.set_cons_succ]) (hCont (gb245) _ ⟨hHeld, (bz BK237.out), (bz BK238.out), (bz BK245.out), GW245.out, GE245.out, NB237_245.out, NB245_237.out, NB238_245.out, NB245_238.out, (hz3 HB.out GE237.out GE238.out GE245.out)⟩)
  rintro gb245 w46 ⟨hS_, h0_, h1_, h2_, h3_, h4_, h5_, h6_, h7_, h8_, h9_⟩
  have n0_ : Aside0 (w46.heap[gb237]? = some (.cells #[.int .i64 a1_0, .int .i64 a1_1] 38 (0, 0))) := ⟨h0_⟩
  have n1_ : Aside0 (w46.heap[gb238]? = some (.cells #[.int .i64 a2_0, .int .i64 a2_1] 38 (0, 0))) := ⟨h1_⟩
  have n2_ : Aside0 (w46.heap[gb245]? = some (.cells #[.int .i64 0, .int .i64 0] 40 (0, 0))) := ⟨h2_⟩
  have n3_ : Aside0 (w.heap.size ≤ gb245) := ⟨h3_⟩
  have n4_ : Aside0 (w.heap.size ≤ gb245) := ⟨h4_⟩
  have n5_ : Aside0 (gb237 ≠ gb245) := ⟨h5_⟩
  have n6_ : Aside0 (gb245 ≠ gb237) := ⟨h6_⟩
  have n7_ : Aside0 (gb238 ≠ gb245) := ⟨h7_⟩
  have n8_ : Aside0 (gb245 ≠ gb238) := ⟨h8_⟩
  have n9_ : Aside0 (Below w.heap.size w w46) := ⟨h9_⟩
  clear BK237
  clear BK238
  clear HB
  clear h0_ h1_ h2_ h3_ h4_ h5_ h6_ h7_ h8_ h9_
  have BK237 := n0_
  have BK238 := n1_
  have BK245 := n2_
  have GW245 := n3_
  have GE245 := n4_
  have NB237_245 := n5_
  have NB245_237 := n6_
  have NB238_245 := n7_
  have NB245_238 := n8_
  have HB := n9_
  clear n0_ n1_ n2_ n3_ n4_ n5_ n6_ n7_ n8_ n9_
  have hHeld : w46.cell? ⟨gb237, 0, none⟩ = some (.int .i64 a1_0) ∧ w46.cell? ⟨gb237, 1, none⟩ = some (.int .i64 a1_1) ∧ w46.cell? ⟨gb238, 0, none⟩ = some (.int .i64 a2_0) ∧ w46.cell? ⟨gb238, 1, none⟩ = some (.int .i64 a2_1) := hS_
  refine norm_ (a' := ?_) ?_ ?_
  rotate_left
  ·simp only [putAll, Act.put, List.setIfInBounds_toArray, List.set_cons_zero, List.set_cons_succ]
   rfl
  refine one_ (i := 7) (N := none) #[true, true, true, true, true, true, true, true] rfl rfl (one_of HT_.out (by kernel_rfl)) (by decide) (fun K hK => ?_)
  have hs47 : w46.cell? ⟨gb245, 0, none⟩ = some (.int .i64 0) := (blk_cell BK245.out 0).trans rfl
  have hfs47 := blk_frozen BK245.out 0
  have hns47_0 := NB237_245.out
  have hns47_1 := NB238_245.out
  have hms47_0 := NB245_237.out
  have hms47_1 := NB245_238.out
  have hs48 : w46.cell? ⟨gb245, 1, none⟩ = some (.int .i64 0) := (blk_cell BK245.out 1).trans rfl
  have hfs48 := blk_frozen BK245.out 1
  have hns48_0 := NB237_245.out
  have hns48_1 := NB238_245.out
  have hms48_0 := NB245_237.out
  have hms48_1 := NB245_238.out
  refine skip_ (w1 := ?_) (by rfl) rfl ?_ ?_
  rotate_left
  ·go_simp
   rfl
  refine hK.out _ _ ⟨((cell_far (p := ⟨gb245, _, none⟩) NB237_245.out _).trans (((cell_far (p := ⟨gb245, _, none⟩) NB237_245.out _).trans (hHeld.1)))), ((cell_far (p := ⟨gb245, _, none⟩) NB237_245.out _).trans (((cell_far (p := ⟨gb245, _, none⟩) NB237_245.out _).trans (hHeld.2.1)))), ((cell_far (p := ⟨gb245, _, none⟩) NB238_245.out _).trans (((cell_far (p := ⟨gb245, _, none⟩) NB238_245.out _).trans (hHeld.2.2.1)))), ((cell_far (p := ⟨gb245, _, none⟩) NB238_245.out _).trans (((cell_far (p := ⟨gb245, _, none⟩) NB238_245.out _).trans (hHeld.2.2.2))))⟩ (fun hHeld => ?_)
  clear hK K
  refine done_ (done_of HT_.out (by kernel_rfl)) ?_
  try go_wp2
  have n0_ : Aside0 (((w46.setCell ⟨gb245, 0, none⟩ (.int .i64 t243)).setCell ⟨gb245, 1, none⟩ (.int .i64 t244)).heap[gb237]? = some (.cells #[.int .i64 a1_0, .int .i64 a1_1] 38 (0, 0))) := ⟨by (with_reducible repeat (first | refine blk_drewN ?_ _ | refine blk_drew ?_ | refine blk_alloc ?_ _)); refine blk_far ?_ NB237_245.out _; (with_reducible repeat (first | refine blk_drewN ?_ _ | refine blk_drew ?_ | refine blk_alloc ?_ _)); refine blk_far ?_ NB237_245.out _; (with_reducible repeat (first | refine blk_drewN ?_ _ | refine blk_drew ?_ | refine blk_alloc ?_ _)); exact BK237.out⟩
  have n1_ : Aside0 (((w46.setCell ⟨gb245, 0, none⟩ (.int .i64 t243)).setCell ⟨gb245, 1, none⟩ (.int .i64 t244)).heap[gb238]? = some (.cells #[.int .i64 a2_0, .int .i64 a2_1] 38 (0, 0))) := ⟨by (with_reducible repeat (first | refine blk_drewN ?_ _ | refine blk_drew ?_ | refine blk_alloc ?_ _)); refine blk_far ?_ NB238_245.out _; (with_reducible repeat (first | refine blk_drewN ?_ _ | refine blk_drew ?_ | refine blk_alloc ?_ _)); refine blk_far ?_ NB238_245.out _; (with_reducible repeat (first | refine blk_drewN ?_ _ | refine blk_drew ?_ | refine blk_alloc ?_ _)); exact BK238.out⟩
  have n2_ : Aside0 (((w46.setCell ⟨gb245, 0, none⟩ (.int .i64 t243)).setCell ⟨gb245, 1, none⟩ (.int .i64 t244)).heap[gb245]? = some (.cells #[.int .i64 t243, .int .i64 t244] 40 (0, 0))) := ⟨by (with_reducible repeat (first | refine blk_drewN ?_ _ | refine blk_drew ?_ | refine blk_alloc ?_ _)); refine blk_put (cs := #[.int .i64 t243, .int .i64 0]) ?_ 1 _ rfl; (with_reducible repeat (first | refine blk_drewN ?_ _ | refine blk_drew ?_ | refine blk_alloc ?_ _)); refine blk_put (cs := #[.int .i64 0, .int .i64 0]) ?_ 0 _ rfl; (with_reducible repeat (first | refine blk_drewN ?_ _ | refine blk_drew ?_ | refine blk_alloc ?_ _)); exact BK245.out⟩
  have n3_ : Aside0 (Below w.heap.size w ((w46.setCell ⟨gb245, 0, none⟩ (.int .i64 t243)).setCell ⟨gb245, 1, none⟩ (.int .i64 t244))) := ⟨hz3 HB.out GE237.out GE238.out GE245.out⟩
  (try clear BK237)
  (try clear BK238)
  (try clear BK245)
  (try clear HB)
  generalize ((w46.setCell ⟨gb245, 0, none⟩ (.int .i64 t243)).setCell ⟨gb245, 1, none⟩ (.int .i64 t244)) = w49 at n0_ n1_ n2_ n3_ ⊢
  have BK237 := n0_
  have BK238 := n1_
  have BK245 := n2_
  have HB := n3_
  clear n0_ n1_ n2_ n3_
  have n0_ := Aside0.mk (blk_drew BK237.out)
  have n1_ := Aside0.mk (blk_drew BK238.out)
  have n2_ := Aside0.mk (blk_drew BK245.out)
  have n3_ := Aside0.mk (below_drew1 HB.out)
  clear BK237
  clear BK238
  clear BK245
  clear HB
  have BK237 := n0_
  have BK238 := n1_
  have BK245 := n2_
  have HB := n3_
  clear n0_ n1_ n2_ n3_
  refine start_ (n := 8) (S := fun w' => w'.cell? ⟨gb237, 0, none⟩ = some (.int .i64 a1_0) ∧ w'.cell? ⟨gb237, 1, none⟩ = some (.int .i64 a1_1) ∧ w'.cell? ⟨gb238, 0, none⟩ = some (.int .i64 a2_0) ∧ w'.cell? ⟨gb238, 1, none⟩ = some (.int .i64 a2_1)) (ds := []) #[false, false, false, false, false, false, false, false] (by kernel_rfl) rfl rfl ⟨(blk_cell BK237.out 0).trans rfl, (blk_cell BK237.out 1).trans rfl, (blk_cell BK238.out 0).trans rfl, (blk_cell BK238.out 1).trans rfl⟩ (fun hHeld => ?_); refine with_tabW laws_FnExactRestDo.tab2 laws_FnExactRestDo.bits2 (fun HT_ HW_ => ?_)
  generalize w49.drew = w50 at BK237 BK238 BK245 HB hHeld ⊢
  refine pure_ (i := 0) (N := some 15) (v := ?_) (a' := ?_) #[true, false, false, false, false, false, false, false] rfl rfl (any_of HT_.out (by kernel_rfl)) (fun _ _ _ h => h) (Or.inl ⟨by rfl, ?_⟩) ?_ ?_
  rotate_left
  ·intro w'
   go_simp
   with_reducible rfl
  rotate_left
  ·exact pz
  refine take_ (i := 1) (N := some 16) (v := ?_) (a' := ?_) #[true, true, false, false, false, false, false, false] rfl rfl (take_ofW HT_.out HW_.out (by kernel_rfl)) (fun _ _ _ h => h) (Or.inl ⟨by rfl, ?_⟩) hHeld ?_ ?_
  rotate_left
  ·rintro w' ⟨s0, s1, s2, s3⟩
   go_simp
   with_reducible rfl
  rotate_left
  ·exact pz
  refine take_ (i := 3) (N := some 18) (v := ?_) (a' := ?_) #[true, true, false, true, false, false, false, false] rfl rfl (take_ofW HT_.out HW_.out (by kernel_rfl)) (fun _ _ _ h => h) (Or.inl ⟨by rfl, ?_⟩) hHeld ?_ ?_
  rotate_left
  ·rintro w' ⟨s0, s1, s2, s3⟩
   go_simp
   with_reducible rfl
  rotate_left
  ·exact pz
  refine join_ (σ := Nat) 1 #[true, true, true, true, true, true, true, false] (fun s_ => [(17, .agg #[.int .i64 t246, .int .i64 t247]), (19, .agg #[.int .i64 t248, .int .i64 t249]), (20, .agg #[.int .i64 t250, .int .i64 t251]), (8, .pointer (some ⟨s_, 0, none⟩))]) (fun s_ w' => (w'.cell? ⟨gb237, 0, none⟩ = some (.int .i64 a1_0) ∧ w'.cell? ⟨gb237, 1, none⟩ = some (.int .i64 a1_1) ∧ w'.cell? ⟨gb238, 0, none⟩ = some (.int .i64 a2_0) ∧ w'.cell? ⟨gb238, 1, none⟩ = some (.int .i64 a2_1)) ∧ (w'.heap[gb237]? = some (.cells #[.int .i64 a1_0, .int .i64 a1_1] 38 (0, 0))) ∧ (w'.heap[gb238]? = some (.cells #[.int .i64 a2_0, .int .i64 a2_1] 38 (0, 0))) ∧ (w'.heap[gb245]? = some (.cells #[.int .i64 t243, .int .i64 t244] 40 (0, 0))) ∧ (w'.heap[s_]? = some (.cells #[.int .i64 0, .int .i64 0] 40 (0, 0))) ∧ (w.heap.size ≤ s_) ∧ (w.heap.size ≤ s_) ∧ (gb237 ≠ s_) ∧ (s_ ≠ gb237) ∧ (gb238 ≠ s_) ∧ (s_ ≠ gb238) ∧ (gb245 ≠ s_) ∧ (s_ ≠ gb245) ∧ (Below w.heap.size w w')) ?_ ?_
  rotate_left
  ·intro hCont
   refine two_ (i := 2) (j := 6) (Ni := some 17) (Nj := some 8) #[true, true, true, true, false, false, false, false] #[true, true, false, true, false, false, true, false] rfl rfl rfl rfl (two_of HT_.out (by kernel_rfl)) (by decide) (by decide) (fun K hK => ?_) (fun K hK => ?_)
   ·skip
    refine goes_ Try.func28 (by kernel_rfl) rfl #[.agg #[.int .i64 a1_0, .int .i64 a1_1]] (by rfl) rfl rfl mz ?_
    with_reducible refine (laws_toRest.calls a1_0 a1_1 t246 t247 _ A7.out).mono ?_
    rintro e w51 ⟨rfl, hb⟩
    refine ⟨_, rfl, ?_⟩
    have n0_ := Aside0.mk (blk_below (g := gb237) (o := .cells #[.int .i64 a1_0, .int .i64 a1_1] 38 (0, 0)) (bz BK237.out) hb)
    have n1_ := Aside0.mk (blk_below (g := gb238) (o := .cells #[.int .i64 a2_0, .int .i64 a2_1] 38 (0, 0)) (bz BK238.out) hb)
    have n2_ := Aside0.mk (blk_below (g := gb245) (o := .cells #[.int .i64 t243, .int .i64 t244] 40 (0, 0)) (bz BK245.out) hb)
    have n3_ := Aside0.mk (below_step (hz3 HB.out GE237.out GE238.out GE245.out) hb)
    clear BK237
    clear BK238
    clear BK245
    clear HB
    have BK237 := n0_
    have BK238 := n1_
    have BK245 := n2_
    have HB := n3_
    clear n0_ n1_ n2_ n3_
    (try clear hb)
    (try clear hb2)
    (try clear hk)
    (try clear hi)
    refine hK.out _ _ ⟨(blk_cell BK237.out 0).trans rfl, (blk_cell BK237.out 1).trans rfl, (blk_cell BK238.out 0).trans rfl, (blk_cell BK238.out 1).trans rfl⟩ (fun hHeld => ?_)
    clear hK K
    refine norm_ (a' := ?_) ?_ ?_
    rotate_left
    ·show Act.put _ (some 17) _ = _
     simp only [Act.put, List.setIfInBounds_toArray, List.set_cons_zero, List.set_cons_succ, i64_w, i32_w]
     rfl
    refine two_ (i := 4) (j := 6) (Ni := some 19) (Nj := some 8) #[true, true, true, true, true, false, false, false] #[true, true, true, true, false, false, true, false] rfl rfl rfl rfl (two_of HT_.out (by kernel_rfl)) (by decide) (by decide) (fun K hK => ?_) (fun K hK => ?_)
    ·skip
     refine goes_ Try.func28 (by kernel_rfl) rfl #[.agg #[.int .i64 a2_0, .int .i64 a2_1]] (by rfl) rfl rfl mz ?_
     with_reducible refine (laws_toRest.calls a2_0 a2_1 t248 t249 _ A8.out).mono ?_
     rintro e w52 ⟨rfl, hb⟩
     refine ⟨_, rfl, ?_⟩
     have n0_ := Aside0.mk (blk_below (g := gb237) (o := .cells #[.int .i64 a1_0, .int .i64 a1_1] 38 (0, 0)) (bz BK237.out) hb)
     have n1_ := Aside0.mk (blk_below (g := gb238) (o := .cells #[.int .i64 a2_0, .int .i64 a2_1] 38 (0, 0)) (bz BK238.out) hb)
     have n2_ := Aside0.mk (blk_below (g := gb245) (o := .cells #[.int .i64 t243, .int .i64 t244] 40 (0, 0)) (bz BK245.out) hb)
     have n3_ := Aside0.mk (below_step (hz3 HB.out GE237.out GE238.out GE245.out) hb)
     clear BK237
     clear BK238
     clear BK245
     clear HB
     have BK237 := n0_
     have BK238 := n1_
     have BK245 := n2_
     have HB := n3_
     clear n0_ n1_ n2_ n3_
     (try clear hb)
     (try clear hb2)
     (try clear hk)
     (try clear hi)
     refine hK.out _ _ ⟨(blk_cell BK237.out 0).trans rfl, (blk_cell BK237.out 1).trans rfl, (blk_cell BK238.out 0).trans rfl, (blk_cell BK238.out 1).trans rfl⟩ (fun hHeld => ?_)
     clear hK K
     refine norm_ (a' := ?_) ?_ ?_
     rotate_left
     ·show Act.put _ (some 19) _ = _
      simp only [Act.put, List.setIfInBounds_toArray, List.set_cons_zero, List.set_cons_succ, i64_w, i32_w]
      rfl
     refine two_ (i := 5) (j := 6) (Ni := some 20) (Nj := some 8) #[true, true, true, true, true, true, false, false] #[true, true, true, true, true, false, true, false] rfl rfl rfl rfl (two_of HT_.out (by kernel_rfl)) (by decide) (by decide) (fun K hK => ?_) (fun K hK => ?_)
     ·skip
      refine goes_ Try.func40 (by kernel_rfl) rfl #[.int .i64 a0, .agg #[.int .i64 t246, .int .i64 t247], .agg #[.int .i64 t248, .int .i64 t249]] (by rfl) rfl rfl mz ?_
      with_reducible refine (impl_RestDo.calls k a0 t246 t247 t248 t249 t250 t251 _ A9.out).mono ?_
      rintro e w53 ⟨rfl, hb⟩
      refine ⟨_, rfl, ?_⟩
      have n0_ := Aside0.mk (blk_below (g := gb237) (o := .cells #[.int .i64 a1_0, .int .i64 a1_1] 38 (0, 0)) (bz BK237.out) hb)
      have n1_ := Aside0.mk (blk_below (g := gb238) (o := .cells #[.int .i64 a2_0, .int .i64 a2_1] 38 (0, 0)) (bz BK238.out) hb)
      have n2_ := Aside0.mk (blk_below (g := gb245) (o := .cells #[.int .i64 t243, .int .i64 t244] 40 (0, 0)) (bz BK245.out) hb)
      have n3_ := Aside0.mk (below_step (hz3 HB.out GE237.out GE238.out GE245.out) hb)
      clear BK237
      clear BK238
      clear BK245
      clear HB
      have BK237 := n0_
      have BK238 := n1_
      have BK245 := n2_
      have HB := n3_
      clear n0_ n1_ n2_ n3_
      (try clear hb)
      (try clear hb2)
      (try clear hk)
      (try clear hi)
      refine hK.out _ _ ⟨(blk_cell BK237.out 0).trans rfl, (blk_cell BK237.out 1).trans rfl, (blk_cell BK238.out 0).trans rfl, (blk_cell BK238.out 1).trans rfl⟩ (fun hHeld => ?_)
      clear hK K
      refine norm_ (a' := ?_) ?_ ?_
      rotate_left
      ·show Act.put _ (some 20) _ = _
       simp only [Act.put, List.setIfInBounds_toArray, List.set_cons_zero, List.set_cons_succ, i64_w, i32_w]
       rfl
      refine one_ (i := 6) (N := some 8) #[true, true, true, true, true, true, true, false] rfl rfl (one_of HT_.out (by kernel_rfl)) (by decide) (fun K hK => ?_)
      refine box_step ?hg (N := 8) ?hd (cs := #[.int .i64 0, .int .i64 0]) (t := 40) ?hr ?_; (case hd => rfl); (case hg => rfl); (case hr => first | (go_simp; done) | (go_simp; rfl))
      intro gb252 hg w54 hbox hb
      have n0_ := Aside0.mk (blk_below (g := gb237) (o := .cells #[.int .i64 a1_0, .int .i64 a1_1] 38 (0, 0)) (bz BK237.out) hb)
      have n1_ := Aside0.mk (blk_below (g := gb238) (o := .cells #[.int .i64 a2_0, .int .i64 a2_1] 38 (0, 0)) (bz BK238.out) hb)
      have n2_ := Aside0.mk (blk_below (g := gb245) (o := .cells #[.int .i64 t243, .int .i64 t244] 40 (0, 0)) (bz BK245.out) hb)
      have n3_ := Aside0.mk (below_step (hz3 HB.out GE237.out GE238.out GE245.out) hb)
      have n4_ := Aside0.mk (hbox)
      have n5_ := Aside0.mk ((by rw [hg]; exact (below_size (hz3 HB.out GE237.out GE238.out GE245.out)) : w.heap.size ≤ gb252))
      have n6_ := Aside0.mk ((by rw [hg]; exact (below_size (hz3 HB.out GE237.out GE238.out GE245.out)) : w.heap.size ≤ gb252))
      have n7_ := Aside0.mk ((by rw [hg]; exact Nat.ne_of_lt (blk_lt (g := gb237) (o := .cells #[.int .i64 a1_0, .int .i64 a1_1] 38 (0, 0)) (bz BK237.out)) : gb237 ≠ gb252))
      have n8_ := Aside0.mk ((by rw [hg]; exact Nat.ne_of_gt (blk_lt (g := gb237) (o := .cells #[.int .i64 a1_0, .int .i64 a1_1] 38 (0, 0)) (bz BK237.out)) : gb252 ≠ gb237))
      have n9_ := Aside0.mk ((by rw [hg]; exact Nat.ne_of_lt (blk_lt (g := gb238) (o := .cells #[.int .i64 a2_0, .int .i64 a2_1] 38 (0, 0)) (bz BK238.out)) : gb238 ≠ gb252))
      have n10_ := Aside0.mk ((by rw [hg]; exact Nat.ne_of_gt (blk_lt (g := gb238) (o := .cells #[.int .i64 a2_0, .int .i64 a2_1] 38 (0, 0)) (bz BK238.out)) : gb252 ≠ gb238))
      have n11_ := Aside0.mk ((by rw [hg]; exact Nat.ne_of_lt (blk_lt (g := gb245) (o := .cells #[.int .i64 t243, .int .i64 t244] 40 (0, 0)) (bz BK245.out)) : gb245 ≠ gb252))
      have n12_ := Aside0.mk ((by rw [hg]; exact Nat.ne_of_gt (blk_lt (g := gb245) (o := .cells #[.int .i64 t243, .int .i64 t244] 40 (0, 0)) (bz BK245.out)) : gb252 ≠ gb245))
      clear BK237
      clear BK238
      clear BK245
      clear HB
      have BK237 := n0_
      have BK238 := n1_
      have BK245 := n2_
      have HB := n3_
      have BK252 := n4_
      have GW252 := n5_
      have GE252 := n6_
      have NB237_252 := n7_
      have NB252_237 := n8_
      have NB238_252 := n9_
      have NB252_238 := n10_
      have NB245_252 := n11_
      have NB252_245 := n12_
      clear n0_ n1_ n2_ n3_ n4_ n5_ n6_ n7_ n8_ n9_ n10_ n11_ n12_
      clear hb hbox hg
      refine hK.out _ _ ⟨(blk_cell BK237.out 0).trans rfl, (blk_cell BK237.out 1).trans rfl, (blk_cell BK238.out 0).trans rfl, (blk_cell BK238.out 1).trans rfl⟩ (fun hHeld => ?_)
      clear hK K
      refine norm_ (a' := ?_) ?_ ?_
      rotate_left
      ·show Act.put _ (some 8) _ = _
       simp only [Act.put, List.setIfInBounds_toArray, List.set_cons_zero, List.set_cons_succ, i64_w, i32_w]
       rfl
      exact norm_ (by simp only [putAll, Act.put, List.setIfInBounds_toArray, List.set_cons_zero, List.set_cons_succ]) (hCont (gb252) _ ⟨hHeld, (bz BK237.out), (bz BK238.out), (bz BK245.out), (bz BK252.out), GW252.out, GE252.out, NB237_252.out, NB252_237.out, NB238_252.out, NB252_238.out, NB245_252.out, NB252_245.out, (hz4 HB.out GE237.out GE238.out GE245.out GE252.out)⟩)
     ·skip
      refine box_step ?hg (N := 8) ?hd (cs := #[.int .i64 0, .int .i64 0]) (t := 40) ?hr ?_; (case hd => rfl); (case hg => rfl); (case hr => first | (go_simp; done) | (go_simp; rfl))
      intro gb252 hg w53 hbox hb
      have n0_ := Aside0.mk (blk_below (g := gb237) (o := .cells #[.int .i64 a1_0, .int .i64 a1_1] 38 (0, 0)) (bz BK237.out) hb)
      have n1_ := Aside0.mk (blk_below (g := gb238) (o := .cells #[.int .i64 a2_0, .int .i64 a2_1] 38 (0, 0)) (bz BK238.out) hb)
      have n2_ := Aside0.mk (blk_below (g := gb245) (o := .cells #[.int .i64 t243, .int .i64 t244] 40 (0, 0)) (bz BK245.out) hb)
      have n3_ := Aside0.mk (below_step (hz3 HB.out GE237.out GE238.out GE245.out) hb)
      have n4_ := Aside0.mk (hbox)
      have n5_ := Aside0.mk ((by rw [hg]; exact (below_size (hz3 HB.out GE237.out GE238.out GE245.out)) : w.heap.size ≤ gb252))
      have n6_ := Aside0.mk ((by rw [hg]; exact (below_size (hz3 HB.out GE237.out GE238.out GE245.out)) : w.heap.size ≤ gb252))
      have n7_ := Aside0.mk ((by rw [hg]; exact Nat.ne_of_lt (blk_lt (g := gb237) (o := .cells #[.int .i64 a1_0, .int .i64 a1_1] 38 (0, 0)) (bz BK237.out)) : gb237 ≠ gb252))
      have n8_ := Aside0.mk ((by rw [hg]; exact Nat.ne_of_gt (blk_lt (g := gb237) (o := .cells #[.int .i64 a1_0, .int .i64 a1_1] 38 (0, 0)) (bz BK237.out)) : gb252 ≠ gb237))
      have n9_ := Aside0.mk ((by rw [hg]; exact Nat.ne_of_lt (blk_lt (g := gb238) (o := .cells #[.int .i64 a2_0, .int .i64 a2_1] 38 (0, 0)) (bz BK238.out)) : gb238 ≠ gb252))
      have n10_ := Aside0.mk ((by rw [hg]; exact Nat.ne_of_gt (blk_lt (g := gb238) (o := .cells #[.int .i64 a2_0, .int .i64 a2_1] 38 (0, 0)) (bz BK238.out)) : gb252 ≠ gb238))
      have n11_ := Aside0.mk ((by rw [hg]; exact Nat.ne_of_lt (blk_lt (g := gb245) (o := .cells #[.int .i64 t243, .int .i64 t244] 40 (0, 0)) (bz BK245.out)) : gb245 ≠ gb252))
      have n12_ := Aside0.mk ((by rw [hg]; exact Nat.ne_of_gt (blk_lt (g := gb245) (o := .cells #[.int .i64 t243, .int .i64 t244] 40 (0, 0)) (bz BK245.out)) : gb252 ≠ gb245))
      clear BK237
      clear BK238
      clear BK245
      clear HB
      have BK237 := n0_
      have BK238 := n1_
      have BK245 := n2_
      have HB := n3_
      have BK252 := n4_
      have GW252 := n5_
      have GE252 := n6_
      have NB237_252 := n7_
      have NB252_237 := n8_
      have NB238_252 := n9_
      have NB252_238 := n10_
      have NB245_252 := n11_
      have NB252_245 := n12_
      clear n0_ n1_ n2_ n3_ n4_ n5_ n6_ n7_ n8_ n9_ n10_ n11_ n12_
      clear hb hbox hg
      refine hK.out _ _ ⟨(blk_cell BK237.out 0).trans rfl, (blk_cell BK237.out 1).trans rfl, (blk_cell BK238.out 0).trans rfl, (blk_cell BK238.out 1).trans rfl⟩ (fun hHeld => ?_)
      clear hK K
      refine norm_ (a' := ?_) ?_ ?_
      rotate_left
      ·show Act.put _ (some 8) _ = _
       simp only [Act.put, List.setIfInBounds_toArray, List.set_cons_zero, List.set_cons_succ, i64_w, i32_w]
       rfl
      refine one_ (i := 5) (N := some 20) #[true, true, true, true, true, true, true, false] rfl rfl (one_of HT_.out (by kernel_rfl)) (by decide) (fun K hK => ?_)
      refine goes_ Try.func40 (by kernel_rfl) rfl #[.int .i64 a0, .agg #[.int .i64 t246, .int .i64 t247], .agg #[.int .i64 t248, .int .i64 t249]] (by rfl) rfl rfl mz ?_
      with_reducible refine (impl_RestDo.calls k a0 t246 t247 t248 t249 t250 t251 _ A9.out).mono ?_
      rintro e w54 ⟨rfl, hb⟩
      refine ⟨_, rfl, ?_⟩
      have n0_ := Aside0.mk (blk_below (g := gb237) (o := .cells #[.int .i64 a1_0, .int .i64 a1_1] 38 (0, 0)) (bz BK237.out) hb)
      have n1_ := Aside0.mk (blk_below (g := gb238) (o := .cells #[.int .i64 a2_0, .int .i64 a2_1] 38 (0, 0)) (bz BK238.out) hb)
      have n2_ := Aside0.mk (blk_below (g := gb245) (o := .cells #[.int .i64 t243, .int .i64 t244] 40 (0, 0)) (bz BK245.out) hb)
      have n3_ := Aside0.mk (blk_below (g := gb252) (o := .cells #[.int .i64 0, .int .i64 0] 40 (0, 0)) (bz BK252.out) hb)
      have n4_ := Aside0.mk (below_step (hz4 HB.out GE237.out GE238.out GE245.out GE252.out) hb)
      clear BK237
      clear BK238
      clear BK245
      clear BK252
      clear HB
      have BK237 := n0_
      have BK238 := n1_
      have BK245 := n2_
      have BK252 := n3_
      have HB := n4_
      clear n0_ n1_ n2_ n3_ n4_
      (try clear hb)
      (try clear hb2)
      (try clear hk)
      (try clear hi)
      refine hK.out _ _ ⟨(blk_cell BK237.out 0).trans rfl, (blk_cell BK237.out 1).trans rfl, (blk_cell BK238.out 0).trans rfl, (blk_cell BK238.out 1).trans rfl⟩ (fun hHeld => ?_)
      clear hK K
      refine norm_ (a' := ?_) ?_ ?_
      rotate_left
      ·show Act.put _ (some 20) _ = _
       simp only [Act.put, List.setIfInBounds_toArray, List.set_cons_zero, List.set_cons_succ, i64_w, i32_w]
       rfl
      exact norm_ (by simp only [putAll, Act.put, List.setIfInBounds_toArray, List.set_cons_zero, List.set_cons_succ]) (hCont (gb252) _ ⟨hHeld, (bz BK237.out), (bz BK238.out), (bz BK245.out), (bz BK252.out), GW252.out, GE252.out, NB237_252.out, NB252_237.out, NB238_252.out, NB252_238.out, NB245_252.out, NB252_245.out, (hz4 HB.out GE237.out GE238.out GE245.out GE252.out)⟩)
    ·skip
     refine box_step ?hg (N := 8) ?hd (cs := #[.int .i64 0, .int .i64 0]) (t := 40) ?hr ?_; (case hd => rfl); (case hg => rfl); (case hr => first | (go_simp; done) | (go_simp; rfl))
     intro gb252 hg w52 hbox hb
     have n0_ := Aside0.mk (blk_below (g := gb237) (o := .cells #[.int .i64 a1_0, .int .i64 a1_1] 38 (0, 0)) (bz BK237.out) hb)
     have n1_ := Aside0.mk (blk_below (g := gb238) (o := .cells #[.int .i64 a2_0, .int .i64 a2_1] 38 (0, 0)) (bz BK238.out) hb)
     have n2_ := Aside0.mk (blk_below (g := gb245) (o := .cells #[.int .i64 t243, .int .i64 t244] 40 (0, 0)) (bz BK245.out) hb)
     have n3_ := Aside0.mk (below_step (hz3 HB.out GE237.out GE238.out GE245.out) hb)
     have n4_ := Aside0.mk (hbox)
     have n5_ := Aside0.mk ((by rw [hg]; exact (below_size (hz3 HB.out GE237.out GE238.out GE245.out)) : w.heap.size ≤ gb252))
     have n6_ := Aside0.mk ((by rw [hg]; exact (below_size (hz3 HB.out GE237.out GE238.out GE245.out)) : w.heap.size ≤ gb252))
     have n7_ := Aside0.mk ((by rw [hg]; exact Nat.ne_of_lt (blk_lt (g := gb237) (o := .cells #[.int .i64 a1_0, .int .i64 a1_1] 38 (0, 0)) (bz BK237.out)) : gb237 ≠ gb252))
     have n8_ := Aside0.mk ((by rw [hg]; exact Nat.ne_of_gt (blk_lt (g := gb237) (o := .cells #[.int .i64 a1_0, .int .i64 a1_1] 38 (0, 0)) (bz BK237.out)) : gb252 ≠ gb237))
     have n9_ := Aside0.mk ((by rw [hg]; exact Nat.ne_of_lt (blk_lt (g := gb238) (o := .cells #[.int .i64 a2_0, .int .i64 a2_1] 38 (0, 0)) (bz BK238.out)) : gb238 ≠ gb252))
     have n10_ := Aside0.mk ((by rw [hg]; exact Nat.ne_of_gt (blk_lt (g := gb238) (o := .cells #[.int .i64 a2_0, .int .i64 a2_1] 38 (0, 0)) (bz BK238.out)) : gb252 ≠ gb238))
     have n11_ := Aside0.mk ((by rw [hg]; exact Nat.ne_of_lt (blk_lt (g := gb245) (o := .cells #[.int .i64 t243, .int .i64 t244] 40 (0, 0)) (bz BK245.out)) : gb245 ≠ gb252))
     have n12_ := Aside0.mk ((by rw [hg]; exact Nat.ne_of_gt (blk_lt (g := gb245) (o := .cells #[.int .i64 t243, .int .i64 t244] 40 (0, 0)) (bz BK245.out)) : gb252 ≠ gb245))
     clear BK237
     clear BK238
     clear BK245
     clear HB
     have BK237 := n0_
     have BK238 := n1_
     have BK245 := n2_
     have HB := n3_
     have BK252 := n4_
     have GW252 := n5_
     have GE252 := n6_
     have NB237_252 := n7_
     have NB252_237 := n8_
     have NB238_252 := n9_
     have NB252_238 := n10_
     have NB245_252 := n11_
     have NB252_245 := n12_
     clear n0_ n1_ n2_ n3_ n4_ n5_ n6_ n7_ n8_ n9_ n10_ n11_ n12_
     clear hb hbox hg
     refine hK.out _ _ ⟨(blk_cell BK237.out 0).trans rfl, (blk_cell BK237.out 1).trans rfl, (blk_cell BK238.out 0).trans rfl, (blk_cell BK238.out 1).trans rfl⟩ (fun hHeld => ?_)
     clear hK K
     refine norm_ (a' := ?_) ?_ ?_
     rotate_left
     ·show Act.put _ (some 8) _ = _
      simp only [Act.put, List.setIfInBounds_toArray, List.set_cons_zero, List.set_cons_succ, i64_w, i32_w]
      rfl
     refine one_ (i := 4) (N := some 19) #[true, true, true, true, true, false, true, false] rfl rfl (one_of HT_.out (by kernel_rfl)) (by decide) (fun K hK => ?_)
     refine goes_ Try.func28 (by kernel_rfl) rfl #[.agg #[.int .i64 a2_0, .int .i64 a2_1]] (by rfl) rfl rfl mz ?_
     with_reducible refine (laws_toRest.calls a2_0 a2_1 t248 t249 _ A8.out).mono ?_
     rintro e w53 ⟨rfl, hb⟩
     refine ⟨_, rfl, ?_⟩
     have n0_ := Aside0.mk (blk_below (g := gb237) (o := .cells #[.int .i64 a1_0, .int .i64 a1_1] 38 (0, 0)) (bz BK237.out) hb)
     have n1_ := Aside0.mk (blk_below (g := gb238) (o := .cells #[.int .i64 a2_0, .int .i64 a2_1] 38 (0, 0)) (bz BK238.out) hb)
     have n2_ := Aside0.mk (blk_below (g := gb245) (o := .cells #[.int .i64 t243, .int .i64 t244] 40 (0, 0)) (bz BK245.out) hb)
     have n3_ := Aside0.mk (blk_below (g := gb252) (o := .cells #[.int .i64 0, .int .i64 0] 40 (0, 0)) (bz BK252.out) hb)
     have n4_ := Aside0.mk (below_step (hz4 HB.out GE237.out GE238.out GE245.out GE252.out) hb)
     clear BK237
     clear BK238
     clear BK245
     clear BK252
     clear HB
     have BK237 := n0_
     have BK238 := n1_
     have BK245 := n2_
     have BK252 := n3_
     have HB := n4_
     clear n0_ n1_ n2_ n3_ n4_
     (try clear hb)
     (try clear hb2)
     (try clear hk)
     (try clear hi)
     refine hK.out _ _ ⟨(blk_cell BK237.out 0).trans rfl, (blk_cell BK237.out 1).trans rfl, (blk_cell BK238.out 0).trans rfl, (blk_cell BK238.out 1).trans rfl⟩ (fun hHeld => ?_)
     clear hK K
     refine norm_ (a' := ?_) ?_ ?_
     rotate_left
     ·show Act.put _ (some 19) _ = _
      simp only [Act.put, List.setIfInBounds_toArray, List.set_cons_zero, List.set_cons_succ, i64_w, i32_w]
      rfl
     refine one_ (i := 5) (N := some 20) #[true, true, true, true, true, true, true, false] rfl rfl (one_of HT_.out (by kernel_rfl)) (by decide) (fun K hK => ?_)
     refine goes_ Try.func40 (by kernel_rfl) rfl #[.int .i64 a0, .agg #[.int .i64 t246, .int .i64 t247], .agg #[.int .i64 t248, .int .i64 t249]] (by rfl) rfl rfl mz ?_
     with_reducible refine (impl_RestDo.calls k a0 t246 t247 t248 t249 t250 t251 _ A9.out).mono ?_
     rintro e w54 ⟨rfl, hb⟩
     refine ⟨_, rfl, ?_⟩
     have n0_ := Aside0.mk (blk_below (g := gb237) (o := .cells #[.int .i64 a1_0, .int .i64 a1_1] 38 (0, 0)) (bz BK237.out) hb)
     have n1_ := Aside0.mk (blk_below (g := gb238) (o := .cells #[.int .i64 a2_0, .int .i64 a2_1] 38 (0, 0)) (bz BK238.out) hb)
     have n2_ := Aside0.mk (blk_below (g := gb245) (o := .cells #[.int .i64 t243, .int .i64 t244] 40 (0, 0)) (bz BK245.out) hb)
     have n3_ := Aside0.mk (blk_below (g := gb252) (o := .cells #[.int .i64 0, .int .i64 0] 40 (0, 0)) (bz BK252.out) hb)
     have n4_ := Aside0.mk (below_step (hz4 HB.out GE237.out GE238.out GE245.out GE252.out) hb)
     clear BK237
     clear BK238
     clear BK245
     clear BK252
     clear HB
     have BK237 := n0_
     have BK238 := n1_
     have BK245 := n2_
     have BK252 := n3_
     have HB := n4_
     clear n0_ n1_ n2_ n3_ n4_
     (try clear hb)
     (try clear hb2)
     (try clear hk)
     (try clear hi)
     refine hK.out _ _ ⟨(blk_cell BK237.out 0).trans rfl, (blk_cell BK237.out 1).trans rfl, (blk_cell BK238.out 0).trans rfl, (blk_cell BK238.out 1).trans rfl⟩ (fun hHeld => ?_)
     clear hK K
     refine norm_ (a' := ?_) ?_ ?_
     rotate_left
     ·show Act.put _ (some 20) _ = _
      simp only [Act.put, List.setIfInBounds_toArray, List.set_cons_zero, List.set_cons_succ, i64_w, i32_w]
      rfl
     exact norm_ (by simp only [putAll, Act.put, List.setIfInBounds_toArray, List.set_cons_zero, List.set_cons_succ]) (hCont (gb252) _ ⟨hHeld, (bz BK237.out), (bz BK238.out), (bz BK245.out), (bz BK252.out), GW252.out, GE252.out, NB237_252.out, NB252_237.out, NB238_252.out, NB252_238.out, NB245_252.out, NB252_245.out, (hz4 HB.out GE237.out GE238.out GE245.out GE252.out)⟩)
   ·skip
    refine box_step ?hg (N := 8) ?hd (cs := #[.int .i64 0, .int .i64 0]) (t := 40) ?hr ?_; (case hd => rfl); (case hg => rfl); (case hr => first | (go_simp; done) | (go_simp; rfl))
    intro gb252 hg w51 hbox hb
    have n0_ := Aside0.mk (blk_below (g := gb237) (o := .cells #[.int .i64 a1_0, .int .i64 a1_1] 38 (0, 0)) (bz BK237.out) hb)
    have n1_ := Aside0.mk (blk_below (g := gb238) (o := .cells #[.int .i64 a2_0, .int .i64 a2_1] 38 (0, 0)) (bz BK238.out) hb)
    have n2_ := Aside0.mk (blk_below (g := gb245) (o := .cells #[.int .i64 t243, .int .i64 t244] 40 (0, 0)) (bz BK245.out) hb)
    have n3_ := Aside0.mk (below_step (hz3 HB.out GE237.out GE238.out GE245.out) hb)
    have n4_ := Aside0.mk (hbox)
    have n5_ := Aside0.mk ((by rw [hg]; exact (below_size (hz3 HB.out GE237.out GE238.out GE245.out)) : w.heap.size ≤ gb252))
    have n6_ := Aside0.mk ((by rw [hg]; exact (below_size (hz3 HB.out GE237.out GE238.out GE245.out)) : w.heap.size ≤ gb252))
    have n7_ := Aside0.mk ((by rw [hg]; exact Nat.ne_of_lt (blk_lt (g := gb237) (o := .cells #[.int .i64 a1_0, .int .i64 a1_1] 38 (0, 0)) (bz BK237.out)) : gb237 ≠ gb252))
    have n8_ := Aside0.mk ((by rw [hg]; exact Nat.ne_of_gt (blk_lt (g := gb237) (o := .cells #[.int .i64 a1_0, .int .i64 a1_1] 38 (0, 0)) (bz BK237.out)) : gb252 ≠ gb237))
    have n9_ := Aside0.mk ((by rw [hg]; exact Nat.ne_of_lt (blk_lt (g := gb238) (o := .cells #[.int .i64 a2_0, .int .i64 a2_1] 38 (0, 0)) (bz BK238.out)) : gb238 ≠ gb252))
    have n10_ := Aside0.mk ((by rw [hg]; exact Nat.ne_of_gt (blk_lt (g := gb238) (o := .cells #[.int .i64 a2_0, .int .i64 a2_1] 38 (0, 0)) (bz BK238.out)) : gb252 ≠ gb238))
    have n11_ := Aside0.mk ((by rw [hg]; exact Nat.ne_of_lt (blk_lt (g := gb245) (o := .cells #[.int .i64 t243, .int .i64 t244] 40 (0, 0)) (bz BK245.out)) : gb245 ≠ gb252))
    have n12_ := Aside0.mk ((by rw [hg]; exact Nat.ne_of_gt (blk_lt (g := gb245) (o := .cells #[.int .i64 t243, .int .i64 t244] 40 (0, 0)) (bz BK245.out)) : gb252 ≠ gb245))
    clear BK237
    clear BK238
    clear BK245
    clear HB
    have BK237 := n0_
    have BK238 := n1_
    have BK245 := n2_
    have HB := n3_
    have BK252 := n4_
    have GW252 := n5_
    have GE252 := n6_
    have NB237_252 := n7_
    have NB252_237 := n8_
    have NB238_252 := n9_
    have NB252_238 := n10_
    have NB245_252 := n11_
    have NB252_245 := n12_
    clear n0_ n1_ n2_ n3_ n4_ n5_ n6_ n7_ n8_ n9_ n10_ n11_ n12_
    clear hb hbox hg
    refine hK.out _ _ ⟨(blk_cell BK237.out 0).trans rfl, (blk_cell BK237.out 1).trans rfl, (blk_cell BK238.out 0).trans rfl, (blk_cell BK238.out 1).trans rfl⟩ (fun hHeld => ?_)
    clear hK K
    refine norm_ (a' := ?_) ?_ ?_
    rotate_left
    ·show Act.put _ (some 8) _ = _
     simp only [Act.put, List.setIfInBounds_toArray, List.set_cons_zero, List.set_cons_succ, i64_w, i32_w]
     rfl
    refine one_ (i := 2) (N := some 17) #[true, true, true, true, false, false, true, false] rfl rfl (one_of HT_.out (by kernel_rfl)) (by decide) (fun K hK => ?_)
    refine goes_ Try.func28 (by kernel_rfl) rfl #[.agg #[.int .i64 a1_0, .int .i64 a1_1]] (by rfl) rfl rfl mz ?_
    with_reducible refine (laws_toRest.calls a1_0 a1_1 t246 t247 _ A7.out).mono ?_
    rintro e w52 ⟨rfl, hb⟩
    refine ⟨_, rfl, ?_⟩
    have n0_ := Aside0.mk (blk_below (g := gb237) (o := .cells #[.int .i64 a1_0, .int .i64 a1_1] 38 (0, 0)) (bz BK237.out) hb)
    have n1_ := Aside0.mk (blk_below (g := gb238) (o := .cells #[.int .i64 a2_0, .int .i64 a2_1] 38 (0, 0)) (bz BK238.out) hb)
    have n2_ := Aside0.mk (blk_below (g := gb245) (o := .cells #[.int .i64 t243, .int .i64 t244] 40 (0, 0)) (bz BK245.out) hb)
    have n3_ := Aside0.mk (blk_below (g := gb252) (o := .cells #[.int .i64 0, .int .i64 0] 40 (0, 0)) (bz BK252.out) hb)
    have n4_ := Aside0.mk (below_step (hz4 HB.out GE237.out GE238.out GE245.out GE252.out) hb)
    clear BK237
    clear BK238
    clear BK245
    clear BK252
    clear HB
    have BK237 := n0_
    have BK238 := n1_
    have BK245 := n2_
    have BK252 := n3_
    have HB := n4_
    clear n0_ n1_ n2_ n3_ n4_
    (try clear hb)
    (try clear hb2)
    (try clear hk)
    (try clear hi)
    refine hK.out _ _ ⟨(blk_cell BK237.out 0).trans rfl, (blk_cell BK237.out 1).trans rfl, (blk_cell BK238.out 0).trans rfl, (blk_cell BK238.out 1).trans rfl⟩ (fun hHeld => ?_)
    clear hK K
    refine norm_ (a' := ?_) ?_ ?_
    rotate_left
    ·show Act.put _ (some 17) _ = _
     simp only [Act.put, List.setIfInBounds_toArray, List.set_cons_zero, List.set_cons_succ, i64_w, i32_w]
     rfl
    refine one_ (i := 4) (N := some 19) #[true, true, true, true, true, false, true, false] rfl rfl (one_of HT_.out (by kernel_rfl)) (by decide) (fun K hK => ?_)
    refine goes_ Try.func28 (by kernel_rfl) rfl #[.agg #[.int .i64 a2_0, .int .i64 a2_1]] (by rfl) rfl rfl mz ?_
    with_reducible refine (laws_toRest.calls a2_0 a2_1 t248 t249 _ A8.out).mono ?_
    rintro e w53 ⟨rfl, hb⟩
    refine ⟨_, rfl, ?_⟩
    have n0_ := Aside0.mk (blk_below (g := gb237) (o := .cells #[.int .i64 a1_0, .int .i64 a1_1] 38 (0, 0)) (bz BK237.out) hb)
    have n1_ := Aside0.mk (blk_below (g := gb238) (o := .cells #[.int .i64 a2_0, .int .i64 a2_1] 38 (0, 0)) (bz BK238.out) hb)
    have n2_ := Aside0.mk (blk_below (g := gb245) (o := .cells #[.int .i64 t243, .int .i64 t244] 40 (0, 0)) (bz BK245.out) hb)
    have n3_ := Aside0.mk (blk_below (g := gb252) (o := .cells #[.int .i64 0, .int .i64 0] 40 (0, 0)) (bz BK252.out) hb)
    have n4_ := Aside0.mk (below_step (hz4 HB.out GE237.out GE238.out GE245.out GE252.out) hb)
    clear BK237
    clear BK238
    clear BK245
    clear BK252
    clear HB
    have BK237 := n0_
    have BK238 := n1_
    have BK245 := n2_
    have BK252 := n3_
    have HB := n4_
    clear n0_ n1_ n2_ n3_ n4_
    (try clear hb)
    (try clear hb2)
    (try clear hk)
    (try clear hi)
    refine hK.out _ _ ⟨(blk_cell BK237.out 0).trans rfl, (blk_cell BK237.out 1).trans rfl, (blk_cell BK238.out 0).trans rfl, (blk_cell BK238.out 1).trans rfl⟩ (fun hHeld => ?_)
    clear hK K
    refine norm_ (a' := ?_) ?_ ?_
    rotate_left
    ·show Act.put _ (some 19) _ = _
     simp only [Act.put, List.setIfInBounds_toArray, List.set_cons_zero, List.set_cons_succ, i64_w, i32_w]
     rfl
    refine one_ (i := 5) (N := some 20) #[true, true, true, true, true, true, true, false] rfl rfl (one_of HT_.out (by kernel_rfl)) (by decide) (fun K hK => ?_)
    refine goes_ Try.func40 (by kernel_rfl) rfl #[.int .i64 a0, .agg #[.int .i64 t246, .int .i64 t247], .agg #[.int .i64 t248, .int .i64 t249]] (by rfl) rfl rfl mz ?_
    with_reducible refine (impl_RestDo.calls k a0 t246 t247 t248 t249 t250 t251 _ A9.out).mono ?_
    rintro e w54 ⟨rfl, hb⟩
    refine ⟨_, rfl, ?_⟩
    have n0_ := Aside0.mk (blk_below (g := gb237) (o := .cells #[.int .i64 a1_0, .int .i64 a1_1] 38 (0, 0)) (bz BK237.out) hb)
    have n1_ := Aside0.mk (blk_below (g := gb238) (o := .cells #[.int .i64 a2_0, .int .i64 a2_1] 38 (0, 0)) (bz BK238.out) hb)
    have n2_ := Aside0.mk (blk_below (g := gb245) (o := .cells #[.int .i64 t243, .int .i64 t244] 40 (0, 0)) (bz BK245.out) hb)
    have n3_ := Aside0.mk (blk_below (g := gb252) (o := .cells #[.int .i64 0, .int .i64 0] 40 (0, 0)) (bz BK252.out) hb)
    have n4_ := Aside0.mk (below_step (hz4 HB.out GE237.out GE238.out GE245.out GE252.out) hb)
    clear BK237
    clear BK238
    clear BK245
    clear BK252
    clear HB
    have BK237 := n0_
    have BK238 := n1_
    have BK245 := n2_
    have BK252 := n3_
    have HB := n4_
    clear n0_ n1_ n2_ n3_ n4_
    (try clear hb)
    (try clear hb2)
    (try clear hk)
    (try clear hi)
    refine hK.out _ _ ⟨(blk_cell BK237.out 0).trans rfl, (blk_cell BK237.out 1).trans rfl, (blk_cell BK238.out 0).trans rfl, (blk_cell BK238.out 1).trans rfl⟩ (fun hHeld => ?_)
    clear hK K
    refine norm_ (a' := ?_) ?_ ?_
    rotate_left
    ·show Act.put _ (some 20) _ = _
     simp only [Act.put, List.setIfInBounds_toArray, List.set_cons_zero, List.set_cons_succ, i64_w, i32_w]
     rfl
    exact norm_ (by simp only [putAll, Act.put, List.setIfInBounds_toArray, List.set_cons_zero, List.set_cons_succ]) (hCont (gb252) _ ⟨hHeld, (bz BK237.out), (bz BK238.out), (bz BK245.out), (bz BK252.out), GW252.out, GE252.out, NB237_252.out, NB252_237.out, NB238_252.out, NB252_238.out, NB245_252.out, NB252_245.out, (hz4 HB.out GE237.out GE238.out GE245.out GE252.out)⟩)
  rintro gb252 w55 ⟨hS_, h0_, h1_, h2_, h3_, h4_, h5_, h6_, h7_, h8_, h9_, h10_, h11_, h12_⟩
  have n0_ : Aside0 (w55.heap[gb237]? = some (.cells #[.int .i64 a1_0, .int .i64 a1_1] 38 (0, 0))) := ⟨h0_⟩
  have n1_ : Aside0 (w55.heap[gb238]? = some (.cells #[.int .i64 a2_0, .int .i64 a2_1] 38 (0, 0))) := ⟨h1_⟩
  have n2_ : Aside0 (w55.heap[gb245]? = some (.cells #[.int .i64 t243, .int .i64 t244] 40 (0, 0))) := ⟨h2_⟩
  have n3_ : Aside0 (w55.heap[gb252]? = some (.cells #[.int .i64 0, .int .i64 0] 40 (0, 0))) := ⟨h3_⟩
  have n4_ : Aside0 (w.heap.size ≤ gb252) := ⟨h4_⟩
  have n5_ : Aside0 (w.heap.size ≤ gb252) := ⟨h5_⟩
  have n6_ : Aside0 (gb237 ≠ gb252) := ⟨h6_⟩
  have n7_ : Aside0 (gb252 ≠ gb237) := ⟨h7_⟩
  have n8_ : Aside0 (gb238 ≠ gb252) := ⟨h8_⟩
  have n9_ : Aside0 (gb252 ≠ gb238) := ⟨h9_⟩
  have n10_ : Aside0 (gb245 ≠ gb252) := ⟨h10_⟩
  have n11_ : Aside0 (gb252 ≠ gb245) := ⟨h11_⟩
  have n12_ : Aside0 (Below w.heap.size w w55) := ⟨h12_⟩
  clear BK237
  clear BK238
  clear BK245
  clear HB
  clear h0_ h1_ h2_ h3_ h4_ h5_ h6_ h7_ h8_ h9_ h10_ h11_ h12_
  have BK237 := n0_
  have BK238 := n1_
  have BK245 := n2_
  have BK252 := n3_
  have GW252 := n4_
  have GE252 := n5_
  have NB237_252 := n6_
  have NB252_237 := n7_
  have NB238_252 := n8_
  have NB252_238 := n9_
  have NB245_252 := n10_
  have NB252_245 := n11_
  have HB := n12_
  clear n0_ n1_ n2_ n3_ n4_ n5_ n6_ n7_ n8_ n9_ n10_ n11_ n12_
  have hHeld : w55.cell? ⟨gb237, 0, none⟩ = some (.int .i64 a1_0) ∧ w55.cell? ⟨gb237, 1, none⟩ = some (.int .i64 a1_1) ∧ w55.cell? ⟨gb238, 0, none⟩ = some (.int .i64 a2_0) ∧ w55.cell? ⟨gb238, 1, none⟩ = some (.int .i64 a2_1) := hS_
  refine norm_ (a' := ?_) ?_ ?_
  rotate_left
  ·simp only [putAll, Act.put, List.setIfInBounds_toArray, List.set_cons_zero, List.set_cons_succ]
   rfl
  refine one_ (i := 7) (N := none) #[true, true, true, true, true, true, true, true] rfl rfl (one_of HT_.out (by kernel_rfl)) (by decide) (fun K hK => ?_)
  have hs56 : w55.cell? ⟨gb252, 0, none⟩ = some (.int .i64 0) := (blk_cell BK252.out 0).trans rfl
  have hfs56 := blk_frozen BK252.out 0
  have hns56_0 := NB237_252.out
  have hns56_1 := NB238_252.out
  have hns56_2 := NB245_252.out
  have hms56_0 := NB252_237.out
  have hms56_1 := NB252_238.out
  have hms56_2 := NB252_245.out
  have hs57 : w55.cell? ⟨gb252, 1, none⟩ = some (.int .i64 0) := (blk_cell BK252.out 1).trans rfl
  have hfs57 := blk_frozen BK252.out 1
  have hns57_0 := NB237_252.out
  have hns57_1 := NB238_252.out
  have hns57_2 := NB245_252.out
  have hms57_0 := NB252_237.out
  have hms57_1 := NB252_238.out
  have hms57_2 := NB252_245.out
  refine skip_ (w1 := ?_) (by rfl) rfl ?_ ?_
  rotate_left
  ·go_simp
   rfl
  refine hK.out _ _ ⟨((cell_far (p := ⟨gb252, _, none⟩) NB237_252.out _).trans (((cell_far (p := ⟨gb252, _, none⟩) NB237_252.out _).trans (hHeld.1)))), ((cell_far (p := ⟨gb252, _, none⟩) NB237_252.out _).trans (((cell_far (p := ⟨gb252, _, none⟩) NB237_252.out _).trans (hHeld.2.1)))), ((cell_far (p := ⟨gb252, _, none⟩) NB238_252.out _).trans (((cell_far (p := ⟨gb252, _, none⟩) NB238_252.out _).trans (hHeld.2.2.1)))), ((cell_far (p := ⟨gb252, _, none⟩) NB238_252.out _).trans (((cell_far (p := ⟨gb252, _, none⟩) NB238_252.out _).trans (hHeld.2.2.2))))⟩ (fun hHeld => ?_)
  clear hK K
  refine done_ (done_of HT_.out (by kernel_rfl)) ?_
  have hnb58 := NB252_237.out
  have hnc58 := NB237_252.out
  have hnb59 := NB252_238.out
  have hnc59 := NB238_252.out
  have hnb60 := NB252_245.out
  have hnc60 := NB245_252.out
  have hcz61_0 : w55.cell? ⟨gb252, 0, none⟩ = some (.int .i64 0) := (blk_cell BK252.out 0).trans rfl
  have hcz61_1 : w55.cell? ⟨gb252, 1, none⟩ = some (.int .i64 0) := (blk_cell BK252.out 1).trans rfl
  have hfz61_0 := blk_frozen BK252.out 0
  have hfz61_1 := blk_frozen BK252.out 1
  have hnb62 := NB245_237.out
  have hnc62 := NB237_245.out
  have hnb63 := NB245_238.out
  have hnc63 := NB238_245.out
  have hcz64_0 : w55.cell? ⟨gb245, 0, none⟩ = some (.int .i64 t243) := (blk_cell BK245.out 0).trans rfl
  have hcz64_1 : w55.cell? ⟨gb245, 1, none⟩ = some (.int .i64 t244) := (blk_cell BK245.out 1).trans rfl
  have hfz64_0 := blk_frozen BK245.out 0
  have hfz64_1 := blk_frozen BK245.out 1
  try go_wp2_with (first | ((with_reducible refine gate_callee (f := 36) rfl ?_); refine goesL_ (some 23) rfl rfl Try.func36 (by kernel_rfl) rfl #[.agg #[.int .i64 t250, .int .i64 t251], .agg #[.int .i64 t243, .int .i64 t244]] rfl mz ?_; (with_reducible refine (laws_eqRest.calls t250 t251 t243 t244 false _ A10.out).mono ?_); rintro e w65 ⟨rfl, hb⟩; refine ⟨_, rfl, ?_⟩; have n0_ := Aside0.mk (blk_below (g := gb237) (o := .cells #[.int .i64 a1_0, .int .i64 a1_1] 38 (0, 0)) (by (with_reducible repeat (first | refine blk_drewN ?_ _ | refine blk_drew ?_ | refine blk_alloc ?_ _)); refine blk_far ?_ NB237_252.out _; (with_reducible repeat (first | refine blk_drewN ?_ _ | refine blk_drew ?_ | refine blk_alloc ?_ _)); refine blk_far ?_ NB237_252.out _; (with_reducible repeat (first | refine blk_drewN ?_ _ | refine blk_drew ?_ | refine blk_alloc ?_ _)); exact BK237.out) hb); have n1_ := Aside0.mk (blk_below (g := gb238) (o := .cells #[.int .i64 a2_0, .int .i64 a2_1] 38 (0, 0)) (by (with_reducible repeat (first | refine blk_drewN ?_ _ | refine blk_drew ?_ | refine blk_alloc ?_ _)); refine blk_far ?_ NB238_252.out _; (with_reducible repeat (first | refine blk_drewN ?_ _ | refine blk_drew ?_ | refine blk_alloc ?_ _)); refine blk_far ?_ NB238_252.out _; (with_reducible repeat (first | refine blk_drewN ?_ _ | refine blk_drew ?_ | refine blk_alloc ?_ _)); exact BK238.out) hb); have n2_ := Aside0.mk (blk_below (g := gb245) (o := .cells #[.int .i64 t243, .int .i64 t244] 40 (0, 0)) (by (with_reducible repeat (first | refine blk_drewN ?_ _ | refine blk_drew ?_ | refine blk_alloc ?_ _)); refine blk_far ?_ NB245_252.out _; (with_reducible repeat (first | refine blk_drewN ?_ _ | refine blk_drew ?_ | refine blk_alloc ?_ _)); refine blk_far ?_ NB245_252.out _; (with_reducible repeat (first | refine blk_drewN ?_ _ | refine blk_drew ?_ | refine blk_alloc ?_ _)); exact BK245.out) hb); have n3_ := Aside0.mk (blk_below (g := gb252) (o := .cells #[.int .i64 t250, .int .i64 t251] 40 (0, 0)) (by (with_reducible repeat (first | refine blk_drewN ?_ _ | refine blk_drew ?_ | refine blk_alloc ?_ _)); refine blk_put (cs := #[.int .i64 t250, .int .i64 0]) ?_ 1 _ rfl; (with_reducible repeat (first | refine blk_drewN ?_ _ | refine blk_drew ?_ | refine blk_alloc ?_ _)); refine blk_put (cs := #[.int .i64 0, .int .i64 0]) ?_ 0 _ rfl; (with_reducible repeat (first | refine blk_drewN ?_ _ | refine blk_drew ?_ | refine blk_alloc ?_ _)); exact BK252.out) hb); have n4_ := Aside0.mk (below_step (hz4 HB.out GE237.out GE238.out GE245.out GE252.out) hb); clear BK237; clear BK238; clear BK245; clear BK252; clear HB; have BK237 := n0_; have BK238 := n1_; have BK245 := n2_; have BK252 := n3_; have HB := n4_; clear n0_ n1_ n2_ n3_ n4_; (try clear hb); (try clear hb2); (try clear hk); (try clear hi)))
  go_ret
  exact ⟨by first | rfl | (simp [errW_none, errW_some] <;> rfl) | (simp [*, errW_none, errW_some] <;> rfl), hz4 HB.out GE237.out GE238.out GE245.out GE252.out⟩

end Go.Proofs.Ytlipfemjlicbbaa.PFnExactRestDo
