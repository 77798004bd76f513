/- Written by this session's own driver (wip/dprint.py): the functions that the law FnExactRangeDo reaches, as Lean functions, each with its contract. -/
import Derived.Test.YthbkakcchgnhpaaPFnExactRangeDox0
import Derived.Test.YthbkakcchgnhpaaPFnExactRangeDox11
import Derived.Test.YthbkakcchgnhpaaPFnExactRangeDox12
import Derived.Test.YthbkakcchgnhpaaPFnExactRangeDox21
import Derived.Test.YthbkakcchgnhpaaPFnExactRangeDox22
import Derived.Test.YthbkakcchgnhpaaSv
namespace Go.Proofs.Ythbkakcchgnhpaa.PFnExactRangeDo
open Go.RowKit Go.Proofs.YthbkakcchgnhpaaV.PrintWords Go.Proofs.YthbkakcchgnhpaaV.PrintLast Go.Proofs.YthbkakcchgnhpaaV.PrintMore Go.Proofs.YthbkakcchgnhpaaSv
attribute [local go_sem] max2_int min2_int max_two min_two max_three min_three max_four min_four   -- for this text's walks alone
set_option linter.unusedVariables false
set_option linter.unusedSimpArgs false

/-! ### laws_FnExactRangeDo: function 3 -/
attribute [local go_sem] Go.Proofs.YthbkakcchgnhpaaSet.isSome_setCell
mutual
def laws_FnExactRangeDo.j0 : Nat → Int → List Int → List Int → Bool → Int → Int → Int → Int → Int → Int → Option (Bool)
 | 0, _, _, _, _, _, _, _, _, _, _ => none
 | k + 1, x0, x8, x10, x42, x498000, x498001, x499000, x499001, x509000, x509001 => if x42 = true then (none) else ((laws_markIntS.f k x10 1).bind fun bt521 => ((laws_heldIntS.f k bt521.2 1).bind fun t523 => (if t523 < 0 then (none) else (if t523 = bt521.1 then ((laws_toRange.f x498000 x498001).bind fun bt524 => ((laws_toRange.f x499000 x499001).bind fun bt526 => ((impl_RangeDo.f k x0 bt524.1 bt524.2 bt526.1 bt526.2).bind fun bt528 => ((laws_eqRange.f bt528.1 bt528.2.1 x509000 x509001).bind fun t534 => (if t534 = true then ((laws_eqIntS.f k bt528.2.2 x8).bind fun t535 => (laws_FnExactRangeDo.j1 k bt521.2 bt521.1 (!t535))) else (laws_FnExactRangeDo.j1 k bt521.2 bt521.1 true)))))) else (none)))))
def laws_FnExactRangeDo.j1 : Nat → List Int → Int → Bool → Option (Bool)
 | 0, _, _, _ => none
 | k + 1, x10, x11, x72 => if x72 = true then (none) else ((laws_heldIntS.f k x10 1).bind fun t536 => (if t536 < 0 then (none) else (if t536 = x11 then (some true) else (none))))
end
def laws_FnExactRangeDo.f (k : Nat) (a0 : Int) (a1_0 : Int) (a1_1 : Int) (a2_0 : Int) (a2_1 : Int) : Option (Bool) := (laws_toRange.f a1_0 a1_1).bind fun bt499 => ((laws_toRange.f a2_0 a2_1).bind fun bt501 => ((spec_RangeDo.f k a0 bt499.1 bt499.2 bt501.1 bt501.2).bind fun bt503 => ((laws_toRange.f a1_0 a1_1).bind fun bt509 => ((laws_toRange.f a2_0 a2_1).bind fun bt511 => ((impl_RangeDo.f k a0 bt509.1 bt509.2 bt511.1 bt511.2).bind fun bt513 => ((laws_eqRange.f bt513.1 bt513.2.1 bt503.1 bt503.2.1).bind fun t519 => (if t519 = true then ((laws_eqIntS.f k bt513.2.2 bt503.2.2).bind fun t520 => (laws_FnExactRangeDo.j0 k a0 bt503.2.2 bt513.2.2 (!t520) a1_0 a1_1 a2_0 a2_1 bt503.1 bt503.2.1)) else (laws_FnExactRangeDo.j0 k a0 bt503.2.2 bt513.2.2 true a1_0 a1_1 a2_0 a2_1 bt503.1 bt503.2.1))))))))
theorem laws_FnExactRangeDo.mono_l : ∀ k, (∀ y0 y1 y2 y3 y4 y5 y6 y7 y8 y9, LeO (laws_FnExactRangeDo.j0 k y0 y1 y2 y3 y4 y5 y6 y7 y8 y9) (laws_FnExactRangeDo.j0 (k + 1) y0 y1 y2 y3 y4 y5 y6 y7 y8 y9)) ∧ (∀ y0 y1 y2, LeO (laws_FnExactRangeDo.j1 k y0 y1 y2) (laws_FnExactRangeDo.j1 (k + 1) y0 y1 y2))
 | 0 => ⟨fun _ _ _ _ _ _ _ _ _ _ r h => by simp [laws_FnExactRangeDo.j0] at h, fun _ _ _ r h => by simp [laws_FnExactRangeDo.j1] at h⟩
 | k + 1 => by
  obtain ⟨ih0, ih1⟩ := laws_FnExactRangeDo.mono_l k
  refine ⟨?_, ?_⟩
  ·intro y0 y1 y2 y3 y4 y5 y6 y7 y8 y9
   unfold laws_FnExactRangeDo.j0
   repeat' first
   | (with_reducible exact ih0 _ _ _ _ _ _ _ _ _ _)
   | (with_reducible exact ih1 _ _ _)
   | (with_reducible exact impl_RangeDo.mono _ _ _ _ _ _)
   | (with_reducible exact laws_eqIntS.mono _ _ _)
   | (with_reducible exact laws_heldIntS.mono _ _ _)
   | (with_reducible exact laws_markIntS.mono _ _ _)
   | (with_reducible exact spec_RangeDo.mono _ _ _ _ _ _)
   | (with_reducible exact LeO.refl _)
   | (with_reducible exact LeO.none _)
   | (with_reducible refine LeO.ite ?_ ?_)
   | (with_reducible refine LeO.bind ?_ (fun _ => ?_))
   | exact ih0 _ _ _ _ _ _ _ _ _ _
   | exact ih1 _ _ _
   | exact impl_RangeDo.mono _ _ _ _ _ _
   | exact laws_eqIntS.mono _ _ _
   | exact laws_heldIntS.mono _ _ _
   | exact laws_markIntS.mono _ _ _
   | exact spec_RangeDo.mono _ _ _ _ _ _
   | exact LeO.none _
   | refine LeO.ite ?_ ?_
   | refine LeO.bind ?_ (fun _ => ?_)
  ·intro y0 y1 y2
   unfold laws_FnExactRangeDo.j1
   repeat' first
   | (with_reducible exact ih0 _ _ _ _ _ _ _ _ _ _)
   | (with_reducible exact ih1 _ _ _)
   | (with_reducible exact impl_RangeDo.mono _ _ _ _ _ _)
   | (with_reducible exact laws_eqIntS.mono _ _ _)
   | (with_reducible exact laws_heldIntS.mono _ _ _)
   | (with_reducible exact laws_markIntS.mono _ _ _)
   | (with_reducible exact spec_RangeDo.mono _ _ _ _ _ _)
   | (with_reducible exact LeO.refl _)
   | (with_reducible exact LeO.none _)
   | (with_reducible refine LeO.ite ?_ ?_)
   | (with_reducible refine LeO.bind ?_ (fun _ => ?_))
   | exact ih0 _ _ _ _ _ _ _ _ _ _
   | exact ih1 _ _ _
   | exact impl_RangeDo.mono _ _ _ _ _ _
   | exact laws_eqIntS.mono _ _ _
   | exact laws_heldIntS.mono _ _ _
   | exact laws_markIntS.mono _ _ _
   | exact spec_RangeDo.mono _ _ _ _ _ _
   | exact LeO.none _
   | refine LeO.ite ?_ ?_
   | refine LeO.bind ?_ (fun _ => ?_)
theorem laws_FnExactRangeDo.mono : ∀ a0 a1 a2 a3 a4 k, LeO (laws_FnExactRangeDo.f k a0 a1 a2 a3 a4) (laws_FnExactRangeDo.f (k + 1) a0 a1 a2 a3 a4) := by
 intro a0 a1 a2 a3 a4 k
 obtain ⟨ih0, ih1⟩ := laws_FnExactRangeDo.mono_l k
 unfold laws_FnExactRangeDo.f
 repeat' first
   | (with_reducible exact ih0 _ _ _ _ _ _ _ _ _ _)
   | (with_reducible exact ih1 _ _ _)
   | (with_reducible exact impl_RangeDo.mono _ _ _ _ _ _)
   | (with_reducible exact laws_eqIntS.mono _ _ _)
   | (with_reducible exact laws_heldIntS.mono _ _ _)
   | (with_reducible exact laws_markIntS.mono _ _ _)
   | (with_reducible exact spec_RangeDo.mono _ _ _ _ _ _)
   | (with_reducible exact LeO.refl _)
   | (with_reducible exact LeO.none _)
   | (with_reducible refine LeO.ite ?_ ?_)
   | (with_reducible refine LeO.bind ?_ (fun _ => ?_))
   | exact ih0 _ _ _ _ _ _ _ _ _ _
   | exact ih1 _ _ _
   | exact impl_RangeDo.mono _ _ _ _ _ _
   | exact laws_eqIntS.mono _ _ _
   | exact laws_heldIntS.mono _ _ _
   | exact laws_markIntS.mono _ _ _
   | exact spec_RangeDo.mono _ _ _ _ _ _
   | exact LeO.none _
   | refine LeO.ite ?_ ?_
   | refine LeO.bind ?_ (fun _ => ?_)
def laws_FnExactRangeDo.T1 : Bool × List (List Nat × List Nat) := (true, [([], []), ([], []), ([1], [1]), ([], []), ([3, 2], [3]), ([0, 2, 4, 4], [0, 2, 4]), ([5], [5]), ([6], [6]), ([6], [6]), ([], []), ([9, 7, 5, 0, 1, 2, 3, 4, 5, 6, 7, 9], [7, 9]), ([8, 10, 0, 1, 2, 3, 4, 5, 6, 7, 8, 9, 10], [8])])
def laws_FnExactRangeDo.B1 : List Nat := [0, 0, 2, 0, 14, 31, 63, 127, 127, 0, 767, 2047]
theorem laws_FnExactRangeDo.tab1 : rtab .any (opsOf Try.f3 1) = laws_FnExactRangeDo.T1 := by kernel_rfl
theorem laws_FnExactRangeDo.bits1 : waitsOk laws_FnExactRangeDo.T1.2 laws_FnExactRangeDo.B1 = true := by kernel_rfl
def laws_FnExactRangeDo.T2 : Bool × List (List Nat × List Nat) := (true, [([], []), ([], []), ([1], [1]), ([], []), ([3, 2], [3]), ([0, 2, 4, 4], [0, 2, 4]), ([5], [5]), ([6], [6]), ([6], [6]), ([], []), ([9, 7, 5, 0, 1, 2, 3, 4, 5, 6, 7, 9], [7, 9]), ([8, 10, 0, 1, 2, 3, 4, 5, 6, 7, 8, 9, 10], [8])])
def laws_FnExactRangeDo.B2 : List Nat := [0, 0, 2, 0, 14, 31, 63, 127, 127, 0, 767, 2047]
theorem laws_FnExactRangeDo.tab2 : rtab .any (opsOf Try.f3 2) = laws_FnExactRangeDo.T2 := by kernel_rfl
theorem laws_FnExactRangeDo.bits2 : waitsOk laws_FnExactRangeDo.T2.2 laws_FnExactRangeDo.B2 = true := by kernel_rfl
def laws_FnExactRangeDo.T13 : Bool × List (List Nat × List Nat) := (true, [([], []), ([], []), ([1], [1]), ([], []), ([3, 2], [3]), ([0, 2, 4, 4], [0, 2, 4]), ([5], [5]), ([6], [6]), ([6], [6]), ([], []), ([9, 7, 5, 0, 1, 2, 3, 4, 5, 6, 7, 9], [7, 9]), ([8, 10, 0, 1, 2, 3, 4, 5, 6, 7, 8, 9, 10], [8])])
def laws_FnExactRangeDo.B13 : List Nat := [0, 0, 2, 0, 14, 31, 63, 127, 127, 0, 767, 2047]
theorem laws_FnExactRangeDo.tab13 : rtab .any (opsOf Try.f3 13) = laws_FnExactRangeDo.T13 := by kernel_rfl
theorem laws_FnExactRangeDo.bits13 : waitsOk laws_FnExactRangeDo.T13.2 laws_FnExactRangeDo.B13 = true := by kernel_rfl
set_option maxHeartbeats 8000000 in
set_option maxRecDepth 100000 in
theorem laws_FnExactRangeDo.calls (k : Nat) (a0 : Int) (a1_0 : Int) (a1_1 : Int) (a2_0 : Int) (a2_1 : Int) (r : Bool) (w : World) (h : laws_FnExactRangeDo.f k a0 a1_0 a1_1 a2_0 a2_1 = some r) :
  Calls Try.prog 3 #[.int .i64 a0, .agg #[.int .i64 a1_0, .int .i64 a1_1], .agg #[.int .i64 a2_0, .int .i64 a2_1]] w fun e w' => e = .returned (.bool r) ∧ Below w.heap.size w w' := by
 have hu23 := Try.underlying23
 have hu24 := Try.underlying24
 have HB := am (Below.refl w.heap.size w)
 have H : ((laws_toRange.f a1_0 a1_1).bind fun bt499 => ((laws_toRange.f a2_0 a2_1).bind fun bt501 => ((spec_RangeDo.f k a0 bt499.1 bt499.2 bt501.1 bt501.2).bind fun bt503 => ((laws_toRange.f a1_0 a1_1).bind fun bt509 => ((laws_toRange.f a2_0 a2_1).bind fun bt511 => ((impl_RangeDo.f k a0 bt509.1 bt509.2 bt511.1 bt511.2).bind fun bt513 => ((laws_eqRange.f bt513.1 bt513.2.1 bt503.1 bt503.2.1).bind fun t519 => (if t519 = true then ((laws_eqIntS.f k bt513.2.2 bt503.2.2).bind fun t520 => (laws_FnExactRangeDo.j0 k a0 bt503.2.2 bt513.2.2 (!t520) a1_0 a1_1 a2_0 a2_1 bt503.1 bt503.2.1)) else (laws_FnExactRangeDo.j0 k a0 bt503.2.2 bt513.2.2 true a1_0 a1_1 a2_0 a2_1 bt503.1 bt503.2.1))))))))) = some r := h
 clear h
 replace H := Option.bind_eq_some_iff.mp H
 obtain ⟨⟨t499, t500⟩, A40, H⟩ := H
 try dsimp only at H
 have A4 := am A40
 clear A40
 replace H := Option.bind_eq_some_iff.mp H
 obtain ⟨⟨t501, t502⟩, A50, H⟩ := H
 try dsimp only at H
 have A5 := am A50
 clear A50
 replace H := Option.bind_eq_some_iff.mp H
 obtain ⟨⟨t503, t504, t505⟩, A60, H⟩ := H
 try dsimp only at H
 have A6 := am A60
 clear A60
 replace H := Option.bind_eq_some_iff.mp H
 obtain ⟨⟨t509, t510⟩, A70, H⟩ := H
 try dsimp only at H
 have A7 := am A70
 clear A70
 replace H := Option.bind_eq_some_iff.mp H
 obtain ⟨⟨t511, t512⟩, A80, H⟩ := H
 try dsimp only at H
 have A8 := am A80
 clear A80
 replace H := Option.bind_eq_some_iff.mp H
 obtain ⟨⟨t513, t514, t515⟩, A90, H⟩ := H
 try dsimp only at H
 have A9 := am A90
 clear A90
 have HC10 := am H
 clear H
 go_enter Try.func3, Try.ntmps3
 try go_wp2_with (first | ((with_reducible refine gate_dst (N := 4) rfl ?_); refine bx 4 #[.int .i64 a1_0, .int .i64 a1_1] 23 ?_; intro gb497 hg w11 hbox hb; have BK497 := am (hbox); have GW497 := am (bs hg (Y0 HB)); have GE497 := am (bs hg (Y0 HB)); replace HB := am (below_step (Y0 HB) hb); clear hb hbox hg) | ((with_reducible refine gate_dst (N := 5) rfl ?_); refine bx 5 #[.int .i64 a2_0, .int .i64 a2_1] 23 ?_; intro gb498 hg w12 hbox hb; have BK498 := am (hbox); have GW498 := am (bs hg (Y1 HB GE497)); have GE498 := am (bs hg (Y1 HB GE497)); obtain ⟨NB497_498,NB498_497⟩ := ne_ hg BK497; replace BK497 := bb BK497 hb; replace HB := am (below_step (Y1 HB GE497) hb); clear hb hbox hg))
 replace BK497 := am (blk_drew BK497.out)
 replace BK498 := am (blk_drew BK498.out)
 replace HB := am (below_drew1 HB.out)
 refine start_ (n := 12) (S := fun w' => w'.cell? ⟨gb497, 0, none⟩ = some (.int .i64 a1_0) ∧ w'.cell? ⟨gb497, 1, none⟩ = some (.int .i64 a1_1) ∧ w'.cell? ⟨gb498, 0, none⟩ = some (.int .i64 a2_0) ∧ w'.cell? ⟨gb498, 1, none⟩ = some (.int .i64 a2_1)) (ds := []) (lb 12 0) (by kernel_rfl) rfl rfl ⟨bc BK497 0, bc BK497 1, bc BK498 0, bc BK498 1⟩ (fun hHeld => ?_); refine with_tabW laws_FnExactRangeDo.tab1 laws_FnExactRangeDo.bits1 (fun HT_ HW_ => ?_)
 generalize w12.drew = w13 at BK497 BK498 HB hHeld ⊢
 refine pj 0 (some 16) (lb 12 1) ?_
 refine take_ (i := 1) (N := some 17) (v := ?_) (a' := ?_) (lb 12 3) rfl rfl (take_ofW HT_.out HW_.out (by kernel_rfl)) (fun _ _ _ h => h) (Or.inl ⟨by rfl, ?_⟩) hHeld ?_ ?_
 rotate_left
 ·rintro w' ⟨s0, s1, s2, s3⟩
  go_simp
  with_reducible rfl
 rotate_left
 ·exact pz
 refine take_ (i := 3) (N := some 19) (v := ?_) (a' := ?_) (lb 12 11) rfl rfl (take_ofW HT_.out HW_.out (by kernel_rfl)) (fun _ _ _ h => h) (Or.inl ⟨by rfl, ?_⟩) hHeld ?_ ?_
 rotate_left
 ·rintro w' ⟨s0, s1, s2, s3⟩
  go_simp
  with_reducible rfl
 rotate_left
 ·exact pz
 refine join_ (σ := Value × Nat) 2 (lb 12 1023) (fun s_ => [(18, .agg #[.int .i64 t499, .int .i64 t500]), (20, .agg #[.int .i64 t501, .int .i64 t502]), (21, .tuple #[.agg #[.int .i64 t503, .int .i64 t504], s_.1]), (7, .pointer (some ⟨s_.2, 0, none⟩)), (15, .tuple #[.agg #[.int .i64 t503, .int .i64 t504], s_.1]), (22, .agg #[.int .i64 t503, .int .i64 t504]), (23, s_.1)]) (fun s_ w' => (w'.cell? ⟨gb497, 0, none⟩ = some (.int .i64 a1_0) ∧ w'.cell? ⟨gb497, 1, none⟩ = some (.int .i64 a1_1) ∧ w'.cell? ⟨gb498, 0, none⟩ = some (.int .i64 a2_0) ∧ w'.cell? ⟨gb498, 1, none⟩ = some (.int .i64 a2_1)) ∧ (Kd.R (Kd.int .i64) 3 w' w.heap.size (fun _ => True) s_.1 t505) ∧ (w'.heap[gb497]? = some (.cells #[.int .i64 a1_0, .int .i64 a1_1] 23 (0, 0))) ∧ (w'.heap[gb498]? = some (.cells #[.int .i64 a2_0, .int .i64 a2_1] 23 (0, 0))) ∧ (w'.heap[s_.2]? = some (.cells #[.int .i64 0, .int .i64 0] 24 (0, 0))) ∧ (w.heap.size ≤ s_.2) ∧ (w.heap.size ≤ s_.2) ∧ (gb497 ≠ s_.2) ∧ (s_.2 ≠ gb497) ∧ (gb498 ≠ s_.2) ∧ (s_.2 ≠ gb498) ∧ (Below w.heap.size w w')) ?_ ?_
 rotate_left
 ·intro hCont
  refine two_ (i := 2) (j := 9) (Ni := some 18) (Nj := some 7) (lb 12 15) (lb 12 523) rfl rfl rfl rfl (two_of HT_.out (by kernel_rfl)) (by decide) (by decide) (fun K hK => ?_) (fun K hK => ?_)
  rotate_left
  ·skip
   refine box_step ?hg (N := 7) ?hd (cs := #[.int .i64 0, .int .i64 0]) (t := 24) ?hr ?_; (case hd => rfl); (case hg => rfl); (case hr => first | (go_simp; done) | (go_simp; rfl))
   intro gb508 hg w14 hbox hb
   have BK508 := am (hbox)
   have GW508 := am (bs hg (Y2 HB GE497 GE498))
   have GE508 := am (bs hg (Y2 HB GE497 GE498))
   obtain ⟨NB497_508,NB508_497⟩ := ne_ hg BK497
   obtain ⟨NB498_508,NB508_498⟩ := ne_ hg BK498
   replace BK497 := bb BK497 hb
   replace BK498 := bb BK498 hb
   replace HB := am (below_step (Y2 HB GE497 GE498) hb)
   clear hb hbox hg
   refine hK.out _ _ ⟨bc BK497 0, bc BK497 1, bc BK498 0, bc BK498 1⟩ (fun hHeld => ?_)
   clear hK K
   refine norm_ (a' := ?_) ?_ ?_
   rotate_left
   ·show Act.put _ (some 7) _ = _
    simp only [Act.put, List.setIfInBounds_toArray, List.set_cons_zero, List.set_cons_succ, i64_w, i32_w]
    rfl
   refine one_ (i := 2) (N := some 18) (lb 12 527) rfl rfl (one_of HT_.out (by kernel_rfl)) (by decide) (fun K hK => ?_)
   refine goes_ Try.func10 (by kernel_rfl) rfl #[.agg #[.int .i64 a1_0, .int .i64 a1_1]] (by rfl) rfl rfl mz ?_
   with_reducible refine (laws_toRange.calls a1_0 a1_1 t499 t500 _ A4.out).mono ?_
   rintro e w15 ⟨rfl, hb⟩
   refine ⟨_, rfl, ?_⟩
   replace BK497 := bb BK497 hb
   replace BK498 := bb BK498 hb
   replace BK508 := bb BK508 hb
   replace HB := am (below_step (Y3 HB GE497 GE498 GE508) hb)
   (try clear hb)
   (try clear hb2)
   (try clear hk)
   (try clear hi)
   refine hK.out _ _ ⟨bc BK497 0, bc BK497 1, bc BK498 0, bc BK498 1⟩ (fun hHeld => ?_)
   clear hK K
   refine norm_ (a' := ?_) ?_ ?_
   rotate_left
   ·show Act.put _ (some 18) _ = _
    simp only [Act.put, List.setIfInBounds_toArray, List.set_cons_zero, List.set_cons_succ, i64_w, i32_w]
    rfl
   refine one_ (i := 4) (N := some 20) (lb 12 543) rfl rfl (one_of HT_.out (by kernel_rfl)) (by decide) (fun K hK => ?_)
   refine goes_ Try.func10 (by kernel_rfl) rfl #[.agg #[.int .i64 a2_0, .int .i64 a2_1]] (by rfl) rfl rfl mz ?_
   with_reducible refine (laws_toRange.calls a2_0 a2_1 t501 t502 _ A5.out).mono ?_
   rintro e w16 ⟨rfl, hb⟩
   refine ⟨_, rfl, ?_⟩
   replace BK497 := bb BK497 hb
   replace BK498 := bb BK498 hb
   replace BK508 := bb BK508 hb
   replace HB := am (below_step (Y3 HB GE497 GE498 GE508) hb)
   (try clear hb)
   (try clear hb2)
   (try clear hk)
   (try clear hi)
   refine hK.out _ _ ⟨bc BK497 0, bc BK497 1, bc BK498 0, bc BK498 1⟩ (fun hHeld => ?_)
   clear hK K
   refine norm_ (a' := ?_) ?_ ?_
   rotate_left
   ·show Act.put _ (some 20) _ = _
    simp only [Act.put, List.setIfInBounds_toArray, List.set_cons_zero, List.set_cons_succ, i64_w, i32_w]
    rfl
   refine one_ (i := 5) (N := some 21) (lb 12 575) rfl rfl (one_of HT_.out (by kernel_rfl)) (by decide) (fun K hK => ?_)
   refine goes_ Try.func9 (by kernel_rfl) rfl #[.int .i64 a0, .agg #[.int .i64 t499, .int .i64 t500], .agg #[.int .i64 t501, .int .i64 t502]] (by rfl) rfl rfl mz ?_
   with_reducible refine (spec_RangeDo.calls k a0 t499 t500 t501 t502 t503 t504 t505 _ A6.out).mono ?_
   rintro e w17 ⟨v506, rfl, ho0, hb⟩
   refine ⟨_, rfl, ?_⟩
   have HO507 := am (Kd.R_lower ho0 (below_size (Y3 HB GE497 GE498 GE508)))
   replace BK497 := bb BK497 hb
   replace BK498 := bb BK498 hb
   replace BK508 := bb BK508 hb
   replace HB := am (below_step (Y3 HB GE497 GE498 GE508) hb)
   (try clear hb)
   (try clear hb2)
   (try clear hk)
   (try clear hi)
   (try clear ho0)
   refine hK.out _ _ ⟨bc BK497 0, bc BK497 1, bc BK498 0, bc BK498 1⟩ (fun hHeld => ?_)
   clear hK K
   refine norm_ (a' := ?_) ?_ ?_
   rotate_left
   ·show Act.put _ (some 21) _ = _
    simp only [Act.put, List.setIfInBounds_toArray, List.set_cons_zero, List.set_cons_succ, i64_w, i32_w]
    rfl
   refine pj 6 (some 15) (lb 12 639) ?_
   refine pj 7 (some 22) (lb 12 767) ?_
   refine pj 8 (some 23) (lb 12 1023) ?_
   exact norm_ (by simp only [putAll, Act.put, List.setIfInBounds_toArray, List.set_cons_zero, List.set_cons_succ]) (hCont (v506, gb508) _ ⟨hHeld, (by (with_reducible repeat (first | apply Kd.R_alloc | apply Kd.R_drewN | apply Kd.R_drew)); exact HO507.out), (Z BK497), (Z BK498), (Z BK508), GW508.out, GE508.out, NB497_508.out, NB508_497.out, NB498_508.out, NB508_498.out, (Y3 HB GE497 GE498 GE508)⟩)
  skip
  refine goes_ Try.func10 (by kernel_rfl) rfl #[.agg #[.int .i64 a1_0, .int .i64 a1_1]] (by rfl) rfl rfl mz ?_
  with_reducible refine (laws_toRange.calls a1_0 a1_1 t499 t500 _ A4.out).mono ?_
  rintro e w14 ⟨rfl, hb⟩
  refine ⟨_, rfl, ?_⟩
  replace BK497 := bb BK497 hb
  replace BK498 := bb BK498 hb
  replace HB := am (below_step (Y2 HB GE497 GE498) hb)
  (try clear hb)
  (try clear hb2)
  (try clear hk)
  (try clear hi)
  refine hK.out _ _ ⟨bc BK497 0, bc BK497 1, bc BK498 0, bc BK498 1⟩ (fun hHeld => ?_)
  clear hK K
  refine norm_ (a' := ?_) ?_ ?_
  rotate_left
  ·show Act.put _ (some 18) _ = _
   simp only [Act.put, List.setIfInBounds_toArray, List.set_cons_zero, List.set_cons_succ, i64_w, i32_w]
   rfl
  refine two_ (i := 4) (j := 9) (Ni := some 20) (Nj := some 7) (lb 12 31) (lb 12 527) rfl rfl rfl rfl (two_of HT_.out (by kernel_rfl)) (by decide) (by decide) (fun K hK => ?_) (fun K hK => ?_)
  rotate_left
  ·skip
   refine box_step ?hg (N := 7) ?hd (cs := #[.int .i64 0, .int .i64 0]) (t := 24) ?hr ?_; (case hd => rfl); (case hg => rfl); (case hr => first | (go_simp; done) | (go_simp; rfl))
   intro gb508 hg w15 hbox hb
   have BK508 := am (hbox)
   have GW508 := am (bs hg (Y2 HB GE497 GE498))
   have GE508 := am (bs hg (Y2 HB GE497 GE498))
   obtain ⟨NB497_508,NB508_497⟩ := ne_ hg BK497
   obtain ⟨NB498_508,NB508_498⟩ := ne_ hg BK498
   replace BK497 := bb BK497 hb
   replace BK498 := bb BK498 hb
   replace HB := am (below_step (Y2 HB GE497 GE498) hb)
   clear hb hbox hg
   refine hK.out _ _ ⟨bc BK497 0, bc BK497 1, bc BK498 0, bc BK498 1⟩ (fun hHeld => ?_)
   clear hK K
   refine norm_ (a' := ?_) ?_ ?_
   rotate_left
   ·show Act.put _ (some 7) _ = _
    simp only [Act.put, List.setIfInBounds_toArray, List.set_cons_zero, List.set_cons_succ, i64_w, i32_w]
    rfl
   refine one_ (i := 4) (N := some 20) (lb 12 543) rfl rfl (one_of HT_.out (by kernel_rfl)) (by decide) (fun K hK => ?_)
   refine goes_ Try.func10 (by kernel_rfl) rfl #[.agg #[.int .i64 a2_0, .int .i64 a2_1]] (by rfl) rfl rfl mz ?_
   with_reducible refine (laws_toRange.calls a2_0 a2_1 t501 t502 _ A5.out).mono ?_
   rintro e w16 ⟨rfl, hb⟩
   refine ⟨_, rfl, ?_⟩
   replace BK497 := bb BK497 hb
   replace BK498 := bb BK498 hb
   replace BK508 := bb BK508 hb
   replace HB := am (below_step (Y3 HB GE497 GE498 GE508) hb)
   (try clear hb)
   (try clear hb2)
   (try clear hk)
   (try clear hi)
   refine hK.out _ _ ⟨bc BK497 0, bc BK497 1, bc BK498 0, bc BK498 1⟩ (fun hHeld => ?_)
   clear hK K
   refine norm_ (a' := ?_) ?_ ?_
   rotate_left
   ·show Act.put _ (some 20) _ = _
    simp only [Act.put, List.setIfInBounds_toArray, List.set_cons_zero, List.set_cons_succ, i64_w, i32_w]
    rfl
   refine one_ (i := 5) (N := some 21) (lb 12 575) rfl rfl (one_of HT_.out (by kernel_rfl)) (by decide) (fun K hK => ?_)
   refine goes_ Try.func9 (by kernel_rfl) rfl #[.int .i64 a0, .agg #[.int .i64 t499, .int .i64 t500], .agg #[.int .i64 t501, .int .i64 t502]] (by rfl) rfl rfl mz ?_
   with_reducible refine (spec_RangeDo.calls k a0 t499 t500 t501 t502 t503 t504 t505 _ A6.out).mono ?_
   rintro e w17 ⟨v506, rfl, ho0, hb⟩
   refine ⟨_, rfl, ?_⟩
   have HO507 := am (Kd.R_lower ho0 (below_size (Y3 HB GE497 GE498 GE508)))
   replace BK497 := bb BK497 hb
   replace BK498 := bb BK498 hb
   replace BK508 := bb BK508 hb
   replace HB := am (below_step (Y3 HB GE497 GE498 GE508) hb)
   (try clear hb)
   (try clear hb2)
   (try clear hk)
   (try clear hi)
   (try clear ho0)
   refine hK.out _ _ ⟨bc BK497 0, bc BK497 1, bc BK498 0, bc BK498 1⟩ (fun hHeld => ?_)
   clear hK K
   refine norm_ (a' := ?_) ?_ ?_
   rotate_left
   ·show Act.put _ (some 21) _ = _
    simp only [Act.put, List.setIfInBounds_toArray, List.set_cons_zero, List.set_cons_succ, i64_w, i32_w]
    rfl
   refine pj 6 (some 15) (lb 12 639) ?_
   refine pj 7 (some 22) (lb 12 767) ?_
   refine pj 8 (some 23) (lb 12 1023) ?_
   exact norm_ (by simp only [putAll, Act.put, List.setIfInBounds_toArray, List.set_cons_zero, List.set_cons_succ]) (hCont (v506, gb508) _ ⟨hHeld, (by (with_reducible repeat (first | apply Kd.R_alloc | apply Kd.R_drewN | apply Kd.R_drew)); exact HO507.out), (Z BK497), (Z BK498), (Z BK508), GW508.out, GE508.out, NB497_508.out, NB508_497.out, NB498_508.out, NB508_498.out, (Y3 HB GE497 GE498 GE508)⟩)
  skip
  refine goes_ Try.func10 (by kernel_rfl) rfl #[.agg #[.int .i64 a2_0, .int .i64 a2_1]] (by rfl) rfl rfl mz ?_
  with_reducible refine (laws_toRange.calls a2_0 a2_1 t501 t502 _ A5.out).mono ?_
  rintro e w15 ⟨rfl, hb⟩
  refine ⟨_, rfl, ?_⟩
  replace BK497 := bb BK497 hb
  replace BK498 := bb BK498 hb
  replace HB := am (below_step (Y2 HB GE497 GE498) hb)
  (try clear hb)
  (try clear hb2)
  (try clear hk)
  (try clear hi)
  refine hK.out _ _ ⟨bc BK497 0, bc BK497 1, bc BK498 0, bc BK498 1⟩ (fun hHeld => ?_)
  clear hK K
  refine norm_ (a' := ?_) ?_ ?_
  rotate_left
  ·show Act.put _ (some 20) _ = _
   simp only [Act.put, List.setIfInBounds_toArray, List.set_cons_zero, List.set_cons_succ, i64_w, i32_w]
   rfl
  refine two_ (i := 5) (j := 9) (Ni := some 21) (Nj := some 7) (lb 12 63) (lb 12 543) rfl rfl rfl rfl (two_of HT_.out (by kernel_rfl)) (by decide) (by decide) (fun K hK => ?_) (fun K hK => ?_)
  rotate_left
  ·skip
   refine box_step ?hg (N := 7) ?hd (cs := #[.int .i64 0, .int .i64 0]) (t := 24) ?hr ?_; (case hd => rfl); (case hg => rfl); (case hr => first | (go_simp; done) | (go_simp; rfl))
   intro gb508 hg w16 hbox hb
   have BK508 := am (hbox)
   have GW508 := am (bs hg (Y2 HB GE497 GE498))
   have GE508 := am (bs hg (Y2 HB GE497 GE498))
   obtain ⟨NB497_508,NB508_497⟩ := ne_ hg BK497
   obtain ⟨NB498_508,NB508_498⟩ := ne_ hg BK498
   replace BK497 := bb BK497 hb
   replace BK498 := bb BK498 hb
   replace HB := am (below_step (Y2 HB GE497 GE498) hb)
   clear hb hbox hg
   refine hK.out _ _ ⟨bc BK497 0, bc BK497 1, bc BK498 0, bc BK498 1⟩ (fun hHeld => ?_)
   clear hK K
   refine norm_ (a' := ?_) ?_ ?_
   rotate_left
   ·show Act.put _ (some 7) _ = _
    simp only [Act.put, List.setIfInBounds_toArray, List.set_cons_zero, List.set_cons_succ, i64_w, i32_w]
    rfl
   refine one_ (i := 5) (N := some 21) (lb 12 575) rfl rfl (one_of HT_.out (by kernel_rfl)) (by decide) (fun K hK => ?_)
   refine goes_ Try.func9 (by kernel_rfl) rfl #[.int .i64 a0, .agg #[.int .i64 t499, .int .i64 t500], .agg #[.int .i64 t501, .int .i64 t502]] (by rfl) rfl rfl mz ?_
   with_reducible refine (spec_RangeDo.calls k a0 t499 t500 t501 t502 t503 t504 t505 _ A6.out).mono ?_
   rintro e w17 ⟨v506, rfl, ho0, hb⟩
   refine ⟨_, rfl, ?_⟩
   have HO507 := am (Kd.R_lower ho0 (below_size (Y3 HB GE497 GE498 GE508)))
   replace BK497 := bb BK497 hb
   replace BK498 := bb BK498 hb
   replace BK508 := bb BK508 hb
   replace HB := am (below_step (Y3 HB GE497 GE498 GE508) hb)
   (try clear hb)
   (try clear hb2)
   (try clear hk)
   (try clear hi)
   (try clear ho0)
   refine hK.out _ _ ⟨bc BK497 0, bc BK497 1, bc BK498 0, bc BK498 1⟩ (fun hHeld => ?_)
   clear hK K
   refine norm_ (a' := ?_) ?_ ?_
   rotate_left
   ·show Act.put _ (some 21) _ = _
    simp only [Act.put, List.setIfInBounds_toArray, List.set_cons_zero, List.set_cons_succ, i64_w, i32_w]
    rfl
   refine pj 6 (some 15) (lb 12 639) ?_
   refine pj 7 (some 22) (lb 12 767) ?_
   refine pj 8 (some 23) (lb 12 1023) ?_
   exact norm_ (by simp only [putAll, Act.put, List.setIfInBounds_toArray, List.set_cons_zero, List.set_cons_succ]) (hCont (v506, gb508) _ ⟨hHeld, (by (with_reducible repeat (first | apply Kd.R_alloc | apply Kd.R_drewN | apply Kd.R_drew)); exact HO507.out), (Z BK497), (Z BK498), (Z BK508), GW508.out, GE508.out, NB497_508.out, NB508_497.out, NB498_508.out, NB508_498.out, (Y3 HB GE497 GE498 GE508)⟩)
  skip
  refine goes_ Try.func9 (by kernel_rfl) rfl #[.int .i64 a0, .agg #[.int .i64 t499, .int .i64 t500], .agg #[.int .i64 t501, .int .i64 t502]] (by rfl) rfl rfl mz ?_
  with_reducible refine (spec_RangeDo.calls k a0 t499 t500 t501 t502 t503 t504 t505 _ A6.out).mono ?_
  rintro e w16 ⟨v506, rfl, ho0, hb⟩
  refine ⟨_, rfl, ?_⟩
  have HO507 := am (Kd.R_lower ho0 (below_size (Y2 HB GE497 GE498)))
  replace BK497 := bb BK497 hb
  replace BK498 := bb BK498 hb
  replace HB := am (below_step (Y2 HB GE497 GE498) hb)
  (try clear hb)
  (try clear hb2)
  (try clear hk)
  (try clear hi)
  (try clear ho0)
  refine hK.out _ _ ⟨bc BK497 0, bc BK497 1, bc BK498 0, bc BK498 1⟩ (fun hHeld => ?_)
  clear hK K
  refine norm_ (a' := ?_) ?_ ?_
  rotate_left
  ·show Act.put _ (some 21) _ = _
   simp only [Act.put, List.setIfInBounds_toArray, List.set_cons_zero, List.set_cons_succ, i64_w, i32_w]
   rfl
  refine pj 6 (some 15) (lb 12 127) ?_
  refine pj 7 (some 22) (lb 12 255) ?_
  refine pj 8 (some 23) (lb 12 511) ?_
  refine one_ (i := 9) (N := some 7) (lb 12 1023) rfl rfl (one_of HT_.out (by kernel_rfl)) (by decide) (fun K hK => ?_)
  refine box_step ?hg (N := 7) ?hd (cs := #[.int .i64 0, .int .i64 0]) (t := 24) ?hr ?_; (case hd => rfl); (case hg => rfl); (case hr => first | (go_simp; done) | (go_simp; rfl))
  intro gb508 hg w17 hbox hb
  have BK508 := am (hbox)
  have GW508 := am (bs hg (Y2 HB GE497 GE498))
  have GE508 := am (bs hg (Y2 HB GE497 GE498))
  obtain ⟨NB497_508,NB508_497⟩ := ne_ hg BK497
  obtain ⟨NB498_508,NB508_498⟩ := ne_ hg BK498
  replace HO507 := am (Kd.R_below (by (with_reducible repeat (first | apply Kd.R_alloc | apply Kd.R_drewN | apply Kd.R_drew)); exact HO507.out) hb)
  replace BK497 := bb BK497 hb
  replace BK498 := bb BK498 hb
  replace HB := am (below_step (Y2 HB GE497 GE498) hb)
  clear hb hbox hg
  refine hK.out _ _ ⟨bc BK497 0, bc BK497 1, bc BK498 0, bc BK498 1⟩ (fun hHeld => ?_)
  clear hK K
  refine norm_ (a' := ?_) ?_ ?_
  rotate_left
  ·show Act.put _ (some 7) _ = _
   simp only [Act.put, List.setIfInBounds_toArray, List.set_cons_zero, List.set_cons_succ, i64_w, i32_w]
   rfl
  exact norm_ (by simp only [putAll, Act.put, List.setIfInBounds_toArray, List.set_cons_zero, List.set_cons_succ]) (hCont (v506, gb508) _ ⟨hHeld, (by (with_reducible repeat (first | apply Kd.R_alloc | apply Kd.R_drewN | apply Kd.R_drew)); exact HO507.out), (Z BK497), (Z BK498), (Z BK508), GW508.out, GE508.out, NB497_508.out, NB508_497.out, NB498_508.out, NB508_498.out, (Y3 HB GE497 GE498 GE508)⟩)
 rintro ⟨v506, gb508⟩ w18 ⟨hS_, h0_, h1_, h2_, h3_, h4_, h5_, h6_, h7_, h8_, h9_, h10_⟩
 have HO507 : Aside0 (Kd.R (Kd.int .i64) 3 w18 w.heap.size (fun _ => True) v506 t505) := ⟨h0_⟩
 have BK508 : Aside0 (w18.heap[gb508]? = some (.cells #[.int .i64 0, .int .i64 0] 24 (0, 0))) := ⟨h3_⟩
 have GW508 : Aside0 (w.heap.size ≤ gb508) := ⟨h4_⟩
 have GE508 : Aside0 (w.heap.size ≤ gb508) := ⟨h5_⟩
 have NB497_508 : Aside0 (gb497 ≠ gb508) := ⟨h6_⟩
 have NB508_497 : Aside0 (gb508 ≠ gb497) := ⟨h7_⟩
 have NB498_508 : Aside0 (gb498 ≠ gb508) := ⟨h8_⟩
 have NB508_498 : Aside0 (gb508 ≠ gb498) := ⟨h9_⟩
 replace BK497 : Aside0 (w18.heap[gb497]? = some (.cells #[.int .i64 a1_0, .int .i64 a1_1] 23 (0, 0))) := ⟨h1_⟩
 replace BK498 : Aside0 (w18.heap[gb498]? = some (.cells #[.int .i64 a2_0, .int .i64 a2_1] 23 (0, 0))) := ⟨h2_⟩
 replace HB : Aside0 (Below w.heap.size w w18) := ⟨h10_⟩
 clear h0_ h1_ h2_ h3_ h4_ h5_ h6_ h7_ h8_ h9_ h10_
 have hHeld : w18.cell? ⟨gb497, 0, none⟩ = some (.int .i64 a1_0) ∧ w18.cell? ⟨gb497, 1, none⟩ = some (.int .i64 a1_1) ∧ w18.cell? ⟨gb498, 0, none⟩ = some (.int .i64 a2_0) ∧ w18.cell? ⟨gb498, 1, none⟩ = some (.int .i64 a2_1) := hS_
 refine norm_ (a' := ?_) ?_ ?_
 rotate_left
 ·simp only [putAll, Act.put, List.setIfInBounds_toArray, List.set_cons_zero, List.set_cons_succ]
  rfl
 refine one_ (i := 10) (N := none) (lb 12 2047) rfl rfl (one_of HT_.out (by kernel_rfl)) (by decide) (fun K hK => ?_)
 have hs19 : w18.cell? ⟨gb508, 0, none⟩ = some (.int .i64 0) := bc BK508 0
 have hfs19 := blk_frozen BK508.out 0
 have hns19_0 := NB497_508.out
 have hns19_1 := NB498_508.out
 have hms19_0 := NB508_497.out
 have hms19_1 := NB508_498.out
 have hs20 : w18.cell? ⟨gb508, 1, none⟩ = some (.int .i64 0) := bc BK508 1
 have hfs20 := blk_frozen BK508.out 1
 have hns20_0 := NB497_508.out
 have hns20_1 := NB498_508.out
 have hms20_0 := NB508_497.out
 have hms20_1 := NB508_498.out
 refine skip_ (w1 := ?_) (by rfl) rfl ?_ ?_
 rotate_left
 ·go_simp
  rfl
 refine hK.out _ _ ⟨((cell_far (p := ⟨gb508, _, none⟩) NB497_508.out _).trans (((cell_far (p := ⟨gb508, _, none⟩) NB497_508.out _).trans (hHeld.1)))), ((cell_far (p := ⟨gb508, _, none⟩) NB497_508.out _).trans (((cell_far (p := ⟨gb508, _, none⟩) NB497_508.out _).trans (hHeld.2.1)))), ((cell_far (p := ⟨gb508, _, none⟩) NB498_508.out _).trans (((cell_far (p := ⟨gb508, _, none⟩) NB498_508.out _).trans (hHeld.2.2.1)))), ((cell_far (p := ⟨gb508, _, none⟩) NB498_508.out _).trans (((cell_far (p := ⟨gb508, _, none⟩) NB498_508.out _).trans (hHeld.2.2.2))))⟩ (fun hHeld => ?_)
 clear hK K
 refine pj 11 (some 8) (lb 12 4095) ?_
 refine done_ (done_of HT_.out (by kernel_rfl)) ?_
 try go_wp2
 have n0_ : Aside0 (Kd.R (Kd.int .i64) 3 ((w18.setCell ⟨gb508, 0, none⟩ (.int .i64 t503)).setCell ⟨gb508, 1, none⟩ (.int .i64 t504)) w.heap.size (fun _ => True) v506 t505) := ⟨by (with_reducible repeat (first | apply Kd.R_alloc | apply Kd.R_drewN | apply Kd.R_drew)); exact Kd.R_mono (Kd.R_far (p := ⟨gb508, 1, none⟩) (Kd.R_far (p := ⟨gb508, 0, none⟩) (Kd.R_types HO507.out BK508.out (by decide)) (fun _ hk => hk.2) (.int .i64 t503)) (fun _ hk => hk.2) (.int .i64 t504)) (fun _ hk => trivial)⟩
 have n1_ : Aside0 (((w18.setCell ⟨gb508, 0, none⟩ (.int .i64 t503)).setCell ⟨gb508, 1, none⟩ (.int .i64 t504)).heap[gb497]? = some (.cells #[.int .i64 a1_0, .int .i64 a1_1] 23 (0, 0))) := ⟨by refine fa NB497_508 ?_; refine fa NB497_508 ?_; exact Z BK497⟩
 have n2_ : Aside0 (((w18.setCell ⟨gb508, 0, none⟩ (.int .i64 t503)).setCell ⟨gb508, 1, none⟩ (.int .i64 t504)).heap[gb498]? = some (.cells #[.int .i64 a2_0, .int .i64 a2_1] 23 (0, 0))) := ⟨by refine fa NB498_508 ?_; refine fa NB498_508 ?_; exact Z BK498⟩
 have n3_ : Aside0 (((w18.setCell ⟨gb508, 0, none⟩ (.int .i64 t503)).setCell ⟨gb508, 1, none⟩ (.int .i64 t504)).heap[gb508]? = some (.cells #[.int .i64 t503, .int .i64 t504] 24 (0, 0))) := ⟨by refine pf ?_; refine blk_put (cs := #[.int .i64 t503, .int .i64 0]) ?_ 1 _ rfl; refine pf ?_; refine blk_put (cs := #[.int .i64 0, .int .i64 0]) ?_ 0 _ rfl; exact Z BK508⟩
 have n4_ : Aside0 (Below w.heap.size w ((w18.setCell ⟨gb508, 0, none⟩ (.int .i64 t503)).setCell ⟨gb508, 1, none⟩ (.int .i64 t504))) := ⟨Y3 HB GE497 GE498 GE508⟩
 (try clear HO507)
 (try clear BK497)
 (try clear BK498)
 (try clear BK508)
 (try clear HB)
 generalize ((w18.setCell ⟨gb508, 0, none⟩ (.int .i64 t503)).setCell ⟨gb508, 1, none⟩ (.int .i64 t504)) = w21 at n0_ n1_ n2_ n3_ n4_ ⊢
 have HO507 := n0_
 have BK497 := n1_
 have BK498 := n2_
 have BK508 := n3_
 have HB := n4_
 clear n0_ n1_ n2_ n3_ n4_
 replace HO507 := am (Kd.R_drew HO507.out)
 replace BK497 := am (blk_drew BK497.out)
 replace BK498 := am (blk_drew BK498.out)
 replace BK508 := am (blk_drew BK508.out)
 replace HB := am (below_drew1 HB.out)
 refine start_ (n := 12) (S := fun w' => w'.cell? ⟨gb497, 0, none⟩ = some (.int .i64 a1_0) ∧ w'.cell? ⟨gb497, 1, none⟩ = some (.int .i64 a1_1) ∧ w'.cell? ⟨gb498, 0, none⟩ = some (.int .i64 a2_0) ∧ w'.cell? ⟨gb498, 1, none⟩ = some (.int .i64 a2_1)) (ds := []) (lb 12 0) (by kernel_rfl) rfl rfl ⟨bc BK497 0, bc BK497 1, bc BK498 0, bc BK498 1⟩ (fun hHeld => ?_); refine with_tabW laws_FnExactRangeDo.tab2 laws_FnExactRangeDo.bits2 (fun HT_ HW_ => ?_)
 generalize w21.drew = w22 at HO507 BK497 BK498 BK508 HB hHeld ⊢
 refine pj 0 (some 25) (lb 12 1) ?_
 refine take_ (i := 1) (N := some 26) (v := ?_) (a' := ?_) (lb 12 3) rfl rfl (take_ofW HT_.out HW_.out (by kernel_rfl)) (fun _ _ _ h => h) (Or.inl ⟨by rfl, ?_⟩) hHeld ?_ ?_
 rotate_left
 ·rintro w' ⟨s0, s1, s2, s3⟩
  go_simp
  with_reducible rfl
 rotate_left
 ·exact pz
 refine take_ (i := 3) (N := some 28) (v := ?_) (a' := ?_) (lb 12 11) rfl rfl (take_ofW HT_.out HW_.out (by kernel_rfl)) (fun _ _ _ h => h) (Or.inl ⟨by rfl, ?_⟩) hHeld ?_ ?_
 rotate_left
 ·rintro w' ⟨s0, s1, s2, s3⟩
  go_simp
  with_reducible rfl
 rotate_left
 ·exact pz
 refine join_ (σ := Value × Nat) 2 (lb 12 1023) (fun s_ => [(27, .agg #[.int .i64 t509, .int .i64 t510]), (29, .agg #[.int .i64 t511, .int .i64 t512]), (30, .tuple #[.agg #[.int .i64 t513, .int .i64 t514], s_.1]), (9, .pointer (some ⟨s_.2, 0, none⟩)), (24, .tuple #[.agg #[.int .i64 t513, .int .i64 t514], s_.1]), (31, .agg #[.int .i64 t513, .int .i64 t514]), (32, s_.1)]) (fun s_ w' => (w'.cell? ⟨gb497, 0, none⟩ = some (.int .i64 a1_0) ∧ w'.cell? ⟨gb497, 1, none⟩ = some (.int .i64 a1_1) ∧ w'.cell? ⟨gb498, 0, none⟩ = some (.int .i64 a2_0) ∧ w'.cell? ⟨gb498, 1, none⟩ = some (.int .i64 a2_1)) ∧ (Kd.R (Kd.int .i64) 3 w' w.heap.size (fun k_ => some k_ ≠ (s_.1 : Value).ownBlock) v506 t505) ∧ (Kd.R (Kd.int .i64) 3 w' w.heap.size (fun k_ => some k_ ≠ (v506 : Value).ownBlock) s_.1 t515) ∧ (w'.heap[gb497]? = some (.cells #[.int .i64 a1_0, .int .i64 a1_1] 23 (0, 0))) ∧ (w'.heap[gb498]? = some (.cells #[.int .i64 a2_0, .int .i64 a2_1] 23 (0, 0))) ∧ (w'.heap[gb508]? = some (.cells #[.int .i64 t503, .int .i64 t504] 24 (0, 0))) ∧ (w'.heap[s_.2]? = some (.cells #[.int .i64 0, .int .i64 0] 24 (0, 0))) ∧ (w.heap.size ≤ s_.2) ∧ (w.heap.size ≤ s_.2) ∧ (gb497 ≠ s_.2) ∧ (s_.2 ≠ gb497) ∧ (gb498 ≠ s_.2) ∧ (s_.2 ≠ gb498) ∧ (gb508 ≠ s_.2) ∧ (s_.2 ≠ gb508) ∧ (Below w.heap.size w w')) ?_ ?_
 rotate_left
 ·intro hCont
  refine two_ (i := 2) (j := 9) (Ni := some 27) (Nj := some 9) (lb 12 15) (lb 12 523) rfl rfl rfl rfl (two_of HT_.out (by kernel_rfl)) (by decide) (by decide) (fun K hK => ?_) (fun K hK => ?_)
  rotate_left
  ·skip
   refine box_step ?hg (N := 9) ?hd (cs := #[.int .i64 0, .int .i64 0]) (t := 24) ?hr ?_; (case hd => rfl); (case hg => rfl); (case hr => first | (go_simp; done) | (go_simp; rfl))
   intro gb518 hg w23 hbox hb
   have BK518 := am (hbox)
   have GW518 := am (bs hg (Y3 HB GE497 GE498 GE508))
   have GE518 := am (bs hg (Y3 HB GE497 GE498 GE508))
   obtain ⟨NB497_518,NB518_497⟩ := ne_ hg BK497
   obtain ⟨NB498_518,NB518_498⟩ := ne_ hg BK498
   obtain ⟨NB508_518,NB518_508⟩ := ne_ hg BK508
   replace HO507 := am (Kd.R_below (by (with_reducible repeat (first | apply Kd.R_alloc | apply Kd.R_drewN | apply Kd.R_drew)); exact HO507.out) hb)
   replace BK497 := bb BK497 hb
   replace BK498 := bb BK498 hb
   replace BK508 := bb BK508 hb
   replace HB := am (below_step (Y3 HB GE497 GE498 GE508) hb)
   clear hb hbox hg
   refine hK.out _ _ ⟨bc BK497 0, bc BK497 1, bc BK498 0, bc BK498 1⟩ (fun hHeld => ?_)
   clear hK K
   refine norm_ (a' := ?_) ?_ ?_
   rotate_left
   ·show Act.put _ (some 9) _ = _
    simp only [Act.put, List.setIfInBounds_toArray, List.set_cons_zero, List.set_cons_succ, i64_w, i32_w]
    rfl
   refine one_ (i := 2) (N := some 27) (lb 12 527) rfl rfl (one_of HT_.out (by kernel_rfl)) (by decide) (fun K hK => ?_)
   refine goes_ Try.func10 (by kernel_rfl) rfl #[.agg #[.int .i64 a1_0, .int .i64 a1_1]] (by rfl) rfl rfl mz ?_
   with_reducible refine (laws_toRange.calls a1_0 a1_1 t509 t510 _ A7.out).mono ?_
   rintro e w24 ⟨rfl, hb⟩
   refine ⟨_, rfl, ?_⟩
   replace HO507 := am (Kd.R_below (by (with_reducible repeat (first | apply Kd.R_alloc | apply Kd.R_drewN | apply Kd.R_drew)); exact HO507.out) hb)
   replace BK497 := bb BK497 hb
   replace BK498 := bb BK498 hb
   replace BK508 := bb BK508 hb
   replace BK518 := bb BK518 hb
   replace HB := am (below_step (Y4 HB GE497 GE498 GE508 GE518) hb)
   (try clear hb)
   (try clear hb2)
   (try clear hk)
   (try clear hi)
   refine hK.out _ _ ⟨bc BK497 0, bc BK497 1, bc BK498 0, bc BK498 1⟩ (fun hHeld => ?_)
   clear hK K
   refine norm_ (a' := ?_) ?_ ?_
   rotate_left
   ·show Act.put _ (some 27) _ = _
    simp only [Act.put, List.setIfInBounds_toArray, List.set_cons_zero, List.set_cons_succ, i64_w, i32_w]
    rfl
   refine one_ (i := 4) (N := some 29) (lb 12 543) rfl rfl (one_of HT_.out (by kernel_rfl)) (by decide) (fun K hK => ?_)
   refine goes_ Try.func10 (by kernel_rfl) rfl #[.agg #[.int .i64 a2_0, .int .i64 a2_1]] (by rfl) rfl rfl mz ?_
   with_reducible refine (laws_toRange.calls a2_0 a2_1 t511 t512 _ A8.out).mono ?_
   rintro e w25 ⟨rfl, hb⟩
   refine ⟨_, rfl, ?_⟩
   replace HO507 := am (Kd.R_below (by (with_reducible repeat (first | apply Kd.R_alloc | apply Kd.R_drewN | apply Kd.R_drew)); exact HO507.out) hb)
   replace BK497 := bb BK497 hb
   replace BK498 := bb BK498 hb
   replace BK508 := bb BK508 hb
   replace BK518 := bb BK518 hb
   replace HB := am (below_step (Y4 HB GE497 GE498 GE508 GE518) hb)
   (try clear hb)
   (try clear hb2)
   (try clear hk)
   (try clear hi)
   refine hK.out _ _ ⟨bc BK497 0, bc BK497 1, bc BK498 0, bc BK498 1⟩ (fun hHeld => ?_)
   clear hK K
   refine norm_ (a' := ?_) ?_ ?_
   rotate_left
   ·show Act.put _ (some 29) _ = _
    simp only [Act.put, List.setIfInBounds_toArray, List.set_cons_zero, List.set_cons_succ, i64_w, i32_w]
    rfl
   refine one_ (i := 5) (N := some 30) (lb 12 575) rfl rfl (one_of HT_.out (by kernel_rfl)) (by decide) (fun K hK => ?_)
   refine goes_ Try.func11 (by kernel_rfl) rfl #[.int .i64 a0, .agg #[.int .i64 t509, .int .i64 t510], .agg #[.int .i64 t511, .int .i64 t512]] (by rfl) rfl rfl mz ?_
   with_reducible refine (impl_RangeDo.calls k a0 t509 t510 t511 t512 t513 t514 t515 _ A9.out).mono ?_
   rintro e w26 ⟨v516, rfl, ho0, hb⟩
   refine ⟨_, rfl, ?_⟩
   have HO517 := am (Kd.R_lower (Kd.R_new' ho0 (Kd.R_lt (by (with_reducible repeat (first | apply Kd.R_alloc | apply Kd.R_drewN | apply Kd.R_drew)); exact HO507.out))) (below_size (Y4 HB GE497 GE498 GE508 GE518)))
   replace HO507 := am (Kd.R_elder' (by (with_reducible repeat (first | apply Kd.R_alloc | apply Kd.R_drewN | apply Kd.R_drew)); exact HO507.out) (Kd.R_base ho0) hb)
   replace BK497 := bb BK497 hb
   replace BK498 := bb BK498 hb
   replace BK508 := bb BK508 hb
   replace BK518 := bb BK518 hb
   replace HB := am (below_step (Y4 HB GE497 GE498 GE508 GE518) hb)
   (try clear hb)
   (try clear hb2)
   (try clear hk)
   (try clear hi)
   (try clear ho0)
   refine hK.out _ _ ⟨bc BK497 0, bc BK497 1, bc BK498 0, bc BK498 1⟩ (fun hHeld => ?_)
   clear hK K
   refine norm_ (a' := ?_) ?_ ?_
   rotate_left
   ·show Act.put _ (some 30) _ = _
    simp only [Act.put, List.setIfInBounds_toArray, List.set_cons_zero, List.set_cons_succ, i64_w, i32_w]
    rfl
   refine pj 6 (some 24) (lb 12 639) ?_
   refine pj 7 (some 31) (lb 12 767) ?_
   refine pj 8 (some 32) (lb 12 1023) ?_
   exact norm_ (by simp only [putAll, Act.put, List.setIfInBounds_toArray, List.set_cons_zero, List.set_cons_succ]) (hCont (v516, gb518) _ ⟨hHeld, (by (with_reducible repeat (first | apply Kd.R_alloc | apply Kd.R_drewN | apply Kd.R_drew)); exact Kd.R_mono HO507.out (fun _ hk => hk.2)), (by (with_reducible repeat (first | apply Kd.R_alloc | apply Kd.R_drewN | apply Kd.R_drew)); exact Kd.R_mono HO517.out (fun _ hk => hk.2)), (Z BK497), (Z BK498), (Z BK508), (Z BK518), GW518.out, GE518.out, NB497_518.out, NB518_497.out, NB498_518.out, NB518_498.out, NB508_518.out, NB518_508.out, (Y4 HB GE497 GE498 GE508 GE518)⟩)
  skip
  refine goes_ Try.func10 (by kernel_rfl) rfl #[.agg #[.int .i64 a1_0, .int .i64 a1_1]] (by rfl) rfl rfl mz ?_
  with_reducible refine (laws_toRange.calls a1_0 a1_1 t509 t510 _ A7.out).mono ?_
  rintro e w23 ⟨rfl, hb⟩
  refine ⟨_, rfl, ?_⟩
  replace HO507 := am (Kd.R_below (by (with_reducible repeat (first | apply Kd.R_alloc | apply Kd.R_drewN | apply Kd.R_drew)); exact HO507.out) hb)
  replace BK497 := bb BK497 hb
  replace BK498 := bb BK498 hb
  replace BK508 := bb BK508 hb
  replace HB := am (below_step (Y3 HB GE497 GE498 GE508) hb)
  (try clear hb)
  (try clear hb2)
  (try clear hk)
  (try clear hi)
  refine hK.out _ _ ⟨bc BK497 0, bc BK497 1, bc BK498 0, bc BK498 1⟩ (fun hHeld => ?_)
  clear hK K
  refine norm_ (a' := ?_) ?_ ?_
  rotate_left
  ·show Act.put _ (some 27) _ = _
   simp only [Act.put, List.setIfInBounds_toArray, List.set_cons_zero, List.set_cons_succ, i64_w, i32_w]
   rfl
  refine two_ (i := 4) (j := 9) (Ni := some 29) (Nj := some 9) (lb 12 31) (lb 12 527) rfl rfl rfl rfl (two_of HT_.out (by kernel_rfl)) (by decide) (by decide) (fun K hK => ?_) (fun K hK => ?_)
  rotate_left
  ·skip
   refine box_step ?hg (N := 9) ?hd (cs := #[.int .i64 0, .int .i64 0]) (t := 24) ?hr ?_; (case hd => rfl); (case hg => rfl); (case hr => first | (go_simp; done) | (go_simp; rfl))
   intro gb518 hg w24 hbox hb
   have BK518 := am (hbox)
   have GW518 := am (bs hg (Y3 HB GE497 GE498 GE508))
   have GE518 := am (bs hg (Y3 HB GE497 GE498 GE508))
   obtain ⟨NB497_518,NB518_497⟩ := ne_ hg BK497
   obtain ⟨NB498_518,NB518_498⟩ := ne_ hg BK498
   obtain ⟨NB508_518,NB518_508⟩ := ne_ hg BK508
   replace HO507 := am (Kd.R_below (by (with_reducible repeat (first | apply Kd.R_alloc | apply Kd.R_drewN | apply Kd.R_drew)); exact HO507.out) hb)
   replace BK497 := bb BK497 hb
   replace BK498 := bb BK498 hb
   replace BK508 := bb BK508 hb
   replace HB := am (below_step (Y3 HB GE497 GE498 GE508) hb)
   clear hb hbox hg
   refine hK.out _ _ ⟨bc BK497 0, bc BK497 1, bc BK498 0, bc BK498 1⟩ (fun hHeld => ?_)
   clear hK K
   refine norm_ (a' := ?_) ?_ ?_
   rotate_left
   ·show Act.put _ (some 9) _ = _
    simp only [Act.put, List.setIfInBounds_toArray, List.set_cons_zero, List.set_cons_succ, i64_w, i32_w]
    rfl
   refine one_ (i := 4) (N := some 29) (lb 12 543) rfl rfl (one_of HT_.out (by kernel_rfl)) (by decide) (fun K hK => ?_)
   refine goes_ Try.func10 (by kernel_rfl) rfl #[.agg #[.int .i64 a2_0, .int .i64 a2_1]] (by rfl) rfl rfl mz ?_
   with_reducible refine (laws_toRange.calls a2_0 a2_1 t511 t512 _ A8.out).mono ?_
   rintro e w25 ⟨rfl, hb⟩
   refine ⟨_, rfl, ?_⟩
   replace HO507 := am (Kd.R_below (by (with_reducible repeat (first | apply Kd.R_alloc | apply Kd.R_drewN | apply Kd.R_drew)); exact HO507.out) hb)
   replace BK497 := bb BK497 hb
   replace BK498 := bb BK498 hb
   replace BK508 := bb BK508 hb
   replace BK518 := bb BK518 hb
   replace HB := am (below_step (Y4 HB GE497 GE498 GE508 GE518) hb)
   (try clear hb)
   (try clear hb2)
   (try clear hk)
   (try clear hi)
   refine hK.out _ _ ⟨bc BK497 0, bc BK497 1, bc BK498 0, bc BK498 1⟩ (fun hHeld => ?_)
   clear hK K
   refine norm_ (a' := ?_) ?_ ?_
   rotate_left
   ·show Act.put _ (some 29) _ = _
    simp only [Act.put, List.setIfInBounds_toArray, List.set_cons_zero, List.set_cons_succ, i64_w, i32_w]
    rfl
   refine one_ (i := 5) (N := some 30) (lb 12 575) rfl rfl (one_of HT_.out (by kernel_rfl)) (by decide) (fun K hK => ?_)
   refine goes_ Try.func11 (by kernel_rfl) rfl #[.int .i64 a0, .agg #[.int .i64 t509, .int .i64 t510], .agg #[.int .i64 t511, .int .i64 t512]] (by rfl) rfl rfl mz ?_
   with_reducible refine (impl_RangeDo.calls k a0 t509 t510 t511 t512 t513 t514 t515 _ A9.out).mono ?_
   rintro e w26 ⟨v516, rfl, ho0, hb⟩
   refine ⟨_, rfl, ?_⟩
   have HO517 := am (Kd.R_lower (Kd.R_new' ho0 (Kd.R_lt (by (with_reducible repeat (first | apply Kd.R_alloc | apply Kd.R_drewN | apply Kd.R_drew)); exact HO507.out))) (below_size (Y4 HB GE497 GE498 GE508 GE518)))
   replace HO507 := am (Kd.R_elder' (by (with_reducible repeat (first | apply Kd.R_alloc | apply Kd.R_drewN | apply Kd.R_drew)); exact HO507.out) (Kd.R_base ho0) hb)
   replace BK497 := bb BK497 hb
   replace BK498 := bb BK498 hb
   replace BK508 := bb BK508 hb
   replace BK518 := bb BK518 hb
   replace HB := am (below_step (Y4 HB GE497 GE498 GE508 GE518) hb)
   (try clear hb)
   (try clear hb2)
   (try clear hk)
   (try clear hi)
   (try clear ho0)
   refine hK.out _ _ ⟨bc BK497 0, bc BK497 1, bc BK498 0, bc BK498 1⟩ (fun hHeld => ?_)
   clear hK K
   refine norm_ (a' := ?_) ?_ ?_
   rotate_left
   ·show Act.put _ (some 30) _ = _
    simp only [Act.put, List.setIfInBounds_toArray, List.set_cons_zero, List.set_cons_succ, i64_w, i32_w]
    rfl
   refine pj 6 (some 24) (lb 12 639) ?_
   refine pj 7 (some 31) (lb 12 767) ?_
   refine pj 8 (some 32) (lb 12 1023) ?_
   exact norm_ (by simp only [putAll, Act.put, List.setIfInBounds_toArray, List.set_cons_zero, List.set_cons_succ]) (hCont (v516, gb518) _ ⟨hHeld, (by (with_reducible repeat (first | apply Kd.R_alloc | apply Kd.R_drewN | apply Kd.R_drew)); exact Kd.R_mono HO507.out (fun _ hk => hk.2)), (by (with_reducible repeat (first | apply Kd.R_alloc | apply Kd.R_drewN | apply Kd.R_drew)); exact Kd.R_mono HO517.out (fun _ hk => hk.2)), (Z BK497), (Z BK498), (Z BK508), (Z BK518), GW518.out, GE518.out, NB497_518.out, NB518_497.out, NB498_518.out, NB518_498.out, NB508_518.out, NB518_508.out, (Y4 HB GE497 GE498 GE508 GE518)⟩)
  skip
  refine goes_ Try.func10 (by kernel_rfl) rfl #[.agg #[.int .i64 a2_0, .int .i64 a2_1]] (by rfl) rfl rfl mz ?_
  with_reducible refine (laws_toRange.calls a2_0 a2_1 t511 t512 _ A8.out).mono ?_
  rintro e w24 ⟨rfl, hb⟩
  refine ⟨_, rfl, ?_⟩
  replace HO507 := am (Kd.R_below (by (with_reducible repeat (first | apply Kd.R_alloc | apply Kd.R_drewN | apply Kd.R_drew)); exact HO507.out) hb)
  replace BK497 := bb BK497 hb
  replace BK498 := bb BK498 hb
  replace BK508 := bb BK508 hb
  replace HB := am (below_step (Y3 HB GE497 GE498 GE508) hb)
  (try clear hb)
  (try clear hb2)
  (try clear hk)
  (try clear hi)
  refine hK.out _ _ ⟨bc BK497 0, bc BK497 1, bc BK498 0, bc BK498 1⟩ (fun hHeld => ?_)
  clear hK K
  refine norm_ (a' := ?_) ?_ ?_
  rotate_left
  ·show Act.put _ (some 29) _ = _
   simp only [Act.put, List.setIfInBounds_toArray, List.set_cons_zero, List.set_cons_succ, i64_w, i32_w]
   rfl
  refine two_ (i := 5) (j := 9) (Ni := some 30) (Nj := some 9) (lb 12 63) (lb 12 543) rfl rfl rfl rfl (two_of HT_.out (by kernel_rfl)) (by decide) (by decide) (fun K hK => ?_) (fun K hK => ?_)
  rotate_left
  ·skip
   refine box_step ?hg (N := 9) ?hd (cs := #[.int .i64 0, .int .i64 0]) (t := 24) ?hr ?_; (case hd => rfl); (case hg => rfl); (case hr => first | (go_simp; done) | (go_simp; rfl))
   intro gb518 hg w25 hbox hb
   have BK518 := am (hbox)
   have GW518 := am (bs hg (Y3 HB GE497 GE498 GE508))
   have GE518 := am (bs hg (Y3 HB GE497 GE498 GE508))
   obtain ⟨NB497_518,NB518_497⟩ := ne_ hg BK497
   obtain ⟨NB498_518,NB518_498⟩ := ne_ hg BK498
   obtain ⟨NB508_518,NB518_508⟩ := ne_ hg BK508
   replace HO507 := am (Kd.R_below (by (with_reducible repeat (first | apply Kd.R_alloc | apply Kd.R_drewN | apply Kd.R_drew)); exact HO507.out) hb)
   replace BK497 := bb BK497 hb
   replace BK498 := bb BK498 hb
   replace BK508 := bb BK508 hb
   replace HB := am (below_step (Y3 HB GE497 GE498 GE508) hb)
   clear hb hbox hg
   refine hK.out _ _ ⟨bc BK497 0, bc BK497 1, bc BK498 0, bc BK498 1⟩ (fun hHeld => ?_)
   clear hK K
   refine norm_ (a' := ?_) ?_ ?_
   rotate_left
   ·show Act.put _ (some 9) _ = _
    simp only [Act.put, List.setIfInBounds_toArray, List.set_cons_zero, List.set_cons_succ, i64_w, i32_w]
    rfl
   refine one_ (i := 5) (N := some 30) (lb 12 575) rfl rfl (one_of HT_.out (by kernel_rfl)) (by decide) (fun K hK => ?_)
   refine goes_ Try.func11 (by kernel_rfl) rfl #[.int .i64 a0, .agg #[.int .i64 t509, .int .i64 t510], .agg #[.int .i64 t511, .int .i64 t512]] (by rfl) rfl rfl mz ?_
   with_reducible refine (impl_RangeDo.calls k a0 t509 t510 t511 t512 t513 t514 t515 _ A9.out).mono ?_
   rintro e w26 ⟨v516, rfl, ho0, hb⟩
   refine ⟨_, rfl, ?_⟩
   have HO517 := am (Kd.R_lower (Kd.R_new' ho0 (Kd.R_lt (by (with_reducible repeat (first | apply Kd.R_alloc | apply Kd.R_drewN | apply Kd.R_drew)); exact HO507.out))) (below_size (Y4 HB GE497 GE498 GE508 GE518)))
   replace HO507 := am (Kd.R_elder' (by (with_reducible repeat (first | apply Kd.R_alloc | apply Kd.R_drewN | apply Kd.R_drew)); exact HO507.out) (Kd.R_base ho0) hb)
   replace BK497 := bb BK497 hb
   replace BK498 := bb BK498 hb
   replace BK508 := bb BK508 hb
   replace BK518 := bb BK518 hb
   replace HB := am (below_step (Y4 HB GE497 GE498 GE508 GE518) hb)
   (try clear hb)
   (try clear hb2)
   (try clear hk)
   (try clear hi)
   (try clear ho0)
   refine hK.out _ _ ⟨bc BK497 0, bc BK497 1, bc BK498 0, bc BK498 1⟩ (fun hHeld => ?_)
   clear hK K
   refine norm_ (a' := ?_) ?_ ?_
   rotate_left
   ·show Act.put _ (some 30) _ = _
    simp only [Act.put, List.setIfInBounds_toArray, List.set_cons_zero, List.set_cons_succ, i64_w, i32_w]
    rfl
   refine pj 6 (some 24) (lb 12 639) ?_
   refine pj 7 (some 31) (lb 12 767) ?_
   refine pj 8 (some 32) (lb 12 1023) ?_
   exact norm_ (by simp only [putAll, Act.put, List.setIfInBounds_toArray, List.set_cons_zero, List.set_cons_succ]) (hCont (v516, gb518) _ ⟨hHeld, (by (with_reducible repeat (first | apply Kd.R_alloc | apply Kd.R_drewN | apply Kd.R_drew)); exact Kd.R_mono HO507.out (fun _ hk => hk.2)), (by (with_reducible repeat (first | apply Kd.R_alloc | apply Kd.R_drewN | apply Kd.R_drew)); exact Kd.R_mono HO517.out (fun _ hk => hk.2)), (Z BK497), (Z BK498), (Z BK508), (Z BK518), GW518.out, GE518.out, NB497_518.out, NB518_497.out, NB498_518.out, NB518_498.out, NB508_518.out, NB518_508.out, (Y4 HB GE497 GE498 GE508 GE518)⟩)
  skip
  refine goes_ Try.func11 (by kernel_rfl) rfl #[.int .i64 a0, .agg #[.int .i64 t509, .int .i64 t510], .agg #[.int .i64 t511, .int .i64 t512]] (by rfl) rfl rfl mz ?_
  with_reducible refine (impl_RangeDo.calls k a0 t509 t510 t511 t512 t513 t514 t515 _ A9.out).mono ?_
  rintro e w25 ⟨v516, rfl, ho0, hb⟩
  refine ⟨_, rfl, ?_⟩
  have HO517 := am (Kd.R_lower (Kd.R_new' ho0 (Kd.R_lt (by (with_reducible repeat (first | apply Kd.R_alloc | apply Kd.R_drewN | apply Kd.R_drew)); exact HO507.out))) (below_size (Y3 HB GE497 GE498 GE508)))
  replace HO507 := am (Kd.R_elder' (by (with_reducible repeat (first | apply Kd.R_alloc | apply Kd.R_drewN | apply Kd.R_drew)); exact HO507.out) (Kd.R_base ho0) hb)
  replace BK497 := bb BK497 hb
  replace BK498 := bb BK498 hb
  replace BK508 := bb BK508 hb
  replace HB := am (below_step (Y3 HB GE497 GE498 GE508) hb)
  (try clear hb)
  (try clear hb2)
  (try clear hk)
  (try clear hi)
  (try clear ho0)
  refine hK.out _ _ ⟨bc BK497 0, bc BK497 1, bc BK498 0, bc BK498 1⟩ (fun hHeld => ?_)
  clear hK K
  refine norm_ (a' := ?_) ?_ ?_
  rotate_left
  ·show Act.put _ (some 30) _ = _
   simp only [Act.put, List.setIfInBounds_toArray, List.set_cons_zero, List.set_cons_succ, i64_w, i32_w]
   rfl
  refine pj 6 (some 24) (lb 12 127) ?_
  refine pj 7 (some 31) (lb 12 255) ?_
  refine pj 8 (some 32) (lb 12 511) ?_
  refine one_ (i := 9) (N := some 9) (lb 12 1023) rfl rfl (one_of HT_.out (by kernel_rfl)) (by decide) (fun K hK => ?_)
  refine box_step ?hg (N := 9) ?hd (cs := #[.int .i64 0, .int .i64 0]) (t := 24) ?hr ?_; (case hd => rfl); (case hg => rfl); (case hr => first | (go_simp; done) | (go_simp; rfl))
  intro gb518 hg w26 hbox hb
  have BK518 := am (hbox)
  have GW518 := am (bs hg (Y3 HB GE497 GE498 GE508))
  have GE518 := am (bs hg (Y3 HB GE497 GE498 GE508))
  obtain ⟨NB497_518,NB518_497⟩ := ne_ hg BK497
  obtain ⟨NB498_518,NB518_498⟩ := ne_ hg BK498
  obtain ⟨NB508_518,NB518_508⟩ := ne_ hg BK508
  replace HO507 := am (Kd.R_below (by (with_reducible repeat (first | apply Kd.R_alloc | apply Kd.R_drewN | apply Kd.R_drew)); exact HO507.out) hb)
  replace HO517 := am (Kd.R_below (by (with_reducible repeat (first | apply Kd.R_alloc | apply Kd.R_drewN | apply Kd.R_drew)); exact HO517.out) hb)
  replace BK497 := bb BK497 hb
  replace BK498 := bb BK498 hb
  replace BK508 := bb BK508 hb
  replace HB := am (below_step (Y3 HB GE497 GE498 GE508) hb)
  clear hb hbox hg
  refine hK.out _ _ ⟨bc BK497 0, bc BK497 1, bc BK498 0, bc BK498 1⟩ (fun hHeld => ?_)
  clear hK K
  refine norm_ (a' := ?_) ?_ ?_
  rotate_left
  ·show Act.put _ (some 9) _ = _
   simp only [Act.put, List.setIfInBounds_toArray, List.set_cons_zero, List.set_cons_succ, i64_w, i32_w]
   rfl
  exact norm_ (by simp only [putAll, Act.put, List.setIfInBounds_toArray, List.set_cons_zero, List.set_cons_succ]) (hCont (v516, gb518) _ ⟨hHeld, (by (with_reducible repeat (first | apply Kd.R_alloc | apply Kd.R_drewN | apply Kd.R_drew)); exact Kd.R_mono HO507.out (fun _ hk => hk.2)), (by (with_reducible repeat (first | apply Kd.R_alloc | apply Kd.R_drewN | apply Kd.R_drew)); exact Kd.R_mono HO517.out (fun _ hk => hk.2)), (Z BK497), (Z BK498), (Z BK508), (Z BK518), GW518.out, GE518.out, NB497_518.out, NB518_497.out, NB498_518.out, NB518_498.out, NB508_518.out, NB518_508.out, (Y4 HB GE497 GE498 GE508 GE518)⟩)
 rintro ⟨v516, gb518⟩ w27 ⟨hS_, h0_, h1_, h2_, h3_, h4_, h5_, h6_, h7_, h8_, h9_, h10_, h11_, h12_, h13_, h14_⟩
 have HO517 : Aside0 (Kd.R (Kd.int .i64) 3 w27 w.heap.size (fun k_ => some k_ ≠ (v506 : Value).ownBlock) v516 t515) := ⟨h1_⟩
 have BK518 : Aside0 (w27.heap[gb518]? = some (.cells #[.int .i64 0, .int .i64 0] 24 (0, 0))) := ⟨h5_⟩
 have GW518 : Aside0 (w.heap.size ≤ gb518) := ⟨h6_⟩
 have GE518 : Aside0 (w.heap.size ≤ gb518) := ⟨h7_⟩
 have NB497_518 : Aside0 (gb497 ≠ gb518) := ⟨h8_⟩
 have NB518_497 : Aside0 (gb518 ≠ gb497) := ⟨h9_⟩
 have NB498_518 : Aside0 (gb498 ≠ gb518) := ⟨h10_⟩
 have NB518_498 : Aside0 (gb518 ≠ gb498) := ⟨h11_⟩
 have NB508_518 : Aside0 (gb508 ≠ gb518) := ⟨h12_⟩
 have NB518_508 : Aside0 (gb518 ≠ gb508) := ⟨h13_⟩
 replace HO507 : Aside0 (Kd.R (Kd.int .i64) 3 w27 w.heap.size (fun k_ => some k_ ≠ (v516 : Value).ownBlock) v506 t505) := ⟨h0_⟩
 replace BK497 : Aside0 (w27.heap[gb497]? = some (.cells #[.int .i64 a1_0, .int .i64 a1_1] 23 (0, 0))) := ⟨h2_⟩
 replace BK498 : Aside0 (w27.heap[gb498]? = some (.cells #[.int .i64 a2_0, .int .i64 a2_1] 23 (0, 0))) := ⟨h3_⟩
 replace BK508 : Aside0 (w27.heap[gb508]? = some (.cells #[.int .i64 t503, .int .i64 t504] 24 (0, 0))) := ⟨h4_⟩
 replace HB : Aside0 (Below w.heap.size w w27) := ⟨h14_⟩
 clear h0_ h1_ h2_ h3_ h4_ h5_ h6_ h7_ h8_ h9_ h10_ h11_ h12_ h13_ h14_
 have hHeld : w27.cell? ⟨gb497, 0, none⟩ = some (.int .i64 a1_0) ∧ w27.cell? ⟨gb497, 1, none⟩ = some (.int .i64 a1_1) ∧ w27.cell? ⟨gb498, 0, none⟩ = some (.int .i64 a2_0) ∧ w27.cell? ⟨gb498, 1, none⟩ = some (.int .i64 a2_1) := hS_
 refine norm_ (a' := ?_) ?_ ?_
 rotate_left
 ·simp only [putAll, Act.put, List.setIfInBounds_toArray, List.set_cons_zero, List.set_cons_succ]
  rfl
 refine one_ (i := 10) (N := none) (lb 12 2047) rfl rfl (one_of HT_.out (by kernel_rfl)) (by decide) (fun K hK => ?_)
 have hs28 : w27.cell? ⟨gb518, 0, none⟩ = some (.int .i64 0) := bc BK518 0
 have hfs28 := blk_frozen BK518.out 0
 have hns28_0 := NB497_518.out
 have hns28_1 := NB498_518.out
 have hns28_2 := NB508_518.out
 have hms28_0 := NB518_497.out
 have hms28_1 := NB518_498.out
 have hms28_2 := NB518_508.out
 have hs29 : w27.cell? ⟨gb518, 1, none⟩ = some (.int .i64 0) := bc BK518 1
 have hfs29 := blk_frozen BK518.out 1
 have hns29_0 := NB497_518.out
 have hns29_1 := NB498_518.out
 have hns29_2 := NB508_518.out
 have hms29_0 := NB518_497.out
 have hms29_1 := NB518_498.out
 have hms29_2 := NB518_508.out
 refine skip_ (w1 := ?_) (by rfl) rfl ?_ ?_
 rotate_left
 ·go_simp
  rfl
 refine hK.out _ _ ⟨((cell_far (p := ⟨gb518, _, none⟩) NB497_518.out _).trans (((cell_far (p := ⟨gb518, _, none⟩) NB497_518.out _).trans (hHeld.1)))), ((cell_far (p := ⟨gb518, _, none⟩) NB497_518.out _).trans (((cell_far (p := ⟨gb518, _, none⟩) NB497_518.out _).trans (hHeld.2.1)))), ((cell_far (p := ⟨gb518, _, none⟩) NB498_518.out _).trans (((cell_far (p := ⟨gb518, _, none⟩) NB498_518.out _).trans (hHeld.2.2.1)))), ((cell_far (p := ⟨gb518, _, none⟩) NB498_518.out _).trans (((cell_far (p := ⟨gb518, _, none⟩) NB498_518.out _).trans (hHeld.2.2.2))))⟩ (fun hHeld => ?_)
 clear hK K
 refine pj 11 (some 10) (lb 12 4095) ?_
 refine done_ (done_of HT_.out (by kernel_rfl)) ?_
 go_upto_region 3 with (fail)
 go_cut [42] (fun v42 wc => ∃ (kq : Nat) (x42_9 : Bool), v42 = .bool x42_9 ∧ Aside0 (laws_FnExactRangeDo.j0 kq a0 t505 t515 x42_9 a1_0 a1_1 a2_0 a2_1 t503 t504 = some r) ∧ Aside0 (kq ≤ k) ∧ Aside0 (Kd.R (Kd.int .i64) 3 wc w.heap.size (fun k_ => some k_ ≠ (v516 : Value).ownBlock) v506 t505) ∧ Aside0 (Kd.R (Kd.int .i64) 3 wc w.heap.size (fun k_ => some k_ ≠ (v506 : Value).ownBlock) v516 t515) ∧ Aside0 (wc.heap[gb497]? = some (.cells #[.int .i64 a1_0, .int .i64 a1_1] 23 (0, 0))) ∧ Aside0 (wc.heap[gb498]? = some (.cells #[.int .i64 a2_0, .int .i64 a2_1] 23 (0, 0))) ∧ Aside0 (wc.heap[gb508]? = some (.cells #[.int .i64 t503, .int .i64 t504] 24 (0, 0))) ∧ Aside0 (wc.heap[gb518]? = some (.cells #[.int .i64 t513, .int .i64 t514] 24 (0, 0))) ∧ Aside0 (Below w.heap.size w wc))
 case first =>
  have H := HC10.out
  clear HC10
  replace H := Option.bind_eq_some_iff.mp H
  obtain ⟨t519, A300, H⟩ := H
  try dsimp only at H
  have A30 := am A300
  clear A300
  by_cases c31 : t519 = true
  rotate_left
  ·replace c31 := Bool.eq_false_iff.mpr c31
   subst c31
   rw [if_neg (show ¬ (false = true) by decide)] at H
   have H' := am H
   clear H
   obtain ⟨hnb43,hnc43⟩ := nn NB518_497
   obtain ⟨hnb44,hnc44⟩ := nn NB518_498
   obtain ⟨hnb45,hnc45⟩ := nn NB518_508
   obtain ⟨hcz46_0,hcz46_1,hfz46_0,hfz46_1⟩ := c2 BK518
   obtain ⟨hnb47,hnc47⟩ := nn NB508_497
   obtain ⟨hnb48,hnc48⟩ := nn NB508_498
   obtain ⟨hcz49_0,hcz49_1,hfz49_0,hfz49_1⟩ := c2 BK508
   go_wp2_with (first | ((with_reducible refine gate_callee (f := 12) rfl ?_); refine goesL_ (some 35) rfl rfl Try.func12 (by kernel_rfl) rfl #[.agg #[.int .i64 t513, .int .i64 t514], .agg #[.int .i64 t503, .int .i64 t504]] rfl mz ?_; (with_reducible refine (laws_eqRange.calls t513 t514 t503 t504 false _ A30.out).mono ?_); rintro e w50 ⟨rfl, hb⟩; refine ⟨_, rfl, ?_⟩; replace HO507 := am (Kd.R_below (by (with_reducible repeat (first | apply Kd.R_alloc | apply Kd.R_drewN | apply Kd.R_drew)); exact (Kd.R_mono (Kd.R_far (p := ⟨gb518, 1, none⟩) (Kd.R_far (p := ⟨gb518, 0, none⟩) (Kd.R_types HO507.out BK518.out (by decide)) (fun _ hk => hk.2) (.int .i64 t513)) (fun _ hk => hk.2) (.int .i64 t514)) (fun _ h_ => h_.1))) hb); replace HO517 := am (Kd.R_below (by (with_reducible repeat (first | apply Kd.R_alloc | apply Kd.R_drewN | apply Kd.R_drew)); exact (Kd.R_mono (Kd.R_far (p := ⟨gb518, 1, none⟩) (Kd.R_far (p := ⟨gb518, 0, none⟩) (Kd.R_types HO517.out BK518.out (by decide)) (fun _ hk => hk.2) (.int .i64 t513)) (fun _ hk => hk.2) (.int .i64 t514)) (fun _ h_ => h_.1))) hb); replace BK497 := am (blk_below (g := gb497) (o := b2 a1_0 a1_1 23) (by refine fa NB497_518 ?_; refine fa NB497_518 ?_; exact Z BK497) hb); replace BK498 := am (blk_below (g := gb498) (o := b2 a2_0 a2_1 23) (by refine fa NB498_518 ?_; refine fa NB498_518 ?_; exact Z BK498) hb); replace BK508 := am (blk_below (g := gb508) (o := b2 t503 t504 24) (by refine fa NB508_518 ?_; refine fa NB508_518 ?_; exact Z BK508) hb); replace BK518 := am (blk_below (g := gb518) (o := b2 t513 t514 24) (by refine pf ?_; refine blk_put (cs := #[.int .i64 t513, .int .i64 0]) ?_ 1 _ rfl; refine pf ?_; refine blk_put (cs := #[.int .i64 0, .int .i64 0]) ?_ 0 _ rfl; exact Z BK518) hb); replace HB := am (below_step (Y4 HB GE497 GE498 GE508 GE518) hb); (try clear hb)))
   go_meet
   case rel => exact ⟨_, (true), ey, H', ⟨by first | omega | exact Nat.le_refl _⟩, ⟨by (with_reducible repeat (first | apply Kd.R_alloc | apply Kd.R_drewN | apply Kd.R_drew)); exact HO507.out⟩, ⟨by (with_reducible repeat (first | apply Kd.R_alloc | apply Kd.R_drewN | apply Kd.R_drew)); exact HO517.out⟩, ⟨Z BK497⟩, ⟨Z BK498⟩, ⟨Z BK508⟩, ⟨Z BK518⟩, ⟨Y4 HB GE497 GE498 GE508 GE518⟩⟩
  subst c31
  rw [if_pos rfl] at H
  replace H := Option.bind_eq_some_iff.mp H
  obtain ⟨t520, A320, H⟩ := H
  try dsimp only at H
  have A32 := am A320
  clear A320
  have H' := am H
  clear H
  obtain ⟨hnb33,hnc33⟩ := nn NB518_497
  obtain ⟨hnb34,hnc34⟩ := nn NB518_498
  obtain ⟨hnb35,hnc35⟩ := nn NB518_508
  obtain ⟨hcz36_0,hcz36_1,hfz36_0,hfz36_1⟩ := c2 BK518
  obtain ⟨hnb37,hnc37⟩ := nn NB508_497
  obtain ⟨hnb38,hnc38⟩ := nn NB508_498
  obtain ⟨hcz39_0,hcz39_1,hfz39_0,hfz39_1⟩ := c2 BK508
  go_wp2_with (first | ((with_reducible refine gate_callee (f := 12) rfl ?_); refine goesL_ (some 35) rfl rfl Try.func12 (by kernel_rfl) rfl #[.agg #[.int .i64 t513, .int .i64 t514], .agg #[.int .i64 t503, .int .i64 t504]] rfl mz ?_; (with_reducible refine (laws_eqRange.calls t513 t514 t503 t504 true _ A30.out).mono ?_); rintro e w40 ⟨rfl, hb⟩; refine ⟨_, rfl, ?_⟩; replace HO507 := am (Kd.R_below (by (with_reducible repeat (first | apply Kd.R_alloc | apply Kd.R_drewN | apply Kd.R_drew)); exact (Kd.R_mono (Kd.R_far (p := ⟨gb518, 1, none⟩) (Kd.R_far (p := ⟨gb518, 0, none⟩) (Kd.R_types HO507.out BK518.out (by decide)) (fun _ hk => hk.2) (.int .i64 t513)) (fun _ hk => hk.2) (.int .i64 t514)) (fun _ h_ => h_.1))) hb); replace HO517 := am (Kd.R_below (by (with_reducible repeat (first | apply Kd.R_alloc | apply Kd.R_drewN | apply Kd.R_drew)); exact (Kd.R_mono (Kd.R_far (p := ⟨gb518, 1, none⟩) (Kd.R_far (p := ⟨gb518, 0, none⟩) (Kd.R_types HO517.out BK518.out (by decide)) (fun _ hk => hk.2) (.int .i64 t513)) (fun _ hk => hk.2) (.int .i64 t514)) (fun _ h_ => h_.1))) hb); replace BK497 := am (blk_below (g := gb497) (o := b2 a1_0 a1_1 23) (by refine fa NB497_518 ?_; refine fa NB497_518 ?_; exact Z BK497) hb); replace BK498 := am (blk_below (g := gb498) (o := b2 a2_0 a2_1 23) (by refine fa NB498_518 ?_; refine fa NB498_518 ?_; exact Z BK498) hb); replace BK508 := am (blk_below (g := gb508) (o := b2 t503 t504 24) (by refine fa NB508_518 ?_; refine fa NB508_518 ?_; exact Z BK508) hb); replace BK518 := am (blk_below (g := gb518) (o := b2 t513 t514 24) (by refine pf ?_; refine blk_put (cs := #[.int .i64 t513, .int .i64 0]) ?_ 1 _ rfl; refine pf ?_; refine blk_put (cs := #[.int .i64 0, .int .i64 0]) ?_ 0 _ rfl; exact Z BK518) hb); replace HB := am (below_step (Y4 HB GE497 GE498 GE508 GE518) hb); (try clear hb); obtain ⟨Ao41, co41, eo41⟩ := Kd.R_slice HO517.out; subst eo41; obtain ⟨Ao42, co42, eo42⟩ := Kd.R_slice HO507.out; subst eo42) | (go_at_call 13; (with_reducible refine (laws_eqIntS.calls k _ _ t515 _ _ t505 t520 _ ?side1 ?side2 ?side3 ?side4 A32.out).mono ?_); (case side1 => repeat (first | exact (Kd.R_reads' HO517.out).2.2 | (with_reducible refine Kd.C_alloc ?_ _) | (with_reducible refine Kd.C_drewN ?_ _) | (with_reducible refine Kd.C_drew ?_))); (case side2 => exact (Kd.R_reads' HO517.out).2.1); (case side3 => repeat (first | exact (Kd.R_reads' HO507.out).2.2 | (with_reducible refine Kd.C_alloc ?_ _) | (with_reducible refine Kd.C_drewN ?_ _) | (with_reducible refine Kd.C_drew ?_))); (case side4 => exact (Kd.R_reads' HO507.out).2.1); rintro e w' ⟨rfl, ⟨nd, rfl⟩⟩))
  go_meet
  case rel => exact ⟨_, (!t520), ey, H', ⟨by first | omega | exact Nat.le_refl _⟩, ⟨by (with_reducible repeat (first | apply Kd.R_alloc | apply Kd.R_drewN | apply Kd.R_drew)); exact HO507.out⟩, ⟨by (with_reducible repeat (first | apply Kd.R_alloc | apply Kd.R_drewN | apply Kd.R_drew)); exact HO517.out⟩, ⟨Z BK497⟩, ⟨Z BK498⟩, ⟨Z BK508⟩, ⟨Z BK518⟩, ⟨Y4 HB GE497 GE498 GE508 GE518⟩⟩
 case rest =>
  clear HC10
  obtain ⟨kq, x42_9, rfl, HA, HJ9, HO_8, HO_10, BK497, BK498, BK508, BK518, HB⟩ := hcut
  cases kq with
  | zero => exact absurd HA.out (by simp [laws_FnExactRangeDo.j0])
  | succ kj9 =>
   have H := HA.out
   clear HA
   simp only [laws_FnExactRangeDo.j0] at H
   by_cases c51 : x42_9 = true
   ·subst c51
    rw [if_pos rfl] at H
    exact absurd H (by simp)
   replace c51 := Bool.eq_false_iff.mpr c51
   subst c51
   rw [if_neg (show ¬ (false = true) by decide)] at H
   replace H := Option.bind_eq_some_iff.mp H
   obtain ⟨⟨t521, t522⟩, A520, H⟩ := H
   try dsimp only at H
   have A52 := am A520
   clear A520
   replace H := Option.bind_eq_some_iff.mp H
   obtain ⟨t523, A530, H⟩ := H
   try dsimp only at H
   have A53 := am A530
   clear A530
   by_cases c54 : t523 < 0
   ·rw [if_pos c54] at H
    exact absurd H (by simp)
   rw [if_neg c54] at H
   have c54b0 : decide (t523 < 0) = false := decide_eq_false c54
   clear c54
   by_cases c55 : t523 = t521
   rotate_left
   ·rw [if_neg c55] at H
    exact absurd H (by simp)
   rw [if_pos c55] at H
   have c55b0 : (t523 == t521) = true := beq_iff_eq.mpr c55
   have c55b1 : (t523 != t521) = false := bne_eq_false_iff_eq.mpr c55
   clear c55
   replace H := Option.bind_eq_some_iff.mp H
   obtain ⟨⟨t524, t525⟩, A560, H⟩ := H
   try dsimp only at H
   have A56 := am A560
   clear A560
   replace H := Option.bind_eq_some_iff.mp H
   obtain ⟨⟨t526, t527⟩, A570, H⟩ := H
   try dsimp only at H
   have A57 := am A570
   clear A570
   replace H := Option.bind_eq_some_iff.mp H
   obtain ⟨⟨t528, t529, t530⟩, A580, H⟩ := H
   try dsimp only at H
   have A58 := am A580
   clear A580
   have HC59 := am H
   clear H
   obtain ⟨Ao60, co60, eo60⟩ := Kd.R_slice HO_10.out
   subst eo60
   try go_wp2_with (first | ((with_reducible refine gate_callee (f := 14) rfl ?_); refine goesL_ (some 45) rfl rfl Try.func14 (by kernel_rfl) rfl #[.slice Ao60 t515.length co60, .int .i64 1] rfl mz ?_; (with_reducible refine (laws_markIntS.calls kj9 (fun k_ => some k_ = (.slice Ao60 t515.length co60 : Value).ownBlock) (.slice Ao60 t515.length co60) t515 1 t521 t522 w _ ?side1 ?side2 A52.out).mono ?_); (case side1 => repeat (first | (with_reducible first | exact HB.out | apply below_alloc | apply pw_below_drewN | apply below_drew1 | refine below_set ?_ GE497.out | refine below_set ?_ GE498.out | refine below_set ?_ GE508.out | refine below_set ?_ GE518.out) | exact HB.out)); (case side2 => exact Kd.R_tight rfl HO_10.out); rintro e w61 ⟨rfl, hy0, hb, hkp⟩; refine ⟨_, rfl, ?_⟩; replace HO_8 := am (Kd.R_mono (ok' := fun k_ => some k_ ≠ (.slice Ao60 t515.length co60 : Value).ownBlock) (Kd.R_keptB (HO_8.out) hkp (fun k_ hk_ hs_ => (hk_) hs_)) (fun k_ hk_ => hk_.1)); replace BK497 := am (blk_kept (Z BK497) hkp (fun hs_ => (fun e_ => (Kd.R_ne HO_10.out BK497.out (by decide)) e_) hs_)); replace BK498 := am (blk_kept (Z BK498) hkp (fun hs_ => (fun e_ => (Kd.R_ne HO_10.out BK498.out (by decide)) e_) hs_)); replace BK508 := am (blk_kept (Z BK508) hkp (fun hs_ => (fun e_ => (Kd.R_ne HO_10.out BK508.out (by decide)) e_) hs_)); replace BK518 := am (blk_kept (Z BK518) hkp (fun hs_ => (fun e_ => (Kd.R_ne HO_10.out BK518.out (by decide)) e_) hs_)); replace HO_10 := am (Kd.R_reok rfl hy0 (fun k_ e_ => HO_10.out.1 k_ e_)); replace HB := am (hb); (try clear hb); (try clear hkp); (try clear hy0)) | ((with_reducible refine gate_callee (f := 15) rfl ?_); refine goesL_ (some 48) rfl rfl Try.func15 (by kernel_rfl) rfl #[.slice Ao60 t522.length co60, .int .i64 1] rfl (by (try simp only [List.map_toArray, List.map_cons, List.map_nil]); first | done | (rw [show t522.length = t515.length from (Kd.R_reads' HO_10.out).1.symm] <;> rfl) | rfl | (simp only [List.length_drop, List.length_take]; rfl)) ?_; (with_reducible refine (laws_heldIntS.calls kj9 _ _ t522 1 t523 _ ?side1 ?side2 A53.out).mono ?_); (case side1 => repeat (first | exact (Kd.R_reads' HO_10.out).2.2 | (with_reducible refine Kd.C_alloc ?_ _) | (with_reducible refine Kd.C_drewN ?_ _) | (with_reducible refine Kd.C_drew ?_))); (case side2 => rw [show t522.length = t515.length from (Kd.R_reads' HO_10.out).1.symm]; exact (Kd.R_reads' HO_10.out).2.1); rintro e w' ⟨rfl, ⟨nd, rfl⟩⟩; refine ⟨_, rfl, ?_⟩; (try (rw [drewN_self w61]; generalize hq_ : World.drewN w61 _ = w61; replace HO_10 : Aside0 (Kd.R (Kd.int .i64) 3 w61 w.heap.size (fun k_ => some k_ ≠ (v506 : Value).ownBlock) (.slice Ao60 t515.length co60) t522) := ⟨by rw [← hq_]; exact (by (with_reducible repeat (first | apply Kd.R_alloc | apply Kd.R_drewN | apply Kd.R_drew)); exact HO_10.out)⟩; replace HO_8 : Aside0 (Kd.R (Kd.int .i64) 3 w61 w.heap.size (fun k_ => some k_ ≠ (.slice Ao60 t515.length co60 : Value).ownBlock) v506 t505) := ⟨by rw [← hq_]; exact (by (with_reducible repeat (first | apply Kd.R_alloc | apply Kd.R_drewN | apply Kd.R_drew)); exact HO_8.out)⟩; replace BK497 : Aside0 (w61.heap[gb497]? = some (.cells #[.int .i64 a1_0, .int .i64 a1_1] 23 (0, 0))) := ⟨by rw [← hq_]; exact (Z BK497)⟩; replace BK498 : Aside0 (w61.heap[gb498]? = some (.cells #[.int .i64 a2_0, .int .i64 a2_1] 23 (0, 0))) := ⟨by rw [← hq_]; exact (Z BK498)⟩; replace BK508 : Aside0 (w61.heap[gb508]? = some (.cells #[.int .i64 t503, .int .i64 t504] 24 (0, 0))) := ⟨by rw [← hq_]; exact (Z BK508)⟩; replace BK518 : Aside0 (w61.heap[gb518]? = some (.cells #[.int .i64 t513, .int .i64 t514] 24 (0, 0))) := ⟨by rw [← hq_]; exact (Z BK518)⟩; replace HB : Aside0 (Below w.heap.size w w61) := ⟨by rw [← hq_]; exact (Y4 HB GE497 GE498 GE508 GE518)⟩; clear hq_))))
   replace HO_8 := am (Kd.R_drew HO_8.out)
   replace HO_10 := am (Kd.R_drew HO_10.out)
   replace BK497 := am (blk_drew BK497.out)
   replace BK498 := am (blk_drew BK498.out)
   replace BK508 := am (blk_drew BK508.out)
   replace BK518 := am (blk_drew BK518.out)
   replace HB := am (below_drew1 HB.out)
   refine start_ (n := 12) (S := fun w' => w'.cell? ⟨gb497, 0, none⟩ = some (.int .i64 a1_0) ∧ w'.cell? ⟨gb497, 1, none⟩ = some (.int .i64 a1_1) ∧ w'.cell? ⟨gb498, 0, none⟩ = some (.int .i64 a2_0) ∧ w'.cell? ⟨gb498, 1, none⟩ = some (.int .i64 a2_1)) (ds := []) (lb 12 0) (by kernel_rfl) rfl rfl ⟨bc BK497 0, bc BK497 1, bc BK498 0, bc BK498 1⟩ (fun hHeld => ?_); refine with_tabW laws_FnExactRangeDo.tab13 laws_FnExactRangeDo.bits13 (fun HT_ HW_ => ?_)
   generalize w61.drew = w62 at HO_8 HO_10 BK497 BK498 BK508 BK518 HB hHeld ⊢
   refine pj 0 (some 55) (lb 12 1) ?_
   refine take_ (i := 1) (N := some 56) (v := ?_) (a' := ?_) (lb 12 3) rfl rfl (take_ofW HT_.out HW_.out (by kernel_rfl)) (fun _ _ _ h => h) (Or.inl ⟨by rfl, ?_⟩) hHeld ?_ ?_
   rotate_left
   ·rintro w' ⟨s0, s1, s2, s3⟩
    go_simp
    with_reducible rfl
   rotate_left
   ·exact pz
   refine take_ (i := 3) (N := some 58) (v := ?_) (a' := ?_) (lb 12 11) rfl rfl (take_ofW HT_.out HW_.out (by kernel_rfl)) (fun _ _ _ h => h) (Or.inl ⟨by rfl, ?_⟩) hHeld ?_ ?_
   rotate_left
   ·rintro w' ⟨s0, s1, s2, s3⟩
    go_simp
    with_reducible rfl
   rotate_left
   ·exact pz
   refine join_ (σ := Value × Nat) 2 (lb 12 1023) (fun s_ => [(57, .agg #[.int .i64 t524, .int .i64 t525]), (59, .agg #[.int .i64 t526, .int .i64 t527]), (60, .tuple #[.agg #[.int .i64 t528, .int .i64 t529], s_.1]), (13, .pointer (some ⟨s_.2, 0, none⟩)), (54, .tuple #[.agg #[.int .i64 t528, .int .i64 t529], s_.1]), (61, .agg #[.int .i64 t528, .int .i64 t529]), (62, s_.1)]) (fun s_ w' => (w'.cell? ⟨gb497, 0, none⟩ = some (.int .i64 a1_0) ∧ w'.cell? ⟨gb497, 1, none⟩ = some (.int .i64 a1_1) ∧ w'.cell? ⟨gb498, 0, none⟩ = some (.int .i64 a2_0) ∧ w'.cell? ⟨gb498, 1, none⟩ = some (.int .i64 a2_1)) ∧ (Kd.R (Kd.int .i64) 3 w' w.heap.size (fun k_ => some k_ ≠ (.slice Ao60 t515.length co60 : Value).ownBlock ∧ some k_ ≠ (v506 : Value).ownBlock) s_.1 t530) ∧ (Kd.R (Kd.int .i64) 3 w' w.heap.size (fun k_ => some k_ ≠ (s_.1 : Value).ownBlock ∧ some k_ ≠ (v506 : Value).ownBlock) (.slice Ao60 t515.length co60) t522) ∧ (Kd.R (Kd.int .i64) 3 w' w.heap.size (fun k_ => some k_ ≠ (s_.1 : Value).ownBlock ∧ some k_ ≠ (.slice Ao60 t515.length co60 : Value).ownBlock) v506 t505) ∧ (w'.heap[gb497]? = some (.cells #[.int .i64 a1_0, .int .i64 a1_1] 23 (0, 0))) ∧ (w'.heap[gb498]? = some (.cells #[.int .i64 a2_0, .int .i64 a2_1] 23 (0, 0))) ∧ (w'.heap[gb508]? = some (.cells #[.int .i64 t503, .int .i64 t504] 24 (0, 0))) ∧ (w'.heap[gb518]? = some (.cells #[.int .i64 t513, .int .i64 t514] 24 (0, 0))) ∧ (w'.heap[s_.2]? = some (.cells #[.int .i64 0, .int .i64 0] 24 (0, 0))) ∧ (w.heap.size ≤ s_.2) ∧ (w.heap.size ≤ s_.2) ∧ (gb497 ≠ s_.2) ∧ (s_.2 ≠ gb497) ∧ (gb498 ≠ s_.2) ∧ (s_.2 ≠ gb498) ∧ (gb508 ≠ s_.2) ∧ (s_.2 ≠ gb508) ∧ (gb518 ≠ s_.2) ∧ (s_.2 ≠ gb518) ∧ (Below w.heap.size w w')) ?_ ?_
   rotate_left
   ·intro hCont
    refine two_ (i := 2) (j := 9) (Ni := some 57) (Nj := some 13) (lb 12 15) (lb 12 523) rfl rfl rfl rfl (two_of HT_.out (by kernel_rfl)) (by decide) (by decide) (fun K hK => ?_) (fun K hK => ?_)
    rotate_left
    ·skip
     refine box_step ?hg (N := 13) ?hd (cs := #[.int .i64 0, .int .i64 0]) (t := 24) ?hr ?_; (case hd => rfl); (case hg => rfl); (case hr => first | (go_simp; done) | (go_simp; rfl))
     intro gb533 hg w63 hbox hb
     have BK533 := am (hbox)
     have GW533 := am (bs hg (Y4 HB GE497 GE498 GE508 GE518))
     have GE533 := am (bs hg (Y4 HB GE497 GE498 GE508 GE518))
     obtain ⟨NB497_533,NB533_497⟩ := ne_ hg BK497
     obtain ⟨NB498_533,NB533_498⟩ := ne_ hg BK498
     obtain ⟨NB508_533,NB533_508⟩ := ne_ hg BK508
     obtain ⟨NB518_533,NB533_518⟩ := ne_ hg BK518
     replace HO_8 := am (Kd.R_below (by (with_reducible repeat (first | apply Kd.R_alloc | apply Kd.R_drewN | apply Kd.R_drew)); exact HO_8.out) hb)
     replace HO_10 := am (Kd.R_below (by (with_reducible repeat (first | apply Kd.R_alloc | apply Kd.R_drewN | apply Kd.R_drew)); exact HO_10.out) hb)
     replace BK497 := bb BK497 hb
     replace BK498 := bb BK498 hb
     replace BK508 := bb BK508 hb
     replace BK518 := bb BK518 hb
     replace HB := am (below_step (Y4 HB GE497 GE498 GE508 GE518) hb)
     clear hb hbox hg
     refine hK.out _ _ ⟨bc BK497 0, bc BK497 1, bc BK498 0, bc BK498 1⟩ (fun hHeld => ?_)
     clear hK K
     refine norm_ (a' := ?_) ?_ ?_
     rotate_left
     ·show Act.put _ (some 13) _ = _
      simp only [Act.put, List.setIfInBounds_toArray, List.set_cons_zero, List.set_cons_succ, i64_w, i32_w]
      rfl
     refine one_ (i := 2) (N := some 57) (lb 12 527) rfl rfl (one_of HT_.out (by kernel_rfl)) (by decide) (fun K hK => ?_)
     refine goes_ Try.func10 (by kernel_rfl) rfl #[.agg #[.int .i64 a1_0, .int .i64 a1_1]] (by rfl) rfl rfl mz ?_
     with_reducible refine (laws_toRange.calls a1_0 a1_1 t524 t525 _ A56.out).mono ?_
     rintro e w64 ⟨rfl, hb⟩
     refine ⟨_, rfl, ?_⟩
     replace HO_8 := am (Kd.R_below (by (with_reducible repeat (first | apply Kd.R_alloc | apply Kd.R_drewN | apply Kd.R_drew)); exact HO_8.out) hb)
     replace HO_10 := am (Kd.R_below (by (with_reducible repeat (first | apply Kd.R_alloc | apply Kd.R_drewN | apply Kd.R_drew)); exact HO_10.out) hb)
     replace BK497 := bb BK497 hb
     replace BK498 := bb BK498 hb
     replace BK508 := bb BK508 hb
     replace BK518 := bb BK518 hb
     replace BK533 := bb BK533 hb
     replace HB := am (below_step (Y5 HB GE497 GE498 GE508 GE518 GE533) hb)
     (try clear hb)
     (try clear hb2)
     (try clear hk)
     (try clear hi)
     refine hK.out _ _ ⟨bc BK497 0, bc BK497 1, bc BK498 0, bc BK498 1⟩ (fun hHeld => ?_)
     clear hK K
     refine norm_ (a' := ?_) ?_ ?_
     rotate_left
     ·show Act.put _ (some 57) _ = _
      simp only [Act.put, List.setIfInBounds_toArray, List.set_cons_zero, List.set_cons_succ, i64_w, i32_w]
      rfl
     refine one_ (i := 4) (N := some 59) (lb 12 543) rfl rfl (one_of HT_.out (by kernel_rfl)) (by decide) (fun K hK => ?_)
     refine goes_ Try.func10 (by kernel_rfl) rfl #[.agg #[.int .i64 a2_0, .int .i64 a2_1]] (by rfl) rfl rfl mz ?_
     with_reducible refine (laws_toRange.calls a2_0 a2_1 t526 t527 _ A57.out).mono ?_
     rintro e w65 ⟨rfl, hb⟩
     refine ⟨_, rfl, ?_⟩
     replace HO_8 := am (Kd.R_below (by (with_reducible repeat (first | apply Kd.R_alloc | apply Kd.R_drewN | apply Kd.R_drew)); exact HO_8.out) hb)
     replace HO_10 := am (Kd.R_below (by (with_reducible repeat (first | apply Kd.R_alloc | apply Kd.R_drewN | apply Kd.R_drew)); exact HO_10.out) hb)
     replace BK497 := bb BK497 hb
     replace BK498 := bb BK498 hb
     replace BK508 := bb BK508 hb
     replace BK518 := bb BK518 hb
     replace BK533 := bb BK533 hb
     replace HB := am (below_step (Y5 HB GE497 GE498 GE508 GE518 GE533) hb)
     (try clear hb)
     (try clear hb2)
     (try clear hk)
     (try clear hi)
     refine hK.out _ _ ⟨bc BK497 0, bc BK497 1, bc BK498 0, bc BK498 1⟩ (fun hHeld => ?_)
     clear hK K
     refine norm_ (a' := ?_) ?_ ?_
     rotate_left
     ·show Act.put _ (some 59) _ = _
      simp only [Act.put, List.setIfInBounds_toArray, List.set_cons_zero, List.set_cons_succ, i64_w, i32_w]
      rfl
     refine one_ (i := 5) (N := some 60) (lb 12 575) rfl rfl (one_of HT_.out (by kernel_rfl)) (by decide) (fun K hK => ?_)
     refine goes_ Try.func11 (by kernel_rfl) rfl #[.int .i64 a0, .agg #[.int .i64 t524, .int .i64 t525], .agg #[.int .i64 t526, .int .i64 t527]] (by rfl) rfl rfl mz ?_
     with_reducible refine (impl_RangeDo.calls kj9 a0 t524 t525 t526 t527 t528 t529 t530 _ A58.out).mono ?_
     rintro e w66 ⟨v531, rfl, ho0, hb⟩
     refine ⟨_, rfl, ?_⟩
     have HO532 := am (Kd.R_lower (Kd.R_new' (Kd.R_new' ho0 (Kd.R_lt (by (with_reducible repeat (first | apply Kd.R_alloc | apply Kd.R_drewN | apply Kd.R_drew)); exact HO_8.out))) (Kd.R_lt (by (with_reducible repeat (first | apply Kd.R_alloc | apply Kd.R_drewN | apply Kd.R_drew)); exact HO_10.out))) (below_size (Y5 HB GE497 GE498 GE508 GE518 GE533)))
     replace HO_8 := am (Kd.R_elder' (by (with_reducible repeat (first | apply Kd.R_alloc | apply Kd.R_drewN | apply Kd.R_drew)); exact HO_8.out) (Kd.R_base ho0) hb)
     replace HO_10 := am (Kd.R_elder' (by (with_reducible repeat (first | apply Kd.R_alloc | apply Kd.R_drewN | apply Kd.R_drew)); exact HO_10.out) (Kd.R_base ho0) hb)
     replace BK497 := bb BK497 hb
     replace BK498 := bb BK498 hb
     replace BK508 := bb BK508 hb
     replace BK518 := bb BK518 hb
     replace BK533 := bb BK533 hb
     replace HB := am (below_step (Y5 HB GE497 GE498 GE508 GE518 GE533) hb)
     (try clear hb)
     (try clear hb2)
     (try clear hk)
     (try clear hi)
     (try clear ho0)
     refine hK.out _ _ ⟨bc BK497 0, bc BK497 1, bc BK498 0, bc BK498 1⟩ (fun hHeld => ?_)
     clear hK K
     refine norm_ (a' := ?_) ?_ ?_
     rotate_left
     ·show Act.put _ (some 60) _ = _
      simp only [Act.put, List.setIfInBounds_toArray, List.set_cons_zero, List.set_cons_succ, i64_w, i32_w]
      rfl
     refine pj 6 (some 54) (lb 12 639) ?_
     refine pj 7 (some 61) (lb 12 767) ?_
     refine pj 8 (some 62) (lb 12 1023) ?_
     exact norm_ (by simp only [putAll, Act.put, List.setIfInBounds_toArray, List.set_cons_zero, List.set_cons_succ]) (hCont (v531, gb533) _ ⟨hHeld, (by (with_reducible repeat (first | apply Kd.R_alloc | apply Kd.R_drewN | apply Kd.R_drew)); exact Kd.R_mono HO532.out (fun _ hk => ⟨hk.2, hk.1.2⟩)), (by (with_reducible repeat (first | apply Kd.R_alloc | apply Kd.R_drewN | apply Kd.R_drew)); exact Kd.R_mono HO_10.out (fun _ hk => ⟨hk.2, hk.1⟩)), (by (with_reducible repeat (first | apply Kd.R_alloc | apply Kd.R_drewN | apply Kd.R_drew)); exact Kd.R_mono HO_8.out (fun _ hk => ⟨hk.2, hk.1⟩)), (Z BK497), (Z BK498), (Z BK508), (Z BK518), (Z BK533), GW533.out, GE533.out, NB497_533.out, NB533_497.out, NB498_533.out, NB533_498.out, NB508_533.out, NB533_508.out, NB518_533.out, NB533_518.out, (Y5 HB GE497 GE498 GE508 GE518 GE533)⟩)
    skip
    refine goes_ Try.func10 (by kernel_rfl) rfl #[.agg #[.int .i64 a1_0, .int .i64 a1_1]] (by rfl) rfl rfl mz ?_
    with_reducible refine (laws_toRange.calls a1_0 a1_1 t524 t525 _ A56.out).mono ?_
    rintro e w63 ⟨rfl, hb⟩
    refine ⟨_, rfl, ?_⟩
    replace HO_8 := am (Kd.R_below (by (with_reducible repeat (first | apply Kd.R_alloc | apply Kd.R_drewN | apply Kd.R_drew)); exact HO_8.out) hb)
    replace HO_10 := am (Kd.R_below (by (with_reducible repeat (first | apply Kd.R_alloc | apply Kd.R_drewN | apply Kd.R_drew)); exact HO_10.out) hb)
    replace BK497 := bb BK497 hb
    replace BK498 := bb BK498 hb
    replace BK508 := bb BK508 hb
    replace BK518 := bb BK518 hb
    replace HB := am (below_step (Y4 HB GE497 GE498 GE508 GE518) hb)
    (try clear hb)
    (try clear hb2)
    (try clear hk)
    (try clear hi)
    refine hK.out _ _ ⟨bc BK497 0, bc BK497 1, bc BK498 0, bc BK498 1⟩ (fun hHeld => ?_)
    clear hK K
    refine norm_ (a' := ?_) ?_ ?_
    rotate_left
    ·show Act.put _ (some 57) _ = _
     simp only [Act.put, List.setIfInBounds_toArray, List.set_cons_zero, List.set_cons_succ, i64_w, i32_w]
     rfl
    refine two_ (i := 4) (j := 9) (Ni := some 59) (Nj := some 13) (lb 12 31) (lb 12 527) rfl rfl rfl rfl (two_of HT_.out (by kernel_rfl)) (by decide) (by decide) (fun K hK => ?_) (fun K hK => ?_)
    rotate_left
    ·skip
     refine box_step ?hg (N := 13) ?hd (cs := #[.int .i64 0, .int .i64 0]) (t := 24) ?hr ?_; (case hd => rfl); (case hg => rfl); (case hr => first | (go_simp; done) | (go_simp; rfl))
     intro gb533 hg w64 hbox hb
     have BK533 := am (hbox)
     have GW533 := am (bs hg (Y4 HB GE497 GE498 GE508 GE518))
     have GE533 := am (bs hg (Y4 HB GE497 GE498 GE508 GE518))
     obtain ⟨NB497_533,NB533_497⟩ := ne_ hg BK497
     obtain ⟨NB498_533,NB533_498⟩ := ne_ hg BK498
     obtain ⟨NB508_533,NB533_508⟩ := ne_ hg BK508
     obtain ⟨NB518_533,NB533_518⟩ := ne_ hg BK518
     replace HO_8 := am (Kd.R_below (by (with_reducible repeat (first | apply Kd.R_alloc | apply Kd.R_drewN | apply Kd.R_drew)); exact HO_8.out) hb)
     replace HO_10 := am (Kd.R_below (by (with_reducible repeat (first | apply Kd.R_alloc | apply Kd.R_drewN | apply Kd.R_drew)); exact HO_10.out) hb)
     replace BK497 := bb BK497 hb
     replace BK498 := bb BK498 hb
     replace BK508 := bb BK508 hb
     replace BK518 := bb BK518 hb
     replace HB := am (below_step (Y4 HB GE497 GE498 GE508 GE518) hb)
     clear hb hbox hg
     refine hK.out _ _ ⟨bc BK497 0, bc BK497 1, bc BK498 0, bc BK498 1⟩ (fun hHeld => ?_)
     clear hK K
     refine norm_ (a' := ?_) ?_ ?_
     rotate_left
     ·show Act.put _ (some 13) _ = _
      simp only [Act.put, List.setIfInBounds_toArray, List.set_cons_zero, List.set_cons_succ, i64_w, i32_w]
      rfl
     refine one_ (i := 4) (N := some 59) (lb 12 543) rfl rfl (one_of HT_.out (by kernel_rfl)) (by decide) (fun K hK => ?_)
     refine goes_ Try.func10 (by kernel_rfl) rfl #[.agg #[.int .i64 a2_0, .int .i64 a2_1]] (by rfl) rfl rfl mz ?_
     with_reducible refine (laws_toRange.calls a2_0 a2_1 t526 t527 _ A57.out).mono ?_
     rintro e w65 ⟨rfl, hb⟩
     refine ⟨_, rfl, ?_⟩
     replace HO_8 := am (Kd.R_below (by (with_reducible repeat (first | apply Kd.R_alloc | apply Kd.R_drewN | apply Kd.R_drew)); exact HO_8.out) hb)
     replace HO_10 := am (Kd.R_below (by (with_reducible repeat (first | apply Kd.R_alloc | apply Kd.R_drewN | apply Kd.R_drew)); exact HO_10.out) hb)
     replace BK497 := bb BK497 hb
     replace BK498 := bb BK498 hb
     replace BK508 := bb BK508 hb
     replace BK518 := bb BK518 hb
     replace BK533 := bb BK533 hb
     replace HB := am (below_step (Y5 HB GE497 GE498 GE508 GE518 GE533) hb)
     (try clear hb)
     (try clear hb2)
     (try clear hk)
     (try clear hi)
     refine hK.out _ _ ⟨bc BK497 0, bc BK497 1, bc BK498 0, bc BK498 1⟩ (fun hHeld => ?_)
     clear hK K
     refine norm_ (a' := ?_) ?_ ?_
     rotate_left
     ·show Act.put _ (some 59) _ = _
      simp only [Act.put, List.setIfInBounds_toArray, List.set_cons_zero, List.set_cons_succ, i64_w, i32_w]
      rfl
     refine one_ (i := 5) (N := some 60) (lb 12 575) rfl rfl (one_of HT_.out (by kernel_rfl)) (by decide) (fun K hK => ?_)
     refine goes_ Try.func11 (by kernel_rfl) rfl #[.int .i64 a0, .agg #[.int .i64 t524, .int .i64 t525], .agg #[.int .i64 t526, .int .i64 t527]] (by rfl) rfl rfl mz ?_
     with_reducible refine (impl_RangeDo.calls kj9 a0 t524 t525 t526 t527 t528 t529 t530 _ A58.out).mono ?_
     rintro e w66 ⟨v531, rfl, ho0, hb⟩
     refine ⟨_, rfl, ?_⟩
     have HO532 := am (Kd.R_lower (Kd.R_new' (Kd.R_new' ho0 (Kd.R_lt (by (with_reducible repeat (first | apply Kd.R_alloc | apply Kd.R_drewN | apply Kd.R_drew)); exact HO_8.out))) (Kd.R_lt (by (with_reducible repeat (first | apply Kd.R_alloc | apply Kd.R_drewN | apply Kd.R_drew)); exact HO_10.out))) (below_size (Y5 HB GE497 GE498 GE508 GE518 GE533)))
     replace HO_8 := am (Kd.R_elder' (by (with_reducible repeat (first | apply Kd.R_alloc | apply Kd.R_drewN | apply Kd.R_drew)); exact HO_8.out) (Kd.R_base ho0) hb)
     replace HO_10 := am (Kd.R_elder' (by (with_reducible repeat (first | apply Kd.R_alloc | apply Kd.R_drewN | apply Kd.R_drew)); exact HO_10.out) (Kd.R_base ho0) hb)
     replace BK497 := bb BK497 hb
     replace BK498 := bb BK498 hb
     replace BK508 := bb BK508 hb
     replace BK518 := bb BK518 hb
     replace BK533 := bb BK533 hb
     replace HB := am (below_step (Y5 HB GE497 GE498 GE508 GE518 GE533) hb)
     (try clear hb)
     (try clear hb2)
     (try clear hk)
     (try clear hi)
     (try clear ho0)
     refine hK.out _ _ ⟨bc BK497 0, bc BK497 1, bc BK498 0, bc BK498 1⟩ (fun hHeld => ?_)
     clear hK K
     refine norm_ (a' := ?_) ?_ ?_
     rotate_left
     ·show Act.put _ (some 60) _ = _
      simp only [Act.put, List.setIfInBounds_toArray, List.set_cons_zero, List.set_cons_succ, i64_w, i32_w]
      rfl
     refine pj 6 (some 54) (lb 12 639) ?_
     refine pj 7 (some 61) (lb 12 767) ?_
     refine pj 8 (some 62) (lb 12 1023) ?_
     exact norm_ (by simp only [putAll, Act.put, List.setIfInBounds_toArray, List.set_cons_zero, List.set_cons_succ]) (hCont (v531, gb533) _ ⟨hHeld, (by (with_reducible repeat (first | apply Kd.R_alloc | apply Kd.R_drewN | apply Kd.R_drew)); exact Kd.R_mono HO532.out (fun _ hk => ⟨hk.2, hk.1.2⟩)), (by (with_reducible repeat (first | apply Kd.R_alloc | apply Kd.R_drewN | apply Kd.R_drew)); exact Kd.R_mono HO_10.out (fun _ hk => ⟨hk.2, hk.1⟩)), (by (with_reducible repeat (first | apply Kd.R_alloc | apply Kd.R_drewN | apply Kd.R_drew)); exact Kd.R_mono HO_8.out (fun _ hk => ⟨hk.2, hk.1⟩)), (Z BK497), (Z BK498), (Z BK508), (Z BK518), (Z BK533), GW533.out, GE533.out, NB497_533.out, NB533_497.out, NB498_533.out, NB533_498.out, NB508_533.out, NB533_508.out, NB518_533.out, NB533_518.out, (Y5 HB GE497 GE498 GE508 GE518 GE533)⟩)
    skip
    refine goes_ Try.func10 (by kernel_rfl) rfl #[.agg #[.int .i64 a2_0, .int .i64 a2_1]] (by rfl) rfl rfl mz ?_
    with_reducible refine (laws_toRange.calls a2_0 a2_1 t526 t527 _ A57.out).mono ?_
    rintro e w64 ⟨rfl, hb⟩
    refine ⟨_, rfl, ?_⟩
    replace HO_8 := am (Kd.R_below (by (with_reducible repeat (first | apply Kd.R_alloc | apply Kd.R_drewN | apply Kd.R_drew)); exact HO_8.out) hb)
    replace HO_10 := am (Kd.R_below (by (with_reducible repeat (first | apply Kd.R_alloc | apply Kd.R_drewN | apply Kd.R_drew)); exact HO_10.out) hb)
    replace BK497 := bb BK497 hb
    replace BK498 := bb BK498 hb
    replace BK508 := bb BK508 hb
    replace BK518 := bb BK518 hb
    replace HB := am (below_step (Y4 HB GE497 GE498 GE508 GE518) hb)
    (try clear hb)
    (try clear hb2)
    (try clear hk)
    (try clear hi)
    refine hK.out _ _ ⟨bc BK497 0, bc BK497 1, bc BK498 0, bc BK498 1⟩ (fun hHeld => ?_)
    clear hK K
    refine norm_ (a' := ?_) ?_ ?_
    rotate_left
    ·show Act.put _ (some 59) _ = _
     simp only [Act.put, List.setIfInBounds_toArray, List.set_cons_zero, List.set_cons_succ, i64_w, i32_w]
     rfl
    refine two_ (i := 5) (j := 9) (Ni := some 60) (Nj := some 13) (lb 12 63) (lb 12 543) rfl rfl rfl rfl (two_of HT_.out (by kernel_rfl)) (by decide) (by decide) (fun K hK => ?_) (fun K hK => ?_)
    rotate_left
    ·skip
     refine box_step ?hg (N := 13) ?hd (cs := #[.int .i64 0, .int .i64 0]) (t := 24) ?hr ?_; (case hd => rfl); (case hg => rfl); (case hr => first | (go_simp; done) | (go_simp; rfl))
     intro gb533 hg w65 hbox hb
     have BK533 := am (hbox)
     have GW533 := am (bs hg (Y4 HB GE497 GE498 GE508 GE518))
     have GE533 := am (bs hg (Y4 HB GE497 GE498 GE508 GE518))
     obtain ⟨NB497_533,NB533_497⟩ := ne_ hg BK497
     obtain ⟨NB498_533,NB533_498⟩ := ne_ hg BK498
     obtain ⟨NB508_533,NB533_508⟩ := ne_ hg BK508
     obtain ⟨NB518_533,NB533_518⟩ := ne_ hg BK518
     replace HO_8 := am (Kd.R_below (by (with_reducible repeat (first | apply Kd.R_alloc | apply Kd.R_drewN | apply Kd.R_drew)); exact HO_8.out) hb)
     replace HO_10 := am (Kd.R_below (by (with_reducible repeat (first | apply Kd.R_alloc | apply Kd.R_drewN | apply Kd.R_drew)); exact HO_10.out) hb)
     replace BK497 := bb BK497 hb
     replace BK498 := bb BK498 hb
     replace BK508 := bb BK508 hb
     replace BK518 := bb BK518 hb
     replace HB := am (below_step (Y4 HB GE497 GE498 GE508 GE518) hb)
     clear hb hbox hg
     refine hK.out _ _ ⟨bc BK497 0, bc BK497 1, bc BK498 0, bc BK498 1⟩ (fun hHeld => ?_)
     clear hK K
     refine norm_ (a' := ?_) ?_ ?_
     rotate_left
     ·show Act.put _ (some 13) _ = _
      simp only [Act.put, List.setIfInBounds_toArray, List.set_cons_zero, List.set_cons_succ, i64_w, i32_w]
      rfl
     refine one_ (i := 5) (N := some 60) (lb 12 575) rfl rfl (one_of HT_.out (by kernel_rfl)) (by decide) (fun K hK => ?_)
     refine goes_ Try.func11 (by kernel_rfl) rfl #[.int .i64 a0, .agg #[.int .i64 t524, .int .i64 t525], .agg #[.int .i64 t526, .int .i64 t527]] (by rfl) rfl rfl mz ?_
     with_reducible refine (impl_RangeDo.calls kj9 a0 t524 t525 t526 t527 t528 t529 t530 _ A58.out).mono ?_
     rintro e w66 ⟨v531, rfl, ho0, hb⟩
     refine ⟨_, rfl, ?_⟩
     have HO532 := am (Kd.R_lower (Kd.R_new' (Kd.R_new' ho0 (Kd.R_lt (by (with_reducible repeat (first | apply Kd.R_alloc | apply Kd.R_drewN | apply Kd.R_drew)); exact HO_8.out))) (Kd.R_lt (by (with_reducible repeat (first | apply Kd.R_alloc | apply Kd.R_drewN | apply Kd.R_drew)); exact HO_10.out))) (below_size (Y5 HB GE497 GE498 GE508 GE518 GE533)))
     replace HO_8 := am (Kd.R_elder' (by (with_reducible repeat (first | apply Kd.R_alloc | apply Kd.R_drewN | apply Kd.R_drew)); exact HO_8.out) (Kd.R_base ho0) hb)
     replace HO_10 := am (Kd.R_elder' (by (with_reducible repeat (first | apply Kd.R_alloc | apply Kd.R_drewN | apply Kd.R_drew)); exact HO_10.out) (Kd.R_base ho0) hb)
     replace BK497 := bb BK497 hb
     replace BK498 := bb BK498 hb
     replace BK508 := bb BK508 hb
     replace BK518 := bb BK518 hb
     replace BK533 := bb BK533 hb
     replace HB := am (below_step (Y5 HB GE497 GE498 GE508 GE518 GE533) hb)
     (try clear hb)
     (try clear hb2)
     (try clear hk)
     (try clear hi)
     (try clear ho0)
     refine hK.out _ _ ⟨bc BK497 0, bc BK497 1, bc BK498 0, bc BK498 1⟩ (fun hHeld => ?_)
     clear hK K
     refine norm_ (a' := ?_) ?_ ?_
     rotate_left
     ·show Act.put _ (some 60) _ = _
      simp only [Act.put, List.setIfInBounds_toArray, List.set_cons_zero, List.set_cons_succ, i64_w, i32_w]
      rfl
     refine pj 6 (some 54) (lb 12 639) ?_
     refine pj 7 (some 61) (lb 12 767) ?_
     refine pj 8 (some 62) (lb 12 1023) ?_
     exact norm_ (by simp only [putAll, Act.put, List.setIfInBounds_toArray, List.set_cons_zero, List.set_cons_succ]) (hCont (v531, gb533) _ ⟨hHeld, (by (with_reducible repeat (first | apply Kd.R_alloc | apply Kd.R_drewN | apply Kd.R_drew)); exact Kd.R_mono HO532.out (fun _ hk => ⟨hk.2, hk.1.2⟩)), (by (with_reducible repeat (first | apply Kd.R_alloc | apply Kd.R_drewN | apply Kd.R_drew)); exact Kd.R_mono HO_10.out (fun _ hk => ⟨hk.2, hk.1⟩)), (by (with_reducible repeat (first | apply Kd.R_alloc | apply Kd.R_drewN | apply Kd.R_drew)); exact Kd.R_mono HO_8.out (fun _ hk => ⟨hk.2, hk.1⟩)), (Z BK497), (Z BK498), (Z BK508), (Z BK518), (Z BK533), GW533.out, GE533.out, NB497_533.out, NB533_497.out, NB498_533.out, NB533_498.out, NB508_533.out, NB533_508.out, NB518_533.out, NB533_518.out, (Y5 HB GE497 GE498 GE508 GE518 GE533)⟩)
    skip
    refine goes_ Try.func11 (by kernel_rfl) rfl #[.int .i64 a0, .agg #[.int .i64 t524, .int .i64 t525], .agg #[.int .i64 t526, .int .i64 t527]] (by rfl) rfl rfl mz ?_
    with_reducible refine (impl_RangeDo.calls kj9 a0 t524 t525 t526 t527 t528 t529 t530 _ A58.out).mono ?_
    rintro e w65 ⟨v531, rfl, ho0, hb⟩
    refine ⟨_, rfl, ?_⟩
    have HO532 := am (Kd.R_lower (Kd.R_new' (Kd.R_new' ho0 (Kd.R_lt (by (with_reducible repeat (first | apply Kd.R_alloc | apply Kd.R_drewN | apply Kd.R_drew)); exact HO_8.out))) (Kd.R_lt (by (with_reducible repeat (first | apply Kd.R_alloc | apply Kd.R_drewN | apply Kd.R_drew)); exact HO_10.out))) (below_size (Y4 HB GE497 GE498 GE508 GE518)))
    replace HO_8 := am (Kd.R_elder' (by (with_reducible repeat (first | apply Kd.R_alloc | apply Kd.R_drewN | apply Kd.R_drew)); exact HO_8.out) (Kd.R_base ho0) hb)
    replace HO_10 := am (Kd.R_elder' (by (with_reducible repeat (first | apply Kd.R_alloc | apply Kd.R_drewN | apply Kd.R_drew)); exact HO_10.out) (Kd.R_base ho0) hb)
    replace BK497 := bb BK497 hb
    replace BK498 := bb BK498 hb
    replace BK508 := bb BK508 hb
    replace BK518 := bb BK518 hb
    replace HB := am (below_step (Y4 HB GE497 GE498 GE508 GE518) hb)
    (try clear hb)
    (try clear hb2)
    (try clear hk)
    (try clear hi)
    (try clear ho0)
    refine hK.out _ _ ⟨bc BK497 0, bc BK497 1, bc BK498 0, bc BK498 1⟩ (fun hHeld => ?_)
    clear hK K
    refine norm_ (a' := ?_) ?_ ?_
    rotate_left
    ·show Act.put _ (some 60) _ = _
     simp only [Act.put, List.setIfInBounds_toArray, List.set_cons_zero, List.set_cons_succ, i64_w, i32_w]
     rfl
    refine pj 6 (some 54) (lb 12 127) ?_
    refine pj 7 (some 61) (lb 12 255) ?_
    refine pj 8 (some 62) (lb 12 511) ?_
    refine one_ (i := 9) (N := some 13) (lb 12 1023) rfl rfl (one_of HT_.out (by kernel_rfl)) (by decide) (fun K hK => ?_)
    refine box_step ?hg (N := 13) ?hd (cs := #[.int .i64 0, .int .i64 0]) (t := 24) ?hr ?_; (case hd => rfl); (case hg => rfl); (case hr => first | (go_simp; done) | (go_simp; rfl))
    intro gb533 hg w66 hbox hb
    have BK533 := am (hbox)
    have GW533 := am (bs hg (Y4 HB GE497 GE498 GE508 GE518))
    have GE533 := am (bs hg (Y4 HB GE497 GE498 GE508 GE518))
    obtain ⟨NB497_533,NB533_497⟩ := ne_ hg BK497
    obtain ⟨NB498_533,NB533_498⟩ := ne_ hg BK498
    obtain ⟨NB508_533,NB533_508⟩ := ne_ hg BK508
    obtain ⟨NB518_533,NB533_518⟩ := ne_ hg BK518
    replace HO_8 := am (Kd.R_below (by (with_reducible repeat (first | apply Kd.R_alloc | apply Kd.R_drewN | apply Kd.R_drew)); exact HO_8.out) hb)
    replace HO_10 := am (Kd.R_below (by (with_reducible repeat (first | apply Kd.R_alloc | apply Kd.R_drewN | apply Kd.R_drew)); exact HO_10.out) hb)
    replace HO532 := am (Kd.R_below (by (with_reducible repeat (first | apply Kd.R_alloc | apply Kd.R_drewN | apply Kd.R_drew)); exact HO532.out) hb)
    replace BK497 := bb BK497 hb
    replace BK498 := bb BK498 hb
    replace BK508 := bb BK508 hb
    replace BK518 := bb BK518 hb
    replace HB := am (below_step (Y4 HB GE497 GE498 GE508 GE518) hb)
    clear hb hbox hg
    refine hK.out _ _ ⟨bc BK497 0, bc BK497 1, bc BK498 0, bc BK498 1⟩ (fun hHeld => ?_)
    clear hK K
    refine norm_ (a' := ?_) ?_ ?_
    rotate_left
    ·show Act.put _ (some 13) _ = _
     simp only [Act.put, List.setIfInBounds_toArray, List.set_cons_zero, List.set_cons_succ, i64_w, i32_w]
     rfl
    exact norm_ (by simp only [putAll, Act.put, List.setIfInBounds_toArray, List.set_cons_zero, List.set_cons_succ]) (hCont (v531, gb533) _ ⟨hHeld, (by (with_reducible repeat (first | apply Kd.R_alloc | apply Kd.R_drewN | apply Kd.R_drew)); exact Kd.R_mono HO532.out (fun _ hk => ⟨hk.2, hk.1.2⟩)), (by (with_reducible repeat (first | apply Kd.R_alloc | apply Kd.R_drewN | apply Kd.R_drew)); exact Kd.R_mono HO_10.out (fun _ hk => ⟨hk.2, hk.1⟩)), (by (with_reducible repeat (first | apply Kd.R_alloc | apply Kd.R_drewN | apply Kd.R_drew)); exact Kd.R_mono HO_8.out (fun _ hk => ⟨hk.2, hk.1⟩)), (Z BK497), (Z BK498), (Z BK508), (Z BK518), (Z BK533), GW533.out, GE533.out, NB497_533.out, NB533_497.out, NB498_533.out, NB533_498.out, NB508_533.out, NB533_508.out, NB518_533.out, NB533_518.out, (Y5 HB GE497 GE498 GE508 GE518 GE533)⟩)
   rintro ⟨v531, gb533⟩ w67 ⟨hS_, h0_, h1_, h2_, h3_, h4_, h5_, h6_, h7_, h8_, h9_, h10_, h11_, h12_, h13_, h14_, h15_, h16_, h17_, h18_⟩
   have HO532 : Aside0 (Kd.R (Kd.int .i64) 3 w67 w.heap.size (fun k_ => some k_ ≠ (.slice Ao60 t515.length co60 : Value).ownBlock ∧ some k_ ≠ (v506 : Value).ownBlock) v531 t530) := ⟨h0_⟩
   have BK533 : Aside0 (w67.heap[gb533]? = some (.cells #[.int .i64 0, .int .i64 0] 24 (0, 0))) := ⟨h7_⟩
   have GW533 : Aside0 (w.heap.size ≤ gb533) := ⟨h8_⟩
   have GE533 : Aside0 (w.heap.size ≤ gb533) := ⟨h9_⟩
   have NB497_533 : Aside0 (gb497 ≠ gb533) := ⟨h10_⟩
   have NB533_497 : Aside0 (gb533 ≠ gb497) := ⟨h11_⟩
   have NB498_533 : Aside0 (gb498 ≠ gb533) := ⟨h12_⟩
   have NB533_498 : Aside0 (gb533 ≠ gb498) := ⟨h13_⟩
   have NB508_533 : Aside0 (gb508 ≠ gb533) := ⟨h14_⟩
   have NB533_508 : Aside0 (gb533 ≠ gb508) := ⟨h15_⟩
   have NB518_533 : Aside0 (gb518 ≠ gb533) := ⟨h16_⟩
   have NB533_518 : Aside0 (gb533 ≠ gb518) := ⟨h17_⟩
   replace HO_10 : Aside0 (Kd.R (Kd.int .i64) 3 w67 w.heap.size (fun k_ => some k_ ≠ (v531 : Value).ownBlock ∧ some k_ ≠ (v506 : Value).ownBlock) (.slice Ao60 t515.length co60) t522) := ⟨h1_⟩
   replace HO_8 : Aside0 (Kd.R (Kd.int .i64) 3 w67 w.heap.size (fun k_ => some k_ ≠ (v531 : Value).ownBlock ∧ some k_ ≠ (.slice Ao60 t515.length co60 : Value).ownBlock) v506 t505) := ⟨h2_⟩
   replace BK497 : Aside0 (w67.heap[gb497]? = some (.cells #[.int .i64 a1_0, .int .i64 a1_1] 23 (0, 0))) := ⟨h3_⟩
   replace BK498 : Aside0 (w67.heap[gb498]? = some (.cells #[.int .i64 a2_0, .int .i64 a2_1] 23 (0, 0))) := ⟨h4_⟩
   replace BK508 : Aside0 (w67.heap[gb508]? = some (.cells #[.int .i64 t503, .int .i64 t504] 24 (0, 0))) := ⟨h5_⟩
   replace BK518 : Aside0 (w67.heap[gb518]? = some (.cells #[.int .i64 t513, .int .i64 t514] 24 (0, 0))) := ⟨h6_⟩
   replace HB : Aside0 (Below w.heap.size w w67) := ⟨h18_⟩
   clear h0_ h1_ h2_ h3_ h4_ h5_ h6_ h7_ h8_ h9_ h10_ h11_ h12_ h13_ h14_ h15_ h16_ h17_ h18_
   have hHeld : w67.cell? ⟨gb497, 0, none⟩ = some (.int .i64 a1_0) ∧ w67.cell? ⟨gb497, 1, none⟩ = some (.int .i64 a1_1) ∧ w67.cell? ⟨gb498, 0, none⟩ = some (.int .i64 a2_0) ∧ w67.cell? ⟨gb498, 1, none⟩ = some (.int .i64 a2_1) := hS_
   refine norm_ (a' := ?_) ?_ ?_
   rotate_left
   ·simp only [putAll, Act.put, List.setIfInBounds_toArray, List.set_cons_zero, List.set_cons_succ]
    rfl
   refine one_ (i := 10) (N := none) (lb 12 2047) rfl rfl (one_of HT_.out (by kernel_rfl)) (by decide) (fun K hK => ?_)
   have hs68 : w67.cell? ⟨gb533, 0, none⟩ = some (.int .i64 0) := bc BK533 0
   have hfs68 := blk_frozen BK533.out 0
   have hns68_0 := NB497_533.out
   have hns68_1 := NB498_533.out
   have hns68_2 := NB508_533.out
   have hns68_3 := NB518_533.out
   have hms68_0 := NB533_497.out
   have hms68_1 := NB533_498.out
   have hms68_2 := NB533_508.out
   have hms68_3 := NB533_518.out
   have hs69 : w67.cell? ⟨gb533, 1, none⟩ = some (.int .i64 0) := bc BK533 1
   have hfs69 := blk_frozen BK533.out 1
   have hns69_0 := NB497_533.out
   have hns69_1 := NB498_533.out
   have hns69_2 := NB508_533.out
   have hns69_3 := NB518_533.out
   have hms69_0 := NB533_497.out
   have hms69_1 := NB533_498.out
   have hms69_2 := NB533_508.out
   have hms69_3 := NB533_518.out
   refine skip_ (w1 := ?_) (by rfl) rfl ?_ ?_
   rotate_left
   ·go_simp
    rfl
   refine hK.out _ _ ⟨((cell_far (p := ⟨gb533, _, none⟩) NB497_533.out _).trans (((cell_far (p := ⟨gb533, _, none⟩) NB497_533.out _).trans (hHeld.1)))), ((cell_far (p := ⟨gb533, _, none⟩) NB497_533.out _).trans (((cell_far (p := ⟨gb533, _, none⟩) NB497_533.out _).trans (hHeld.2.1)))), ((cell_far (p := ⟨gb533, _, none⟩) NB498_533.out _).trans (((cell_far (p := ⟨gb533, _, none⟩) NB498_533.out _).trans (hHeld.2.2.1)))), ((cell_far (p := ⟨gb533, _, none⟩) NB498_533.out _).trans (((cell_far (p := ⟨gb533, _, none⟩) NB498_533.out _).trans (hHeld.2.2.2))))⟩ (fun hHeld => ?_)
   clear hK K
   refine pj 11 (some 14) (lb 12 4095) ?_
   refine done_ (done_of HT_.out (by kernel_rfl)) ?_
   go_upto_region 14 with (fail)
   go_cut [72] (fun v72 wc => ∃ (kq : Nat) (x72_58 : Bool), v72 = .bool x72_58 ∧ Aside0 (laws_FnExactRangeDo.j1 kq t522 t521 x72_58 = some r) ∧ Aside0 (kq ≤ kj9) ∧ Aside0 (Kd.R (Kd.int .i64) 3 wc w.heap.size (fun _ => True) (.slice Ao60 t515.length co60) t522) ∧ Aside0 (wc.heap[gb497]? = some (.cells #[.int .i64 a1_0, .int .i64 a1_1] 23 (0, 0))) ∧ Aside0 (wc.heap[gb498]? = some (.cells #[.int .i64 a2_0, .int .i64 a2_1] 23 (0, 0))) ∧ Aside0 (wc.heap[gb508]? = some (.cells #[.int .i64 t503, .int .i64 t504] 24 (0, 0))) ∧ Aside0 (wc.heap[gb518]? = some (.cells #[.int .i64 t513, .int .i64 t514] 24 (0, 0))) ∧ Aside0 (wc.heap[gb533]? = some (.cells #[.int .i64 t528, .int .i64 t529] 24 (0, 0))) ∧ Aside0 (Below w.heap.size w wc))
   case first =>
    have H := HC59.out
    clear HC59
    replace H := Option.bind_eq_some_iff.mp H
    obtain ⟨t534, A700, H⟩ := H
    try dsimp only at H
    have A70 := am A700
    clear A700
    by_cases c71 : t534 = true
    rotate_left
    ·replace c71 := Bool.eq_false_iff.mpr c71
     subst c71
     rw [if_neg (show ¬ (false = true) by decide)] at H
     have H' := am H
     clear H
     obtain ⟨hnb85,hnc85⟩ := nn NB533_497
     obtain ⟨hnb86,hnc86⟩ := nn NB533_498
     obtain ⟨hnb87,hnc87⟩ := nn NB533_508
     obtain ⟨hnb88,hnc88⟩ := nn NB533_518
     obtain ⟨hcz89_0,hcz89_1,hfz89_0,hfz89_1⟩ := c2 BK533
     obtain ⟨hnb90,hnc90⟩ := nn NB508_497
     obtain ⟨hnb91,hnc91⟩ := nn NB508_498
     obtain ⟨hnb92,hnc92⟩ := nn NB508_518
     obtain ⟨hcz93_0,hcz93_1,hfz93_0,hfz93_1⟩ := c2 BK508
     go_wp2_with (first | ((with_reducible refine gate_callee (f := 12) rfl ?_); refine goesL_ (some 65) rfl rfl Try.func12 (by kernel_rfl) rfl #[.agg #[.int .i64 t528, .int .i64 t529], .agg #[.int .i64 t503, .int .i64 t504]] rfl mz ?_; (with_reducible refine (laws_eqRange.calls t528 t529 t503 t504 false _ A70.out).mono ?_); rintro e w94 ⟨rfl, hb⟩; refine ⟨_, rfl, ?_⟩; replace HO_8 := am (Kd.R_below (by (with_reducible repeat (first | apply Kd.R_alloc | apply Kd.R_drewN | apply Kd.R_drew)); exact (Kd.R_mono (Kd.R_far (p := ⟨gb533, 1, none⟩) (Kd.R_far (p := ⟨gb533, 0, none⟩) (Kd.R_types HO_8.out BK533.out (by decide)) (fun _ hk => hk.2) (.int .i64 t528)) (fun _ hk => hk.2) (.int .i64 t529)) (fun _ h_ => h_.1))) hb); replace HO_10 := am (Kd.R_below (by (with_reducible repeat (first | apply Kd.R_alloc | apply Kd.R_drewN | apply Kd.R_drew)); exact (Kd.R_mono (Kd.R_far (p := ⟨gb533, 1, none⟩) (Kd.R_far (p := ⟨gb533, 0, none⟩) (Kd.R_types HO_10.out BK533.out (by decide)) (fun _ hk => hk.2) (.int .i64 t528)) (fun _ hk => hk.2) (.int .i64 t529)) (fun _ h_ => h_.1))) hb); replace HO532 := am (Kd.R_below (by (with_reducible repeat (first | apply Kd.R_alloc | apply Kd.R_drewN | apply Kd.R_drew)); exact (Kd.R_mono (Kd.R_far (p := ⟨gb533, 1, none⟩) (Kd.R_far (p := ⟨gb533, 0, none⟩) (Kd.R_types HO532.out BK533.out (by decide)) (fun _ hk => hk.2) (.int .i64 t528)) (fun _ hk => hk.2) (.int .i64 t529)) (fun _ h_ => h_.1))) hb); replace BK497 := am (blk_below (g := gb497) (o := b2 a1_0 a1_1 23) (by refine fa NB497_533 ?_; refine fa NB497_533 ?_; exact Z BK497) hb); replace BK498 := am (blk_below (g := gb498) (o := b2 a2_0 a2_1 23) (by refine fa NB498_533 ?_; refine fa NB498_533 ?_; exact Z BK498) hb); replace BK508 := am (blk_below (g := gb508) (o := b2 t503 t504 24) (by refine fa NB508_533 ?_; refine fa NB508_533 ?_; exact Z BK508) hb); replace BK518 := am (blk_below (g := gb518) (o := b2 t513 t514 24) (by refine fa NB518_533 ?_; refine fa NB518_533 ?_; exact Z BK518) hb); replace BK533 := am (blk_below (g := gb533) (o := b2 t528 t529 24) (by refine pf ?_; refine blk_put (cs := #[.int .i64 t528, .int .i64 0]) ?_ 1 _ rfl; refine pf ?_; refine blk_put (cs := #[.int .i64 0, .int .i64 0]) ?_ 0 _ rfl; exact Z BK533) hb); replace HB := am (below_step (Y5 HB GE497 GE498 GE508 GE518 GE533) hb); (try clear hb)))
     go_meet
     case rel => exact ⟨_, (true), ey, H', ⟨by have := HJ9.out; first | omega | exact Nat.le_refl _⟩, ⟨by (with_reducible repeat (first | apply Kd.R_alloc | apply Kd.R_drewN | apply Kd.R_drew)); exact Kd.R_mono HO_10.out (fun _ hk => trivial)⟩, ⟨Z BK497⟩, ⟨Z BK498⟩, ⟨Z BK508⟩, ⟨Z BK518⟩, ⟨Z BK533⟩, ⟨Y5 HB GE497 GE498 GE508 GE518 GE533⟩⟩
    subst c71
    rw [if_pos rfl] at H
    replace H := Option.bind_eq_some_iff.mp H
    obtain ⟨t535, A720, H⟩ := H
    try dsimp only at H
    have A72 := am A720
    clear A720
    have H' := am H
    clear H
    obtain ⟨hnb73,hnc73⟩ := nn NB533_497
    obtain ⟨hnb74,hnc74⟩ := nn NB533_498
    obtain ⟨hnb75,hnc75⟩ := nn NB533_508
    obtain ⟨hnb76,hnc76⟩ := nn NB533_518
    obtain ⟨hcz77_0,hcz77_1,hfz77_0,hfz77_1⟩ := c2 BK533
    obtain ⟨hnb78,hnc78⟩ := nn NB508_497
    obtain ⟨hnb79,hnc79⟩ := nn NB508_498
    obtain ⟨hnb80,hnc80⟩ := nn NB508_518
    obtain ⟨hcz81_0,hcz81_1,hfz81_0,hfz81_1⟩ := c2 BK508
    go_wp2_with (first | ((with_reducible refine gate_callee (f := 12) rfl ?_); refine goesL_ (some 65) rfl rfl Try.func12 (by kernel_rfl) rfl #[.agg #[.int .i64 t528, .int .i64 t529], .agg #[.int .i64 t503, .int .i64 t504]] rfl mz ?_; (with_reducible refine (laws_eqRange.calls t528 t529 t503 t504 true _ A70.out).mono ?_); rintro e w82 ⟨rfl, hb⟩; refine ⟨_, rfl, ?_⟩; replace HO_8 := am (Kd.R_below (by (with_reducible repeat (first | apply Kd.R_alloc | apply Kd.R_drewN | apply Kd.R_drew)); exact (Kd.R_mono (Kd.R_far (p := ⟨gb533, 1, none⟩) (Kd.R_far (p := ⟨gb533, 0, none⟩) (Kd.R_types HO_8.out BK533.out (by decide)) (fun _ hk => hk.2) (.int .i64 t528)) (fun _ hk => hk.2) (.int .i64 t529)) (fun _ h_ => h_.1))) hb); replace HO_10 := am (Kd.R_below (by (with_reducible repeat (first | apply Kd.R_alloc | apply Kd.R_drewN | apply Kd.R_drew)); exact (Kd.R_mono (Kd.R_far (p := ⟨gb533, 1, none⟩) (Kd.R_far (p := ⟨gb533, 0, none⟩) (Kd.R_types HO_10.out BK533.out (by decide)) (fun _ hk => hk.2) (.int .i64 t528)) (fun _ hk => hk.2) (.int .i64 t529)) (fun _ h_ => h_.1))) hb); replace HO532 := am (Kd.R_below (by (with_reducible repeat (first | apply Kd.R_alloc | apply Kd.R_drewN | apply Kd.R_drew)); exact (Kd.R_mono (Kd.R_far (p := ⟨gb533, 1, none⟩) (Kd.R_far (p := ⟨gb533, 0, none⟩) (Kd.R_types HO532.out BK533.out (by decide)) (fun _ hk => hk.2) (.int .i64 t528)) (fun _ hk => hk.2) (.int .i64 t529)) (fun _ h_ => h_.1))) hb); replace BK497 := am (blk_below (g := gb497) (o := b2 a1_0 a1_1 23) (by refine fa NB497_533 ?_; refine fa NB497_533 ?_; exact Z BK497) hb); replace BK498 := am (blk_below (g := gb498) (o := b2 a2_0 a2_1 23) (by refine fa NB498_533 ?_; refine fa NB498_533 ?_; exact Z BK498) hb); replace BK508 := am (blk_below (g := gb508) (o := b2 t503 t504 24) (by refine fa NB508_533 ?_; refine fa NB508_533 ?_; exact Z BK508) hb); replace BK518 := am (blk_below (g := gb518) (o := b2 t513 t514 24) (by refine fa NB518_533 ?_; refine fa NB518_533 ?_; exact Z BK518) hb); replace BK533 := am (blk_below (g := gb533) (o := b2 t528 t529 24) (by refine pf ?_; refine blk_put (cs := #[.int .i64 t528, .int .i64 0]) ?_ 1 _ rfl; refine pf ?_; refine blk_put (cs := #[.int .i64 0, .int .i64 0]) ?_ 0 _ rfl; exact Z BK533) hb); replace HB := am (below_step (Y5 HB GE497 GE498 GE508 GE518 GE533) hb); (try clear hb); obtain ⟨Ao83, co83, eo83⟩ := Kd.R_slice HO532.out; subst eo83; obtain ⟨Ao84, co84, eo84⟩ := Kd.R_slice HO_8.out; subst eo84) | (go_at_call 13; (with_reducible refine (laws_eqIntS.calls kj9 _ _ t530 _ _ t505 t535 _ ?side1 ?side2 ?side3 ?side4 A72.out).mono ?_); (case side1 => repeat (first | exact (Kd.R_reads' HO532.out).2.2 | (with_reducible refine Kd.C_alloc ?_ _) | (with_reducible refine Kd.C_drewN ?_ _) | (with_reducible refine Kd.C_drew ?_))); (case side2 => exact (Kd.R_reads' HO532.out).2.1); (case side3 => repeat (first | exact (Kd.R_reads' HO_8.out).2.2 | (with_reducible refine Kd.C_alloc ?_ _) | (with_reducible refine Kd.C_drewN ?_ _) | (with_reducible refine Kd.C_drew ?_))); (case side4 => exact (Kd.R_reads' HO_8.out).2.1); rintro e w' ⟨rfl, ⟨nd, rfl⟩⟩))
    go_meet
    case rel => exact ⟨_, (!t535), ey, H', ⟨by have := HJ9.out; first | omega | exact Nat.le_refl _⟩, ⟨by (with_reducible repeat (first | apply Kd.R_alloc | apply Kd.R_drewN | apply Kd.R_drew)); exact Kd.R_mono HO_10.out (fun _ hk => trivial)⟩, ⟨Z BK497⟩, ⟨Z BK498⟩, ⟨Z BK508⟩, ⟨Z BK518⟩, ⟨Z BK533⟩, ⟨Y5 HB GE497 GE498 GE508 GE518 GE533⟩⟩
   case rest =>
    clear HC59
    obtain ⟨kq, x72_58, rfl, HA, HJ58, HO_10, BK497, BK498, BK508, BK518, BK533, HB⟩ := hcut
    have hl10_58 := (Kd.R_reads' HO_10.out).1
    rw [hl10_58] at HO_10
    (try simp only [hl10_58])
    (try simp only [hl10_58] at BK497)
    (try simp only [hl10_58] at BK498)
    (try simp only [hl10_58] at BK508)
    (try simp only [hl10_58] at BK518)
    (try simp only [hl10_58] at BK533)
    cases kq with
    | zero => exact absurd HA.out (by simp [laws_FnExactRangeDo.j1])
    | succ kj58 =>
     have H := HA.out
     clear HA
     simp only [laws_FnExactRangeDo.j1] at H
     by_cases c95 : x72_58 = true
     ·subst c95
      rw [if_pos rfl] at H
      exact absurd H (by simp)
     replace c95 := Bool.eq_false_iff.mpr c95
     subst c95
     rw [if_neg (show ¬ (false = true) by decide)] at H
     replace H := Option.bind_eq_some_iff.mp H
     obtain ⟨t536, A960, H⟩ := H
     try dsimp only at H
     have A96 := am A960
     clear A960
     by_cases c97 : t536 < 0
     ·rw [if_pos c97] at H
      exact absurd H (by simp)
     rw [if_neg c97] at H
     have c97b0 : decide (t536 < 0) = false := decide_eq_false c97
     clear c97
     by_cases c98 : t536 = t521
     rotate_left
     ·rw [if_neg c98] at H
      exact absurd H (by simp)
     rw [if_pos c98] at H
     have c98b0 : (t536 == t521) = true := beq_iff_eq.mpr c98
     have c98b1 : (t536 != t521) = false := bne_eq_false_iff_eq.mpr c98
     clear c98
     obtain rfl := Option.some.inj H
     go_wp2_with (first | ((with_reducible refine gate_callee (f := 15) rfl ?_); refine goesL_ (some 75) rfl rfl Try.func15 (by kernel_rfl) rfl #[.slice Ao60 t522.length co60, .int .i64 1] rfl mz ?_; (with_reducible refine (laws_heldIntS.calls kj58 _ _ t522 1 t536 _ ?side1 ?side2 A96.out).mono ?_); (case side1 => repeat (first | exact (Kd.R_reads' HO_10.out).2.2 | (with_reducible refine Kd.C_alloc ?_ _) | (with_reducible refine Kd.C_drewN ?_ _) | (with_reducible refine Kd.C_drew ?_))); (case side2 => exact (Kd.R_reads' HO_10.out).2.1); rintro e w' ⟨rfl, ⟨nd, rfl⟩⟩; refine ⟨_, rfl, ?_⟩))
     go_ret
     exact ⟨ez, Y5 HB GE497 GE498 GE508 GE518 GE533⟩

end Go.Proofs.Ythbkakcchgnhpaa.PFnExactRangeDo
