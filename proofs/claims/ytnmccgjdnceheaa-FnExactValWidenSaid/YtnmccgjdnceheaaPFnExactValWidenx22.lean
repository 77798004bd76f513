/- Written by this session's own driver (wip/dprint.py): the functions that the law FnExactValWiden reaches, as Lean functions, each with its contract. -/
import Derived.Test.YtnmccgjdnceheaaPFnExactValWidenx0
import Derived.Test.YtnmccgjdnceheaaPFnExactValWidenx3
import Derived.Test.YtnmccgjdnceheaaPFnExactValWidenx13
import Derived.Test.YtnmccgjdnceheaaPFnExactValWidenx14
import Derived.Test.YtnmccgjdnceheaaPFnExactValWidenx21
import Derived.Test.YtnmccgjdnceheaaSv
namespace Go.Proofs.Ytnmccgjdnceheaa.PFnExactValWiden
open Go.RowKit Go.Proofs.YtnmccgjdnceheaaV.PrintWords Go.Proofs.YtnmccgjdnceheaaV.PrintLast Go.Proofs.YtnmccgjdnceheaaV.PrintMore Go.Proofs.YtnmccgjdnceheaaSv
attribute [local go_sem] max2_int min2_int max_two min_two max_three min_three max_four min_four   -- for this text's walks alone
set_option linter.unusedVariables false
set_option linter.unusedSimpArgs false

/-! ### laws_FnExactValWiden: function 7 -/
def laws_FnExactValWiden.f (k : Nat) (a0_0 : Int) (a0_1 : Int) (a0_2 : Int) (a0_3 : Int) (a1_0 : Int) (a1_1 : Int) (a1_2 : Int) (a1_3 : Int) (l2 : List Int) : Option (Bool) := if (l2.length : Int) > 1048576 then (some true) else ((laws_toVal.f a0_0 a0_1 a0_2 a0_3).bind fun bt460 => ((laws_toVal.f a1_0 a1_1 a1_2 a1_3).bind fun bt464 => ((laws_toIntS.f k l2).bind fun t468 => ((spec_ValWiden.f k bt460.1 bt460.2.1 bt460.2.2.1 bt460.2.2.2 bt464.1 bt464.2.1 bt464.2.2.1 bt464.2.2.2 t468).bind fun bt471 => ((laws_toIntS.f k l2).bind fun t476 => ((laws_toVal.f a0_0 a0_1 a0_2 a0_3).bind fun bt479 => ((laws_toVal.f a1_0 a1_1 a1_2 a1_3).bind fun bt483 => ((impl_ValWiden.f k bt479.1 bt479.2.1 bt479.2.2.1 bt479.2.2.2 bt483.1 bt483.2.1 bt483.2.2.1 bt483.2.2.2 t476).bind fun bt487 => ((laws_eqVal.f bt487.1 bt487.2.1 bt487.2.2.1 bt487.2.2.2 bt471.1 bt471.2.1 bt471.2.2.1 bt471.2.2.2).bind fun t492 => (if t492 = true then ((laws_toIntS.f k l2).bind fun t493 => ((laws_eqIntS.f k t476 t493).bind fun t496 => (if t496 = true then (some true) else (none)))) else (none)))))))))))
theorem laws_FnExactValWiden.mono : ∀ a0 a1 a2 a3 a4 a5 a6 a7 a8 k, LeO (laws_FnExactValWiden.f k a0 a1 a2 a3 a4 a5 a6 a7 a8) (laws_FnExactValWiden.f (k + 1) a0 a1 a2 a3 a4 a5 a6 a7 a8) := by
 intro a0 a1 a2 a3 a4 a5 a6 a7 a8 k
 unfold laws_FnExactValWiden.f
 repeat' first
   | (with_reducible exact impl_ValWiden.mono _ _ _ _ _ _ _ _ _ _)
   | (with_reducible exact laws_eqIntS.mono _ _ _)
   | (with_reducible exact laws_toIntS.mono _ _)
   | (with_reducible exact spec_ValWiden.mono _ _ _ _ _ _ _ _ _ _)
   | (with_reducible exact LeO.refl _)
   | (with_reducible exact LeO.none _)
   | (with_reducible refine LeO.ite ?_ ?_)
   | (with_reducible refine LeO.bind ?_ (fun _ => ?_))
   | exact impl_ValWiden.mono _ _ _ _ _ _ _ _ _ _
   | exact laws_eqIntS.mono _ _ _
   | exact laws_toIntS.mono _ _
   | exact spec_ValWiden.mono _ _ _ _ _ _ _ _ _ _
   | exact LeO.none _
   | refine LeO.ite ?_ ?_
   | refine LeO.bind ?_ (fun _ => ?_)
def laws_FnExactValWiden.T3 : Bool × List (List Nat × List Nat) := (true, [([], []), ([0], [0]), ([], []), ([2, 1], [2]), ([], []), ([4, 3], [4]), ([1, 3, 5, 5], [1, 3, 5]), ([], []), ([7, 6, 6, 0, 1, 2, 3, 4, 5, 6, 7], [6, 7])])
def laws_FnExactValWiden.B3 : List Nat := [0, 1, 0, 7, 0, 31, 63, 0, 255]
theorem laws_FnExactValWiden.tab3 : rtab .any (opsOf Try.f7 3) = laws_FnExactValWiden.T3 := by kernel_rfl
theorem laws_FnExactValWiden.bits3 : waitsOk laws_FnExactValWiden.T3.2 laws_FnExactValWiden.B3 = true := by kernel_rfl
def laws_FnExactValWiden.T5 : Bool × List (List Nat × List Nat) := (true, [([], []), ([0], [0]), ([], []), ([2, 1], [2]), ([], []), ([1, 3, 4, 3], [1, 3, 4]), ([], []), ([6, 5, 5, 0, 1, 2, 3, 4, 5, 6], [5, 6])])
def laws_FnExactValWiden.B5 : List Nat := [0, 1, 0, 7, 0, 31, 0, 127]
theorem laws_FnExactValWiden.tab5 : rtab .any (opsOf Try.f7 5) = laws_FnExactValWiden.T5 := by kernel_rfl
theorem laws_FnExactValWiden.bits5 : waitsOk laws_FnExactValWiden.T5.2 laws_FnExactValWiden.B5 = true := by kernel_rfl
set_option maxHeartbeats 8000000 in
set_option maxRecDepth 100000 in
theorem laws_FnExactValWiden.calls (k : Nat) (a0_0 : Int) (a0_1 : Int) (a0_2 : Int) (a0_3 : Int) (a1_0 : Int) (a1_1 : Int) (a1_2 : Int) (a1_3 : Int) (A2 : Option Addr) (c2 : Nat) (l2 : List Int) (r : Bool) (w : World) (hr2 : Kd.C (Kd.int .i64) w A2 l2.length l2) (hc2 : l2.length ≤ c2) (h : laws_FnExactValWiden.f k a0_0 a0_1 a0_2 a0_3 a1_0 a1_1 a1_2 a1_3 l2 = some r) :
  Calls Try.prog 7 #[.agg #[.int .i64 a0_0, .int .i64 a0_1, .int .i64 a0_2, .int .i64 a0_3], .agg #[.int .i64 a1_0, .int .i64 a1_1, .int .i64 a1_2, .int .i64 a1_3], .slice A2 l2.length c2] w fun e w' => e = .returned (.bool r) ∧ Below w.heap.size w w' := by
 have hu23 := Try.underlying23
 have hu25 := Try.underlying25
 have HR2 := am hr2
 have HC2 := am hc2
 clear hr2 hc2
 have HB := am (Below.refl w.heap.size w)
 have H : (if (l2.length : Int) > 1048576 then (some true) else ((laws_toVal.f a0_0 a0_1 a0_2 a0_3).bind fun bt460 => ((laws_toVal.f a1_0 a1_1 a1_2 a1_3).bind fun bt464 => ((laws_toIntS.f k l2).bind fun t468 => ((spec_ValWiden.f k bt460.1 bt460.2.1 bt460.2.2.1 bt460.2.2.2 bt464.1 bt464.2.1 bt464.2.2.1 bt464.2.2.2 t468).bind fun bt471 => ((laws_toIntS.f k l2).bind fun t476 => ((laws_toVal.f a0_0 a0_1 a0_2 a0_3).bind fun bt479 => ((laws_toVal.f a1_0 a1_1 a1_2 a1_3).bind fun bt483 => ((impl_ValWiden.f k bt479.1 bt479.2.1 bt479.2.2.1 bt479.2.2.2 bt483.1 bt483.2.1 bt483.2.2.1 bt483.2.2.2 t476).bind fun bt487 => ((laws_eqVal.f bt487.1 bt487.2.1 bt487.2.2.1 bt487.2.2.2 bt471.1 bt471.2.1 bt471.2.2.1 bt471.2.2.2).bind fun t492 => (if t492 = true then ((laws_toIntS.f k l2).bind fun t493 => ((laws_eqIntS.f k t476 t493).bind fun t496 => (if t496 = true then (some true) else (none)))) else (none)))))))))))) = some r := h
 clear h
 by_cases c4 : (l2.length : Int) > 1048576
 ·rw [if_pos c4] at H
  have c4b0 : decide (1048576 < (l2.length : Int)) = true := decide_eq_true c4
  have c4b1 : decide (1048576 < l2.length) = true := decide_eq_true (by omega)
  clear c4
  obtain rfl := Option.some.inj H
  go_enter Try.func7, Try.ntmps7
  go_wp2_with (first | ((with_reducible refine gate_dst (N := 3) rfl ?_); refine box_event ?hg (N := 3) ?hd (cs := #[.int .i64 a0_0, .int .i64 a0_1, .int .i64 a0_2, .int .i64 a0_3]) (t := 23) ?hr ?_; (case hd => rfl); (case hg => rfl); (case hr => first | (go_simp; done) | (go_simp; rfl)); intro gb458 hg w5 hbox hb; have n0_ := am (below_step (Y0 HB) hb); have n1_ := am (hbox); have n2_ := am ((by rw [hg]; exact (below_size (Y0 HB)) : w.heap.size ≤ gb458)); have n3_ := am ((by rw [hg]; exact (below_size (Y0 HB)) : w.heap.size ≤ gb458)); clear HB; have HB := n0_; have BK458 := n1_; have GW458 := n2_; have GE458 := n3_; clear n0_ n1_ n2_ n3_; clear hb hbox hg) | ((with_reducible refine gate_dst (N := 4) rfl ?_); refine box_event ?hg (N := 4) ?hd (cs := #[.int .i64 a1_0, .int .i64 a1_1, .int .i64 a1_2, .int .i64 a1_3]) (t := 23) ?hr ?_; (case hd => rfl); (case hg => rfl); (case hr => first | (go_simp; done) | (go_simp; rfl)); intro gb459 hg w6 hbox hb; have n0_ := am (blk_below (g := gb458) (o := b4 a0_0 a0_1 a0_2 a0_3 23) (Z BK458) hb); have n1_ := am (below_step (Y1 HB GE458) hb); have n2_ := am (hbox); have n3_ := am ((by rw [hg]; exact (below_size (Y1 HB GE458)) : w.heap.size ≤ gb459)); have n4_ := am ((by rw [hg]; exact (below_size (Y1 HB GE458)) : w.heap.size ≤ gb459)); have n5_ := am ((nl (o := b4 a0_0 a0_1 a0_2 a0_3 23) hg (Z BK458) : gb458 ≠ gb459)); have n6_ := am ((ng (o := b4 a0_0 a0_1 a0_2 a0_3 23) hg (Z BK458) : gb459 ≠ gb458)); clear BK458; clear HB; have BK458 := n0_; have HB := n1_; have BK459 := n2_; have GW459 := n3_; have GE459 := n4_; have NB458_459 := n5_; have NB459_458 := n6_; clear n0_ n1_ n2_ n3_ n4_ n5_ n6_; clear hb hbox hg))
  go_ret
  exact ⟨by first | rfl | (simp [errW_none, errW_some] <;> rfl) | (simp [*, errW_none, errW_some] <;> rfl), Y2 HB GE458 GE459⟩
 ·rw [if_neg c4] at H
  have c4b0 : decide (1048576 < (l2.length : Int)) = false := decide_eq_false c4
  have c4b1 : decide (1048576 < l2.length) = false := decide_eq_false (by omega)
  clear c4
  replace H := Option.bind_eq_some_iff.mp H
  obtain ⟨⟨t460, t461, t462, t463⟩, A70, H⟩ := H
  replace H : ((laws_toVal.f a1_0 a1_1 a1_2 a1_3).bind fun bt464 => ((laws_toIntS.f k l2).bind fun t468 => ((spec_ValWiden.f k t460 t461 t462 t463 bt464.1 bt464.2.1 bt464.2.2.1 bt464.2.2.2 t468).bind fun bt471 => ((laws_toIntS.f k l2).bind fun t476 => ((laws_toVal.f a0_0 a0_1 a0_2 a0_3).bind fun bt479 => ((laws_toVal.f a1_0 a1_1 a1_2 a1_3).bind fun bt483 => ((impl_ValWiden.f k bt479.1 bt479.2.1 bt479.2.2.1 bt479.2.2.2 bt483.1 bt483.2.1 bt483.2.2.1 bt483.2.2.2 t476).bind fun bt487 => ((laws_eqVal.f bt487.1 bt487.2.1 bt487.2.2.1 bt487.2.2.2 bt471.1 bt471.2.1 bt471.2.2.1 bt471.2.2.2).bind fun t492 => (if t492 = true then ((laws_toIntS.f k l2).bind fun t493 => ((laws_eqIntS.f k t476 t493).bind fun t496 => (if t496 = true then (some true) else (none)))) else (none)))))))))) = some r := H
  have A7 := am A70
  clear A70
  replace H := Option.bind_eq_some_iff.mp H
  obtain ⟨⟨t464, t465, t466, t467⟩, A80, H⟩ := H
  replace H : ((laws_toIntS.f k l2).bind fun t468 => ((spec_ValWiden.f k t460 t461 t462 t463 t464 t465 t466 t467 t468).bind fun bt471 => ((laws_toIntS.f k l2).bind fun t476 => ((laws_toVal.f a0_0 a0_1 a0_2 a0_3).bind fun bt479 => ((laws_toVal.f a1_0 a1_1 a1_2 a1_3).bind fun bt483 => ((impl_ValWiden.f k bt479.1 bt479.2.1 bt479.2.2.1 bt479.2.2.2 bt483.1 bt483.2.1 bt483.2.2.1 bt483.2.2.2 t476).bind fun bt487 => ((laws_eqVal.f bt487.1 bt487.2.1 bt487.2.2.1 bt487.2.2.2 bt471.1 bt471.2.1 bt471.2.2.1 bt471.2.2.2).bind fun t492 => (if t492 = true then ((laws_toIntS.f k l2).bind fun t493 => ((laws_eqIntS.f k t476 t493).bind fun t496 => (if t496 = true then (some true) else (none)))) else (none))))))))) = some r := H
  have A8 := am A80
  clear A80
  replace H := Option.bind_eq_some_iff.mp H
  obtain ⟨t468, A90, H⟩ := H
  replace H : ((spec_ValWiden.f k t460 t461 t462 t463 t464 t465 t466 t467 t468).bind fun bt471 => ((laws_toIntS.f k l2).bind fun t476 => ((laws_toVal.f a0_0 a0_1 a0_2 a0_3).bind fun bt479 => ((laws_toVal.f a1_0 a1_1 a1_2 a1_3).bind fun bt483 => ((impl_ValWiden.f k bt479.1 bt479.2.1 bt479.2.2.1 bt479.2.2.2 bt483.1 bt483.2.1 bt483.2.2.1 bt483.2.2.2 t476).bind fun bt487 => ((laws_eqVal.f bt487.1 bt487.2.1 bt487.2.2.1 bt487.2.2.2 bt471.1 bt471.2.1 bt471.2.2.1 bt471.2.2.2).bind fun t492 => (if t492 = true then ((laws_toIntS.f k l2).bind fun t493 => ((laws_eqIntS.f k t476 t493).bind fun t496 => (if t496 = true then (some true) else (none)))) else (none)))))))) = some r := H
  have A9 := am A90
  clear A90
  replace H := Option.bind_eq_some_iff.mp H
  obtain ⟨⟨t471, t472, t473, t474⟩, A100, H⟩ := H
  replace H : ((laws_toIntS.f k l2).bind fun t476 => ((laws_toVal.f a0_0 a0_1 a0_2 a0_3).bind fun bt479 => ((laws_toVal.f a1_0 a1_1 a1_2 a1_3).bind fun bt483 => ((impl_ValWiden.f k bt479.1 bt479.2.1 bt479.2.2.1 bt479.2.2.2 bt483.1 bt483.2.1 bt483.2.2.1 bt483.2.2.2 t476).bind fun bt487 => ((laws_eqVal.f bt487.1 bt487.2.1 bt487.2.2.1 bt487.2.2.2 t471 t472 t473 t474).bind fun t492 => (if t492 = true then ((laws_toIntS.f k l2).bind fun t493 => ((laws_eqIntS.f k t476 t493).bind fun t496 => (if t496 = true then (some true) else (none)))) else (none))))))) = some r := H
  have A10 := am A100
  clear A100
  replace H := Option.bind_eq_some_iff.mp H
  obtain ⟨t476, A110, H⟩ := H
  replace H : ((laws_toVal.f a0_0 a0_1 a0_2 a0_3).bind fun bt479 => ((laws_toVal.f a1_0 a1_1 a1_2 a1_3).bind fun bt483 => ((impl_ValWiden.f k bt479.1 bt479.2.1 bt479.2.2.1 bt479.2.2.2 bt483.1 bt483.2.1 bt483.2.2.1 bt483.2.2.2 t476).bind fun bt487 => ((laws_eqVal.f bt487.1 bt487.2.1 bt487.2.2.1 bt487.2.2.2 t471 t472 t473 t474).bind fun t492 => (if t492 = true then ((laws_toIntS.f k l2).bind fun t493 => ((laws_eqIntS.f k t476 t493).bind fun t496 => (if t496 = true then (some true) else (none)))) else (none)))))) = some r := H
  have A11 := am A110
  clear A110
  replace H := Option.bind_eq_some_iff.mp H
  obtain ⟨⟨t479, t480, t481, t482⟩, A120, H⟩ := H
  replace H : ((laws_toVal.f a1_0 a1_1 a1_2 a1_3).bind fun bt483 => ((impl_ValWiden.f k t479 t480 t481 t482 bt483.1 bt483.2.1 bt483.2.2.1 bt483.2.2.2 t476).bind fun bt487 => ((laws_eqVal.f bt487.1 bt487.2.1 bt487.2.2.1 bt487.2.2.2 t471 t472 t473 t474).bind fun t492 => (if t492 = true then ((laws_toIntS.f k l2).bind fun t493 => ((laws_eqIntS.f k t476 t493).bind fun t496 => (if t496 = true then (some true) else (none)))) else (none))))) = some r := H
  have A12 := am A120
  clear A120
  replace H := Option.bind_eq_some_iff.mp H
  obtain ⟨⟨t483, t484, t485, t486⟩, A130, H⟩ := H
  replace H : ((impl_ValWiden.f k t479 t480 t481 t482 t483 t484 t485 t486 t476).bind fun bt487 => ((laws_eqVal.f bt487.1 bt487.2.1 bt487.2.2.1 bt487.2.2.2 t471 t472 t473 t474).bind fun t492 => (if t492 = true then ((laws_toIntS.f k l2).bind fun t493 => ((laws_eqIntS.f k t476 t493).bind fun t496 => (if t496 = true then (some true) else (none)))) else (none)))) = some r := H
  have A13 := am A130
  clear A130
  replace H := Option.bind_eq_some_iff.mp H
  obtain ⟨⟨t487, t488, t489, t490⟩, A140, H⟩ := H
  replace H : ((laws_eqVal.f t487 t488 t489 t490 t471 t472 t473 t474).bind fun t492 => (if t492 = true then ((laws_toIntS.f k l2).bind fun t493 => ((laws_eqIntS.f k t476 t493).bind fun t496 => (if t496 = true then (some true) else (none)))) else (none))) = some r := H
  have A14 := am A140
  clear A140
  replace H := Option.bind_eq_some_iff.mp H
  obtain ⟨t492, A150, H⟩ := H
  replace H : (if t492 = true then ((laws_toIntS.f k l2).bind fun t493 => ((laws_eqIntS.f k t476 t493).bind fun t496 => (if t496 = true then (some true) else (none)))) else (none)) = some r := H
  have A15 := am A150
  clear A150
  by_cases c16 : t492 = true
  ·subst c16
   have H1 : ((laws_toIntS.f k l2).bind fun t493 => ((laws_eqIntS.f k t476 t493).bind fun t496 => (if t496 = true then (some true) else (none)))) = some r := by rw [if_pos rfl] at H; exact H
   clear H
   have H := H1
   clear H1
   replace H := Option.bind_eq_some_iff.mp H
   obtain ⟨t493, A170, H⟩ := H
   replace H : ((laws_eqIntS.f k t476 t493).bind fun t496 => (if t496 = true then (some true) else (none))) = some r := H
   have A17 := am A170
   clear A170
   replace H := Option.bind_eq_some_iff.mp H
   obtain ⟨t496, A180, H⟩ := H
   replace H : (if t496 = true then (some true) else (none)) = some r := H
   have A18 := am A180
   clear A180
   by_cases c19 : t496 = true
   ·subst c19
    have H1 : (some true) = some r := by rw [if_pos rfl] at H; exact H
    clear H
    have H := H1
    clear H1
    obtain rfl := Option.some.inj H
    go_enter Try.func7, Try.ntmps7
    try go_wp2_with (first | ((with_reducible refine gate_dst (N := 3) rfl ?_); refine box_event ?hg (N := 3) ?hd (cs := #[.int .i64 a0_0, .int .i64 a0_1, .int .i64 a0_2, .int .i64 a0_3]) (t := 23) ?hr ?_; (case hd => rfl); (case hg => rfl); (case hr => first | (go_simp; done) | (go_simp; rfl)); intro gb458 hg w20 hbox hb; have n0_ := am (below_step (Y0 HB) hb); have n1_ := am (hbox); have n2_ := am ((by rw [hg]; exact (below_size (Y0 HB)) : w.heap.size ≤ gb458)); have n3_ := am ((by rw [hg]; exact (below_size (Y0 HB)) : w.heap.size ≤ gb458)); clear HB; have HB := n0_; have BK458 := n1_; have GW458 := n2_; have GE458 := n3_; clear n0_ n1_ n2_ n3_; clear hb hbox hg) | ((with_reducible refine gate_dst (N := 4) rfl ?_); refine box_event ?hg (N := 4) ?hd (cs := #[.int .i64 a1_0, .int .i64 a1_1, .int .i64 a1_2, .int .i64 a1_3]) (t := 23) ?hr ?_; (case hd => rfl); (case hg => rfl); (case hr => first | (go_simp; done) | (go_simp; rfl)); intro gb459 hg w21 hbox hb; have n0_ := am (blk_below (g := gb458) (o := b4 a0_0 a0_1 a0_2 a0_3 23) (Z BK458) hb); have n1_ := am (below_step (Y1 HB GE458) hb); have n2_ := am (hbox); have n3_ := am ((by rw [hg]; exact (below_size (Y1 HB GE458)) : w.heap.size ≤ gb459)); have n4_ := am ((by rw [hg]; exact (below_size (Y1 HB GE458)) : w.heap.size ≤ gb459)); have n5_ := am ((nl (o := b4 a0_0 a0_1 a0_2 a0_3 23) hg (Z BK458) : gb458 ≠ gb459)); have n6_ := am ((ng (o := b4 a0_0 a0_1 a0_2 a0_3 23) hg (Z BK458) : gb459 ≠ gb458)); clear BK458; clear HB; have BK458 := n0_; have HB := n1_; have BK459 := n2_; have GW459 := n3_; have GE459 := n4_; have NB458_459 := n5_; have NB459_458 := n6_; clear n0_ n1_ n2_ n3_ n4_ n5_ n6_; clear hb hbox hg))
    have n0_ := am (blk_drew BK458.out)
    have n1_ := am (blk_drew BK459.out)
    have n2_ := am (below_drew1 HB.out)
    clear BK458
    clear BK459
    clear HB
    have BK458 := n0_
    have BK459 := n1_
    have HB := n2_
    clear n0_ n1_ n2_
    refine start_ (n := 9) (S := fun w' => w'.cell? ⟨gb458, 0, none⟩ = some (.int .i64 a0_0) ∧ w'.cell? ⟨gb458, 1, none⟩ = some (.int .i64 a0_1) ∧ w'.cell? ⟨gb458, 2, none⟩ = some (.int .i64 a0_2) ∧ w'.cell? ⟨gb458, 3, none⟩ = some (.int .i64 a0_3) ∧ w'.cell? ⟨gb459, 0, none⟩ = some (.int .i64 a1_0) ∧ w'.cell? ⟨gb459, 1, none⟩ = some (.int .i64 a1_1) ∧ w'.cell? ⟨gb459, 2, none⟩ = some (.int .i64 a1_2) ∧ w'.cell? ⟨gb459, 3, none⟩ = some (.int .i64 a1_3)) (ds := []) #[F, F, F, F, F, F, F, F, F] (by kernel_rfl) rfl rfl ⟨bc BK458 0, bc BK458 1, bc BK458 2, bc BK458 3, bc BK459 0, bc BK459 1, bc BK459 2, bc BK459 3⟩ (fun hHeld => ?_); refine with_tabW laws_FnExactValWiden.tab3 laws_FnExactValWiden.bits3 (fun HT_ HW_ => ?_)
    generalize w21.drew = w22 at BK458 BK459 HB hHeld ⊢
    refine pure_ (i := 4) (N := some 17) (v := ?_) (a' := ?_) #[F, F, F, F, T, F, F, F, F] rfl rfl (any_of HT_.out (by kernel_rfl)) (fun _ _ _ h => h) (Or.inl ⟨by rfl, ?_⟩) ?_ ?_
    rotate_left
    ·exact gz
    rotate_left
    ·exact pz
    refine take_ (i := 0) (N := some 13) (v := ?_) (a' := ?_) #[T, F, F, F, T, F, F, F, F] rfl rfl (take_ofW HT_.out HW_.out (by kernel_rfl)) (fun _ _ _ h => h) (Or.inl ⟨by rfl, ?_⟩) hHeld ?_ ?_
    rotate_left
    ·rintro w' ⟨s0, s1, s2, s3, s4, s5, s6, s7⟩
     go_simp
     with_reducible rfl
    rotate_left
    ·exact pz
    refine take_ (i := 2) (N := some 15) (v := ?_) (a' := ?_) #[T, F, T, F, T, F, F, F, F] rfl rfl (take_ofW HT_.out HW_.out (by kernel_rfl)) (fun _ _ _ h => h) (Or.inl ⟨by rfl, ?_⟩) hHeld ?_ ?_
    rotate_left
    ·rintro w' ⟨s0, s1, s2, s3, s4, s5, s6, s7⟩
     go_simp
     with_reducible rfl
    rotate_left
    ·exact pz
    refine join_ (σ := Value × Nat) 1 #[T, T, T, T, T, T, T, T, F] (fun s_ => [(14, .agg #[.int .i64 t460, .int .i64 t461, .int .i64 t462, .int .i64 t463]), (16, .agg #[.int .i64 t464, .int .i64 t465, .int .i64 t466, .int .i64 t467]), (18, s_.1), (19, .agg #[.int .i64 t471, .int .i64 t472, .int .i64 t473, .int .i64 t474]), (7, .pointer (some ⟨s_.2, 0, none⟩))]) (fun s_ w' => (w'.cell? ⟨gb458, 0, none⟩ = some (.int .i64 a0_0) ∧ w'.cell? ⟨gb458, 1, none⟩ = some (.int .i64 a0_1) ∧ w'.cell? ⟨gb458, 2, none⟩ = some (.int .i64 a0_2) ∧ w'.cell? ⟨gb458, 3, none⟩ = some (.int .i64 a0_3) ∧ w'.cell? ⟨gb459, 0, none⟩ = some (.int .i64 a1_0) ∧ w'.cell? ⟨gb459, 1, none⟩ = some (.int .i64 a1_1) ∧ w'.cell? ⟨gb459, 2, none⟩ = some (.int .i64 a1_2) ∧ w'.cell? ⟨gb459, 3, none⟩ = some (.int .i64 a1_3)) ∧ (Kd.R (Kd.int .i64) 3 w' w.heap.size (fun _ => True) s_.1 t468) ∧ (w'.heap[gb458]? = some (.cells #[.int .i64 a0_0, .int .i64 a0_1, .int .i64 a0_2, .int .i64 a0_3] 23 (0, 0))) ∧ (w'.heap[gb459]? = some (.cells #[.int .i64 a1_0, .int .i64 a1_1, .int .i64 a1_2, .int .i64 a1_3] 23 (0, 0))) ∧ (w'.heap[s_.2]? = some (.cells #[.int .i64 0, .int .i64 0, .int .i64 0, .int .i64 0] 25 (0, 0))) ∧ (w.heap.size ≤ s_.2) ∧ (w.heap.size ≤ s_.2) ∧ (gb458 ≠ s_.2) ∧ (s_.2 ≠ gb458) ∧ (gb459 ≠ s_.2) ∧ (s_.2 ≠ gb459) ∧ (Below w.heap.size w w')) ?_ ?_
    rotate_left
    ·intro hJ1_3_5_6_7
     refine join_ (σ := Value) 2 #[T, T, T, T, T, T, T, F, F] (fun s_ => [(14, .agg #[.int .i64 t460, .int .i64 t461, .int .i64 t462, .int .i64 t463]), (16, .agg #[.int .i64 t464, .int .i64 t465, .int .i64 t466, .int .i64 t467]), (18, s_), (19, .agg #[.int .i64 t471, .int .i64 t472, .int .i64 t473, .int .i64 t474])]) (fun s_ w' => (w'.cell? ⟨gb458, 0, none⟩ = some (.int .i64 a0_0) ∧ w'.cell? ⟨gb458, 1, none⟩ = some (.int .i64 a0_1) ∧ w'.cell? ⟨gb458, 2, none⟩ = some (.int .i64 a0_2) ∧ w'.cell? ⟨gb458, 3, none⟩ = some (.int .i64 a0_3) ∧ w'.cell? ⟨gb459, 0, none⟩ = some (.int .i64 a1_0) ∧ w'.cell? ⟨gb459, 1, none⟩ = some (.int .i64 a1_1) ∧ w'.cell? ⟨gb459, 2, none⟩ = some (.int .i64 a1_2) ∧ w'.cell? ⟨gb459, 3, none⟩ = some (.int .i64 a1_3)) ∧ (Kd.R (Kd.int .i64) 3 w' w.heap.size (fun _ => True) s_ t468) ∧ (w'.heap[gb458]? = some (.cells #[.int .i64 a0_0, .int .i64 a0_1, .int .i64 a0_2, .int .i64 a0_3] 23 (0, 0))) ∧ (w'.heap[gb459]? = some (.cells #[.int .i64 a1_0, .int .i64 a1_1, .int .i64 a1_2, .int .i64 a1_3] 23 (0, 0))) ∧ (Below w.heap.size w w')) ?_ ?_
     rotate_left
     ·intro hJ1_3_5_6
      refine join_ (σ := Value × Nat) 2 #[T, T, T, T, T, T, F, T, F] (fun s_ => [(14, .agg #[.int .i64 t460, .int .i64 t461, .int .i64 t462, .int .i64 t463]), (16, .agg #[.int .i64 t464, .int .i64 t465, .int .i64 t466, .int .i64 t467]), (18, s_.1), (7, .pointer (some ⟨s_.2, 0, none⟩))]) (fun s_ w' => (w'.cell? ⟨gb458, 0, none⟩ = some (.int .i64 a0_0) ∧ w'.cell? ⟨gb458, 1, none⟩ = some (.int .i64 a0_1) ∧ w'.cell? ⟨gb458, 2, none⟩ = some (.int .i64 a0_2) ∧ w'.cell? ⟨gb458, 3, none⟩ = some (.int .i64 a0_3) ∧ w'.cell? ⟨gb459, 0, none⟩ = some (.int .i64 a1_0) ∧ w'.cell? ⟨gb459, 1, none⟩ = some (.int .i64 a1_1) ∧ w'.cell? ⟨gb459, 2, none⟩ = some (.int .i64 a1_2) ∧ w'.cell? ⟨gb459, 3, none⟩ = some (.int .i64 a1_3)) ∧ (Kd.R (Kd.int .i64) 3 w' w.heap.size (fun _ => True) s_.1 t468) ∧ (w'.heap[gb458]? = some (.cells #[.int .i64 a0_0, .int .i64 a0_1, .int .i64 a0_2, .int .i64 a0_3] 23 (0, 0))) ∧ (w'.heap[gb459]? = some (.cells #[.int .i64 a1_0, .int .i64 a1_1, .int .i64 a1_2, .int .i64 a1_3] 23 (0, 0))) ∧ (w'.heap[s_.2]? = some (.cells #[.int .i64 0, .int .i64 0, .int .i64 0, .int .i64 0] 25 (0, 0))) ∧ (w.heap.size ≤ s_.2) ∧ (w.heap.size ≤ s_.2) ∧ (gb458 ≠ s_.2) ∧ (s_.2 ≠ gb458) ∧ (gb459 ≠ s_.2) ∧ (s_.2 ≠ gb459) ∧ (Below w.heap.size w w')) ?_ ?_
      rotate_left
      ·intro hJ1_3_5_7
       refine join_ (σ := Value) 3 #[T, T, T, T, T, T, F, F, F] (fun s_ => [(14, .agg #[.int .i64 t460, .int .i64 t461, .int .i64 t462, .int .i64 t463]), (16, .agg #[.int .i64 t464, .int .i64 t465, .int .i64 t466, .int .i64 t467]), (18, s_)]) (fun s_ w' => (w'.cell? ⟨gb458, 0, none⟩ = some (.int .i64 a0_0) ∧ w'.cell? ⟨gb458, 1, none⟩ = some (.int .i64 a0_1) ∧ w'.cell? ⟨gb458, 2, none⟩ = some (.int .i64 a0_2) ∧ w'.cell? ⟨gb458, 3, none⟩ = some (.int .i64 a0_3) ∧ w'.cell? ⟨gb459, 0, none⟩ = some (.int .i64 a1_0) ∧ w'.cell? ⟨gb459, 1, none⟩ = some (.int .i64 a1_1) ∧ w'.cell? ⟨gb459, 2, none⟩ = some (.int .i64 a1_2) ∧ w'.cell? ⟨gb459, 3, none⟩ = some (.int .i64 a1_3)) ∧ (Kd.R (Kd.int .i64) 3 w' w.heap.size (fun _ => True) s_ t468) ∧ (w'.heap[gb458]? = some (.cells #[.int .i64 a0_0, .int .i64 a0_1, .int .i64 a0_2, .int .i64 a0_3] 23 (0, 0))) ∧ (w'.heap[gb459]? = some (.cells #[.int .i64 a1_0, .int .i64 a1_1, .int .i64 a1_2, .int .i64 a1_3] 23 (0, 0))) ∧ (Below w.heap.size w w')) ?_ ?_
       rotate_left
       ·intro hJ1_3_5
        refine join_ (σ := Nat) 3 #[T, T, T, T, T, F, F, T, F] (fun s_ => [(14, .agg #[.int .i64 t460, .int .i64 t461, .int .i64 t462, .int .i64 t463]), (16, .agg #[.int .i64 t464, .int .i64 t465, .int .i64 t466, .int .i64 t467]), (7, .pointer (some ⟨s_, 0, none⟩))]) (fun s_ w' => (w'.cell? ⟨gb458, 0, none⟩ = some (.int .i64 a0_0) ∧ w'.cell? ⟨gb458, 1, none⟩ = some (.int .i64 a0_1) ∧ w'.cell? ⟨gb458, 2, none⟩ = some (.int .i64 a0_2) ∧ w'.cell? ⟨gb458, 3, none⟩ = some (.int .i64 a0_3) ∧ w'.cell? ⟨gb459, 0, none⟩ = some (.int .i64 a1_0) ∧ w'.cell? ⟨gb459, 1, none⟩ = some (.int .i64 a1_1) ∧ w'.cell? ⟨gb459, 2, none⟩ = some (.int .i64 a1_2) ∧ w'.cell? ⟨gb459, 3, none⟩ = some (.int .i64 a1_3)) ∧ (w'.heap[gb458]? = some (.cells #[.int .i64 a0_0, .int .i64 a0_1, .int .i64 a0_2, .int .i64 a0_3] 23 (0, 0))) ∧ (w'.heap[gb459]? = some (.cells #[.int .i64 a1_0, .int .i64 a1_1, .int .i64 a1_2, .int .i64 a1_3] 23 (0, 0))) ∧ (w'.heap[s_]? = some (.cells #[.int .i64 0, .int .i64 0, .int .i64 0, .int .i64 0] 25 (0, 0))) ∧ (w.heap.size ≤ s_) ∧ (w.heap.size ≤ s_) ∧ (gb458 ≠ s_) ∧ (s_ ≠ gb458) ∧ (gb459 ≠ s_) ∧ (s_ ≠ gb459) ∧ (Below w.heap.size w w')) ?_ ?_
        rotate_left
        ·intro hJ1_3_7
         refine join_ (σ := Unit) 4 #[T, T, T, T, T, F, F, F, F] (fun s_ => [(14, .agg #[.int .i64 t460, .int .i64 t461, .int .i64 t462, .int .i64 t463]), (16, .agg #[.int .i64 t464, .int .i64 t465, .int .i64 t466, .int .i64 t467])]) (fun s_ w' => (w'.cell? ⟨gb458, 0, none⟩ = some (.int .i64 a0_0) ∧ w'.cell? ⟨gb458, 1, none⟩ = some (.int .i64 a0_1) ∧ w'.cell? ⟨gb458, 2, none⟩ = some (.int .i64 a0_2) ∧ w'.cell? ⟨gb458, 3, none⟩ = some (.int .i64 a0_3) ∧ w'.cell? ⟨gb459, 0, none⟩ = some (.int .i64 a1_0) ∧ w'.cell? ⟨gb459, 1, none⟩ = some (.int .i64 a1_1) ∧ w'.cell? ⟨gb459, 2, none⟩ = some (.int .i64 a1_2) ∧ w'.cell? ⟨gb459, 3, none⟩ = some (.int .i64 a1_3)) ∧ (w'.heap[gb458]? = some (.cells #[.int .i64 a0_0, .int .i64 a0_1, .int .i64 a0_2, .int .i64 a0_3] 23 (0, 0))) ∧ (w'.heap[gb459]? = some (.cells #[.int .i64 a1_0, .int .i64 a1_1, .int .i64 a1_2, .int .i64 a1_3] 23 (0, 0))) ∧ (Below w.heap.size w w')) ?_ ?_
         rotate_left
         ·intro hJ1_3
          refine join_ (σ := Nat) 4 #[T, T, T, F, T, F, F, T, F] (fun s_ => [(14, .agg #[.int .i64 t460, .int .i64 t461, .int .i64 t462, .int .i64 t463]), (7, .pointer (some ⟨s_, 0, none⟩))]) (fun s_ w' => (w'.cell? ⟨gb458, 0, none⟩ = some (.int .i64 a0_0) ∧ w'.cell? ⟨gb458, 1, none⟩ = some (.int .i64 a0_1) ∧ w'.cell? ⟨gb458, 2, none⟩ = some (.int .i64 a0_2) ∧ w'.cell? ⟨gb458, 3, none⟩ = some (.int .i64 a0_3) ∧ w'.cell? ⟨gb459, 0, none⟩ = some (.int .i64 a1_0) ∧ w'.cell? ⟨gb459, 1, none⟩ = some (.int .i64 a1_1) ∧ w'.cell? ⟨gb459, 2, none⟩ = some (.int .i64 a1_2) ∧ w'.cell? ⟨gb459, 3, none⟩ = some (.int .i64 a1_3)) ∧ (w'.heap[gb458]? = some (.cells #[.int .i64 a0_0, .int .i64 a0_1, .int .i64 a0_2, .int .i64 a0_3] 23 (0, 0))) ∧ (w'.heap[gb459]? = some (.cells #[.int .i64 a1_0, .int .i64 a1_1, .int .i64 a1_2, .int .i64 a1_3] 23 (0, 0))) ∧ (w'.heap[s_]? = some (.cells #[.int .i64 0, .int .i64 0, .int .i64 0, .int .i64 0] 25 (0, 0))) ∧ (w.heap.size ≤ s_) ∧ (w.heap.size ≤ s_) ∧ (gb458 ≠ s_) ∧ (s_ ≠ gb458) ∧ (gb459 ≠ s_) ∧ (s_ ≠ gb459) ∧ (Below w.heap.size w w')) ?_ ?_
          rotate_left
          ·intro hJ1_7
           refine join_ (σ := Unit) 5 #[T, T, T, F, T, F, F, F, F] (fun s_ => [(14, .agg #[.int .i64 t460, .int .i64 t461, .int .i64 t462, .int .i64 t463])]) (fun s_ w' => (w'.cell? ⟨gb458, 0, none⟩ = some (.int .i64 a0_0) ∧ w'.cell? ⟨gb458, 1, none⟩ = some (.int .i64 a0_1) ∧ w'.cell? ⟨gb458, 2, none⟩ = some (.int .i64 a0_2) ∧ w'.cell? ⟨gb458, 3, none⟩ = some (.int .i64 a0_3) ∧ w'.cell? ⟨gb459, 0, none⟩ = some (.int .i64 a1_0) ∧ w'.cell? ⟨gb459, 1, none⟩ = some (.int .i64 a1_1) ∧ w'.cell? ⟨gb459, 2, none⟩ = some (.int .i64 a1_2) ∧ w'.cell? ⟨gb459, 3, none⟩ = some (.int .i64 a1_3)) ∧ (w'.heap[gb458]? = some (.cells #[.int .i64 a0_0, .int .i64 a0_1, .int .i64 a0_2, .int .i64 a0_3] 23 (0, 0))) ∧ (w'.heap[gb459]? = some (.cells #[.int .i64 a1_0, .int .i64 a1_1, .int .i64 a1_2, .int .i64 a1_3] 23 (0, 0))) ∧ (Below w.heap.size w w')) ?_ ?_
           rotate_left
           ·intro hJ1
            refine join_ (σ := Nat) 5 #[T, F, T, F, T, F, F, T, F] (fun s_ => [(7, .pointer (some ⟨s_, 0, none⟩))]) (fun s_ w' => (w'.cell? ⟨gb458, 0, none⟩ = some (.int .i64 a0_0) ∧ w'.cell? ⟨gb458, 1, none⟩ = some (.int .i64 a0_1) ∧ w'.cell? ⟨gb458, 2, none⟩ = some (.int .i64 a0_2) ∧ w'.cell? ⟨gb458, 3, none⟩ = some (.int .i64 a0_3) ∧ w'.cell? ⟨gb459, 0, none⟩ = some (.int .i64 a1_0) ∧ w'.cell? ⟨gb459, 1, none⟩ = some (.int .i64 a1_1) ∧ w'.cell? ⟨gb459, 2, none⟩ = some (.int .i64 a1_2) ∧ w'.cell? ⟨gb459, 3, none⟩ = some (.int .i64 a1_3)) ∧ (w'.heap[gb458]? = some (.cells #[.int .i64 a0_0, .int .i64 a0_1, .int .i64 a0_2, .int .i64 a0_3] 23 (0, 0))) ∧ (w'.heap[gb459]? = some (.cells #[.int .i64 a1_0, .int .i64 a1_1, .int .i64 a1_2, .int .i64 a1_3] 23 (0, 0))) ∧ (w'.heap[s_]? = some (.cells #[.int .i64 0, .int .i64 0, .int .i64 0, .int .i64 0] 25 (0, 0))) ∧ (w.heap.size ≤ s_) ∧ (w.heap.size ≤ s_) ∧ (gb458 ≠ s_) ∧ (s_ ≠ gb458) ∧ (gb459 ≠ s_) ∧ (s_ ≠ gb459) ∧ (Below w.heap.size w w')) ?_ ?_
            rotate_left
            ·intro hJ7
             refine two_ (i := 1) (j := 7) (Ni := some 14) (Nj := some 7) #[T, T, T, F, T, F, F, F, F] #[T, F, T, F, T, F, F, T, F] rfl rfl rfl rfl (two_of HT_.out (by kernel_rfl)) (by decide) (by decide) (fun K hK => ?_) (fun K hK => ?_)
             ·skip
              refine goes_ Try.func16 (by kernel_rfl) rfl #[.agg #[.int .i64 a0_0, .int .i64 a0_1, .int .i64 a0_2, .int .i64 a0_3]] (by rfl) rfl rfl mz ?_
              with_reducible refine (laws_toVal.calls a0_0 a0_1 a0_2 a0_3 t460 t461 t462 t463 _ A7.out).mono ?_
              rintro e w23 ⟨rfl, hb⟩
              refine ⟨_, rfl, ?_⟩
              have n0_ := am (blk_below (g := gb458) (o := b4 a0_0 a0_1 a0_2 a0_3 23) (Z BK458) hb)
              have n1_ := am (blk_below (g := gb459) (o := b4 a1_0 a1_1 a1_2 a1_3 23) (Z BK459) hb)
              have n2_ := am (below_step (Y2 HB GE458 GE459) hb)
              clear BK458
              clear BK459
              clear HB
              have BK458 := n0_
              have BK459 := n1_
              have HB := n2_
              clear n0_ n1_ n2_
              (try clear hb)
              (try clear hb2)
              (try clear hk)
              (try clear hi)
              refine hK.out _ _ ⟨bc BK458 0, bc BK458 1, bc BK458 2, bc BK458 3, bc BK459 0, bc BK459 1, bc BK459 2, bc BK459 3⟩ (fun hHeld => ?_)
              clear hK K
              refine norm_ (a' := ?_) ?_ ?_
              rotate_left
              ·show Act.put _ (some 14) _ = _
               simp only [Act.put, List.setIfInBounds_toArray, List.set_cons_zero, List.set_cons_succ, i64_w, i32_w]
               rfl
              exact norm_ nz (hJ1 () _ ⟨hHeld, (Z BK458), (Z BK459), (Y2 HB GE458 GE459)⟩)
             ·skip
              refine box_step ?hg (N := 7) ?hd (cs := #[.int .i64 0, .int .i64 0, .int .i64 0, .int .i64 0]) (t := 25) ?hr ?_; (case hd => rfl); (case hg => rfl); (case hr => first | (go_simp; done) | (go_simp; rfl))
              intro gb475 hg w23 hbox hb
              have n0_ := am (blk_below (g := gb458) (o := b4 a0_0 a0_1 a0_2 a0_3 23) (Z BK458) hb)
              have n1_ := am (blk_below (g := gb459) (o := b4 a1_0 a1_1 a1_2 a1_3 23) (Z BK459) hb)
              have n2_ := am (below_step (Y2 HB GE458 GE459) hb)
              have n3_ := am (hbox)
              have n4_ := am ((by rw [hg]; exact (below_size (Y2 HB GE458 GE459)) : w.heap.size ≤ gb475))
              have n5_ := am ((by rw [hg]; exact (below_size (Y2 HB GE458 GE459)) : w.heap.size ≤ gb475))
              have n6_ := am ((nl (o := b4 a0_0 a0_1 a0_2 a0_3 23) hg (Z BK458) : gb458 ≠ gb475))
              have n7_ := am ((ng (o := b4 a0_0 a0_1 a0_2 a0_3 23) hg (Z BK458) : gb475 ≠ gb458))
              have n8_ := am ((nl (o := b4 a1_0 a1_1 a1_2 a1_3 23) hg (Z BK459) : gb459 ≠ gb475))
              have n9_ := am ((ng (o := b4 a1_0 a1_1 a1_2 a1_3 23) hg (Z BK459) : gb475 ≠ gb459))
              clear BK458
              clear BK459
              clear HB
              have BK458 := n0_
              have BK459 := n1_
              have HB := n2_
              have BK475 := n3_
              have GW475 := n4_
              have GE475 := n5_
              have NB458_475 := n6_
              have NB475_458 := n7_
              have NB459_475 := n8_
              have NB475_459 := n9_
              clear n0_ n1_ n2_ n3_ n4_ n5_ n6_ n7_ n8_ n9_
              clear hb hbox hg
              refine hK.out _ _ ⟨bc BK458 0, bc BK458 1, bc BK458 2, bc BK458 3, bc BK459 0, bc BK459 1, bc BK459 2, bc BK459 3⟩ (fun hHeld => ?_)
              clear hK K
              refine norm_ (a' := ?_) ?_ ?_
              rotate_left
              ·show Act.put _ (some 7) _ = _
               simp only [Act.put, List.setIfInBounds_toArray, List.set_cons_zero, List.set_cons_succ, i64_w, i32_w]
               rfl
              exact norm_ nz (hJ7 (gb475) _ ⟨hHeld, (Z BK458), (Z BK459), (Z BK475), GW475.out, GE475.out, NB458_475.out, NB475_458.out, NB459_475.out, NB475_459.out, (Y3 HB GE458 GE459 GE475)⟩)
            ·skip
             rintro gb475 w24 ⟨hS_, h0_, h1_, h2_, h3_, h4_, h5_, h6_, h7_, h8_, h9_⟩
             have n0_ : Aside0 (w24.heap[gb458]? = some (.cells #[.int .i64 a0_0, .int .i64 a0_1, .int .i64 a0_2, .int .i64 a0_3] 23 (0, 0))) := ⟨h0_⟩
             have n1_ : Aside0 (w24.heap[gb459]? = some (.cells #[.int .i64 a1_0, .int .i64 a1_1, .int .i64 a1_2, .int .i64 a1_3] 23 (0, 0))) := ⟨h1_⟩
             have n2_ : Aside0 (w24.heap[gb475]? = some (.cells #[.int .i64 0, .int .i64 0, .int .i64 0, .int .i64 0] 25 (0, 0))) := ⟨h2_⟩
             have n3_ : Aside0 (w.heap.size ≤ gb475) := ⟨h3_⟩
             have n4_ : Aside0 (w.heap.size ≤ gb475) := ⟨h4_⟩
             have n5_ : Aside0 (gb458 ≠ gb475) := ⟨h5_⟩
             have n6_ : Aside0 (gb475 ≠ gb458) := ⟨h6_⟩
             have n7_ : Aside0 (gb459 ≠ gb475) := ⟨h7_⟩
             have n8_ : Aside0 (gb475 ≠ gb459) := ⟨h8_⟩
             have n9_ : Aside0 (Below w.heap.size w w24) := ⟨h9_⟩
             clear BK458
             clear BK459
             clear HB
             clear h0_ h1_ h2_ h3_ h4_ h5_ h6_ h7_ h8_ h9_
             have BK458 := n0_
             have BK459 := n1_
             have BK475 := n2_
             have GW475 := n3_
             have GE475 := n4_
             have NB458_475 := n5_
             have NB475_458 := n6_
             have NB459_475 := n7_
             have NB475_459 := n8_
             have HB := n9_
             clear n0_ n1_ n2_ n3_ n4_ n5_ n6_ n7_ n8_ n9_
             have hHeld : w24.cell? ⟨gb458, 0, none⟩ = some (.int .i64 a0_0) ∧ w24.cell? ⟨gb458, 1, none⟩ = some (.int .i64 a0_1) ∧ w24.cell? ⟨gb458, 2, none⟩ = some (.int .i64 a0_2) ∧ w24.cell? ⟨gb458, 3, none⟩ = some (.int .i64 a0_3) ∧ w24.cell? ⟨gb459, 0, none⟩ = some (.int .i64 a1_0) ∧ w24.cell? ⟨gb459, 1, none⟩ = some (.int .i64 a1_1) ∧ w24.cell? ⟨gb459, 2, none⟩ = some (.int .i64 a1_2) ∧ w24.cell? ⟨gb459, 3, none⟩ = some (.int .i64 a1_3) := hS_
             refine norm_ (a' := ?_) ?_ ?_
             rotate_left
             ·simp only [putAll, Act.put, List.setIfInBounds_toArray, List.set_cons_zero, List.set_cons_succ]
              rfl
             refine one_ (i := 1) (N := some 14) #[T, T, T, F, T, F, F, T, F] rfl rfl (one_of HT_.out (by kernel_rfl)) (by decide) (fun K hK => ?_)
             refine goes_ Try.func16 (by kernel_rfl) rfl #[.agg #[.int .i64 a0_0, .int .i64 a0_1, .int .i64 a0_2, .int .i64 a0_3]] (by rfl) rfl rfl mz ?_
             with_reducible refine (laws_toVal.calls a0_0 a0_1 a0_2 a0_3 t460 t461 t462 t463 _ A7.out).mono ?_
             rintro e w25 ⟨rfl, hb⟩
             refine ⟨_, rfl, ?_⟩
             have n0_ := am (blk_below (g := gb458) (o := b4 a0_0 a0_1 a0_2 a0_3 23) (Z BK458) hb)
             have n1_ := am (blk_below (g := gb459) (o := b4 a1_0 a1_1 a1_2 a1_3 23) (Z BK459) hb)
             have n2_ := am (blk_below (g := gb475) (o := b4 0 0 0 0 25) (Z BK475) hb)
             have n3_ := am (below_step (Y3 HB GE458 GE459 GE475) hb)
             clear BK458
             clear BK459
             clear BK475
             clear HB
             have BK458 := n0_
             have BK459 := n1_
             have BK475 := n2_
             have HB := n3_
             clear n0_ n1_ n2_ n3_
             (try clear hb)
             (try clear hb2)
             (try clear hk)
             (try clear hi)
             refine hK.out _ _ ⟨bc BK458 0, bc BK458 1, bc BK458 2, bc BK458 3, bc BK459 0, bc BK459 1, bc BK459 2, bc BK459 3⟩ (fun hHeld => ?_)
             clear hK K
             refine norm_ (a' := ?_) ?_ ?_
             rotate_left
             ·show Act.put _ (some 14) _ = _
              simp only [Act.put, List.setIfInBounds_toArray, List.set_cons_zero, List.set_cons_succ, i64_w, i32_w]
              rfl
             exact norm_ nz (hJ1_7 (gb475) _ ⟨hHeld, (Z BK458), (Z BK459), (Z BK475), GW475.out, GE475.out, NB458_475.out, NB475_458.out, NB459_475.out, NB475_459.out, (Y3 HB GE458 GE459 GE475)⟩)
           ·skip
            rintro _ w24 ⟨hS_, h0_, h1_, h2_⟩
            have n0_ : Aside0 (w24.heap[gb458]? = some (.cells #[.int .i64 a0_0, .int .i64 a0_1, .int .i64 a0_2, .int .i64 a0_3] 23 (0, 0))) := ⟨h0_⟩
            have n1_ : Aside0 (w24.heap[gb459]? = some (.cells #[.int .i64 a1_0, .int .i64 a1_1, .int .i64 a1_2, .int .i64 a1_3] 23 (0, 0))) := ⟨h1_⟩
            have n2_ : Aside0 (Below w.heap.size w w24) := ⟨h2_⟩
            clear BK458
            clear BK459
            clear HB
            clear h0_ h1_ h2_
            have BK458 := n0_
            have BK459 := n1_
            have HB := n2_
            clear n0_ n1_ n2_
            have hHeld : w24.cell? ⟨gb458, 0, none⟩ = some (.int .i64 a0_0) ∧ w24.cell? ⟨gb458, 1, none⟩ = some (.int .i64 a0_1) ∧ w24.cell? ⟨gb458, 2, none⟩ = some (.int .i64 a0_2) ∧ w24.cell? ⟨gb458, 3, none⟩ = some (.int .i64 a0_3) ∧ w24.cell? ⟨gb459, 0, none⟩ = some (.int .i64 a1_0) ∧ w24.cell? ⟨gb459, 1, none⟩ = some (.int .i64 a1_1) ∧ w24.cell? ⟨gb459, 2, none⟩ = some (.int .i64 a1_2) ∧ w24.cell? ⟨gb459, 3, none⟩ = some (.int .i64 a1_3) := hS_
            refine norm_ (a' := ?_) ?_ ?_
            rotate_left
            ·simp only [putAll, Act.put, List.setIfInBounds_toArray, List.set_cons_zero, List.set_cons_succ]
             rfl
            refine two_ (i := 3) (j := 7) (Ni := some 16) (Nj := some 7) #[T, T, T, T, T, F, F, F, F] #[T, T, T, F, T, F, F, T, F] rfl rfl rfl rfl (two_of HT_.out (by kernel_rfl)) (by decide) (by decide) (fun K hK => ?_) (fun K hK => ?_)
            ·skip
             refine goes_ Try.func16 (by kernel_rfl) rfl #[.agg #[.int .i64 a1_0, .int .i64 a1_1, .int .i64 a1_2, .int .i64 a1_3]] (by rfl) rfl rfl mz ?_
             with_reducible refine (laws_toVal.calls a1_0 a1_1 a1_2 a1_3 t464 t465 t466 t467 _ A8.out).mono ?_
             rintro e w25 ⟨rfl, hb⟩
             refine ⟨_, rfl, ?_⟩
             have n0_ := am (blk_below (g := gb458) (o := b4 a0_0 a0_1 a0_2 a0_3 23) (Z BK458) hb)
             have n1_ := am (blk_below (g := gb459) (o := b4 a1_0 a1_1 a1_2 a1_3 23) (Z BK459) hb)
             have n2_ := am (below_step (Y2 HB GE458 GE459) hb)
             clear BK458
             clear BK459
             clear HB
             have BK458 := n0_
             have BK459 := n1_
             have HB := n2_
             clear n0_ n1_ n2_
             (try clear hb)
             (try clear hb2)
             (try clear hk)
             (try clear hi)
             refine hK.out _ _ ⟨bc BK458 0, bc BK458 1, bc BK458 2, bc BK458 3, bc BK459 0, bc BK459 1, bc BK459 2, bc BK459 3⟩ (fun hHeld => ?_)
             clear hK K
             refine norm_ (a' := ?_) ?_ ?_
             rotate_left
             ·show Act.put _ (some 16) _ = _
              simp only [Act.put, List.setIfInBounds_toArray, List.set_cons_zero, List.set_cons_succ, i64_w, i32_w]
              rfl
             exact norm_ nz (hJ1_3 () _ ⟨hHeld, (Z BK458), (Z BK459), (Y2 HB GE458 GE459)⟩)
            ·skip
             refine box_step ?hg (N := 7) ?hd (cs := #[.int .i64 0, .int .i64 0, .int .i64 0, .int .i64 0]) (t := 25) ?hr ?_; (case hd => rfl); (case hg => rfl); (case hr => first | (go_simp; done) | (go_simp; rfl))
             intro gb475 hg w25 hbox hb
             have n0_ := am (blk_below (g := gb458) (o := b4 a0_0 a0_1 a0_2 a0_3 23) (Z BK458) hb)
             have n1_ := am (blk_below (g := gb459) (o := b4 a1_0 a1_1 a1_2 a1_3 23) (Z BK459) hb)
             have n2_ := am (below_step (Y2 HB GE458 GE459) hb)
             have n3_ := am (hbox)
             have n4_ := am ((by rw [hg]; exact (below_size (Y2 HB GE458 GE459)) : w.heap.size ≤ gb475))
             have n5_ := am ((by rw [hg]; exact (below_size (Y2 HB GE458 GE459)) : w.heap.size ≤ gb475))
             have n6_ := am ((nl (o := b4 a0_0 a0_1 a0_2 a0_3 23) hg (Z BK458) : gb458 ≠ gb475))
             have n7_ := am ((ng (o := b4 a0_0 a0_1 a0_2 a0_3 23) hg (Z BK458) : gb475 ≠ gb458))
             have n8_ := am ((nl (o := b4 a1_0 a1_1 a1_2 a1_3 23) hg (Z BK459) : gb459 ≠ gb475))
             have n9_ := am ((ng (o := b4 a1_0 a1_1 a1_2 a1_3 23) hg (Z BK459) : gb475 ≠ gb459))
             clear BK458
             clear BK459
             clear HB
             have BK458 := n0_
             have BK459 := n1_
             have HB := n2_
             have BK475 := n3_
             have GW475 := n4_
             have GE475 := n5_
             have NB458_475 := n6_
             have NB475_458 := n7_
             have NB459_475 := n8_
             have NB475_459 := n9_
             clear n0_ n1_ n2_ n3_ n4_ n5_ n6_ n7_ n8_ n9_
             clear hb hbox hg
             refine hK.out _ _ ⟨bc BK458 0, bc BK458 1, bc BK458 2, bc BK458 3, bc BK459 0, bc BK459 1, bc BK459 2, bc BK459 3⟩ (fun hHeld => ?_)
             clear hK K
             refine norm_ (a' := ?_) ?_ ?_
             rotate_left
             ·show Act.put _ (some 7) _ = _
              simp only [Act.put, List.setIfInBounds_toArray, List.set_cons_zero, List.set_cons_succ, i64_w, i32_w]
              rfl
             exact norm_ nz (hJ1_7 (gb475) _ ⟨hHeld, (Z BK458), (Z BK459), (Z BK475), GW475.out, GE475.out, NB458_475.out, NB475_458.out, NB459_475.out, NB475_459.out, (Y3 HB GE458 GE459 GE475)⟩)
          ·skip
           rintro gb475 w25 ⟨hS_, h0_, h1_, h2_, h3_, h4_, h5_, h6_, h7_, h8_, h9_⟩
           have n0_ : Aside0 (w25.heap[gb458]? = some (.cells #[.int .i64 a0_0, .int .i64 a0_1, .int .i64 a0_2, .int .i64 a0_3] 23 (0, 0))) := ⟨h0_⟩
           have n1_ : Aside0 (w25.heap[gb459]? = some (.cells #[.int .i64 a1_0, .int .i64 a1_1, .int .i64 a1_2, .int .i64 a1_3] 23 (0, 0))) := ⟨h1_⟩
           have n2_ : Aside0 (w25.heap[gb475]? = some (.cells #[.int .i64 0, .int .i64 0, .int .i64 0, .int .i64 0] 25 (0, 0))) := ⟨h2_⟩
           have n3_ : Aside0 (w.heap.size ≤ gb475) := ⟨h3_⟩
           have n4_ : Aside0 (w.heap.size ≤ gb475) := ⟨h4_⟩
           have n5_ : Aside0 (gb458 ≠ gb475) := ⟨h5_⟩
           have n6_ : Aside0 (gb475 ≠ gb458) := ⟨h6_⟩
           have n7_ : Aside0 (gb459 ≠ gb475) := ⟨h7_⟩
           have n8_ : Aside0 (gb475 ≠ gb459) := ⟨h8_⟩
           have n9_ : Aside0 (Below w.heap.size w w25) := ⟨h9_⟩
           clear BK458
           clear BK459
           clear HB
           clear h0_ h1_ h2_ h3_ h4_ h5_ h6_ h7_ h8_ h9_
           have BK458 := n0_
           have BK459 := n1_
           have BK475 := n2_
           have GW475 := n3_
           have GE475 := n4_
           have NB458_475 := n5_
           have NB475_458 := n6_
           have NB459_475 := n7_
           have NB475_459 := n8_
           have HB := n9_
           clear n0_ n1_ n2_ n3_ n4_ n5_ n6_ n7_ n8_ n9_
           have hHeld : w25.cell? ⟨gb458, 0, none⟩ = some (.int .i64 a0_0) ∧ w25.cell? ⟨gb458, 1, none⟩ = some (.int .i64 a0_1) ∧ w25.cell? ⟨gb458, 2, none⟩ = some (.int .i64 a0_2) ∧ w25.cell? ⟨gb458, 3, none⟩ = some (.int .i64 a0_3) ∧ w25.cell? ⟨gb459, 0, none⟩ = some (.int .i64 a1_0) ∧ w25.cell? ⟨gb459, 1, none⟩ = some (.int .i64 a1_1) ∧ w25.cell? ⟨gb459, 2, none⟩ = some (.int .i64 a1_2) ∧ w25.cell? ⟨gb459, 3, none⟩ = some (.int .i64 a1_3) := hS_
           refine norm_ (a' := ?_) ?_ ?_
           rotate_left
           ·simp only [putAll, Act.put, List.setIfInBounds_toArray, List.set_cons_zero, List.set_cons_succ]
            rfl
           refine one_ (i := 3) (N := some 16) #[T, T, T, T, T, F, F, T, F] rfl rfl (one_of HT_.out (by kernel_rfl)) (by decide) (fun K hK => ?_)
           refine goes_ Try.func16 (by kernel_rfl) rfl #[.agg #[.int .i64 a1_0, .int .i64 a1_1, .int .i64 a1_2, .int .i64 a1_3]] (by rfl) rfl rfl mz ?_
           with_reducible refine (laws_toVal.calls a1_0 a1_1 a1_2 a1_3 t464 t465 t466 t467 _ A8.out).mono ?_
           rintro e w26 ⟨rfl, hb⟩
           refine ⟨_, rfl, ?_⟩
           have n0_ := am (blk_below (g := gb458) (o := b4 a0_0 a0_1 a0_2 a0_3 23) (Z BK458) hb)
           have n1_ := am (blk_below (g := gb459) (o := b4 a1_0 a1_1 a1_2 a1_3 23) (Z BK459) hb)
           have n2_ := am (blk_below (g := gb475) (o := b4 0 0 0 0 25) (Z BK475) hb)
           have n3_ := am (below_step (Y3 HB GE458 GE459 GE475) hb)
           clear BK458
           clear BK459
           clear BK475
           clear HB
           have BK458 := n0_
           have BK459 := n1_
           have BK475 := n2_
           have HB := n3_
           clear n0_ n1_ n2_ n3_
           (try clear hb)
           (try clear hb2)
           (try clear hk)
           (try clear hi)
           refine hK.out _ _ ⟨bc BK458 0, bc BK458 1, bc BK458 2, bc BK458 3, bc BK459 0, bc BK459 1, bc BK459 2, bc BK459 3⟩ (fun hHeld => ?_)
           clear hK K
           refine norm_ (a' := ?_) ?_ ?_
           rotate_left
           ·show Act.put _ (some 16) _ = _
            simp only [Act.put, List.setIfInBounds_toArray, List.set_cons_zero, List.set_cons_succ, i64_w, i32_w]
            rfl
           exact norm_ nz (hJ1_3_7 (gb475) _ ⟨hHeld, (Z BK458), (Z BK459), (Z BK475), GW475.out, GE475.out, NB458_475.out, NB475_458.out, NB459_475.out, NB475_459.out, (Y3 HB GE458 GE459 GE475)⟩)
         ·skip
          rintro _ w25 ⟨hS_, h0_, h1_, h2_⟩
          have n0_ : Aside0 (w25.heap[gb458]? = some (.cells #[.int .i64 a0_0, .int .i64 a0_1, .int .i64 a0_2, .int .i64 a0_3] 23 (0, 0))) := ⟨h0_⟩
          have n1_ : Aside0 (w25.heap[gb459]? = some (.cells #[.int .i64 a1_0, .int .i64 a1_1, .int .i64 a1_2, .int .i64 a1_3] 23 (0, 0))) := ⟨h1_⟩
          have n2_ : Aside0 (Below w.heap.size w w25) := ⟨h2_⟩
          clear BK458
          clear BK459
          clear HB
          clear h0_ h1_ h2_
          have BK458 := n0_
          have BK459 := n1_
          have HB := n2_
          clear n0_ n1_ n2_
          have hHeld : w25.cell? ⟨gb458, 0, none⟩ = some (.int .i64 a0_0) ∧ w25.cell? ⟨gb458, 1, none⟩ = some (.int .i64 a0_1) ∧ w25.cell? ⟨gb458, 2, none⟩ = some (.int .i64 a0_2) ∧ w25.cell? ⟨gb458, 3, none⟩ = some (.int .i64 a0_3) ∧ w25.cell? ⟨gb459, 0, none⟩ = some (.int .i64 a1_0) ∧ w25.cell? ⟨gb459, 1, none⟩ = some (.int .i64 a1_1) ∧ w25.cell? ⟨gb459, 2, none⟩ = some (.int .i64 a1_2) ∧ w25.cell? ⟨gb459, 3, none⟩ = some (.int .i64 a1_3) := hS_
          refine norm_ (a' := ?_) ?_ ?_
          rotate_left
          ·simp only [putAll, Act.put, List.setIfInBounds_toArray, List.set_cons_zero, List.set_cons_succ]
           rfl
          refine two_ (i := 5) (j := 7) (Ni := some 18) (Nj := some 7) #[T, T, T, T, T, T, F, F, F] #[T, T, T, T, T, F, F, T, F] rfl rfl rfl rfl (two_of HT_.out (by kernel_rfl)) (by decide) (by decide) (fun K hK => ?_) (fun K hK => ?_)
          ·skip
           refine goes_ Try.func26 (by kernel_rfl) rfl #[.slice A2 l2.length c2] (by rfl) rfl rfl mz ?_
           with_reducible refine (laws_toIntS.calls k _ _ l2 t468 _ ?side1 ?side2 A9.out).mono ?_
           (case side1 => repeat (first | exact (Kd.C_below HR2.out HB.out) | (with_reducible refine Kd.C_alloc ?_ _) | (with_reducible refine Kd.C_drewN ?_ _) | (with_reducible refine Kd.C_drew ?_)))
           (case side2 => exact HC2.out)
           rintro e w26 ⟨v469, rfl, ho0, hb⟩
           refine ⟨_, rfl, ?_⟩
           have n0_ := am (Kd.R_lower ho0 (below_size (Y2 HB GE458 GE459)))
           have n1_ := am (blk_below (g := gb458) (o := b4 a0_0 a0_1 a0_2 a0_3 23) (Z BK458) hb)
           have n2_ := am (blk_below (g := gb459) (o := b4 a1_0 a1_1 a1_2 a1_3 23) (Z BK459) hb)
           have n3_ := am (below_step (Y2 HB GE458 GE459) hb)
           clear BK458
           clear BK459
           clear HB
           have HO470 := n0_
           have BK458 := n1_
           have BK459 := n2_
           have HB := n3_
           clear n0_ n1_ n2_ n3_
           (try clear hb)
           (try clear hb2)
           (try clear hk)
           (try clear hi)
           (try clear ho0)
           refine hK.out _ _ ⟨bc BK458 0, bc BK458 1, bc BK458 2, bc BK458 3, bc BK459 0, bc BK459 1, bc BK459 2, bc BK459 3⟩ (fun hHeld => ?_)
           clear hK K
           refine norm_ (a' := ?_) ?_ ?_
           rotate_left
           ·show Act.put _ (some 18) _ = _
            simp only [Act.put, List.setIfInBounds_toArray, List.set_cons_zero, List.set_cons_succ, i64_w, i32_w]
            rfl
           exact norm_ nz (hJ1_3_5 (v469) _ ⟨hHeld, (by (with_reducible repeat (first | apply Kd.R_alloc | apply Kd.R_drewN | apply Kd.R_drew)); exact HO470.out), (Z BK458), (Z BK459), (Y2 HB GE458 GE459)⟩)
          ·skip
           refine box_step ?hg (N := 7) ?hd (cs := #[.int .i64 0, .int .i64 0, .int .i64 0, .int .i64 0]) (t := 25) ?hr ?_; (case hd => rfl); (case hg => rfl); (case hr => first | (go_simp; done) | (go_simp; rfl))
           intro gb475 hg w26 hbox hb
           have n0_ := am (blk_below (g := gb458) (o := b4 a0_0 a0_1 a0_2 a0_3 23) (Z BK458) hb)
           have n1_ := am (blk_below (g := gb459) (o := b4 a1_0 a1_1 a1_2 a1_3 23) (Z BK459) hb)
           have n2_ := am (below_step (Y2 HB GE458 GE459) hb)
           have n3_ := am (hbox)
           have n4_ := am ((by rw [hg]; exact (below_size (Y2 HB GE458 GE459)) : w.heap.size ≤ gb475))
           have n5_ := am ((by rw [hg]; exact (below_size (Y2 HB GE458 GE459)) : w.heap.size ≤ gb475))
           have n6_ := am ((nl (o := b4 a0_0 a0_1 a0_2 a0_3 23) hg (Z BK458) : gb458 ≠ gb475))
           have n7_ := am ((ng (o := b4 a0_0 a0_1 a0_2 a0_3 23) hg (Z BK458) : gb475 ≠ gb458))
           have n8_ := am ((nl (o := b4 a1_0 a1_1 a1_2 a1_3 23) hg (Z BK459) : gb459 ≠ gb475))
           have n9_ := am ((ng (o := b4 a1_0 a1_1 a1_2 a1_3 23) hg (Z BK459) : gb475 ≠ gb459))
           clear BK458
           clear BK459
           clear HB
           have BK458 := n0_
           have BK459 := n1_
           have HB := n2_
           have BK475 := n3_
           have GW475 := n4_
           have GE475 := n5_
           have NB458_475 := n6_
           have NB475_458 := n7_
           have NB459_475 := n8_
           have NB475_459 := n9_
           clear n0_ n1_ n2_ n3_ n4_ n5_ n6_ n7_ n8_ n9_
           clear hb hbox hg
           refine hK.out _ _ ⟨bc BK458 0, bc BK458 1, bc BK458 2, bc BK458 3, bc BK459 0, bc BK459 1, bc BK459 2, bc BK459 3⟩ (fun hHeld => ?_)
           clear hK K
           refine norm_ (a' := ?_) ?_ ?_
           rotate_left
           ·show Act.put _ (some 7) _ = _
            simp only [Act.put, List.setIfInBounds_toArray, List.set_cons_zero, List.set_cons_succ, i64_w, i32_w]
            rfl
           exact norm_ nz (hJ1_3_7 (gb475) _ ⟨hHeld, (Z BK458), (Z BK459), (Z BK475), GW475.out, GE475.out, NB458_475.out, NB475_458.out, NB459_475.out, NB475_459.out, (Y3 HB GE458 GE459 GE475)⟩)
        ·skip
         rintro gb475 w26 ⟨hS_, h0_, h1_, h2_, h3_, h4_, h5_, h6_, h7_, h8_, h9_⟩
         have n0_ : Aside0 (w26.heap[gb458]? = some (.cells #[.int .i64 a0_0, .int .i64 a0_1, .int .i64 a0_2, .int .i64 a0_3] 23 (0, 0))) := ⟨h0_⟩
         have n1_ : Aside0 (w26.heap[gb459]? = some (.cells #[.int .i64 a1_0, .int .i64 a1_1, .int .i64 a1_2, .int .i64 a1_3] 23 (0, 0))) := ⟨h1_⟩
         have n2_ : Aside0 (w26.heap[gb475]? = some (.cells #[.int .i64 0, .int .i64 0, .int .i64 0, .int .i64 0] 25 (0, 0))) := ⟨h2_⟩
         have n3_ : Aside0 (w.heap.size ≤ gb475) := ⟨h3_⟩
         have n4_ : Aside0 (w.heap.size ≤ gb475) := ⟨h4_⟩
         have n5_ : Aside0 (gb458 ≠ gb475) := ⟨h5_⟩
         have n6_ : Aside0 (gb475 ≠ gb458) := ⟨h6_⟩
         have n7_ : Aside0 (gb459 ≠ gb475) := ⟨h7_⟩
         have n8_ : Aside0 (gb475 ≠ gb459) := ⟨h8_⟩
         have n9_ : Aside0 (Below w.heap.size w w26) := ⟨h9_⟩
         clear BK458
         clear BK459
         clear HB
         clear h0_ h1_ h2_ h3_ h4_ h5_ h6_ h7_ h8_ h9_
         have BK458 := n0_
         have BK459 := n1_
         have BK475 := n2_
         have GW475 := n3_
         have GE475 := n4_
         have NB458_475 := n5_
         have NB475_458 := n6_
         have NB459_475 := n7_
         have NB475_459 := n8_
         have HB := n9_
         clear n0_ n1_ n2_ n3_ n4_ n5_ n6_ n7_ n8_ n9_
         have hHeld : w26.cell? ⟨gb458, 0, none⟩ = some (.int .i64 a0_0) ∧ w26.cell? ⟨gb458, 1, none⟩ = some (.int .i64 a0_1) ∧ w26.cell? ⟨gb458, 2, none⟩ = some (.int .i64 a0_2) ∧ w26.cell? ⟨gb458, 3, none⟩ = some (.int .i64 a0_3) ∧ w26.cell? ⟨gb459, 0, none⟩ = some (.int .i64 a1_0) ∧ w26.cell? ⟨gb459, 1, none⟩ = some (.int .i64 a1_1) ∧ w26.cell? ⟨gb459, 2, none⟩ = some (.int .i64 a1_2) ∧ w26.cell? ⟨gb459, 3, none⟩ = some (.int .i64 a1_3) := hS_
         refine norm_ (a' := ?_) ?_ ?_
         rotate_left
         ·simp only [putAll, Act.put, List.setIfInBounds_toArray, List.set_cons_zero, List.set_cons_succ]
          rfl
         refine one_ (i := 5) (N := some 18) #[T, T, T, T, T, T, F, T, F] rfl rfl (one_of HT_.out (by kernel_rfl)) (by decide) (fun K hK => ?_)
         refine goes_ Try.func26 (by kernel_rfl) rfl #[.slice A2 l2.length c2] (by rfl) rfl rfl mz ?_
         with_reducible refine (laws_toIntS.calls k _ _ l2 t468 _ ?side1 ?side2 A9.out).mono ?_
         (case side1 => repeat (first | exact (Kd.C_below HR2.out HB.out) | (with_reducible refine Kd.C_alloc ?_ _) | (with_reducible refine Kd.C_drewN ?_ _) | (with_reducible refine Kd.C_drew ?_)))
         (case side2 => exact HC2.out)
         rintro e w27 ⟨v469, rfl, ho0, hb⟩
         refine ⟨_, rfl, ?_⟩
         have n0_ := am (Kd.R_lower ho0 (below_size (Y3 HB GE458 GE459 GE475)))
         have n1_ := am (blk_below (g := gb458) (o := b4 a0_0 a0_1 a0_2 a0_3 23) (Z BK458) hb)
         have n2_ := am (blk_below (g := gb459) (o := b4 a1_0 a1_1 a1_2 a1_3 23) (Z BK459) hb)
         have n3_ := am (blk_below (g := gb475) (o := b4 0 0 0 0 25) (Z BK475) hb)
         have n4_ := am (below_step (Y3 HB GE458 GE459 GE475) hb)
         clear BK458
         clear BK459
         clear BK475
         clear HB
         have HO470 := n0_
         have BK458 := n1_
         have BK459 := n2_
         have BK475 := n3_
         have HB := n4_
         clear n0_ n1_ n2_ n3_ n4_
         (try clear hb)
         (try clear hb2)
         (try clear hk)
         (try clear hi)
         (try clear ho0)
         refine hK.out _ _ ⟨bc BK458 0, bc BK458 1, bc BK458 2, bc BK458 3, bc BK459 0, bc BK459 1, bc BK459 2, bc BK459 3⟩ (fun hHeld => ?_)
         clear hK K
         refine norm_ (a' := ?_) ?_ ?_
         rotate_left
         ·show Act.put _ (some 18) _ = _
          simp only [Act.put, List.setIfInBounds_toArray, List.set_cons_zero, List.set_cons_succ, i64_w, i32_w]
          rfl
         exact norm_ nz (hJ1_3_5_7 (v469, gb475) _ ⟨hHeld, (by (with_reducible repeat (first | apply Kd.R_alloc | apply Kd.R_drewN | apply Kd.R_drew)); exact HO470.out), (Z BK458), (Z BK459), (Z BK475), GW475.out, GE475.out, NB458_475.out, NB475_458.out, NB459_475.out, NB475_459.out, (Y3 HB GE458 GE459 GE475)⟩)
       ·skip
        rintro v469 w26 ⟨hS_, h0_, h1_, h2_, h3_⟩
        have n0_ : Aside0 (Kd.R (Kd.int .i64) 3 w26 w.heap.size (fun _ => True) v469 t468) := ⟨h0_⟩
        have n1_ : Aside0 (w26.heap[gb458]? = some (.cells #[.int .i64 a0_0, .int .i64 a0_1, .int .i64 a0_2, .int .i64 a0_3] 23 (0, 0))) := ⟨h1_⟩
        have n2_ : Aside0 (w26.heap[gb459]? = some (.cells #[.int .i64 a1_0, .int .i64 a1_1, .int .i64 a1_2, .int .i64 a1_3] 23 (0, 0))) := ⟨h2_⟩
        have n3_ : Aside0 (Below w.heap.size w w26) := ⟨h3_⟩
        clear BK458
        clear BK459
        clear HB
        clear h0_ h1_ h2_ h3_
        have HO470 := n0_
        have BK458 := n1_
        have BK459 := n2_
        have HB := n3_
        clear n0_ n1_ n2_ n3_
        have hHeld : w26.cell? ⟨gb458, 0, none⟩ = some (.int .i64 a0_0) ∧ w26.cell? ⟨gb458, 1, none⟩ = some (.int .i64 a0_1) ∧ w26.cell? ⟨gb458, 2, none⟩ = some (.int .i64 a0_2) ∧ w26.cell? ⟨gb458, 3, none⟩ = some (.int .i64 a0_3) ∧ w26.cell? ⟨gb459, 0, none⟩ = some (.int .i64 a1_0) ∧ w26.cell? ⟨gb459, 1, none⟩ = some (.int .i64 a1_1) ∧ w26.cell? ⟨gb459, 2, none⟩ = some (.int .i64 a1_2) ∧ w26.cell? ⟨gb459, 3, none⟩ = some (.int .i64 a1_3) := hS_
        obtain ⟨Ao27, co27, eo27⟩ := Kd.R_slice HO470.out
        (first | subst eo27 | (injection eo27 with f1_ f2_ f3_; have f4_ := f1_.symm; have f5_ := f3_.symm; clear f1_ f2_ f3_; subst f4_; subst f5_))
        refine norm_ (a' := ?_) ?_ ?_
        rotate_left
        ·simp only [putAll, Act.put, List.setIfInBounds_toArray, List.set_cons_zero, List.set_cons_succ]
         rfl
        refine two_ (i := 6) (j := 7) (Ni := some 19) (Nj := some 7) #[T, T, T, T, T, T, T, F, F] #[T, T, T, T, T, T, F, T, F] rfl rfl rfl rfl (two_of HT_.out (by kernel_rfl)) (by decide) (by decide) (fun K hK => ?_) (fun K hK => ?_)
        ·skip
         refine goes_ Try.func25 (by kernel_rfl) rfl #[.agg #[.int .i64 t460, .int .i64 t461, .int .i64 t462, .int .i64 t463], .agg #[.int .i64 t464, .int .i64 t465, .int .i64 t466, .int .i64 t467], .slice Ao27 t468.length co27] (by rfl) rfl rfl mz ?_
         with_reducible refine (spec_ValWiden.calls k t460 t461 t462 t463 t464 t465 t466 t467 _ _ t468 t471 t472 t473 t474 _ ?side1 ?side2 A10.out).mono ?_
         (case side1 => repeat (first | exact (Kd.R_reads' HO470.out).2.2 | (with_reducible refine Kd.C_alloc ?_ _) | (with_reducible refine Kd.C_drewN ?_ _) | (with_reducible refine Kd.C_drew ?_)))
         (case side2 => exact (Kd.R_reads' HO470.out).2.1)
         rintro e w28 ⟨rfl, hb⟩
         refine ⟨_, rfl, ?_⟩
         have n0_ := am (Kd.R_below (by (with_reducible repeat (first | apply Kd.R_alloc | apply Kd.R_drewN | apply Kd.R_drew)); exact HO470.out) hb)
         have n1_ := am (blk_below (g := gb458) (o := b4 a0_0 a0_1 a0_2 a0_3 23) (Z BK458) hb)
         have n2_ := am (blk_below (g := gb459) (o := b4 a1_0 a1_1 a1_2 a1_3 23) (Z BK459) hb)
         have n3_ := am (below_step (Y2 HB GE458 GE459) hb)
         clear HO470
         clear BK458
         clear BK459
         clear HB
         have HO470 := n0_
         have BK458 := n1_
         have BK459 := n2_
         have HB := n3_
         clear n0_ n1_ n2_ n3_
         (try clear hb)
         (try clear hb2)
         (try clear hk)
         (try clear hi)
         refine hK.out _ _ ⟨bc BK458 0, bc BK458 1, bc BK458 2, bc BK458 3, bc BK459 0, bc BK459 1, bc BK459 2, bc BK459 3⟩ (fun hHeld => ?_)
         clear hK K
         refine norm_ (a' := ?_) ?_ ?_
         rotate_left
         ·show Act.put _ (some 19) _ = _
          simp only [Act.put, List.setIfInBounds_toArray, List.set_cons_zero, List.set_cons_succ, i64_w, i32_w]
          rfl
         exact norm_ nz (hJ1_3_5_6 (.slice Ao27 t468.length co27) _ ⟨hHeld, (by (with_reducible repeat (first | apply Kd.R_alloc | apply Kd.R_drewN | apply Kd.R_drew)); exact HO470.out), (Z BK458), (Z BK459), (Y2 HB GE458 GE459)⟩)
        ·skip
         refine box_step ?hg (N := 7) ?hd (cs := #[.int .i64 0, .int .i64 0, .int .i64 0, .int .i64 0]) (t := 25) ?hr ?_; (case hd => rfl); (case hg => rfl); (case hr => first | (go_simp; done) | (go_simp; rfl))
         intro gb475 hg w27 hbox hb
         have n0_ := am (Kd.R_below (by (with_reducible repeat (first | apply Kd.R_alloc | apply Kd.R_drewN | apply Kd.R_drew)); exact HO470.out) hb)
         have n1_ := am (blk_below (g := gb458) (o := b4 a0_0 a0_1 a0_2 a0_3 23) (Z BK458) hb)
         have n2_ := am (blk_below (g := gb459) (o := b4 a1_0 a1_1 a1_2 a1_3 23) (Z BK459) hb)
         have n3_ := am (below_step (Y2 HB GE458 GE459) hb)
         have n4_ := am (hbox)
         have n5_ := am ((by rw [hg]; exact (below_size (Y2 HB GE458 GE459)) : w.heap.size ≤ gb475))
         have n6_ := am ((by rw [hg]; exact (below_size (Y2 HB GE458 GE459)) : w.heap.size ≤ gb475))
         have n7_ := am ((nl (o := b4 a0_0 a0_1 a0_2 a0_3 23) hg (Z BK458) : gb458 ≠ gb475))
         have n8_ := am ((ng (o := b4 a0_0 a0_1 a0_2 a0_3 23) hg (Z BK458) : gb475 ≠ gb458))
         have n9_ := am ((nl (o := b4 a1_0 a1_1 a1_2 a1_3 23) hg (Z BK459) : gb459 ≠ gb475))
         have n10_ := am ((ng (o := b4 a1_0 a1_1 a1_2 a1_3 23) hg (Z BK459) : gb475 ≠ gb459))
         clear HO470
         clear BK458
         clear BK459
         clear HB
         have HO470 := n0_
         have BK458 := n1_
         have BK459 := n2_
         have HB := n3_
         have BK475 := n4_
         have GW475 := n5_
         have GE475 := n6_
         have NB458_475 := n7_
         have NB475_458 := n8_
         have NB459_475 := n9_
         have NB475_459 := n10_
         clear n0_ n1_ n2_ n3_ n4_ n5_ n6_ n7_ n8_ n9_ n10_
         clear hb hbox hg
         refine hK.out _ _ ⟨bc BK458 0, bc BK458 1, bc BK458 2, bc BK458 3, bc BK459 0, bc BK459 1, bc BK459 2, bc BK459 3⟩ (fun hHeld => ?_)
         clear hK K
         refine norm_ (a' := ?_) ?_ ?_
         rotate_left
         ·show Act.put _ (some 7) _ = _
          simp only [Act.put, List.setIfInBounds_toArray, List.set_cons_zero, List.set_cons_succ, i64_w, i32_w]
          rfl
         exact norm_ nz (hJ1_3_5_7 ((.slice Ao27 t468.length co27 : Value), gb475) _ ⟨hHeld, (by (with_reducible repeat (first | apply Kd.R_alloc | apply Kd.R_drewN | apply Kd.R_drew)); exact HO470.out), (Z BK458), (Z BK459), (Z BK475), GW475.out, GE475.out, NB458_475.out, NB475_458.out, NB459_475.out, NB475_459.out, (Y3 HB GE458 GE459 GE475)⟩)
      ·skip
       rintro ⟨v469, gb475⟩ w27 ⟨hS_, h0_, h1_, h2_, h3_, h4_, h5_, h6_, h7_, h8_, h9_, h10_⟩
       have n0_ : Aside0 (Kd.R (Kd.int .i64) 3 w27 w.heap.size (fun _ => True) v469 t468) := ⟨h0_⟩
       have n1_ : Aside0 (w27.heap[gb458]? = some (.cells #[.int .i64 a0_0, .int .i64 a0_1, .int .i64 a0_2, .int .i64 a0_3] 23 (0, 0))) := ⟨h1_⟩
       have n2_ : Aside0 (w27.heap[gb459]? = some (.cells #[.int .i64 a1_0, .int .i64 a1_1, .int .i64 a1_2, .int .i64 a1_3] 23 (0, 0))) := ⟨h2_⟩
       have n3_ : Aside0 (w27.heap[gb475]? = some (.cells #[.int .i64 0, .int .i64 0, .int .i64 0, .int .i64 0] 25 (0, 0))) := ⟨h3_⟩
       have n4_ : Aside0 (w.heap.size ≤ gb475) := ⟨h4_⟩
       have n5_ : Aside0 (w.heap.size ≤ gb475) := ⟨h5_⟩
       have n6_ : Aside0 (gb458 ≠ gb475) := ⟨h6_⟩
       have n7_ : Aside0 (gb475 ≠ gb458) := ⟨h7_⟩
       have n8_ : Aside0 (gb459 ≠ gb475) := ⟨h8_⟩
       have n9_ : Aside0 (gb475 ≠ gb459) := ⟨h9_⟩
       have n10_ : Aside0 (Below w.heap.size w w27) := ⟨h10_⟩
       clear BK458
       clear BK459
       clear HB
       clear h0_ h1_ h2_ h3_ h4_ h5_ h6_ h7_ h8_ h9_ h10_
       have HO470 := n0_
       have BK458 := n1_
       have BK459 := n2_
       have BK475 := n3_
       have GW475 := n4_
       have GE475 := n5_
       have NB458_475 := n6_
       have NB475_458 := n7_
       have NB459_475 := n8_
       have NB475_459 := n9_
       have HB := n10_
       clear n0_ n1_ n2_ n3_ n4_ n5_ n6_ n7_ n8_ n9_ n10_
       have hHeld : w27.cell? ⟨gb458, 0, none⟩ = some (.int .i64 a0_0) ∧ w27.cell? ⟨gb458, 1, none⟩ = some (.int .i64 a0_1) ∧ w27.cell? ⟨gb458, 2, none⟩ = some (.int .i64 a0_2) ∧ w27.cell? ⟨gb458, 3, none⟩ = some (.int .i64 a0_3) ∧ w27.cell? ⟨gb459, 0, none⟩ = some (.int .i64 a1_0) ∧ w27.cell? ⟨gb459, 1, none⟩ = some (.int .i64 a1_1) ∧ w27.cell? ⟨gb459, 2, none⟩ = some (.int .i64 a1_2) ∧ w27.cell? ⟨gb459, 3, none⟩ = some (.int .i64 a1_3) := hS_
       obtain ⟨Ao28, co28, eo28⟩ := Kd.R_slice HO470.out
       (first | subst eo28 | (injection eo28 with f1_ f2_ f3_; have f4_ := f1_.symm; have f5_ := f3_.symm; clear f1_ f2_ f3_; subst f4_; subst f5_))
       refine norm_ (a' := ?_) ?_ ?_
       rotate_left
       ·simp only [putAll, Act.put, List.setIfInBounds_toArray, List.set_cons_zero, List.set_cons_succ]
        rfl
       refine one_ (i := 6) (N := some 19) #[T, T, T, T, T, T, T, T, F] rfl rfl (one_of HT_.out (by kernel_rfl)) (by decide) (fun K hK => ?_)
       refine goes_ Try.func25 (by kernel_rfl) rfl #[.agg #[.int .i64 t460, .int .i64 t461, .int .i64 t462, .int .i64 t463], .agg #[.int .i64 t464, .int .i64 t465, .int .i64 t466, .int .i64 t467], .slice Ao28 t468.length co28] (by rfl) rfl rfl mz ?_
       with_reducible refine (spec_ValWiden.calls k t460 t461 t462 t463 t464 t465 t466 t467 _ _ t468 t471 t472 t473 t474 _ ?side1 ?side2 A10.out).mono ?_
       (case side1 => repeat (first | exact (Kd.R_reads' HO470.out).2.2 | (with_reducible refine Kd.C_alloc ?_ _) | (with_reducible refine Kd.C_drewN ?_ _) | (with_reducible refine Kd.C_drew ?_)))
       (case side2 => exact (Kd.R_reads' HO470.out).2.1)
       rintro e w29 ⟨rfl, hb⟩
       refine ⟨_, rfl, ?_⟩
       have n0_ := am (Kd.R_below (by (with_reducible repeat (first | apply Kd.R_alloc | apply Kd.R_drewN | apply Kd.R_drew)); exact HO470.out) hb)
       have n1_ := am (blk_below (g := gb458) (o := b4 a0_0 a0_1 a0_2 a0_3 23) (Z BK458) hb)
       have n2_ := am (blk_below (g := gb459) (o := b4 a1_0 a1_1 a1_2 a1_3 23) (Z BK459) hb)
       have n3_ := am (blk_below (g := gb475) (o := b4 0 0 0 0 25) (Z BK475) hb)
       have n4_ := am (below_step (Y3 HB GE458 GE459 GE475) hb)
       clear HO470
       clear BK458
       clear BK459
       clear BK475
       clear HB
       have HO470 := n0_
       have BK458 := n1_
       have BK459 := n2_
       have BK475 := n3_
       have HB := n4_
       clear n0_ n1_ n2_ n3_ n4_
       (try clear hb)
       (try clear hb2)
       (try clear hk)
       (try clear hi)
       refine hK.out _ _ ⟨bc BK458 0, bc BK458 1, bc BK458 2, bc BK458 3, bc BK459 0, bc BK459 1, bc BK459 2, bc BK459 3⟩ (fun hHeld => ?_)
       clear hK K
       refine norm_ (a' := ?_) ?_ ?_
       rotate_left
       ·show Act.put _ (some 19) _ = _
        simp only [Act.put, List.setIfInBounds_toArray, List.set_cons_zero, List.set_cons_succ, i64_w, i32_w]
        rfl
       exact norm_ nz (hJ1_3_5_6_7 (.slice Ao28 t468.length co28, gb475) _ ⟨hHeld, (by (with_reducible repeat (first | apply Kd.R_alloc | apply Kd.R_drewN | apply Kd.R_drew)); exact HO470.out), (Z BK458), (Z BK459), (Z BK475), GW475.out, GE475.out, NB458_475.out, NB475_458.out, NB459_475.out, NB475_459.out, (Y3 HB GE458 GE459 GE475)⟩)
     ·skip
      rintro v469 w28 ⟨hS_, h0_, h1_, h2_, h3_⟩
      have n0_ : Aside0 (Kd.R (Kd.int .i64) 3 w28 w.heap.size (fun _ => True) v469 t468) := ⟨h0_⟩
      have n1_ : Aside0 (w28.heap[gb458]? = some (.cells #[.int .i64 a0_0, .int .i64 a0_1, .int .i64 a0_2, .int .i64 a0_3] 23 (0, 0))) := ⟨h1_⟩
      have n2_ : Aside0 (w28.heap[gb459]? = some (.cells #[.int .i64 a1_0, .int .i64 a1_1, .int .i64 a1_2, .int .i64 a1_3] 23 (0, 0))) := ⟨h2_⟩
      have n3_ : Aside0 (Below w.heap.size w w28) := ⟨h3_⟩
      clear BK458
      clear BK459
      clear HB
      clear h0_ h1_ h2_ h3_
      have HO470 := n0_
      have BK458 := n1_
      have BK459 := n2_
      have HB := n3_
      clear n0_ n1_ n2_ n3_
      have hHeld : w28.cell? ⟨gb458, 0, none⟩ = some (.int .i64 a0_0) ∧ w28.cell? ⟨gb458, 1, none⟩ = some (.int .i64 a0_1) ∧ w28.cell? ⟨gb458, 2, none⟩ = some (.int .i64 a0_2) ∧ w28.cell? ⟨gb458, 3, none⟩ = some (.int .i64 a0_3) ∧ w28.cell? ⟨gb459, 0, none⟩ = some (.int .i64 a1_0) ∧ w28.cell? ⟨gb459, 1, none⟩ = some (.int .i64 a1_1) ∧ w28.cell? ⟨gb459, 2, none⟩ = some (.int .i64 a1_2) ∧ w28.cell? ⟨gb459, 3, none⟩ = some (.int .i64 a1_3) := hS_
      refine norm_ (a' := ?_) ?_ ?_
      rotate_left
      ·simp only [putAll, Act.put, List.setIfInBounds_toArray, List.set_cons_zero, List.set_cons_succ]
       rfl
      refine one_ (i := 7) (N := some 7) #[T, T, T, T, T, T, T, T, F] rfl rfl (one_of HT_.out (by kernel_rfl)) (by decide) (fun K hK => ?_)
      refine box_step ?hg (N := 7) ?hd (cs := #[.int .i64 0, .int .i64 0, .int .i64 0, .int .i64 0]) (t := 25) ?hr ?_; (case hd => rfl); (case hg => rfl); (case hr => first | (go_simp; done) | (go_simp; rfl))
      intro gb475 hg w29 hbox hb
      have n0_ := am (Kd.R_below (by (with_reducible repeat (first | apply Kd.R_alloc | apply Kd.R_drewN | apply Kd.R_drew)); exact HO470.out) hb)
      have n1_ := am (blk_below (g := gb458) (o := b4 a0_0 a0_1 a0_2 a0_3 23) (Z BK458) hb)
      have n2_ := am (blk_below (g := gb459) (o := b4 a1_0 a1_1 a1_2 a1_3 23) (Z BK459) hb)
      have n3_ := am (below_step (Y2 HB GE458 GE459) hb)
      have n4_ := am (hbox)
      have n5_ := am ((by rw [hg]; exact (below_size (Y2 HB GE458 GE459)) : w.heap.size ≤ gb475))
      have n6_ := am ((by rw [hg]; exact (below_size (Y2 HB GE458 GE459)) : w.heap.size ≤ gb475))
      have n7_ := am ((nl (o := b4 a0_0 a0_1 a0_2 a0_3 23) hg (Z BK458) : gb458 ≠ gb475))
      have n8_ := am ((ng (o := b4 a0_0 a0_1 a0_2 a0_3 23) hg (Z BK458) : gb475 ≠ gb458))
      have n9_ := am ((nl (o := b4 a1_0 a1_1 a1_2 a1_3 23) hg (Z BK459) : gb459 ≠ gb475))
      have n10_ := am ((ng (o := b4 a1_0 a1_1 a1_2 a1_3 23) hg (Z BK459) : gb475 ≠ gb459))
      clear HO470
      clear BK458
      clear BK459
      clear HB
      have HO470 := n0_
      have BK458 := n1_
      have BK459 := n2_
      have HB := n3_
      have BK475 := n4_
      have GW475 := n5_
      have GE475 := n6_
      have NB458_475 := n7_
      have NB475_458 := n8_
      have NB459_475 := n9_
      have NB475_459 := n10_
      clear n0_ n1_ n2_ n3_ n4_ n5_ n6_ n7_ n8_ n9_ n10_
      clear hb hbox hg
      refine hK.out _ _ ⟨bc BK458 0, bc BK458 1, bc BK458 2, bc BK458 3, bc BK459 0, bc BK459 1, bc BK459 2, bc BK459 3⟩ (fun hHeld => ?_)
      clear hK K
      refine norm_ (a' := ?_) ?_ ?_
      rotate_left
      ·show Act.put _ (some 7) _ = _
       simp only [Act.put, List.setIfInBounds_toArray, List.set_cons_zero, List.set_cons_succ, i64_w, i32_w]
       rfl
      exact norm_ nz (hJ1_3_5_6_7 (v469, gb475) _ ⟨hHeld, (by (with_reducible repeat (first | apply Kd.R_alloc | apply Kd.R_drewN | apply Kd.R_drew)); exact HO470.out), (Z BK458), (Z BK459), (Z BK475), GW475.out, GE475.out, NB458_475.out, NB475_458.out, NB459_475.out, NB475_459.out, (Y3 HB GE458 GE459 GE475)⟩)
    rintro ⟨v469, gb475⟩ w29 ⟨hS_, h0_, h1_, h2_, h3_, h4_, h5_, h6_, h7_, h8_, h9_, h10_⟩
    have n0_ : Aside0 (Kd.R (Kd.int .i64) 3 w29 w.heap.size (fun _ => True) v469 t468) := ⟨h0_⟩
    have n1_ : Aside0 (w29.heap[gb458]? = some (.cells #[.int .i64 a0_0, .int .i64 a0_1, .int .i64 a0_2, .int .i64 a0_3] 23 (0, 0))) := ⟨h1_⟩
    have n2_ : Aside0 (w29.heap[gb459]? = some (.cells #[.int .i64 a1_0, .int .i64 a1_1, .int .i64 a1_2, .int .i64 a1_3] 23 (0, 0))) := ⟨h2_⟩
    have n3_ : Aside0 (w29.heap[gb475]? = some (.cells #[.int .i64 0, .int .i64 0, .int .i64 0, .int .i64 0] 25 (0, 0))) := ⟨h3_⟩
    have n4_ : Aside0 (w.heap.size ≤ gb475) := ⟨h4_⟩
    have n5_ : Aside0 (w.heap.size ≤ gb475) := ⟨h5_⟩
    have n6_ : Aside0 (gb458 ≠ gb475) := ⟨h6_⟩
    have n7_ : Aside0 (gb475 ≠ gb458) := ⟨h7_⟩
    have n8_ : Aside0 (gb459 ≠ gb475) := ⟨h8_⟩
    have n9_ : Aside0 (gb475 ≠ gb459) := ⟨h9_⟩
    have n10_ : Aside0 (Below w.heap.size w w29) := ⟨h10_⟩
    clear BK458
    clear BK459
    clear HB
    clear h0_ h1_ h2_ h3_ h4_ h5_ h6_ h7_ h8_ h9_ h10_
    have HO470 := n0_
    have BK458 := n1_
    have BK459 := n2_
    have BK475 := n3_
    have GW475 := n4_
    have GE475 := n5_
    have NB458_475 := n6_
    have NB475_458 := n7_
    have NB459_475 := n8_
    have NB475_459 := n9_
    have HB := n10_
    clear n0_ n1_ n2_ n3_ n4_ n5_ n6_ n7_ n8_ n9_ n10_
    have hHeld : w29.cell? ⟨gb458, 0, none⟩ = some (.int .i64 a0_0) ∧ w29.cell? ⟨gb458, 1, none⟩ = some (.int .i64 a0_1) ∧ w29.cell? ⟨gb458, 2, none⟩ = some (.int .i64 a0_2) ∧ w29.cell? ⟨gb458, 3, none⟩ = some (.int .i64 a0_3) ∧ w29.cell? ⟨gb459, 0, none⟩ = some (.int .i64 a1_0) ∧ w29.cell? ⟨gb459, 1, none⟩ = some (.int .i64 a1_1) ∧ w29.cell? ⟨gb459, 2, none⟩ = some (.int .i64 a1_2) ∧ w29.cell? ⟨gb459, 3, none⟩ = some (.int .i64 a1_3) := hS_
    refine norm_ (a' := ?_) ?_ ?_
    rotate_left
    ·simp only [putAll, Act.put, List.setIfInBounds_toArray, List.set_cons_zero, List.set_cons_succ]
     rfl
    refine one_ (i := 8) (N := none) #[T, T, T, T, T, T, T, T, T] rfl rfl (one_of HT_.out (by kernel_rfl)) (by decide) (fun K hK => ?_)
    have hs30 : w29.cell? ⟨gb475, 0, none⟩ = some (.int .i64 0) := bc BK475 0
    have hfs30 := blk_frozen BK475.out 0
    have hns30_0 := NB458_475.out
    have hns30_1 := NB459_475.out
    have hms30_0 := NB475_458.out
    have hms30_1 := NB475_459.out
    have hs31 : w29.cell? ⟨gb475, 1, none⟩ = some (.int .i64 0) := bc BK475 1
    have hfs31 := blk_frozen BK475.out 1
    have hns31_0 := NB458_475.out
    have hns31_1 := NB459_475.out
    have hms31_0 := NB475_458.out
    have hms31_1 := NB475_459.out
    have hs32 : w29.cell? ⟨gb475, 2, none⟩ = some (.int .i64 0) := bc BK475 2
    have hfs32 := blk_frozen BK475.out 2
    have hns32_0 := NB458_475.out
    have hns32_1 := NB459_475.out
    have hms32_0 := NB475_458.out
    have hms32_1 := NB475_459.out
    have hs33 : w29.cell? ⟨gb475, 3, none⟩ = some (.int .i64 0) := bc BK475 3
    have hfs33 := blk_frozen BK475.out 3
    have hns33_0 := NB458_475.out
    have hns33_1 := NB459_475.out
    have hms33_0 := NB475_458.out
    have hms33_1 := NB475_459.out
    refine skip_ (w1 := ?_) (by rfl) rfl ?_ ?_
    rotate_left
    ·go_simp
     rfl
    refine hK.out _ _ ⟨((cell_far (p := ⟨gb475, _, none⟩) NB458_475.out _).trans (((cell_far (p := ⟨gb475, _, none⟩) NB458_475.out _).trans (((cell_far (p := ⟨gb475, _, none⟩) NB458_475.out _).trans (((cell_far (p := ⟨gb475, _, none⟩) NB458_475.out _).trans (hHeld.1)))))))), ((cell_far (p := ⟨gb475, _, none⟩) NB458_475.out _).trans (((cell_far (p := ⟨gb475, _, none⟩) NB458_475.out _).trans (((cell_far (p := ⟨gb475, _, none⟩) NB458_475.out _).trans (((cell_far (p := ⟨gb475, _, none⟩) NB458_475.out _).trans (hHeld.2.1)))))))), ((cell_far (p := ⟨gb475, _, none⟩) NB458_475.out _).trans (((cell_far (p := ⟨gb475, _, none⟩) NB458_475.out _).trans (((cell_far (p := ⟨gb475, _, none⟩) NB458_475.out _).trans (((cell_far (p := ⟨gb475, _, none⟩) NB458_475.out _).trans (hHeld.2.2.1)))))))), ((cell_far (p := ⟨gb475, _, none⟩) NB458_475.out _).trans (((cell_far (p := ⟨gb475, _, none⟩) NB458_475.out _).trans (((cell_far (p := ⟨gb475, _, none⟩) NB458_475.out _).trans (((cell_far (p := ⟨gb475, _, none⟩) NB458_475.out _).trans (hHeld.2.2.2.1)))))))), ((cell_far (p := ⟨gb475, _, none⟩) NB459_475.out _).trans (((cell_far (p := ⟨gb475, _, none⟩) NB459_475.out _).trans (((cell_far (p := ⟨gb475, _, none⟩) NB459_475.out _).trans (((cell_far (p := ⟨gb475, _, none⟩) NB459_475.out _).trans (hHeld.2.2.2.2.1)))))))), ((cell_far (p := ⟨gb475, _, none⟩) NB459_475.out _).trans (((cell_far (p := ⟨gb475, _, none⟩) NB459_475.out _).trans (((cell_far (p := ⟨gb475, _, none⟩) NB459_475.out _).trans (((cell_far (p := ⟨gb475, _, none⟩) NB459_475.out _).trans (hHeld.2.2.2.2.2.1)))))))), ((cell_far (p := ⟨gb475, _, none⟩) NB459_475.out _).trans (((cell_far (p := ⟨gb475, _, none⟩) NB459_475.out _).trans (((cell_far (p := ⟨gb475, _, none⟩) NB459_475.out _).trans (((cell_far (p := ⟨gb475, _, none⟩) NB459_475.out _).trans (hHeld.2.2.2.2.2.2.1)))))))), ((cell_far (p := ⟨gb475, _, none⟩) NB459_475.out _).trans (((cell_far (p := ⟨gb475, _, none⟩) NB459_475.out _).trans (((cell_far (p := ⟨gb475, _, none⟩) NB459_475.out _).trans (((cell_far (p := ⟨gb475, _, none⟩) NB459_475.out _).trans (hHeld.2.2.2.2.2.2.2))))))))⟩ (fun hHeld => ?_)
    clear hK K
    refine done_ (done_of HT_.out (by kernel_rfl)) ?_
    try go_wp2_with (first | ((with_reducible refine gate_callee (f := 26) rfl ?_); refine goesL_ (some 21) rfl rfl Try.func26 (by kernel_rfl) rfl #[.slice A2 l2.length c2] rfl mz ?_; (with_reducible refine (laws_toIntS.calls k _ _ l2 t476 _ ?side1 ?side2 A11.out).mono ?_); (case side1 => exact Kd.C_below HR2.out (Y3 HB GE458 GE459 GE475)); (case side2 => exact HC2.out); rintro e w34 ⟨v477, rfl, ho0, hb⟩; refine ⟨_, rfl, ?_⟩; have n0_ := am (Kd.R_elder' (by (with_reducible repeat (first | apply Kd.R_alloc | apply Kd.R_drewN | apply Kd.R_drew)); exact (Kd.R_mono (Kd.R_far (p := ⟨gb475, 3, none⟩) (Kd.R_far (p := ⟨gb475, 2, none⟩) (Kd.R_far (p := ⟨gb475, 1, none⟩) (Kd.R_far (p := ⟨gb475, 0, none⟩) (Kd.R_types HO470.out BK475.out (by decide)) (fun _ hk => hk.2) (.int .i64 t471)) (fun _ hk => hk.2) (.int .i64 t472)) (fun _ hk => hk.2) (.int .i64 t473)) (fun _ hk => hk.2) (.int .i64 t474)) (fun _ h_ => h_.1))) (Kd.R_base ho0) hb); have n1_ := am (Kd.R_lower (Kd.R_new' ho0 (Kd.R_lt (by (with_reducible repeat (first | apply Kd.R_alloc | apply Kd.R_drewN | apply Kd.R_drew)); exact (Kd.R_mono (Kd.R_far (p := ⟨gb475, 3, none⟩) (Kd.R_far (p := ⟨gb475, 2, none⟩) (Kd.R_far (p := ⟨gb475, 1, none⟩) (Kd.R_far (p := ⟨gb475, 0, none⟩) (Kd.R_types HO470.out BK475.out (by decide)) (fun _ hk => hk.2) (.int .i64 t471)) (fun _ hk => hk.2) (.int .i64 t472)) (fun _ hk => hk.2) (.int .i64 t473)) (fun _ hk => hk.2) (.int .i64 t474)) (fun _ h_ => h_.1))))) (below_size (Y3 HB GE458 GE459 GE475))); have n2_ := am (blk_below (g := gb458) (o := b4 a0_0 a0_1 a0_2 a0_3 23) (by (with_reducible repeat (first | refine blk_drewN ?_ _ | refine blk_drew ?_ | refine blk_alloc ?_ _)); refine blk_far ?_ NB458_475.out _; (with_reducible repeat (first | refine blk_drewN ?_ _ | refine blk_drew ?_ | refine blk_alloc ?_ _)); refine blk_far ?_ NB458_475.out _; (with_reducible repeat (first | refine blk_drewN ?_ _ | refine blk_drew ?_ | refine blk_alloc ?_ _)); refine blk_far ?_ NB458_475.out _; (with_reducible repeat (first | refine blk_drewN ?_ _ | refine blk_drew ?_ | refine blk_alloc ?_ _)); refine blk_far ?_ NB458_475.out _; (with_reducible repeat (first | refine blk_drewN ?_ _ | refine blk_drew ?_ | refine blk_alloc ?_ _)); exact BK458.out) hb); have n3_ := am (blk_below (g := gb459) (o := b4 a1_0 a1_1 a1_2 a1_3 23) (by (with_reducible repeat (first | refine blk_drewN ?_ _ | refine blk_drew ?_ | refine blk_alloc ?_ _)); refine blk_far ?_ NB459_475.out _; (with_reducible repeat (first | refine blk_drewN ?_ _ | refine blk_drew ?_ | refine blk_alloc ?_ _)); refine blk_far ?_ NB459_475.out _; (with_reducible repeat (first | refine blk_drewN ?_ _ | refine blk_drew ?_ | refine blk_alloc ?_ _)); refine blk_far ?_ NB459_475.out _; (with_reducible repeat (first | refine blk_drewN ?_ _ | refine blk_drew ?_ | refine blk_alloc ?_ _)); refine blk_far ?_ NB459_475.out _; (with_reducible repeat (first | refine blk_drewN ?_ _ | refine blk_drew ?_ | refine blk_alloc ?_ _)); exact BK459.out) hb); have n4_ := am (blk_below (g := gb475) (o := b4 t471 t472 t473 t474 25) (by (with_reducible repeat (first | refine blk_drewN ?_ _ | refine blk_drew ?_ | refine blk_alloc ?_ _)); refine blk_put (cs := #[.int .i64 t471, .int .i64 t472, .int .i64 t473, .int .i64 0]) ?_ 3 _ rfl; (with_reducible repeat (first | refine blk_drewN ?_ _ | refine blk_drew ?_ | refine blk_alloc ?_ _)); refine blk_put (cs := #[.int .i64 t471, .int .i64 t472, .int .i64 0, .int .i64 0]) ?_ 2 _ rfl; (with_reducible repeat (first | refine blk_drewN ?_ _ | refine blk_drew ?_ | refine blk_alloc ?_ _)); refine blk_put (cs := #[.int .i64 t471, .int .i64 0, .int .i64 0, .int .i64 0]) ?_ 1 _ rfl; (with_reducible repeat (first | refine blk_drewN ?_ _ | refine blk_drew ?_ | refine blk_alloc ?_ _)); refine blk_put (cs := #[.int .i64 0, .int .i64 0, .int .i64 0, .int .i64 0]) ?_ 0 _ rfl; (with_reducible repeat (first | refine blk_drewN ?_ _ | refine blk_drew ?_ | refine blk_alloc ?_ _)); exact BK475.out) hb); have n5_ := am (below_step (Y3 HB GE458 GE459 GE475) hb); clear HO470; clear BK458; clear BK459; clear BK475; clear HB; have HO470 := n0_; have HO478 := n1_; have BK458 := n2_; have BK459 := n3_; have BK475 := n4_; have HB := n5_; clear n0_ n1_ n2_ n3_ n4_ n5_; (try clear hb); (try clear hb2); (try clear hk); (try clear hi); (try clear ho0); obtain ⟨Ao35, co35, eo35⟩ := Kd.R_slice HO478.out; subst eo35))
    have n0_ := am (Kd.R_drew HO470.out)
    have n1_ := am (Kd.R_drew HO478.out)
    have n2_ := am (blk_drew BK458.out)
    have n3_ := am (blk_drew BK459.out)
    have n4_ := am (blk_drew BK475.out)
    have n5_ := am (below_drew1 HB.out)
    clear HO470
    clear HO478
    clear BK458
    clear BK459
    clear BK475
    clear HB
    have HO470 := n0_
    have HO478 := n1_
    have BK458 := n2_
    have BK459 := n3_
    have BK475 := n4_
    have HB := n5_
    clear n0_ n1_ n2_ n3_ n4_ n5_
    refine start_ (n := 8) (S := fun w' => w'.cell? ⟨gb458, 0, none⟩ = some (.int .i64 a0_0) ∧ w'.cell? ⟨gb458, 1, none⟩ = some (.int .i64 a0_1) ∧ w'.cell? ⟨gb458, 2, none⟩ = some (.int .i64 a0_2) ∧ w'.cell? ⟨gb458, 3, none⟩ = some (.int .i64 a0_3) ∧ w'.cell? ⟨gb459, 0, none⟩ = some (.int .i64 a1_0) ∧ w'.cell? ⟨gb459, 1, none⟩ = some (.int .i64 a1_1) ∧ w'.cell? ⟨gb459, 2, none⟩ = some (.int .i64 a1_2) ∧ w'.cell? ⟨gb459, 3, none⟩ = some (.int .i64 a1_3)) (ds := []) #[F, F, F, F, F, F, F, F] (by kernel_rfl) rfl rfl ⟨bc BK458 0, bc BK458 1, bc BK458 2, bc BK458 3, bc BK459 0, bc BK459 1, bc BK459 2, bc BK459 3⟩ (fun hHeld => ?_); refine with_tabW laws_FnExactValWiden.tab5 laws_FnExactValWiden.bits5 (fun HT_ HW_ => ?_)
    generalize w34.drew = w36 at HO470 HO478 BK458 BK459 BK475 HB hHeld ⊢
    refine pure_ (i := 4) (N := some 26) (v := ?_) (a' := ?_) #[F, F, F, F, T, F, F, F] rfl rfl (any_of HT_.out (by kernel_rfl)) (fun _ _ _ h => h) (Or.inl ⟨by rfl, ?_⟩) ?_ ?_
    rotate_left
    ·exact gz
    rotate_left
    ·exact pz
    refine take_ (i := 0) (N := some 22) (v := ?_) (a' := ?_) #[T, F, F, F, T, F, F, F] rfl rfl (take_ofW HT_.out HW_.out (by kernel_rfl)) (fun _ _ _ h => h) (Or.inl ⟨by rfl, ?_⟩) hHeld ?_ ?_
    rotate_left
    ·rintro w' ⟨s0, s1, s2, s3, s4, s5, s6, s7⟩
     go_simp
     with_reducible rfl
    rotate_left
    ·exact pz
    refine take_ (i := 2) (N := some 24) (v := ?_) (a' := ?_) #[T, F, T, F, T, F, F, F] rfl rfl (take_ofW HT_.out HW_.out (by kernel_rfl)) (fun _ _ _ h => h) (Or.inl ⟨by rfl, ?_⟩) hHeld ?_ ?_
    rotate_left
    ·rintro w' ⟨s0, s1, s2, s3, s4, s5, s6, s7⟩
     go_simp
     with_reducible rfl
    rotate_left
    ·exact pz
    refine join_ (σ := Nat) 1 #[T, T, T, T, T, T, T, F] (fun s_ => [(23, .agg #[.int .i64 t479, .int .i64 t480, .int .i64 t481, .int .i64 t482]), (25, .agg #[.int .i64 t483, .int .i64 t484, .int .i64 t485, .int .i64 t486]), (27, .agg #[.int .i64 t487, .int .i64 t488, .int .i64 t489, .int .i64 t490]), (9, .pointer (some ⟨s_, 0, none⟩))]) (fun s_ w' => (w'.cell? ⟨gb458, 0, none⟩ = some (.int .i64 a0_0) ∧ w'.cell? ⟨gb458, 1, none⟩ = some (.int .i64 a0_1) ∧ w'.cell? ⟨gb458, 2, none⟩ = some (.int .i64 a0_2) ∧ w'.cell? ⟨gb458, 3, none⟩ = some (.int .i64 a0_3) ∧ w'.cell? ⟨gb459, 0, none⟩ = some (.int .i64 a1_0) ∧ w'.cell? ⟨gb459, 1, none⟩ = some (.int .i64 a1_1) ∧ w'.cell? ⟨gb459, 2, none⟩ = some (.int .i64 a1_2) ∧ w'.cell? ⟨gb459, 3, none⟩ = some (.int .i64 a1_3)) ∧ (Kd.R (Kd.int .i64) 3 w' w.heap.size (fun k_ => some k_ ≠ (.slice Ao35 t476.length co35 : Value).ownBlock) v469 t468) ∧ (Kd.R (Kd.int .i64) 3 w' w.heap.size (fun k_ => some k_ ≠ (v469 : Value).ownBlock) (.slice Ao35 t476.length co35) t476) ∧ (w'.heap[gb458]? = some (.cells #[.int .i64 a0_0, .int .i64 a0_1, .int .i64 a0_2, .int .i64 a0_3] 23 (0, 0))) ∧ (w'.heap[gb459]? = some (.cells #[.int .i64 a1_0, .int .i64 a1_1, .int .i64 a1_2, .int .i64 a1_3] 23 (0, 0))) ∧ (w'.heap[gb475]? = some (.cells #[.int .i64 t471, .int .i64 t472, .int .i64 t473, .int .i64 t474] 25 (0, 0))) ∧ (w'.heap[s_]? = some (.cells #[.int .i64 0, .int .i64 0, .int .i64 0, .int .i64 0] 25 (0, 0))) ∧ (w.heap.size ≤ s_) ∧ (w.heap.size ≤ s_) ∧ (gb458 ≠ s_) ∧ (s_ ≠ gb458) ∧ (gb459 ≠ s_) ∧ (s_ ≠ gb459) ∧ (gb475 ≠ s_) ∧ (s_ ≠ gb475) ∧ (Below w.heap.size w w')) ?_ ?_
    rotate_left
    ·intro hCont
     refine two_ (i := 1) (j := 6) (Ni := some 23) (Nj := some 9) #[T, T, T, F, T, F, F, F] #[T, F, T, F, T, F, T, F] rfl rfl rfl rfl (two_of HT_.out (by kernel_rfl)) (by decide) (by decide) (fun K hK => ?_) (fun K hK => ?_)
     ·skip
      refine goes_ Try.func16 (by kernel_rfl) rfl #[.agg #[.int .i64 a0_0, .int .i64 a0_1, .int .i64 a0_2, .int .i64 a0_3]] (by rfl) rfl rfl mz ?_
      with_reducible refine (laws_toVal.calls a0_0 a0_1 a0_2 a0_3 t479 t480 t481 t482 _ A12.out).mono ?_
      rintro e w37 ⟨rfl, hb⟩
      refine ⟨_, rfl, ?_⟩
      have n0_ := am (Kd.R_below (by (with_reducible repeat (first | apply Kd.R_alloc | apply Kd.R_drewN | apply Kd.R_drew)); exact HO470.out) hb)
      have n1_ := am (Kd.R_below (by (with_reducible repeat (first | apply Kd.R_alloc | apply Kd.R_drewN | apply Kd.R_drew)); exact HO478.out) hb)
      have n2_ := am (blk_below (g := gb458) (o := b4 a0_0 a0_1 a0_2 a0_3 23) (Z BK458) hb)
      have n3_ := am (blk_below (g := gb459) (o := b4 a1_0 a1_1 a1_2 a1_3 23) (Z BK459) hb)
      have n4_ := am (blk_below (g := gb475) (o := b4 t471 t472 t473 t474 25) (Z BK475) hb)
      have n5_ := am (below_step (Y3 HB GE458 GE459 GE475) hb)
      clear HO470
      clear HO478
      clear BK458
      clear BK459
      clear BK475
      clear HB
      have HO470 := n0_
      have HO478 := n1_
      have BK458 := n2_
      have BK459 := n3_
      have BK475 := n4_
      have HB := n5_
      clear n0_ n1_ n2_ n3_ n4_ n5_
      (try clear hb)
      (try clear hb2)
      (try clear hk)
      (try clear hi)
      refine hK.out _ _ ⟨bc BK458 0, bc BK458 1, bc BK458 2, bc BK458 3, bc BK459 0, bc BK459 1, bc BK459 2, bc BK459 3⟩ (fun hHeld => ?_)
      clear hK K
      refine norm_ (a' := ?_) ?_ ?_
      rotate_left
      ·show Act.put _ (some 23) _ = _
       simp only [Act.put, List.setIfInBounds_toArray, List.set_cons_zero, List.set_cons_succ, i64_w, i32_w]
       rfl
      refine two_ (i := 3) (j := 6) (Ni := some 25) (Nj := some 9) #[T, T, T, T, T, F, F, F] #[T, T, T, F, T, F, T, F] rfl rfl rfl rfl (two_of HT_.out (by kernel_rfl)) (by decide) (by decide) (fun K hK => ?_) (fun K hK => ?_)
      ·skip
       refine goes_ Try.func16 (by kernel_rfl) rfl #[.agg #[.int .i64 a1_0, .int .i64 a1_1, .int .i64 a1_2, .int .i64 a1_3]] (by rfl) rfl rfl mz ?_
       with_reducible refine (laws_toVal.calls a1_0 a1_1 a1_2 a1_3 t483 t484 t485 t486 _ A13.out).mono ?_
       rintro e w38 ⟨rfl, hb⟩
       refine ⟨_, rfl, ?_⟩
       have n0_ := am (Kd.R_below (by (with_reducible repeat (first | apply Kd.R_alloc | apply Kd.R_drewN | apply Kd.R_drew)); exact HO470.out) hb)
       have n1_ := am (Kd.R_below (by (with_reducible repeat (first | apply Kd.R_alloc | apply Kd.R_drewN | apply Kd.R_drew)); exact HO478.out) hb)
       have n2_ := am (blk_below (g := gb458) (o := b4 a0_0 a0_1 a0_2 a0_3 23) (Z BK458) hb)
       have n3_ := am (blk_below (g := gb459) (o := b4 a1_0 a1_1 a1_2 a1_3 23) (Z BK459) hb)
       have n4_ := am (blk_below (g := gb475) (o := b4 t471 t472 t473 t474 25) (Z BK475) hb)
       have n5_ := am (below_step (Y3 HB GE458 GE459 GE475) hb)
       clear HO470
       clear HO478
       clear BK458
       clear BK459
       clear BK475
       clear HB
       have HO470 := n0_
       have HO478 := n1_
       have BK458 := n2_
       have BK459 := n3_
       have BK475 := n4_
       have HB := n5_
       clear n0_ n1_ n2_ n3_ n4_ n5_
       (try clear hb)
       (try clear hb2)
       (try clear hk)
       (try clear hi)
       refine hK.out _ _ ⟨bc BK458 0, bc BK458 1, bc BK458 2, bc BK458 3, bc BK459 0, bc BK459 1, bc BK459 2, bc BK459 3⟩ (fun hHeld => ?_)
       clear hK K
       refine norm_ (a' := ?_) ?_ ?_
       rotate_left
       ·show Act.put _ (some 25) _ = _
        simp only [Act.put, List.setIfInBounds_toArray, List.set_cons_zero, List.set_cons_succ, i64_w, i32_w]
        rfl
       refine two_ (i := 5) (j := 6) (Ni := some 27) (Nj := some 9) #[T, T, T, T, T, T, F, F] #[T, T, T, T, T, F, T, F] rfl rfl rfl rfl (two_of HT_.out (by kernel_rfl)) (by decide) (by decide) (fun K hK => ?_) (fun K hK => ?_)
       ·skip
        refine goes_ Try.func27 (by kernel_rfl) rfl #[.agg #[.int .i64 t479, .int .i64 t480, .int .i64 t481, .int .i64 t482], .agg #[.int .i64 t483, .int .i64 t484, .int .i64 t485, .int .i64 t486], .slice Ao35 t476.length co35] (by rfl) rfl rfl mz ?_
        with_reducible refine (impl_ValWiden.calls k t479 t480 t481 t482 t483 t484 t485 t486 _ _ t476 t487 t488 t489 t490 _ ?side1 ?side2 A14.out).mono ?_
        (case side1 => repeat (first | exact (Kd.R_reads' HO478.out).2.2 | (with_reducible refine Kd.C_alloc ?_ _) | (with_reducible refine Kd.C_drewN ?_ _) | (with_reducible refine Kd.C_drew ?_)))
        (case side2 => exact (Kd.R_reads' HO478.out).2.1)
        rintro e w39 ⟨rfl, hb⟩
        refine ⟨_, rfl, ?_⟩
        have n0_ := am (Kd.R_below (by (with_reducible repeat (first | apply Kd.R_alloc | apply Kd.R_drewN | apply Kd.R_drew)); exact HO470.out) hb)
        have n1_ := am (Kd.R_below (by (with_reducible repeat (first | apply Kd.R_alloc | apply Kd.R_drewN | apply Kd.R_drew)); exact HO478.out) hb)
        have n2_ := am (blk_below (g := gb458) (o := b4 a0_0 a0_1 a0_2 a0_3 23) (Z BK458) hb)
        have n3_ := am (blk_below (g := gb459) (o := b4 a1_0 a1_1 a1_2 a1_3 23) (Z BK459) hb)
        have n4_ := am (blk_below (g := gb475) (o := b4 t471 t472 t473 t474 25) (Z BK475) hb)
        have n5_ := am (below_step (Y3 HB GE458 GE459 GE475) hb)
        clear HO470
        clear HO478
        clear BK458
        clear BK459
        clear BK475
        clear HB
        have HO470 := n0_
        have HO478 := n1_
        have BK458 := n2_
        have BK459 := n3_
        have BK475 := n4_
        have HB := n5_
        clear n0_ n1_ n2_ n3_ n4_ n5_
        (try clear hb)
        (try clear hb2)
        (try clear hk)
        (try clear hi)
        refine hK.out _ _ ⟨bc BK458 0, bc BK458 1, bc BK458 2, bc BK458 3, bc BK459 0, bc BK459 1, bc BK459 2, bc BK459 3⟩ (fun hHeld => ?_)
        clear hK K
        refine norm_ (a' := ?_) ?_ ?_
        rotate_left
        ·show Act.put _ (some 27) _ = _
         simp only [Act.put, List.setIfInBounds_toArray, List.set_cons_zero, List.set_cons_succ, i64_w, i32_w]
         rfl
        refine one_ (i := 6) (N := some 9) #[T, T, T, T, T, T, T, F] rfl rfl (one_of HT_.out (by kernel_rfl)) (by decide) (fun K hK => ?_)
        refine box_step ?hg (N := 9) ?hd (cs := #[.int .i64 0, .int .i64 0, .int .i64 0, .int .i64 0]) (t := 25) ?hr ?_; (case hd => rfl); (case hg => rfl); (case hr => first | (go_simp; done) | (go_simp; rfl))
        intro gb491 hg w40 hbox hb
        have n0_ := am (Kd.R_below (by (with_reducible repeat (first | apply Kd.R_alloc | apply Kd.R_drewN | apply Kd.R_drew)); exact HO470.out) hb)
        have n1_ := am (Kd.R_below (by (with_reducible repeat (first | apply Kd.R_alloc | apply Kd.R_drewN | apply Kd.R_drew)); exact HO478.out) hb)
        have n2_ := am (blk_below (g := gb458) (o := b4 a0_0 a0_1 a0_2 a0_3 23) (Z BK458) hb)
        have n3_ := am (blk_below (g := gb459) (o := b4 a1_0 a1_1 a1_2 a1_3 23) (Z BK459) hb)
        have n4_ := am (blk_below (g := gb475) (o := b4 t471 t472 t473 t474 25) (Z BK475) hb)
        have n5_ := am (below_step (Y3 HB GE458 GE459 GE475) hb)
        have n6_ := am (hbox)
        have n7_ := am ((by rw [hg]; exact (below_size (Y3 HB GE458 GE459 GE475)) : w.heap.size ≤ gb491))
        have n8_ := am ((by rw [hg]; exact (below_size (Y3 HB GE458 GE459 GE475)) : w.heap.size ≤ gb491))
        have n9_ := am ((nl (o := b4 a0_0 a0_1 a0_2 a0_3 23) hg (Z BK458) : gb458 ≠ gb491))
        have n10_ := am ((ng (o := b4 a0_0 a0_1 a0_2 a0_3 23) hg (Z BK458) : gb491 ≠ gb458))
        have n11_ := am ((nl (o := b4 a1_0 a1_1 a1_2 a1_3 23) hg (Z BK459) : gb459 ≠ gb491))
        have n12_ := am ((ng (o := b4 a1_0 a1_1 a1_2 a1_3 23) hg (Z BK459) : gb491 ≠ gb459))
        have n13_ := am ((nl (o := b4 t471 t472 t473 t474 25) hg (Z BK475) : gb475 ≠ gb491))
        have n14_ := am ((ng (o := b4 t471 t472 t473 t474 25) hg (Z BK475) : gb491 ≠ gb475))
        clear HO470
        clear HO478
        clear BK458
        clear BK459
        clear BK475
        clear HB
        have HO470 := n0_
        have HO478 := n1_
        have BK458 := n2_
        have BK459 := n3_
        have BK475 := n4_
        have HB := n5_
        have BK491 := n6_
        have GW491 := n7_
        have GE491 := n8_
        have NB458_491 := n9_
        have NB491_458 := n10_
        have NB459_491 := n11_
        have NB491_459 := n12_
        have NB475_491 := n13_
        have NB491_475 := n14_
        clear n0_ n1_ n2_ n3_ n4_ n5_ n6_ n7_ n8_ n9_ n10_ n11_ n12_ n13_ n14_
        clear hb hbox hg
        refine hK.out _ _ ⟨bc BK458 0, bc BK458 1, bc BK458 2, bc BK458 3, bc BK459 0, bc BK459 1, bc BK459 2, bc BK459 3⟩ (fun hHeld => ?_)
        clear hK K
        refine norm_ (a' := ?_) ?_ ?_
        rotate_left
        ·show Act.put _ (some 9) _ = _
         simp only [Act.put, List.setIfInBounds_toArray, List.set_cons_zero, List.set_cons_succ, i64_w, i32_w]
         rfl
        exact norm_ (by simp only [putAll, Act.put, List.setIfInBounds_toArray, List.set_cons_zero, List.set_cons_succ]) (hCont (gb491) _ ⟨hHeld, (by (with_reducible repeat (first | apply Kd.R_alloc | apply Kd.R_drewN | apply Kd.R_drew)); exact Kd.R_mono HO470.out (fun _ hk => hk.2)), (by (with_reducible repeat (first | apply Kd.R_alloc | apply Kd.R_drewN | apply Kd.R_drew)); exact Kd.R_mono HO478.out (fun _ hk => hk.2)), (Z BK458), (Z BK459), (Z BK475), (Z BK491), GW491.out, GE491.out, NB458_491.out, NB491_458.out, NB459_491.out, NB491_459.out, NB475_491.out, NB491_475.out, (Y4 HB GE458 GE459 GE475 GE491)⟩)
       ·skip
        refine box_step ?hg (N := 9) ?hd (cs := #[.int .i64 0, .int .i64 0, .int .i64 0, .int .i64 0]) (t := 25) ?hr ?_; (case hd => rfl); (case hg => rfl); (case hr => first | (go_simp; done) | (go_simp; rfl))
        intro gb491 hg w39 hbox hb
        have n0_ := am (Kd.R_below (by (with_reducible repeat (first | apply Kd.R_alloc | apply Kd.R_drewN | apply Kd.R_drew)); exact HO470.out) hb)
        have n1_ := am (Kd.R_below (by (with_reducible repeat (first | apply Kd.R_alloc | apply Kd.R_drewN | apply Kd.R_drew)); exact HO478.out) hb)
        have n2_ := am (blk_below (g := gb458) (o := b4 a0_0 a0_1 a0_2 a0_3 23) (Z BK458) hb)
        have n3_ := am (blk_below (g := gb459) (o := b4 a1_0 a1_1 a1_2 a1_3 23) (Z BK459) hb)
        have n4_ := am (blk_below (g := gb475) (o := b4 t471 t472 t473 t474 25) (Z BK475) hb)
        have n5_ := am (below_step (Y3 HB GE458 GE459 GE475) hb)
        have n6_ := am (hbox)
        have n7_ := am ((by rw [hg]; exact (below_size (Y3 HB GE458 GE459 GE475)) : w.heap.size ≤ gb491))
        have n8_ := am ((by rw [hg]; exact (below_size (Y3 HB GE458 GE459 GE475)) : w.heap.size ≤ gb491))
        have n9_ := am ((nl (o := b4 a0_0 a0_1 a0_2 a0_3 23) hg (Z BK458) : gb458 ≠ gb491))
        have n10_ := am ((ng (o := b4 a0_0 a0_1 a0_2 a0_3 23) hg (Z BK458) : gb491 ≠ gb458))
        have n11_ := am ((nl (o := b4 a1_0 a1_1 a1_2 a1_3 23) hg (Z BK459) : gb459 ≠ gb491))
        have n12_ := am ((ng (o := b4 a1_0 a1_1 a1_2 a1_3 23) hg (Z BK459) : gb491 ≠ gb459))
        have n13_ := am ((nl (o := b4 t471 t472 t473 t474 25) hg (Z BK475) : gb475 ≠ gb491))
        have n14_ := am ((ng (o := b4 t471 t472 t473 t474 25) hg (Z BK475) : gb491 ≠ gb475))
        clear HO470
        clear HO478
        clear BK458
        clear BK459
        clear BK475
        clear HB
        have HO470 := n0_
        have HO478 := n1_
        have BK458 := n2_
        have BK459 := n3_
        have BK475 := n4_
        have HB := n5_
        have BK491 := n6_
        have GW491 := n7_
        have GE491 := n8_
        have NB458_491 := n9_
        have NB491_458 := n10_
        have NB459_491 := n11_
        have NB491_459 := n12_
        have NB475_491 := n13_
        have NB491_475 := n14_
        clear n0_ n1_ n2_ n3_ n4_ n5_ n6_ n7_ n8_ n9_ n10_ n11_ n12_ n13_ n14_
        clear hb hbox hg
        refine hK.out _ _ ⟨bc BK458 0, bc BK458 1, bc BK458 2, bc BK458 3, bc BK459 0, bc BK459 1, bc BK459 2, bc BK459 3⟩ (fun hHeld => ?_)
        clear hK K
        refine norm_ (a' := ?_) ?_ ?_
        rotate_left
        ·show Act.put _ (some 9) _ = _
         simp only [Act.put, List.setIfInBounds_toArray, List.set_cons_zero, List.set_cons_succ, i64_w, i32_w]
         rfl
        refine one_ (i := 5) (N := some 27) #[T, T, T, T, T, T, T, F] rfl rfl (one_of HT_.out (by kernel_rfl)) (by decide) (fun K hK => ?_)
        refine goes_ Try.func27 (by kernel_rfl) rfl #[.agg #[.int .i64 t479, .int .i64 t480, .int .i64 t481, .int .i64 t482], .agg #[.int .i64 t483, .int .i64 t484, .int .i64 t485, .int .i64 t486], .slice Ao35 t476.length co35] (by rfl) rfl rfl mz ?_
        with_reducible refine (impl_ValWiden.calls k t479 t480 t481 t482 t483 t484 t485 t486 _ _ t476 t487 t488 t489 t490 _ ?side1 ?side2 A14.out).mono ?_
        (case side1 => repeat (first | exact (Kd.R_reads' HO478.out).2.2 | (with_reducible refine Kd.C_alloc ?_ _) | (with_reducible refine Kd.C_drewN ?_ _) | (with_reducible refine Kd.C_drew ?_)))
        (case side2 => exact (Kd.R_reads' HO478.out).2.1)
        rintro e w40 ⟨rfl, hb⟩
        refine ⟨_, rfl, ?_⟩
        have n0_ := am (Kd.R_below (by (with_reducible repeat (first | apply Kd.R_alloc | apply Kd.R_drewN | apply Kd.R_drew)); exact HO470.out) hb)
        have n1_ := am (Kd.R_below (by (with_reducible repeat (first | apply Kd.R_alloc | apply Kd.R_drewN | apply Kd.R_drew)); exact HO478.out) hb)
        have n2_ := am (blk_below (g := gb458) (o := b4 a0_0 a0_1 a0_2 a0_3 23) (Z BK458) hb)
        have n3_ := am (blk_below (g := gb459) (o := b4 a1_0 a1_1 a1_2 a1_3 23) (Z BK459) hb)
        have n4_ := am (blk_below (g := gb475) (o := b4 t471 t472 t473 t474 25) (Z BK475) hb)
        have n5_ := am (blk_below (g := gb491) (o := b4 0 0 0 0 25) (Z BK491) hb)
        have n6_ := am (below_step (Y4 HB GE458 GE459 GE475 GE491) hb)
        clear HO470
        clear HO478
        clear BK458
        clear BK459
        clear BK475
        clear BK491
        clear HB
        have HO470 := n0_
        have HO478 := n1_
        have BK458 := n2_
        have BK459 := n3_
        have BK475 := n4_
        have BK491 := n5_
        have HB := n6_
        clear n0_ n1_ n2_ n3_ n4_ n5_ n6_
        (try clear hb)
        (try clear hb2)
        (try clear hk)
        (try clear hi)
        refine hK.out _ _ ⟨bc BK458 0, bc BK458 1, bc BK458 2, bc BK458 3, bc BK459 0, bc BK459 1, bc BK459 2, bc BK459 3⟩ (fun hHeld => ?_)
        clear hK K
        refine norm_ (a' := ?_) ?_ ?_
        rotate_left
        ·show Act.put _ (some 27) _ = _
         simp only [Act.put, List.setIfInBounds_toArray, List.set_cons_zero, List.set_cons_succ, i64_w, i32_w]
         rfl
        exact norm_ (by simp only [putAll, Act.put, List.setIfInBounds_toArray, List.set_cons_zero, List.set_cons_succ]) (hCont (gb491) _ ⟨hHeld, (by (with_reducible repeat (first | apply Kd.R_alloc | apply Kd.R_drewN | apply Kd.R_drew)); exact Kd.R_mono HO470.out (fun _ hk => hk.2)), (by (with_reducible repeat (first | apply Kd.R_alloc | apply Kd.R_drewN | apply Kd.R_drew)); exact Kd.R_mono HO478.out (fun _ hk => hk.2)), (Z BK458), (Z BK459), (Z BK475), (Z BK491), GW491.out, GE491.out, NB458_491.out, NB491_458.out, NB459_491.out, NB491_459.out, NB475_491.out, NB491_475.out, (Y4 HB GE458 GE459 GE475 GE491)⟩)
      ·skip
       refine box_step ?hg (N := 9) ?hd (cs := #[.int .i64 0, .int .i64 0, .int .i64 0, .int .i64 0]) (t := 25) ?hr ?_; (case hd => rfl); (case hg => rfl); (case hr => first | (go_simp; done) | (go_simp; rfl))
       intro gb491 hg w38 hbox hb
       have n0_ := am (Kd.R_below (by (with_reducible repeat (first | apply Kd.R_alloc | apply Kd.R_drewN | apply Kd.R_drew)); exact HO470.out) hb)
       have n1_ := am (Kd.R_below (by (with_reducible repeat (first | apply Kd.R_alloc | apply Kd.R_drewN | apply Kd.R_drew)); exact HO478.out) hb)
       have n2_ := am (blk_below (g := gb458) (o := b4 a0_0 a0_1 a0_2 a0_3 23) (Z BK458) hb)
       have n3_ := am (blk_below (g := gb459) (o := b4 a1_0 a1_1 a1_2 a1_3 23) (Z BK459) hb)
       have n4_ := am (blk_below (g := gb475) (o := b4 t471 t472 t473 t474 25) (Z BK475) hb)
       have n5_ := am (below_step (Y3 HB GE458 GE459 GE475) hb)
       have n6_ := am (hbox)
       have n7_ := am ((by rw [hg]; exact (below_size (Y3 HB GE458 GE459 GE475)) : w.heap.size ≤ gb491))
       have n8_ := am ((by rw [hg]; exact (below_size (Y3 HB GE458 GE459 GE475)) : w.heap.size ≤ gb491))
       have n9_ := am ((nl (o := b4 a0_0 a0_1 a0_2 a0_3 23) hg (Z BK458) : gb458 ≠ gb491))
       have n10_ := am ((ng (o := b4 a0_0 a0_1 a0_2 a0_3 23) hg (Z BK458) : gb491 ≠ gb458))
       have n11_ := am ((nl (o := b4 a1_0 a1_1 a1_2 a1_3 23) hg (Z BK459) : gb459 ≠ gb491))
       have n12_ := am ((ng (o := b4 a1_0 a1_1 a1_2 a1_3 23) hg (Z BK459) : gb491 ≠ gb459))
       have n13_ := am ((nl (o := b4 t471 t472 t473 t474 25) hg (Z BK475) : gb475 ≠ gb491))
       have n14_ := am ((ng (o := b4 t471 t472 t473 t474 25) hg (Z BK475) : gb491 ≠ gb475))
       clear HO470
       clear HO478
       clear BK458
       clear BK459
       clear BK475
       clear HB
       have HO470 := n0_
       have HO478 := n1_
       have BK458 := n2_
       have BK459 := n3_
       have BK475 := n4_
       have HB := n5_
       have BK491 := n6_
       have GW491 := n7_
       have GE491 := n8_
       have NB458_491 := n9_
       have NB491_458 := n10_
       have NB459_491 := n11_
       have NB491_459 := n12_
       have NB475_491 := n13_
       have NB491_475 := n14_
       clear n0_ n1_ n2_ n3_ n4_ n5_ n6_ n7_ n8_ n9_ n10_ n11_ n12_ n13_ n14_
       clear hb hbox hg
       refine hK.out _ _ ⟨bc BK458 0, bc BK458 1, bc BK458 2, bc BK458 3, bc BK459 0, bc BK459 1, bc BK459 2, bc BK459 3⟩ (fun hHeld => ?_)
       clear hK K
       refine norm_ (a' := ?_) ?_ ?_
       rotate_left
       ·show Act.put _ (some 9) _ = _
        simp only [Act.put, List.setIfInBounds_toArray, List.set_cons_zero, List.set_cons_succ, i64_w, i32_w]
        rfl
       refine one_ (i := 3) (N := some 25) #[T, T, T, T, T, F, T, F] rfl rfl (one_of HT_.out (by kernel_rfl)) (by decide) (fun K hK => ?_)
       refine goes_ Try.func16 (by kernel_rfl) rfl #[.agg #[.int .i64 a1_0, .int .i64 a1_1, .int .i64 a1_2, .int .i64 a1_3]] (by rfl) rfl rfl mz ?_
       with_reducible refine (laws_toVal.calls a1_0 a1_1 a1_2 a1_3 t483 t484 t485 t486 _ A13.out).mono ?_
       rintro e w39 ⟨rfl, hb⟩
       refine ⟨_, rfl, ?_⟩
       have n0_ := am (Kd.R_below (by (with_reducible repeat (first | apply Kd.R_alloc | apply Kd.R_drewN | apply Kd.R_drew)); exact HO470.out) hb)
       have n1_ := am (Kd.R_below (by (with_reducible repeat (first | apply Kd.R_alloc | apply Kd.R_drewN | apply Kd.R_drew)); exact HO478.out) hb)
       have n2_ := am (blk_below (g := gb458) (o := b4 a0_0 a0_1 a0_2 a0_3 23) (Z BK458) hb)
       have n3_ := am (blk_below (g := gb459) (o := b4 a1_0 a1_1 a1_2 a1_3 23) (Z BK459) hb)
       have n4_ := am (blk_below (g := gb475) (o := b4 t471 t472 t473 t474 25) (Z BK475) hb)
       have n5_ := am (blk_below (g := gb491) (o := b4 0 0 0 0 25) (Z BK491) hb)
       have n6_ := am (below_step (Y4 HB GE458 GE459 GE475 GE491) hb)
       clear HO470
       clear HO478
       clear BK458
       clear BK459
       clear BK475
       clear BK491
       clear HB
       have HO470 := n0_
       have HO478 := n1_
       have BK458 := n2_
       have BK459 := n3_
       have BK475 := n4_
       have BK491 := n5_
       have HB := n6_
       clear n0_ n1_ n2_ n3_ n4_ n5_ n6_
       (try clear hb)
       (try clear hb2)
       (try clear hk)
       (try clear hi)
       refine hK.out _ _ ⟨bc BK458 0, bc BK458 1, bc BK458 2, bc BK458 3, bc BK459 0, bc BK459 1, bc BK459 2, bc BK459 3⟩ (fun hHeld => ?_)
       clear hK K
       refine norm_ (a' := ?_) ?_ ?_
       rotate_left
       ·show Act.put _ (some 25) _ = _
        simp only [Act.put, List.setIfInBounds_toArray, List.set_cons_zero, List.set_cons_succ, i64_w, i32_w]
        rfl
       refine one_ (i := 5) (N := some 27) #[T, T, T, T, T, T, T, F] rfl rfl (one_of HT_.out (by kernel_rfl)) (by decide) (fun K hK => ?_)
       refine goes_ Try.func27 (by kernel_rfl) rfl #[.agg #[.int .i64 t479, .int .i64 t480, .int .i64 t481, .int .i64 t482], .agg #[.int .i64 t483, .int .i64 t484, .int .i64 t485, .int .i64 t486], .slice Ao35 t476.length co35] (by rfl) rfl rfl mz ?_
       with_reducible refine (impl_ValWiden.calls k t479 t480 t481 t482 t483 t484 t485 t486 _ _ t476 t487 t488 t489 t490 _ ?side1 ?side2 A14.out).mono ?_
       (case side1 => repeat (first | exact (Kd.R_reads' HO478.out).2.2 | (with_reducible refine Kd.C_alloc ?_ _) | (with_reducible refine Kd.C_drewN ?_ _) | (with_reducible refine Kd.C_drew ?_)))
       (case side2 => exact (Kd.R_reads' HO478.out).2.1)
       rintro e w40 ⟨rfl, hb⟩
       refine ⟨_, rfl, ?_⟩
       have n0_ := am (Kd.R_below (by (with_reducible repeat (first | apply Kd.R_alloc | apply Kd.R_drewN | apply Kd.R_drew)); exact HO470.out) hb)
       have n1_ := am (Kd.R_below (by (with_reducible repeat (first | apply Kd.R_alloc | apply Kd.R_drewN | apply Kd.R_drew)); exact HO478.out) hb)
       have n2_ := am (blk_below (g := gb458) (o := b4 a0_0 a0_1 a0_2 a0_3 23) (Z BK458) hb)
       have n3_ := am (blk_below (g := gb459) (o := b4 a1_0 a1_1 a1_2 a1_3 23) (Z BK459) hb)
       have n4_ := am (blk_below (g := gb475) (o := b4 t471 t472 t473 t474 25) (Z BK475) hb)
       have n5_ := am (blk_below (g := gb491) (o := b4 0 0 0 0 25) (Z BK491) hb)
       have n6_ := am (below_step (Y4 HB GE458 GE459 GE475 GE491) hb)
       clear HO470
       clear HO478
       clear BK458
       clear BK459
       clear BK475
       clear BK491
       clear HB
       have HO470 := n0_
       have HO478 := n1_
       have BK458 := n2_
       have BK459 := n3_
       have BK475 := n4_
       have BK491 := n5_
       have HB := n6_
       clear n0_ n1_ n2_ n3_ n4_ n5_ n6_
       (try clear hb)
       (try clear hb2)
       (try clear hk)
       (try clear hi)
       refine hK.out _ _ ⟨bc BK458 0, bc BK458 1, bc BK458 2, bc BK458 3, bc BK459 0, bc BK459 1, bc BK459 2, bc BK459 3⟩ (fun hHeld => ?_)
       clear hK K
       refine norm_ (a' := ?_) ?_ ?_
       rotate_left
       ·show Act.put _ (some 27) _ = _
        simp only [Act.put, List.setIfInBounds_toArray, List.set_cons_zero, List.set_cons_succ, i64_w, i32_w]
        rfl
       exact norm_ (by simp only [putAll, Act.put, List.setIfInBounds_toArray, List.set_cons_zero, List.set_cons_succ]) (hCont (gb491) _ ⟨hHeld, (by (with_reducible repeat (first | apply Kd.R_alloc | apply Kd.R_drewN | apply Kd.R_drew)); exact Kd.R_mono HO470.out (fun _ hk => hk.2)), (by (with_reducible repeat (first | apply Kd.R_alloc | apply Kd.R_drewN | apply Kd.R_drew)); exact Kd.R_mono HO478.out (fun _ hk => hk.2)), (Z BK458), (Z BK459), (Z BK475), (Z BK491), GW491.out, GE491.out, NB458_491.out, NB491_458.out, NB459_491.out, NB491_459.out, NB475_491.out, NB491_475.out, (Y4 HB GE458 GE459 GE475 GE491)⟩)
     ·skip
      refine box_step ?hg (N := 9) ?hd (cs := #[.int .i64 0, .int .i64 0, .int .i64 0, .int .i64 0]) (t := 25) ?hr ?_; (case hd => rfl); (case hg => rfl); (case hr => first | (go_simp; done) | (go_simp; rfl))
      intro gb491 hg w37 hbox hb
      have n0_ := am (Kd.R_below (by (with_reducible repeat (first | apply Kd.R_alloc | apply Kd.R_drewN | apply Kd.R_drew)); exact HO470.out) hb)
      have n1_ := am (Kd.R_below (by (with_reducible repeat (first | apply Kd.R_alloc | apply Kd.R_drewN | apply Kd.R_drew)); exact HO478.out) hb)
      have n2_ := am (blk_below (g := gb458) (o := b4 a0_0 a0_1 a0_2 a0_3 23) (Z BK458) hb)
      have n3_ := am (blk_below (g := gb459) (o := b4 a1_0 a1_1 a1_2 a1_3 23) (Z BK459) hb)
      have n4_ := am (blk_below (g := gb475) (o := b4 t471 t472 t473 t474 25) (Z BK475) hb)
      have n5_ := am (below_step (Y3 HB GE458 GE459 GE475) hb)
      have n6_ := am (hbox)
      have n7_ := am ((by rw [hg]; exact (below_size (Y3 HB GE458 GE459 GE475)) : w.heap.size ≤ gb491))
      have n8_ := am ((by rw [hg]; exact (below_size (Y3 HB GE458 GE459 GE475)) : w.heap.size ≤ gb491))
      have n9_ := am ((nl (o := b4 a0_0 a0_1 a0_2 a0_3 23) hg (Z BK458) : gb458 ≠ gb491))
      have n10_ := am ((ng (o := b4 a0_0 a0_1 a0_2 a0_3 23) hg (Z BK458) : gb491 ≠ gb458))
      have n11_ := am ((nl (o := b4 a1_0 a1_1 a1_2 a1_3 23) hg (Z BK459) : gb459 ≠ gb491))
      have n12_ := am ((ng (o := b4 a1_0 a1_1 a1_2 a1_3 23) hg (Z BK459) : gb491 ≠ gb459))
      have n13_ := am ((nl (o := b4 t471 t472 t473 t474 25) hg (Z BK475) : gb475 ≠ gb491))
      have n14_ := am ((ng (o := b4 t471 t472 t473 t474 25) hg (Z BK475) : gb491 ≠ gb475))
      clear HO470
      clear HO478
      clear BK458
      clear BK459
      clear BK475
      clear HB
      have HO470 := n0_
      have HO478 := n1_
      have BK458 := n2_
      have BK459 := n3_
      have BK475 := n4_
      have HB := n5_
      have BK491 := n6_
      have GW491 := n7_
      have GE491 := n8_
      have NB458_491 := n9_
      have NB491_458 := n10_
      have NB459_491 := n11_
      have NB491_459 := n12_
      have NB475_491 := n13_
      have NB491_475 := n14_
      clear n0_ n1_ n2_ n3_ n4_ n5_ n6_ n7_ n8_ n9_ n10_ n11_ n12_ n13_ n14_
      clear hb hbox hg
      refine hK.out _ _ ⟨bc BK458 0, bc BK458 1, bc BK458 2, bc BK458 3, bc BK459 0, bc BK459 1, bc BK459 2, bc BK459 3⟩ (fun hHeld => ?_)
      clear hK K
      refine norm_ (a' := ?_) ?_ ?_
      rotate_left
      ·show Act.put _ (some 9) _ = _
       simp only [Act.put, List.setIfInBounds_toArray, List.set_cons_zero, List.set_cons_succ, i64_w, i32_w]
       rfl
      refine one_ (i := 1) (N := some 23) #[T, T, T, F, T, F, T, F] rfl rfl (one_of HT_.out (by kernel_rfl)) (by decide) (fun K hK => ?_)
      refine goes_ Try.func16 (by kernel_rfl) rfl #[.agg #[.int .i64 a0_0, .int .i64 a0_1, .int .i64 a0_2, .int .i64 a0_3]] (by rfl) rfl rfl mz ?_
      with_reducible refine (laws_toVal.calls a0_0 a0_1 a0_2 a0_3 t479 t480 t481 t482 _ A12.out).mono ?_
      rintro e w38 ⟨rfl, hb⟩
      refine ⟨_, rfl, ?_⟩
      have n0_ := am (Kd.R_below (by (with_reducible repeat (first | apply Kd.R_alloc | apply Kd.R_drewN | apply Kd.R_drew)); exact HO470.out) hb)
      have n1_ := am (Kd.R_below (by (with_reducible repeat (first | apply Kd.R_alloc | apply Kd.R_drewN | apply Kd.R_drew)); exact HO478.out) hb)
      have n2_ := am (blk_below (g := gb458) (o := b4 a0_0 a0_1 a0_2 a0_3 23) (Z BK458) hb)
      have n3_ := am (blk_below (g := gb459) (o := b4 a1_0 a1_1 a1_2 a1_3 23) (Z BK459) hb)
      have n4_ := am (blk_below (g := gb475) (o := b4 t471 t472 t473 t474 25) (Z BK475) hb)
      have n5_ := am (blk_below (g := gb491) (o := b4 0 0 0 0 25) (Z BK491) hb)
      have n6_ := am (below_step (Y4 HB GE458 GE459 GE475 GE491) hb)
      clear HO470
      clear HO478
      clear BK458
      clear BK459
      clear BK475
      clear BK491
      clear HB
      have HO470 := n0_
      have HO478 := n1_
      have BK458 := n2_
      have BK459 := n3_
      have BK475 := n4_
      have BK491 := n5_
      have HB := n6_
      clear n0_ n1_ n2_ n3_ n4_ n5_ n6_
      (try clear hb)
      (try clear hb2)
      (try clear hk)
      (try clear hi)
      refine hK.out _ _ ⟨bc BK458 0, bc BK458 1, bc BK458 2, bc BK458 3, bc BK459 0, bc BK459 1, bc BK459 2, bc BK459 3⟩ (fun hHeld => ?_)
      clear hK K
      refine norm_ (a' := ?_) ?_ ?_
      rotate_left
      ·show Act.put _ (some 23) _ = _
       simp only [Act.put, List.setIfInBounds_toArray, List.set_cons_zero, List.set_cons_succ, i64_w, i32_w]
       rfl
      refine one_ (i := 3) (N := some 25) #[T, T, T, T, T, F, T, F] rfl rfl (one_of HT_.out (by kernel_rfl)) (by decide) (fun K hK => ?_)
      refine goes_ Try.func16 (by kernel_rfl) rfl #[.agg #[.int .i64 a1_0, .int .i64 a1_1, .int .i64 a1_2, .int .i64 a1_3]] (by rfl) rfl rfl mz ?_
      with_reducible refine (laws_toVal.calls a1_0 a1_1 a1_2 a1_3 t483 t484 t485 t486 _ A13.out).mono ?_
      rintro e w39 ⟨rfl, hb⟩
      refine ⟨_, rfl, ?_⟩
      have n0_ := am (Kd.R_below (by (with_reducible repeat (first | apply Kd.R_alloc | apply Kd.R_drewN | apply Kd.R_drew)); exact HO470.out) hb)
      have n1_ := am (Kd.R_below (by (with_reducible repeat (first | apply Kd.R_alloc | apply Kd.R_drewN | apply Kd.R_drew)); exact HO478.out) hb)
      have n2_ := am (blk_below (g := gb458) (o := b4 a0_0 a0_1 a0_2 a0_3 23) (Z BK458) hb)
      have n3_ := am (blk_below (g := gb459) (o := b4 a1_0 a1_1 a1_2 a1_3 23) (Z BK459) hb)
      have n4_ := am (blk_below (g := gb475) (o := b4 t471 t472 t473 t474 25) (Z BK475) hb)
      have n5_ := am (blk_below (g := gb491) (o := b4 0 0 0 0 25) (Z BK491) hb)
      have n6_ := am (below_step (Y4 HB GE458 GE459 GE475 GE491) hb)
      clear HO470
      clear HO478
      clear BK458
      clear BK459
      clear BK475
      clear BK491
      clear HB
      have HO470 := n0_
      have HO478 := n1_
      have BK458 := n2_
      have BK459 := n3_
      have BK475 := n4_
      have BK491 := n5_
      have HB := n6_
      clear n0_ n1_ n2_ n3_ n4_ n5_ n6_
      (try clear hb)
      (try clear hb2)
      (try clear hk)
      (try clear hi)
      refine hK.out _ _ ⟨bc BK458 0, bc BK458 1, bc BK458 2, bc BK458 3, bc BK459 0, bc BK459 1, bc BK459 2, bc BK459 3⟩ (fun hHeld => ?_)
      clear hK K
      refine norm_ (a' := ?_) ?_ ?_
      rotate_left
      ·show Act.put _ (some 25) _ = _
       simp only [Act.put, List.setIfInBounds_toArray, List.set_cons_zero, List.set_cons_succ, i64_w, i32_w]
       rfl
      refine one_ (i := 5) (N := some 27) #[T, T, T, T, T, T, T, F] rfl rfl (one_of HT_.out (by kernel_rfl)) (by decide) (fun K hK => ?_)
      refine goes_ Try.func27 (by kernel_rfl) rfl #[.agg #[.int .i64 t479, .int .i64 t480, .int .i64 t481, .int .i64 t482], .agg #[.int .i64 t483, .int .i64 t484, .int .i64 t485, .int .i64 t486], .slice Ao35 t476.length co35] (by rfl) rfl rfl mz ?_
      with_reducible refine (impl_ValWiden.calls k t479 t480 t481 t482 t483 t484 t485 t486 _ _ t476 t487 t488 t489 t490 _ ?side1 ?side2 A14.out).mono ?_
      (case side1 => repeat (first | exact (Kd.R_reads' HO478.out).2.2 | (with_reducible refine Kd.C_alloc ?_ _) | (with_reducible refine Kd.C_drewN ?_ _) | (with_reducible refine Kd.C_drew ?_)))
      (case side2 => exact (Kd.R_reads' HO478.out).2.1)
      rintro e w40 ⟨rfl, hb⟩
      refine ⟨_, rfl, ?_⟩
      have n0_ := am (Kd.R_below (by (with_reducible repeat (first | apply Kd.R_alloc | apply Kd.R_drewN | apply Kd.R_drew)); exact HO470.out) hb)
      have n1_ := am (Kd.R_below (by (with_reducible repeat (first | apply Kd.R_alloc | apply Kd.R_drewN | apply Kd.R_drew)); exact HO478.out) hb)
      have n2_ := am (blk_below (g := gb458) (o := b4 a0_0 a0_1 a0_2 a0_3 23) (Z BK458) hb)
      have n3_ := am (blk_below (g := gb459) (o := b4 a1_0 a1_1 a1_2 a1_3 23) (Z BK459) hb)
      have n4_ := am (blk_below (g := gb475) (o := b4 t471 t472 t473 t474 25) (Z BK475) hb)
      have n5_ := am (blk_below (g := gb491) (o := b4 0 0 0 0 25) (Z BK491) hb)
      have n6_ := am (below_step (Y4 HB GE458 GE459 GE475 GE491) hb)
      clear HO470
      clear HO478
      clear BK458
      clear BK459
      clear BK475
      clear BK491
      clear HB
      have HO470 := n0_
      have HO478 := n1_
      have BK458 := n2_
      have BK459 := n3_
      have BK475 := n4_
      have BK491 := n5_
      have HB := n6_
      clear n0_ n1_ n2_ n3_ n4_ n5_ n6_
      (try clear hb)
      (try clear hb2)
      (try clear hk)
      (try clear hi)
      refine hK.out _ _ ⟨bc BK458 0, bc BK458 1, bc BK458 2, bc BK458 3, bc BK459 0, bc BK459 1, bc BK459 2, bc BK459 3⟩ (fun hHeld => ?_)
      clear hK K
      refine norm_ (a' := ?_) ?_ ?_
      rotate_left
      ·show Act.put _ (some 27) _ = _
       simp only [Act.put, List.setIfInBounds_toArray, List.set_cons_zero, List.set_cons_succ, i64_w, i32_w]
       rfl
      exact norm_ (by simp only [putAll, Act.put, List.setIfInBounds_toArray, List.set_cons_zero, List.set_cons_succ]) (hCont (gb491) _ ⟨hHeld, (by (with_reducible repeat (first | apply Kd.R_alloc | apply Kd.R_drewN | apply Kd.R_drew)); exact Kd.R_mono HO470.out (fun _ hk => hk.2)), (by (with_reducible repeat (first | apply Kd.R_alloc | apply Kd.R_drewN | apply Kd.R_drew)); exact Kd.R_mono HO478.out (fun _ hk => hk.2)), (Z BK458), (Z BK459), (Z BK475), (Z BK491), GW491.out, GE491.out, NB458_491.out, NB491_458.out, NB459_491.out, NB491_459.out, NB475_491.out, NB491_475.out, (Y4 HB GE458 GE459 GE475 GE491)⟩)
    rintro gb491 w41 ⟨hS_, h0_, h1_, h2_, h3_, h4_, h5_, h6_, h7_, h8_, h9_, h10_, h11_, h12_, h13_, h14_⟩
    have n0_ : Aside0 (Kd.R (Kd.int .i64) 3 w41 w.heap.size (fun k_ => some k_ ≠ (.slice Ao35 t476.length co35 : Value).ownBlock) v469 t468) := ⟨h0_⟩
    have n1_ : Aside0 (Kd.R (Kd.int .i64) 3 w41 w.heap.size (fun k_ => some k_ ≠ (v469 : Value).ownBlock) (.slice Ao35 t476.length co35) t476) := ⟨h1_⟩
    have n2_ : Aside0 (w41.heap[gb458]? = some (.cells #[.int .i64 a0_0, .int .i64 a0_1, .int .i64 a0_2, .int .i64 a0_3] 23 (0, 0))) := ⟨h2_⟩
    have n3_ : Aside0 (w41.heap[gb459]? = some (.cells #[.int .i64 a1_0, .int .i64 a1_1, .int .i64 a1_2, .int .i64 a1_3] 23 (0, 0))) := ⟨h3_⟩
    have n4_ : Aside0 (w41.heap[gb475]? = some (.cells #[.int .i64 t471, .int .i64 t472, .int .i64 t473, .int .i64 t474] 25 (0, 0))) := ⟨h4_⟩
    have n5_ : Aside0 (w41.heap[gb491]? = some (.cells #[.int .i64 0, .int .i64 0, .int .i64 0, .int .i64 0] 25 (0, 0))) := ⟨h5_⟩
    have n6_ : Aside0 (w.heap.size ≤ gb491) := ⟨h6_⟩
    have n7_ : Aside0 (w.heap.size ≤ gb491) := ⟨h7_⟩
    have n8_ : Aside0 (gb458 ≠ gb491) := ⟨h8_⟩
    have n9_ : Aside0 (gb491 ≠ gb458) := ⟨h9_⟩
    have n10_ : Aside0 (gb459 ≠ gb491) := ⟨h10_⟩
    have n11_ : Aside0 (gb491 ≠ gb459) := ⟨h11_⟩
    have n12_ : Aside0 (gb475 ≠ gb491) := ⟨h12_⟩
    have n13_ : Aside0 (gb491 ≠ gb475) := ⟨h13_⟩
    have n14_ : Aside0 (Below w.heap.size w w41) := ⟨h14_⟩
    clear HO470
    clear HO478
    clear BK458
    clear BK459
    clear BK475
    clear HB
    clear h0_ h1_ h2_ h3_ h4_ h5_ h6_ h7_ h8_ h9_ h10_ h11_ h12_ h13_ h14_
    have HO470 := n0_
    have HO478 := n1_
    have BK458 := n2_
    have BK459 := n3_
    have BK475 := n4_
    have BK491 := n5_
    have GW491 := n6_
    have GE491 := n7_
    have NB458_491 := n8_
    have NB491_458 := n9_
    have NB459_491 := n10_
    have NB491_459 := n11_
    have NB475_491 := n12_
    have NB491_475 := n13_
    have HB := n14_
    clear n0_ n1_ n2_ n3_ n4_ n5_ n6_ n7_ n8_ n9_ n10_ n11_ n12_ n13_ n14_
    have hHeld : w41.cell? ⟨gb458, 0, none⟩ = some (.int .i64 a0_0) ∧ w41.cell? ⟨gb458, 1, none⟩ = some (.int .i64 a0_1) ∧ w41.cell? ⟨gb458, 2, none⟩ = some (.int .i64 a0_2) ∧ w41.cell? ⟨gb458, 3, none⟩ = some (.int .i64 a0_3) ∧ w41.cell? ⟨gb459, 0, none⟩ = some (.int .i64 a1_0) ∧ w41.cell? ⟨gb459, 1, none⟩ = some (.int .i64 a1_1) ∧ w41.cell? ⟨gb459, 2, none⟩ = some (.int .i64 a1_2) ∧ w41.cell? ⟨gb459, 3, none⟩ = some (.int .i64 a1_3) := hS_
    refine norm_ (a' := ?_) ?_ ?_
    rotate_left
    ·simp only [putAll, Act.put, List.setIfInBounds_toArray, List.set_cons_zero, List.set_cons_succ]
     rfl
    refine one_ (i := 7) (N := none) #[T, T, T, T, T, T, T, T] rfl rfl (one_of HT_.out (by kernel_rfl)) (by decide) (fun K hK => ?_)
    have hs42 : w41.cell? ⟨gb491, 0, none⟩ = some (.int .i64 0) := bc BK491 0
    have hfs42 := blk_frozen BK491.out 0
    have hns42_0 := NB458_491.out
    have hns42_1 := NB459_491.out
    have hns42_2 := NB475_491.out
    have hms42_0 := NB491_458.out
    have hms42_1 := NB491_459.out
    have hms42_2 := NB491_475.out
    have hs43 : w41.cell? ⟨gb491, 1, none⟩ = some (.int .i64 0) := bc BK491 1
    have hfs43 := blk_frozen BK491.out 1
    have hns43_0 := NB458_491.out
    have hns43_1 := NB459_491.out
    have hns43_2 := NB475_491.out
    have hms43_0 := NB491_458.out
    have hms43_1 := NB491_459.out
    have hms43_2 := NB491_475.out
    have hs44 : w41.cell? ⟨gb491, 2, none⟩ = some (.int .i64 0) := bc BK491 2
    have hfs44 := blk_frozen BK491.out 2
    have hns44_0 := NB458_491.out
    have hns44_1 := NB459_491.out
    have hns44_2 := NB475_491.out
    have hms44_0 := NB491_458.out
    have hms44_1 := NB491_459.out
    have hms44_2 := NB491_475.out
    have hs45 : w41.cell? ⟨gb491, 3, none⟩ = some (.int .i64 0) := bc BK491 3
    have hfs45 := blk_frozen BK491.out 3
    have hns45_0 := NB458_491.out
    have hns45_1 := NB459_491.out
    have hns45_2 := NB475_491.out
    have hms45_0 := NB491_458.out
    have hms45_1 := NB491_459.out
    have hms45_2 := NB491_475.out
    refine skip_ (w1 := ?_) (by rfl) rfl ?_ ?_
    rotate_left
    ·go_simp
     rfl
    refine hK.out _ _ ⟨((cell_far (p := ⟨gb491, _, none⟩) NB458_491.out _).trans (((cell_far (p := ⟨gb491, _, none⟩) NB458_491.out _).trans (((cell_far (p := ⟨gb491, _, none⟩) NB458_491.out _).trans (((cell_far (p := ⟨gb491, _, none⟩) NB458_491.out _).trans (hHeld.1)))))))), ((cell_far (p := ⟨gb491, _, none⟩) NB458_491.out _).trans (((cell_far (p := ⟨gb491, _, none⟩) NB458_491.out _).trans (((cell_far (p := ⟨gb491, _, none⟩) NB458_491.out _).trans (((cell_far (p := ⟨gb491, _, none⟩) NB458_491.out _).trans (hHeld.2.1)))))))), ((cell_far (p := ⟨gb491, _, none⟩) NB458_491.out _).trans (((cell_far (p := ⟨gb491, _, none⟩) NB458_491.out _).trans (((cell_far (p := ⟨gb491, _, none⟩) NB458_491.out _).trans (((cell_far (p := ⟨gb491, _, none⟩) NB458_491.out _).trans (hHeld.2.2.1)))))))), ((cell_far (p := ⟨gb491, _, none⟩) NB458_491.out _).trans (((cell_far (p := ⟨gb491, _, none⟩) NB458_491.out _).trans (((cell_far (p := ⟨gb491, _, none⟩) NB458_491.out _).trans (((cell_far (p := ⟨gb491, _, none⟩) NB458_491.out _).trans (hHeld.2.2.2.1)))))))), ((cell_far (p := ⟨gb491, _, none⟩) NB459_491.out _).trans (((cell_far (p := ⟨gb491, _, none⟩) NB459_491.out _).trans (((cell_far (p := ⟨gb491, _, none⟩) NB459_491.out _).trans (((cell_far (p := ⟨gb491, _, none⟩) NB459_491.out _).trans (hHeld.2.2.2.2.1)))))))), ((cell_far (p := ⟨gb491, _, none⟩) NB459_491.out _).trans (((cell_far (p := ⟨gb491, _, none⟩) NB459_491.out _).trans (((cell_far (p := ⟨gb491, _, none⟩) NB459_491.out _).trans (((cell_far (p := ⟨gb491, _, none⟩) NB459_491.out _).trans (hHeld.2.2.2.2.2.1)))))))), ((cell_far (p := ⟨gb491, _, none⟩) NB459_491.out _).trans (((cell_far (p := ⟨gb491, _, none⟩) NB459_491.out _).trans (((cell_far (p := ⟨gb491, _, none⟩) NB459_491.out _).trans (((cell_far (p := ⟨gb491, _, none⟩) NB459_491.out _).trans (hHeld.2.2.2.2.2.2.1)))))))), ((cell_far (p := ⟨gb491, _, none⟩) NB459_491.out _).trans (((cell_far (p := ⟨gb491, _, none⟩) NB459_491.out _).trans (((cell_far (p := ⟨gb491, _, none⟩) NB459_491.out _).trans (((cell_far (p := ⟨gb491, _, none⟩) NB459_491.out _).trans (hHeld.2.2.2.2.2.2.2))))))))⟩ (fun hHeld => ?_)
    clear hK K
    refine done_ (done_of HT_.out (by kernel_rfl)) ?_
    have hnb46 := NB491_458.out
    have hnc46 := NB458_491.out
    have hnb47 := NB491_459.out
    have hnc47 := NB459_491.out
    have hnb48 := NB491_475.out
    have hnc48 := NB475_491.out
    have hcz49_0 : w41.cell? ⟨gb491, 0, none⟩ = some (.int .i64 0) := bc BK491 0
    have hcz49_1 : w41.cell? ⟨gb491, 1, none⟩ = some (.int .i64 0) := bc BK491 1
    have hcz49_2 : w41.cell? ⟨gb491, 2, none⟩ = some (.int .i64 0) := bc BK491 2
    have hcz49_3 : w41.cell? ⟨gb491, 3, none⟩ = some (.int .i64 0) := bc BK491 3
    have hfz49_0 := blk_frozen BK491.out 0
    have hfz49_1 := blk_frozen BK491.out 1
    have hfz49_2 := blk_frozen BK491.out 2
    have hfz49_3 := blk_frozen BK491.out 3
    have hnb50 := NB475_458.out
    have hnc50 := NB458_475.out
    have hnb51 := NB475_459.out
    have hnc51 := NB459_475.out
    have hcz52_0 : w41.cell? ⟨gb475, 0, none⟩ = some (.int .i64 t471) := bc BK475 0
    have hcz52_1 : w41.cell? ⟨gb475, 1, none⟩ = some (.int .i64 t472) := bc BK475 1
    have hcz52_2 : w41.cell? ⟨gb475, 2, none⟩ = some (.int .i64 t473) := bc BK475 2
    have hcz52_3 : w41.cell? ⟨gb475, 3, none⟩ = some (.int .i64 t474) := bc BK475 3
    have hfz52_0 := blk_frozen BK475.out 0
    have hfz52_1 := blk_frozen BK475.out 1
    have hfz52_2 := blk_frozen BK475.out 2
    have hfz52_3 := blk_frozen BK475.out 3
    try go_wp2_with (first | ((with_reducible refine gate_callee (f := 22) rfl ?_); refine goesL_ (some 30) rfl rfl Try.func22 (by kernel_rfl) rfl #[.agg #[.int .i64 t487, .int .i64 t488, .int .i64 t489, .int .i64 t490], .agg #[.int .i64 t471, .int .i64 t472, .int .i64 t473, .int .i64 t474]] rfl mz ?_; (with_reducible refine (laws_eqVal.calls t487 t488 t489 t490 t471 t472 t473 t474 true _ A15.out).mono ?_); rintro e w53 ⟨rfl, hb⟩; refine ⟨_, rfl, ?_⟩; have n0_ := am (Kd.R_below (by (with_reducible repeat (first | apply Kd.R_alloc | apply Kd.R_drewN | apply Kd.R_drew)); exact (Kd.R_mono (Kd.R_far (p := ⟨gb491, 3, none⟩) (Kd.R_far (p := ⟨gb491, 2, none⟩) (Kd.R_far (p := ⟨gb491, 1, none⟩) (Kd.R_far (p := ⟨gb491, 0, none⟩) (Kd.R_types HO470.out BK491.out (by decide)) (fun _ hk => hk.2) (.int .i64 t487)) (fun _ hk => hk.2) (.int .i64 t488)) (fun _ hk => hk.2) (.int .i64 t489)) (fun _ hk => hk.2) (.int .i64 t490)) (fun _ h_ => h_.1))) hb); have n1_ := am (Kd.R_below (by (with_reducible repeat (first | apply Kd.R_alloc | apply Kd.R_drewN | apply Kd.R_drew)); exact (Kd.R_mono (Kd.R_far (p := ⟨gb491, 3, none⟩) (Kd.R_far (p := ⟨gb491, 2, none⟩) (Kd.R_far (p := ⟨gb491, 1, none⟩) (Kd.R_far (p := ⟨gb491, 0, none⟩) (Kd.R_types HO478.out BK491.out (by decide)) (fun _ hk => hk.2) (.int .i64 t487)) (fun _ hk => hk.2) (.int .i64 t488)) (fun _ hk => hk.2) (.int .i64 t489)) (fun _ hk => hk.2) (.int .i64 t490)) (fun _ h_ => h_.1))) hb); have n2_ := am (blk_below (g := gb458) (o := b4 a0_0 a0_1 a0_2 a0_3 23) (by (with_reducible repeat (first | refine blk_drewN ?_ _ | refine blk_drew ?_ | refine blk_alloc ?_ _)); refine blk_far ?_ NB458_491.out _; (with_reducible repeat (first | refine blk_drewN ?_ _ | refine blk_drew ?_ | refine blk_alloc ?_ _)); refine blk_far ?_ NB458_491.out _; (with_reducible repeat (first | refine blk_drewN ?_ _ | refine blk_drew ?_ | refine blk_alloc ?_ _)); refine blk_far ?_ NB458_491.out _; (with_reducible repeat (first | refine blk_drewN ?_ _ | refine blk_drew ?_ | refine blk_alloc ?_ _)); refine blk_far ?_ NB458_491.out _; (with_reducible repeat (first | refine blk_drewN ?_ _ | refine blk_drew ?_ | refine blk_alloc ?_ _)); exact BK458.out) hb); have n3_ := am (blk_below (g := gb459) (o := b4 a1_0 a1_1 a1_2 a1_3 23) (by (with_reducible repeat (first | refine blk_drewN ?_ _ | refine blk_drew ?_ | refine blk_alloc ?_ _)); refine blk_far ?_ NB459_491.out _; (with_reducible repeat (first | refine blk_drewN ?_ _ | refine blk_drew ?_ | refine blk_alloc ?_ _)); refine blk_far ?_ NB459_491.out _; (with_reducible repeat (first | refine blk_drewN ?_ _ | refine blk_drew ?_ | refine blk_alloc ?_ _)); refine blk_far ?_ NB459_491.out _; (with_reducible repeat (first | refine blk_drewN ?_ _ | refine blk_drew ?_ | refine blk_alloc ?_ _)); refine blk_far ?_ NB459_491.out _; (with_reducible repeat (first | refine blk_drewN ?_ _ | refine blk_drew ?_ | refine blk_alloc ?_ _)); exact BK459.out) hb); have n4_ := am (blk_below (g := gb475) (o := b4 t471 t472 t473 t474 25) (by (with_reducible repeat (first | refine blk_drewN ?_ _ | refine blk_drew ?_ | refine blk_alloc ?_ _)); refine blk_far ?_ NB475_491.out _; (with_reducible repeat (first | refine blk_drewN ?_ _ | refine blk_drew ?_ | refine blk_alloc ?_ _)); refine blk_far ?_ NB475_491.out _; (with_reducible repeat (first | refine blk_drewN ?_ _ | refine blk_drew ?_ | refine blk_alloc ?_ _)); refine blk_far ?_ NB475_491.out _; (with_reducible repeat (first | refine blk_drewN ?_ _ | refine blk_drew ?_ | refine blk_alloc ?_ _)); refine blk_far ?_ NB475_491.out _; (with_reducible repeat (first | refine blk_drewN ?_ _ | refine blk_drew ?_ | refine blk_alloc ?_ _)); exact BK475.out) hb); have n5_ := am (blk_below (g := gb491) (o := b4 t487 t488 t489 t490 25) (by (with_reducible repeat (first | refine blk_drewN ?_ _ | refine blk_drew ?_ | refine blk_alloc ?_ _)); refine blk_put (cs := #[.int .i64 t487, .int .i64 t488, .int .i64 t489, .int .i64 0]) ?_ 3 _ rfl; (with_reducible repeat (first | refine blk_drewN ?_ _ | refine blk_drew ?_ | refine blk_alloc ?_ _)); refine blk_put (cs := #[.int .i64 t487, .int .i64 t488, .int .i64 0, .int .i64 0]) ?_ 2 _ rfl; (with_reducible repeat (first | refine blk_drewN ?_ _ | refine blk_drew ?_ | refine blk_alloc ?_ _)); refine blk_put (cs := #[.int .i64 t487, .int .i64 0, .int .i64 0, .int .i64 0]) ?_ 1 _ rfl; (with_reducible repeat (first | refine blk_drewN ?_ _ | refine blk_drew ?_ | refine blk_alloc ?_ _)); refine blk_put (cs := #[.int .i64 0, .int .i64 0, .int .i64 0, .int .i64 0]) ?_ 0 _ rfl; (with_reducible repeat (first | refine blk_drewN ?_ _ | refine blk_drew ?_ | refine blk_alloc ?_ _)); exact BK491.out) hb); have n6_ := am (below_step (Y4 HB GE458 GE459 GE475 GE491) hb); clear HO470; clear HO478; clear BK458; clear BK459; clear BK475; clear BK491; clear HB; have HO470 := n0_; have HO478 := n1_; have BK458 := n2_; have BK459 := n3_; have BK475 := n4_; have BK491 := n5_; have HB := n6_; clear n0_ n1_ n2_ n3_ n4_ n5_ n6_; (try clear hb); (try clear hb2); (try clear hk); (try clear hi)) | ((with_reducible refine gate_callee (f := 26) rfl ?_); refine goesL_ (some 34) rfl rfl Try.func26 (by kernel_rfl) rfl #[.slice A2 l2.length c2] rfl mz ?_; (with_reducible refine (laws_toIntS.calls k _ _ l2 t493 _ ?side1 ?side2 A17.out).mono ?_); (case side1 => repeat (first | exact (Kd.C_below HR2.out HB.out) | (with_reducible refine Kd.C_alloc ?_ _) | (with_reducible refine Kd.C_drewN ?_ _) | (with_reducible refine Kd.C_drew ?_))); (case side2 => exact HC2.out); rintro e w54 ⟨v494, rfl, ho0, hb⟩; refine ⟨_, rfl, ?_⟩; have n0_ := am (Kd.R_elder' (by (with_reducible repeat (first | apply Kd.R_alloc | apply Kd.R_drewN | apply Kd.R_drew)); exact HO470.out) (Kd.R_base ho0) hb); have n1_ := am (Kd.R_elder' (by (with_reducible repeat (first | apply Kd.R_alloc | apply Kd.R_drewN | apply Kd.R_drew)); exact HO478.out) (Kd.R_base ho0) hb); have n2_ := am (Kd.R_lower (Kd.R_new' (Kd.R_new' ho0 (Kd.R_lt (by (with_reducible repeat (first | apply Kd.R_alloc | apply Kd.R_drewN | apply Kd.R_drew)); exact HO470.out))) (Kd.R_lt (by (with_reducible repeat (first | apply Kd.R_alloc | apply Kd.R_drewN | apply Kd.R_drew)); exact HO478.out))) (below_size (Y4 HB GE458 GE459 GE475 GE491))); have n3_ := am (blk_below (g := gb458) (o := b4 a0_0 a0_1 a0_2 a0_3 23) (Z BK458) hb); have n4_ := am (blk_below (g := gb459) (o := b4 a1_0 a1_1 a1_2 a1_3 23) (Z BK459) hb); have n5_ := am (blk_below (g := gb475) (o := b4 t471 t472 t473 t474 25) (Z BK475) hb); have n6_ := am (blk_below (g := gb491) (o := b4 t487 t488 t489 t490 25) (Z BK491) hb); have n7_ := am (below_step (Y4 HB GE458 GE459 GE475 GE491) hb); clear HO470; clear HO478; clear BK458; clear BK459; clear BK475; clear BK491; clear HB; have HO470 := n0_; have HO478 := n1_; have HO495 := n2_; have BK458 := n3_; have BK459 := n4_; have BK475 := n5_; have BK491 := n6_; have HB := n7_; clear n0_ n1_ n2_ n3_ n4_ n5_ n6_ n7_; (try clear hb); (try clear hb2); (try clear hk); (try clear hi); (try clear ho0); obtain ⟨Ao55, co55, eo55⟩ := Kd.R_slice HO495.out; subst eo55) | ((with_reducible refine gate_callee (f := 28) rfl ?_); refine goesL_ (some 35) rfl rfl Try.func28 (by kernel_rfl) rfl #[.slice Ao35 t476.length co35, .slice Ao55 t493.length co55] rfl mz ?_; (with_reducible refine (laws_eqIntS.calls k _ _ t476 _ _ t493 true _ ?side1 ?side2 ?side3 ?side4 A18.out).mono ?_); (case side1 => repeat (first | exact (Kd.R_reads' HO478.out).2.2 | (with_reducible refine Kd.C_alloc ?_ _) | (with_reducible refine Kd.C_drewN ?_ _) | (with_reducible refine Kd.C_drew ?_))); (case side2 => exact (Kd.R_reads' HO478.out).2.1); (case side3 => repeat (first | exact (Kd.R_reads' HO495.out).2.2 | (with_reducible refine Kd.C_alloc ?_ _) | (with_reducible refine Kd.C_drewN ?_ _) | (with_reducible refine Kd.C_drew ?_))); (case side4 => exact (Kd.R_reads' HO495.out).2.1); rintro e w' ⟨rfl, ⟨nd, rfl⟩⟩; refine ⟨_, rfl, ?_⟩))
    go_ret
    exact ⟨by first | rfl | (simp [errW_none, errW_some] <;> rfl) | (simp [*, errW_none, errW_some] <;> rfl), Y4 HB GE458 GE459 GE475 GE491⟩
   ·replace c19 := Bool.eq_false_iff.mpr c19
    subst c19
    have H1 : (none) = some r := by rw [if_neg (show ¬ (false = true) by decide)] at H; exact H
    clear H
    have H := H1
    clear H1
    exact absurd H (by simp)
  ·replace c16 := Bool.eq_false_iff.mpr c16
   subst c16
   have H1 : (none) = some r := by rw [if_neg (show ¬ (false = true) by decide)] at H; exact H
   clear H
   have H := H1
   clear H1
   exact absurd H (by simp)

end Go.Proofs.Ytnmccgjdnceheaa.PFnExactValWiden
